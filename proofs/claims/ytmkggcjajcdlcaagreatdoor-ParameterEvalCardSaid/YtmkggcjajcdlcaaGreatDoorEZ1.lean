/- Parts of a proof: contracts of the functions that the laws reach. -/
import Derived.Test.YtmkggcjajcdlcaaGreatDoorEAmI
set_option maxHeartbeats 100000000
set_option linter.all false
open Go.Proofs.Tryz
namespace Go.Proofs.YtmkggcjajcdlcaaGreatDoor
open Go.RowKit
def oG (xs:List Nat):Prop:=xs.length<=2147483648
def eG (z:Int):Prop:=(digs z.natAbs).length<=2147483648
theorem eG.of_lt {z:Int} {k:Nat} (h:z.natAbs<4294967296^k) (hk:k<=2147483648):eG z:=Nat.le_trans (aY h) hk
theorem eG.small {z:Int} (h:z.natAbs<4294967296):eG z:= .of_lt (k:=1) (by simpa using h) (by decide)
theorem J2 {na nb:Bool} {xs ys:List Nat} (hw:Wd xs) (hw':Wd ys) (h1:oG xs) (h2:oG ys) {z:Int} (hz:ar na xs+ar nb ys=z):aa Tryz.prog 141 [dI na xs,dI nb ys] (.one (dZ z)):=
 NN (aG func141 rfl rfl) hw hw' (fun v u w h k=>by have:=RJ v u na nb xs ys w h k h1 h2;rwa[hz]at this) (fun _ _ _ _ hS h=>ep hS h)
theorem vO {a b:Int} (h1:eG a) (h2:eG b):aa Tryz.prog 141 [dZ a,dZ b] (.one (dZ (a+b))):=J2 (ay _) (ay _) h1 h2 (by rw[aX,aX])
theorem HH {na nb:Bool} {xs ys:List Nat} (hw:Wd xs) (hw':Wd ys) (h1:oG xs) (h2:oG ys) {z:Int} (hz:ar na xs*ar nb ys=z):aa Tryz.prog 143 [dI na xs,dI nb ys] (.one (dZ z)):=
 NN (aG func143 rfl rfl) hw hw' (fun v u w h k=>by have:=S7 v u na nb xs ys w h k h1 h2;rwa[hz]at this) (fun _ _ _ _ hS h=>ep hS h)
theorem fB {a b:Int} (h1:eG a) (h2:eG b):aa Tryz.prog 143 [dZ a,dZ b] (.one (dZ (a*b))):=HH (ay _) (ay _) h1 h2 (by rw[aX,aX])
theorem Fl {na nb:Bool} {xs ys:List Nat} (hw:Wd xs) (hw':Wd ys) (h1:oG xs) (h2:oG ys) {z:Int} (hz:ar na xs+ar nb ys=z):aa Tryz.prog 197 [dI na xs,dI nb ys] (.one (dZ z)):=
 NN (aG func197 rfl rfl) hw hw' (fun v u w h k=>by have:=Cf v u na nb xs ys w h k h1 h2;rwa[hz]at this) (fun _ _ _ _ hS h=>ep hS h)
theorem jH {a b:Int} (h1:eG a) (h2:eG b):aa Tryz.prog 197 [dZ a,dZ b] (.one (dZ (a+b))):=Fl (ay _) (ay _) h1 h2 (by rw[aX,aX])
theorem FA {na nb:Bool} {xs ys:List Nat} (hw:Wd xs) (hw':Wd ys) (h1:oG xs) (h2:oG ys) {z:Int} (hz:ar na xs*ar nb ys=z):aa Tryz.prog 98 [dI na xs,dI nb ys] (.one (dZ z)):=
 NN (aG func98 rfl rfl) hw hw' (fun v u w h k=>by have:=Jz v u na nb xs ys w h k h1 h2;rwa[hz]at this) (fun _ _ _ _ hS h=>ep hS h)
theorem dG {a b:Int} (h1:eG a) (h2:eG b):aa Tryz.prog 98 [dZ a,dZ b] (.one (dZ (a*b))):=FA (ay _) (ay _) h1 h2 (by rw[aX,aX])
theorem vo {na:Bool} {xs:List Nat} (hw:Wd xs) (h1:oG xs) {z:Int} (hz:(ar na xs)=z):aa Tryz.prog 151 [dI na xs] (.one (dZ z)):=
 NA (aG func151 rfl rfl) hw (fun v w h=>by have:=PC v na xs w h h1;rwa[hz]at this) (fun _ _ _ _ hS h=>ep hS h)
theorem IN {na:Bool} {xs:List Nat} (hw:Wd xs) (h1:oG xs) {z:Int} (hz: -(ar na xs)=z):aa Tryz.prog 206 [dI na xs] (.one (dZ z)):=
 NA (aG func206 rfl rfl) hw (fun v w h=>by have:=S2 v na xs w h h1;rwa[hz]at this) (fun _ _ _ _ hS h=>ep hS h)
theorem vG {a:Int} (h1:eG a):aa Tryz.prog 206 [dZ a] (.one (dZ (- a))):=IN (ay _) h1 (by rw[aX])
theorem BB {na:Bool} {xs:List Nat} (hw:Wd xs) {z:Int} (hz:(ar na xs)=z):aa Tryz.prog 158 [dI na xs] (.one (dZ z)):=
 NA (aG func158 rfl rfl) hw (fun v w h=>by have:=iM v na xs w h;rwa[hz]at this) (fun _ _ _ _ hS h=>ep hS h)
theorem FN {na:Bool} {xs:List Nat} (hw:Wd xs) {z:Int} (hz: -(ar na xs)=z):aa Tryz.prog 102 [dI na xs] (.one (dZ z)):=
 NA (aG func102 rfl rfl) hw (fun v w h=>by have:=Jt v na xs w h;rwa[hz]at this) (fun _ _ _ _ hS h=>ep hS h)
theorem iB (a:Int):aa Tryz.prog 102 [dZ a] (.one (dZ (- a))):=FN (ay _) (by rw[aX])
theorem C2 {S:Nat->Prop} {w w':World} {e:Ending} {z:Int} (hr:tu z w e w'):xk S (.one (dN .i64 z)) w e w':=by
 obtain⟨rfl,hb⟩:=hr;exact⟨_,rfl,AV.M.val rfl,hb⟩
theorem pr {na:Bool} {xs:List Nat} (hw:Wd xs) {z:Int} (hz:(ar na xs).sign=z):aa Tryz.prog 222 [dI na xs] (.one (dN .i64 z)):=
 NA (aG func222 rfl rfl) hw (fun v w h=>by have:=BI v na xs w h;first|rwa[hz]at this|rwa[zC,hz]at this) (fun _ _ _ _ _ h=>C2 h)
theorem C4 (a:Int):aa Tryz.prog 222 [dZ a] (.one (dN .i64 a.sign)):=pr (ay _) (by rw[aX])
theorem mB {na:Bool} {xs:List Nat} (hw:Wd xs) {z:Int} (hz:(ar na xs).sign=z):aa Tryz.prog 103 [dI na xs] (.one (dN .i64 z)):=
 NA (aG func103 rfl rfl) hw (fun v w h=>by have:=DE v na xs w h;first|rwa[hz]at this|rwa[zC,hz]at this) (fun _ _ _ _ _ h=>C2 h)
theorem kp (a:Int):aa Tryz.prog 103 [dZ a] (.one (dN .i64 a.sign)):=mB (ay _) (by rw[aX])
theorem mK {na:Bool} {xs:List Nat} (hw:Wd xs) {b:Bool} (hb:dC na xs=b):aa Tryz.prog 276 [dI na xs] (.one (dB b)):=
 NA (aG func276 rfl rfl) hw (fun v w h=>by have:=Md v na xs w h;rwa[hb]at this) (fun _ _ _ _ _ h=>Cp h)
theorem lB {na:Bool} {xs:List Nat} (hw:Wd xs) {b:Bool} (hb:dC na xs=b):aa Tryz.prog 221 [dI na xs] (.one (dB b)):=
 NA (aG func221 rfl rfl) hw (fun v w h=>by have:=KC v na xs w h;rwa[hb]at this) (fun _ _ _ _ _ h=>Cp h)
theorem H3 {na nb:Bool} {xs ys:List Nat} (hw:Wd xs) (hw':Wd ys) {z:Int} (hz:bU (ar na xs) (ar nb ys)=z):aa Tryz.prog 157 [dI na xs,dI nb ys] (.one (dN .i64 z)):=
 NN (aG func157 rfl rfl) hw hw' (fun v u w h k=>by have:=Tl v u na nb xs ys w h k;rwa[hz]at this) (fun _ _ _ _ _ h=>C2 h)
theorem FR (a b:Int):aa Tryz.prog 157 [dZ a,dZ b] (.one (dN .i64 (bU a b))):=H3 (ay _) (ay _) (by rw[aX,aX])
theorem fI (k:Int) (h1: -9223372036854775808<=k) (h2:k<9223372036854775808):aa Tryz.prog 146 [dN .i64 k] (.one (dZ k)):=
 ⟨aG func146 rfl rfl,fun S w vs hS hv=>by
  match vs,hv with
  | [v],⟨h,_⟩=>
   obtain rfl:=ec h;exact(FM k h1 h2 w).mono fun e w' he=>ep hS he⟩
theorem dM (k:Int) (h1: -9223372036854775808<=k) (h2:k<9223372036854775808):aa Tryz.prog 105 [dN .i64 k] (.one (dZ k)):=
 ⟨aG func105 rfl rfl,fun S w vs hS hv=>by
  match vs,hv with
  | [v],⟨h,_⟩=>
   obtain rfl:=ec h;exact(rM k h1 h2 w).mono fun e w' he=>ep hS he⟩
theorem My {na nb:Bool} {xs ys:List Nat} {b:Bool} (hw:Wd xs) (hw':Wd ys) (hb:sameB na nb xs ys=b):aa Tryz.prog 277 [dI na xs,dI nb ys] (.one (dB b)):=
 NN (aG func277 rfl rfl) hw hw' (fun v u w h k=>by have:=Ml v u na nb xs ys w h k;rwa[hb]at this) (fun _ _ _ _ _ h=>Cp h)
theorem Ji (a b:Int):aa Tryz.prog 277 [dZ a,dZ b] (.one (dB (decide (a=b)))):=My (ay _) (ay _) (vp a b)
theorem KO {na:Bool} {xs:List Nat}:ar na xs=0↔val xs=0:=by unfold ar;cases na<;>simp
theorem zZ {na nb:Bool} {xs ys:List Nat} (hw:Wd xs) (hw':Wd ys) (h1:oG xs) (h2:oG ys) (h0:ar nb ys≠0) {q r:Int} (hq:(ar na xs).fdiv (ar nb ys)=q) (hr:(ar na xs).fmod (ar nb ys)=r):aa Tryz.prog 153 [dI na xs,dI nb ys] (.tup [dZ q,dZ r,dN .i64 0]):=
 NN (aG func153 rfl rfl) hw hw' (fun v u w h k=>by
  have hy:val ys≠0:=fun e=>h0 (KO.2 e)
  have:=IC v u na nb xs ys w h k h1 h2 (Oh (by have:=bL hw;unfold trim at this;unfold oG at h1;omega) (by omega)) hy
  rwa[hq,hr]at this) (fun _ _ _ _ hS h=>ER hS h)
theorem xC {na nb:Bool} {xs ys:List Nat} (hw:Wd xs) (hw':Wd ys) (h1:oG xs) (h2:oG ys) (h0:ar nb ys≠0) {q r:Int} (hq:(ar na xs).fdiv (ar nb ys)=q) (hr:(ar na xs).fmod (ar nb ys)=r):aa Tryz.prog 165 [dI na xs,dI nb ys] (.tup [dZ q,dZ r,dN .i64 0]):=
 NN (aG func165 rfl rfl) hw hw' (fun v u w h k=>by
  have:=GA v u na nb xs ys w h k h1 h2 h0
  rwa[hq,hr]at this) (fun _ _ _ _ hS h=>ER hS h)
section
open Go.ChangeShapes Go.WideShapes Go.ChangeAt Go.RowKit Go.Joins
theorem UC (w:World) (hT:dt (fun _=>False) w):dt (fun _=>False) w:=hT
theorem gU {f:FuncId} {ds:List DV} (h:aa Tryz.prog f ds (.one (dB true))) {w:World} (hT:dt (fun _=>False) w) {vs:List Value} (hv:VM (fun _=>False) w ds vs):Calls Tryz.prog f vs.toArray w (q8 true w):=
 (h.calls _ w vs (UC w hT) hv).mono fun e w' ⟨v,he,hm,hb⟩=>by
  obtain rfl:=ec (show AV.M _ _ _ _ from hm);exact⟨he,hb⟩
end
def dW (xs:List Nat):DV:= .leaf (aW xs)
theorem E3 {S:Nat->Prop} {w w':World} {e:Ending} {q r:Nat} (h:dt S w) (hr:ii q r w e w'):xk S (.tup [dW (digs q),dW (digs r)]) w e w':=by
 obtain⟨A,n,c,B,m,d,rfl,hq,hr,hb⟩:=hr;refine⟨_,rfl,⟨[.slice A n c, .slice B m d],rfl,rfl,fun i x u h1 h2=>?_⟩,hb⟩
 match i with
 |0=>simp at h1 h2;subst h1 h2;exact qa (h.grow hb) hq
 |1=>simp at h1 h2;subst h1 h2;exact qa (h.grow hb) hr
 |i+2=>simp at h1
theorem vz {xs:List Nat} (hw:Wd xs):aa Tryz.prog 199 [dW xs] (.one (dW (trim xs))):=
 ⟨aG func199 rfl rfl,fun S w vs hS hv=>by
  match vs,hv with
  | [v],⟨h,_⟩=>
   obtain⟨A,n,c,rfl,hx⟩:=gF h hw;refine(bV A n c xs w hx).mono ?_;rintro e w' ⟨rfl,rfl⟩;exact⟨_,rfl,qa hS hx.trim,Below.refl _ _⟩⟩
theorem ur {xs:List Nat} (hw:Wd xs):aa Tryz.prog 162 [dW xs] (.one (dW (trim xs))):=
 ⟨aG func162 rfl rfl,fun S w vs hS hv=>by
  match vs,hv with
  | [v],⟨h,_⟩=>
   obtain⟨A,n,c,rfl,hx⟩:=gF h hw;refine(dA A n c xs w hx).mono ?_;rintro e w' ⟨rfl,rfl⟩;exact⟨_,rfl,qa hS hx.trim,Below.refl _ _⟩⟩
theorem zS {a b:Nat} (h:(digs a).length<=2147483648) (hb:0<b):aa Tryz.prog 215 [dW (digs a),dW (digs b)] (.tup [dW (digs (a/b)),dW (digs (a%b))]):=
 ⟨aG func215 rfl rfl,fun S w vs hS hv=>by
  match vs,hv with
  | [v,u],⟨h1,h2,_⟩=>
   obtain⟨A,n,c,rfl,hx⟩:=gF h1 (ay _);obtain⟨B,m,d,rfl,hy⟩:=gF h2 (ay _);exact(Oh h hb A n c B m d w hx hy).mono fun e w' he=>E3 hS he⟩
theorem xI {a b:Nat} (h:(digs a).length<=2147483648) (hb:0<b):aa Tryz.prog 164 [dW (digs a),dW (digs b)] (.tup [dW (digs (a/b)),dW (digs (a%b))]):=
 ⟨aG func164 rfl rfl,fun S w vs hS hv=>by
  match vs,hv with
  | [v,u],⟨h1,h2,_⟩=>
   obtain⟨A,n,c,rfl,hx⟩:=gF h1 (ay _);obtain⟨B,m,d,rfl,hy⟩:=gF h2 (ay _);exact(KJ h hb A n c B m d w hx hy).mono fun e w' he=>E3 hS he⟩
theorem Ap {neg:Bool} {xs:List Nat} (hw:Wd xs) {z:Int} (hz:ar neg xs=z):aa Tryz.prog 200 [dB neg,dW xs] (.one (dZ z)):=
 ⟨aG func200 rfl rfl,fun S w vs hS hv=>by
  match vs,hv with
  | [v,u],⟨h1,h2,_⟩=>
   obtain rfl:=ec h1;obtain⟨A,n,c,rfl,hx⟩:=gF h2 hw;exact(bT hx hz).mono fun e w' he=>ep hS he⟩
theorem xo {neg:Bool} {xs:List Nat} (hw:Wd xs) {z:Int} (hz:ar neg xs=z):aa Tryz.prog 163 [dB neg,dW xs] (.one (dZ z)):=
 ⟨aG func163 rfl rfl,fun S w vs hS hv=>by
  match vs,hv with
  | [v,u],⟨h1,h2,_⟩=>
   obtain rfl:=ec h1;obtain⟨A,n,c,rfl,hx⟩:=gF h2 hw;exact(dz hx hz).mono fun e w' he=>ep hS he⟩
theorem rY {xs:List Nat} (hw:Wd xs) (hl:xs.length<=4294967296):aa Tryz.prog 120 [dW xs] (.one (dW xs)):=
 ⟨aG func120 rfl rfl,fun S w vs hS hv=>by
  match vs,hv with
  | [v],⟨h,_⟩=>
   obtain⟨A,n,c,rfl,hx⟩:=gF h hw;refine(jp A n c xs w hx (by rw[<- hx.len];exact hl)).mono ?_;rintro e w' ⟨A',n',c',zs,rfl,hz,rfl,hb⟩;exact⟨_,rfl,qa (hS.grow hb) hz,hb⟩⟩
theorem vW {xs:List Nat} (hw:Wd xs) (hl:xs.length<=2):aa Tryz.prog 152 [dW xs] (.one (dN .u64 (val xs))):=
 ⟨aG func152 rfl rfl,fun S w vs hS hv=>by
  match vs,hv with
  | [v],⟨h,_⟩=>
   obtain⟨A,n,c,rfl,hx⟩:=gF h hw;refine(rU A n c xs w hx (by rw[<- hx.len];exact hl)).mono ?_;rintro e w' ⟨rfl,hb⟩;exact⟨_,rfl,AV.M.val rfl,hb⟩⟩
theorem yR (n:Nat) (hn:n<18446744073709551616):aa Tryz.prog 208 [dN .u64 n] (.one (dW (digs n))):=
 ⟨aG func208 rfl rfl,fun S w vs hS hv=>by
  match vs,hv with
  | [v],⟨h,_⟩=>
   obtain rfl:=ec h;refine(fV n hn w).mono ?_;rintro e w' ⟨A',n',c',zs,rfl,hz,rfl,hb⟩;exact⟨_,rfl,qa (hS.grow hb) hz,hb⟩⟩
theorem dj {n:Nat}:(digs n).length=0↔n=0:=by
 constructor
 ·intro h;exact fy.1 (List.eq_nil_of_length_eq_zero h)
 ·rintro rfl;rw[aK];rfl
theorem uk {a b:Nat}:Nat.gcd b (a%b)=Nat.gcd a b:=by rw[Nat.gcd_comm a b,Nat.gcd_rec b a,Nat.gcd_comm]
theorem vD {na nb:Bool} {xs ys:List Nat} (hw:Wd xs) (hw':Wd ys) (h1:oG xs) (h2:oG ys):aa Tryz.prog 100 [dI na xs,dI nb ys] (.one (dZ (Nat.gcd (val xs) (val ys)))):=by
 have f1:(digs (val xs)).length<=2147483648:=by have:=bL hw;unfold trim at this;unfold oG at h1;omega
 have f2:(digs (val ys)).length<=2147483648:=by have:=bL hw';unfold trim at this;unfold oG at h2;omega
 refine kV func100 ?_;refine kQ (ur hw) ?_;refine kQ (ur hw') ?_;refine aq (Nat × Nat) (fun p=>Nat.gcd p.1 p.2=Nat.gcd (val xs) (val ys)/\(digs p.1).length<=2147483648/\(digs p.2).length<=2147483648) (fun p=>⟨[(4, .box 2 0),(5, .d (dW (digs p.1))),(6, .d (dW (digs p.2)))],[(2,some [.val (.bool false), .sl 0 []])]⟩) (fun p=>p.2) (val xs,val ys) ⟨rfl,f1,f2⟩ kw ?_;rintro⟨u,v⟩ ⟨hg,g1,g2⟩;dsimp only at hg g1 g2 ⊢;refine kW ?_;refine pH rfl (fun h=>?_) (fun h=>?_)
 ·have hv:0<v:=by
   rcases Nat.eq_zero_or_pos v with hv|hv
   ·have:=of_decide_eq_true h;rw[dj.2 hv]at this;omega
   ·exact hv
  refine el ?_;refine kW ?_;refine kQ (xI g1 hv) ?_;have hm:=Nat.mod_lt u hv;refine⟨(v,u%v),⟨uk.trans hg,g2,Nat.le_trans (ez (Nat.le_of_lt hm)) g2⟩,hm,weak ⟨rfl,rfl,rfl,trivial⟩ ⟨rfl,trivial⟩ rfl⟩
 ·have hv:v=0:=by
   have:=of_decide_eq_false h;exact dj.1 (by omega)
  subst hv;rw[Nat.gcd_zero_right]at hg;refine sa ?_;refine kW ?_;refine aj (xo (neg:=false) (xs:=digs u) (ay _) (show ar false (digs u)=((Nat.gcd (val xs) (val ys):Nat):Int) by rw[lg,<- hg];rfl)) rfl rfl rfl rfl rfl rfl rfl ?_;exact ax
theorem yQ {na nb:Bool} {xs ys:List Nat} (hw:Wd xs) (hw':Wd ys) (h1:oG xs) (h2:oG ys):aa Tryz.prog 205 [dI na xs,dI nb ys] (.one (dZ (Nat.gcd (val xs) (val ys)))):=by
 have f1:(digs (val xs)).length<=2147483648:=by have:=bL hw;unfold trim at this;unfold oG at h1;omega
 have f2:(digs (val ys)).length<=2147483648:=by have:=bL hw';unfold trim at this;unfold oG at h2;omega
 refine kV func205 ?_;refine kQ (vz hw) ?_;refine kQ (vz hw') ?_;refine aq (Nat × Nat) (fun p=>Nat.gcd p.1 p.2=Nat.gcd (val xs) (val ys)/\(digs p.1).length<=2147483648/\(digs p.2).length<=2147483648) (fun p=>⟨[(4, .box 2 0),(5, .d (dW (digs p.1))),(6, .d (dW (digs p.2)))],[(2,some [.val (.bool false), .sl 0 []])]⟩) (fun p=>p.2) (val xs,val ys) ⟨rfl,f1,f2⟩ kw ?_;rintro⟨u,v⟩ ⟨hg,g1,g2⟩;dsimp only at hg g1 g2 ⊢
 by_cases hb:2<(digs v).length∨(2<(digs u).length/\0<(digs v).length)
 ·have hv:0<v:=by
   rcases Nat.eq_zero_or_pos v with hv|hv
   ·rw[hv,aK]at hb;simp at hb
   ·exact hv
  have hm:=Nat.mod_lt u hv
  by_cases h2:2<(digs v).length
  ·refine BH ?_
   exact NF
  ·have h3:2<(digs u).length/\0<(digs v).length:=by omega
   refine BH ?_;refine kE ?_
   refine kO3 ?_
   refine kT ?_
   refine kO3 ?_
   exact NF
 ·have hz:v=0∨(0<v/\(digs v).length<=2/\(digs u).length<=2):=by
   rcases Nat.eq_zero_or_pos v with hv|hv
   ·exact .inl hv
   ·have:0<(digs v).length:=by
     exact O2
    exact .inr ⟨hv,by omega,by omega⟩
  rcases hz with hv| ⟨hv,hv2,hu2⟩
  ·subst hv
   rw[Nat.gcd_zero_right]at hg;have hl0:(digs 0).length=0:=dj.2 rfl
   by_cases hu2:2<(digs u).length
   ·refine BH ?_
    refine kE ?_
    refine kO3 ?_
    refine kT ?_;refine OH ?_;refine PQ ?_;exact ax
   ·refine BH ?_
    refine kE ?_;refine OH ?_;refine PQ ?_;exact ax
  ·have hvl:0<(digs v).length:=by
    exact O2
   have hu64:u<18446744073709551616:=by have:=cX hu2;simpa using this
   have hv64:v<18446744073709551616:=by have:=cX hv2;simpa using this
   refine BH ?_;refine kE ?_
   refine kO3 ?_
   refine kY ?_;refine eD (T:=TT) rfl ?_ ?_
   ·exact beq_eq_false_iff_ne.2 (by omega)
   refine kW ?_;refine kQ (vW (ay u) hu2) ?_;refine kQ (vW (ay v) hv2) ?_;rw[af,af];refine aq (Nat × Nat) (fun p=>Nat.gcd p.1 p.2=Nat.gcd (val xs) (val ys)/\p.1<18446744073709551616/\p.2<18446744073709551616) (fun p=>⟨[(4, .box 2 0),(9, .d (dN .u64 p.1)),(10, .d (dN .u64 p.2))],[(2,some [.val (.bool false), .sl 0 []])]⟩) (fun p=>p.2) (u,v) ⟨hg,hu64,hv64⟩ kw ?_;clear hg hu64 hv64 g1 g2 hu2 hv2 hvl hv hb;clear u v;rintro⟨u,v⟩ ⟨hg,hu,hv⟩;dsimp only at hg hu hv ⊢;rcases Nat.eq_zero_or_pos v with h0|h0
   ·subst h0
    rw[Nat.gcd_zero_right]at hg;refine kW ?_;refine kC (yR u hu) ?_;refine PQ ?_;exact ax
   ·refine bM ?_
    refine bM ?_;refine bG rfl ?_;refine kO ?_;refine kB true ?_ ?_
    ·exact bne_iff_ne.2 (by omega)
    refine kW ?_;refine aC rfl rfl rfl rfl ?_ rfl rfl (Jl (by omega)) ?_
    ·rfl
    refine kW ?_;have hm:=Nat.mod_lt u h0;refine⟨(v,u%v),⟨uk.trans hg,hv,by dsimp only;omega⟩,hm,weak ⟨rfl,rfl,?_,trivial⟩ ⟨rfl,trivial⟩ rfl⟩;show TV.d (.leaf (.val (.int .u64 ((u:Int).tmod v))))=TV.d (dN .u64 ((u%v:Nat):Int));rw[Int.ofNat_tmod];rfl
def Bs (l:List UInt8):ByteArray:=⟨l.toArray⟩
def dL (l:List UInt8):DV:=dS (Bs l)
def vL (l:List UInt8):Value:= .string (Bs l)
theorem Jy (s:ByteArray):Bs s.data.toList=s:=rfl
theorem aS (l:List UInt8):(Bs l).size=l.length:=by simp[Bs,ByteArray.size]
theorem fZ (l:List UInt8):(Bs l).toList=l:=ByteArray.toList_mk l
theorem Fq (a b:List UInt8):Bs a++Bs b=Bs (a++b):=by
 apply ByteArray.ext
 simp[Bs]
theorem mY (l:List UInt8) (i j:Nat):(Bs l).extract i j=Bs ((l.take j).drop i):=by
 apply ByteArray.ext
 simp[Bs,ByteArray.data_extract,List.extract_eq_take_drop,List.drop_take]
theorem uq {t:TypeId} {x y:Operand} {a b:List UInt8}:m6 .eql t x y (vL a) (vL b)=some (.bool (decide (a=b))):=by
 show some (Value.bool ((Bs a).toList == (Bs b).toList))=_;rw[fZ,fZ]
 congr 2
 by_cases h:a=b<;>simp[h]
theorem tp {t:TypeId} {x y:Operand} {a b:List UInt8}:m6 .neq t x y (vL a) (vL b)=some (.bool (!decide (a=b))):=by
 show some (Value.bool (!((Bs a).toList == (Bs b).toList)))=_;rw[fZ,fZ]
 congr 3
 by_cases h:a=b<;>simp[h]
theorem jr {t:TypeId} {x y:Operand} {a b:List UInt8} (h:a.length+b.length<=9223372036854775807):m6 .add t x y (vL a) (vL b)=some (vL (a++b)):=by
 have h1:¬(((Bs a).size+(Bs b).size:Nat):Int) > IntKind.i64.max:=by
  rw[aS,aS,show IntKind.i64.max=9223372036854775807 from by decide];omega
 have:binOp .add t (vL a) (vL b)= .pure (vL (a++b)):=by
  simp only[binOp,vL,Op.stringOp,h1,if_false,Fq]
  rfl
 show y6 (do eqGuard .add t x y (vL a) (vL b);binOp .add t (vL a) (vL b))=_
 simp only[this]
 rfl
section
variable {P:Program} {T:TypeId->Option Ty} {n:Nat} {ops:Array Oper} {id:Nat} {draw:Bool} {K:AS->Prop} {s:AS} {k:Nat} {o:Oper} {os:List Oper} {fps:List FP}
theorem sX {t:TypeId} {ty:Ty} (hT:aU P t ty) (hs:ty.isStr=true):P.underlying t=some .string:=by
 obtain⟨d,hu,_,_,_,_,hst,_⟩:=hT.und;rw[hu,hst hs]
theorem bY (hT:∀t d,T t=some d->aU P t d) {t:TypeId} {ty:Ty} {x y:Operand} {l:List UInt8} {c:UInt8} {i:Nat} {ik:IntKind} (hi:l[i]? =some c) (h1:gd ops s o=some true) (h2:o.op= .index t x y) (h5:T t=some ty) (h6:ty.isStr=true) (h7:s.ev x= .d (.leaf (.val (vL l)))) (h8:s.ev y= .d (.leaf (.val (.int ik (i:Nat)))))
 (h3:aH n o.dst=true) (h4:eS draw ops (aw ops o ⟨.d (dN .u8 c.toNat),none⟩ []) k fps=true) (h:ak P T n ops id draw K (k+1) os (s.eff o.dst ⟨.d (dN .u8 c.toNat),none⟩) (aw ops o ⟨.d (dN .u8 c.toNat),none⟩ []::fps)):ak P T n ops id draw K k (o::os) s fps:=by
 refine .run h1 (.gen fun s2 ht _=>?_) h3 h4 h;have hx:=(an ht (x:=x) (by simp[h2,Op.operands])).trans h7;have hy:=(an ht (x:=y) (by simp[h2,Op.operands])).trans h8;have hu:=sX (hT _ _ h5) h6;have hl:i<l.length:=(List.getElem?_eq_some_iff.1 hi).1
 refine ai fun n S0 w0 g a w hM=>⟨.int .u8 c.toNat,w,?_,Below.refl _ _,AV.M.val rfl⟩
 unfold execOp;rw[h2];have hsz:=aS l
 have hget:(Bs l)[i]'(by rw[hsz];exact hl)=c:=by
  have:=(List.getElem?_eq_some_iff.1 hi).2;show(Bs l).data[i]'_=c
  simpa[Bs]using this
 simp only[bc hM hx,bc hM hy,vL,Sem.run_bind,run_index_string _ t (Bs l) ik i hu]
 rw[dif_pos (by rw[hsz];omega)]
 simp only[Result.andThen_ok,Int.toNat_natCast,hget]
 rfl
theorem IA (hT:∀t d,T t=some d->aU P t d) {t:TypeId} {ty:Ty} {x y:Operand} {l:List UInt8} {i:Nat} {ik:IntKind} (hi:i<=l.length) (h1:gd ops s o=some true) (h2:o.op= .slice t x (some y) none none) (h5:T t=some ty) (h6:ty.isStr=true) (h7:s.ev x= .d (.leaf (.val (vL l)))) (h8:s.ev y= .d (.leaf (.val (.int ik (i:Nat)))))
 (h3:aH n o.dst=true) (h4:eS draw ops (aw ops o ⟨.d (dL (l.drop i)),none⟩ []) k fps=true) (h:ak P T n ops id draw K (k+1) os (s.eff o.dst ⟨.d (dL (l.drop i)),none⟩) (aw ops o ⟨.d (dL (l.drop i)),none⟩ []::fps)):ak P T n ops id draw K k (o::os) s fps:=by
 refine .run h1 (.gen fun s2 ht _=>?_) h3 h4 h;have hx:=(an ht (x:=x) (by simp[h2,Op.operands])).trans h7;have hy:=(an ht (x:=y) (by simp[h2,Op.operands])).trans h8;have hu:=sX (hT _ _ h5) h6;refine ai fun n S0 w0 g a w hM=>⟨vL (l.drop i),w,?_,Below.refl _ _,AV.M.val rfl⟩
 unfold execOp;rw[h2]
 have e1:(Instr.sliceAt t (.string (Bs l)) (some (.int ik i)) none none).run P w= .ok (vL (l.drop i)) w:=by
  refine E0 ?_;rw[run_slice_string_l w t (Bs l) hu ik i (by omega) (by rw[aS];omega),mY,aS]
  simp[vL]
 simp only[bc hM hx,bc hM hy,vL,Option.map_some,Option.map_none,Sem.run_bind,e1,Result.andThen_ok]
 rfl
end
section
variable {P:Program} {T:TypeId->Option Ty} {n:Nat} {s:AS}
theorem j3 {x y:Code} {Q:AX->AS->Prop} (σ:AS) (hy:∀s',bu s' σ->gy P T n y Q s') (hx:∀R:AX->AS->Prop,(∀s',bu s' σ->R .normal s')->R .ret=Q .ret->gy P T n x R s):gy P T n (.seq x y) Q s:=bM (hx _ hy rfl)
theorem bu.trans {a b c:AS} (h:bu a b) (h':bu b c):bu a c:=fun n S0 w0 x w m=>h' n S0 w0 x w (h n S0 w0 x w m)
theorem MG.rename {S0:Nat->Prop} {w0:eV} {g:Nat->Nat} {a:Act} {w:World} (h:MG n S0 w0 g s a w) {j j':Nat} {cs:List AV} (hj:s.bx j=some cs) (hn:am s.b j'=none) (hw:bQ j'=bQ j) (hrv:jf j'=false) (hlb:cT j'=false):
 ∃g',MG n S0 w0 g' ⟨s.t,(j',some cs)::(j,none)::s.b⟩ a w/\(∀(m k e:Nat) (v:Value),TV.M (Own S0 g s) g s w (.own j m k e) v->TV.M (Own S0 g' ⟨s.t,(j',some cs)::(j,none)::s.b⟩) g' ⟨s.t,(j',some cs)::(j,none)::s.b⟩ w (.own j' m k e) v)/\ ∀i,i≠j'->g' i=g i:=by
 have hjj:j'≠j:=fun e=>by
  subst e;obtain⟨x,hx⟩:=AS.kn_of hj;rw[hn]at hx;cases hx
 have hkn:∀i,s.kn i->i≠j':=fun i ⟨x,hx⟩ e=>by subst e;rw[hn]at hx;cases hx
 have hbx:∀i ci,(AS.mk s.t ((j',some cs)::(j,none)::s.b)).bx i=some ci->(i=j'/\ci=cs)∨(i≠j'/\i≠j/\s.bx i=some ci):=fun i ci hi=>by
  by_cases e1:i=j'
  ·subst e1;rw[AS.bx_same]at hi;cases hi;exact .inl ⟨rfl,rfl⟩
  ·rw[AS.bx_ne _ s.t _ _ e1]at hi
   by_cases e2:i=j
   ·subst e2;rw[AS.bx_dead]at hi;cases hi
   ·rw[AS.bx_ne _ s.t _ _ e2]at hi;exact .inr ⟨e1,e2,hi⟩
 have hO:Own S0 (fun i=>if i=j' then g j else g i) (AS.mk s.t ((j',some cs)::(j,none)::s.b))=Own S0 g s:=by
  funext b
  apply propext
  constructor
  ·rintro(h0| ⟨i,ci,hi,e0⟩)
   ·exact .inl h0
   ·rcases hbx i ci hi with⟨rfl,rfl⟩| ⟨h1,h2,h3⟩
    ·simp only[if_true]at e0;exact .inr ⟨j,ci,hj,e0⟩
    ·simp only[h1,if_false]at e0;exact .inr ⟨i,ci,h3,e0⟩
  ·rintro(h0| ⟨i,ci,hi,e0⟩)
   ·exact .inl h0
   ·by_cases e2:i=j
    ·subst e2
     exact .inr ⟨j',cs,AS.bx_same _ _ _ _,by simp only[if_true];exact e0⟩
    ·have h1:=hkn i (AS.kn_of hi)
     refine .inr ⟨i,ci,?_,by simp only[h1,if_false];exact e0⟩;rw[AS.bx_ne _ s.t _ _ h1,AS.bx_ne _ s.t _ _ e2];exact hi
 have hF:jw s (AS.mk s.t ((j',some cs)::(j,none)::s.b)) g (fun i=>if i=j' then g j else g i) w w:=⟨fun z hz=>AS.kn_cons (t:=s.t) _ (AS.kn_cons (t:=s.t) _ hz),fun z cz hk hz=>by
  rcases hbx z cz hz with⟨e1,_⟩| ⟨h1,h2,h3⟩
  ·exact absurd e1 (hkn z hk)
  ·exact⟨cz,h3,Nat.le_refl _,by simp only[h1,if_false],fun a1 e1 h4=>⟨a1,h4,rfl⟩⟩⟩
 refine⟨fun i=>if i=j' then g j else g i,⟨fun i=>?_,fun i ci hi=>?_,fun i i' ci ci' hi hi' e0=>?_,h.grow,h.df.agree hF,h.sz,h.cl,h.tg,fun k cs hk=>by rw[hO];exact(h.gl k cs hk).agree (cJ.refl _ _) (fun _ _ h=>h) hF,fun i q ci h1 h2 hi=>by
  rcases hbx i ci hi with⟨e1,_⟩| ⟨h3,h4,h5⟩
  ·subst e1;rw[hrv]at h1;cases h1
  ·simp only[h3,if_false];exact h.gp i q ci h1 h2 h5,h.nk⟩,fun m k e v hm=>?_,fun i hi=>by simp only[hi,if_false]⟩
 ·rw[hO]
  exact(h.tm i).agree (cJ.refl _ _) (fun _ _ h=>h) hF
 ·rw[hO]
  rcases hbx i ci hi with⟨rfl,rfl⟩| ⟨h1,h2,h3⟩
  ·simp only[if_true]
   obtain⟨h1,arr,e1,h4,h5,h6,_⟩:=h.bm j ci hj;exact⟨h1,arr,e1,h4,h5,fun hb=>h6 (by rw[<- hw];exact hb),fun hl=>absurd hl (by rw[hlb];decide),fun ht=>absurd (oF ht) (by rw[hlb];decide)⟩
  ·simp only[h1,if_false]
   obtain⟨h4,h5⟩:=h.bm i ci h3;exact⟨h4,h5.agree rfl (cJ.refl _ _) (fun _ _ h=>h) hF⟩
 ·rcases hbx i ci hi with⟨e1,_⟩| ⟨h1,h2,h3⟩<;>rcases hbx i' ci' hi' with⟨e1',_⟩| ⟨h1',h2',h3'⟩
  ·rw[e1,e1']
  ·rw[if_pos e1,if_neg h1']at e0
   exact absurd (h.inj j i' cs ci' hj h3' e0).symm h2'
  ·rw[if_neg h1,if_pos e1']at e0
   exact absurd (h.inj i j ci cs h3 hj e0) h2
  ·rw[if_neg h1,if_neg h1']at e0
   exact h.inj i i' ci ci' h3 h3' e0
 ·obtain⟨c,e1,e2,e3,e4,e5⟩:=hm.2 cs hj
  refine⟨⟨_,ah _ _ _⟩,fun ci hc=>?_⟩;rw[AS.bx_same]at hc;cases hc
  simp only[if_true]
  exact⟨c,e1,e2,e3,e4,e5⟩
theorem MG.reslot {S0:Nat->Prop} {w0:eV} {g:Nat->Nat} {a:Act} {w:World} (h:MG n S0 w0 g s a w) {q:Nat} {x:TV} (hx:TV.M (Own S0 g s) g s w x (a.tmps.getD q Go.undef)) (hx1:qO x=true) (hx2:qO (s.tv q)=true):MG n S0 w0 g ⟨(q,x)::s.t,s.b⟩ a w:=by
 refine⟨fun i=>?_,fun i ci hi=>?_,h.inj,h.grow,?_,h.sz,h.cl,h.tg,fun k cs hk=>(h.gl k cs hk).sameB rfl,h.gp,h.nk⟩
 ·by_cases hi:q=i
  ·subst hi
   have e0:(AS.mk ((q,x)::s.t) s.b).tv q=x:=by simp[AS.tv,ah]
   rw[e0];exact hx.sameB rfl
  ·have e0:(AS.mk ((q,x)::s.t) s.b).tv i=s.tv i:=by simp[AS.tv,av _ _ hi]
   rw[e0];exact(h.tm i).sameB rfl
 ·obtain⟨h1,h2⟩:=h.bm i ci hi
  exact⟨h1,h2.sameB rfl⟩
 ·by_cases hi:q=DK
  ·have e0:(AS.mk ((q,x)::s.t) s.b).tv DK=x:=by rw[<- hi];simp[AS.tv,ah]
   rw[e0];have h0:=h.df;rw[<- hi]at h0;exact(D4.no hx1).2 ((D4.no hx2).1 h0)
  ·have e0:(AS.mk ((q,x)::s.t) s.b).tv DK=s.tv DK:=by simp[AS.tv,av _ _ hi]
   rw[e0];exact h.df.sameB rfl
theorem aD {q j j' m k e:Nat} {cs:List AV} (hq:s.tv q= .own j m k e) (hj:s.bx j=some cs) (hn:am s.b j'=none) (hw:bQ j'=bQ j) (hrv:jf j'=false:=by rfl) (hlb:cT j'=false:=by rfl):bu s ⟨(q, .own j' m k e)::s.t,(j',some cs)::(j,none)::s.b⟩:=by
 rintro n S0 w0 a w ⟨g,h⟩;obtain⟨g',h1,h2,_⟩:=h.rename hj hn hw hrv hlb;have hm:=h.tm q;rw[hq]at hm;exact⟨g',h1.reslot (h2 m k e _ hm) rfl (by show qO (s.tv q)=true;rw[hq];rfl)⟩
theorem wY {i off j m k e:Nat} {cb cs:List AV} (hlbi:cT i=true) (hi:s.bx i=some cb) (hq:cb[off]? =some (.ow j m k e)) (hj:s.bx j=some cs) (hij:Nat.beq i j=false):bu s ⟨s.t,(i,some (cb.set off (.sl m cs)))::(j,none)::s.b⟩:=by
 rintro n S0 w0 a w ⟨g,h⟩;exact⟨g,h.freezeC hlbi hi hq hj (fun e=>by subst e;simp at hij)⟩
end
section
variable {P:Program} {T:TypeId->Option Ty} {n:Nat} {ops:Array Oper} {id:Nat} {draw:Bool} {K:AS->Prop} {s:AS} {k:Nat} {o:Oper} {os:List Oper} {fps:List FP}
theorem yj {t:TypeId} {ty:Ty} {x:Operand} {i off:Nat} {cs:List AV} {a:AV} (ha:cs[off]? =some a) (h1:gd ops s o=some true) (h2:o.op= .load t x) (h5:T t=some ty) (h6:ty.agg=false) (h7:ty.size=1) (h8:s.ev x= .box i off) (h9:s.bx i=some cs)
 (h3:aH n o.dst=true) (h4:eS draw ops (aw ops o ⟨.d (.leaf a),none⟩ [i]) k fps=true) (h:ak P T n ops id draw K (k+1) os (s.eff o.dst ⟨.d (.leaf a),none⟩) (aw ops o ⟨.d (.leaf a),none⟩ [i]::fps)) (hlb:cT i=false:=by rfl):ak P T n ops id draw K k (o::os) s fps:=by
 refine gD h1 ?_ h3 h4 h;obtain⟨hl,hg⟩:=List.getElem?_eq_some_iff.1 ha;have hb:Nat.ble (off+1) cs.length=true:=Nat.ble_eq_true_of_le hl
 have hd:(cs.drop off).take 1=[a]:=by
  rw[List.drop_eq_getElem_cons hl,hg];rfl
 unfold fb
 simp only[h2,h5,h8,h9,h6,h7,hb,hd,hlb]
 rfl
theorem Bc {t:TypeId} {ty:Ty} {x y:Operand} {i off:Nat} {cs cs':List AV} {a:AV} (hl:off<cs.length) (hs:aF cs off [a]=cs') (h1:gd ops s o=some true) (h2:o.op= .store t x y) (h0:o.dst=none) (h5:T t=some ty) (h7:ty.size=1) (h8:s.ev x= .box i off) (h9:s.bx i=some cs) (h10:F1 (s.ev y)=some (.leaf a)) (h11:RL i [a]=true)
 (h4:eS draw ops (aw ops o ⟨.junk,some [(i,some cs')]⟩ [i]) k fps=true) (h:ak P T n ops id draw K (k+1) os (s.eff o.dst ⟨.junk,some [(i,some cs')]⟩) (aw ops o ⟨.junk,some [(i,some cs')]⟩ [i]::fps)) (hlb:cT i=false:=by rfl):ak P T n ops id draw K k (o::os) s fps:=by
 refine gD h1 ?_ (by rw[h0];rfl) h4 h;have hb:Nat.ble (off+1) cs.length=true:=Nat.ble_eq_true_of_le hl;unfold fb
 simp only[h0,h2,h5,h8,h9,h7,hb,h10,DV.cells,h11,hs,hlb,KX]
 rfl
end
theorem bn {t:TypeId} {x y:Operand} {a b:List UInt8} (h:a=b):m6 .eql t x y (vL a) (vL b)=some (.bool true):=by rw[uq,decide_eq_true h]
theorem bH {t:TypeId} {x y:Operand} {a b:List UInt8} (h:a≠b):m6 .eql t x y (vL a) (vL b)=some (.bool false):=by rw[uq,decide_eq_false h]
theorem gA {t:TypeId} {x y:Operand} {a b:List UInt8} (h:a≠b):m6 .neq t x y (vL a) (vL b)=some (.bool true):=by rw[tp,decide_eq_false h];rfl
theorem fD {t:TypeId} {x y:Operand} {a b:List UInt8} (h:a=b):m6 .neq t x y (vL a) (vL b)=some (.bool false):=by rw[tp,decide_eq_true h];rfl
section
variable {P:Program} {T:TypeId->Option Ty} {n:Nat} {ops:Array Oper} {id:Nat} {draw:Bool} {K:AS->Prop} {s:AS} {k:Nat} {o:Oper} {os:List Oper} {fps:List FP}
theorem Ow (hT:∀t d,T t=some d->aU P t d) {t:TypeId} {ty:Ty} {x y:Operand} {l:List UInt8} {i:Nat} {ik:IntKind} (hi:i<=l.length) (h1:gd ops s o=some true) (h2:o.op= .slice t x none (some y) none) (h5:T t=some ty) (h6:ty.isStr=true) (h7:s.ev x= .d (.leaf (.val (vL l)))) (h8:s.ev y= .d (.leaf (.val (.int ik (i:Nat)))))
 (h3:aH n o.dst=true) (h4:eS draw ops (aw ops o ⟨.d (dL (l.take i)),none⟩ []) k fps=true) (h:ak P T n ops id draw K (k+1) os (s.eff o.dst ⟨.d (dL (l.take i)),none⟩) (aw ops o ⟨.d (dL (l.take i)),none⟩ []::fps)):ak P T n ops id draw K k (o::os) s fps:=by
 refine .run h1 (.gen fun s2 ht _=>?_) h3 h4 h;have hx:=(an ht (x:=x) (by simp[h2,Op.operands])).trans h7;have hy:=(an ht (x:=y) (by simp[h2,Op.operands])).trans h8;have hu:=sX (hT _ _ h5) h6;refine ai fun n S0 w0 g a w hM=>⟨vL (l.take i),w,?_,Below.refl _ _,AV.M.val rfl⟩
 unfold execOp;rw[h2]
 have e1:(Instr.sliceAt t (.string (Bs l)) none (some (.int ik i)) none).run P w= .ok (vL (l.take i)) w:=by
  refine E0 ?_;rw[run_slice_string_h w t (Bs l) hu ik i (by omega) (by rw[aS];omega),mY]
  simp[vL]
 simp only[bc hM hx,bc hM hy,vL,Option.map_some,Option.map_none,Sem.run_bind,e1,Result.andThen_ok]
 rfl
end
def eN (c:UInt8):Bool:=(decide (97<=c.toNat) && decide (c.toNat<=122)) || (decide (65<=c.toNat) && decide (c.toNat<=90))
def eM (c:UInt8):Bool:=decide (48<=c.toNat) && decide (c.toNat<=57)
def kz (c:UInt8):Bool:=eN c || eM c || decide (c.toNat=95)
def dy (p:UInt8->Bool) (s:List UInt8):Nat:=(s.takeWhile p).length
theorem yZ (p:UInt8->Bool) (s:List UInt8):dy p s<=s.length:=by
 induction s with
 |nil=>exact Nat.le_refl _
 |cons c r ih=>
  unfold dy at *;rw[List.takeWhile_cons]
  split
  ·simpa using ih
  ·simp
theorem oB {p:UInt8->Bool}:∀{s:List UInt8} {i:Nat},(∀(q:Nat) c,q<i->s[q]? =some c->p c=true)->(s[i]? =none/\i<=s.length∨ ∃c,s[i]? =some c/\p c=false)->dy p s=i
 | [],i,_,h=>by
  rcases h with⟨_,h⟩| ⟨c,h,_⟩
  ·simp at h;simp[dy,h]
  ·simp at h
 |a::s,0,_,h=>by
  rcases h with⟨h,_⟩| ⟨c,h,k⟩
  ·simp at h
  ·simp at h;subst h;simp[dy,List.takeWhile,k]
 |a::s,i+1,hq,h=>by
  have h0:=hq 0 a (by omega) rfl;have ih:=oB (s:=s) (i:=i) (fun q c h1 h2=>hq (q+1) c (by omega) (by simpa using h2)) (by simpa using h);unfold dy at *
  simp only[List.takeWhile,h0,List.length_cons]
  omega
def dF (f:FuncId):DV:= .leaf (.val (.func (.func f) #[] #[]))
theorem mt (c:UInt8):aa Tryz.prog 109 [dN .u8 c.toNat] (.one (dB (eN c))):=by
 by_cases h1:97<=c.toNat
 ·by_cases h2:c.toNat<=122
  ·rw[show eN c=true by unfold eN;simp[h1,h2]]
   refine kU func109 ?_;refine fT ?_;refine vC ?_;exact ax
  ·rw[show eN c=false by unfold eN;rw[decide_eq_false h2,decide_eq_false (show ¬c.toNat<=90 by omega)];simp]
   refine kU func109 ?_;refine fT ?_;refine p7 ?_
   refine kO3 ?_
   refine p7 ?_;exact ax
 ·by_cases h2:65<=c.toNat
  ·by_cases h3:c.toNat<=90
   ·rw[show eN c=true by unfold eN;simp[h2,h3]]
    refine kU func109 ?_;refine wI ?_;refine vC ?_;exact ax
   ·rw[show eN c=false by unfold eN;rw[decide_eq_false h1,decide_eq_false h3];simp]
    refine kU func109 ?_;refine wI ?_;refine p7 ?_;exact ax
  ·rw[show eN c=false by unfold eN;rw[decide_eq_false h1,decide_eq_false h2];simp]
   refine kU func109 ?_;refine wI ?_;refine kE ?_;exact ax
theorem ml (c:UInt8):aa Tryz.prog 178 [dN .u8 c.toNat] (.one (dB (eN c))):=by
 by_cases h1:97<=c.toNat
 ·by_cases h2:c.toNat<=122
  ·rw[show eN c=true by unfold eN;simp[h1,h2]]
   refine kU func178 ?_;refine fT ?_;refine vC ?_;exact ax
  ·rw[show eN c=false by unfold eN;rw[decide_eq_false h2,decide_eq_false (show ¬c.toNat<=90 by omega)];simp]
   refine kU func178 ?_;refine fT ?_;refine p7 ?_
   refine kO3 ?_
   refine p7 ?_;exact ax
 ·by_cases h2:65<=c.toNat
  ·by_cases h3:c.toNat<=90
   ·rw[show eN c=true by unfold eN;simp[h2,h3]]
    refine kU func178 ?_;refine wI ?_;refine vC ?_;exact ax
   ·rw[show eN c=false by unfold eN;rw[decide_eq_false h1,decide_eq_false h3];simp]
    refine kU func178 ?_;refine wI ?_;refine p7 ?_;exact ax
  ·rw[show eN c=false by unfold eN;rw[decide_eq_false h1,decide_eq_false h2];simp]
   refine kU func178 ?_;refine wI ?_;refine kE ?_;exact ax
theorem yi (c:UInt8):aa Tryz.prog 173 [dN .u8 c.toNat] (.one (dB (eM c))):=by
 by_cases h1:48<=c.toNat
 ·by_cases h2:c.toNat<=57
  ·rw[show eM c=true by unfold eM;simp[h1,h2]]
   refine kU func173 ?_;refine fT ?_;refine vC ?_;exact ax
  ·rw[show eM c=false by unfold eM;rw[decide_eq_false h2];simp]
   refine kU func173 ?_;refine fT ?_;refine p7 ?_;exact ax
 ·rw[show eM c=false by unfold eM;rw[decide_eq_false h1];simp]
  refine kU func173 ?_;refine fT ?_;refine kE ?_;exact ax
theorem nz (c:UInt8):aa Tryz.prog 179 [dN .u8 c.toNat] (.one (dB (eM c))):=by
 by_cases h1:48<=c.toNat
 ·by_cases h2:c.toNat<=57
  ·rw[show eM c=true by unfold eM;simp[h1,h2]]
   refine kU func179 ?_;refine fT ?_;refine vC ?_;exact ax
  ·rw[show eM c=false by unfold eM;rw[decide_eq_false h2];simp]
   refine kU func179 ?_;refine fT ?_;refine p7 ?_;exact ax
 ·rw[show eM c=false by unfold eM;rw[decide_eq_false h1];simp]
  refine kU func179 ?_;refine fT ?_;refine kE ?_;exact ax
theorem Ai (c:UInt8):aa Tryz.prog 111 [dN .u8 c.toNat] (.one (dB (kz c))):=by
 have c1:=mt c;have c2:=yi c;unfold kz;cases h1:eN c
 ·rw[h1]at c1
  cases h2:eM c
  ·rw[h2]at c2
   refine kU func111 ?_;refine iY ?_;refine kC (c2) ?_
   refine kO3 ?_
   by_cases h3:c.toNat=95
   ·refine kT ?_
    rw[decide_eq_true h3];exact ax
   ·refine kE ?_
    rw[decide_eq_false h3];exact ax
  ·rw[h2]at c2
   refine kU func111 ?_;refine iY ?_;refine kC (c2) ?_;exact ax
 ·rw[h1]at c1
  refine kU func111 ?_;exact tT
theorem FO {fid:FuncId} {p:UInt8->Bool} (hp:∀c:UInt8,aa Tryz.prog fid [dN .u8 c.toNat] (.one (dB (p c)))) (s:List UInt8) (hl:s.length<=4611686018427387904):aa Tryz.prog 110 [dL s,dF fid] (.one (dN .i64 (dy p s))):=by
 have hB:=aS s;refine kV func110 ?_
 refine aq Nat (fun i=>i<=s.length/\ ∀(q:Nat) c,q<i->s[q]? =some c->p c=true) (fun i=>⟨[(0, .d (dL s)),(1, .d (dF fid)),(4, .d (dN .i64 0)),(5, .d (dN .i64 i))],[]⟩) (fun i=>s.length-i) 0 ⟨Nat.zero_le _,fun q c h=>absurd h (Nat.not_lt_zero _)⟩
  kw ?_
 rintro i ⟨hi,hq⟩;refine kI ?_
 refine kO3 ?_
 by_cases hlt:i<s.length
 ·have hx:s[i]? =some s[i]:=by simp[hlt]
  have hc:=hp s[i];refine kT ?_
  refine kO4 ?_
  refine bY ac (i:=i) (c:=s[i]) hx rfl rfl rfl rfl rfl rfl rfl rfl ?_;cases hb:p s[i]
  ·rw[hb]at hc
   refine kQ (hc) ?_;rw[oB hq (.inr ⟨_,hx,hb⟩)];exact cw (T:=TT) rfl rfl
  ·rw[hb]at hc
   refine kQ (hc) ?_
   exact⟨i+1,⟨hlt,fun q c h1 h2=>by
    by_cases e:q=i
    ·subst e;rw[hx]at h2;cases h2;exact hb
    ·exact hq q c (by omega) h2⟩,by omega,weak ⟨rfl,rfl,rfl,ae (by omega) (by omega),trivial⟩ trivial rfl⟩
 ·refine kE ?_
  refine kW ?_;rw[oB hq (.inl ⟨List.getElem?_eq_none (by omega),hi⟩)];exact cw (T:=TT) rfl rfl
def SP (s:List UInt8):Nat:=if s[dy eM s]? =some 46/\0<dy eM (s.drop (dy eM s+1))then dy eM s+1+dy eM (s.drop (dy eM s+1))else dy eM s
theorem H4 {c:UInt8} {n:UInt8} (h:¬c=n):¬c.toNat=n.toNat:=fun e=>h (UInt8.toNat_inj.1 e)
def sS:List UInt8:=[43,45,42,47,40,41,91,93,123,125,44,58,59,61,46,60,62,64,35]
def Tm (c:UInt8):Bool:=decide (0<=Lib.indexByte sS c)
end Go.Proofs.YtmkggcjajcdlcaaGreatDoor
