/- Parts of a proof: contracts of the functions that the laws reach. -/
import Derived.Test.YtmkggcjajcdlcaaGreatDoorVAmI
set_option maxHeartbeats 100000000
set_option linter.all false
open Go.Proofs.Tryz
namespace Go.Proofs.YtmkggcjajcdlcaaGreatDoor
open Go.RowKit
def mo (xs:List Nat):Prop:=xs.length<=2147483648
def ew (z:Int):Prop:=(digs z.natAbs).length<=2147483648
theorem ew.of_lt {z:Int} {k:Nat} (h:z.natAbs<4294967296^k) (hk:k<=2147483648):ew z:=Nat.le_trans (aV h) hk
theorem ew.small {z:Int} (h:z.natAbs<4294967296):ew z:= .of_lt (k:=1) (by simpa using h) (by decide)
theorem IW {na nb:Bool} {xs ys:List Nat} (hw:Wd xs) (hw':Wd ys) (h1:mo xs) (h2:mo ys) {z:Int} (hz:ap na xs+ap nb ys=z):aa Tryz.prog 141 [dI na xs,dI nb ys] (.one (dZ z)):=
 Mq (aJ func141 rfl rfl) hw hw' (fun v u w h k=>by have:=QE v u na nb xs ys w h k h1 h2;rwa[hz]at this) (fun _ _ _ _ hS h=>ee hS h)
theorem tQ {a b:Int} (h1:ew a) (h2:ew b):aa Tryz.prog 141 [dZ a,dZ b] (.one (dZ (a+b))):=IW (av _) (av _) h1 h2 (by rw[aP,aP])
theorem Fl {na nb:Bool} {xs ys:List Nat} (hw:Wd xs) (hw':Wd ys) (h1:mo xs) (h2:mo ys) {z:Int} (hz:ap na xs*ap nb ys=z):aa Tryz.prog 143 [dI na xs,dI nb ys] (.one (dZ z)):=
 Mq (aJ func143 rfl rfl) hw hw' (fun v u w h k=>by have:=Qc v u na nb xs ys w h k h1 h2;rwa[hz]at this) (fun _ _ _ _ hS h=>ee hS h)
theorem fe {a b:Int} (h1:ew a) (h2:ew b):aa Tryz.prog 143 [dZ a,dZ b] (.one (dZ (a*b))):=Fl (av _) (av _) h1 h2 (by rw[aP,aP])
theorem Ed {na nb:Bool} {xs ys:List Nat} (hw:Wd xs) (hw':Wd ys) (h1:mo xs) (h2:mo ys) {z:Int} (hz:ap na xs+ap nb ys=z):aa Tryz.prog 197 [dI na xs,dI nb ys] (.one (dZ z)):=
 Mq (aJ func197 rfl rfl) hw hw' (fun v u w h k=>by have:=Bx v u na nb xs ys w h k h1 h2;rwa[hz]at this) (fun _ _ _ _ hS h=>ee hS h)
theorem AQ {a b:Int} (h1:ew a) (h2:ew b):aa Tryz.prog 197 [dZ a,dZ b] (.one (dZ (a+b))):=Ed (av _) (av _) h1 h2 (by rw[aP,aP])
theorem En {na nb:Bool} {xs ys:List Nat} (hw:Wd xs) (hw':Wd ys) (h1:mo xs) (h2:mo ys) {z:Int} (hz:ap na xs*ap nb ys=z):aa Tryz.prog 98 [dI na xs,dI nb ys] (.one (dZ z)):=
 Mq (aJ func98 rfl rfl) hw hw' (fun v u w h k=>by have:=Gb v u na nb xs ys w h k h1 h2;rwa[hz]at this) (fun _ _ _ _ hS h=>ee hS h)
theorem jo {a b:Int} (h1:ew a) (h2:ew b):aa Tryz.prog 98 [dZ a,dZ b] (.one (dZ (a*b))):=En (av _) (av _) h1 h2 (by rw[aP,aP])
theorem uC {na:Bool} {xs:List Nat} (hw:Wd xs) (h1:mo xs) {z:Int} (hz:(ap na xs)=z):aa Tryz.prog 151 [dI na xs] (.one (dZ z)):=
 LN (aJ func151 rfl rfl) hw (fun v w h=>by have:=Pn v na xs w h h1;rwa[hz]at this) (fun _ _ _ _ hS h=>ee hS h)
theorem Fw {na:Bool} {xs:List Nat} (hw:Wd xs) (h1:mo xs) {z:Int} (hz: -(ap na xs)=z):aa Tryz.prog 206 [dI na xs] (.one (dZ z)):=
 LN (aJ func206 rfl rfl) hw (fun v w h=>by have:=Qz v na xs w h h1;rwa[hz]at this) (fun _ _ _ _ hS h=>ee hS h)
theorem tD {a:Int} (h1:ew a):aa Tryz.prog 206 [dZ a] (.one (dZ (- a))):=Fw (av _) h1 (by rw[aP])
theorem Ay {na:Bool} {xs:List Nat} (hw:Wd xs) {z:Int} (hz:(ap na xs)=z):aa Tryz.prog 158 [dI na xs] (.one (dZ z)):=
 LN (aJ func158 rfl rfl) hw (fun v w h=>by have:=iq v na xs w h;rwa[hz]at this) (fun _ _ _ _ hS h=>ee hS h)
theorem DS {na:Bool} {xs:List Nat} (hw:Wd xs) {z:Int} (hz: -(ap na xs)=z):aa Tryz.prog 102 [dI na xs] (.one (dZ z)):=
 LN (aJ func102 rfl rfl) hw (fun v w h=>by have:=HG v na xs w h;rwa[hz]at this) (fun _ _ _ _ hS h=>ee hS h)
theorem rH (a:Int):aa Tryz.prog 102 [dZ a] (.one (dZ (- a))):=DS (av _) (by rw[aP])
theorem AF {S:Nat->Prop} {w w':World} {e:Ending} {z:Int} (hr:rk z w e w'):vO S (.one (dN .i64 z)) w e w':=by
 obtain⟨rfl,hb⟩:=hr;exact⟨_,rfl,AV.M.val rfl,hb⟩
theorem oc {na:Bool} {xs:List Nat} (hw:Wd xs) {z:Int} (hz:(ap na xs).sign=z):aa Tryz.prog 222 [dI na xs] (.one (dN .i64 z)):=
 LN (aJ func222 rfl rfl) hw (fun v w h=>by have:=AU v na xs w h;first|rwa[hz]at this|rwa[wU,hz]at this) (fun _ _ _ _ _ h=>AF h)
theorem Be (a:Int):aa Tryz.prog 222 [dZ a] (.one (dN .i64 a.sign)):=oc (av _) (by rw[aP])
theorem lI {na:Bool} {xs:List Nat} (hw:Wd xs) {z:Int} (hz:(ap na xs).sign=z):aa Tryz.prog 103 [dI na xs] (.one (dN .i64 z)):=
 LN (aJ func103 rfl rfl) hw (fun v w h=>by have:=CD v na xs w h;first|rwa[hz]at this|rwa[wU,hz]at this) (fun _ _ _ _ _ h=>AF h)
theorem jH (a:Int):aa Tryz.prog 103 [dZ a] (.one (dN .i64 a.sign)):=lI (av _) (by rw[aP])
theorem lY {na:Bool} {xs:List Nat} (hw:Wd xs) {b:Bool} (hb:dx na xs=b):aa Tryz.prog 276 [dI na xs] (.one (dB b)):=
 LN (aJ func276 rfl rfl) hw (fun v w h=>by have:=JU v na xs w h;rwa[hb]at this) (fun _ _ _ _ _ h=>Bz h)
theorem kl {na:Bool} {xs:List Nat} (hw:Wd xs) {b:Bool} (hb:dx na xs=b):aa Tryz.prog 221 [dI na xs] (.one (dB b)):=
 LN (aJ func221 rfl rfl) hw (fun v w h=>by have:=FD v na xs w h;rwa[hb]at this) (fun _ _ _ _ _ h=>Bz h)
theorem Fz {na nb:Bool} {xs ys:List Nat} (hw:Wd xs) (hw':Wd ys) {z:Int} (hz:bL (ap na xs) (ap nb ys)=z):aa Tryz.prog 157 [dI na xs,dI nb ys] (.one (dN .i64 z)):=
 Mq (aJ func157 rfl rfl) hw hw' (fun v u w h k=>by have:=PR v u na nb xs ys w h k;rwa[hz]at this) (fun _ _ _ _ _ h=>AF h)
theorem Eu (a b:Int):aa Tryz.prog 157 [dZ a,dZ b] (.one (dN .i64 (bL a b))):=Fz (av _) (av _) (by rw[aP,aP])
theorem fk (k:Int) (h1: -9223372036854775808<=k) (h2:k<9223372036854775808):aa Tryz.prog 146 [dN .i64 k] (.one (dZ k)):=
 ⟨aJ func146 rfl rfl,fun S w vs hS hv=>by
  match vs,hv with
  | [v],⟨h,_⟩=>
   obtain rfl:=dM h;exact(EZ k h1 h2 w).mono fun e w' he=>ee hS he⟩
theorem eQ (k:Int) (h1: -9223372036854775808<=k) (h2:k<9223372036854775808):aa Tryz.prog 105 [dN .i64 k] (.one (dZ k)):=
 ⟨aJ func105 rfl rfl,fun S w vs hS hv=>by
  match vs,hv with
  | [v],⟨h,_⟩=>
   obtain rfl:=dM h;exact(qL k h1 h2 w).mono fun e w' he=>ee hS he⟩
theorem JJ {na nb:Bool} {xs ys:List Nat} {b:Bool} (hw:Wd xs) (hw':Wd ys) (hb:sameB na nb xs ys=b):aa Tryz.prog 277 [dI na xs,dI nb ys] (.one (dB b)):=
 Mq (aJ func277 rfl rfl) hw hw' (fun v u w h k=>by have:=K6 v u na nb xs ys w h k;rwa[hb]at this) (fun _ _ _ _ _ h=>Bz h)
theorem I4 (a b:Int):aa Tryz.prog 277 [dZ a,dZ b] (.one (dB (decide (a=b)))):=JJ (av _) (av _) (tT a b)
theorem FO {na:Bool} {xs:List Nat}:ap na xs=0↔val xs=0:=by unfold ap;cases na<;>simp
theorem yF {na nb:Bool} {xs ys:List Nat} (hw:Wd xs) (hw':Wd ys) (h1:mo xs) (h2:mo ys) (h0:ap nb ys≠0) {q r:Int} (hq:(ap na xs).fdiv (ap nb ys)=q) (hr:(ap na xs).fmod (ap nb ys)=r):aa Tryz.prog 153 [dI na xs,dI nb ys] (.tup [dZ q,dZ r,dN .i64 0]):=
 Mq (aJ func153 rfl rfl) hw hw' (fun v u w h k=>by
  have hy:val ys≠0:=fun e=>h0 (FO.2 e)
  have:=G6 v u na nb xs ys w h k h1 h2 (LA (by have:=bF hw;unfold trim at this;unfold mo at h1;omega) (by omega)) hy
  rwa[hq,hr]at this) (fun _ _ _ _ hS h=>CX hS h)
theorem vy {na nb:Bool} {xs ys:List Nat} (hw:Wd xs) (hw':Wd ys) (h1:mo xs) (h2:mo ys) (h0:ap nb ys≠0) {q r:Int} (hq:(ap na xs).fdiv (ap nb ys)=q) (hr:(ap na xs).fmod (ap nb ys)=r):aa Tryz.prog 165 [dI na xs,dI nb ys] (.tup [dZ q,dZ r,dN .i64 0]):=
 Mq (aJ func165 rfl rfl) hw hw' (fun v u w h k=>by
  have:=EF v u na nb xs ys w h k h1 h2 h0
  rwa[hq,hr]at this) (fun _ _ _ _ hS h=>CX hS h)
section
open Go.ChangeShapes Go.WideShapes Go.ChangeAt Go.RowKit Go.Joins
theorem Tp (w:World) (hT:eD (fun _=>False) w):eD (fun _=>False) w:=hT
theorem EJ {f:FuncId} {ds:List DV} (h:aa Tryz.prog f ds (.one (dB true))) {w:World} (hT:eD (fun _=>False) w) {vs:List Value} (hv:VM (fun _=>False) w ds vs):Calls Tryz.prog f vs.toArray w (pr true w):=
 (h.calls _ w vs (Tp w hT) hv).mono fun e w' ⟨v,he,hm,hb⟩=>by
  obtain rfl:=dM (show AV.M _ _ _ _ from hm);exact⟨he,hb⟩
end
def dW (xs:List Nat):DV:= .leaf (aW xs)
theorem Ce {S:Nat->Prop} {w w':World} {e:Ending} {q r:Nat} (h:eD S w) (hr:gR q r w e w'):vO S (.tup [dW (digs q),dW (digs r)]) w e w':=by
 obtain⟨A,n,c,B,m,d,rfl,hq,hr,hb⟩:=hr;refine⟨_,rfl,⟨[.slice A n c, .slice B m d],rfl,rfl,fun i x u h1 h2=>?_⟩,hb⟩
 match i with
 |0=>simp at h1 h2;subst h1 h2;exact ph (h.grow hb) hq
 |1=>simp at h1 h2;subst h1 h2;exact ph (h.grow hb) hr
 |i+2=>simp at h1
theorem tE {xs:List Nat} (hw:Wd xs):aa Tryz.prog 199 [dW xs] (.one (dW (trim xs))):=
 ⟨aJ func199 rfl rfl,fun S w vs hS hv=>by
  match vs,hv with
  | [v],⟨h,_⟩=>
   obtain⟨A,n,c,rfl,hx⟩:=gc h hw;refine(bK A n c xs w hx).mono ?_;rintro e w' ⟨rfl,rfl⟩;exact⟨_,rfl,ph hS hx.trim,Below.refl _ _⟩⟩
theorem rl {xs:List Nat} (hw:Wd xs):aa Tryz.prog 162 [dW xs] (.one (dW (trim xs))):=
 ⟨aJ func162 rfl rfl,fun S w vs hS hv=>by
  match vs,hv with
  | [v],⟨h,_⟩=>
   obtain⟨A,n,c,rfl,hx⟩:=gc h hw;refine(dp A n c xs w hx).mono ?_;rintro e w' ⟨rfl,rfl⟩;exact⟨_,rfl,ph hS hx.trim,Below.refl _ _⟩⟩
theorem xO {a b:Nat} (h:(digs a).length<=2147483648) (hb:0<b):aa Tryz.prog 215 [dW (digs a),dW (digs b)] (.tup [dW (digs (a/b)),dW (digs (a%b))]):=
 ⟨aJ func215 rfl rfl,fun S w vs hS hv=>by
  match vs,hv with
  | [v,u],⟨h1,h2,_⟩=>
   obtain⟨A,n,c,rfl,hx⟩:=gc h1 (av _);obtain⟨B,m,d,rfl,hy⟩:=gc h2 (av _);exact(LA h hb A n c B m d w hx hy).mono fun e w' he=>Ce hS he⟩
theorem wL {a b:Nat} (h:(digs a).length<=2147483648) (hb:0<b):aa Tryz.prog 164 [dW (digs a),dW (digs b)] (.tup [dW (digs (a/b)),dW (digs (a%b))]):=
 ⟨aJ func164 rfl rfl,fun S w vs hS hv=>by
  match vs,hv with
  | [v,u],⟨h1,h2,_⟩=>
   obtain⟨A,n,c,rfl,hx⟩:=gc h1 (av _);obtain⟨B,m,d,rfl,hy⟩:=gc h2 (av _);exact(Fq h hb A n c B m d w hx hy).mono fun e w' he=>Ce hS he⟩
theorem yQ {neg:Bool} {xs:List Nat} (hw:Wd xs) {z:Int} (hz:ap neg xs=z):aa Tryz.prog 200 [dB neg,dW xs] (.one (dZ z)):=
 ⟨aJ func200 rfl rfl,fun S w vs hS hv=>by
  match vs,hv with
  | [v,u],⟨h1,h2,_⟩=>
   obtain rfl:=dM h1;obtain⟨A,n,c,rfl,hx⟩:=gc h2 hw;exact(bM hx hz).mono fun e w' he=>ee hS he⟩
theorem vP {neg:Bool} {xs:List Nat} (hw:Wd xs) {z:Int} (hz:ap neg xs=z):aa Tryz.prog 163 [dB neg,dW xs] (.one (dZ z)):=
 ⟨aJ func163 rfl rfl,fun S w vs hS hv=>by
  match vs,hv with
  | [v,u],⟨h1,h2,_⟩=>
   obtain rfl:=dM h1;obtain⟨A,n,c,rfl,hx⟩:=gc h2 hw;exact(dl hx hz).mono fun e w' he=>ee hS he⟩
theorem rM {xs:List Nat} (hw:Wd xs) (hl:xs.length<=4294967296):aa Tryz.prog 120 [dW xs] (.one (dW xs)):=
 ⟨aJ func120 rfl rfl,fun S w vs hS hv=>by
  match vs,hv with
  | [v],⟨h,_⟩=>
   obtain⟨A,n,c,rfl,hx⟩:=gc h hw;refine(iX A n c xs w hx (by rw[<- hx.len];exact hl)).mono ?_;rintro e w' ⟨A',n',c',zs,rfl,hz,rfl,hb⟩;exact⟨_,rfl,ph (hS.grow hb) hz,hb⟩⟩
theorem uy {xs:List Nat} (hw:Wd xs) (hl:xs.length<=2):aa Tryz.prog 152 [dW xs] (.one (dN .u64 (val xs))):=
 ⟨aJ func152 rfl rfl,fun S w vs hS hv=>by
  match vs,hv with
  | [v],⟨h,_⟩=>
   obtain⟨A,n,c,rfl,hx⟩:=gc h hw;refine(qr A n c xs w hx (by rw[<- hx.len];exact hl)).mono ?_;rintro e w' ⟨rfl,hb⟩;exact⟨_,rfl,AV.M.val rfl,hb⟩⟩
theorem xg (n:Nat) (hn:n<18446744073709551616):aa Tryz.prog 208 [dN .u64 n] (.one (dW (digs n))):=
 ⟨aJ func208 rfl rfl,fun S w vs hS hv=>by
  match vs,hv with
  | [v],⟨h,_⟩=>
   obtain rfl:=dM h;refine(fQ n hn w).mono ?_;rintro e w' ⟨A',n',c',zs,rfl,hz,rfl,hb⟩;exact⟨_,rfl,ph (hS.grow hb) hz,hb⟩⟩
theorem cX {n:Nat}:(digs n).length=0↔n=0:=by
 constructor
 ·intro h;exact ff.1 (List.eq_nil_of_length_eq_zero h)
 ·rintro rfl;rw[aG];rfl
theorem rT {a b:Nat}:Nat.gcd b (a%b)=Nat.gcd a b:=by rw[Nat.gcd_comm a b,Nat.gcd_rec b a,Nat.gcd_comm]
theorem uA {na nb:Bool} {xs ys:List Nat} (hw:Wd xs) (hw':Wd ys) (h1:mo xs) (h2:mo ys):aa Tryz.prog 100 [dI na xs,dI nb ys] (.one (dZ (Nat.gcd (val xs) (val ys)))):=by
 have f1:(digs (val xs)).length<=2147483648:=by have:=bF hw;unfold trim at this;unfold mo at h1;omega
 have f2:(digs (val ys)).length<=2147483648:=by have:=bF hw';unfold trim at this;unfold mo at h2;omega
 refine kV func100 ?_;refine kQ (rl hw) ?_;refine kQ (rl hw') ?_;refine ay (Nat × Nat) (fun p=>Nat.gcd p.1 p.2=Nat.gcd (val xs) (val ys)/\(digs p.1).length<=2147483648/\(digs p.2).length<=2147483648) (fun p=>⟨[(4, .box 2 0),(5, .d (dW (digs p.1))),(6, .d (dW (digs p.2)))],[(2,some [.val (.bool false), .sl 0 []])]⟩) (fun p=>p.2) (val xs,val ys) ⟨rfl,f1,f2⟩ kw ?_;rintro⟨u,v⟩ ⟨hg,g1,g2⟩;dsimp only at hg g1 g2 ⊢;refine kW ?_;refine n7 rfl (fun h=>?_) (fun h=>?_)
 ·have hv:0<v:=by
   rcases Nat.eq_zero_or_pos v with hv|hv
   ·have:=of_decide_eq_true h;rw[cX.2 hv]at this;omega
   ·exact hv
  refine eS ?_;refine kW ?_;refine kQ (wL g1 hv) ?_;have hm:=Nat.mod_lt u hv;refine⟨(v,u%v),⟨rT.trans hg,g2,Nat.le_trans (eh (Nat.le_of_lt hm)) g2⟩,hm,weak ⟨rfl,rfl,rfl,trivial⟩ ⟨rfl,trivial⟩ rfl⟩
 ·have hv:v=0:=by
   have:=of_decide_eq_false h;exact cX.1 (by omega)
  subst hv;rw[Nat.gcd_zero_right]at hg;refine rD ?_;refine kW ?_;refine ax (vP (neg:=false) (xs:=digs u) (av _) (show ap false (digs u)=((Nat.gcd (val xs) (val ys):Nat):Int) by rw[jP,<- hg];rfl)) rfl rfl rfl rfl rfl rfl rfl ?_;exact aD
theorem xT {na nb:Bool} {xs ys:List Nat} (hw:Wd xs) (hw':Wd ys) (h1:mo xs) (h2:mo ys):aa Tryz.prog 205 [dI na xs,dI nb ys] (.one (dZ (Nat.gcd (val xs) (val ys)))):=by
 have f1:(digs (val xs)).length<=2147483648:=by have:=bF hw;unfold trim at this;unfold mo at h1;omega
 have f2:(digs (val ys)).length<=2147483648:=by have:=bF hw';unfold trim at this;unfold mo at h2;omega
 refine kV func205 ?_;refine kQ (tE hw) ?_;refine kQ (tE hw') ?_;refine ay (Nat × Nat) (fun p=>Nat.gcd p.1 p.2=Nat.gcd (val xs) (val ys)/\(digs p.1).length<=2147483648/\(digs p.2).length<=2147483648) (fun p=>⟨[(4, .box 2 0),(5, .d (dW (digs p.1))),(6, .d (dW (digs p.2)))],[(2,some [.val (.bool false), .sl 0 []])]⟩) (fun p=>p.2) (val xs,val ys) ⟨rfl,f1,f2⟩ kw ?_;rintro⟨u,v⟩ ⟨hg,g1,g2⟩;dsimp only at hg g1 g2 ⊢
 by_cases hb:2<(digs v).length∨(2<(digs u).length/\0<(digs v).length)
 ·have hv:0<v:=by
   rcases Nat.eq_zero_or_pos v with hv|hv
   ·rw[hv,aG]at hb;simp at hb
   ·exact hv
  have hm:=Nat.mod_lt u hv
  by_cases h2:2<(digs v).length
  ·refine Bc ?_
   exact Lw
  ·have h3:2<(digs u).length/\0<(digs v).length:=by omega
   refine Bc ?_;refine kE ?_
   refine kO3 ?_
   refine kT ?_
   refine kO3 ?_
   exact Lw
 ·have hz:v=0∨(0<v/\(digs v).length<=2/\(digs u).length<=2):=by
   rcases Nat.eq_zero_or_pos v with hv|hv
   ·exact .inl hv
   ·have:0<(digs v).length:=by
     exact Me
    exact .inr ⟨hv,by omega,by omega⟩
  rcases hz with hv| ⟨hv,hv2,hu2⟩
  ·subst hv
   rw[Nat.gcd_zero_right]at hg;have hl0:(digs 0).length=0:=cX.2 rfl
   by_cases hu2:2<(digs u).length
   ·refine Bc ?_
    refine kE ?_
    refine kO3 ?_
    refine kT ?_;refine tC ?_;refine zu ?_;exact aD
   ·refine Bc ?_
    refine kE ?_;refine tC ?_;refine zu ?_;exact aD
  ·have hvl:0<(digs v).length:=by
    exact Me
   have hu64:u<18446744073709551616:=by have:=cI hu2;simpa using this
   have hv64:v<18446744073709551616:=by have:=cI hv2;simpa using this
   refine Bc ?_;refine kE ?_
   refine kO3 ?_
   refine kY ?_;refine im (T:=TT) rfl ?_ ?_
   ·exact beq_eq_false_iff_ne.2 (by omega)
   refine kW ?_;refine kQ (uy (av u) hu2) ?_;refine kQ (uy (av v) hv2) ?_;rw[ae,ae];refine ay (Nat × Nat) (fun p=>Nat.gcd p.1 p.2=Nat.gcd (val xs) (val ys)/\p.1<18446744073709551616/\p.2<18446744073709551616) (fun p=>⟨[(4, .box 2 0),(9, .d (dN .u64 p.1)),(10, .d (dN .u64 p.2))],[(2,some [.val (.bool false), .sl 0 []])]⟩) (fun p=>p.2) (u,v) ⟨hg,hu64,hv64⟩ kw ?_;clear hg hu64 hv64 g1 g2 hu2 hv2 hvl hv hb;clear u v;rintro⟨u,v⟩ ⟨hg,hu,hv⟩;dsimp only at hg hu hv ⊢;rcases Nat.eq_zero_or_pos v with h0|h0
   ·subst h0
    rw[Nat.gcd_zero_right]at hg;refine kW ?_;refine kC (xg u hu) ?_;refine zu ?_;exact aD
   ·refine bG ?_
    refine bG ?_;refine bz rfl ?_;refine kO ?_;refine kB true ?_ ?_
    ·exact bne_iff_ne.2 (by omega)
    refine kW ?_;refine aO rfl rfl rfl rfl ?_ rfl rfl (Iq (by omega)) ?_
    ·rfl
    refine kW ?_;have hm:=Nat.mod_lt u h0;refine⟨(v,u%v),⟨rT.trans hg,hv,by dsimp only;omega⟩,hm,weak ⟨rfl,rfl,?_,trivial⟩ ⟨rfl,trivial⟩ rfl⟩;show TV.d (.leaf (.val (.int .u64 ((u:Int).tmod v))))=TV.d (dN .u64 ((u%v:Nat):Int));rw[Int.ofNat_tmod];rfl
def Bs (l:List UInt8):ByteArray:=⟨l.toArray⟩
def dL (l:List UInt8):DV:=dS (Bs l)
def vL (l:List UInt8):Value:= .string (Bs l)
theorem Rk (s:ByteArray):Bs s.data.toList=s:=rfl
theorem aT (l:List UInt8):(Bs l).size=l.length:=by simp[Bs,ByteArray.size]
theorem fL (l:List UInt8):(Bs l).toList=l:=ByteArray.toList_mk l
theorem DL (a b:List UInt8):Bs a++Bs b=Bs (a++b):=by
 apply ByteArray.ext
 simp[Bs]
theorem md (l:List UInt8) (i j:Nat):(Bs l).extract i j=Bs ((l.take j).drop i):=by
 apply ByteArray.ext
 simp[Bs,ByteArray.data_extract,List.extract_eq_take_drop,List.drop_take]
theorem qv {t:TypeId} {x y:Operand} {a b:List UInt8}:lQ .eql t x y (vL a) (vL b)=some (.bool (decide (a=b))):=by
 show some (Value.bool ((Bs a).toList == (Bs b).toList))=_;rw[fL,fL]
 congr 2
 by_cases h:a=b<;>simp[h]
theorem qt {t:TypeId} {x y:Operand} {a b:List UInt8}:lQ .neq t x y (vL a) (vL b)=some (.bool (!decide (a=b))):=by
 show some (Value.bool (!((Bs a).toList == (Bs b).toList)))=_;rw[fL,fL]
 congr 3
 by_cases h:a=b<;>simp[h]
theorem iP {t:TypeId} {x y:Operand} {a b:List UInt8} (h:a.length+b.length<=9223372036854775807):lQ .add t x y (vL a) (vL b)=some (vL (a++b)):=by
 have h1:¬(((Bs a).size+(Bs b).size:Nat):Int) > IntKind.i64.max:=by
  rw[aT,aT,show IntKind.i64.max=9223372036854775807 from by decide];omega
 have:binOp .add t (vL a) (vL b)= .pure (vL (a++b)):=by
  simp only[binOp,vL,Op.stringOp,h1,if_false,DL]
  rfl
 show yt (do eqGuard .add t x y (vL a) (vL b);binOp .add t (vL a) (vL b))=_
 simp only[this]
 rfl
section
variable {P:Program} {T:TypeId->Option Ty} {n:Nat} {ops:Array Oper} {id:Nat} {draw:Bool} {K:AS->Prop} {s:AS} {k:Nat} {o:Oper} {os:List Oper} {fps:List FP}
theorem qJ {t:TypeId} {ty:Ty} (hT:aU P t ty) (hs:ty.isStr=true):P.underlying t=some .string:=by
 obtain⟨d,hu,_,_,_,_,hst,_⟩:=hT.und;rw[hu,hst hs]
theorem bQ (hT:∀t d,T t=some d->aU P t d) {t:TypeId} {ty:Ty} {x y:Operand} {l:List UInt8} {c:UInt8} {i:Nat} {ik:IntKind} (hi:l[i]? =some c) (h1:gd ops s o=some true) (h2:o.op= .index t x y) (h5:T t=some ty) (h6:ty.isStr=true) (h7:s.ev x= .d (.leaf (.val (vL l)))) (h8:s.ev y= .d (.leaf (.val (.int ik (i:Nat)))))
 (h3:aF n o.dst=true) (h4:eT draw ops (ar ops o ⟨.d (dN .u8 c.toNat),none⟩ []) k fps=true) (h:am P T n ops id draw K (k+1) os (s.eff o.dst ⟨.d (dN .u8 c.toNat),none⟩) (ar ops o ⟨.d (dN .u8 c.toNat),none⟩ []::fps)):am P T n ops id draw K k (o::os) s fps:=by
 refine .run h1 (.gen fun s2 ht _=>?_) h3 h4 h;have hx:=(an ht (x:=x) (by simp[h2,Op.operands])).trans h7;have hy:=(an ht (x:=y) (by simp[h2,Op.operands])).trans h8;have hu:=qJ (hT _ _ h5) h6;have hl:i<l.length:=(List.getElem?_eq_some_iff.1 hi).1
 refine af fun n S0 w0 g a w hM=>⟨.int .u8 c.toNat,w,?_,Below.refl _ _,AV.M.val rfl⟩
 unfold execOp;rw[h2];have hsz:=aT l
 have hget:(Bs l)[i]'(by rw[hsz];exact hl)=c:=by
  have:=(List.getElem?_eq_some_iff.1 hi).2;show(Bs l).data[i]'_=c
  simpa[Bs]using this
 simp only[aY hM hx,aY hM hy,vL,Sem.run_bind,run_index_string _ t (Bs l) ik i hu]
 rw[dif_pos (by rw[hsz];omega)]
 simp only[Result.andThen_ok,Int.toNat_natCast,hget]
 rfl
theorem IN (hT:∀t d,T t=some d->aU P t d) {t:TypeId} {ty:Ty} {x y:Operand} {l:List UInt8} {i:Nat} {ik:IntKind} (hi:i<=l.length) (h1:gd ops s o=some true) (h2:o.op= .slice t x (some y) none none) (h5:T t=some ty) (h6:ty.isStr=true) (h7:s.ev x= .d (.leaf (.val (vL l)))) (h8:s.ev y= .d (.leaf (.val (.int ik (i:Nat)))))
 (h3:aF n o.dst=true) (h4:eT draw ops (ar ops o ⟨.d (dL (l.drop i)),none⟩ []) k fps=true) (h:am P T n ops id draw K (k+1) os (s.eff o.dst ⟨.d (dL (l.drop i)),none⟩) (ar ops o ⟨.d (dL (l.drop i)),none⟩ []::fps)):am P T n ops id draw K k (o::os) s fps:=by
 refine .run h1 (.gen fun s2 ht _=>?_) h3 h4 h;have hx:=(an ht (x:=x) (by simp[h2,Op.operands])).trans h7;have hy:=(an ht (x:=y) (by simp[h2,Op.operands])).trans h8;have hu:=qJ (hT _ _ h5) h6;refine af fun n S0 w0 g a w hM=>⟨vL (l.drop i),w,?_,Below.refl _ _,AV.M.val rfl⟩
 unfold execOp;rw[h2]
 have e1:(Instr.sliceAt t (.string (Bs l)) (some (.int ik i)) none none).run P w= .ok (vL (l.drop i)) w:=by
  refine tB ?_;rw[run_slice_string_l w t (Bs l) hu ik i (by omega) (by rw[aT];omega),md,aT]
  simp[vL]
 simp only[aY hM hx,aY hM hy,vL,Option.map_some,Option.map_none,Sem.run_bind,e1,Result.andThen_ok]
 rfl
end
section
variable {P:Program} {T:TypeId->Option Ty} {n:Nat} {s:AS}
theorem j4 {x y:Code} {Q:AX->AS->Prop} (σ:AS) (hy:∀s',bi s' σ->gk P T n y Q s') (hx:∀R:AX->AS->Prop,(∀s',bi s' σ->R .normal s')->R .ret=Q .ret->gk P T n x R s):gk P T n (.seq x y) Q s:=bG (hx _ hy rfl)
theorem bi.trans {a b c:AS} (h:bi a b) (h':bi b c):bi a c:=fun n S0 w0 x w m=>h' n S0 w0 x w (h n S0 w0 x w m)
theorem MG.rename {S0:Nat->Prop} {w0:eP} {g:Nat->Nat} {a:Act} {w:World} (h:MG n S0 w0 g s a w) {j j':Nat} {cs:List AV} (hj:s.bx j=some cs) (hn:ai s.b j'=none) (hw:bR j'=bR j) (hrv:iJ j'=false) (hlb:fO j'=false):
 ∃g',MG n S0 w0 g' ⟨s.t,(j',some cs)::(j,none)::s.b⟩ a w/\(∀(m k e:Nat) (v:Value),TV.M (Own S0 g s) g s w (.own j m k e) v->TV.M (Own S0 g' ⟨s.t,(j',some cs)::(j,none)::s.b⟩) g' ⟨s.t,(j',some cs)::(j,none)::s.b⟩ w (.own j' m k e) v)/\ ∀i,i≠j'->g' i=g i:=by
 have hjj:j'≠j:=fun e=>by
  subst e;obtain⟨x,hx⟩:=AS.kn_of hj;rw[hn]at hx;cases hx
 have hkn:∀i,s.kn i->i≠j':=fun i ⟨x,hx⟩ e=>by subst e;rw[hn]at hx;cases hx
 have hbx:∀i ci,(AS.mk s.t ((j',some cs)::(j,none)::s.b)).bx i=some ci->(i=j'/\ci=cs)∨(i≠j'/\i≠j/\s.bx i=some ci):=fun i ci hi=>by
  by_cases e1:i=j'
  ·subst e1;rw[AS.bx_same]at hi;cases hi;exact .inl ⟨rfl,rfl⟩
  ·rw[AS.bx_ne _ s.t _ _ e1]at hi
   by_cases e2:i=j
   ·subst e2;rw[AS.bx_dead]at hi;cases hi
   ·rw[AS.bx_ne _ s.t _ _ e2]at hi;exact .inr ⟨e1,e2,hi⟩
 have hO:Own S0 (fun i=>if i=j' then g j else g i) (AS.mk s.t ((j',some cs)::(j,none)::s.b))=Own S0 g s:=by
  funext b
  apply propext
  constructor
  ·rintro(h0| ⟨i,ci,hi,e0⟩)
   ·exact .inl h0
   ·rcases hbx i ci hi with⟨rfl,rfl⟩| ⟨h1,h2,h3⟩
    ·simp only[if_true]at e0;exact .inr ⟨j,ci,hj,e0⟩
    ·simp only[h1,if_false]at e0;exact .inr ⟨i,ci,h3,e0⟩
  ·rintro(h0| ⟨i,ci,hi,e0⟩)
   ·exact .inl h0
   ·by_cases e2:i=j
    ·subst e2
     exact .inr ⟨j',cs,AS.bx_same _ _ _ _,by simp only[if_true];exact e0⟩
    ·have h1:=hkn i (AS.kn_of hi)
     refine .inr ⟨i,ci,?_,by simp only[h1,if_false];exact e0⟩;rw[AS.bx_ne _ s.t _ _ h1,AS.bx_ne _ s.t _ _ e2];exact hi
 have hF:iH s (AS.mk s.t ((j',some cs)::(j,none)::s.b)) g (fun i=>if i=j' then g j else g i) w w:=⟨fun z hz=>AS.kn_cons (t:=s.t) _ (AS.kn_cons (t:=s.t) _ hz),fun z cz hk hz=>by
  rcases hbx z cz hz with⟨e1,_⟩| ⟨h1,h2,h3⟩
  ·exact absurd e1 (hkn z hk)
  ·exact⟨cz,h3,Nat.le_refl _,by simp only[h1,if_false],fun a1 e1 h4=>⟨a1,h4,rfl⟩⟩⟩
 refine⟨fun i=>if i=j' then g j else g i,⟨fun i=>?_,fun i ci hi=>?_,fun i i' ci ci' hi hi' e0=>?_,h.grow,h.df.agree hF,h.sz,h.cl,h.tg,fun k cs hk=>by rw[hO];exact(h.gl k cs hk).agree (bJ.refl _ _) (fun _ _ h=>h) hF,fun i q ci h1 h2 hi=>by
  rcases hbx i ci hi with⟨e1,_⟩| ⟨h3,h4,h5⟩
  ·subst e1;rw[hrv]at h1;cases h1
  ·simp only[h3,if_false];exact h.gp i q ci h1 h2 h5,h.nk⟩,fun m k e v hm=>?_,fun i hi=>by simp only[hi,if_false]⟩
 ·rw[hO]
  exact(h.tm i).agree (bJ.refl _ _) (fun _ _ h=>h) hF
 ·rw[hO]
  rcases hbx i ci hi with⟨rfl,rfl⟩| ⟨h1,h2,h3⟩
  ·simp only[if_true]
   obtain⟨h1,arr,e1,h4,h5,h6,_⟩:=h.bm j ci hj;exact⟨h1,arr,e1,h4,h5,fun hb=>h6 (by rw[<- hw];exact hb),fun hl=>absurd hl (by rw[hlb];decide),fun ht=>absurd (mr ht) (by rw[hlb];decide)⟩
  ·simp only[h1,if_false]
   obtain⟨h4,h5⟩:=h.bm i ci h3;exact⟨h4,h5.agree rfl (bJ.refl _ _) (fun _ _ h=>h) hF⟩
 ·rcases hbx i ci hi with⟨e1,_⟩| ⟨h1,h2,h3⟩<;>rcases hbx i' ci' hi' with⟨e1',_⟩| ⟨h1',h2',h3'⟩
  ·rw[e1,e1']
  ·rw[if_pos e1,if_neg h1']at e0
   exact absurd (h.inj j i' cs ci' hj h3' e0).symm h2'
  ·rw[if_neg h1,if_pos e1']at e0
   exact absurd (h.inj i j ci cs h3 hj e0) h2
  ·rw[if_neg h1,if_neg h1']at e0
   exact h.inj i i' ci ci' h3 h3' e0
 ·obtain⟨c,e1,e2,e3,e4,e5⟩:=hm.2 cs hj
  refine⟨⟨_,ah _ _ _⟩,fun ci hc=>?_⟩;rw[AS.bx_same]at hc;cases hc
  simp only[if_true]
  exact⟨c,e1,e2,e3,e4,e5⟩
theorem MG.reslot {S0:Nat->Prop} {w0:eP} {g:Nat->Nat} {a:Act} {w:World} (h:MG n S0 w0 g s a w) {q:Nat} {x:TV} (hx:TV.M (Own S0 g s) g s w x (a.tmps.getD q Go.undef)) (hx1:og x=true) (hx2:og (s.tv q)=true):MG n S0 w0 g ⟨(q,x)::s.t,s.b⟩ a w:=by
 refine⟨fun i=>?_,fun i ci hi=>?_,h.inj,h.grow,?_,h.sz,h.cl,h.tg,fun k cs hk=>(h.gl k cs hk).sameB rfl,h.gp,h.nk⟩
 ·by_cases hi:q=i
  ·subst hi
   have e0:(AS.mk ((q,x)::s.t) s.b).tv q=x:=by simp[AS.tv,ah]
   rw[e0];exact hx.sameB rfl
  ·have e0:(AS.mk ((q,x)::s.t) s.b).tv i=s.tv i:=by simp[AS.tv,aq _ _ hi]
   rw[e0];exact(h.tm i).sameB rfl
 ·obtain⟨h1,h2⟩:=h.bm i ci hi
  exact⟨h1,h2.sameB rfl⟩
 ·by_cases hi:q=DK
  ·have e0:(AS.mk ((q,x)::s.t) s.b).tv DK=x:=by rw[<- hi];simp[AS.tv,ah]
   rw[e0];have h0:=h.df;rw[<- hi]at h0;exact(zC.no hx1).2 ((zC.no hx2).1 h0)
  ·have e0:(AS.mk ((q,x)::s.t) s.b).tv DK=s.tv DK:=by simp[AS.tv,aq _ _ hi]
   rw[e0];exact h.df.sameB rfl
theorem aA {q j j' m k e:Nat} {cs:List AV} (hq:s.tv q= .own j m k e) (hj:s.bx j=some cs) (hn:ai s.b j'=none) (hw:bR j'=bR j) (hrv:iJ j'=false:=by rfl) (hlb:fO j'=false:=by rfl):bi s ⟨(q, .own j' m k e)::s.t,(j',some cs)::(j,none)::s.b⟩:=by
 rintro n S0 w0 a w ⟨g,h⟩;obtain⟨g',h1,h2,_⟩:=h.rename hj hn hw hrv hlb;have hm:=h.tm q;rw[hq]at hm;exact⟨g',h1.reslot (h2 m k e _ hm) rfl (by show og (s.tv q)=true;rw[hq];rfl)⟩
theorem wj {i off j m k e:Nat} {cb cs:List AV} (hlbi:fO i=true) (hi:s.bx i=some cb) (hq:cb[off]? =some (.ow j m k e)) (hj:s.bx j=some cs) (hij:Nat.beq i j=false):bi s ⟨s.t,(i,some (cb.set off (.sl m cs)))::(j,none)::s.b⟩:=by
 rintro n S0 w0 a w ⟨g,h⟩;exact⟨g,h.freezeC hlbi hi hq hj (fun e=>by subst e;simp at hij)⟩
end
section
variable {P:Program} {T:TypeId->Option Ty} {n:Nat} {ops:Array Oper} {id:Nat} {draw:Bool} {K:AS->Prop} {s:AS} {k:Nat} {o:Oper} {os:List Oper} {fps:List FP}
theorem CO {t:TypeId} {ty:Ty} {x:Operand} {i off:Nat} {cs:List AV} {a:AV} (ha:cs[off]? =some a) (h1:gd ops s o=some true) (h2:o.op= .load t x) (h5:T t=some ty) (h6:ty.agg=false) (h7:ty.size=1) (h8:s.ev x= .box i off) (h9:s.bx i=some cs)
 (h3:aF n o.dst=true) (h4:eT draw ops (ar ops o ⟨.d (.leaf a),none⟩ [i]) k fps=true) (h:am P T n ops id draw K (k+1) os (s.eff o.dst ⟨.d (.leaf a),none⟩) (ar ops o ⟨.d (.leaf a),none⟩ [i]::fps)) (hlb:fO i=false:=by rfl):am P T n ops id draw K k (o::os) s fps:=by
 refine gi h1 ?_ h3 h4 h;obtain⟨hl,hg⟩:=List.getElem?_eq_some_iff.1 ha;have hb:Nat.ble (off+1) cs.length=true:=Nat.ble_eq_true_of_le hl
 have hd:(cs.drop off).take 1=[a]:=by
  rw[List.drop_eq_getElem_cons hl,hg];rfl
 unfold eK
 simp only[h2,h5,h8,h9,h6,h7,hb,hd,hlb]
 rfl
theorem xm {t:TypeId} {ty:Ty} {x y:Operand} {i off:Nat} {cs cs':List AV} {a:AV} (hl:off<cs.length) (hs:aB cs off [a]=cs') (h1:gd ops s o=some true) (h2:o.op= .store t x y) (h0:o.dst=none) (h5:T t=some ty) (h7:ty.size=1) (h8:s.ev x= .box i off) (h9:s.bx i=some cs) (h10:E5 (s.ev y)=some (.leaf a)) (h11:QT i [a]=true)
 (h4:eT draw ops (ar ops o ⟨.junk,some [(i,some cs')]⟩ [i]) k fps=true) (h:am P T n ops id draw K (k+1) os (s.eff o.dst ⟨.junk,some [(i,some cs')]⟩) (ar ops o ⟨.junk,some [(i,some cs')]⟩ [i]::fps)) (hlb:fO i=false:=by rfl):am P T n ops id draw K k (o::os) s fps:=by
 refine gi h1 ?_ (by rw[h0];rfl) h4 h;have hb:Nat.ble (off+1) cs.length=true:=Nat.ble_eq_true_of_le hl;unfold eK
 simp only[h0,h2,h5,h8,h9,h7,hb,h10,DV.cells,h11,hs,hlb,Js]
 rfl
end
theorem bO {t:TypeId} {x y:Operand} {a b:List UInt8} (h:a=b):lQ .eql t x y (vL a) (vL b)=some (.bool true):=by rw[qv,decide_eq_true h]
theorem b6 {t:TypeId} {x y:Operand} {a b:List UInt8} (h:a≠b):lQ .eql t x y (vL a) (vL b)=some (.bool false):=by rw[qv,decide_eq_false h]
theorem f6 {t:TypeId} {x y:Operand} {a b:List UInt8} (h:a≠b):lQ .neq t x y (vL a) (vL b)=some (.bool true):=by rw[qt,decide_eq_false h];rfl
theorem gY {t:TypeId} {x y:Operand} {a b:List UInt8} (h:a=b):lQ .neq t x y (vL a) (vL b)=some (.bool false):=by rw[qt,decide_eq_true h];rfl
section
variable {P:Program} {T:TypeId->Option Ty} {n:Nat} {ops:Array Oper} {id:Nat} {draw:Bool} {K:AS->Prop} {s:AS} {k:Nat} {o:Oper} {os:List Oper} {fps:List FP}
theorem LH (hT:∀t d,T t=some d->aU P t d) {t:TypeId} {ty:Ty} {x y:Operand} {l:List UInt8} {i:Nat} {ik:IntKind} (hi:i<=l.length) (h1:gd ops s o=some true) (h2:o.op= .slice t x none (some y) none) (h5:T t=some ty) (h6:ty.isStr=true) (h7:s.ev x= .d (.leaf (.val (vL l)))) (h8:s.ev y= .d (.leaf (.val (.int ik (i:Nat)))))
 (h3:aF n o.dst=true) (h4:eT draw ops (ar ops o ⟨.d (dL (l.take i)),none⟩ []) k fps=true) (h:am P T n ops id draw K (k+1) os (s.eff o.dst ⟨.d (dL (l.take i)),none⟩) (ar ops o ⟨.d (dL (l.take i)),none⟩ []::fps)):am P T n ops id draw K k (o::os) s fps:=by
 refine .run h1 (.gen fun s2 ht _=>?_) h3 h4 h;have hx:=(an ht (x:=x) (by simp[h2,Op.operands])).trans h7;have hy:=(an ht (x:=y) (by simp[h2,Op.operands])).trans h8;have hu:=qJ (hT _ _ h5) h6;refine af fun n S0 w0 g a w hM=>⟨vL (l.take i),w,?_,Below.refl _ _,AV.M.val rfl⟩
 unfold execOp;rw[h2]
 have e1:(Instr.sliceAt t (.string (Bs l)) none (some (.int ik i)) none).run P w= .ok (vL (l.take i)) w:=by
  refine tB ?_;rw[run_slice_string_h w t (Bs l) hu ik i (by omega) (by rw[aT];omega),md]
  simp[vL]
 simp only[aY hM hx,aY hM hy,vL,Option.map_some,Option.map_none,Sem.run_bind,e1,Result.andThen_ok]
 rfl
end
def eH (c:UInt8):Bool:=(decide (97<=c.toNat) && decide (c.toNat<=122)) || (decide (65<=c.toNat) && decide (c.toNat<=90))
def eF (c:UInt8):Bool:=decide (48<=c.toNat) && decide (c.toNat<=57)
def jy (c:UInt8):Bool:=eH c || eF c || decide (c.toNat=95)
def di (p:UInt8->Bool) (s:List UInt8):Nat:=(s.takeWhile p).length
theorem xv (p:UInt8->Bool) (s:List UInt8):di p s<=s.length:=by
 induction s with
 |nil=>exact Nat.le_refl _
 |cons c r ih=>
  unfold di at *;rw[List.takeWhile_cons]
  split
  ·simpa using ih
  ·simp
theorem m9 {p:UInt8->Bool}:∀{s:List UInt8} {i:Nat},(∀(q:Nat) c,q<i->s[q]? =some c->p c=true)->(s[i]? =none/\i<=s.length∨ ∃c,s[i]? =some c/\p c=false)->di p s=i
 | [],i,_,h=>by
  rcases h with⟨_,h⟩| ⟨c,h,_⟩
  ·simp at h;simp[di,h]
  ·simp at h
 |a::s,0,_,h=>by
  rcases h with⟨h,_⟩| ⟨c,h,k⟩
  ·simp at h
  ·simp at h;subst h;simp[di,List.takeWhile,k]
 |a::s,i+1,hq,h=>by
  have h0:=hq 0 a (by omega) rfl;have ih:=m9 (s:=s) (i:=i) (fun q c h1 h2=>hq (q+1) c (by omega) (by simpa using h2)) (by simpa using h);unfold di at *
  simp only[List.takeWhile,h0,List.length_cons]
  omega
def dF (f:FuncId):DV:= .leaf (.val (.func (.func f) #[] #[]))
theorem lq (c:UInt8):aa Tryz.prog 109 [dN .u8 c.toNat] (.one (dB (eH c))):=by
 by_cases h1:97<=c.toNat
 ·by_cases h2:c.toNat<=122
  ·rw[show eH c=true by unfold eH;simp[h1,h2]]
   refine kU func109 ?_;refine iD ?_;refine MC ?_;exact aD
  ·rw[show eH c=false by unfold eH;rw[decide_eq_false h2,decide_eq_false (show ¬c.toNat<=90 by omega)];simp]
   refine kU func109 ?_;refine iD ?_;refine yT ?_
   refine kO3 ?_
   refine yT ?_;exact aD
 ·by_cases h2:65<=c.toNat
  ·by_cases h3:c.toNat<=90
   ·rw[show eH c=true by unfold eH;simp[h2,h3]]
    refine kU func109 ?_;refine L5 ?_;refine MC ?_;exact aD
   ·rw[show eH c=false by unfold eH;rw[decide_eq_false h1,decide_eq_false h3];simp]
    refine kU func109 ?_;refine L5 ?_;refine yT ?_;exact aD
  ·rw[show eH c=false by unfold eH;rw[decide_eq_false h1,decide_eq_false h2];simp]
   refine kU func109 ?_;refine L5 ?_;refine kE ?_;exact aD
theorem lr (c:UInt8):aa Tryz.prog 178 [dN .u8 c.toNat] (.one (dB (eH c))):=by
 by_cases h1:97<=c.toNat
 ·by_cases h2:c.toNat<=122
  ·rw[show eH c=true by unfold eH;simp[h1,h2]]
   refine kU func178 ?_;refine iD ?_;refine MC ?_;exact aD
  ·rw[show eH c=false by unfold eH;rw[decide_eq_false h2,decide_eq_false (show ¬c.toNat<=90 by omega)];simp]
   refine kU func178 ?_;refine iD ?_;refine yT ?_
   refine kO3 ?_
   refine yT ?_;exact aD
 ·by_cases h2:65<=c.toNat
  ·by_cases h3:c.toNat<=90
   ·rw[show eH c=true by unfold eH;simp[h2,h3]]
    refine kU func178 ?_;refine L5 ?_;refine MC ?_;exact aD
   ·rw[show eH c=false by unfold eH;rw[decide_eq_false h1,decide_eq_false h3];simp]
    refine kU func178 ?_;refine L5 ?_;refine yT ?_;exact aD
  ·rw[show eH c=false by unfold eH;rw[decide_eq_false h1,decide_eq_false h2];simp]
   refine kU func178 ?_;refine L5 ?_;refine kE ?_;exact aD
theorem vk (c:UInt8):aa Tryz.prog 173 [dN .u8 c.toNat] (.one (dB (eF c))):=by
 by_cases h1:48<=c.toNat
 ·by_cases h2:c.toNat<=57
  ·rw[show eF c=true by unfold eF;simp[h1,h2]]
   refine kU func173 ?_;refine iD ?_;refine MC ?_;exact aD
  ·rw[show eF c=false by unfold eF;rw[decide_eq_false h2];simp]
   refine kU func173 ?_;refine iD ?_;refine yT ?_;exact aD
 ·rw[show eF c=false by unfold eF;rw[decide_eq_false h1];simp]
  refine kU func173 ?_;refine iD ?_;refine kE ?_;exact aD
theorem nH (c:UInt8):aa Tryz.prog 179 [dN .u8 c.toNat] (.one (dB (eF c))):=by
 by_cases h1:48<=c.toNat
 ·by_cases h2:c.toNat<=57
  ·rw[show eF c=true by unfold eF;simp[h1,h2]]
   refine kU func179 ?_;refine iD ?_;refine MC ?_;exact aD
  ·rw[show eF c=false by unfold eF;rw[decide_eq_false h2];simp]
   refine kU func179 ?_;refine iD ?_;refine yT ?_;exact aD
 ·rw[show eF c=false by unfold eF;rw[decide_eq_false h1];simp]
  refine kU func179 ?_;refine iD ?_;refine kE ?_;exact aD
theorem x6 (c:UInt8):aa Tryz.prog 111 [dN .u8 c.toNat] (.one (dB (jy c))):=by
 have c1:=lq c;have c2:=vk c;unfold jy;cases h1:eH c
 ·rw[h1]at c1
  cases h2:eF c
  ·rw[h2]at c2
   refine kU func111 ?_;refine mb ?_;refine kC (c2) ?_
   refine kO3 ?_
   by_cases h3:c.toNat=95
   ·refine kT ?_
    rw[decide_eq_true h3];exact aD
   ·refine kE ?_
    rw[decide_eq_false h3];exact aD
  ·rw[h2]at c2
   refine kU func111 ?_;refine mb ?_;refine kC (c2) ?_;exact aD
 ·rw[h1]at c1
  refine kU func111 ?_;exact MO
theorem Ey {fid:FuncId} {p:UInt8->Bool} (hp:∀c:UInt8,aa Tryz.prog fid [dN .u8 c.toNat] (.one (dB (p c)))) (s:List UInt8) (hl:s.length<=4611686018427387904):aa Tryz.prog 110 [dL s,dF fid] (.one (dN .i64 (di p s))):=by
 have hB:=aT s;refine kV func110 ?_
 refine ay Nat (fun i=>i<=s.length/\ ∀(q:Nat) c,q<i->s[q]? =some c->p c=true) (fun i=>⟨[(0, .d (dL s)),(1, .d (dF fid)),(4, .d (dN .i64 0)),(5, .d (dN .i64 i))],[]⟩) (fun i=>s.length-i) 0 ⟨Nat.zero_le _,fun q c h=>absurd h (Nat.not_lt_zero _)⟩
  kw ?_
 rintro i ⟨hi,hq⟩;refine kI ?_
 refine kO3 ?_
 by_cases hlt:i<s.length
 ·have hx:s[i]? =some s[i]:=by simp[hlt]
  have hc:=hp s[i];refine kT ?_
  refine kO4 ?_
  refine bQ ac (i:=i) (c:=s[i]) hx rfl rfl rfl rfl rfl rfl rfl rfl ?_;cases hb:p s[i]
  ·rw[hb]at hc
   refine kQ (hc) ?_;rw[m9 hq (.inr ⟨_,hx,hb⟩)];exact de (T:=TT) rfl rfl
  ·rw[hb]at hc
   refine kQ (hc) ?_
   exact⟨i+1,⟨hlt,fun q c h1 h2=>by
    by_cases e:q=i
    ·subst e;rw[hx]at h2;cases h2;exact hb
    ·exact hq q c (by omega) h2⟩,by omega,weak ⟨rfl,rfl,rfl,ak (by omega) (by omega),trivial⟩ trivial rfl⟩
 ·refine kE ?_
  refine kW ?_;rw[m9 hq (.inl ⟨List.getElem?_eq_none (by omega),hi⟩)];exact de (T:=TT) rfl rfl
def ON (s:List UInt8):Nat:=if s[di eF s]? =some 46/\0<di eF (s.drop (di eF s+1))then di eF s+1+di eF (s.drop (di eF s+1))else di eF s
def OT:List UInt8->Nat->Nat
 | [],_=>0
 | [c],i=>if c=34 then i+1 else 0
 |c::d::r,i=>if c=34 then i+1 else if c.toNat<32 then 0 else if c=92 then(if Lib.indexByte [34,92,110] d<0 then 0 else OT r (i+2))else OT (d::r) (i+1)
def SN (s:List UInt8):Nat:=OT (s.drop 1) 1
theorem Ft {c:UInt8} {n:UInt8} (h:¬c=n):¬c.toNat=n.toNat:=fun e=>h (UInt8.toNat_inj.1 e)
def r7:List UInt8:=[43,45,42,47,40,41,91,93,123,125,44,58,59,61,46,60,62,64,35]
def O6 (c:UInt8):Bool:=decide (0<=Lib.indexByte r7 c)
def Pt:List UInt8->Nat × Nat
 | []=>(0,0)
 |c::r=>if eH c then(1,di jy (c::r))else if eF c then(2,ON (c::r))else if c=34 then(3,SN (c::r))else if c=10 then(5,1)else if O6 c then(4,1)else(0,0)
end Go.Proofs.YtmkggcjajcdlcaaGreatDoor
