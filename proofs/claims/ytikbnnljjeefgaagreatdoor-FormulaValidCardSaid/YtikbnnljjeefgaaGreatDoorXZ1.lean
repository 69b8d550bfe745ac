/- Parts of a proof: contracts of the functions that the laws reach. -/
import Derived.Test.YtikbnnljjeefgaaGreatDoorXAmI
import Derived.Test.YtikbnnljjeefgaaGreatDoorXLSqrt
import Derived.Test.YtikbnnljjeefgaaGreatDoorXAh
import Derived.Test.YtikbnnljjeefgaaGreatDoorXLaw
import Derived.Laws.BytesArg
import Derived.Laws.Strings2
import Derived.Laws.IdiomStrings
import Derived.Test.YtikbnnljjeefgaaGreatDoorXShelf
import Derived.Lib.Bytealg
set_option maxHeartbeats 100000000
set_option linter.all false
open Go.Proofs.Tryz
namespace Go.Proofs.YtikbnnljjeefgaaGreatDoor
open Go.RowKit
def ot (xs:List Nat):Prop:=xs.length≤2147483648
def eB (z:Int):Prop:=(digs z.natAbs).length≤2147483648
theorem eB.of_lt {z:Int} {k:Nat} (h:z.natAbs<4294967296^k) (hk:k≤2147483648):eB z:=Nat.le_trans (aN h) hk
theorem eB.small {z:Int} (h:z.natAbs<4294967296):eB z:= .of_lt (k:=1) (by simpa using h) (by decide)
theorem xH {na nb:Bool} {xs ys:List Nat} (hw:Wd xs) (hw':Wd ys) (h1:ot xs) (h2:ot ys) {z:Int} (hz:ak na xs+ak nb ys=z):aa Tryz.prog 232 [dI na xs,dI nb ys] (.one (dZ z)):=
 Gj (aD func232 rfl rfl) hw hw' (fun v u w h k=>by have:=Jb v u na nb xs ys w h k h1 h2;rwa[hz]at this) (fun _ _ _ _ hS h=>eQ hS h)
theorem AA {a b:Int} (h1:eB a) (h2:eB b):aa Tryz.prog 232 [dZ a,dZ b] (.one (dZ (a+b))):=xH (ar _) (ar _) h1 h2 (by rw[aT,aT])
theorem EH {na nb:Bool} {xs ys:List Nat} (hw:Wd xs) (hw':Wd ys) (h1:ot xs) (h2:ot ys) {z:Int} (hz:ak na xs*ak nb ys=z):aa Tryz.prog 138 [dI na xs,dI nb ys] (.one (dZ z)):=
 Gj (aD func138 rfl rfl) hw hw' (fun v u w h k=>by have:=GC v u na nb xs ys w h k h1 h2;rwa[hz]at this) (fun _ _ _ _ hS h=>eQ hS h)
theorem fa {a b:Int} (h1:eB a) (h2:eB b):aa Tryz.prog 138 [dZ a,dZ b] (.one (dZ (a*b))):=EH (ar _) (ar _) h1 h2 (by rw[aT,aT])
theorem BT {na nb:Bool} {xs ys:List Nat} (hw:Wd xs) (hw':Wd ys) (h1:ot xs) (h2:ot ys) {z:Int} (hz:ak na xs+ak nb ys=z):aa Tryz.prog 180 [dI na xs,dI nb ys] (.one (dZ z)):=
 Gj (aD func180 rfl rfl) hw hw' (fun v u w h k=>by have:=yI v u na nb xs ys w h k h1 h2;rwa[hz]at this) (fun _ _ _ _ hS h=>eQ hS h)
theorem qc {a b:Int} (h1:eB a) (h2:eB b):aa Tryz.prog 180 [dZ a,dZ b] (.one (dZ (a+b))):=BT (ar _) (ar _) h1 h2 (by rw[aT,aT])
theorem Bk {na nb:Bool} {xs ys:List Nat} (hw:Wd xs) (hw':Wd ys) (h1:ot xs) (h2:ot ys) {z:Int} (hz:ak na xs*ak nb ys=z):aa Tryz.prog 104 [dI na xs,dI nb ys] (.one (dZ z)):=
 Gj (aD func104 rfl rfl) hw hw' (fun v u w h k=>by have:=DY v u na nb xs ys w h k h1 h2;rwa[hz]at this) (fun _ _ _ _ hS h=>eQ hS h)
theorem eJ {a b:Int} (h1:eB a) (h2:eB b):aa Tryz.prog 104 [dZ a,dZ b] (.one (dZ (a*b))):=Bk (ar _) (ar _) h1 h2 (by rw[aT,aT])
theorem Dy {na:Bool} {xs:List Nat} (hw:Wd xs) (h1:ot xs) {z:Int} (hz: -(ak na xs)=z):aa Tryz.prog 165 [dI na xs] (.one (dZ z)):=
 He (aD func165 rfl rfl) hw (fun v w h=>by have:=Iy v na xs w h h1;rwa[hz]at this) (fun _ _ _ _ hS h=>eQ hS h)
theorem tc {a:Int} (h1:eB a):aa Tryz.prog 165 [dZ a] (.one (dZ (- a))):=Dy (ar _) h1 (by rw[aT])
theorem yY {na:Bool} {xs:List Nat} (hw:Wd xs) {z:Int} (hz:(ak na xs)=z):aa Tryz.prog 102 [dI na xs] (.one (dZ z)):=
 He (aD func102 rfl rfl) hw (fun v w h=>by have:=eF v na xs w h;rwa[hz]at this) (fun _ _ _ _ hS h=>eQ hS h)
theorem Bx {na:Bool} {xs:List Nat} (hw:Wd xs) {z:Int} (hz: -(ak na xs)=z):aa Tryz.prog 199 [dI na xs] (.one (dZ z)):=
 He (aD func199 rfl rfl) hw (fun v w h=>by have:=D5 v na xs w h;rwa[hz]at this) (fun _ _ _ _ hS h=>eQ hS h)
theorem mB (a:Int):aa Tryz.prog 199 [dZ a] (.one (dZ (- a))):=Bx (ar _) (by rw[aT])
theorem yW {S:Nat→Prop} {w w':World} {e:Ending} {z:Int} (hr:qV z w e w'):rM S (.one (dN .i64 z)) w e w':=by
 obtain⟨rfl,hb⟩:=hr;exact⟨_,rfl,AV.M.val rfl,hb⟩
theorem oA {na:Bool} {xs:List Nat} (hw:Wd xs) {z:Int} (hz:(ak na xs).sign=z):aa Tryz.prog 129 [dI na xs] (.one (dN .i64 z)):=
 He (aD func129 rfl rfl) hw (fun v w h=>by have:=x9 v na xs w h;first|rwa[hz]at this|rwa[wG,hz]at this) (fun _ _ _ _ _ h=>yW h)
theorem y7 (a:Int):aa Tryz.prog 129 [dZ a] (.one (dN .i64 a.sign)):=oA (ar _) (by rw[aT])
theorem mq {na:Bool} {xs:List Nat} (hw:Wd xs) {z:Int} (hz:(ak na xs).sign=z):aa Tryz.prog 96 [dI na xs] (.one (dN .i64 z)):=
 He (aD func96 rfl rfl) hw (fun v w h=>by have:=zI v na xs w h;first|rwa[hz]at this|rwa[wG,hz]at this) (fun _ _ _ _ _ h=>yW h)
theorem ky (a:Int):aa Tryz.prog 96 [dZ a] (.one (dN .i64 a.sign)):=mq (ar _) (by rw[aT])
theorem fw {na:Bool} {xs:List Nat} (hw:Wd xs) {b:Bool} (hb:dz na xs=b):aa Tryz.prog 128 [dI na xs] (.one (dB b)):=
 He (aD func128 rfl rfl) hw (fun v w h=>by have:=FO v na xs w h;rwa[hb]at this) (fun _ _ _ _ _ h=>ya h)
theorem eP {na:Bool} {xs:List Nat} (hw:Wd xs) {b:Bool} (hb:dz na xs=b):aa Tryz.prog 95 [dI na xs] (.one (dB b)):=
 He (aD func95 rfl rfl) hw (fun v w h=>by have:=C5 v na xs w h;rwa[hb]at this) (fun _ _ _ _ _ h=>ya h)
theorem Dm {na nb:Bool} {xs ys:List Nat} (hw:Wd xs) (hw':Wd ys) {z:Int} (hz:bK (ak na xs) (ak nb ys)=z):aa Tryz.prog 90 [dI na xs,dI nb ys] (.one (dN .i64 z)):=
 Gj (aD func90 rfl rfl) hw hw' (fun v u w h k=>by have:=IK v u na nb xs ys w h k;rwa[hz]at this) (fun _ _ _ _ _ h=>yW h)
theorem Bm (a b:Int):aa Tryz.prog 90 [dZ a,dZ b] (.one (dN .i64 (bK a b))):=Dm (ar _) (ar _) (by rw[aT,aT])
theorem fR (k:Int) (h1: -9223372036854775808≤k) (h2:k<9223372036854775808):aa Tryz.prog 89 [dN .i64 k] (.one (dZ k)):=
 ⟨aD func89 rfl rfl,fun S w vs hS hv=>by
  match vs,hv with
  | [v],⟨h,_⟩=>
   obtain rfl:=bQ h;exact(sV k h1 h2 w).mono fun e w' he=>eQ hS he⟩
theorem cS (k:Int) (h1: -9223372036854775808≤k) (h2:k<9223372036854775808):aa Tryz.prog 65 [dN .i64 k] (.one (dZ k)):=
 ⟨aD func65 rfl rfl,fun S w vs hS hv=>by
  match vs,hv with
  | [v],⟨h,_⟩=>
   obtain rfl:=bQ h;exact(pT k h1 h2 w).mono fun e w' he=>eQ hS he⟩
theorem F4 {na nb:Bool} {xs ys:List Nat} {b:Bool} (hw:Wd xs) (hw':Wd ys) (hb:sameB na nb xs ys=b):aa Tryz.prog 66 [dI na xs,dI nb ys] (.one (dB b)):=
 Gj (aD func66 rfl rfl) hw hw' (fun v u w h k=>by have:=FE v u na nb xs ys w h k;rwa[hb]at this) (fun _ _ _ _ _ h=>ya h)
theorem Ck (a b:Int):aa Tryz.prog 66 [dZ a,dZ b] (.one (dB (decide (a=b)))):=F4 (ar _) (ar _) (AY a b)
theorem Dz {na:Bool} {xs:List Nat}:ak na xs=0↔val xs=0:=by unfold ak;cases na<;>simp
theorem vX {na nb:Bool} {xs ys:List Nat} (hw:Wd xs) (hw':Wd ys) (h1:ot xs) (h2:ot ys) (h0:ak nb ys≠0) {q r:Int} (hq:(ak na xs).fdiv (ak nb ys)=q) (hr:(ak na xs).fmod (ak nb ys)=r):aa Tryz.prog 193 [dI na xs,dI nb ys] (.tup [dZ q,dZ r,dN .i64 0]):=
 Gj (aD func193 rfl rfl) hw hw' (fun v u w h k=>by
  have hy:val ys≠0:=fun e=>h0 (Dz.2 e)
  have:=Du v u na nb xs ys w h k h1 h2 (Gh (by have:=bG hw;unfold trim at this;unfold ot at h1;omega) (by omega)) hy
  rwa[hq,hr]at this) (fun _ _ _ _ hS h=>zB hS h)
theorem um {na nb:Bool} {xs ys:List Nat} (hw:Wd xs) (hw':Wd ys) (h1:ot xs) (h2:ot ys) (h0:ak nb ys≠0) {q r:Int} (hq:(ak na xs).fdiv (ak nb ys)=q) (hr:(ak na xs).fmod (ak nb ys)=r):aa Tryz.prog 149 [dI na xs,dI nb ys] (.tup [dZ q,dZ r,dN .i64 0]):=
 Gj (aD func149 rfl rfl) hw hw' (fun v u w h k=>by
  have:=By v u na nb xs ys w h k h1 h2 h0
  rwa[hq,hr]at this) (fun _ _ _ _ hS h=>zB hS h)
section
open Go.ChangeShapes Go.WideShapes Go.ChangeAt Go.RowKit Go.Joins
theorem J6 (w:World) (hT:da (fun _=>False) w):da (fun _=>False) w:=hT
theorem js {f:FuncId} {ds:List DV} (h:aa Tryz.prog f ds (.one (dB true))) {w:World} (hT:da (fun _=>False) w) {vs:List Value} (hv:VM (fun _=>False) w ds vs):Calls Tryz.prog f vs.toArray w (pt true w):=
 (h.calls _ w vs (J6 w hT) hv).mono fun e w' ⟨v,he,hm,hb⟩=>by
  obtain rfl:=bQ (show AV.M _ _ _ _ from hm);exact⟨he,hb⟩
end
def dW (xs:List Nat):DV:= .leaf (aW xs)
theorem zz {S:Nat→Prop} {w w':World} {e:Ending} {q r:Nat} (h:da S w) (hr:iA q r w e w'):rM S (.tup [dW (digs q),dW (digs r)]) w e w':=by
 obtain⟨A,n,c,B,m,d,rfl,hq,hr,hb⟩:=hr;refine⟨_,rfl,⟨[.slice A n c, .slice B m d],rfl,rfl,fun i x u h1 h2=>?_⟩,hb⟩
 match i with
 |0=>simp at h1 h2;subst h1 h2;exact pb (h.grow hb) hq
 |1=>simp at h1 h2;subst h1 h2;exact pb (h.grow hb) hr
 |i+2=>simp at h1
theorem sY {xs:List Nat} (hw:Wd xs):aa Tryz.prog 137 [dW xs] (.one (dW (trim xs))):=
 ⟨aD func137 rfl rfl,fun S w vs hS hv=>by
  match vs,hv with
  | [v],⟨h,_⟩=>
   obtain⟨A,n,c,rfl,hx⟩:=gO h hw;refine(bA A n c xs w hx).mono ?_;rintro e w' ⟨rfl,rfl⟩;exact⟨_,rfl,pb hS hx.trim,Below.refl _ _⟩⟩
theorem rn {xs:List Nat} (hw:Wd xs):aa Tryz.prog 146 [dW xs] (.one (dW (trim xs))):=
 ⟨aD func146 rfl rfl,fun S w vs hS hv=>by
  match vs,hv with
  | [v],⟨h,_⟩=>
   obtain⟨A,n,c,rfl,hx⟩:=gO h hw;refine(bT A n c xs w hx).mono ?_;rintro e w' ⟨rfl,rfl⟩;exact⟨_,rfl,pb hS hx.trim,Below.refl _ _⟩⟩
theorem oZ {a b:Nat} (h:(digs a).length≤2147483648) (hb:0<b):aa Tryz.prog 160 [dW (digs a),dW (digs b)] (.tup [dW (digs (a/b)),dW (digs (a%b))]):=
 ⟨aD func160 rfl rfl,fun S w vs hS hv=>by
  match vs,hv with
  | [v,u],⟨h1,h2,_⟩=>
   obtain⟨A,n,c,rfl,hx⟩:=gO h1 (ar _);obtain⟨B,m,d,rfl,hy⟩:=gO h2 (ar _);exact(Gh h hb A n c B m d w hx hy).mono fun e w' he=>zz hS he⟩
theorem ul {a b:Nat} (h:(digs a).length≤2147483648) (hb:0<b):aa Tryz.prog 147 [dW (digs a),dW (digs b)] (.tup [dW (digs (a/b)),dW (digs (a%b))]):=
 ⟨aD func147 rfl rfl,fun S w vs hS hv=>by
  match vs,hv with
  | [v,u],⟨h1,h2,_⟩=>
   obtain⟨A,n,c,rfl,hx⟩:=gO h1 (ar _);obtain⟨B,m,d,rfl,hy⟩:=gO h2 (ar _);exact(Dx h hb A n c B m d w hx hy).mono fun e w' he=>zz hS he⟩
theorem gF {neg:Bool} {xs:List Nat} (hw:Wd xs) {z:Int} (hz:ak neg xs=z):aa Tryz.prog 133 [dB neg,dW xs] (.one (dZ z)):=
 ⟨aD func133 rfl rfl,fun S w vs hS hv=>by
  match vs,hv with
  | [v,u],⟨h1,h2,_⟩=>
   obtain rfl:=bQ h1;obtain⟨A,n,c,rfl,hx⟩:=gO h2 hw;exact(bM hx hz).mono fun e w' he=>eQ hS he⟩
theorem vj {neg:Bool} {xs:List Nat} (hw:Wd xs) {z:Int} (hz:ak neg xs=z):aa Tryz.prog 99 [dB neg,dW xs] (.one (dZ z)):=
 ⟨aD func99 rfl rfl,fun S w vs hS hv=>by
  match vs,hv with
  | [v,u],⟨h1,h2,_⟩=>
   obtain rfl:=bQ h1;obtain⟨A,n,c,rfl,hx⟩:=gO h2 hw;exact(cU hx hz).mono fun e w' he=>eQ hS he⟩
theorem vW {xs:List Nat} (hw:Wd xs) (hl:xs.length≤4294967296):aa Tryz.prog 47 [dW xs] (.one (dW xs)):=
 ⟨aD func47 rfl rfl,fun S w vs hS hv=>by
  match vs,hv with
  | [v],⟨h,_⟩=>
   obtain⟨A,n,c,rfl,hx⟩:=gO h hw;refine(jp A n c xs w hx (by rw[← hx.len];exact hl)).mono ?_;rintro e w' ⟨A',n',c',zs,rfl,hz,rfl,hb⟩;exact⟨_,rfl,pb (hS.grow hb) hz,hb⟩⟩
theorem tf {xs:List Nat} (hw:Wd xs) (hl:xs.length≤2):aa Tryz.prog 161 [dW xs] (.one (dN .u64 (val xs))):=
 ⟨aD func161 rfl rfl,fun S w vs hS hv=>by
  match vs,hv with
  | [v],⟨h,_⟩=>
   obtain⟨A,n,c,rfl,hx⟩:=gO h hw;refine(pW A n c xs w hx (by rw[← hx.len];exact hl)).mono ?_;rintro e w' ⟨rfl,hb⟩;exact⟨_,rfl,AV.M.val rfl,hb⟩⟩
theorem xz (n:Nat) (hn:n<18446744073709551616):aa Tryz.prog 134 [dN .u64 n] (.one (dW (digs n))):=
 ⟨aD func134 rfl rfl,fun S w vs hS hv=>by
  match vs,hv with
  | [v],⟨h,_⟩=>
   obtain rfl:=bQ h;refine(gb n hn w).mono ?_;rintro e w' ⟨A',n',c',zs,rfl,hz,rfl,hb⟩;exact⟨_,rfl,pb (hS.grow hb) hz,hb⟩⟩
theorem cu {n:Nat}:(digs n).length=0↔n=0:=by
 constructor
 ·intro h;exact eN.1 (List.eq_nil_of_length_eq_zero h)
 ·rintro rfl;rw[aF];rfl
theorem nB {a b:Nat}:Nat.gcd b (a%b)=Nat.gcd a b:=by rw[Nat.gcd_comm a b,Nat.gcd_rec b a,Nat.gcd_comm]
theorem tK {na nb:Bool} {xs ys:List Nat} (hw:Wd xs) (hw':Wd ys) (h1:ot xs) (h2:ot ys):aa Tryz.prog 98 [dI na xs,dI nb ys] (.one (dZ (Nat.gcd (val xs) (val ys)))):=by
 have f1:(digs (val xs)).length≤2147483648:=by have:=bG hw;unfold trim at this;unfold ot at h1;omega
 have f2:(digs (val ys)).length≤2147483648:=by have:=bG hw';unfold trim at this;unfold ot at h2;omega
 refine kV func98 ?_;refine kQ (rn hw) ?_;refine kQ (rn hw') ?_;refine bh (Nat × Nat) (fun p=>Nat.gcd p.1 p.2=Nat.gcd (val xs) (val ys)∧(digs p.1).length≤2147483648∧(digs p.2).length≤2147483648) (fun p=>⟨[(4, .box 2 0),(5, .d (dW (digs p.1))),(6, .d (dW (digs p.2)))],[(2,some [.val (.bool false), .sl 0 []])]⟩) (fun p=>p.2) (val xs,val ys) ⟨rfl,f1,f2⟩ (weak ⟨rfl,rfl,rfl,trivial⟩ ⟨rfl,trivial⟩ rfl) ?_;rintro⟨u,v⟩ ⟨hg,g1,g2⟩;dsimp only at hg g1 g2 ⊢;refine kW ?_;refine gm rfl (fun h=>?_) (fun h=>?_)
 ·have hv:0<v:=by
   rcases Nat.eq_zero_or_pos v with hv|hv
   ·have:=of_decide_eq_true h;rw[cu.2 hv]at this;omega
   ·exact hv
  refine bU ?_;refine kW ?_;refine kQ (ul g1 hv) ?_;have hm:=Nat.mod_lt u hv;refine⟨(v,u%v),⟨nB.trans hg,g2,Nat.le_trans (dC (Nat.le_of_lt hm)) g2⟩,hm,weak ⟨rfl,rfl,rfl,trivial⟩ ⟨rfl,trivial⟩ rfl⟩
 ·have hv:v=0:=by
   have:=of_decide_eq_false h;exact cu.1 (by omega)
  subst hv;rw[Nat.gcd_zero_right]at hg;refine eM ?_;refine kW ?_;refine ae (vj (neg:=false) (xs:=digs u) (ar _) (show ak false (digs u)=((Nat.gcd (val xs) (val ys):Nat):Int) by rw[jx,← hg];rfl)) rfl rfl rfl rfl rfl rfl rfl ?_;exact kF
theorem wi {na nb:Bool} {xs ys:List Nat} (hw:Wd xs) (hw':Wd ys) (h1:ot xs) (h2:ot ys):aa Tryz.prog 131 [dI na xs,dI nb ys] (.one (dZ (Nat.gcd (val xs) (val ys)))):=by
 have f1:(digs (val xs)).length≤2147483648:=by have:=bG hw;unfold trim at this;unfold ot at h1;omega
 have f2:(digs (val ys)).length≤2147483648:=by have:=bG hw';unfold trim at this;unfold ot at h2;omega
 refine kV func131 ?_;refine kQ (sY hw) ?_;refine kQ (sY hw') ?_;refine bh (Nat × Nat) (fun p=>Nat.gcd p.1 p.2=Nat.gcd (val xs) (val ys)∧(digs p.1).length≤2147483648∧(digs p.2).length≤2147483648) (fun p=>⟨[(4, .box 2 0),(5, .d (dW (digs p.1))),(6, .d (dW (digs p.2)))],[(2,some [.val (.bool false), .sl 0 []])]⟩) (fun p=>p.2) (val xs,val ys) ⟨rfl,f1,f2⟩ (weak ⟨rfl,rfl,rfl,trivial⟩ ⟨rfl,trivial⟩ rfl) ?_;rintro⟨u,v⟩ ⟨hg,g1,g2⟩;dsimp only at hg g1 g2 ⊢
 by_cases hb:2<(digs v).length∨(2<(digs u).length∧0<(digs v).length)
 ·have hv:0<v:=by
   rcases Nat.eq_zero_or_pos v with hv|hv
   ·rw[hv,aF]at hb;simp at hb
   ·exact hv
  have hm:=Nat.mod_lt u hv
  by_cases h2:2<(digs v).length
  ·refine aL ?_
   refine aq rfl ?_
   refine kO2 ?_
   refine kX ?_;refine kQ (oZ g1 hv) ?_;exact⟨(v,u%v),⟨nB.trans hg,g2,Nat.le_trans (dC (Nat.le_of_lt hm)) g2⟩,hm,weak ⟨rfl,rfl,rfl,trivial⟩ ⟨rfl,trivial⟩ rfl⟩
  ·have h3:2<(digs u).length∧0<(digs v).length:=by omega
   refine aL ?_;refine aq rfl ?_
   refine kO2 ?_
   refine kE ?_
   refine kO3 ?_
   refine kT ?_
   refine kO3 ?_
   refine kX ?_;refine kQ (oZ g1 hv) ?_;exact⟨(v,u%v),⟨nB.trans hg,g2,Nat.le_trans (dC (Nat.le_of_lt hm)) g2⟩,hm,weak ⟨rfl,rfl,rfl,trivial⟩ ⟨rfl,trivial⟩ rfl⟩
 ·have hz:v=0∨(0<v∧(digs v).length≤2∧(digs u).length≤2):=by
   rcases Nat.eq_zero_or_pos v with hv|hv
   ·exact .inl hv
   ·have:0<(digs v).length:=by
     rcases Nat.eq_zero_or_pos (digs v).length with h|h
     ·have:=cu.1 h;omega
     ·exact h
    exact .inr ⟨hv,by omega,by omega⟩
  rcases hz with hv| ⟨hv,hv2,hu2⟩
  ·subst hv
   rw[Nat.gcd_zero_right]at hg;have hl0:(digs 0).length=0:=cu.2 rfl
   by_cases hu2:2<(digs u).length
   ·refine aL ?_
    refine aq rfl ?_
    refine kO2 ?_
    refine kE ?_
    refine kO3 ?_
    refine kT ?_
    refine kO3 ?_
    refine kY ?_;refine eW (T:=TT) rfl ?_ ?_
    ·exact(by rw[hl0];rfl)
    refine kW ?_;refine ae (vW (ar u) (by omega)) rfl rfl rfl rfl rfl rfl rfl ?_;refine kW ?_;refine ae (gF (neg:=false) (xs:=digs u) (ar _) (show ak false (digs u)=((Nat.gcd (val xs) (val ys):Nat):Int) by rw[jx,← hg];rfl)) rfl rfl rfl rfl rfl rfl rfl ?_;exact kF
   ·refine aL ?_
    refine aq rfl ?_
    refine kO2 ?_
    refine kE ?_
    refine kO3 ?_
    refine kY ?_;refine eW (T:=TT) rfl ?_ ?_
    ·exact(by rw[hl0];rfl)
    refine kW ?_;refine ae (vW (ar u) (by omega)) rfl rfl rfl rfl rfl rfl rfl ?_;refine kW ?_;refine ae (gF (neg:=false) (xs:=digs u) (ar _) (show ak false (digs u)=((Nat.gcd (val xs) (val ys):Nat):Int) by rw[jx,← hg];rfl)) rfl rfl rfl rfl rfl rfl rfl ?_;exact kF
  ·have hvl:0<(digs v).length:=by
    rcases Nat.eq_zero_or_pos (digs v).length with h|h
    ·have:=cu.1 h;omega
    ·exact h
   have hu64:u<18446744073709551616:=by have:=cH hu2;simpa using this
   have hv64:v<18446744073709551616:=by have:=cH hv2;simpa using this
   refine aL ?_;refine aq rfl ?_
   refine kO2 ?_
   refine kE ?_
   refine kO3 ?_
   refine kY ?_;refine dJ (T:=TT) rfl ?_ ?_
   ·exact beq_eq_false_iff_ne.2 (by omega)
   refine kW ?_;refine kQ (tf (ar u) hu2) ?_;refine kQ (tf (ar v) hv2) ?_;rw[af,af];refine bh (Nat × Nat) (fun p=>Nat.gcd p.1 p.2=Nat.gcd (val xs) (val ys)∧p.1<18446744073709551616∧p.2<18446744073709551616) (fun p=>⟨[(4, .box 2 0),(9, .d (dN .u64 p.1)),(10, .d (dN .u64 p.2))],[(2,some [.val (.bool false), .sl 0 []])]⟩) (fun p=>p.2) (u,v) ⟨hg,hu64,hv64⟩ (weak ⟨rfl,rfl,rfl,trivial⟩ ⟨rfl,trivial⟩ rfl) ?_;clear hg hu64 hv64 g1 g2 hu2 hv2 hvl hv hb;clear u v;rintro⟨u,v⟩ ⟨hg,hu,hv⟩;dsimp only at hg hu hv ⊢;rcases Nat.eq_zero_or_pos v with h0|h0
   ·subst h0
    rw[Nat.gcd_zero_right]at hg;refine kW ?_;refine kQ (xz u hu) ?_;refine ae (gF (neg:=false) (xs:=digs u) (ar _) (show ak false (digs u)=((Nat.gcd (val xs) (val ys):Nat):Int) by rw[jx,← hg];rfl)) rfl rfl rfl rfl rfl rfl rfl ?_;exact kF
   ·refine aL ?_
    refine aL ?_;refine aq rfl ?_;refine kO ?_;refine kB true ?_ ?_
    ·exact bne_iff_ne.2 (by omega)
    refine kW ?_;refine aj rfl rfl rfl rfl ?_ rfl rfl (ri (by omega)) ?_
    ·rfl
    refine kW ?_;have hm:=Nat.mod_lt u h0;refine⟨(v,u%v),⟨nB.trans hg,hv,by dsimp only;omega⟩,hm,weak ⟨rfl,rfl,?_,trivial⟩ ⟨rfl,trivial⟩ rfl⟩;show TV.d (.leaf (.val (.int .u64 ((u:Int).tmod v))))=TV.d (dN .u64 ((u%v:Nat):Int));rw[Int.ofNat_tmod];rfl
def Bs (l:List UInt8):ByteArray:=⟨l.toArray⟩
def dL (l:List UInt8):DV:=dS (Bs l)
def vL (l:List UInt8):Value:= .string (Bs l)
theorem wq (s:ByteArray):Bs s.data.toList=s:=rfl
theorem au (l:List UInt8):(Bs l).size=l.length:=by simp[Bs,ByteArray.size]
theorem lQ (l:List UInt8):(Bs l).toList=l:=ByteArray.toList_mk l
theorem AZ (a b:List UInt8):Bs a++Bs b=Bs (a++b):=by
 apply ByteArray.ext
 simp[Bs]
theorem j3 (l:List UInt8) (i j:Nat):(Bs l).extract i j=Bs ((l.take j).drop i):=by
 apply ByteArray.ext
 simp[Bs,ByteArray.data_extract,List.extract_eq_take_drop,List.drop_take]
theorem jv {t:TypeId} {x y:Operand} {a b:List UInt8}:nR .eql t x y (vL a) (vL b)=some (.bool (decide (a=b))):=by
 show some (Value.bool ((Bs a).toList == (Bs b).toList))=_;rw[lQ,lQ]
 congr 2
 by_cases h:a=b<;>simp[h]
theorem mW {t:TypeId} {x y:Operand} {a b:List UInt8}:nR .neq t x y (vL a) (vL b)=some (.bool (!decide (a=b))):=by
 show some (Value.bool (!((Bs a).toList == (Bs b).toList)))=_;rw[lQ,lQ]
 congr 3
 by_cases h:a=b<;>simp[h]
theorem aH {t:TypeId} {x y:Operand} {a b:List UInt8} (h:a.length+b.length≤9223372036854775807):nR .add t x y (vL a) (vL b)=some (vL (a++b)):=by
 have h1:¬(((Bs a).size+(Bs b).size:Nat):Int) > IntKind.i64.max:=by
  rw[au,au,show IntKind.i64.max=9223372036854775807 from by decide];omega
 have:binOp .add t (vL a) (vL b)= .pure (vL (a++b)):=by
  simp only[binOp,vL,Op.stringOp,h1,if_false,AZ]
  rfl
 show xC (do eqGuard .add t x y (vL a) (vL b);binOp .add t (vL a) (vL b))=_
 simp only[this]
 rfl
section
variable {P:Program} {T:TypeId→Option Ty} {n:Nat} {ops:Array Oper} {id:Nat} {draw:Bool} {K:AS→Prop} {s:AS} {k:Nat} {o:Oper} {os:List Oper} {fps:List FP}
theorem li {t:TypeId} {ty:Ty} (hT:b6 P t ty) (hs:ty.isStr=true):P.underlying t=some .string:=by
 obtain⟨d,hu,_,_,_,_,hst,_⟩:=hT.und;rw[hu,hst hs]
theorem ap (hT:∀t d,T t=some d→b6 P t d) {t:TypeId} {ty:Ty} {x y:Operand} {l:List UInt8} {c:UInt8} {i:Nat} {ik:IntKind} (hi:l[i]? =some c) (h1:gd ops s o=some true) (h2:o.op= .index t x y) (h5:T t=some ty) (h6:ty.isStr=true) (h7:s.ev x= .d (.leaf (.val (vL l)))) (h8:s.ev y= .d (.leaf (.val (.int ik (i:Nat)))))
 (h3:bn n o.dst=true) (h4:ju draw ops (a6 ops o ⟨.d (dN .u8 c.toNat),none⟩ []) k fps=true) (h:aJ P T n ops id draw K (k+1) os (s.eff o.dst ⟨.d (dN .u8 c.toNat),none⟩) (a6 ops o ⟨.d (dN .u8 c.toNat),none⟩ []::fps)):aJ P T n ops id draw K k (o::os) s fps:=by
 refine .run h1 (.gen fun s2 ht _=>?_) h3 h4 h;have hx:=(bf ht (x:=x) (by simp[h2,Op.operands])).trans h7;have hy:=(bf ht (x:=y) (by simp[h2,Op.operands])).trans h8;have hu:=li (hT _ _ h5) h6;have hl:i<l.length:=(List.getElem?_eq_some_iff.1 hi).1
 refine aw fun n S0 w0 g a w hM=>⟨.int .u8 c.toNat,w,?_,Below.refl _ _,AV.M.val rfl⟩
 unfold execOp;rw[h2];have hsz:=au l
 have hget:(Bs l)[i]'(by rw[hsz];exact hl)=c:=by
  have:=(List.getElem?_eq_some_iff.1 hi).2;show(Bs l).data[i]'_=c
  simpa[Bs]using this
 simp only[bL hM hx,bL hM hy,vL,Sem.run_bind,run_index_string _ t (Bs l) ik i hu]
 rw[dif_pos (by rw[hsz];omega)]
 simp only[Result.andThen_ok,Int.toNat_natCast,hget]
 rfl
theorem iK (hT:∀t d,T t=some d→b6 P t d) {t:TypeId} {ty:Ty} {x y:Operand} {l:List UInt8} {i:Nat} {ik:IntKind} (hi:i≤l.length) (h1:gd ops s o=some true) (h2:o.op= .slice t x (some y) none none) (h5:T t=some ty) (h6:ty.isStr=true) (h7:s.ev x= .d (.leaf (.val (vL l)))) (h8:s.ev y= .d (.leaf (.val (.int ik (i:Nat)))))
 (h3:bn n o.dst=true) (h4:ju draw ops (a6 ops o ⟨.d (dL (l.drop i)),none⟩ []) k fps=true) (h:aJ P T n ops id draw K (k+1) os (s.eff o.dst ⟨.d (dL (l.drop i)),none⟩) (a6 ops o ⟨.d (dL (l.drop i)),none⟩ []::fps)):aJ P T n ops id draw K k (o::os) s fps:=by
 refine .run h1 (.gen fun s2 ht _=>?_) h3 h4 h;have hx:=(bf ht (x:=x) (by simp[h2,Op.operands])).trans h7;have hy:=(bf ht (x:=y) (by simp[h2,Op.operands])).trans h8;have hu:=li (hT _ _ h5) h6;refine aw fun n S0 w0 g a w hM=>⟨vL (l.drop i),w,?_,Below.refl _ _,AV.M.val rfl⟩
 unfold execOp;rw[h2]
 have e1:(Instr.sliceAt t (.string (Bs l)) (some (.int ik i)) none none).run P w= .ok (vL (l.drop i)) w:=by
  unfold Instr.sliceAt
  simp only[Sem.run_bind,run_underlying hu w,Result.andThen_ok]
  rw[run_slice_string_l w t (Bs l) hu ik i (by omega) (by rw[au];omega),j3,au]
  simp[vL]
 simp only[bL hM hx,bL hM hy,vL,Option.map_some,Option.map_none,Sem.run_bind,e1,Result.andThen_ok]
 rfl
end
section
variable {P:Program} {T:TypeId→Option Ty} {n:Nat} {s:AS}
theorem sK {x y:Code} {Q:AX→AS→Prop} (σ:AS) (hy:∀s',bv s' σ→gw P T n y Q s') (hx:∀R:AX→AS→Prop,(∀s',bv s' σ→R .normal s')→R .ret=Q .ret→gw P T n x R s):gw P T n (.seq x y) Q s:=aL (hx _ hy rfl)
theorem EG {x y:Code} {Q:AX→AS→Prop} (σ:AS) (φ:Prop) (hy:φ→ ∀s',bv s' σ→gw P T n y Q s') (hx:∀R:AX→AS→Prop,(φ→ ∀s',bv s' σ→R .normal s')→R .ret=Q .ret→gw P T n x R s):gw P T n (.seq x y) Q s:=aL (hx _ hy rfl)
theorem bv.trans {a b c:AS} (h:bv a b) (h':bv b c):bv a c:=fun n S0 w0 x w m=>h' n S0 w0 x w (h n S0 w0 x w m)
theorem MG.rename {S0:Nat→Prop} {w0:fY} {g:Nat→Nat} {a:Act} {w:World} (h:MG n S0 w0 g s a w) {j j':Nat} {cs:List AV} (hj:s.bx j=some cs) (hn:am s.b j'=none) (hw:dm j'=dm j) (hrv:ki j'=false) (hlb:ef j'=false):
 ∃g',MG n S0 w0 g' ⟨s.t,(j',some cs)::(j,none)::s.b⟩ a w∧(∀(m k e:Nat) (v:Value),TV.M (Own S0 g s) g s w (.own j m k e) v→TV.M (Own S0 g' ⟨s.t,(j',some cs)::(j,none)::s.b⟩) g' ⟨s.t,(j',some cs)::(j,none)::s.b⟩ w (.own j' m k e) v)∧ ∀i,i≠j'→g' i=g i:=by
 have hjj:j'≠j:=fun e=>by
  subst e;obtain⟨x,hx⟩:=AS.kn_of hj;rw[hn]at hx;cases hx
 have hkn:∀i,s.kn i→i≠j':=fun i ⟨x,hx⟩ e=>by subst e;rw[hn]at hx;cases hx
 have hbx:∀i ci,(AS.mk s.t ((j',some cs)::(j,none)::s.b)).bx i=some ci→(i=j'∧ci=cs)∨(i≠j'∧i≠j∧s.bx i=some ci):=fun i ci hi=>by
  by_cases e1:i=j'
  ·subst e1;rw[AS.bx_same]at hi;cases hi;exact .inl ⟨rfl,rfl⟩
  ·rw[AS.bx_ne _ s.t _ _ e1]at hi
   by_cases e2:i=j
   ·subst e2;rw[AS.bx_dead]at hi;cases hi
   ·rw[AS.bx_ne _ s.t _ _ e2]at hi;exact .inr ⟨e1,e2,hi⟩
 have hO:Own S0 (fun i=>if i=j' then g j else g i) (AS.mk s.t ((j',some cs)::(j,none)::s.b))=Own S0 g s:=by
  funext b
  apply propext
  constructor
  ·rintro(h0| ⟨i,ci,hi,e0⟩)
   ·exact .inl h0
   ·rcases hbx i ci hi with⟨rfl,rfl⟩| ⟨h1,h2,h3⟩
    ·simp only[if_true]at e0;exact .inr ⟨j,ci,hj,e0⟩
    ·simp only[h1,if_false]at e0;exact .inr ⟨i,ci,h3,e0⟩
  ·rintro(h0| ⟨i,ci,hi,e0⟩)
   ·exact .inl h0
   ·by_cases e2:i=j
    ·subst e2
     exact .inr ⟨j',cs,AS.bx_same _ _ _ _,by simp only[if_true];exact e0⟩
    ·have h1:=hkn i (AS.kn_of hi)
     refine .inr ⟨i,ci,?_,by simp only[h1,if_false];exact e0⟩;rw[AS.bx_ne _ s.t _ _ h1,AS.bx_ne _ s.t _ _ e2];exact hi
 have hF:jn s (AS.mk s.t ((j',some cs)::(j,none)::s.b)) g (fun i=>if i=j' then g j else g i) w w:=⟨fun z hz=>AS.kn_cons (t:=s.t) _ (AS.kn_cons (t:=s.t) _ hz),fun z cz hk hz=>by
  rcases hbx z cz hz with⟨e1,_⟩| ⟨h1,h2,h3⟩
  ·exact absurd e1 (hkn z hk)
  ·exact⟨cz,h3,Nat.le_refl _,by simp only[h1,if_false],fun a1 e1 h4=>⟨a1,h4,rfl⟩⟩⟩
 refine⟨fun i=>if i=j' then g j else g i,⟨fun i=>?_,fun i ci hi=>?_,fun i i' ci ci' hi hi' e0=>?_,h.grow,h.df.agree hF,h.sz,h.cl,h.tg,fun k cs hk=>by rw[hO];exact(h.gl k cs hk).agree (co.refl _ _) (fun _ _ h=>h) hF,fun i q ci h1 h2 hi=>by
  rcases hbx i ci hi with⟨e1,_⟩| ⟨h3,h4,h5⟩
  ·subst e1;rw[hrv]at h1;cases h1
  ·simp only[h3,if_false];exact h.gp i q ci h1 h2 h5,h.nk⟩,fun m k e v hm=>?_,fun i hi=>by simp only[hi,if_false]⟩
 ·rw[hO]
  exact(h.tm i).agree (co.refl _ _) (fun _ _ h=>h) hF
 ·rw[hO]
  rcases hbx i ci hi with⟨rfl,rfl⟩| ⟨h1,h2,h3⟩
  ·simp only[if_true]
   obtain⟨h1,arr,e1,h4,h5,h6,_⟩:=h.bm j ci hj;exact⟨h1,arr,e1,h4,h5,fun hb=>h6 (by rw[← hw];exact hb),fun hl=>absurd hl (by rw[hlb];decide),fun ht=>absurd (nS ht) (by rw[hlb];decide)⟩
  ·simp only[h1,if_false]
   obtain⟨h4,h5⟩:=h.bm i ci h3;exact⟨h4,h5.agree rfl (co.refl _ _) (fun _ _ h=>h) hF⟩
 ·rcases hbx i ci hi with⟨e1,_⟩| ⟨h1,h2,h3⟩<;>rcases hbx i' ci' hi' with⟨e1',_⟩| ⟨h1',h2',h3'⟩
  ·rw[e1,e1']
  ·rw[if_pos e1,if_neg h1']at e0
   exact absurd (h.inj j i' cs ci' hj h3' e0).symm h2'
  ·rw[if_neg h1,if_pos e1']at e0
   exact absurd (h.inj i j ci cs h3 hj e0) h2
  ·rw[if_neg h1,if_neg h1']at e0
   exact h.inj i i' ci ci' h3 h3' e0
 ·obtain⟨c,e1,e2,e3,e4,e5⟩:=hm.2 cs hj
  refine⟨⟨_,an _ _ _⟩,fun ci hc=>?_⟩;rw[AS.bx_same]at hc;cases hc
  simp only[if_true]
  exact⟨c,e1,e2,e3,e4,e5⟩
theorem MG.reslot {S0:Nat→Prop} {w0:fY} {g:Nat→Nat} {a:Act} {w:World} (h:MG n S0 w0 g s a w) {q:Nat} {x:TV} (hx:TV.M (Own S0 g s) g s w x (a.tmps.getD q Go.undef)) (hx1:vD x=true) (hx2:vD (s.tv q)=true):MG n S0 w0 g ⟨(q,x)::s.t,s.b⟩ a w:=by
 refine⟨fun i=>?_,fun i ci hi=>?_,h.inj,h.grow,?_,h.sz,h.cl,h.tg,fun k cs hk=>(h.gl k cs hk).sameB rfl,h.gp,h.nk⟩
 ·by_cases hi:q=i
  ·subst hi
   have e0:(AS.mk ((q,x)::s.t) s.b).tv q=x:=by simp[AS.tv,an]
   rw[e0];exact hx.sameB rfl
  ·have e0:(AS.mk ((q,x)::s.t) s.b).tv i=s.tv i:=by simp[AS.tv,az _ _ hi]
   rw[e0];exact(h.tm i).sameB rfl
 ·obtain⟨h1,h2⟩:=h.bm i ci hi
  exact⟨h1,h2.sameB rfl⟩
 ·by_cases hi:q=DK
  ·have e0:(AS.mk ((q,x)::s.t) s.b).tv DK=x:=by rw[← hi];simp[AS.tv,an]
   rw[e0];have h0:=h.df;rw[← hi]at h0;exact(xK.no hx1).2 ((xK.no hx2).1 h0)
  ·have e0:(AS.mk ((q,x)::s.t) s.b).tv DK=s.tv DK:=by simp[AS.tv,az _ _ hi]
   rw[e0];exact h.df.sameB rfl
theorem bg {q j j' m k e:Nat} {cs:List AV} (hq:s.tv q= .own j m k e) (hj:s.bx j=some cs) (hn:am s.b j'=none) (hw:dm j'=dm j) (hrv:ki j'=false:=by rfl) (hlb:ef j'=false:=by rfl):bv s ⟨(q, .own j' m k e)::s.t,(j',some cs)::(j,none)::s.b⟩:=by
 rintro n S0 w0 a w ⟨g,h⟩;obtain⟨g',h1,h2,_⟩:=h.rename hj hn hw hrv hlb;have hm:=h.tm q;rw[hq]at hm;exact⟨g',h1.reslot (h2 m k e _ hm) rfl (by show vD (s.tv q)=true;rw[hq];rfl)⟩
end
section
variable {P:Program} {T:TypeId→Option Ty} {n:Nat} {ops:Array Oper} {id:Nat} {draw:Bool} {K:AS→Prop} {s:AS} {k:Nat} {o:Oper} {os:List Oper} {fps:List FP}
theorem Ga {t:TypeId} {ty:Ty} {x:Operand} {i off:Nat} {cs:List AV} {a:AV} (ha:cs[off]? =some a) (h1:gd ops s o=some true) (h2:o.op= .load t x) (h5:T t=some ty) (h6:ty.agg=false) (h7:ty.size=1) (h8:s.ev x= .box i off) (h9:s.bx i=some cs)
 (h3:bn n o.dst=true) (h4:ju draw ops (a6 ops o ⟨.d (.leaf a),none⟩ [i]) k fps=true) (h:aJ P T n ops id draw K (k+1) os (s.eff o.dst ⟨.d (.leaf a),none⟩) (a6 ops o ⟨.d (.leaf a),none⟩ [i]::fps)) (hlb:ef i=false:=by rfl):aJ P T n ops id draw K k (o::os) s fps:=by
 refine iD h1 ?_ h3 h4 h;obtain⟨hl,hg⟩:=List.getElem?_eq_some_iff.1 ha;have hb:Nat.ble (off+1) cs.length=true:=Nat.ble_eq_true_of_le hl
 have hd:(cs.drop off).take 1=[a]:=by
  rw[List.drop_eq_getElem_cons hl,hg];rfl
 unfold fO
 simp only[h2,h5,h8,h9,h6,h7,hb,hd,hlb]
 rfl
theorem DI {t:TypeId} {ty:Ty} {x y:Operand} {i off:Nat} {cs cs':List AV} {a:AV} (hl:off<cs.length) (hs:eh cs off [a]=cs') (h1:gd ops s o=some true) (h2:o.op= .store t x y) (h0:o.dst=none) (h5:T t=some ty) (h7:ty.size=1) (h8:s.ev x= .box i off) (h9:s.bx i=some cs) (h10:Cx (s.ev y)=some (.leaf a)) (h11:Jr i [a]=true)
 (h4:ju draw ops (a6 ops o ⟨.junk,some [(i,some cs')]⟩ [i]) k fps=true) (h:aJ P T n ops id draw K (k+1) os (s.eff o.dst ⟨.junk,some [(i,some cs')]⟩) (a6 ops o ⟨.junk,some [(i,some cs')]⟩ [i]::fps)) (hlb:ef i=false:=by rfl):aJ P T n ops id draw K k (o::os) s fps:=by
 refine iD h1 ?_ (by rw[h0];rfl) h4 h;have hb:Nat.ble (off+1) cs.length=true:=Nat.ble_eq_true_of_le hl;unfold fO
 simp only[h0,h2,h5,h8,h9,h7,hb,h10,DV.cells,h11,hs,hlb,Gc]
 rfl
end
theorem bC {t:TypeId} {x y:Operand} {a b:List UInt8} (h:a=b):nR .eql t x y (vL a) (vL b)=some (.bool true):=by rw[jv,decide_eq_true h]
theorem dj {t:TypeId} {x y:Operand} {a b:List UInt8} (h:a≠b):nR .eql t x y (vL a) (vL b)=some (.bool false):=by rw[jv,decide_eq_false h]
theorem dT {t:TypeId} {x y:Operand} {a b:List UInt8} (h:a≠b):nR .neq t x y (vL a) (vL b)=some (.bool true):=by rw[mW,decide_eq_false h];rfl
theorem fV {t:TypeId} {x y:Operand} {a b:List UInt8} (h:a=b):nR .neq t x y (vL a) (vL b)=some (.bool false):=by rw[mW,decide_eq_true h];rfl
section
variable {P:Program} {T:TypeId→Option Ty} {n:Nat} {ops:Array Oper} {id:Nat} {draw:Bool} {K:AS→Prop} {s:AS} {k:Nat} {o:Oper} {os:List Oper} {fps:List FP}
theorem vx (hT:∀t d,T t=some d→b6 P t d) {t:TypeId} {ty:Ty} {x y:Operand} {l:List UInt8} {i:Nat} {ik:IntKind} (hi:i≤l.length) (h1:gd ops s o=some true) (h2:o.op= .slice t x none (some y) none) (h5:T t=some ty) (h6:ty.isStr=true) (h7:s.ev x= .d (.leaf (.val (vL l)))) (h8:s.ev y= .d (.leaf (.val (.int ik (i:Nat)))))
 (h3:bn n o.dst=true) (h4:ju draw ops (a6 ops o ⟨.d (dL (l.take i)),none⟩ []) k fps=true) (h:aJ P T n ops id draw K (k+1) os (s.eff o.dst ⟨.d (dL (l.take i)),none⟩) (a6 ops o ⟨.d (dL (l.take i)),none⟩ []::fps)):aJ P T n ops id draw K k (o::os) s fps:=by
 refine .run h1 (.gen fun s2 ht _=>?_) h3 h4 h;have hx:=(bf ht (x:=x) (by simp[h2,Op.operands])).trans h7;have hy:=(bf ht (x:=y) (by simp[h2,Op.operands])).trans h8;have hu:=li (hT _ _ h5) h6;refine aw fun n S0 w0 g a w hM=>⟨vL (l.take i),w,?_,Below.refl _ _,AV.M.val rfl⟩
 unfold execOp;rw[h2]
 have e1:(Instr.sliceAt t (.string (Bs l)) none (some (.int ik i)) none).run P w= .ok (vL (l.take i)) w:=by
  unfold Instr.sliceAt
  simp only[Sem.run_bind,run_underlying hu w,Result.andThen_ok]
  rw[run_slice_string_h w t (Bs l) hu ik i (by omega) (by rw[au];omega),j3]
  simp[vL]
 simp only[bL hM hx,bL hM hy,vL,Option.map_some,Option.map_none,Sem.run_bind,e1,Result.andThen_ok]
 rfl
end
def ee (c:UInt8):Bool:=(decide (97≤c.toNat) && decide (c.toNat≤122)) || (decide (65≤c.toNat) && decide (c.toNat≤90))
def ct (c:UInt8):Bool:=decide (48≤c.toNat) && decide (c.toNat≤57)
def fM (c:UInt8):Bool:=ee c || ct c || decide (c.toNat=95)
def aO (p:UInt8→Bool) (s:List UInt8):Nat:=(s.takeWhile p).length
theorem fW (p:UInt8→Bool) (s:List UInt8):aO p s≤s.length:=by
 induction s with
 |nil=>exact Nat.le_refl _
 |cons c r ih=>
  unfold aO at *;rw[List.takeWhile_cons]
  split
  ·simpa using ih
  ·simp
theorem mX {p:UInt8→Bool}:∀{s:List UInt8} {i:Nat},(∀(q:Nat) c,q<i→s[q]? =some c→p c=true)→(s[i]? =none∧i≤s.length∨ ∃c,s[i]? =some c∧p c=false)→aO p s=i
 | [],i,_,h=>by
  rcases h with⟨_,h⟩| ⟨c,h,_⟩
  ·simp at h;simp[aO,h]
  ·simp at h
 |a::s,0,_,h=>by
  rcases h with⟨h,_⟩| ⟨c,h,k⟩
  ·simp at h
  ·simp at h;subst h;simp[aO,List.takeWhile,k]
 |a::s,i+1,hq,h=>by
  have h0:=hq 0 a (by omega) rfl;have ih:=mX (s:=s) (i:=i) (fun q c h1 h2=>hq (q+1) c (by omega) (by simpa using h2)) (by simpa using h);unfold aO at *
  simp only[List.takeWhile,h0,List.length_cons]
  omega
def dF (f:FuncId):DV:= .leaf (.val (.func (.func f) #[] #[]))
theorem jh (c:UInt8):aa Tryz.prog 52 [dN .u8 c.toNat] (.one (dB (ee c))):=by
 by_cases h1:97≤c.toNat
 ·by_cases h2:c.toNat≤122
  ·rw[show ee c=true by unfold ee;simp[h1,h2]]
   refine kU func52 ?_;refine kR ?_;refine kI ?_;refine kO ?_;refine kT ?_
   refine kO2 ?_
   refine kT ?_;exact kF
  ·rw[show ee c=false by unfold ee;rw[decide_eq_false h2,decide_eq_false (show ¬c.toNat≤90 by omega)];simp]
   refine kU func52 ?_;refine kR ?_;refine kI ?_;refine kO ?_;refine kT ?_
   refine kO2 ?_
   refine kE ?_
   refine kO3 ?_
   refine kT ?_
   refine kO2 ?_
   refine kE ?_;exact kF
 ·by_cases h2:65≤c.toNat
  ·by_cases h3:c.toNat≤90
   ·rw[show ee c=true by unfold ee;simp[h2,h3]]
    refine kU func52 ?_;refine kR ?_;refine kI ?_;refine kO ?_;refine kE ?_
    iterate 6 refine kO ?_
    refine kT ?_
    refine kO2 ?_
    refine kT ?_;exact kF
   ·rw[show ee c=false by unfold ee;rw[decide_eq_false h1,decide_eq_false h3];simp]
    refine kU func52 ?_;refine kR ?_;refine kI ?_;refine kO ?_;refine kE ?_
    iterate 6 refine kO ?_
    refine kT ?_
    refine kO2 ?_
    refine kE ?_;exact kF
  ·rw[show ee c=false by unfold ee;rw[decide_eq_false h1,decide_eq_false h2];simp]
   refine kU func52 ?_;refine kR ?_;refine kI ?_;refine kO ?_;refine kE ?_
   iterate 6 refine kO ?_
   refine kE ?_;exact kF
theorem mb (c:UInt8):aa Tryz.prog 112 [dN .u8 c.toNat] (.one (dB (ee c))):=by
 by_cases h1:97≤c.toNat
 ·by_cases h2:c.toNat≤122
  ·rw[show ee c=true by unfold ee;simp[h1,h2]]
   refine kU func112 ?_;refine kR ?_;refine kI ?_;refine kO ?_;refine kT ?_
   refine kO2 ?_
   refine kT ?_;exact kF
  ·rw[show ee c=false by unfold ee;rw[decide_eq_false h2,decide_eq_false (show ¬c.toNat≤90 by omega)];simp]
   refine kU func112 ?_;refine kR ?_;refine kI ?_;refine kO ?_;refine kT ?_
   refine kO2 ?_
   refine kE ?_
   refine kO3 ?_
   refine kT ?_
   refine kO2 ?_
   refine kE ?_;exact kF
 ·by_cases h2:65≤c.toNat
  ·by_cases h3:c.toNat≤90
   ·rw[show ee c=true by unfold ee;simp[h2,h3]]
    refine kU func112 ?_;refine kR ?_;refine kI ?_;refine kO ?_;refine kE ?_
    iterate 6 refine kO ?_
    refine kT ?_
    refine kO2 ?_
    refine kT ?_;exact kF
   ·rw[show ee c=false by unfold ee;rw[decide_eq_false h1,decide_eq_false h3];simp]
    refine kU func112 ?_;refine kR ?_;refine kI ?_;refine kO ?_;refine kE ?_
    iterate 6 refine kO ?_
    refine kT ?_
    refine kO2 ?_
    refine kE ?_;exact kF
  ·rw[show ee c=false by unfold ee;rw[decide_eq_false h1,decide_eq_false h2];simp]
   refine kU func112 ?_;refine kR ?_;refine kI ?_;refine kO ?_;refine kE ?_
   iterate 6 refine kO ?_
   refine kE ?_;exact kF
theorem gV (c:UInt8):aa Tryz.prog 83 [dN .u8 c.toNat] (.one (dB (ct c))):=by
 by_cases h1:48≤c.toNat
 ·by_cases h2:c.toNat≤57
  ·rw[show ct c=true by unfold ct;simp[h1,h2]]
   refine kU func83 ?_;refine kR ?_;refine kI ?_;refine kO ?_;refine kT ?_
   refine kO2 ?_
   refine kT ?_;exact kF
  ·rw[show ct c=false by unfold ct;rw[decide_eq_false h2];simp]
   refine kU func83 ?_;refine kR ?_;refine kI ?_;refine kO ?_;refine kT ?_
   refine kO2 ?_
   refine kE ?_;exact kF
 ·rw[show ct c=false by unfold ct;rw[decide_eq_false h1];simp]
  refine kU func83 ?_;refine kR ?_;refine kI ?_;refine kO ?_;refine kE ?_;exact kF
theorem nO (c:UInt8):aa Tryz.prog 113 [dN .u8 c.toNat] (.one (dB (ct c))):=by
 by_cases h1:48≤c.toNat
 ·by_cases h2:c.toNat≤57
  ·rw[show ct c=true by unfold ct;simp[h1,h2]]
   refine kU func113 ?_;refine kR ?_;refine kI ?_;refine kO ?_;refine kT ?_
   refine kO2 ?_
   refine kT ?_;exact kF
  ·rw[show ct c=false by unfold ct;rw[decide_eq_false h2];simp]
   refine kU func113 ?_;refine kR ?_;refine kI ?_;refine kO ?_;refine kT ?_
   refine kO2 ?_
   refine kE ?_;exact kF
 ·rw[show ct c=false by unfold ct;rw[decide_eq_false h1];simp]
  refine kU func113 ?_;refine kR ?_;refine kI ?_;refine kO ?_;refine kE ?_;exact kF
theorem pe (c:UInt8):aa Tryz.prog 54 [dN .u8 c.toNat] (.one (dB (fM c))):=by
 have c1:=jh c;have c2:=gV c;unfold fM;cases h1:ee c
 ·rw[h1]at c1
  cases h2:ct c
  ·rw[h2]at c2
   refine kV func54 ?_;refine kQ (c1) ?_;refine kC (c2) ?_
   refine kO3 ?_
   by_cases h3:c.toNat=95
   ·refine kT ?_
    rw[decide_eq_true h3];exact kF
   ·refine kE ?_
    rw[decide_eq_false h3];exact kF
  ·rw[h2]at c2
   refine kV func54 ?_;refine kQ (c1) ?_;refine kC (c2) ?_;exact kF
 ·rw[h1]at c1
  refine kV func54 ?_;refine kC (c1) ?_;exact kF
theorem lG {fid:FuncId} {p:UInt8→Bool} (hp:∀c:UInt8,aa Tryz.prog fid [dN .u8 c.toNat] (.one (dB (p c)))) (s:List UInt8) (hl:s.length≤4611686018427387904):aa Tryz.prog 53 [dL s,dF fid] (.one (dN .i64 (aO p s))):=by
 have hB:=au s;refine kV func53 ?_
 refine bh Nat (fun i=>i≤s.length∧ ∀(q:Nat) c,q<i→s[q]? =some c→p c=true) (fun i=>⟨[(0, .d (dL s)),(1, .d (dF fid)),(4, .d (dN .i64 0)),(5, .d (dN .i64 i))],[]⟩) (fun i=>s.length-i) 0 ⟨Nat.zero_le _,fun q c h=>absurd h (Nat.not_lt_zero _)⟩
  (weak ⟨rfl,rfl,rfl,rfl,trivial⟩ trivial rfl) ?_
 rintro i ⟨hi,hq⟩;refine kI ?_
 refine kO3 ?_
 by_cases hlt:i<s.length
 ·have hx:s[i]? =some s[i]:=by simp[hlt]
  have hc:=hp s[i];refine kT ?_
  refine kO4 ?_
  refine ap ab (i:=i) (c:=s[i]) hx rfl rfl rfl rfl rfl rfl rfl rfl ?_;cases hb:p s[i]
  ·rw[hb]at hc
   refine kQ (hc) ?_;rw[mX hq (.inr ⟨_,hx,hb⟩)];exact bO (T:=TT) rfl rfl
  ·rw[hb]at hc
   refine kQ (hc) ?_
   exact⟨i+1,⟨hlt,fun q c h1 h2=>by
    by_cases e:q=i
    ·subst e;rw[hx]at h2;cases h2;exact hb
    ·exact hq q c (by omega) h2⟩,by omega,weak ⟨rfl,rfl,rfl,bd (by omega) (by omega),trivial⟩ trivial rfl⟩
 ·refine kE ?_
  refine kW ?_;rw[mX hq (.inl ⟨List.getElem?_eq_none (by omega),hi⟩)];exact bO (T:=TT) rfl rfl
def gW (s:List UInt8):Nat:=if s[aO ct s]? =some 46∧0<aO ct (s.drop (aO ct s+1))then aO ct s+1+aO ct (s.drop (aO ct s+1))else aO ct s
theorem vP (s:List UInt8) (hl:s.length≤4611686018427387903):aa Tryz.prog 106 [dL s] (.one (dN .i64 (gW s))):=by
 have hB:=au s;have c1:=lG gV s (by omega);have hn:=fW ct s;unfold gW;generalize aO ct s=n at *
 by_cases h1:n<s.length
 ·have hx:s[n]? =some s[n]:=by simp[h1]
  by_cases h2:s[n]=46
  ·have c2:=lG gV (s.drop (n+1)) (by rw[List.length_drop];omega)
   have hm:=fW ct (s.drop (n+1));rw[List.length_drop]at hm;generalize aO ct (s.drop (n+1))=m at *;have hx2:s[n]? =some 46:=by rw[hx,h2]
   have h2':s[n].toNat=46:=by rw[h2];rfl
   by_cases h3:0<m
   ·rw[if_pos ⟨hx2,h3⟩]
    refine kV func106 ?_;refine kC (c1) ?_;refine kG ?_
    refine kO3 ?_
    refine kT ?_
    refine kO3 ?_
    refine ap ab (i:=n) (c:=s[n]) hx rfl rfl rfl rfl rfl rfl rfl rfl ?_;refine kT ?_;refine kG ?_
    refine kO2 ?_
    refine kJ ((n+1:Nat)) ?_;refine iK ab (i:=n+1) (by omega) rfl rfl rfl rfl rfl rfl rfl rfl ?_;refine kC (c2) ?_;refine kG ?_;refine kO ?_;refine kT ?_;refine kG ?_;refine kO ?_;refine kJ ((n+1:Nat)) ?_;refine kO ?_;refine kJ ((n+1+m:Nat)) ?_;exact kF
   ·rw[if_neg (fun h=>h3 h.2)]
    refine kV func106 ?_;refine kC (c1) ?_;refine kG ?_
    refine kO3 ?_
    refine kT ?_
    refine kO3 ?_
    refine ap ab (i:=n) (c:=s[n]) hx rfl rfl rfl rfl rfl rfl rfl rfl ?_;refine kT ?_;refine kG ?_
    refine kO2 ?_
    refine kJ ((n+1:Nat)) ?_;refine iK ab (i:=n+1) (by omega) rfl rfl rfl rfl rfl rfl rfl rfl ?_;refine kC (c2) ?_;refine kG ?_;refine kO ?_;refine kE ?_;exact kF
  ·have h2':¬s[n].toNat=46:=fun e=>h2 (UInt8.toNat_inj.1 e)
   rw[if_neg (fun h=>by rw[hx]at h;exact h2 (Option.some.inj h.1))];refine kV func106 ?_;refine kC (c1) ?_;refine kG ?_
   refine kO3 ?_
   refine kT ?_
   refine kO3 ?_
   refine ap ab (i:=n) (c:=s[n]) hx rfl rfl rfl rfl rfl rfl rfl rfl ?_;refine kE ?_;exact kF
 ·rw[if_neg (fun h=>by rw[List.getElem?_eq_none (by omega)]at h;cases h.1)]
  refine kV func106 ?_;refine kC (c1) ?_;refine kG ?_
  refine kO3 ?_
  refine kE ?_;exact kF
theorem jQ (s:List UInt8) (c:UInt8):aa Tryz.prog 108 [dL s,dN .u8 c.toNat] (.one (dN .i64 (Lib.indexByte s c))):=
 ⟨aD func108 rfl rfl,fun S w vs hS hv=>by
  match vs,hv with
  | [v,u],⟨h1,h2,_⟩=>
   obtain rfl:=bQ h1;obtain rfl:=bQ h2;refine(Tryz.strings_IndexByte (Bs s) c.toNat w).mono ?_;rintro e w' ⟨rfl,rfl⟩;have e1:Lib.indexByte (Bs s).data.toList ((c.toNat:Int).toNat.toUInt8)=Lib.indexByte s c:=by simp[Bs]
   rw[e1];exact⟨_,rfl,AV.M.val rfl,Below.refl _ _⟩⟩
def ep:List UInt8→Nat→Nat
 | [],_=>0
 | [c],i=>if c=34 then i+1 else 0
 |c::d::r,i=>if c=34 then i+1 else if c.toNat<32 then 0 else if c=92 then(if Lib.indexByte [34,92,110] d<0 then 0 else ep r (i+2))else ep (d::r) (i+1)
def lS (s:List UInt8):Nat:=ep (s.drop 1) 1
theorem iY {r:List UInt8} {i:Nat}:ep (34::r) i=i+1:=by cases r<;>simp[ep]
theorem nL {c:UInt8} {r:List UInt8} {i:Nat} (h:c≠34) (h':c.toNat<32):ep (c::r) i=0:=by cases r<;>simp[ep,h,h']
theorem m6 {c:UInt8} {i:Nat} (h:c≠34):ep [c] i=0:=by simp[ep,h]
theorem iz {d:UInt8} {r:List UInt8} {i:Nat}:ep (92::d::r) i=if Lib.indexByte [34,92,110] d<0 then 0 else ep r (i+2):=by simp[ep]
theorem jO {c:UInt8} {r:List UInt8} {i:Nat} (h:c≠34) (h':¬c.toNat<32) (h2:c≠92):ep (c::r) i=ep r (i+1):=by
 cases r with
 |nil=>simp[ep,h]
 |cons d r=>simp[ep,h,h',h2]
theorem dX {c:UInt8} {n:UInt8} (h:¬c=n):¬c.toNat=n.toNat:=fun e=>h (UInt8.toNat_inj.1 e)
theorem ws (s:List UInt8) (hl:s.length≤4611686018427387903):aa Tryz.prog 107 [dL s] (.one (dN .i64 (lS s))):=by
 have hB:=au s;refine kV func107 ?_
 refine bh Nat (fun i=>1≤i∧(i≤s.length∨i=1)∧ep (s.drop i) i=lS s) (fun i=>⟨[(0, .d (dL s)),(2, .d (dN .i64 0)),(3, .d (dN .i64 i))],[]⟩) (fun i=>s.length+1-i) 1 ⟨Nat.le_refl _, .inr rfl,rfl⟩
  (weak ⟨rfl,rfl,rfl,trivial⟩ trivial rfl) ?_
 rintro i ⟨h1,h2,h3⟩;refine kI ?_
 refine kO3 ?_
 by_cases hlt:i<s.length
 ·have hx:s[i]? =some s[i]:=by simp[hlt]
  rw[List.drop_eq_getElem_cons hlt]at h3;generalize hc:s[i]=c at *;refine kT ?_;refine kG ?_
  refine kO2 ?_
  refine ap ab (i:=i) (c:=c) hx rfl rfl rfl rfl rfl rfl rfl rfl ?_
  by_cases c34:c=34
  ·have e34:c.toNat=34:=by rw[c34];rfl
   rw[c34,iY]at h3;refine kT ?_;refine kG ?_;refine kO ?_;refine kJ ((i+1:Nat)) ?_;rw[← h3];exact kF
  ·have e34:¬c.toNat=34:=dX c34
   refine kE ?_;refine kG ?_
   refine kO2 ?_
   refine ap ab (i:=i) (c:=c) hx rfl rfl rfl rfl rfl rfl rfl rfl ?_
   by_cases c32:c.toNat<32
   ·rw[nL c34 c32]at h3
    refine kT ?_;rw[← h3];exact kF
   ·refine kE ?_
    refine kG ?_
    refine kO2 ?_
    refine ap ab (i:=i) (c:=c) hx rfl rfl rfl rfl rfl rfl rfl rfl ?_
    by_cases c92:c=92
    ·have e92:c.toNat=92:=by rw[c92];rfl
     refine kT ?_;refine kG ?_;refine kO ?_;refine kJ ((i+1:Nat)) ?_;refine kG ?_
     refine kO3 ?_
     by_cases hend:i+1=s.length
     ·rw[List.drop_eq_nil_of_le (by omega),m6 c34]at h3
      refine kT ?_;rw[← h3];exact kF
     ·have hlt2:i+1<s.length:=by omega
      have hx2:s[i+1]? =some s[i+1]:=by simp[hlt2]
      rw[List.drop_eq_getElem_cons hlt2,c92,iz]at h3;generalize s[i+1]=d at *;refine kE ?_
      refine kO3 ?_
      refine ap ab (i:=i+1) (c:=d) hx2 rfl rfl rfl rfl rfl rfl rfl rfl ?_;refine kC (jQ [34,92,110] d) ?_
      by_cases hd:Lib.indexByte [34,92,110] d<0
      ·rw[if_pos hd]at h3
       refine kB true ?_ ?_
       ·exact decide_eq_true hd
       rw[← h3];exact kF
      ·rw[if_neg hd]at h3
       refine kB false ?_ ?_
       ·exact decide_eq_false hd
       refine kW ?_;exact⟨i+2,⟨by omega, .inl (by omega),h3⟩,by omega,weak ⟨rfl,rfl,bd (by omega) (by omega),trivial⟩ trivial rfl⟩
    ·have e92:¬c.toNat=92:=dX c92
     rw[jO c34 c32 c92]at h3;refine kY ?_;exact⟨i+1,⟨by omega, .inl (by omega),h3⟩,by omega,weak ⟨rfl,rfl,bd (by omega) (by omega),trivial⟩ trivial rfl⟩
 ·refine kE ?_
  rw[List.drop_eq_nil_of_le (by omega),ep]at h3;rw[← h3];exact kF
def ip:List UInt8:=[43,45,42,47,40,41,91,93,123,125,44,58,59,61,46,60,62,64,35]
def r8 (c:UInt8):Bool:=decide (0≤Lib.indexByte ip c)
def ga:List UInt8→Nat × Nat
 | []=>(0,0)
 |c::r=>if ee c then(1,aO fM (c::r))else if ct c then(2,gW (c::r))else if c=34 then(3,lS (c::r))else if c=10 then(5,1)else if r8 c then(4,1)else(0,0)
theorem Bb (c:UInt8) (r:List UInt8) (hl:(c::r).length≤4611686018427387903):aa Tryz.prog 69 [dL (c::r)] (.tup [dN .i64 (ga (c::r)).1,dN .i64 (ga (c::r)).2]):=by
 have c1:=jh c;have c2:=gV c;cases h1:ee c
 ·rw[h1]at c1
  cases h2:ct c
  ·rw[h2]at c2
   by_cases h3:c=34
   ·have e3:c.toNat=34:=by rw[h3];rfl
    rw[show ga (c::r)=(3,lS (c::r)) by rw[ga,h1,h2];simp[h3]];refine kU func69 ?_;refine kR ?_;refine kI ?_;refine kO ?_;refine ap ab (i:=0) (c:=c) rfl rfl rfl rfl rfl rfl rfl rfl rfl ?_;refine kW ?_;refine kQ (c1) ?_;refine kC (c2) ?_;refine kG ?_;refine kO ?_;refine kX ?_;refine kC (ws (c::r) hl) ?_;exact kF
   ·have e3:¬c.toNat=34:=dX h3
    by_cases h4:c=10
    ·have e4:c.toNat=10:=by rw[h4];rfl
     rw[show ga (c::r)=(5,1) by rw[ga,h1,h2];simp[h3,h4]];refine kU func69 ?_;refine kR ?_;refine kI ?_;refine kO ?_;refine ap ab (i:=0) (c:=c) rfl rfl rfl rfl rfl rfl rfl rfl rfl ?_;refine kW ?_;refine kQ (c1) ?_;refine kC (c2) ?_;refine kG ?_;refine kO ?_;refine kE ?_;refine kG ?_;refine kO ?_;refine kT ?_;exact kF
    ·have e4:¬c.toNat=10:=dX h4
     by_cases h5:0≤Lib.indexByte ip c
     ·rw[show ga (c::r)=(4,1) by simp[ga,h1,h2,h3,h4,r8,h5]]
      refine kU func69 ?_;refine kR ?_;refine kI ?_;refine kO ?_;refine ap ab (i:=0) (c:=c) rfl rfl rfl rfl rfl rfl rfl rfl rfl ?_;refine kW ?_;refine kQ (c1) ?_;refine kC (c2) ?_;refine kG ?_;refine kO ?_;refine kE ?_;refine kG ?_;refine kO ?_;refine kY ?_;refine kC (jQ ip c) ?_;refine kB true ?_ ?_
      ·exact decide_eq_true h5
      exact kF
     ·rw[show ga (c::r)=(0,0) by simp[ga,h1,h2,h3,h4,r8,h5]]
      refine kU func69 ?_;refine kR ?_;refine kI ?_;refine kO ?_;refine ap ab (i:=0) (c:=c) rfl rfl rfl rfl rfl rfl rfl rfl rfl ?_;refine kW ?_;refine kQ (c1) ?_;refine kC (c2) ?_;refine kG ?_;refine kO ?_;refine kE ?_;refine kG ?_;refine kO ?_;refine kY ?_;refine kC (jQ ip c) ?_;refine kB false ?_ ?_
      ·exact decide_eq_false h5
      exact kF
  ·rw[h2]at c2
   rw[show ga (c::r)=(2,gW (c::r)) by simp[ga,h1,h2]];refine kU func69 ?_;refine kR ?_;refine kI ?_;refine kO ?_;refine ap ab (i:=0) (c:=c) rfl rfl rfl rfl rfl rfl rfl rfl rfl ?_;refine kW ?_;refine kQ (c1) ?_;refine kQ (c2) ?_;refine kC (vP (c::r) hl) ?_;exact kF
 ·rw[h1]at c1
  rw[show ga (c::r)=(1,aO fM (c::r)) by simp[ga,h1]];refine kU func69 ?_;refine kR ?_;refine kI ?_;refine kO ?_;refine ap ab (i:=0) (c:=c) rfl rfl rfl rfl rfl rfl rfl rfl rfl ?_;refine kW ?_;refine kQ (c1) ?_;refine ae (lG pe (c::r) (by omega)) rfl rfl rfl rfl rfl rfl rfl ?_;exact kF
end Go.Proofs.YtikbnnljjeefgaaGreatDoor
