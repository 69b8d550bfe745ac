/- Parts of a proof: contracts of the functions that the laws reach. -/
import Derived.Test.YtikbnnljjeefgaaGreatDoorXAmI
import Derived.Test.YtikbnnljjeefgaaGreatDoorXLSqrt
import Derived.Test.YtikbnnljjeefgaaGreatDoorXAh
import Derived.Test.YtikbnnljjeefgaaGreatDoorXLaw
import Derived.Laws.BytesArg
import Derived.Laws.Strings2
import Derived.Laws.IdiomStrings
import Derived.Test.YtikbnnljjeefgaaGreatDoorXShelf
import Derived.Lib.Bytealg
import Derived.Test.YtikbnnljjeefgaaGreatDoorXAm
import Derived.Lib.ItoaNum
import Derived.Test.YtikbnnljjeefgaaGreatDoorXAa
import Derived.Test.YtikbnnljjeefgaaGreatDoorXAe
import Derived.Test.YtikbnnljjeefgaaGreatDoorXAmG
import Derived.Shelf.Strconv.AppendUint10
import Derived.Shelf.Strconv.Itoa3
import Derived.Shelf.Strings.BuilderK
set_option maxHeartbeats 100000000
namespace Go.Proofs.YtikbnnljjeefgaaGreatDoor
open Go.RowKit
def nt (xs:List Nat):Prop:=xs.length≤2147483648
def ew (z:Int):Prop:=(digs z.natAbs).length≤2147483648
theorem ew.of_lt {z:Int} {k:Nat} (h:z.natAbs<4294967296^k) (hk:k≤2147483648):ew z:=Nat.le_trans (aL h) hk
theorem ew.small {z:Int} (h:z.natAbs<4294967296):ew z:= .of_lt (k:=1) (by simpa using h) (by decide)
theorem wi {na nb:Bool} {xs ys:List Nat} (hw:Wd xs) (hw':Wd ys) (h1:nt xs) (h2:nt ys) {z:Int} (hz:ak na xs+ak nb ys=z):ab Tryz.prog 232 [dI na xs,dI nb ys] (.one (dZ z)):=
 FJ (aB Tryz.func232 rfl rfl) hw hw' (fun v u w h k=>by have:=HH v u na nb xs ys w h k h1 h2;rwa[hz]at this) (fun _ _ _ _ hS h=>eI hS h)
theorem Br {a b:Int} (h1:ew a) (h2:ew b):ab Tryz.prog 232 [dZ a,dZ b] (.one (dZ (a+b))):=wi (aq _) (aq _) h1 h2 (by rw[aN,aN])
theorem BV {na nb:Bool} {xs ys:List Nat} (hw:Wd xs) (hw':Wd ys) (h1:nt xs) (h2:nt ys) {z:Int} (hz:ak na xs*ak nb ys=z):ab Tryz.prog 138 [dI na xs,dI nb ys] (.one (dZ z)):=
 FJ (aB Tryz.func138 rfl rfl) hw hw' (fun v u w h k=>by have:=FK v u na nb xs ys w h k h1 h2;rwa[hz]at this) (fun _ _ _ _ hS h=>eI hS h)
theorem eV {a b:Int} (h1:ew a) (h2:ew b):ab Tryz.prog 138 [dZ a,dZ b] (.one (dZ (a*b))):=BV (aq _) (aq _) h1 h2 (by rw[aN,aN])
theorem zV {na nb:Bool} {xs ys:List Nat} (hw:Wd xs) (hw':Wd ys) (h1:nt xs) (h2:nt ys) {z:Int} (hz:ak na xs+ak nb ys=z):ab Tryz.prog 180 [dI na xs,dI nb ys] (.one (dZ z)):=
 FJ (aB Tryz.func180 rfl rfl) hw hw' (fun v u w h k=>by have:=yu v u na nb xs ys w h k h1 h2;rwa[hz]at this) (fun _ _ _ _ hS h=>eI hS h)
theorem qf {a b:Int} (h1:ew a) (h2:ew b):ab Tryz.prog 180 [dZ a,dZ b] (.one (dZ (a+b))):=zV (aq _) (aq _) h1 h2 (by rw[aN,aN])
theorem Al {na nb:Bool} {xs ys:List Nat} (hw:Wd xs) (hw':Wd ys) (h1:nt xs) (h2:nt ys) {z:Int} (hz:ak na xs*ak nb ys=z):ab Tryz.prog 104 [dI na xs,dI nb ys] (.one (dZ z)):=
 FJ (aB Tryz.func104 rfl rfl) hw hw' (fun v u w h k=>by have:=CS v u na nb xs ys w h k h1 h2;rwa[hz]at this) (fun _ _ _ _ hS h=>eI hS h)
theorem eP {a b:Int} (h1:ew a) (h2:ew b):ab Tryz.prog 104 [dZ a,dZ b] (.one (dZ (a*b))):=Al (aq _) (aq _) h1 h2 (by rw[aN,aN])
theorem Dk {na:Bool} {xs:List Nat} (hw:Wd xs) (h1:nt xs) {z:Int} (hz: -(ak na xs)=z):ab Tryz.prog 165 [dI na xs] (.one (dZ z)):=
 Gi (aB Tryz.func165 rfl rfl) hw (fun v w h=>by have:=Io v na xs w h h1;rwa[hz]at this) (fun _ _ _ _ hS h=>eI hS h)
theorem sE {a:Int} (h1:ew a):ab Tryz.prog 165 [dZ a] (.one (dZ (- a))):=Dk (aq _) h1 (by rw[aN])
theorem yG {na:Bool} {xs:List Nat} (hw:Wd xs) {z:Int} (hz:(ak na xs)=z):ab Tryz.prog 102 [dI na xs] (.one (dZ z)):=
 Gi (aB Tryz.func102 rfl rfl) hw (fun v w h=>by have:=eE v na xs w h;rwa[hz]at this) (fun _ _ _ _ hS h=>eI hS h)
theorem AJ {na:Bool} {xs:List Nat} (hw:Wd xs) {z:Int} (hz: -(ak na xs)=z):ab Tryz.prog 199 [dI na xs] (.one (dZ z)):=
 Gi (aB Tryz.func199 rfl rfl) hw (fun v w h=>by have:=C4 v na xs w h;rwa[hz]at this) (fun _ _ _ _ hS h=>eI hS h)
theorem l0 (a:Int):ab Tryz.prog 199 [dZ a] (.one (dZ (- a))):=AJ (aq _) (by rw[aN])
theorem xH {S:Nat→Prop} {w w':World} {e:Ending} {z:Int} (hr:qy z w e w'):rK S (.one (dN .i64 z)) w e w':=by
 obtain⟨rfl,hb⟩:=hr;exact⟨_,rfl,AV.M.val rfl,hb⟩
theorem nh {na:Bool} {xs:List Nat} (hw:Wd xs) {z:Int} (hz:(ak na xs).sign=z):ab Tryz.prog 129 [dI na xs] (.one (dN .i64 z)):=
 Gi (aB Tryz.func129 rfl rfl) hw (fun v w h=>by have:=x5 v na xs w h;first|rwa[hz]at this|rwa[wS,hz]at this) (fun _ _ _ _ _ h=>xH h)
theorem x3 (a:Int):ab Tryz.prog 129 [dZ a] (.one (dN .i64 a.sign)):=nh (aq _) (by rw[aN])
theorem lQ {na:Bool} {xs:List Nat} (hw:Wd xs) {z:Int} (hz:(ak na xs).sign=z):ab Tryz.prog 96 [dI na xs] (.one (dN .i64 z)):=
 Gi (aB Tryz.func96 rfl rfl) hw (fun v w h=>by have:=zz v na xs w h;first|rwa[hz]at this|rwa[wS,hz]at this) (fun _ _ _ _ _ h=>xH h)
theorem j6 (a:Int):ab Tryz.prog 96 [dZ a] (.one (dN .i64 a.sign)):=lQ (aq _) (by rw[aN])
theorem ft {na:Bool} {xs:List Nat} (hw:Wd xs) {b:Bool} (hb:dj na xs=b):ab Tryz.prog 128 [dI na xs] (.one (dB b)):=
 Gi (aB Tryz.func128 rfl rfl) hw (fun v w h=>by have:=EN v na xs w h;rwa[hb]at this) (fun _ _ _ _ _ h=>yi h)
theorem eH {na:Bool} {xs:List Nat} (hw:Wd xs) {b:Bool} (hb:dj na xs=b):ab Tryz.prog 95 [dI na xs] (.one (dB b)):=
 Gi (aB Tryz.func95 rfl rfl) hw (fun v w h=>by have:=Cn v na xs w h;rwa[hb]at this) (fun _ _ _ _ _ h=>yi h)
theorem DE {na nb:Bool} {xs ys:List Nat} (hw:Wd xs) (hw':Wd ys) {z:Int} (hz:bH (ak na xs) (ak nb ys)=z):ab Tryz.prog 90 [dI na xs,dI nb ys] (.one (dN .i64 z)):=
 FJ (aB Tryz.func90 rfl rfl) hw hw' (fun v u w h k=>by have:=Is v u na nb xs ys w h k;rwa[hz]at this) (fun _ _ _ _ _ h=>xH h)
theorem Av (a b:Int):ab Tryz.prog 90 [dZ a,dZ b] (.one (dN .i64 (bH a b))):=DE (aq _) (aq _) (by rw[aN,aN])
theorem fO (k:Int) (h1: -9223372036854775808≤k) (h2:k<9223372036854775808):ab Tryz.prog 89 [dN .i64 k] (.one (dZ k)):=
 ⟨aB Tryz.func89 rfl rfl,fun S w vs hS hv=>by
  match vs,hv with
  | [v],⟨h,_⟩=>
   obtain rfl:=bM h;exact(sd k h1 h2 w).mono fun e w' he=>eI hS he⟩
theorem cO (k:Int) (h1: -9223372036854775808≤k) (h2:k<9223372036854775808):ab Tryz.prog 65 [dN .i64 k] (.one (dZ k)):=
 ⟨aB Tryz.func65 rfl rfl,fun S w vs hS hv=>by
  match vs,hv with
  | [v],⟨h,_⟩=>
   obtain rfl:=bM h;exact(qP k h1 h2 w).mono fun e w' he=>eI hS he⟩
theorem EG {na nb:Bool} {xs ys:List Nat} {b:Bool} (hw:Wd xs) (hw':Wd ys) (hb:sameB na nb xs ys=b):ab Tryz.prog 66 [dI na xs,dI nb ys] (.one (dB b)):=
 FJ (aB Tryz.func66 rfl rfl) hw hw' (fun v u w h k=>by have:=Fh v u na nb xs ys w h k;rwa[hb]at this) (fun _ _ _ _ _ h=>yi h)
theorem Du (a b:Int):ab Tryz.prog 66 [dZ a,dZ b] (.one (dB (decide (a=b)))):=EG (aq _) (aq _) (Ba a b)
theorem Cv {na:Bool} {xs:List Nat}:ak na xs=0↔val xs=0:=by unfold ak;cases na<;>simp
theorem wL {na nb:Bool} {xs ys:List Nat} (hw:Wd xs) (hw':Wd ys) (h1:nt xs) (h2:nt ys) (h0:ak nb ys≠0) {q r:Int} (hq:(ak na xs).fdiv (ak nb ys)=q) (hr:(ak na xs).fmod (ak nb ys)=r):ab Tryz.prog 193 [dI na xs,dI nb ys] (.tup [dZ q,dZ r,dN .i64 0]):=
 FJ (aB Tryz.func193 rfl rfl) hw hw' (fun v u w h k=>by
  have hy:val ys≠0:=fun e=>h0 (Cv.2 e)
  have:=B0 v u na nb xs ys w h k h1 h2 (F8 (by have:=bD hw;unfold trim at this;unfold nt at h1;omega) (by omega)) hy
  rwa[hq,hr]at this) (fun _ _ _ _ hS h=>zS hS h)
theorem uB {na nb:Bool} {xs ys:List Nat} (hw:Wd xs) (hw':Wd ys) (h1:nt xs) (h2:nt ys) (h0:ak nb ys≠0) {q r:Int} (hq:(ak na xs).fdiv (ak nb ys)=q) (hr:(ak na xs).fmod (ak nb ys)=r):ab Tryz.prog 149 [dI na xs,dI nb ys] (.tup [dZ q,dZ r,dN .i64 0]):=
 FJ (aB Tryz.func149 rfl rfl) hw hw' (fun v u w h k=>by
  have:=Ad v u na nb xs ys w h k h1 h2 h0
  rwa[hq,hr]at this) (fun _ _ _ _ hS h=>zS hS h)
end Go.Proofs.YtikbnnljjeefgaaGreatDoor
namespace Go.Proofs.YtikbnnljjeefgaaGreatDoor
open Go.ChangeShapes Go.WideShapes Go.ChangeAt Go.RowKit Go.Joins
theorem JA (w:World) (hT:dt (fun _=>False) w):dt (fun _=>False) w:=hT
theorem nu {f:FuncId} {ds:List DV} (h:ab Tryz.prog f ds (.one (dB true))) {w:World} (hT:dt (fun _=>False) w) {vs:List Value} (hv:VM (fun _=>False) w ds vs):Calls Tryz.prog f vs.toArray w (oF true w):=
 (h.calls _ w vs (JA w hT) hv).mono fun e w' ⟨v,he,hm,hb⟩=>by
  obtain rfl:=bM (show AV.M _ _ _ _ from hm);exact⟨he,hb⟩
end Go.Proofs.YtikbnnljjeefgaaGreatDoor
namespace Go.Proofs.YtikbnnljjeefgaaGreatDoor
open Go.RowKit
def dW (xs:List Nat):DV:= .leaf (aW xs)
theorem zB {S:Nat→Prop} {w w':World} {e:Ending} {q r:Nat} (h:dt S w) (hr:hZ q r w e w'):rK S (.tup [dW (digs q),dW (digs r)]) w e w':=by
 obtain⟨A,n,c,B,m,d,rfl,hq,hr,hb⟩:=hr;refine⟨_,rfl,⟨[.slice A n c, .slice B m d],rfl,rfl,fun i x u h1 h2=>?_⟩,hb⟩
 match i with
 |0=>simp at h1 h2;subst h1 h2;exact od (h.grow hb) hq
 |1=>simp at h1 h2;subst h1 h2;exact od (h.grow hb) hr
 |i+2=>simp at h1
theorem rQ {xs:List Nat} (hw:Wd xs):ab Tryz.prog 137 [dW xs] (.one (dW (trim xs))):=
 ⟨aB Tryz.func137 rfl rfl,fun S w vs hS hv=>by
  match vs,hv with
  | [v],⟨h,_⟩=>
   obtain⟨A,n,c,rfl,hx⟩:=gG h hw;refine(bw A n c xs w hx).mono ?_;rintro e w' ⟨rfl,rfl⟩;exact⟨_,rfl,od hS hx.trim,Below.refl _ _⟩⟩
theorem p9 {xs:List Nat} (hw:Wd xs):ab Tryz.prog 146 [dW xs] (.one (dW (trim xs))):=
 ⟨aB Tryz.func146 rfl rfl,fun S w vs hS hv=>by
  match vs,hv with
  | [v],⟨h,_⟩=>
   obtain⟨A,n,c,rfl,hx⟩:=gG h hw;refine(bV A n c xs w hx).mono ?_;rintro e w' ⟨rfl,rfl⟩;exact⟨_,rfl,od hS hx.trim,Below.refl _ _⟩⟩
theorem oo {a b:Nat} (h:(digs a).length≤2147483648) (hb:0<b):ab Tryz.prog 160 [dW (digs a),dW (digs b)] (.tup [dW (digs (a/b)),dW (digs (a%b))]):=
 ⟨aB Tryz.func160 rfl rfl,fun S w vs hS hv=>by
  match vs,hv with
  | [v,u],⟨h1,h2,_⟩=>
   obtain⟨A,n,c,rfl,hx⟩:=gG h1 (aq _);obtain⟨B,m,d,rfl,hy⟩:=gG h2 (aq _);exact(F8 h hb A n c B m d w hx hy).mono fun e w' he=>zB hS he⟩
theorem tt {a b:Nat} (h:(digs a).length≤2147483648) (hb:0<b):ab Tryz.prog 147 [dW (digs a),dW (digs b)] (.tup [dW (digs (a/b)),dW (digs (a%b))]):=
 ⟨aB Tryz.func147 rfl rfl,fun S w vs hS hv=>by
  match vs,hv with
  | [v,u],⟨h1,h2,_⟩=>
   obtain⟨A,n,c,rfl,hx⟩:=gG h1 (aq _);obtain⟨B,m,d,rfl,hy⟩:=gG h2 (aq _);exact(Cb h hb A n c B m d w hx hy).mono fun e w' he=>zB hS he⟩
theorem gw {neg:Bool} {xs:List Nat} (hw:Wd xs) {z:Int} (hz:ak neg xs=z):ab Tryz.prog 133 [dB neg,dW xs] (.one (dZ z)):=
 ⟨aB Tryz.func133 rfl rfl,fun S w vs hS hv=>by
  match vs,hv with
  | [v,u],⟨h1,h2,_⟩=>
   obtain rfl:=bM h1;obtain⟨A,n,c,rfl,hx⟩:=gG h2 hw;exact(bI hx hz).mono fun e w' he=>eI hS he⟩
theorem ue {neg:Bool} {xs:List Nat} (hw:Wd xs) {z:Int} (hz:ak neg xs=z):ab Tryz.prog 99 [dB neg,dW xs] (.one (dZ z)):=
 ⟨aB Tryz.func99 rfl rfl,fun S w vs hS hv=>by
  match vs,hv with
  | [v,u],⟨h1,h2,_⟩=>
   obtain rfl:=bM h1;obtain⟨A,n,c,rfl,hx⟩:=gG h2 hw;exact(cM hx hz).mono fun e w' he=>eI hS he⟩
theorem wT {xs:List Nat} (hw:Wd xs) (hl:xs.length≤4294967296):ab Tryz.prog 47 [dW xs] (.one (dW xs)):=
 ⟨aB Tryz.func47 rfl rfl,fun S w vs hS hv=>by
  match vs,hv with
  | [v],⟨h,_⟩=>
   obtain⟨A,n,c,rfl,hx⟩:=gG h hw;refine(jf A n c xs w hx (by rw[← hx.len];exact hl)).mono ?_;rintro e w' ⟨A',n',c',zs,rfl,hz,rfl,hb⟩;exact⟨_,rfl,od (hS.grow hb) hz,hb⟩⟩
theorem sR {xs:List Nat} (hw:Wd xs) (hl:xs.length≤2):ab Tryz.prog 161 [dW xs] (.one (dN .u64 (val xs))):=
 ⟨aB Tryz.func161 rfl rfl,fun S w vs hS hv=>by
  match vs,hv with
  | [v],⟨h,_⟩=>
   obtain⟨A,n,c,rfl,hx⟩:=gG h hw;refine(qc A n c xs w hx (by rw[← hx.len];exact hl)).mono ?_;rintro e w' ⟨rfl,hb⟩;exact⟨_,rfl,AV.M.val rfl,hb⟩⟩
theorem wK (n:Nat) (hn:n<18446744073709551616):ab Tryz.prog 134 [dN .u64 n] (.one (dW (digs n))):=
 ⟨aB Tryz.func134 rfl rfl,fun S w vs hS hv=>by
  match vs,hv with
  | [v],⟨h,_⟩=>
   obtain rfl:=bM h;refine(fY n hn w).mono ?_;rintro e w' ⟨A',n',c',zs,rfl,hz,rfl,hb⟩;exact⟨_,rfl,od (hS.grow hb) hz,hb⟩⟩
theorem b8 {n:Nat}:(digs n).length=0↔n=0:=by
 constructor
 ·intro h;exact eL.1 (List.eq_nil_of_length_eq_zero h)
 ·rintro rfl;rw[aD];rfl
theorem mY {a b:Nat}:Nat.gcd b (a%b)=Nat.gcd a b:=by rw[Nat.gcd_comm a b,Nat.gcd_rec b a,Nat.gcd_comm]
theorem sc {na nb:Bool} {xs ys:List Nat} (hw:Wd xs) (hw':Wd ys) (h1:nt xs) (h2:nt ys):ab Tryz.prog 98 [dI na xs,dI nb ys] (.one (dZ (Nat.gcd (val xs) (val ys)))):=by
 have f1:(digs (val xs)).length≤2147483648:=by have:=bD hw;unfold trim at this;unfold nt at h1;omega
 have f2:(digs (val ys)).length≤2147483648:=by have:=bD hw';unfold trim at this;unfold nt at h2;omega
 refine kU aa ac Tryz.func98 ?_;refine kW ?_;refine kQ (p9 hw) ?_;refine kQ (p9 hw') ?_;refine bh (Nat × Nat) (fun p=>Nat.gcd p.1 p.2=Nat.gcd (val xs) (val ys)∧(digs p.1).length≤2147483648∧(digs p.2).length≤2147483648) (fun p=>⟨[(4, .box 2 0),(5, .d (dW (digs p.1))),(6, .d (dW (digs p.2)))],[(2,some [.val (.bool false), .sl 0 []])]⟩) (fun p=>p.2) (val xs,val ys) ⟨rfl,f1,f2⟩ (weak ⟨rfl,rfl,rfl,trivial⟩ ⟨rfl,trivial⟩ rfl) ?_;rintro⟨u,v⟩ ⟨hg,g1,g2⟩;dsimp only at hg g1 g2 ⊢;refine kW ?_;refine fS rfl (fun h=>?_) (fun h=>?_)
 ·have hv:0<v:=by
   rcases Nat.eq_zero_or_pos v with hv|hv
   ·have:=of_decide_eq_true h;rw[b8.2 hv]at this;omega
   ·exact hv
  refine bT ?_;refine kW ?_;refine kQ (tt g1 hv) ?_;have hm:=Nat.mod_lt u hv;refine⟨(v,u%v),⟨mY.trans hg,g2,Nat.le_trans (dp (Nat.le_of_lt hm)) g2⟩,hm,weak ⟨rfl,rfl,rfl,trivial⟩ ⟨rfl,trivial⟩ rfl⟩
 ·have hv:v=0:=by
   have:=of_decide_eq_false h;exact b8.1 (by omega)
  subst hv;rw[Nat.gcd_zero_right]at hg;refine eN ?_;refine kW ?_;refine DP (ue (neg:=false) (xs:=digs u) (aq _) (show ak false (digs u)=((Nat.gcd (val xs) (val ys):Nat):Int) by rw[i7,← hg];rfl)) rfl rfl rfl rfl rfl rfl rfl ?_;exact kF
theorem uW {na nb:Bool} {xs ys:List Nat} (hw:Wd xs) (hw':Wd ys) (h1:nt xs) (h2:nt ys):ab Tryz.prog 131 [dI na xs,dI nb ys] (.one (dZ (Nat.gcd (val xs) (val ys)))):=by
 have f1:(digs (val xs)).length≤2147483648:=by have:=bD hw;unfold trim at this;unfold nt at h1;omega
 have f2:(digs (val ys)).length≤2147483648:=by have:=bD hw';unfold trim at this;unfold nt at h2;omega
 refine kU aa ac Tryz.func131 ?_;refine kW ?_;refine kQ (rQ hw) ?_;refine kQ (rQ hw') ?_;refine bh (Nat × Nat) (fun p=>Nat.gcd p.1 p.2=Nat.gcd (val xs) (val ys)∧(digs p.1).length≤2147483648∧(digs p.2).length≤2147483648) (fun p=>⟨[(4, .box 2 0),(5, .d (dW (digs p.1))),(6, .d (dW (digs p.2)))],[(2,some [.val (.bool false), .sl 0 []])]⟩) (fun p=>p.2) (val xs,val ys) ⟨rfl,f1,f2⟩ (weak ⟨rfl,rfl,rfl,trivial⟩ ⟨rfl,trivial⟩ rfl) ?_;rintro⟨u,v⟩ ⟨hg,g1,g2⟩;dsimp only at hg g1 g2 ⊢
 by_cases hb:2<(digs v).length∨(2<(digs u).length∧0<(digs v).length)
 ·have hv:0<v:=by
   rcases Nat.eq_zero_or_pos v with hv|hv
   ·rw[hv,aD]at hb;simp at hb
   ·exact hv
  have hm:=Nat.mod_lt u hv
  by_cases h2:2<(digs v).length
  ·refine aJ ?_
   refine ax rfl ?_
   iterate 2 refine kO ?_
   refine kX ?_;refine kQ (oo g1 hv) ?_;exact⟨(v,u%v),⟨mY.trans hg,g2,Nat.le_trans (dp (Nat.le_of_lt hm)) g2⟩,hm,weak ⟨rfl,rfl,rfl,trivial⟩ ⟨rfl,trivial⟩ rfl⟩
  ·have h3:2<(digs u).length∧0<(digs v).length:=by omega
   refine aJ ?_;refine ax rfl ?_
   iterate 2 refine kO ?_
   refine kE ?_
   iterate 3 refine kO ?_
   refine kT ?_
   iterate 3 refine kO ?_
   refine kX ?_;refine kQ (oo g1 hv) ?_;exact⟨(v,u%v),⟨mY.trans hg,g2,Nat.le_trans (dp (Nat.le_of_lt hm)) g2⟩,hm,weak ⟨rfl,rfl,rfl,trivial⟩ ⟨rfl,trivial⟩ rfl⟩
 ·have hz:v=0∨(0<v∧(digs v).length≤2∧(digs u).length≤2):=by
   rcases Nat.eq_zero_or_pos v with hv|hv
   ·exact .inl hv
   ·have:0<(digs v).length:=by
     rcases Nat.eq_zero_or_pos (digs v).length with h|h
     ·have:=b8.1 h;omega
     ·exact h
    exact .inr ⟨hv,by omega,by omega⟩
  rcases hz with hv| ⟨hv,hv2,hu2⟩
  ·subst hv
   rw[Nat.gcd_zero_right]at hg;have hl0:(digs 0).length=0:=b8.2 rfl
   by_cases hu2:2<(digs u).length
   ·refine aJ ?_
    refine ax rfl ?_
    iterate 2 refine kO ?_
    refine kE ?_
    iterate 3 refine kO ?_
    refine kT ?_
    iterate 3 refine kO ?_
    refine kY ?_;refine eX (T:=TT) rfl ?_ ?_
    ·exact(by rw[hl0];rfl)
    refine kW ?_;refine DP (wT (aq u) (by omega)) rfl rfl rfl rfl rfl rfl rfl ?_;refine kW ?_;refine DP (gw (neg:=false) (xs:=digs u) (aq _) (show ak false (digs u)=((Nat.gcd (val xs) (val ys):Nat):Int) by rw[i7,← hg];rfl)) rfl rfl rfl rfl rfl rfl rfl ?_;exact kF
   ·refine aJ ?_
    refine ax rfl ?_
    iterate 2 refine kO ?_
    refine kE ?_
    iterate 3 refine kO ?_
    refine kY ?_;refine eX (T:=TT) rfl ?_ ?_
    ·exact(by rw[hl0];rfl)
    refine kW ?_;refine DP (wT (aq u) (by omega)) rfl rfl rfl rfl rfl rfl rfl ?_;refine kW ?_;refine DP (gw (neg:=false) (xs:=digs u) (aq _) (show ak false (digs u)=((Nat.gcd (val xs) (val ys):Nat):Int) by rw[i7,← hg];rfl)) rfl rfl rfl rfl rfl rfl rfl ?_;exact kF
  ·have hvl:0<(digs v).length:=by
    rcases Nat.eq_zero_or_pos (digs v).length with h|h
    ·have:=b8.1 h;omega
    ·exact h
   have hu64:u<18446744073709551616:=by have:=co hu2;simpa using this
   have hv64:v<18446744073709551616:=by have:=co hv2;simpa using this
   refine aJ ?_;refine ax rfl ?_
   iterate 2 refine kO ?_
   refine kE ?_
   iterate 3 refine kO ?_
   refine kY ?_;refine dC (T:=TT) rfl ?_ ?_
   ·exact beq_eq_false_iff_ne.2 (by omega)
   refine kW ?_;refine kQ (sR (aq u) hu2) ?_;refine kQ (sR (aq v) hv2) ?_;rw[af,af];refine bh (Nat × Nat) (fun p=>Nat.gcd p.1 p.2=Nat.gcd (val xs) (val ys)∧p.1<18446744073709551616∧p.2<18446744073709551616) (fun p=>⟨[(4, .box 2 0),(9, .d (dN .u64 p.1)),(10, .d (dN .u64 p.2))],[(2,some [.val (.bool false), .sl 0 []])]⟩) (fun p=>p.2) (u,v) ⟨hg,hu64,hv64⟩ (weak ⟨rfl,rfl,rfl,trivial⟩ ⟨rfl,trivial⟩ rfl) ?_;clear hg hu64 hv64 g1 g2 hu2 hv2 hvl hv hb;clear u v;rintro⟨u,v⟩ ⟨hg,hu,hv⟩;dsimp only at hg hu hv ⊢;rcases Nat.eq_zero_or_pos v with h0|h0
   ·subst h0
    rw[Nat.gcd_zero_right]at hg;refine kW ?_;refine kQ (wK u hu) ?_;refine DP (gw (neg:=false) (xs:=digs u) (aq _) (show ak false (digs u)=((Nat.gcd (val xs) (val ys):Nat):Int) by rw[i7,← hg];rfl)) rfl rfl rfl rfl rfl rfl rfl ?_;exact kF
   ·refine aJ ?_
    refine aJ ?_;refine ax rfl ?_;refine kO ?_;refine kB true ?_ ?_
    ·exact bne_iff_ne.2 (by omega)
    refine kW ?_;refine aO rfl rfl rfl rfl ?_ rfl rfl (vx (by omega)) ?_
    ·rfl
    refine kW ?_;have hm:=Nat.mod_lt u h0;refine⟨(v,u%v),⟨mY.trans hg,hv,by dsimp only;omega⟩,hm,weak ⟨rfl,rfl,?_,trivial⟩ ⟨rfl,trivial⟩ rfl⟩;show TV.d (.leaf (.val (.int .u64 ((u:Int).tmod v))))=TV.d (dN .u64 ((u%v:Nat):Int));rw[Int.ofNat_tmod];rfl
end Go.Proofs.YtikbnnljjeefgaaGreatDoor
namespace Go.Proofs.YtikbnnljjeefgaaGreatDoor
open Go.RowKit
def Bs (l:List UInt8):ByteArray:=⟨l.toArray⟩
def dL (l:List UInt8):DV:=dS (Bs l)
def vL (l:List UInt8):Value:= .string (Bs l)
theorem Df (s:ByteArray):Bs s.data.toList=s:=rfl
theorem au (l:List UInt8):(Bs l).size=l.length:=by simp[Bs,ByteArray.size]
theorem kS (l:List UInt8):(Bs l).toList=l:=ByteArray.toList_mk l
theorem Ax (a b:List UInt8):Bs a++Bs b=Bs (a++b):=by
 apply ByteArray.ext
 simp[Bs]
theorem jA (l:List UInt8) (i j:Nat):(Bs l).extract i j=Bs ((l.take j).drop i):=by
 apply ByteArray.ext
 simp[Bs,ByteArray.data_extract,List.extract_eq_take_drop,List.drop_take]
theorem jb {t:TypeId} {x y:Operand} {a b:List UInt8}:ny .eql t x y (vL a) (vL b)=some (.bool (decide (a=b))):=by
 show some (Value.bool ((Bs a).toList == (Bs b).toList))=_;rw[kS,kS]
 congr 2
 by_cases h:a=b<;>simp[h]
theorem mj {t:TypeId} {x y:Operand} {a b:List UInt8}:ny .neq t x y (vL a) (vL b)=some (.bool (!decide (a=b))):=by
 show some (Value.bool (!((Bs a).toList == (Bs b).toList)))=_;rw[kS,kS]
 congr 3
 by_cases h:a=b<;>simp[h]
theorem ek {t:TypeId} {x y:Operand} {a b:List UInt8} (h:a.length+b.length≤9223372036854775807):ny .add t x y (vL a) (vL b)=some (vL (a++b)):=by
 have h1:¬(((Bs a).size+(Bs b).size:Nat):Int) > IntKind.i64.max:=by
  rw[au,au,show IntKind.i64.max=9223372036854775807 from by decide];omega
 have:binOp .add t (vL a) (vL b)= .pure (vL (a++b)):=by
  simp only[binOp,vL,Op.stringOp,h1,if_false,Ax]
  rfl
 show vc (do eqGuard .add t x y (vL a) (vL b);binOp .add t (vL a) (vL b))=_
 simp only[this]
 rfl
section
variable {P:Program} {T:TypeId→Option Ty} {n:Nat} {ops:Array Oper} {id:Nat} {draw:Bool} {K:AS→Prop} {s:AS} {k:Nat} {o:Oper} {os:List Oper} {fps:List FP}
theorem kd {t:TypeId} {ty:Ty} (hT:b7 P t ty) (hs:ty.isStr=true):P.underlying t=some .string:=by
 obtain⟨d,hu,_,_,_,_,hst,_⟩:=hT.und;rw[hu,hst hs]
theorem ap (hT:∀t d,T t=some d→b7 P t d) {t:TypeId} {ty:Ty} {x y:Operand} {l:List UInt8} {c:UInt8} {i:Nat} {ik:IntKind} (hi:l[i]? =some c) (h1:gd ops s o=some true) (h2:o.op= .index t x y) (h5:T t=some ty) (h6:ty.isStr=true) (h7:s.ev x= .d (.leaf (.val (vL l)))) (h8:s.ev y= .d (.leaf (.val (.int ik (i:Nat)))))
 (h3:bn n o.dst=true) (h4:jr draw ops (a6 ops o ⟨.d (dN .u8 c.toNat),none⟩ []) k fps=true) (h:aH P T n ops id draw K (k+1) os (s.eff o.dst ⟨.d (dN .u8 c.toNat),none⟩) (a6 ops o ⟨.d (dN .u8 c.toNat),none⟩ []::fps)):aH P T n ops id draw K k (o::os) s fps:=by
 refine .run h1 (.gen fun s2 ht _=>?_) h3 h4 h;have hx:=(bd ht (x:=x) (by simp[h2,Op.operands])).trans h7;have hy:=(bd ht (x:=y) (by simp[h2,Op.operands])).trans h8;have hu:=kd (hT _ _ h5) h6;have hl:i<l.length:=(List.getElem?_eq_some_iff.1 hi).1
 refine av fun n S0 w0 g a w hM=>⟨.int .u8 c.toNat,w,?_,Below.refl _ _,AV.M.val rfl⟩
 unfold execOp;rw[h2];have hsz:=au l
 have hget:(Bs l)[i]'(by rw[hsz];exact hl)=c:=by
  have:=(List.getElem?_eq_some_iff.1 hi).2;show(Bs l).data[i]'_=c
  simpa[Bs]using this
 simp only[bJ hM hx,bJ hM hy,vL,Sem.run_bind,run_index_string _ t (Bs l) ik i hu]
 rw[dif_pos (by rw[hsz];omega)]
 simp only[Result.andThen_ok,Int.toNat_natCast,hget]
 rfl
theorem iL (hT:∀t d,T t=some d→b7 P t d) {t:TypeId} {ty:Ty} {x y:Operand} {l:List UInt8} {i:Nat} {ik:IntKind} (hi:i≤l.length) (h1:gd ops s o=some true) (h2:o.op= .slice t x (some y) none none) (h5:T t=some ty) (h6:ty.isStr=true) (h7:s.ev x= .d (.leaf (.val (vL l)))) (h8:s.ev y= .d (.leaf (.val (.int ik (i:Nat)))))
 (h3:bn n o.dst=true) (h4:jr draw ops (a6 ops o ⟨.d (dL (l.drop i)),none⟩ []) k fps=true) (h:aH P T n ops id draw K (k+1) os (s.eff o.dst ⟨.d (dL (l.drop i)),none⟩) (a6 ops o ⟨.d (dL (l.drop i)),none⟩ []::fps)):aH P T n ops id draw K k (o::os) s fps:=by
 refine .run h1 (.gen fun s2 ht _=>?_) h3 h4 h;have hx:=(bd ht (x:=x) (by simp[h2,Op.operands])).trans h7;have hy:=(bd ht (x:=y) (by simp[h2,Op.operands])).trans h8;have hu:=kd (hT _ _ h5) h6;refine av fun n S0 w0 g a w hM=>⟨vL (l.drop i),w,?_,Below.refl _ _,AV.M.val rfl⟩
 unfold execOp;rw[h2]
 have e1:(Instr.sliceAt t (.string (Bs l)) (some (.int ik i)) none none).run P w= .ok (vL (l.drop i)) w:=by
  unfold Instr.sliceAt
  simp only[Sem.run_bind,run_underlying hu w,Result.andThen_ok]
  rw[run_slice_string_l w t (Bs l) hu ik i (by omega) (by rw[au];omega),jA,au]
  simp[vL]
 simp only[bJ hM hx,bJ hM hy,vL,Option.map_some,Option.map_none,Sem.run_bind,e1,Result.andThen_ok]
 rfl
end
end Go.Proofs.YtikbnnljjeefgaaGreatDoor
namespace Go.Proofs.YtikbnnljjeefgaaGreatDoor
open Go.RowKit
section
variable {P:Program} {T:TypeId→Option Ty} {n:Nat} {s:AS}
theorem sG {x y:Code} {Q:AX→AS→Prop} (σ:AS) (hy:∀s',bt s' σ→gm P T n y Q s') (hx:∀R:AX→AS→Prop,(∀s',bt s' σ→R .normal s')→R .ret=Q .ret→gm P T n x R s):gm P T n (.seq x y) Q s:=aJ (hx _ hy rfl)
theorem BY {x y:Code} {Q:AX→AS→Prop} (σ:AS) (φ:Prop) (hy:φ→ ∀s',bt s' σ→gm P T n y Q s') (hx:∀R:AX→AS→Prop,(φ→ ∀s',bt s' σ→R .normal s')→R .ret=Q .ret→gm P T n x R s):gm P T n (.seq x y) Q s:=aJ (hx _ hy rfl)
theorem bt.trans {a b c:AS} (h:bt a b) (h':bt b c):bt a c:=fun n S0 w0 x w m=>h' n S0 w0 x w (h n S0 w0 x w m)
theorem MG.rename {S0:Nat→Prop} {w0:gy} {g:Nat→Nat} {a:Act} {w:World} (h:MG n S0 w0 g s a w) {j j':Nat} {cs:List AV} (hj:s.bx j=some cs) (hn:am s.b j'=none) (hw:dl j'=dl j) (hrv:km j'=false) (hlb:dX j'=false):
 ∃g',MG n S0 w0 g' ⟨s.t,(j',some cs)::(j,none)::s.b⟩ a w∧(∀(m k e:Nat) (v:Value),TV.M (Own S0 g s) g s w (.own j m k e) v→TV.M (Own S0 g' ⟨s.t,(j',some cs)::(j,none)::s.b⟩) g' ⟨s.t,(j',some cs)::(j,none)::s.b⟩ w (.own j' m k e) v)∧ ∀i,i≠j'→g' i=g i:=by
 have hjj:j'≠j:=fun e=>by
  subst e;obtain⟨x,hx⟩:=AS.kn_of hj;rw[hn]at hx;cases hx
 have hkn:∀i,s.kn i→i≠j':=fun i ⟨x,hx⟩ e=>by subst e;rw[hn]at hx;cases hx
 have hbx:∀i ci,(AS.mk s.t ((j',some cs)::(j,none)::s.b)).bx i=some ci→(i=j'∧ci=cs)∨(i≠j'∧i≠j∧s.bx i=some ci):=fun i ci hi=>by
  by_cases e1:i=j'
  ·subst e1;rw[AS.bx_same]at hi;cases hi;exact .inl ⟨rfl,rfl⟩
  ·rw[AS.bx_ne _ s.t _ _ e1]at hi
   by_cases e2:i=j
   ·subst e2;rw[AS.bx_dead]at hi;cases hi
   ·rw[AS.bx_ne _ s.t _ _ e2]at hi;exact .inr ⟨e1,e2,hi⟩
 have hO:Own S0 (fun i=>if i=j' then g j else g i) (AS.mk s.t ((j',some cs)::(j,none)::s.b))=Own S0 g s:=by
  funext b
  apply propext
  constructor
  ·rintro(h0| ⟨i,ci,hi,e0⟩)
   ·exact .inl h0
   ·rcases hbx i ci hi with⟨rfl,rfl⟩| ⟨h1,h2,h3⟩
    ·simp only[if_true]at e0;exact .inr ⟨j,ci,hj,e0⟩
    ·simp only[h1,if_false]at e0;exact .inr ⟨i,ci,h3,e0⟩
  ·rintro(h0| ⟨i,ci,hi,e0⟩)
   ·exact .inl h0
   ·by_cases e2:i=j
    ·subst e2
     exact .inr ⟨j',cs,AS.bx_same _ _ _ _,by simp only[if_true];exact e0⟩
    ·have h1:=hkn i (AS.kn_of hi)
     refine .inr ⟨i,ci,?_,by simp only[h1,if_false];exact e0⟩;rw[AS.bx_ne _ s.t _ _ h1,AS.bx_ne _ s.t _ _ e2];exact hi
 have hF:ja s (AS.mk s.t ((j',some cs)::(j,none)::s.b)) g (fun i=>if i=j' then g j else g i) w w:=⟨fun z hz=>AS.kn_cons (t:=s.t) _ (AS.kn_cons (t:=s.t) _ hz),fun z cz hk hz=>by
  rcases hbx z cz hz with⟨e1,_⟩| ⟨h1,h2,h3⟩
  ·exact absurd e1 (hkn z hk)
  ·exact⟨cz,h3,Nat.le_refl _,by simp only[h1,if_false],fun a1 e1 h4=>⟨a1,h4,rfl⟩⟩⟩
 refine⟨fun i=>if i=j' then g j else g i,⟨fun i=>?_,fun i ci hi=>?_,fun i i' ci ci' hi hi' e0=>?_,h.grow,h.df.agree hF,h.sz,h.cl,h.tg,fun k cs hk=>by rw[hO];exact(h.gl k cs hk).agree (b5.refl _ _) (fun _ _ h=>h) hF,fun i q ci h1 h2 hi=>by
  rcases hbx i ci hi with⟨e1,_⟩| ⟨h3,h4,h5⟩
  ·subst e1;rw[hrv]at h1;cases h1
  ·simp only[h3,if_false];exact h.gp i q ci h1 h2 h5,h.nk⟩,fun m k e v hm=>?_,fun i hi=>by simp only[hi,if_false]⟩
 ·rw[hO]
  exact(h.tm i).agree (b5.refl _ _) (fun _ _ h=>h) hF
 ·rw[hO]
  rcases hbx i ci hi with⟨rfl,rfl⟩| ⟨h1,h2,h3⟩
  ·simp only[if_true]
   obtain⟨h1,arr,e1,h4,h5,h6,_⟩:=h.bm j ci hj;exact⟨h1,arr,e1,h4,h5,fun hb=>h6 (by rw[← hw];exact hb),fun hl=>absurd hl (by rw[hlb];decide),fun ht=>absurd (mz ht) (by rw[hlb];decide)⟩
  ·simp only[h1,if_false]
   obtain⟨h4,h5⟩:=h.bm i ci h3;exact⟨h4,h5.agree rfl (b5.refl _ _) (fun _ _ h=>h) hF⟩
 ·rcases hbx i ci hi with⟨e1,_⟩| ⟨h1,h2,h3⟩<;>rcases hbx i' ci' hi' with⟨e1',_⟩| ⟨h1',h2',h3'⟩
  ·rw[e1,e1']
  ·rw[if_pos e1,if_neg h1']at e0
   exact absurd (h.inj j i' cs ci' hj h3' e0).symm h2'
  ·rw[if_neg h1,if_pos e1']at e0
   exact absurd (h.inj i j ci cs h3 hj e0) h2
  ·rw[if_neg h1,if_neg h1']at e0
   exact h.inj i i' ci ci' h3 h3' e0
 ·obtain⟨c,e1,e2,e3,e4,e5⟩:=hm.2 cs hj
  refine⟨⟨_,an _ _ _⟩,fun ci hc=>?_⟩;rw[AS.bx_same]at hc;cases hc
  simp only[if_true]
  exact⟨c,e1,e2,e3,e4,e5⟩
theorem MG.reslot {S0:Nat→Prop} {w0:gy} {g:Nat→Nat} {a:Act} {w:World} (h:MG n S0 w0 g s a w) {q:Nat} {x:TV} (hx:TV.M (Own S0 g s) g s w x (a.tmps.getD q Go.undef)) (hx1:vo x=true) (hx2:vo (s.tv q)=true):MG n S0 w0 g ⟨(q,x)::s.t,s.b⟩ a w:=by
 refine⟨fun i=>?_,fun i ci hi=>?_,h.inj,h.grow,?_,h.sz,h.cl,h.tg,fun k cs hk=>(h.gl k cs hk).sameB rfl,h.gp,h.nk⟩
 ·by_cases hi:q=i
  ·subst hi
   have e0:(AS.mk ((q,x)::s.t) s.b).tv q=x:=by simp[AS.tv,an]
   rw[e0];exact hx.sameB rfl
  ·have e0:(AS.mk ((q,x)::s.t) s.b).tv i=s.tv i:=by simp[AS.tv,aA _ _ hi]
   rw[e0];exact(h.tm i).sameB rfl
 ·obtain⟨h1,h2⟩:=h.bm i ci hi
  exact⟨h1,h2.sameB rfl⟩
 ·by_cases hi:q=DK
  ·have e0:(AS.mk ((q,x)::s.t) s.b).tv DK=x:=by rw[← hi];simp[AS.tv,an]
   rw[e0];have h0:=h.df;rw[← hi]at h0;exact(xl.no hx1).2 ((xl.no hx2).1 h0)
  ·have e0:(AS.mk ((q,x)::s.t) s.b).tv DK=s.tv DK:=by simp[AS.tv,aA _ _ hi]
   rw[e0];exact h.df.sameB rfl
theorem bg {q j j' m k e:Nat} {cs:List AV} (hq:s.tv q= .own j m k e) (hj:s.bx j=some cs) (hn:am s.b j'=none) (hw:dl j'=dl j) (hrv:km j'=false:=by rfl) (hlb:dX j'=false:=by rfl):bt s ⟨(q, .own j' m k e)::s.t,(j',some cs)::(j,none)::s.b⟩:=by
 rintro n S0 w0 a w ⟨g,h⟩;obtain⟨g',h1,h2,_⟩:=h.rename hj hn hw hrv hlb;have hm:=h.tm q;rw[hq]at hm;exact⟨g',h1.reslot (h2 m k e _ hm) rfl (by show vo (s.tv q)=true;rw[hq];rfl)⟩
end
section
variable {P:Program} {T:TypeId→Option Ty} {n:Nat} {ops:Array Oper} {id:Nat} {draw:Bool} {K:AS→Prop} {s:AS} {k:Nat} {o:Oper} {os:List Oper} {fps:List FP}
theorem E7 {t:TypeId} {ty:Ty} {x:Operand} {i off:Nat} {cs:List AV} {a:AV} (ha:cs[off]? =some a) (h1:gd ops s o=some true) (h2:o.op= .load t x) (h5:T t=some ty) (h6:ty.agg=false) (h7:ty.size=1) (h8:s.ev x= .box i off) (h9:s.bx i=some cs)
 (h3:bn n o.dst=true) (h4:jr draw ops (a6 ops o ⟨.d (.leaf a),none⟩ [i]) k fps=true) (h:aH P T n ops id draw K (k+1) os (s.eff o.dst ⟨.d (.leaf a),none⟩) (a6 ops o ⟨.d (.leaf a),none⟩ [i]::fps)) (hlb:dX i=false:=by rfl):aH P T n ops id draw K k (o::os) s fps:=by
 refine oX h1 ?_ h3 h4 h;obtain⟨hl,hg⟩:=List.getElem?_eq_some_iff.1 ha;have hb:Nat.ble (off+1) cs.length=true:=Nat.ble_eq_true_of_le hl
 have hd:(cs.drop off).take 1=[a]:=by
  rw[List.drop_eq_getElem_cons hl,hg];rfl
 unfold fI
 simp only[h2,h5,h8,h9,h6,h7,hb,hd,hlb]
 rfl
theorem DJ {t:TypeId} {ty:Ty} {x y:Operand} {i off:Nat} {cs cs':List AV} {a:AV} (hl:off<cs.length) (hs:dY cs off [a]=cs') (h1:gd ops s o=some true) (h2:o.op= .store t x y) (h0:o.dst=none) (h5:T t=some ty) (h7:ty.size=1) (h8:s.ev x= .box i off) (h9:s.bx i=some cs) (h10:Co (s.ev y)=some (.leaf a)) (h11:IS i [a]=true)
 (h4:jr draw ops (a6 ops o ⟨.junk,some [(i,some cs')]⟩ [i]) k fps=true) (h:aH P T n ops id draw K (k+1) os (s.eff o.dst ⟨.junk,some [(i,some cs')]⟩) (a6 ops o ⟨.junk,some [(i,some cs')]⟩ [i]::fps)) (hlb:dX i=false:=by rfl):aH P T n ops id draw K k (o::os) s fps:=by
 refine oX h1 ?_ (by rw[h0];rfl) h4 h;have hb:Nat.ble (off+1) cs.length=true:=Nat.ble_eq_true_of_le hl;unfold fI
 simp only[h0,h2,h5,h8,h9,h7,hb,h10,DV.cells,h11,hs,hlb,FA]
 rfl
end
end Go.Proofs.YtikbnnljjeefgaaGreatDoor
namespace Go.Proofs.YtikbnnljjeefgaaGreatDoor
open Go.RowKit
theorem di {t:TypeId} {x y:Operand} {a b:List UInt8} (h:a=b):ny .eql t x y (vL a) (vL b)=some (.bool true):=by rw[jb,decide_eq_true h]
theorem gE {t:TypeId} {x y:Operand} {a b:List UInt8} (h:a≠b):ny .eql t x y (vL a) (vL b)=some (.bool false):=by rw[jb,decide_eq_false h]
theorem ee {t:TypeId} {x y:Operand} {a b:List UInt8} (h:a≠b):ny .neq t x y (vL a) (vL b)=some (.bool true):=by rw[mj,decide_eq_false h];rfl
theorem gk {t:TypeId} {x y:Operand} {a b:List UInt8} (h:a=b):ny .neq t x y (vL a) (vL b)=some (.bool false):=by rw[mj,decide_eq_true h];rfl
section
variable {P:Program} {T:TypeId→Option Ty} {n:Nat} {ops:Array Oper} {id:Nat} {draw:Bool} {K:AS→Prop} {s:AS} {k:Nat} {o:Oper} {os:List Oper} {fps:List FP}
theorem wP (hT:∀t d,T t=some d→b7 P t d) {t:TypeId} {ty:Ty} {x y:Operand} {l:List UInt8} {i:Nat} {ik:IntKind} (hi:i≤l.length) (h1:gd ops s o=some true) (h2:o.op= .slice t x none (some y) none) (h5:T t=some ty) (h6:ty.isStr=true) (h7:s.ev x= .d (.leaf (.val (vL l)))) (h8:s.ev y= .d (.leaf (.val (.int ik (i:Nat)))))
 (h3:bn n o.dst=true) (h4:jr draw ops (a6 ops o ⟨.d (dL (l.take i)),none⟩ []) k fps=true) (h:aH P T n ops id draw K (k+1) os (s.eff o.dst ⟨.d (dL (l.take i)),none⟩) (a6 ops o ⟨.d (dL (l.take i)),none⟩ []::fps)):aH P T n ops id draw K k (o::os) s fps:=by
 refine .run h1 (.gen fun s2 ht _=>?_) h3 h4 h;have hx:=(bd ht (x:=x) (by simp[h2,Op.operands])).trans h7;have hy:=(bd ht (x:=y) (by simp[h2,Op.operands])).trans h8;have hu:=kd (hT _ _ h5) h6;refine av fun n S0 w0 g a w hM=>⟨vL (l.take i),w,?_,Below.refl _ _,AV.M.val rfl⟩
 unfold execOp;rw[h2]
 have e1:(Instr.sliceAt t (.string (Bs l)) none (some (.int ik i)) none).run P w= .ok (vL (l.take i)) w:=by
  unfold Instr.sliceAt
  simp only[Sem.run_bind,run_underlying hu w,Result.andThen_ok]
  rw[run_slice_string_h w t (Bs l) hu ik i (by omega) (by rw[au];omega),jA]
  simp[vL]
 simp only[bJ hM hx,bJ hM hy,vL,Option.map_some,Option.map_none,Sem.run_bind,e1,Result.andThen_ok]
 rfl
end
end Go.Proofs.YtikbnnljjeefgaaGreatDoor
namespace Go.Proofs.YtikbnnljjeefgaaGreatDoor
open Go.RowKit
def dU (c:UInt8):Bool:=(decide (97≤c.toNat) && decide (c.toNat≤122)) || (decide (65≤c.toNat) && decide (c.toNat≤90))
def cx (c:UInt8):Bool:=decide (48≤c.toNat) && decide (c.toNat≤57)
def fQ (c:UInt8):Bool:=dU c || cx c || decide (c.toNat=95)
def aV (p:UInt8→Bool) (s:List UInt8):Nat:=(s.takeWhile p).length
theorem gt (p:UInt8→Bool) (s:List UInt8):aV p s≤s.length:=by
 induction s with
 |nil=>exact Nat.le_refl _
 |cons c r ih=>
  unfold aV at *;rw[List.takeWhile_cons]
  split
  ·simpa using ih
  ·simp
theorem l9 {p:UInt8→Bool}:∀{s:List UInt8} {i:Nat},(∀(q:Nat) c,q<i→s[q]? =some c→p c=true)→(s[i]? =none∧i≤s.length∨ ∃c,s[i]? =some c∧p c=false)→aV p s=i
 | [],i,_,h=>by
  rcases h with⟨_,h⟩| ⟨c,h,_⟩
  ·simp at h;simp[aV,h]
  ·simp at h
 |a::s,0,_,h=>by
  rcases h with⟨h,_⟩| ⟨c,h,k⟩
  ·simp at h
  ·simp at h;subst h;simp[aV,List.takeWhile,k]
 |a::s,i+1,hq,h=>by
  have h0:=hq 0 a (by omega) rfl;have ih:=l9 (s:=s) (i:=i) (fun q c h1 h2=>hq (q+1) c (by omega) (by simpa using h2)) (by simpa using h);unfold aV at *
  simp only[List.takeWhile,h0,List.length_cons]
  omega
def dF (f:FuncId):DV:= .leaf (.val (.func (.func f) #[] #[]))
theorem iQ (c:UInt8):ab Tryz.prog 52 [dN .u8 c.toNat] (.one (dB (dU c))):=by
 by_cases h1:97≤c.toNat
 ·by_cases h2:c.toNat≤122
  ·rw[show dU c=true by unfold dU;simp[h1,h2]]
   refine kU aa ac Tryz.func52 ?_;refine kR ?_;refine kI ?_;refine kO ?_;refine kT ?_
   iterate 2 refine kO ?_
   refine kT ?_;exact kF
  ·rw[show dU c=false by unfold dU;rw[decide_eq_false h2,decide_eq_false (show ¬c.toNat≤90 by omega)];simp]
   refine kU aa ac Tryz.func52 ?_;refine kR ?_;refine kI ?_;refine kO ?_;refine kT ?_
   iterate 2 refine kO ?_
   refine kE ?_
   iterate 3 refine kO ?_
   refine kT ?_
   iterate 2 refine kO ?_
   refine kE ?_;exact kF
 ·by_cases h2:65≤c.toNat
  ·by_cases h3:c.toNat≤90
   ·rw[show dU c=true by unfold dU;simp[h2,h3]]
    refine kU aa ac Tryz.func52 ?_;refine kR ?_;refine kI ?_;refine kO ?_;refine kE ?_
    iterate 6 refine kO ?_
    refine kT ?_
    iterate 2 refine kO ?_
    refine kT ?_;exact kF
   ·rw[show dU c=false by unfold dU;rw[decide_eq_false h1,decide_eq_false h3];simp]
    refine kU aa ac Tryz.func52 ?_;refine kR ?_;refine kI ?_;refine kO ?_;refine kE ?_
    iterate 6 refine kO ?_
    refine kT ?_
    iterate 2 refine kO ?_
    refine kE ?_;exact kF
  ·rw[show dU c=false by unfold dU;rw[decide_eq_false h1,decide_eq_false h2];simp]
   refine kU aa ac Tryz.func52 ?_;refine kR ?_;refine kI ?_;refine kO ?_;refine kE ?_
   iterate 6 refine kO ?_
   refine kE ?_;exact kF
theorem lI (c:UInt8):ab Tryz.prog 112 [dN .u8 c.toNat] (.one (dB (dU c))):=by
 by_cases h1:97≤c.toNat
 ·by_cases h2:c.toNat≤122
  ·rw[show dU c=true by unfold dU;simp[h1,h2]]
   refine kU aa ac Tryz.func112 ?_;refine kR ?_;refine kI ?_;refine kO ?_;refine kT ?_
   iterate 2 refine kO ?_
   refine kT ?_;exact kF
  ·rw[show dU c=false by unfold dU;rw[decide_eq_false h2,decide_eq_false (show ¬c.toNat≤90 by omega)];simp]
   refine kU aa ac Tryz.func112 ?_;refine kR ?_;refine kI ?_;refine kO ?_;refine kT ?_
   iterate 2 refine kO ?_
   refine kE ?_
   iterate 3 refine kO ?_
   refine kT ?_
   iterate 2 refine kO ?_
   refine kE ?_;exact kF
 ·by_cases h2:65≤c.toNat
  ·by_cases h3:c.toNat≤90
   ·rw[show dU c=true by unfold dU;simp[h2,h3]]
    refine kU aa ac Tryz.func112 ?_;refine kR ?_;refine kI ?_;refine kO ?_;refine kE ?_
    iterate 6 refine kO ?_
    refine kT ?_
    iterate 2 refine kO ?_
    refine kT ?_;exact kF
   ·rw[show dU c=false by unfold dU;rw[decide_eq_false h1,decide_eq_false h3];simp]
    refine kU aa ac Tryz.func112 ?_;refine kR ?_;refine kI ?_;refine kO ?_;refine kE ?_
    iterate 6 refine kO ?_
    refine kT ?_
    iterate 2 refine kO ?_
    refine kE ?_;exact kF
  ·rw[show dU c=false by unfold dU;rw[decide_eq_false h1,decide_eq_false h2];simp]
   refine kU aa ac Tryz.func112 ?_;refine kR ?_;refine kI ?_;refine kO ?_;refine kE ?_
   iterate 6 refine kO ?_
   refine kE ?_;exact kF
theorem gO (c:UInt8):ab Tryz.prog 83 [dN .u8 c.toNat] (.one (dB (cx c))):=by
 by_cases h1:48≤c.toNat
 ·by_cases h2:c.toNat≤57
  ·rw[show cx c=true by unfold cx;simp[h1,h2]]
   refine kU aa ac Tryz.func83 ?_;refine kR ?_;refine kI ?_;refine kO ?_;refine kT ?_
   iterate 2 refine kO ?_
   refine kT ?_;exact kF
  ·rw[show cx c=false by unfold cx;rw[decide_eq_false h2];simp]
   refine kU aa ac Tryz.func83 ?_;refine kR ?_;refine kI ?_;refine kO ?_;refine kT ?_
   iterate 2 refine kO ?_
   refine kE ?_;exact kF
 ·rw[show cx c=false by unfold cx;rw[decide_eq_false h1];simp]
  refine kU aa ac Tryz.func83 ?_;refine kR ?_;refine kI ?_;refine kO ?_;refine kE ?_;exact kF
theorem mJ (c:UInt8):ab Tryz.prog 113 [dN .u8 c.toNat] (.one (dB (cx c))):=by
 by_cases h1:48≤c.toNat
 ·by_cases h2:c.toNat≤57
  ·rw[show cx c=true by unfold cx;simp[h1,h2]]
   refine kU aa ac Tryz.func113 ?_;refine kR ?_;refine kI ?_;refine kO ?_;refine kT ?_
   iterate 2 refine kO ?_
   refine kT ?_;exact kF
  ·rw[show cx c=false by unfold cx;rw[decide_eq_false h2];simp]
   refine kU aa ac Tryz.func113 ?_;refine kR ?_;refine kI ?_;refine kO ?_;refine kT ?_
   iterate 2 refine kO ?_
   refine kE ?_;exact kF
 ·rw[show cx c=false by unfold cx;rw[decide_eq_false h1];simp]
  refine kU aa ac Tryz.func113 ?_;refine kR ?_;refine kI ?_;refine kO ?_;refine kE ?_;exact kF
theorem nZ (c:UInt8):ab Tryz.prog 54 [dN .u8 c.toNat] (.one (dB (fQ c))):=by
 have c1:=iQ c;have c2:=gO c;unfold fQ;cases h1:dU c
 ·rw[h1]at c1
  cases h2:cx c
  ·rw[h2]at c2
   refine kU aa ac Tryz.func54 ?_;refine kW ?_;refine kQ (c1) ?_;refine kC (c2) ?_
   iterate 3 refine kO ?_
   by_cases h3:c.toNat=95
   ·refine kT ?_
    rw[decide_eq_true h3];exact kF
   ·refine kE ?_
    rw[decide_eq_false h3];exact kF
  ·rw[h2]at c2
   refine kU aa ac Tryz.func54 ?_;refine kW ?_;refine kQ (c1) ?_;refine kC (c2) ?_;exact kF
 ·rw[h1]at c1
  refine kU aa ac Tryz.func54 ?_;refine kW ?_;refine kC (c1) ?_;exact kF
theorem kL {fid:FuncId} {p:UInt8→Bool} (hp:∀c:UInt8,ab Tryz.prog fid [dN .u8 c.toNat] (.one (dB (p c)))) (s:List UInt8) (hl:s.length≤4611686018427387904):ab Tryz.prog 53 [dL s,dF fid] (.one (dN .i64 (aV p s))):=by
 have hB:=au s;refine kU aa ac Tryz.func53 ?_;refine kW ?_
 refine bh Nat (fun i=>i≤s.length∧ ∀(q:Nat) c,q<i→s[q]? =some c→p c=true) (fun i=>⟨[(0, .d (dL s)),(1, .d (dF fid)),(4, .d (dN .i64 0)),(5, .d (dN .i64 i))],[]⟩) (fun i=>s.length-i) 0 ⟨Nat.zero_le _,fun q c h=>absurd h (Nat.not_lt_zero _)⟩
  (weak ⟨rfl,rfl,rfl,rfl,trivial⟩ trivial rfl) ?_
 rintro i ⟨hi,hq⟩;refine kI ?_
 iterate 3 refine kO ?_
 by_cases hlt:i<s.length
 ·have hx:s[i]? =some s[i]:=by simp[hlt]
  have hc:=hp s[i];refine kT ?_
  iterate 4 refine kO ?_
  refine ap aa (i:=i) (c:=s[i]) hx rfl rfl rfl rfl rfl rfl rfl rfl ?_;cases hb:p s[i]
  ·rw[hb]at hc
   refine kQ (hc) ?_;rw[l9 hq (.inr ⟨_,hx,hb⟩)];exact bL (T:=TT) rfl rfl
  ·rw[hb]at hc
   refine kQ (hc) ?_
   exact⟨i+1,⟨hlt,fun q c h1 h2=>by
    by_cases e:q=i
    ·subst e;rw[hx]at h2;cases h2;exact hb
    ·exact hq q c (by omega) h2⟩,by omega,weak ⟨rfl,rfl,rfl,bc (by omega) (by omega),trivial⟩ trivial rfl⟩
 ·refine kE ?_
  refine kW ?_;rw[l9 hq (.inl ⟨List.getElem?_eq_none (by omega),hi⟩)];exact bL (T:=TT) rfl rfl
def jk (s:List UInt8):Nat:=if s[aV cx s]? =some 46∧0<aV cx (s.drop (aV cx s+1))then aV cx s+1+aV cx (s.drop (aV cx s+1))else aV cx s
theorem wm (s:List UInt8) (hl:s.length≤4611686018427387903):ab Tryz.prog 106 [dL s] (.one (dN .i64 (jk s))):=by
 have hB:=au s;have c1:=kL gO s (by omega);have hn:=gt cx s;unfold jk;generalize aV cx s=n at *
 by_cases h1:n<s.length
 ·have hx:s[n]? =some s[n]:=by simp[h1]
  by_cases h2:s[n]=46
  ·have c2:=kL gO (s.drop (n+1)) (by rw[List.length_drop];omega)
   have hm:=gt cx (s.drop (n+1));rw[List.length_drop]at hm;generalize aV cx (s.drop (n+1))=m at *;have hx2:s[n]? =some 46:=by rw[hx,h2]
   have h2':s[n].toNat=46:=by rw[h2];rfl
   by_cases h3:0<m
   ·rw[if_pos ⟨hx2,h3⟩]
    refine kU aa ac Tryz.func106 ?_;refine kW ?_;refine kC (c1) ?_;refine kG ?_
    iterate 3 refine kO ?_
    refine kT ?_
    iterate 3 refine kO ?_
    refine ap aa (i:=n) (c:=s[n]) hx rfl rfl rfl rfl rfl rfl rfl rfl ?_;refine kT ?_;refine kG ?_
    iterate 2 refine kO ?_
    refine kJ ((n+1:Nat)) ?_;refine iL aa (i:=n+1) (by omega) rfl rfl rfl rfl rfl rfl rfl rfl ?_;refine kC (c2) ?_;refine kG ?_;refine kO ?_;refine kT ?_;refine kG ?_;refine kO ?_;refine kJ ((n+1:Nat)) ?_;refine kO ?_;refine kJ ((n+1+m:Nat)) ?_;exact kF
   ·rw[if_neg (fun h=>h3 h.2)]
    refine kU aa ac Tryz.func106 ?_;refine kW ?_;refine kC (c1) ?_;refine kG ?_
    iterate 3 refine kO ?_
    refine kT ?_
    iterate 3 refine kO ?_
    refine ap aa (i:=n) (c:=s[n]) hx rfl rfl rfl rfl rfl rfl rfl rfl ?_;refine kT ?_;refine kG ?_
    iterate 2 refine kO ?_
    refine kJ ((n+1:Nat)) ?_;refine iL aa (i:=n+1) (by omega) rfl rfl rfl rfl rfl rfl rfl rfl ?_;refine kC (c2) ?_;refine kG ?_;refine kO ?_;refine kE ?_;exact kF
  ·have h2':¬s[n].toNat=46:=fun e=>h2 (UInt8.toNat_inj.1 e)
   rw[if_neg (fun h=>by rw[hx]at h;exact h2 (Option.some.inj h.1))];refine kU aa ac Tryz.func106 ?_;refine kW ?_;refine kC (c1) ?_;refine kG ?_
   iterate 3 refine kO ?_
   refine kT ?_
   iterate 3 refine kO ?_
   refine ap aa (i:=n) (c:=s[n]) hx rfl rfl rfl rfl rfl rfl rfl rfl ?_;refine kE ?_;exact kF
 ·rw[if_neg (fun h=>by rw[List.getElem?_eq_none (by omega)]at h;cases h.1)]
  refine kU aa ac Tryz.func106 ?_;refine kW ?_;refine kC (c1) ?_;refine kG ?_
  iterate 3 refine kO ?_
  refine kE ?_;exact kF
end Go.Proofs.YtikbnnljjeefgaaGreatDoor
namespace Go.Proofs.YtikbnnljjeefgaaGreatDoor
open Go.RowKit
theorem jo (s:List UInt8) (c:UInt8):ab Tryz.prog 108 [dL s,dN .u8 c.toNat] (.one (dN .i64 (Lib.indexByte s c))):=
 ⟨aB Tryz.func108 rfl rfl,fun S w vs hS hv=>by
  match vs,hv with
  | [v,u],⟨h1,h2,_⟩=>
   obtain rfl:=bM h1;obtain rfl:=bM h2;refine(Tryz.strings_IndexByte (Bs s) c.toNat w).mono ?_;rintro e w' ⟨rfl,rfl⟩;have e1:Lib.indexByte (Bs s).data.toList ((c.toNat:Int).toNat.toUInt8)=Lib.indexByte s c:=by simp[Bs]
   rw[e1];exact⟨_,rfl,AV.M.val rfl,Below.refl _ _⟩⟩
def eW:List UInt8→Nat→Nat
 | [],_=>0
 | [c],i=>if c=34 then i+1 else 0
 |c::d::r,i=>if c=34 then i+1 else if c.toNat<32 then 0 else if c=92 then(if Lib.indexByte [34,92,110] d<0 then 0 else eW r (i+2))else eW (d::r) (i+1)
def mw (s:List UInt8):Nat:=eW (s.drop 1) 1
theorem ns {r:List UInt8} {i:Nat}:eW (34::r) i=i+1:=by cases r<;>simp[eW]
theorem qe {c:UInt8} {r:List UInt8} {i:Nat} (h:c≠34) (h':c.toNat<32):eW (c::r) i=0:=by cases r<;>simp[eW,h,h']
theorem qN {c:UInt8} {i:Nat} (h:c≠34):eW [c] i=0:=by simp[eW,h]
theorem m3 {d:UInt8} {r:List UInt8} {i:Nat}:eW (92::d::r) i=if Lib.indexByte [34,92,110] d<0 then 0 else eW r (i+2):=by simp[eW]
theorem oV {c:UInt8} {r:List UInt8} {i:Nat} (h:c≠34) (h':¬c.toNat<32) (h2:c≠92):eW (c::r) i=eW r (i+1):=by
 cases r with
 |nil=>simp[eW,h]
 |cons d r=>simp[eW,h,h',h2]
theorem dK {c:UInt8} {n:UInt8} (h:¬c=n):¬c.toNat=n.toNat:=fun e=>h (UInt8.toNat_inj.1 e)
theorem xa (s:List UInt8) (hl:s.length≤4611686018427387903):ab Tryz.prog 107 [dL s] (.one (dN .i64 (mw s))):=by
 have hB:=au s;refine kU aa ac Tryz.func107 ?_;refine kW ?_
 refine bh Nat (fun i=>1≤i∧(i≤s.length∨i=1)∧eW (s.drop i) i=mw s) (fun i=>⟨[(0, .d (dL s)),(2, .d (dN .i64 0)),(3, .d (dN .i64 i))],[]⟩) (fun i=>s.length+1-i) 1 ⟨Nat.le_refl _, .inr rfl,rfl⟩
  (weak ⟨rfl,rfl,rfl,trivial⟩ trivial rfl) ?_
 rintro i ⟨h1,h2,h3⟩;refine kI ?_
 iterate 3 refine kO ?_
 by_cases hlt:i<s.length
 ·have hx:s[i]? =some s[i]:=by simp[hlt]
  rw[List.drop_eq_getElem_cons hlt]at h3;generalize hc:s[i]=c at *;refine kT ?_;refine kG ?_
  iterate 2 refine kO ?_
  refine ap aa (i:=i) (c:=c) hx rfl rfl rfl rfl rfl rfl rfl rfl ?_
  by_cases c34:c=34
  ·have e34:c.toNat=34:=by rw[c34];rfl
   rw[c34,ns]at h3;refine kT ?_;refine kG ?_;refine kO ?_;refine kJ ((i+1:Nat)) ?_;rw[← h3];exact kF
  ·have e34:¬c.toNat=34:=dK c34
   refine kE ?_;refine kG ?_
   iterate 2 refine kO ?_
   refine ap aa (i:=i) (c:=c) hx rfl rfl rfl rfl rfl rfl rfl rfl ?_
   by_cases c32:c.toNat<32
   ·rw[qe c34 c32]at h3
    refine kT ?_;rw[← h3];exact kF
   ·refine kE ?_
    refine kG ?_
    iterate 2 refine kO ?_
    refine ap aa (i:=i) (c:=c) hx rfl rfl rfl rfl rfl rfl rfl rfl ?_
    by_cases c92:c=92
    ·have e92:c.toNat=92:=by rw[c92];rfl
     refine kT ?_;refine kG ?_;refine kO ?_;refine kJ ((i+1:Nat)) ?_;refine kG ?_
     iterate 3 refine kO ?_
     by_cases hend:i+1=s.length
     ·rw[List.drop_eq_nil_of_le (by omega),qN c34]at h3
      refine kT ?_;rw[← h3];exact kF
     ·have hlt2:i+1<s.length:=by omega
      have hx2:s[i+1]? =some s[i+1]:=by simp[hlt2]
      rw[List.drop_eq_getElem_cons hlt2,c92,m3]at h3;generalize s[i+1]=d at *;refine kE ?_
      iterate 3 refine kO ?_
      refine ap aa (i:=i+1) (c:=d) hx2 rfl rfl rfl rfl rfl rfl rfl rfl ?_;refine kC (jo [34,92,110] d) ?_
      by_cases hd:Lib.indexByte [34,92,110] d<0
      ·rw[if_pos hd]at h3
       refine kB true ?_ ?_
       ·exact decide_eq_true hd
       rw[← h3];exact kF
      ·rw[if_neg hd]at h3
       refine kB false ?_ ?_
       ·exact decide_eq_false hd
       refine kW ?_;exact⟨i+2,⟨by omega, .inl (by omega),h3⟩,by omega,weak ⟨rfl,rfl,bc (by omega) (by omega),trivial⟩ trivial rfl⟩
    ·have e92:¬c.toNat=92:=dK c92
     rw[oV c34 c32 c92]at h3;refine kY ?_;exact⟨i+1,⟨by omega, .inl (by omega),h3⟩,by omega,weak ⟨rfl,rfl,bc (by omega) (by omega),trivial⟩ trivial rfl⟩
 ·refine kE ?_
  rw[List.drop_eq_nil_of_le (by omega),eW]at h3;rw[← h3];exact kF
def io:List UInt8:=[43,45,42,47,40,41,91,93,123,125,44,58,59,61,46,60,62,64,35]
def rI (c:UInt8):Bool:=decide (0≤Lib.indexByte io c)
def gK:List UInt8→Nat × Nat
 | []=>(0,0)
 |c::r=>if dU c then(1,aV fQ (c::r))else if cx c then(2,jk (c::r))else if c=34 then(3,mw (c::r))else if c=10 then(5,1)else if rI c then(4,1)else(0,0)
theorem AG (c:UInt8) (r:List UInt8) (hl:(c::r).length≤4611686018427387903):ab Tryz.prog 69 [dL (c::r)] (.tup [dN .i64 (gK (c::r)).1,dN .i64 (gK (c::r)).2]):=by
 have c1:=iQ c;have c2:=gO c;cases h1:dU c
 ·rw[h1]at c1
  cases h2:cx c
  ·rw[h2]at c2
   by_cases h3:c=34
   ·have e3:c.toNat=34:=by rw[h3];rfl
    rw[show gK (c::r)=(3,mw (c::r)) by rw[gK,h1,h2];simp[h3]];refine kU aa ac Tryz.func69 ?_;refine kR ?_;refine kI ?_;refine kO ?_;refine ap aa (i:=0) (c:=c) rfl rfl rfl rfl rfl rfl rfl rfl rfl ?_;refine kW ?_;refine kQ (c1) ?_;refine kC (c2) ?_;refine kG ?_;refine kO ?_;refine kX ?_;refine kC (xa (c::r) hl) ?_;exact kF
   ·have e3:¬c.toNat=34:=dK h3
    by_cases h4:c=10
    ·have e4:c.toNat=10:=by rw[h4];rfl
     rw[show gK (c::r)=(5,1) by rw[gK,h1,h2];simp[h3,h4]];refine kU aa ac Tryz.func69 ?_;refine kR ?_;refine kI ?_;refine kO ?_;refine ap aa (i:=0) (c:=c) rfl rfl rfl rfl rfl rfl rfl rfl rfl ?_;refine kW ?_;refine kQ (c1) ?_;refine kC (c2) ?_;refine kG ?_;refine kO ?_;refine kE ?_;refine kG ?_;refine kO ?_;refine kT ?_;exact kF
    ·have e4:¬c.toNat=10:=dK h4
     by_cases h5:0≤Lib.indexByte io c
     ·rw[show gK (c::r)=(4,1) by simp[gK,h1,h2,h3,h4,rI,h5]]
      refine kU aa ac Tryz.func69 ?_;refine kR ?_;refine kI ?_;refine kO ?_;refine ap aa (i:=0) (c:=c) rfl rfl rfl rfl rfl rfl rfl rfl rfl ?_;refine kW ?_;refine kQ (c1) ?_;refine kC (c2) ?_;refine kG ?_;refine kO ?_;refine kE ?_;refine kG ?_;refine kO ?_;refine kY ?_;refine kC (jo io c) ?_;refine kB true ?_ ?_
      ·exact decide_eq_true h5
      exact kF
     ·rw[show gK (c::r)=(0,0) by simp[gK,h1,h2,h3,h4,rI,h5]]
      refine kU aa ac Tryz.func69 ?_;refine kR ?_;refine kI ?_;refine kO ?_;refine ap aa (i:=0) (c:=c) rfl rfl rfl rfl rfl rfl rfl rfl rfl ?_;refine kW ?_;refine kQ (c1) ?_;refine kC (c2) ?_;refine kG ?_;refine kO ?_;refine kE ?_;refine kG ?_;refine kO ?_;refine kY ?_;refine kC (jo io c) ?_;refine kB false ?_ ?_
      ·exact decide_eq_false h5
      exact kF
  ·rw[h2]at c2
   rw[show gK (c::r)=(2,jk (c::r)) by simp[gK,h1,h2]];refine kU aa ac Tryz.func69 ?_;refine kR ?_;refine kI ?_;refine kO ?_;refine ap aa (i:=0) (c:=c) rfl rfl rfl rfl rfl rfl rfl rfl rfl ?_;refine kW ?_;refine kQ (c1) ?_;refine kQ (c2) ?_;refine kC (wm (c::r) hl) ?_;exact kF
 ·rw[h1]at c1
  rw[show gK (c::r)=(1,aV fQ (c::r)) by simp[gK,h1]];refine kU aa ac Tryz.func69 ?_;refine kR ?_;refine kI ?_;refine kO ?_;refine ap aa (i:=0) (c:=c) rfl rfl rfl rfl rfl rfl rfl rfl rfl ?_;refine kW ?_;refine kQ (c1) ?_;refine DP (kL nZ (c::r) (by omega)) rfl rfl rfl rfl rfl rfl rfl ?_;exact kF
end Go.Proofs.YtikbnnljjeefgaaGreatDoor
namespace Go.Proofs.YtikbnnljjeefgaaGreatDoor
open Go.RowKit
inductive RT where
 |v (r:RV)
 |own (j n k e:Nat)
def RT.tv:RT→TV
 | .v r=>r.tv
 | .own j n k e=> .own j n k e
abbrev BL:=List (Nat × List AV)
def aC:BL→List (Nat × Option (List AV))
 | []=>[]
 |(j,cs)::r=>(j,some cs)::aC r
def sB (b:BL):AS:=⟨[],aC b⟩
def q9:Nat→List TV→List (Nat × TV)
 |_,[]=>[]
 |k,d::r=>(k,d)::q9 (k+1) r
def nj (S:Nat→Prop) (g:Nat→Nat) (s:AS) (w:World):List TV→List Value→Prop
 | [],[]=>True
 |x::xs,v::vs=>TV.M S g s w x v∧nj S g s w xs vs
 |_,_=>False
def BX (g:Nat→Nat) (b:BL) (q:Nat):Prop:=∃j cs,(sB b).bx j=some cs∧g j=q
structure F9 (S:Nat→Prop) (g:Nat→Nat) (w:World) (b:BL):Prop where
 tab:∀w',cQ (BX g b) w w'→CL w'
 blk:∀q,S q→q<w.heap.size∧ ¬BX g b q∧ ∀off v,w.cell? ⟨q,off,none⟩=some v→iO v=true
 gl:∀k cs,am GT k=some cs→TV.M (Own S g (sB b)) g (sB b) w (.rp cs) (.pointer (some ⟨k,0,none⟩))
 bm:∀j cs,(sB b).bx j=some cs→mQ (Own S g (sB b)) g (sB b) w j cs (g j)
 inj:∀i j ci cj,(sB b).bx i=some ci→(sB b).bx j=some cj→g i=g j→i=j
def uP (S:Nat→Prop) (g:Nat→Nat) (b:BL) (r:RT) (b':BL) (w:World) (e:Ending) (w':World):Prop:=
 ∃v g',e= .returned v∧(∀j cs cs',(sB b).bx j=some cs→(sB b').bx j=some cs'→g' j=g j∧cs.length≤cs'.length) ∧
  (∀j cs',(sB b').bx j=some cs'→(w.heap.size≤g' j∨BX g b (g' j))∧mQ (Own S g' (sB b')) g' (sB b') w' j cs' (g' j)) ∧
  (∀i j ci cj,(sB b').bx i=some ci→(sB b').bx j=some cj→g' i=g' j→i=j)∧TV.M (Own S g' (sB b')) g' (sB b') w' r.tv v∧cQ (BX g b) w w'
structure aw (P:Program) (f:FuncId) (ts:List TV) (b:BL) (r:RT) (b':BL):Prop where
 enter:∀args w,(callFunc f args).run P w= .ok (.enter f args) w
 calls:∀S g w vs,F9 S g w b→nj (Own S g (sB b)) g (sB b) w ts vs→Calls P f vs.toArray w (uP S g b r b' w)
section
variable {n:Nat} {S0:Nat→Prop} {w0:gy} {g:Nat→Nat} {s:AS} {a:Act} {w w':World}
theorem f8:∀(b:BL) (j:Nat),am (aC b) j=none∨ ∃cs,am (aC b) j=some (some cs)
 | [],_=> .inl rfl
 |(i,cs)::r,j=>by
  by_cases e:i=j
  ·subst e;exact .inr ⟨cs,an _ _ _⟩
  ·simp only[aC,aA _ _ e];exact f8 r j
theorem dw {b:BL} {j:Nat} {cs:List AV}:(sB b).bx j=some cs↔am (aC b) j=some (some cs):=by
 unfold sB AS.bx
 constructor
 ·intro h;split at h
  ·rename_i x hx;cases h;exact hx
  ·cases h
 ·intro h;simp only[h]
theorem xd {α:Type} (x y:List (Nat × α)) (j:Nat):am (x++y) j=match am x j with|some v=>some v|none=>am y j:=pF x y j
def EC:Option Nat→TV→List (Nat × TV)→List (Nat × TV)
 |some d,x,t=>(d,x)::t
 |none,_,t=>t
def fk (b':BL):BL→List (Nat × Option (List AV))
 | []=>[]
 |(j,_)::r=>match am (aC b') j with
  |some _=>fk b' r
  |none=>(j,none)::fk b' r
theorem lK {b':BL}:∀{b:BL} {j:Nat} {cs:List AV},am (aC b) j=some (some cs)→am (aC b') j=none→am (fk b' b) j=some none
 | [],_,_,h,_=>by cases h
 |(i,c)::r,j,cs,h,h'=>by
  simp only[fk]
  by_cases e:i=j
  ·subst e
   rw[h'];exact an _ _ _
  ·simp only[aC,aA _ _ e]at h
   split
   ·exact lK h h'
   ·rw[aA _ _ e];exact lK h h'
theorem jn {b':BL}:∀{b:BL} {j:Nat},am (aC b) j=none→am (fk b' b) j=none
 | [],_,_=>rfl
 |(i,c)::r,j,h=>by
  by_cases e:i=j
  ·subst e;simp only[aC,an]at h;cases h
  ·simp only[aC,aA _ _ e]at h
   simp only[fk]
   split
   ·exact jn h
   ·rw[aA _ _ e];exact jn h
theorem TV.M.sub {S:Nat→Prop} {s s':AS} {x:TV} {v:Value} (h:TV.M S g s w x v) (hk:∀j∈fP x,s'.kn j) (hb:∀j cs,s'.bx j=some cs→s.bx j=some cs):TV.M S g s' w x v:=by
 cases x with
 |d x=>exact h
 |tup ts=>exact h
 |box j o=>exact⟨hk j (by simp[fP]),fun cs hc=>h.2 cs (hb j cs hc)⟩
 |rp cs=>exact h
 |own j n k e0=>exact⟨hk j (by simp[fP]),fun cs hc=>h.2 cs (hb j cs hc)⟩
 |clo fn fs cs=>obtain⟨us,vs,e,h1,h2⟩:=h;exact⟨us,vs,e,h1.weak hb (fun j hj=>hk j (by simp[fP,hj])),h2.weak hb (fun j hj=>hk j (by simp[fP,hj]))⟩
 |mp es=>exact h
 |nil=>exact h
 |und=>exact h
 |junk=>trivial
 |dfr=>trivial
theorem MG.callT (h:MG n S0 w0 g s a w) {b b':BL} (hb:rV s (aC b)) (hwfc:uM (aC b) (aC b)=true) (hcl:∀j cs,s.bx j=some cs→j ∉ b.map (·.1)→dl j=false)
 (hnew:∀j cs,(sB b').bx j=some cs→am (aC b) j=none→am s.b j=none∧km j=false):
 ∃S,F9 S g w b∧Own S g (sB b)=Own S0 g s∧ ∀(r:RT) (v:Value) (g':Nat→Nat) (w':World),
  (∀j cs cs',(sB b).bx j=some cs→(sB b').bx j=some cs'→g' j=g j∧cs.length≤cs'.length) →
  (∀j cs',(sB b').bx j=some cs'→(w.heap.size≤g' j∨BX g b (g' j))∧mQ (Own S g' (sB b')) g' (sB b') w' j cs' (g' j)) →
  (∀i j ci cj,(sB b').bx i=some ci→(sB b').bx j=some cj→g' i=g' j→i=j)→TV.M (Own S g' (sB b')) g' (sB b') w' r.tv v→cQ (BX g b) w w' →
  ∀(dst:Option Nat),(∀d,dst=some d→d<n) →
  ∃g2,MG n S0 w0 g2 ⟨EC dst r.tv s.t,aC b'++fk b' b++s.b⟩ (a.put dst v) w':=by
 have inb:∀j cs,(sB b).bx j=some cs→s.bx j=some cs:=fun j cs hj=>hb.at (dw.1 hj)
 have bxown:∀q,BX g b q→Own S0 g s q:=fun q ⟨j,cs,hj,e⟩=> .inr ⟨j,cs,inb j cs hj,e⟩
 have s0no:∀q,S0 q→ ¬BX g b q:=fun q hq ⟨j,cs,hj,e⟩=>by
  have h1:=h.cl q hq;rcases(h.bm j cs (inb j cs hj)).1 with h2|h2
  ·rw[e]at h2;exact absurd h1.1 (Nat.not_lt.2 h2)
  ·rw[e]at h2;exact h1.2.1 h2
 have notin:∀i ci,s.bx i=some ci→am (aC b) i=none→ ¬BX g b (g i):=fun i ci hi hn ⟨j,cs,hj,e⟩=>by
  have:=h.inj j i cs ci (inb j cs hj) hi e;subst this;rw[dw.1 hj]at hn;cases hn
 refine⟨fun q=>Own S0 g s q∧ ¬BX g b q,?_,?_,?_⟩
 ·refine⟨fun w' hw=>h.tg w' (h.grow.go hw (fun q ⟨j,cs,hj,e⟩=>by rw[← e];exact(h.bm j cs (inb j cs hj)).1)),fun q hq=>⟨h.own_lt hq.1,hq.2,?_⟩,fun k cs hk=>?_,fun j cs hj=>?_,fun i j ci cj hi hj e=>h.inj i j ci cj (inb i ci hi) (inb j cj hj) e⟩
  ·intro off v hv
   rcases hq.1 with hs| ⟨j,cs,hj,e⟩
   ·obtain⟨h1,hx,h2⟩:=h.cl q hs
    exact h2 off v (by rw[show w.cell? ⟨q,off,none⟩=w0.w.cell? ⟨q,off,none⟩ from World.cell?_of_block (h.grow.block q h1 hx)]at hv;exact hv)
   ·subst e
    have hjn:j ∉ b.map (·.1):=fun hm=>by
     have:∀(b:BL),j∈b.map (·.1)→ ∃cs,am (aC b) j=some (some cs):=by
      intro b
      induction b with
      |nil=>intro hm;cases hm
      |cons p r ih=>
       obtain⟨i,c⟩:=p;intro hm
       by_cases e:i=j
       ·subst e;exact⟨c,an _ _ _⟩
       ·obtain⟨c',hc'⟩:=ih (by simpa[show ¬j=i from fun e'=>e e'.symm]using hm)
        exact⟨c',by simp only[aC,aA _ _ e];exact hc'⟩
     obtain⟨c,hc⟩:=this b hm;exact hq.2 ⟨j,c,dw.2 hc,rfl⟩
    have hwb:dl j=false:=hcl j cs hj hjn;obtain⟨_,arr,e1,h1,_,h3,_⟩:=h.bm j cs hj
    simp only[World.cell?,h1,Option.isSome_none,Bool.false_eq_true,if_false]at hv
    exact h3 hwb v (Array.mem_toList_iff.2 (Array.mem_of_getElem? hv))
  ·have e:Own (fun q=>Own S0 g s q∧ ¬BX g b q) g (sB b)=Own S0 g s:=by
    funext q
    apply propext
    constructor
    ·rintro(h1|h1)
     ·exact h1.1
     ·exact bxown q h1
    ·intro h1
     by_cases h2:BX g b q
     ·exact .inr h2
     ·exact .inl ⟨h1,h2⟩
   rw[e];exact h.gl k cs hk
  ·have e:Own (fun q=>Own S0 g s q∧ ¬BX g b q) g (sB b)=Own S0 g s:=by
    funext q
    apply propext
    constructor
    ·rintro(h1|h1)
     ·exact h1.1
     ·exact bxown q h1
    ·intro h1
     by_cases h2:BX g b q
     ·exact .inr h2
     ·exact .inl ⟨h1,h2⟩
   rw[e];obtain⟨_,arr,e1,p1,p2,p3,p4,p5⟩:=h.bm j cs (inb j cs hj);exact⟨arr,e1,p1,p2,p3,fun hl i a v ha hv=>(p4 hl i a v ha hv).sub (fun q hq=>uM.at hwfc (dw.1 hj) hl q (mA ha q hq)) inb,p5⟩
 ·funext q
  apply propext
  constructor
  ·rintro(h1|h1)
   ·exact h1.1
   ·exact bxown q h1
  ·intro h1
   by_cases h2:BX g b q
   ·exact .inr h2
   ·exact .inl ⟨h1,h2⟩
 ·intro r v g' w' hkeep hbm hinj hres hbx dst hdst
  generalize hs2:(AS.mk (EC dst r.tv s.t) (aC b'++fk b' b++s.b))=s2;have hb2:s2.b=aC b'++(fk b' b++s.b):=by rw[← hs2,List.append_assoc]
  have lk:∀i,am s2.b i=match am (aC b') i with|some v=>some v|none=>(match am (fk b' b) i with|some v=>some v|none=>am s.b i):=fun i=>by
   rw[hb2,xd,xd];cases am (aC b') i<;>cases am (fk b' b) i<;>rfl
  have al:∀i ci,s2.bx i=some ci→(sB b').bx i=some ci∨((sB b').bx i=none∧am (aC b') i=none∧am (aC b) i=none∧s.bx i=some ci):=by
   intro i ci hi;unfold AS.bx at hi;rw[lk i]at hi;rcases f8 b' i with h1| ⟨cs,h1⟩
   ·right
    simp only[h1]at hi
    rcases f8 b i with h2| ⟨cs,h2⟩
    ·rw[jn h2]at hi
     refine⟨?_,h1,h2,?_⟩
     ·unfold sB AS.bx;simp only[h1]
     ·unfold AS.bx;exact hi
    ·rw[lK h2 h1]at hi
     cases hi
   ·left
    simp only[h1]at hi
    cases hi;exact dw.2 h1
  have la:∀i ci,(sB b').bx i=some ci→s2.bx i=some ci:=by
   intro i ci hi;unfold AS.bx;rw[lk i,dw.1 hi]
  have lo:∀i ci,s.bx i=some ci→am (aC b') i=none→am (aC b) i=none→s2.bx i=some ci:=by
   intro i ci hi h1 h2;unfold AS.bx;rw[lk i,h1,jn h2];exact hi
  generalize hg2:(fun i=>match am (aC b') i with|some _=>g' i|none=>g i)=g2;have g2n:∀i ci,(sB b').bx i=some ci→g2 i=g' i:=fun i ci hi=>by rw[← hg2];simp only[dw.1 hi]
  have g2o:∀i,am (aC b') i=none→g2 i=g i:=fun i hi=>by rw[← hg2];simp only[hi]
  have old:∀i ci,(sB b').bx i=some ci→s.kn i→ ∃cs,(sB b).bx i=some cs:=by
   intro i ci hi hk;rcases f8 b i with h1| ⟨cs,h1⟩
   ·obtain⟨x,hx⟩:=hk
    rw[(hnew i ci hi h1).1]at hx;cases hx
   ·exact⟨cs,dw.2 h1⟩
  have eO:Own S0 g2 s2=Own (fun q=>Own S0 g s q∧ ¬BX g b q) g' (sB b'):=by
   funext q
   apply propext
   constructor
   ·rintro(h1| ⟨i,ci,hi,e⟩)
    ·exact .inl ⟨.inl h1,s0no q h1⟩
    ·rcases al i ci hi with h1| ⟨h1,h2,h3,h4⟩
     ·exact .inr ⟨i,ci,h1,by rw[← g2n i ci h1];exact e⟩
     ·rw[g2o i h2]at e
      subst e;exact .inl ⟨.inr ⟨i,ci,h4,rfl⟩,notin i ci h4 h3⟩
   ·rintro(⟨h1| ⟨i,ci,hi,e⟩,h2⟩| ⟨i,ci,hi,e⟩)
    ·exact .inl h1
    ·have hbn:am (aC b) i=none:=by
      rcases f8 b i with h3| ⟨cs,h3⟩
      ·exact h3
      ·exact absurd ⟨i,cs,dw.2 h3,e⟩ h2
     have hbn':am (aC b') i=none:=by
      rcases f8 b' i with h3| ⟨cs,h3⟩
      ·exact h3
      ·obtain⟨x,hx⟩:=AS.kn_of hi
       rw[(hnew i cs (dw.2 h3) hbn).1]at hx;cases hx
     exact .inr ⟨i,ci,lo i ci hi hbn' hbn,by rw[g2o i hbn'];exact e⟩
    ·exact .inr ⟨i,ci,la i ci hi,by rw[g2n i ci hi];exact e⟩
  have hA:b5 (Own S0 g s) w w':=⟨hbx.size,fun q hq hn=>hbx.block q hq (fun hx=>hn (bxown q hx))⟩
  have hS:∀q,q<w.heap.size→Own S0 g2 s2 q→Own S0 g s q:=by
   intro q hq h1;rw[eO]at h1;rcases h1 with h1| ⟨i,ci,hi,e⟩
   ·exact h1.1
   ·rcases(hbm i ci hi).1 with h2|h2
    ·omega
    ·rw[e]at h2;exact bxown q h2
  have hF:ja s s2 g g2 w w':=by
   refine⟨fun j hj=>?_,fun j cs2 hk hj=>?_⟩
   ·obtain⟨x,hx⟩:=hj
    unfold AS.kn;rw[lk j]
    split
    ·exact⟨_,rfl⟩
    ·split
     ·exact⟨_,rfl⟩
     ·exact⟨x,hx⟩
   ·rcases al j cs2 hj with h1| ⟨h1,h2,h3,h4⟩
    ·obtain⟨cs,hcs⟩:=old j cs2 h1 hk
     obtain⟨h5,h6⟩:=hkeep j cs cs2 hcs h1;refine⟨cs,inb j cs hcs,h6,by rw[g2n j cs2 h1,h5],fun arr e he=>?_⟩;obtain⟨a2,f2,k1,k2⟩:=hbx.shp (g j) (Array.getElem?_eq_some_iff.1 he).1 ⟨j,cs,hcs,rfl⟩ arr e (0,0) he;obtain⟨_,a3,e3,k3,_⟩:=hbm j cs2 h1;rw[h5,k1]at k3;cases k3;exact⟨_,k1,k2⟩
    ·refine⟨cs2,h4,Nat.le_refl _,g2o j h2,fun arr e he=>⟨arr,?_,rfl⟩⟩
     exact(hbx.block (g j) (Array.getElem?_eq_some_iff.1 he).1 (notin j cs2 h4 h3)).trans he
  have hkn:∀j,(sB b').kn j→s2.kn j:=fun j ⟨x,hx⟩=>by
   have hx:am (aC b') j=some x:=hx;unfold AS.kn;rw[lk j,hx];exact⟨x,rfl⟩
  have hback:∀j cs,(sB b').kn j→s2.bx j=some cs→(sB b').bx j=some cs:=fun j cs ⟨x,hx⟩ hj=>by
   rcases al j cs hj with h1| ⟨_,h2,_⟩
   ·exact h1
   ·have hx:am (aC b') j=some x:=hx
    rw[h2]at hx;cases hx
  refine⟨g2,fun k=>?_,fun i ci hi=>?_,fun i j ci cj hi hj e=>?_,h.grow.go hbx (fun q ⟨j,cs,hj,e⟩=>by rw[← e];exact(h.bm j cs (inb j cs hj)).1),by
   rw[uF,show s2.tv DK=s.tv DK by
    rw[← hs2];cases dst with
    |none=>rfl
    |some d=>exact oS (hdst d rfl) h.nk]
   exact h.df.agree hF,by cases dst<;>simpa[Act.put]using h.sz,h.cl,h.tg,fun k cs hk=>(h.gl k cs hk).agree hA hS hF,fun i q ci h1 h2 hi=>?_,h.nk⟩
  ·have hold:∀q,TV.M (Own S0 g2 s2) g2 s2 w' (s.tv q) (a.tmps.getD q Go.undef):=fun q=>(h.tm q).agree hA hS hF
   cases dst with
   |none=>
    have:s2.tv k=s.tv k:=by rw[← hs2];rfl
    rw[this];exact hold k
   |some d=>
    by_cases hk:d=k
    ·subst hk
     have e1:s2.tv d=r.tv:=by rw[← hs2];simp[AS.tv,EC,an]
     rw[e1];have e2:(a.put (some d) v).tmps.getD d Go.undef=v:=by simp[Act.put,h.sz,hdst d rfl]
     rw[e2,eO];generalize r.tv=x at hres;cases x with
     |d x=>exact hres
     |tup ts=>exact hres
     |box j o=>exact⟨hkn j hres.1,fun cs hc=>by have:=hback j cs hres.1 hc;rw[g2n j cs this];exact hres.2 cs this⟩
     |rp cs=>exact hres
     |own j m q e0=>exact⟨hkn j hres.1,fun cs hc=>by have:=hback j cs hres.1 hc;rw[g2n j cs this];exact hres.2 cs this⟩
     |clo fn fs cs=>
      have hc:∀{xs:List CV} {vs:List Value},oJ g' (sB b') xs vs→oJ g2 s2 xs vs:=by
       intro xs
       induction xs with
       |nil=>intro vs h;cases vs with
        |nil=>trivial
        |cons=>exact h.elim
       |cons c xs ih=>intro vs h;cases vs with
        |nil=>exact h.elim
        |cons v vs=>
         refine⟨?_,ih h.2⟩;cases c with
         |val u=>exact h.1
         |box j o=>exact⟨hkn j h.1.1,fun cs hc=>by have:=hback j cs h.1.1 hc;rw[g2n j cs this];exact h.1.2 cs this⟩
      obtain⟨us,vs,e,h1,h2⟩:=hres;exact⟨us,vs,e,hc h1,hc h2⟩
     |mp es=>exact hres
     |nil=>exact hres
     |und=>exact hres
     |junk=>trivial
     |dfr=>trivial
    ·have e1:s2.tv k=s.tv k:=by rw[← hs2];simp[AS.tv,EC,aA _ _ hk]
     rw[e1];have e2:(a.put (some d) v).tmps.getD k Go.undef=a.tmps.getD k Go.undef:=by simp[Act.put,Array.getElem?_setIfInBounds_ne hk]
     rw[e2];exact hold k
  ·rcases al i ci hi with h1| ⟨h1,h2,h3,h4⟩
   ·rw[g2n i ci h1]
    obtain⟨h5,h6⟩:=hbm i ci h1
    refine⟨?_,by
     rw[eO];obtain⟨arr,e1,p1,p2,p3,p4,p5⟩:=h6;refine⟨arr,e1,p1,p2,p3,fun hl q c v hc hv=>?_,p5⟩;have hq:=p4 hl q c v hc hv;cases c with
     |ow j m k e=>exact⟨hkn j hq.1,fun cs hc=>by have:=hback j cs hq.1 hc;rw[g2n j cs this];exact hq.2 cs this⟩
     |bp j o=>exact⟨hkn j hq.1,fun cs hc=>by have:=hback j cs hq.1 hc;rw[g2n j cs this];exact hq.2 cs this⟩
     |val=>trivial
     |sl=>trivial
     |nl=>trivial⟩
    rcases h5 with h5| ⟨j,cs,hj,e⟩
    ·exact .inl (Nat.le_trans h.grow.size h5)
    ·rw[← e];exact(h.bm j cs (inb j cs hj)).1
   ·rw[g2o i h2]
    obtain⟨h5,h6⟩:=h.bm i ci h4;exact⟨h5,h6.agree (hbx.block _ h6.lt (notin i ci h4 h3)) hA hS hF⟩
  ·have cross:∀i j ci cj,(sB b').bx i=some ci→am (aC b) j=none→s.bx j=some cj→am (aC b') j=none→g' i=g j→False:=by
    intro i j ci cj hi hn hj hn' e;rcases(hbm i ci hi).1 with h1|h1
    ·have:=(h.bm j cj hj).2.lt;omega
    ·rw[e]at h1;exact notin j cj hj hn h1
   rcases al i ci hi with h1| ⟨h1,h2,h3,h4⟩<;>rcases al j cj hj with h1'| ⟨h1',h2',h3',h4'⟩
   ·rw[g2n i ci h1,g2n j cj h1']at e;exact hinj i j ci cj h1 h1' e
   ·rw[g2n i ci h1,g2o j h2']at e;exact(cross i j ci cj h1 h3' h4' h2' e).elim
   ·rw[g2o i h2,g2n j cj h1']at e;exact(cross j i cj ci h1' h3 h4 h2 e.symm).elim
   ·rw[g2o i h2,g2o j h2']at e;exact h.inj i j ci cj h4 h4' e
  ·rcases al i ci hi with h3| ⟨h3,h4,h5,h6⟩
   ·rw[g2n i ci h3]
    rcases f8 b i with h4| ⟨cs,h4⟩
    ·rw[(hnew i ci h3 h4).2]at h1;cases h1
    ·rw[(hkeep i cs ci (dw.2 h4) h3).1]
     exact h.gp i q cs h1 h2 (inb i cs (dw.2 h4))
   ·rw[g2o i h4];exact h.gp i q ci h1 h2 h6
end
section
variable {P:Program} {T:TypeId→Option Ty} {n:Nat} {S0:Nat→Prop} {w0:gy}
theorem nj.length {S:Nat→Prop} {g:Nat→Nat} {s:AS} {w:World}:∀{ts:List TV} {vs:List Value},nj S g s w ts vs→ts.length=vs.length
 | [],[],_=>rfl
 |_::ts,_::vs,h=>by simp[nj.length h.2]
 | [],_::_,h=>h.elim
 |_::_,[],h=>h.elim
theorem nj.at {S:Nat→Prop} {g:Nat→Nat} {s:AS} {w:World}:∀{ts:List TV} {vs:List Value},nj S g s w ts vs→ ∀(k i:Nat),TV.M S g s w (match am (q9 k ts) i with|some v=>v|none=> .junk) (if i<k then undef else vs.getD (i-k) undef)
 | [],[],_,k,i=>trivial
 |d::ds,v::vs,h,k,i=>by
  simp only[q9]
  by_cases e:k=i
  ·subst e
   rw[an]
   simp only[Nat.lt_irrefl,if_false,Nat.sub_self]
   exact h.1
  ·rw[aA _ _ e]
   have:=nj.at h.2 (k+1) i
   by_cases h1:i<k
   ·rw[if_pos (by omega)]at this;rw[if_pos h1];exact this
   ·rw[if_neg (by omega)]at this
    rw[if_neg h1];have e2:i-k=(i-(k+1))+1:=by omega
    rw[e2]
    simpa using this
 | [],_::_,h,_,_=>h.elim
 |_::_,[],h,_,_=>h.elim
def Ew (T:TypeId→Option Ty) (s:AS) (rs:List ResultVar) (r:RT) (b':BL):Prop:=
 (match r with
  | .v r=>∃l,jS T s rs=some l∧xU l=r
  | .own j n k e=>∃t,rs=[.tmp t]∧s.tv t= .own j n k e∧vo (s.tv DK)=true)∧rV s (aC b')
def fi (b b':BL):Prop:=∀j cs cs',(sB b).bx j=some cs→(sB b').bx j=some cs'→cs.length≤cs'.length
theorem fi.refl (b:BL):fi b b:=fun j cs cs' h h'=>by rw[h]at h';cases h';exact Nat.le_refl _
theorem fi.nil (b:BL):fi [] b:=fun j cs cs' h=>by cases h
theorem fi.one {j:Nat} {cs cs':List AV} (h:cs.length≤cs'.length):fi [(j,cs)] [(j,cs')]:=fun i c c' h1 h2=>by
 have h1:=dw.1 h1;have h2:=dw.1 h2
 simp only[aC]at h1 h2
 by_cases e:j=i
 ·subst e;rw[an]at h1 h2;cases h1;cases h2;exact h
 ·rw[aA _ _ e]at h1;cases h1
def qA (b':BL):BL→Bool
 | []=>true
 |(j,_)::r=>(km j || !(am (aC b') j).isSome) && qA b' r
theorem vt {b':BL}:∀{b:BL} {j:Nat} {cs cs':List AV},qA b' b=true→am (aC b) j=some (some cs)→am (aC b') j=some (some cs')→km j=true
 | [],_,_,_,_,h,_=>by cases h
 |(i,c)::r,j,cs,cs',hr,h,h'=>by
  simp only[qA,Bool.and_eq_true]at hr
  by_cases e:i=j
  ·subst e
   have:=hr.1;rw[h']at this
   simpa using this
  ·simp only[aC,aA _ _ e]at h;exact vt hr.2 h h'
def vO (r:RT) (b':BL):Bool:=uM (aC b') (aC b') && match r with
 | .own j _ _ _=>match am (aC b') j with
  |some _=>true
  |none=>false
 | .v _=>true
theorem AN {ts:List TV}:∀{k i:Nat},k+ts.length≤i→am (q9 k ts) i=none:=by
 induction ts with
 |nil=>intro k i _;rfl
 |cons d ds ih=>
  intro k i h
  simp only[List.length_cons]at h
  rw[q9,aA _ _ (by omega)];exact ih (by omega)
def oE (g:Nat→Nat) (w:World) (b:BL):gy:=⟨w,BX g b,[],fun j=>if km j then some (g j)else none⟩
theorem xL {S:Nat→Prop} {g g1:Nat→Nat} {w w1:World} {b b':BL} {s:AS} {a:Act} {r:RT} {v:Value} (hrv:qA b' b=true) (hwfc:uM (aC b') (aC b')=true) (hlen:fi b b') (hwk:rV s (aC b')) (hm:MG n S (oE g w b) g1 s a w1)
 (hv:TV.M (Own S g1 (sB b')) g1 (sB b') w1 r.tv v):uP S g b r b' w (.returned v) w1:=by
 have hbx:∀j cs,(sB b').bx j=some cs→s.bx j=some cs:=fun j cs hj=>hwk.at (dw.1 hj)
 have hOs:∀q,q<w1.heap.size→Own S g1 (sB b') q→Own S g1 s q:=by
  rintro q _ (h0| ⟨j,cs,hj,e⟩)
  ·exact .inl h0
  ·exact .inr ⟨j,cs,hbx j cs hj,e⟩
 refine⟨v,g1,rfl,fun j cs cs' hj hj'=>⟨?_,hlen j cs cs' hj hj'⟩,fun j cs' hj=>?_,fun i j ci cj hi hj e=>hm.inj i j ci cj (hbx i ci hi) (hbx j cj hj) e,hv,hm.grow⟩
 ·have hr:=vt hrv (dw.1 hj) (dw.1 hj')
  exact hm.gp j (g j) cs' hr (by simp only[oE,hr,if_true]) (hbx j cs' hj')
 ·obtain⟨h1,arr,e1,p1,p2,p3,p4,p5⟩:=hm.bm j cs' (hbx j cs' hj)
  exact⟨h1,arr,e1,p1,p2.agree (b5.refl _ _) hOs,p3,fun hl i c v hc hv=>(p4 hl i c v hc hv).sub (fun q hq=>uM.at hwfc (dw.1 hj) hl q (mA hc q hq)) hbx,p5⟩
theorem vh {S:Nat→Prop} {g:Nat→Nat} {w:World} {vs:List Value} {ts:List TV} {b:BL} {N:Nat} (hS:F9 S g w b) (hv:nj (Own S g (sB b)) g (sB b) w ts vs) (hsz:ts.length≤N) (hnk:N≤DK):
 M N S (oE g w b) ⟨q9 0 ts,aC b⟩ ⟨vs.toArray++Array.replicate (N-vs.toArray.size) undef,[]⟩ w:=by
 have hl:=nj.length hv;refine⟨g,fun k=>?_,fun j cs hj=>⟨.inr ⟨j,cs,hj,rfl⟩,(hS.bm j cs hj).sameB rfl⟩,hS.inj,cQ.refl _ _,?_,by simp;omega,fun q hq=>?_,fun w' hw'=>hS.tab w' hw',hS.gl,fun j q cs h1 h2 _=>?_,hnk⟩
 ·have:=nj.at hv 0 k
  simp only[Nat.not_lt_zero,if_false,Nat.sub_zero]at this
  have e2:(vs.toArray++Array.replicate (N-vs.toArray.size) undef).getD k undef=vs.getD k undef:=by
   simp only[Array.getD_eq_getD_getElem?,Array.getElem?_append,List.getD_eq_getElem?_getD]
   by_cases h1:k<vs.length
   ·simp[h1]
   ·simp[h1]
    cases h2:(Array.replicate (N-vs.length) undef)[k-vs.length]? with
    |none=>rfl
    |some v=>rw[Array.getElem?_replicate]at h2;split at h2<;>simp_all
  dsimp only;rw[e2];exact this.sameB rfl
 ·have e0:(AS.mk (q9 0 ts) (aC b)).tv DK= .junk:=by simp only[AS.tv,AN (k:=0) (ts:=ts) (i:=DK) (by omega)]
  rw[e0];rfl
 ·obtain⟨h1,h2,h3⟩:=hS.blk q hq
  exact⟨h1,h2,h3⟩
 ·simp only[oE,h1,if_true,Option.some.injEq]at h2
  exact h2
structure ir (P:Program) (f:FuncId) (ts:List TV) (b:BL) (r:RT) (b':BL):Prop where
 enter:∀args w,(callFunc f args).run P w= .ok (.enter f args) w
 body:∃fn c,P.funcs[f]? =some fn∧fn.body=some c∧ ∀(S:Nat→Prop) (g:Nat→Nat) (w:World) (vs:List Value),F9 S g w b→nj (Own S g (sB b)) g (sB b) w ts vs→c.wp P (bodyPost P fn (uP S g b r b' w)) { tmps:=vs.toArray++Array.replicate (fn.ntmps-vs.toArray.size) undef,defers:=[] } w
theorem ir.toT {f:FuncId} {ts:List TV} {b:BL} {r:RT} {b':BL} (h:ir P f ts b r b'):aw P f ts b r b':=by
 obtain⟨fn,c,hf,hb,hw⟩:=h.body;exact⟨h.enter,fun S g w vs hS hv=>calls_of_wp hf hb (hw S g w vs hS hv)⟩
theorem qI (hT:∀t d,T t=some d→b7 P t d) (hmix:P.follows .mixedOrders=true) {f:FuncId} {fn:Func} {c:Code} {ts:List TV} {b:BL} {r:RT} {b':BL} (hf:P.funcs[f]? =some fn) (hb:fn.body=some c) (hn:(fn.name == "runtime.NumGoroutine")=false) (hsz:(Nat.ble ts.length fn.ntmps && Nat.ble fn.ntmps DK)=true)
 (hrv:qA b' b=true) (hkn:vO r b'=true) (hlen:fi b b')
 (h:gm P T fn.ntmps c (fun e s=>match e with| .exit _=>False|_=>Ew T s fn.results.toList r b') ⟨q9 0 ts,aC b⟩):ir P f ts b r b':=by
 unfold vO at hkn;rw[Bool.and_eq_true]at hkn hsz;obtain⟨hwfc,hkn⟩:=hkn;obtain⟨hsz,hnk⟩:=hsz;have hsz:=Nat.le_of_ble_eq_true hsz;have hnk:=Nat.le_of_ble_eq_true hnk;refine⟨fun args w=>?_,fn,c,hf,hb,fun S g w vs hS hv=>?_⟩
 ·have hn':¬fn.name= "runtime.NumGoroutine" :=by simpa using hn
  simp[callFunc,Sem.run_bind,hf,hn',hb]
 ·refine wp_mono (nw (S0:=S) (w0:=oE g w b) hT hmix c _ _ _ w h (vh hS hv hsz hnk)) fun e a w1 hq=>?_
  have fin:∀s,Ew T s fn.results.toList r b'→M fn.ntmps S (oE g w b) s a w1→a.defers=[]∧ ∃v,(results fn a.tmps).run P w1= .ok v w1∧uP S g b r b' w (.returned v) w1:=by
   rintro s ⟨hres,hwk⟩ ⟨g1,hm⟩;have hbx:∀j cs,(sB b').bx j=some cs→s.bx j=some cs:=fun j cs hj=>hwk.at (dw.1 hj)
   have hOs:∀q,q<w1.heap.size→Own S g1 (sB b') q→Own S g1 s q:=by
    rintro q _ (h0| ⟨j,cs,hj,e⟩)
    ·exact .inl h0
    ·exact .inr ⟨j,cs,hbx j cs hj,e⟩
   have rest:∀v,TV.M (Own S g1 (sB b')) g1 (sB b') w1 r.tv v→uP S g b r b' w (.returned v) w1:=fun v hv=>xL hrv hwfc hlen hwk hm hv
   cases r with
   |v r=>
    obtain⟨l,h1,rfl⟩:=hres;refine⟨(xl.no (iW h1)).1 hm.df,?_⟩;obtain⟨vs',hr,hl',hv'⟩:=iB hT hm fn.results.toList l h1;refine⟨if h:vs'.toArray.size=1 then vs'.toArray[0]else .tuple vs'.toArray,?_,rest _ ?_⟩
    ·unfold results
     rw[Sem.run_bind,Array.mapM_eq_mapM_toList,Sem.run_map]
     erw[hr]
     simp only[Result.andThen_ok]
     rfl
    ·have hv2:∀(i:Nat) (x:DV) (u:Value),l[i]? =some x→vs'[i]? =some u→DV.M (Own S g1 (sB b')) w1 x u:=fun i x u h1 h2=>(hv' i x u h1 h2).agree (b5.refl _ _) hOs
     cases l with
     |nil=>
      rw[dif_neg (by simp at hl' ⊢;omega)];exact⟨vs',rfl,hl',hv2⟩
     |cons d l=>
      cases l with
      |nil=>
       have:vs'.toArray.size=1:=by simpa using hl'.symm
       rw[dif_pos this];exact hv2 0 d _ rfl (by simp)
      |cons d' l=>
       rw[dif_neg (by simp at hl' ⊢;omega)];exact⟨vs',rfl,hl',hv2⟩
   |own j m k e=>
    obtain⟨t,h1,h2,h3⟩:=hres;refine⟨(xl.no h3).1 hm.df,a.tmps.getD t undef,?_,rest _ ?_⟩
    ·unfold results
     rw[Sem.run_bind,Array.mapM_eq_mapM_toList,Sem.run_map,h1];rfl
    ·have hm2:=hm.tm t
     rw[h2]at hm2;refine⟨?_,fun cs hc=>hm2.2 cs (hbx j cs hc)⟩;dsimp only at hkn
     split at hkn
     ·rename_i x hx;exact⟨x,hx⟩
     ·cases hkn
  cases e with
  |normal=>obtain⟨s,h1,h2⟩:=hq;exact fin s h1 h2
  |ret=>obtain⟨s,h1,h2⟩:=hq;exact fin s h1 h2
  |exit i=>obtain⟨s,h1,h2⟩:=hq;exact h1.elim
  |goto l=>exact hq.elim
  |panic c=>exact hq.elim
  |outgrown=>exact hq.elim
theorem ai (hT:∀t d,T t=some d→b7 P t d) (hmix:P.follows .mixedOrders=true) {f:FuncId} {fn:Func} {c:Code} {ts:List TV} {b:BL} {r:RT} {b':BL} (hf:P.funcs[f]? =some fn) (hb:fn.body=some c) (hn:(fn.name == "runtime.NumGoroutine")=false) (hsz:(Nat.ble ts.length fn.ntmps && Nat.ble fn.ntmps DK)=true)
 (hrv:qA b' b=true) (hkn:vO r b'=true) (hlen:fi b b')
 (h:gm P T fn.ntmps c (fun e s=>match e with| .exit _=>False|_=>Ew T s fn.results.toList r b') ⟨q9 0 ts,aC b⟩):aw P f ts b r b':=(qI hT hmix hf hb hn hsz hrv hkn hlen h).toT
def Ie:CV→TV
 | .val v=> .d (.leaf (.val v))
 | .box j o=> .box j o
def Hf:TV→TV
 | .nil=> .d (.leaf (.sl 0 []))
 |x=>x
def vC (s:AS) (f:Operand) (args:List Operand):Option (FuncId × List TV):=
 match s.ev f with
 | .d (.leaf (.val (.func (.func fid) ⟨[]⟩ ⟨[]⟩)))=>some (fid,args.map fun x=>Hf (s.ev x))
 | .clo (.func fid) fs cs=>some (fid,fs.map Ie++(args.map fun x=>Hf (s.ev x))++cs.map Ie)
 |_=>none
def ph:List CV→Bool
 | []=>true
 | .val v::r=>v.oneCell' && ph r
 | .box _ _::r=>ph r
def tT (s:AS) (f:Operand):Bool:=match s.ev f with
 | .clo _ fs cs=>ph fs && ph cs
 |_=>true
theorem Iv {S:Nat→Prop} {g:Nat→Nat} {s:AS} {w:World} {x:TV} {v:Value} (h:TV.M S g s w x v):TV.M S g s w (Hf x) v:=by
 cases x<;>first|exact h|skip
 have:v= .slice none 0 0:=h;rw[this];exact AV.M.emp (Nat.le_refl _) (by omega) (fun _=>rfl)
theorem lS {S:Nat→Prop} {g:Nat→Nat} {s:AS} {w:World}:∀{xs ys:List TV} {us vs:List Value},nj S g s w xs us→nj S g s w ys vs→nj S g s w (xs++ys) (us++vs)
 | [],_,[],_,_,k=>k
 |_::_,_,_::_,_,h,k=>⟨h.1,lS h.2 k⟩
 | [],_,_::_,_,h,_=>h.elim
 |_::_,_,[],_,h,_=>h.elim
theorem yS {g:Nat→Nat} {s:AS} {a:Act} {w:World} (hM:MG n S0 w0 g s a w):∀(l:List Operand),nj (Own S0 g s) g s w (l.map fun x=>Hf (s.ev x)) (l.map a.eval)
 | []=>trivial
 |x::l=>⟨Iv (hM.ev x),yS hM l⟩
theorem pO {S:Nat→Prop} {g:Nat→Nat} {s:AS} {w:World}:∀{xs:List CV} {vs:List Value},ph xs=true→oJ g s xs vs→nj S g s w (xs.map Ie) vs
 | [],[],_,_=>trivial
 | .val u::xs,v::vs,h1,h=>by
  simp only[ph,Bool.and_eq_true]at h1
  have e:v=u:=h.1;subst e;exact⟨AV.M.val h1.1,pO h1.2 h.2⟩
 | .box j o::xs,v::vs,h1,h=>⟨h.1,pO h1 h.2⟩
 | [],_::_,_,h=>h.elim
 |_::_,[],_,h=>h.elim
theorem ug {S:Nat→Prop} {g:Nat→Nat} {s s':AS} {w:World} (hb:∀j cs,s'.bx j=some cs→s.bx j=some cs):∀{xs:List TV} {vs:List Value},(∀j∈xs.flatMap fP,s'.kn j)→nj S g s w xs vs→nj S g s' w xs vs
 | [],[],_,_=>trivial
 |x::xs,v::vs,hk,h=>⟨h.1.sub (fun j hj=>hk j (List.mem_flatMap.2 ⟨x,by simp,hj⟩)) hb,ug hb (fun j hj=>hk j (by rw[List.flatMap_cons];exact List.mem_append_right _ hj)) h.2⟩
 | [],_::_,_,h=>h.elim
 |_::_,[],_,h=>h.elim
def oI (s:AS) (b:BL):BL→Bool
 | []=>true
 |(j,_)::r=>(match am (aC b) j with|some _=>true|none=>lq s j) && oI s b r
theorem sV {s:AS} {b:BL}:∀{b':BL} {j:Nat} {cs:List AV},oI s b b'=true→am (aC b') j=some (some cs)→am (aC b) j=none→am s.b j=none∧km j=false
 | [],_,_,_,h,_=>by cases h
 |(i,c)::r,j,cs,hr,h,hn=>by
  simp only[oI,Bool.and_eq_true]at hr
  by_cases e:i=j
  ·subst e
   have:=hr.1;rw[hn]at this;exact fB this
  ·simp only[aC,aA _ _ e]at h;exact sV hr.2 h hn
theorem C3 {b:BL} {l:List Nat} (h:Eb (aC b) l=true):∀j∈l,(sB b).kn j:=fun j hj=>uj h j hj
theorem xB {s:AS} {l:List Nat} (h:eQ l s.b=true):∀j cs,s.bx j=some cs→j ∉ l→dl j=false:=fun j cs hj hjn=>by
 unfold AS.bx at hj
 split at hj
 ·rename_i x hx;cases hj;exact ks h j _ hjn hx
 ·cases hj
theorem ou {o:Oper} {f:Operand} {fid:FuncId} {args:Array Operand} {tys:Array TypeId} {ts:List TV} {b:BL} {r:RT} {b':BL} {s:AS} (hc:aw P fid ts b r b') (ho:o.op= .call ⟨.value f,args,tys⟩) (hcl:vC s f args.toList=some (fid,ts)) (h1:tT s f=true)
 (hk:(Eb (aC b) (ts.flatMap fP) && uM (aC b) (aC b))=true) (hb:rV s (aC b)) (hcn:∀j cs,s.bx j=some cs→j ∉ b.map (·.1)→dl j=false) (hnew:oI s b b'=true):
 cI P o s ⟨r.tv,some (aC b'++fk b' b)⟩:=by
 intro n S0 w0 g a w K Q hM hdn hK;rw[Bool.and_eq_true]at hk;obtain⟨hk,hwfc⟩:=hk;obtain⟨S,hpre,hO,hpost⟩:=hM.callT (b:=b) (b':=b') hb hwfc hcn (fun j cs hj hn=>sV hnew (dw.1 hj) hn);have inb:∀j cs,(sB b).bx j=some cs→s.bx j=some cs:=fun j cs hj=>hb.at (dw.1 hj)
 obtain⟨vs,hvs,hrun⟩:∃vs,nj (Own S0 g s) g s w ts vs∧(execOp a.eval o).run P w= .ok (.enter fid vs.toArray) w:=by
  have hargs:=yS hM args.toList;have hf:=hM.ev f;unfold vC at hcl
  split at hcl
  ·rename_i fid' hfe
   simp only[Option.some.injEq,Prod.mk.injEq]at hcl
   obtain⟨rfl,rfl⟩:=hcl;refine⟨_,hargs,?_⟩;unfold execOp;rw[ho];rw[hfe]at hf
   simp only[resolve,bM (show AV.M _ _ _ _ from hf),Deferred.ofValue,Sem.run_bind,Sem.run_pure,Result.andThen_ok,invoke]
   have:=hc.enter (args.map a.eval) w;have e:(List.map a.eval args.toList).toArray=args.map a.eval:=Array.ext' (by simp);rw[e]
   simpa using this
  ·rename_i fid' fs cs hfe
   simp only[Option.some.injEq,Prod.mk.injEq]at hcl
   obtain⟨rfl,rfl⟩:=hcl;rw[hfe]at hf;obtain⟨us,vs,e,h2,h3⟩:=hf;unfold tT at h1;rw[hfe]at h1
   simp only[Bool.and_eq_true]at h1
   refine⟨us++List.map a.eval args.toList++vs,lS (lS (pO h1.1 h2) hargs) (pO h1.2 h3),?_⟩;unfold execOp;rw[ho]
   simp only[resolve,e,Deferred.ofValue,Sem.run_bind,Sem.run_pure,Result.andThen_ok,invoke]
   have e2:(us++List.map a.eval args.toList++vs).toArray=us.toArray++args.map a.eval++vs.toArray:=Array.ext' (by simp);have:=hc.enter (us.toArray++args.map a.eval++vs.toArray) w;rw[e2]
   simpa using this
  ·cases hcl
 have hcall:=hc.calls S g w vs hpre (by rw[hO];exact ug inb (C3 hk) hvs);unfold Oper.wp;rw[hrun];show Calls P fid _ w _;refine hcall.mono ?_;rintro en w1 ⟨v,g',rfl,h2,h3,h4,h5,h6⟩;show K (a.put o.dst v) w1;obtain⟨g2,hm⟩:=hpost r v g' w1 h2 h3 h4 h5 h6 o.dst hdn;refine hK g2 _ _ ?_;cases ho2:o.dst<;>(rw[ho2]at hm;exact hm)
variable {ops:Array Oper} {id:Nat} {draw:Bool} {K:AS→Prop} {s:AS} {k:Nat} {o:Oper} {os:List Oper} {fps:List FP}
theorem Gx {α:Type} {x y:Code} {Q:AX→AS→Prop} (σ:α→AS) (φ:α→Prop) (hy:∀a,φ a→ ∀s',bt s' (σ a)→gm P T n y Q s') (hx:∀R:AX→AS→Prop,(∀a,φ a→ ∀s',bt s' (σ a)→R .normal s')→R .ret=Q .ret→gm P T n x R s):gm P T n (.seq x y) Q s:=aJ (hx _ hy rfl)
theorem pl {s s':AS} {f:Operand} {args:List Operand} (hf:s'.ev f=s.ev f) (ha:∀x∈args,s'.ev x=s.ev x):vC s' f args=vC s f args:=by
 have e:(args.map fun x=>Hf (s'.ev x))=args.map fun x=>Hf (s.ev x):=List.map_congr_left fun x hx=>by rw[ha x hx]
 unfold vC;rw[hf,e]
theorem nS {s s':AS}:∀{b:BL},(∀j∈b.map (·.1),am s'.b j=am s.b j)→rV s (aC b)→rV s' (aC b)
 | [],_,_=>trivial
 |(j,cs)::r,hl,h=>⟨by rw[gr (hl j (by simp))];exact h.1,nS (b:=r) (fun i hi=>hl i (by simp at hi ⊢;exact .inr hi)) h.2⟩
theorem lM {s s':AS} {b:BL}:∀{b':BL},(∀j∈b'.map (·.1),am s'.b j=am s.b j)→oI s' b b'=oI s b b'
 | [],_=>rfl
 |(j,cs)::r,hl=>by
  rw[oI,oI,lM (b':=r) (fun i hi=>hl i (by simp at hi ⊢;exact .inr hi)),lX (hl j (by simp))]
theorem DY {f:Operand} {fid:FuncId} {args:Array Operand} {tys:Array TypeId} {ts:List TV} {b:BL} {r:RT} {b':BL} (hc:aw P fid ts b r b') (h1:gd ops s o=some true) (ho:o.op= .call ⟨.value f,args,tys⟩) (hcl:vC s f args.toList=some (fid,ts)) (hone:tT s f=true)
 (hk:(Eb (aC b) (ts.flatMap fP) && uM (aC b) (aC b))=true) (hb:rV s (aC b)) (hcn:eQ [] s.b=true) (hnew:oI s b b'=true) (h3:bn n o.dst=true) (h4:jr draw ops (a6 ops o ⟨r.tv,some (aC b'++fk b' b)⟩ (b.map (·.1)++b'.map (·.1))) k fps=true)
 (h:aH P T n ops id draw K (k+1) os (s.eff o.dst ⟨r.tv,some (aC b'++fk b' b)⟩) (a6 ops o ⟨r.tv,some (aC b'++fk b' b)⟩ (b.map (·.1)++b'.map (·.1))::fps)):aH P T n ops id draw K k (o::os) s fps:=by
 refine .run h1 (.genC (kV hcn) fun s2 hc2 ht hrb=>?_) h3 h4 h;have hf:s2.ev f=s.ev f:=bd ht (by rw[ho];simp[Op.operands,Call.operands]);have hcl2:=pl (s':=s2) (s:=s) (f:=f) (args:=args.toList) hf (fun x hx=>bd ht (by rw[ho];simp[Op.operands,Call.operands];exact .inr (by simpa using hx)));have hone2:tT s2 f=true:=by unfold tT at hone ⊢;rw[hf];exact hone
 exact ou hc ho (hcl2.trans hcl) hone2 hk (nS (fun j hj=>hrb j (List.mem_append_left _ hj)) hb) (fun j cs hj _=>hc2 j cs hj) ((lM fun j hj=>hrb j (List.mem_append_right _ hj)).trans hnew)
theorem ab.toT {f:FuncId} {ds:List DV} {r:RV} (h:ab P f ds r):aw P f (ds.map .d) [] (.v r) []:=by
 refine⟨h.enter,fun S g w vs hS hv=>?_⟩
 have hO:Own S g (sB [])=S:=by
  funext q
  simp[Own,sB,aC,AS.bx,am]
 have hX:BX g []=fun _=>False:=by
  funext q
  simp[BX,sB,aC,AS.bx,am]
 have hS':dt S w:=by
  refine⟨fun w' hw=>hS.tab w' (by rw[hX];exact .of_below hw),fun q hq=>⟨(hS.blk q hq).1,(hS.blk q hq).2.2⟩,fun k cs hk=>?_⟩;have:=hS.gl k cs hk;rw[hO]at this;exact this
 have hv':VM S w ds vs:=by
  rw[hO]at hv
  have:∀(ds:List DV) (vs:List Value),nj S g (sB []) w (ds.map .d) vs→VM S w ds vs:=by
   intro ds
   induction ds with
   |nil=>intro vs h;cases vs with
    |nil=>trivial
    |cons=>exact h.elim
   |cons d ds ih=>intro vs h;cases vs with
    |nil=>exact h.elim
    |cons v vs=>exact⟨h.1,ih vs h.2⟩
  exact this ds vs hv
 refine(h.calls S w vs hS' hv').mono fun e w' ⟨v,he,hm,hb⟩=>⟨v,g,he,fun j cs cs' h=>(by cases h),fun j cs' h=>(by cases h),fun i j ci cj h=>(by cases h),?_,by rw[hX];exact .of_below hb⟩
 rw[hO];cases r with
 |one d=>exact hm
 |tup l=>exact hm
end
section
variable {P:Program} {T:TypeId→Option Ty} {n:Nat} {ops:Array Oper} {id:Nat} {draw:Bool} {K:AS→Prop} {s:AS} {k:Nat} {o:Oper} {os:List Oper} {fps:List FP}
theorem kD {f:Operand} {fid:FuncId} {args:Array Operand} {tys:Array TypeId} {ts:List TV} {b:BL} {r:RT} {b':BL} (hc:aw P fid ts b r b') (h:aH P T n ops id draw K (k+1) os (s.eff o.dst ⟨r.tv,some (aC b'++fk b' b)⟩) (a6 ops o ⟨r.tv,some (aC b'++fk b' b)⟩ (b.map (·.1)++b'.map (·.1))::fps)) (h1:gd ops s o=some true:=by rfl) (ho:o.op= .call ⟨.value f,args,tys⟩:=by rfl) (hcl:vC s f args.toList=some (fid,ts):=by rfl) (hone:tT s f=true:=by rfl)
    (hk:(Eb (aC b) (ts.flatMap fP) && uM (aC b) (aC b))=true:=by rfl) (hb:rV s (aC b):=by first|exact⟨rfl,trivial⟩|exact⟨rfl,rfl,trivial⟩|exact trivial) (hcn:eQ [] s.b=true:=by rfl) (hnew:oI s b b'=true:=by rfl) (h3:bn n o.dst=true:=by rfl) (h4:jr draw ops (a6 ops o ⟨r.tv,some (aC b'++fk b' b)⟩ (b.map (·.1)++b'.map (·.1))) k fps=true:=by rfl):aH P T n ops id draw K k (o::os) s fps:=DY hc h1 ho hcl hone hk hb hcn hnew h3 h4 h
end
end Go.Proofs.YtikbnnljjeefgaaGreatDoor
namespace Go.Proofs.YtikbnnljjeefgaaGreatDoor
open Go.RowKit
section
variable {P:Program} {T:TypeId→Option Ty} {n:Nat}
theorem aH.mono {ops:Array Oper} {id:Nat} {draw:Bool} {K K':AS→Prop} (hK:∀s,K s→K' s) {k:Nat} {os:List Oper} {s:AS} {fps:List FP} (h:aH P T n ops id draw K k os s fps):aH P T n ops id draw K' k os s fps:=by
 induction h with
 |done h=>exact .done (hK _ h)
 |run h1 h2 h3 h4 _ ih=>exact .run h1 h2 h3 h4 ih
 |skip h1 h2 h3 _ ih=>exact .skip h1 h2 h3 ih
 |app h0 h1 h2 h3 h4 h5 h6 h7 h8 h9 h10 h11 h12 h13 h14 h15 _ ih=>exact .app h0 h1 h2 h3 h4 h5 h6 h7 h8 h9 h10 h11 h12 h13 h14 h15 ih
 |snd h0 h1 h2 _ ih=>exact .snd h0 h1 h2 ih
 |snd3 h0 h1 h2 _ ih=>exact .snd3 h0 h1 h2 ih
variable {ops:Array Oper} {id:Nat} {draw:Bool} {K:AS→Prop} {s:AS} {k:Nat} {o:Oper} {os:List Oper} {fps:List FP}
theorem cW (j':Nat) {d:Nat} {x y:Operand} {t et q m1 m2:Nat} {ty te:Ty} {dead:Option Nat} {cs xs:List AV} (hT:∀t d,T t=some d→b7 P t d) (hm:0<m2) (hb:(m1+m2)*te.bytes≤140737488355328) (hxs:xs.length=m2*q) (h0:draw=false) (h1:gd ops s o=some true) (ho:o.op= .call ⟨.builtin .append,#[x,y],#[t,t]⟩) (hd:o.dst=some d) (h3:bn n o.dst=true) (ht:T t=some ty) (hel:ty.elem=some (et,q)) (hte:T et=some te) (hq:te.size=q) (hq0:(Nat.ble 1 q && Nat.ble 1 te.bytes)=true)
 (hbase:jC s x m1 q et dead cs) (hy:s.ev y= .d (.leaf (.sl m2 xs))) (hnew:lq s j'=true) (hcl:(lx te.zero && lx xs && qk dead)=true)
 (h:aH P T n ops id draw K (k+1) os ⟨(d, .own j' (m1+m2) q et)::s.t,(j',some (cs.take (m1*q)++xs))::ml dead s.b⟩ (a6 ops o ⟨.junk,none⟩ []::fps)):aH P T n ops id draw K k (o::os) s fps:=by
 refine .snd h0 h1 (fun S0 w0 g a w K' Q hM hK=>?_) h;rw[Bool.and_eq_true]at hq0
 have h63:m1+m2≤9223372036854775807:=by
  have:=Nat.le_mul_of_pos_right (m1+m2) (Nat.le_of_ble_eq_true hq0.2);omega
 exact mq (hT _ _ ht) (hT _ _ hte) ho hd hel hq (Nat.le_of_ble_eq_true hq0.1) hbase hy hxs hm hb h63 (fB hnew) (oW hnew) (.inr hcl) hM (fh h3 d hd) hK
end
end Go.Proofs.YtikbnnljjeefgaaGreatDoor
namespace Go.Proofs.YtikbnnljjeefgaaGreatDoor
open Go.RowKit
section
variable {P:Program} {T:TypeId→Option Ty} {n:Nat} {ops:Array Oper} {id:Nat} {draw:Bool} {K:AS→Prop} {s:AS} {k:Nat} {o:Oper} {os:List Oper} {fps:List FP}
theorem iJ (hT:∀t d,T t=some d→b7 P t d) {t:TypeId} {ty:Ty} {x y z:Operand} {l:List UInt8} {i j:Nat} {ik ik':IntKind} (hi:i≤j) (hj:j≤l.length) (h1:gd ops s o=some true) (h2:o.op= .slice t x (some y) (some z) none) (h5:T t=some ty) (h6:ty.isStr=true) (h7:s.ev x= .d (.leaf (.val (vL l)))) (h8:s.ev y= .d (.leaf (.val (.int ik (i:Nat))))) (h9:s.ev z= .d (.leaf (.val (.int ik' (j:Nat)))))
 (h3:bn n o.dst=true) (h4:jr draw ops (a6 ops o ⟨.d (dL ((l.take j).drop i)),none⟩ []) k fps=true) (h:aH P T n ops id draw K (k+1) os (s.eff o.dst ⟨.d (dL ((l.take j).drop i)),none⟩) (a6 ops o ⟨.d (dL ((l.take j).drop i)),none⟩ []::fps)):aH P T n ops id draw K k (o::os) s fps:=by
 refine .run h1 (.gen fun s2 ht _=>?_) h3 h4 h;have hx:=(bd ht (x:=x) (by simp[h2,Op.operands])).trans h7;have hy:=(bd ht (x:=y) (by simp[h2,Op.operands])).trans h8;have hz:=(bd ht (x:=z) (by simp[h2,Op.operands])).trans h9;have hu:=kd (hT _ _ h5) h6;refine av fun n S0 w0 g a w hM=>⟨vL ((l.take j).drop i),w,?_,Below.refl _ _,AV.M.val rfl⟩
 unfold execOp;rw[h2]
 have e1:(Instr.sliceAt t (.string (Bs l)) (some (.int ik i)) (some (.int ik' j)) none).run P w= .ok (vL ((l.take j).drop i)) w:=by
  unfold Instr.sliceAt
  simp only[Sem.run_bind,run_underlying hu w,Result.andThen_ok]
  rw[run_slice_string w t (Bs l) ik ik' i j hu (by omega) (by omega) (by rw[au];omega)]
  simp only[Int.toNat_natCast]
  rw[jA];rfl
 simp only[bJ hM hx,bJ hM hy,bJ hM hz,vL,Option.map_some,Option.map_none,Sem.run_bind,e1,Result.andThen_ok]
 rfl
theorem zD {e:qY} {rb:List Nat} {s2:AS} (hT:∀t d,T t=some d→b7 P t d) (h0:draw=false) (h1:gd ops s o=some true) (h2:fI T (id*1000+k) s o=some (e,rb)) (h3:bn n o.dst=true) (hw:bt (s.eff o.dst e) s2)
 (h:aH P T n ops id draw K (k+1) os s2 (a6 ops o ⟨.junk,none⟩ []::fps)):aH P T n ops id draw K k (o::os) s fps:=
 .snd h0 h1 (fun S0 w0 g a w K' Q hM hK=>lY hT (.op h2) n S0 w0 g a w _ Q hM (fh h3) fun g' a' w' hM'=>by
  obtain⟨g2,hM2⟩:=hw _ _ _ _ _ ⟨g',hM'⟩;exact hK g2 a' w' hM2) h
end
abbrev Tk:=Nat × List UInt8 × Nat
def iv (t:Tk):List AV:=[.val (.int .i64 t.1), .val (vL t.2.1), .val (.int .i64 t.2.2)]
def b6:List Tk→List AV
 | []=>[]
 |t::r=>iv t++b6 r
theorem p7 (a b:List Tk):b6 (a++b)=b6 a++b6 b:=by
 induction a with
 |nil=>rfl
 |cons t r ih=>simp[b6,ih]
theorem im (a:List Tk):(b6 a).length=a.length*3:=by
 induction a with
 |nil=>rfl
 |cons t r ih=>simp[b6,iv,ih];omega
def cU:Nat→List UInt8→Nat→List Tk→Except (Nat × Int) (List Tk)
 |0,_,_,_=> .error (0,0)
 |_+1,[],at_,acc=> .ok (acc++[(0,[],at_)])
 |f+1,c::r,at_,acc=>if c=32∨c=9 then cU f r (at_+1) acc
  else if(gK (c::r)).2=0 then .error (at_,2)
  else if(gK (c::r)).1=1∧24<(gK (c::r)).2 then .error (at_,3)
  else cU f ((c::r).drop (gK (c::r)).2) (at_+(gK (c::r)).2) (acc++[((gK (c::r)).1,(c::r).take (gK (c::r)).2,at_)])
def jK:Except (Nat × Int) (List Tk)→RV
 | .ok l=> .tup [.leaf (.sl l.length (b6 l)),dN .i64 0,dN .i64 0]
 | .error (a,e)=> .tup [.leaf (.sl 0 []),dN .i64 a,dN .i64 e]
theorem Fv (s:List UInt8):jk s≤s.length:=by
 unfold jk
 split
 ·rename_i h
  have h1:=(List.getElem?_eq_some_iff.1 h.1).1;have h2:=gt cx (s.drop (aV cx s+1));rw[List.length_drop]at h2;omega
 ·exact gt _ _
theorem Fm:∀(n:Nat) (s:List UInt8) (i:Nat),s.length≤n→eW s i≤i+s.length:=by
 intro n
 induction n using Nat.strongRecOn with
 |_ n ih=>
  intro s i h
  match s,h with
  | [],_=>simp[eW]
  | [c],_=>simp only[eW];split <;>simp
  |c::d::r,h=>
   simp at h
   simp only[eW]
   split
   ·simp
   ·split
    ·omega
    ·split
     ·split
      ·omega
      ·have:=ih (n-2) (by omega) r (i+2) (by omega)
       simp
       omega
     ·have:=ih (n-1) (by omega) (d::r) (i+1) (by simp;omega)
      simp at this ⊢
      omega
theorem uN:∀s:List UInt8,(gK s).2≤s.length
 | []=>Nat.le_refl _
 |c::r=>by
  rw[gK]
  split
  ·exact gt _ _
  ·split
   ·exact Fv _
   ·split
    ·have:=Fm r.length r 1 (Nat.le_refl _)
     show eW r 1≤r.length+1;omega
    ·split
     ·simp
     ·split <;>simp
def IV (J:Nat):List Tk→TV
 | []=> .nil
 |a::r=> .own J (a::r).length 3 68
def Hu:List Tk→Option (List AV)
 | []=>none
 |a::r=>some (b6 (a::r))
theorem Dm (J:Nat) (l:List Tk) (t:Tk):IV J (l++[t])= .own J (l.length+1) 3 68:=by
 cases l with
 |nil=>rfl
 |cons a r=>simp[IV]
theorem ww (l:List Tk) (t:Tk):Hu (l++[t])=some (b6 l++iv t):=by
 have h:∀m:List Tk,m≠[]→Hu m=some (b6 m):=fun m hm=>by
  cases m with
  |nil=>exact absurd rfl hm
  |cons a r=>rfl
 rw[h _ (by simp),p7]
 simp[b6]
theorem ke (l:List Tk):(b6 l).take (l.length*3)=b6 l:=List.take_of_length_le (by rw[im];exact Nat.le_refl _)
theorem oP (s:List UInt8) (acc:List Tk) (t:Tk) (m:Nat):(⟨[(0, .d (dL s)),(2, .nil),(3, .d (dN .i64 0)),(4, .d (dN .i64 0)),(5,IV 13001 (acc++[t])),(6, .d (dN .i64 m))],[(13001,Hu (acc++[t]))]⟩:AS)=⟨[(0, .d (dL s)),(2, .nil),(3, .d (dN .i64 0)),(4, .d (dN .i64 0)),(5, .own 13001 (acc.length+1) 3 68),(6, .d (dN .i64 m))],[(13001,some ((b6 acc).take (acc.length*3)++iv t))]⟩:=by rw[Dm,ww,ke]
theorem j5 (s:List UInt8) (hl:s.length≤65536):ab Tryz.prog 38 [dL s] (jK (cU (s.length+1) s 0 [])):=by
 have hB:=au s;generalize hR:cU (s.length+1) s 0 []=R;refine kU aa ac Tryz.func38 ?_;refine kR ?_;refine kI ?_
 iterate 2 refine kO ?_
 refine kY ?_
 refine bh (Nat × List Tk) (fun x=>x.1≤s.length∧x.2.length≤x.1∧ ∃f,s.length-x.1<f∧cU f (s.drop x.1) x.1 x.2=R) (fun x=>⟨[(0, .d (dL s)),(2, .nil),(3, .d (dN .i64 0)),(4, .d (dN .i64 0)),(5,IV 13001 x.2),(6, .d (dN .i64 x.1))],[(13001,Hu x.2)]⟩) (fun x=>s.length-x.1) (0,[]) ⟨Nat.zero_le _,Nat.le_refl _,s.length+1,by dsimp only;omega,hR⟩
  (weak ⟨rfl,rfl,rfl,rfl,rfl,rfl,trivial⟩ trivial rfl) ?_
 rintro⟨i,acc⟩ ⟨h1,h2,f,hf,h3⟩;dsimp only at h1 h2 hf h3 ⊢;cases f with
 |zero=>exact absurd hf (Nat.not_lt_zero _)
 |succ f=>
 refine kI ?_
 iterate 3 refine kO ?_
 by_cases hlt:i<s.length
 ·have hx:s[i]? =some s[i]:=by simp[hlt]
  have hdrop:=List.drop_eq_getElem_cons hlt;generalize hc:s[i]=c at *;refine kT ?_;refine kG ?_
  iterate 2 refine kO ?_
  refine ap aa (i:=i) (c:=c) hx rfl rfl rfl rfl rfl rfl rfl rfl ?_
  by_cases hsp:c=32∨c=9
  ·rw[hdrop,cU,if_pos hsp]at h3
   by_cases c32:c=32
   ·have e32:c.toNat=32:=by rw[c32];rfl
    refine kX ?_
    exact⟨(i+1,acc),⟨hlt,by dsimp only;omega,f,by dsimp only;omega,h3⟩,by dsimp only;omega,by
     cases acc
     ·exact weak ⟨rfl,rfl,rfl,rfl,rfl,bc (by omega) (by omega),trivial⟩ trivial rfl
     ·exact weak ⟨rfl,rfl,rfl,rfl,rfl,bc (by omega) (by omega),trivial⟩ ⟨rfl,trivial⟩ rfl⟩
   ·have e32:¬c.toNat=32:=dK c32
    have e9:c.toNat=9:=by rw[hsp.resolve_left c32];rfl
    refine kE ?_
    iterate 3 refine kO ?_
    refine ap aa (i:=i) (c:=c) hx rfl rfl rfl rfl rfl rfl rfl rfl ?_;refine kX ?_
    exact⟨(i+1,acc),⟨hlt,by dsimp only;omega,f,by dsimp only;omega,h3⟩,by dsimp only;omega,by
     cases acc
     ·exact weak ⟨rfl,rfl,rfl,rfl,rfl,bc (by omega) (by omega),trivial⟩ trivial rfl
     ·exact weak ⟨rfl,rfl,rfl,rfl,rfl,bc (by omega) (by omega),trivial⟩ ⟨rfl,trivial⟩ rfl⟩
  ·have e32:¬c.toNat=32:=dK (fun e=>hsp (.inl e))
   have e9:¬c.toNat=9:=dK (fun e=>hsp (.inr e));have hdl:(s.drop i).length=s.length-i:=List.length_drop;have cn:=AG c (s.drop (i+1)) (by rw[← hdrop];omega);have hnl:=uN (s.drop i);rw[hdrop,cU,if_neg hsp]at h3;rw[← hdrop]at h3 cn;generalize hN:gK (s.drop i)=N at *;obtain⟨k,n⟩:=N;dsimp only at h3 cn hnl
   have hk64:k≤5:=by
    have h:=congrArg Prod.fst hN;rw[hdrop,gK]at h;dsimp only at h
    revert h
    repeat' split
    all_goals(intro h;dsimp only at h;omega)
   cases acc with
   |nil=>
    refine kE ?_
    iterate 3 refine kO ?_
    refine ap aa (i:=i) (c:=c) hx rfl rfl rfl rfl rfl rfl rfl rfl ?_;refine kE ?_;refine kG ?_
    iterate 2 refine kO ?_
    refine iL aa (i:=i) (by omega) rfl rfl rfl rfl rfl rfl rfl rfl ?_;refine kC (cn) ?_;refine kG ?_;refine kO ?_
    by_cases hn0:n=0
    ·rw[if_pos hn0]at h3
     refine kT ?_;rw[← h3];exact kF
    rw[if_neg hn0]at h3;refine kE ?_;refine kG ?_;refine kO ?_;have htx:(s.take (i+n)).drop i=(s.drop i).take n:=by rw[List.drop_take];congr 1;omega
    have hcase:(k=1∧24<n)∨(k=1∧ ¬24<n)∨ ¬k=1:=by omega
    rcases hcase with⟨hk,h24⟩| ⟨hk,h24⟩|hk
    ·rw[if_pos ⟨hk,h24⟩]at h3
     refine kT ?_
     iterate 2 refine kO ?_
     refine kT ?_;rw[← h3];exact kF
    ·rw[if_neg (fun h=>h24 h.2),List.drop_drop]at h3
     refine kT ?_
     iterate 2 refine kO ?_
     refine kE ?_;refine kG ?_
     iterate 6 refine kO ?_
     refine kJ ((i+n:Nat)) ?_;refine iJ aa (l:=s) (i:=i) (j:=i+n) (by omega) (by omega) rfl rfl rfl rfl rfl rfl rfl rfl rfl ?_;rw[← htx]at h3
     iterate 3 refine kO ?_
     refine cW 13002 (m1:=0) (m2:=1) aa (by decide) (by decide) rfl rfl rfl rfl rfl rfl rfl rfl rfl rfl rfl (.nil rfl rfl) rfl rfl rfl ?_;refine kW ?_
     exact⟨(i+n,[]++[(k,(s.take (i+n)).drop i,i)]),⟨by dsimp only;omega,by simp;omega,f,by dsimp only;omega,h3⟩,by dsimp only;omega,by
      exact Eq.mpr (congrArg (bt _) (oP s ([]:List Tk) (k,(s.take (i+n)).drop i,i) (i+n))) (bt.trans (b:=⟨[(0, .d (dL s)),(2, .nil),(3, .d (dN .i64 0)),(4, .d (dN .i64 0)),(5, .own 13002 (([]:List Tk).length+1) 3 68),(6, .d (dN .i64 ((i+n:Nat))))],[(13002,some ((b6 ([]:List Tk)).take (([]:List Tk).length*3)++iv (k,(s.take (i+n)).drop i,i)))]⟩) (weak ⟨rfl,rfl,rfl,rfl,rfl,bc (by omega) (by omega),trivial⟩ ⟨rfl,trivial⟩ rfl) ((bg (q:=5) (j:=13002) (j':=13001) (m:=([]:List Tk).length+1) (k:=3) (e:=68) (cs:=(b6 ([]:List Tk)).take (([]:List Tk).length*3)++iv (k,(s.take (i+n)).drop i,i)) rfl rfl rfl rfl).trans (weak ⟨rfl,rfl,rfl,rfl,rfl,rfl,trivial⟩ ⟨rfl,trivial⟩ rfl)))⟩
    ·rw[if_neg (fun h=>hk h.1),List.drop_drop]at h3
     refine kE ?_;refine kG ?_
     iterate 6 refine kO ?_
     refine kJ ((i+n:Nat)) ?_;refine iJ aa (l:=s) (i:=i) (j:=i+n) (by omega) (by omega) rfl rfl rfl rfl rfl rfl rfl rfl rfl ?_;rw[← htx]at h3
     iterate 3 refine kO ?_
     refine cW 13002 (m1:=0) (m2:=1) aa (by decide) (by decide) rfl rfl rfl rfl rfl rfl rfl rfl rfl rfl rfl (.nil rfl rfl) rfl rfl rfl ?_;refine kW ?_
     exact⟨(i+n,[]++[(k,(s.take (i+n)).drop i,i)]),⟨by dsimp only;omega,by simp;omega,f,by dsimp only;omega,h3⟩,by dsimp only;omega,by
      exact Eq.mpr (congrArg (bt _) (oP s ([]:List Tk) (k,(s.take (i+n)).drop i,i) (i+n))) (bt.trans (b:=⟨[(0, .d (dL s)),(2, .nil),(3, .d (dN .i64 0)),(4, .d (dN .i64 0)),(5, .own 13002 (([]:List Tk).length+1) 3 68),(6, .d (dN .i64 ((i+n:Nat))))],[(13002,some ((b6 ([]:List Tk)).take (([]:List Tk).length*3)++iv (k,(s.take (i+n)).drop i,i)))]⟩) (weak ⟨rfl,rfl,rfl,rfl,rfl,bc (by omega) (by omega),trivial⟩ ⟨rfl,trivial⟩ rfl) ((bg (q:=5) (j:=13002) (j':=13001) (m:=([]:List Tk).length+1) (k:=3) (e:=68) (cs:=(b6 ([]:List Tk)).take (([]:List Tk).length*3)++iv (k,(s.take (i+n)).drop i,i)) rfl rfl rfl rfl).trans (weak ⟨rfl,rfl,rfl,rfl,rfl,rfl,trivial⟩ ⟨rfl,trivial⟩ rfl)))⟩
   |cons a r=>
    refine kE ?_
    iterate 3 refine kO ?_
    refine ap aa (i:=i) (c:=c) hx rfl rfl rfl rfl rfl rfl rfl rfl ?_;refine kE ?_;refine kG ?_
    iterate 2 refine kO ?_
    refine iL aa (i:=i) (by omega) rfl rfl rfl rfl rfl rfl rfl rfl ?_;refine kC (cn) ?_;refine kG ?_;refine kO ?_
    by_cases hn0:n=0
    ·rw[if_pos hn0]at h3
     refine kT ?_;rw[← h3];exact kF
    rw[if_neg hn0]at h3;refine kE ?_;refine kG ?_;refine kO ?_;have htx:(s.take (i+n)).drop i=(s.drop i).take n:=by rw[List.drop_take];congr 1;omega
    have hcase:(k=1∧24<n)∨(k=1∧ ¬24<n)∨ ¬k=1:=by omega
    rcases hcase with⟨hk,h24⟩| ⟨hk,h24⟩|hk
    ·rw[if_pos ⟨hk,h24⟩]at h3
     refine kT ?_
     iterate 2 refine kO ?_
     refine kT ?_;rw[← h3];exact kF
    ·rw[if_neg (fun h=>h24 h.2),List.drop_drop]at h3
     refine kT ?_
     iterate 2 refine kO ?_
     refine kE ?_;refine kG ?_
     iterate 6 refine kO ?_
     refine kJ ((i+n:Nat)) ?_;refine iJ aa (l:=s) (i:=i) (j:=i+n) (by omega) (by omega) rfl rfl rfl rfl rfl rfl rfl rfl rfl ?_;rw[← htx]at h3
     iterate 3 refine kO ?_
     refine cW 13002 (m1:=(a::r).length) (m2:=1) aa (by decide) (by show((a::r).length+1)*32≤_;omega) rfl rfl rfl rfl rfl rfl rfl rfl rfl rfl rfl (.own rfl rfl) rfl rfl rfl ?_;refine kW ?_
     exact⟨(i+n,(a::r)++[(k,(s.take (i+n)).drop i,i)]),⟨by dsimp only;omega,by rw[List.length_append];dsimp only[List.length_cons,List.length_nil]at h2 ⊢;omega,f,by dsimp only;omega,h3⟩,by dsimp only;omega,by
      exact Eq.mpr (congrArg (bt _) (oP s (a::r) (k,(s.take (i+n)).drop i,i) (i+n))) (bt.trans (b:=⟨[(0, .d (dL s)),(2, .nil),(3, .d (dN .i64 0)),(4, .d (dN .i64 0)),(5, .own 13002 ((a::r).length+1) 3 68),(6, .d (dN .i64 ((i+n:Nat))))],[(13002,some ((b6 (a::r)).take ((a::r).length*3)++iv (k,(s.take (i+n)).drop i,i)))]⟩) (weak ⟨rfl,rfl,rfl,rfl,rfl,bc (by omega) (by omega),trivial⟩ ⟨rfl,trivial⟩ rfl) ((bg (q:=5) (j:=13002) (j':=13001) (m:=(a::r).length+1) (k:=3) (e:=68) (cs:=(b6 (a::r)).take ((a::r).length*3)++iv (k,(s.take (i+n)).drop i,i)) rfl rfl rfl rfl).trans (weak ⟨rfl,rfl,rfl,rfl,rfl,rfl,trivial⟩ ⟨rfl,trivial⟩ rfl)))⟩
    ·rw[if_neg (fun h=>hk h.1),List.drop_drop]at h3
     refine kE ?_;refine kG ?_
     iterate 6 refine kO ?_
     refine kJ ((i+n:Nat)) ?_;refine iJ aa (l:=s) (i:=i) (j:=i+n) (by omega) (by omega) rfl rfl rfl rfl rfl rfl rfl rfl rfl ?_;rw[← htx]at h3
     iterate 3 refine kO ?_
     refine cW 13002 (m1:=(a::r).length) (m2:=1) aa (by decide) (by show((a::r).length+1)*32≤_;omega) rfl rfl rfl rfl rfl rfl rfl rfl rfl rfl rfl (.own rfl rfl) rfl rfl rfl ?_;refine kW ?_
     exact⟨(i+n,(a::r)++[(k,(s.take (i+n)).drop i,i)]),⟨by dsimp only;omega,by rw[List.length_append];dsimp only[List.length_cons,List.length_nil]at h2 ⊢;omega,f,by dsimp only;omega,h3⟩,by dsimp only;omega,by
      exact Eq.mpr (congrArg (bt _) (oP s (a::r) (k,(s.take (i+n)).drop i,i) (i+n))) (bt.trans (b:=⟨[(0, .d (dL s)),(2, .nil),(3, .d (dN .i64 0)),(4, .d (dN .i64 0)),(5, .own 13002 ((a::r).length+1) 3 68),(6, .d (dN .i64 ((i+n:Nat))))],[(13002,some ((b6 (a::r)).take ((a::r).length*3)++iv (k,(s.take (i+n)).drop i,i)))]⟩) (weak ⟨rfl,rfl,rfl,rfl,rfl,bc (by omega) (by omega),trivial⟩ ⟨rfl,trivial⟩ rfl) ((bg (q:=5) (j:=13002) (j':=13001) (m:=(a::r).length+1) (k:=3) (e:=68) (cs:=(b6 (a::r)).take ((a::r).length*3)++iv (k,(s.take (i+n)).drop i,i)) rfl rfl rfl rfl).trans (weak ⟨rfl,rfl,rfl,rfl,rfl,rfl,trivial⟩ ⟨rfl,trivial⟩ rfl)))⟩
 ·refine kE ?_
  obtain rfl:i=s.length:=by omega
  rw[List.drop_eq_nil_of_le (Nat.le_refl _),cU]at h3;refine kN ?_;refine aJ (T:=TT) ?_;refine eB (T:=TT) rfl ?_;refine eN ?_;refine kI ?_
  iterate 2 refine kO ?_
  refine fj (v':= .int .i64 ((s.length:Nat))) rfl rfl rfl rfl ?_ ?_
  ·exact congrArg (Value.int .i64) (by rw[hB])
  iterate 2 refine kO ?_
  cases acc with
  |nil=>
   refine cW 15002 (m1:=0) (m2:=1) aa (by decide) (by decide) rfl rfl rfl rfl rfl rfl rfl rfl rfl rfl rfl (.nil rfl rfl) rfl rfl rfl ?_;refine zD aa rfl rfl rfl rfl (fx (q:=2) rfl rfl) ?_;rw[← h3];exact kF
  |cons a r=>
   refine cW 15002 (m1:=(a::r).length) (m2:=1) aa (by decide) (by show((a::r).length+1)*32≤_;omega) rfl rfl rfl rfl rfl rfl rfl rfl rfl rfl rfl (.own rfl rfl) rfl rfl rfl ?_
   have hV:jK R= .tup [.leaf (.sl ((a::r).length+1) ((b6 (a::r)).take ((a::r).length*3)++iv (0,[],s.length))),dN .i64 0,dN .i64 0]:=by
    rw[← h3,jK,ke,p7,List.length_append];rfl
   refine zD aa rfl rfl rfl rfl (fx (q:=2) rfl rfl) ?_;rw[hV];exact kF
end Go.Proofs.YtikbnnljjeefgaaGreatDoor
namespace Go.Proofs.YtikbnnljjeefgaaGreatDoor
open Go.RowKit
theorem jg {p:UInt8→Bool} {s:List UInt8} {i j:Nat} (hij:i≤j) (hj:j≤s.length) (hq:∀(q:Nat) c,i≤q→q<j→s[q]? =some c→p c=true) (he:j=s.length∨ ∃c,s[j]? =some c∧p c=false):i+aV p (s.drop i)=j:=by
 have h1:aV p (s.drop i)=j-i:=by
  refine l9 (fun q c h1 h2=>?_) ?_
  ·rw[List.getElem?_drop]at h2
   exact hq (i+q) c (by omega) (by omega) h2
  ·rcases he with he| ⟨c,h1,h2⟩
   ·exact .inl ⟨List.getElem?_eq_none (by rw[List.length_drop];omega),by rw[List.length_drop];omega⟩
   ·exact .inr ⟨c,by rw[List.getElem?_drop,show i+(j-i)=j by omega];exact h1,h2⟩
 omega
theorem lD (s:List UInt8) (i:Nat) (hi:i≤s.length) (hl:s.length≤4611686018427387904):ab Tryz.prog 114 [dL s,dN .i64 i] (.one (dN .i64 ((i+aV cx (s.drop i):Nat)))):=by
 have hB:=au s;generalize hR:i+aV cx (s.drop i)=R;refine kU aa ac Tryz.func114 ?_;refine kW ?_
 refine bh Nat (fun j=>i≤j∧j≤s.length∧ ∀(q:Nat) c,i≤q→q<j→s[q]? =some c→cx c=true) (fun j=>⟨[(0, .d (dL s)),(1, .d (dN .i64 j)),(4, .d (dN .i64 0))],[]⟩) (fun j=>s.length-j) i ⟨Nat.le_refl _,hi,fun q c h1 h2=>by omega⟩
  (weak ⟨rfl,rfl,rfl,trivial⟩ trivial rfl) ?_
 rintro j ⟨h1,h2,hq⟩;refine kI ?_
 iterate 3 refine kO ?_
 by_cases hlt:j<s.length
 ·have hx:s[j]? =some s[j]:=by simp[hlt]
  have hc:=mJ s[j];refine kT ?_
  iterate 3 refine kO ?_
  refine ap aa (i:=j) (c:=s[j]) hx rfl rfl rfl rfl rfl rfl rfl rfl ?_;cases hb:cx s[j]
  ·rw[hb]at hc
   refine kQ (hc) ?_;rw[← hR,jg h1 h2 hq (.inr ⟨_,hx,hb⟩)];exact bL (T:=TT) rfl rfl
  ·rw[hb]at hc
   refine kQ (hc) ?_
   exact⟨j+1,⟨by omega,hlt,fun q c h3 h4 h5=>by
    by_cases e:q=j
    ·subst e;rw[hx]at h5;cases h5;exact hb
    ·exact hq q c h3 (by omega) h5⟩,by omega,weak ⟨rfl,bc (by omega) (by omega),rfl,trivial⟩ trivial rfl⟩
 ·refine kE ?_
  refine kW ?_;rw[← hR,jg h1 h2 hq (.inl (by omega))];exact bL (T:=TT) rfl rfl
def qW (s:List UInt8):Nat:=match s with
 | []=>0
 |c::_=>if dU c then aV fQ s else 0
theorem oD (s:List UInt8) (i:Nat) (hi:i≤s.length) (hl:s.length≤4611686018427387904):ab Tryz.prog 72 [dL s,dN .i64 i] (.one (dN .i64 ((i+qW (s.drop i):Nat)))):=by
 have hB:=au s
 by_cases hend:i=s.length
 ·rw[List.drop_eq_nil_of_le (by omega)]
  refine kU aa ac Tryz.func72 ?_;refine kR ?_;refine kI ?_
  iterate 3 refine kO ?_
  refine kT ?_;exact kF
 have hlt0:i<s.length:=by omega
 have hx0:s[i]? =some s[i]:=by simp
 have hdrop:=List.drop_eq_getElem_cons hlt0;have hc0:=lI s[i];cases hb0:dU s[i]
 ·rw[hb0]at hc0
  have hw:qW (s.drop i)=0:=by rw[hdrop];simp[qW,hb0]
  rw[hw,Nat.add_zero];refine kU aa ac Tryz.func72 ?_;refine kR ?_;refine kI ?_
  iterate 3 refine kO ?_
  refine kE ?_
  iterate 3 refine kO ?_
  refine ap aa (i:=i) (c:=s[i]) hx0 rfl rfl rfl rfl rfl rfl rfl rfl ?_;refine kC (hc0) ?_;exact kF
 ·rw[hb0]at hc0
  have hw:qW (s.drop i)=aV fQ (s.drop i):=by rw[hdrop];simp[qW,hb0]
  rw[hw];generalize hR:i+aV fQ (s.drop i)=R;refine kU aa ac Tryz.func72 ?_;refine kR ?_;refine kI ?_
  iterate 3 refine kO ?_
  refine kE ?_
  iterate 3 refine kO ?_
  refine ap aa (i:=i) (c:=s[i]) hx0 rfl rfl rfl rfl rfl rfl rfl rfl ?_;refine kQ (hc0) ?_
  refine bh Nat (fun j=>i≤j∧j≤s.length∧ ∀(q:Nat) c,i≤q→q<j→s[q]? =some c→fQ c=true) (fun j=>⟨[(0, .d (dL s)),(1, .d (dN .i64 j)),(4, .d (dN .i64 0))],[]⟩) (fun j=>s.length-j) i ⟨Nat.le_refl _,hi,fun q c h1 h2=>by omega⟩
   (weak ⟨rfl,rfl,rfl,trivial⟩ trivial rfl) ?_
  rintro j ⟨h1,h2,hq⟩;refine kI ?_
  iterate 3 refine kO ?_
  by_cases hlt:j<s.length
  ·have hx:s[j]? =some s[j]:=by simp[hlt]
   have hcl:=lI s[j];have hcd:=mJ s[j]
   have hnext:fQ s[j]=true→ ∀(q:Nat) c,i≤q→q<j+1→s[q]? =some c→fQ c=true:=fun hv q c h3 h4 h5=>by
    by_cases e:q=j
    ·subst e;rw[hx]at h5;cases h5;exact hv
    ·exact hq q c h3 (by omega) h5
   refine kT ?_
   iterate 3 refine kO ?_
   refine ap aa (i:=j) (c:=s[j]) hx rfl rfl rfl rfl rfl rfl rfl rfl ?_;cases hbl:dU s[j]
   ·rw[hbl]at hcl
    refine kC (hcl) ?_
    iterate 3 refine kO ?_
    refine ap aa (i:=j) (c:=s[j]) hx rfl rfl rfl rfl rfl rfl rfl rfl ?_;cases hbd:cx s[j]
    ·rw[hbd]at hcd
     refine kC (hcd) ?_
     iterate 4 refine kO ?_
     refine ap aa (i:=j) (c:=s[j]) hx rfl rfl rfl rfl rfl rfl rfl rfl ?_
     by_cases h95:s[j].toNat=95
     ·refine kT ?_
      refine kW ?_;exact⟨j+1,⟨by omega,hlt,hnext (by simp[fQ,h95])⟩,by omega,weak ⟨rfl,bc (by omega) (by omega),rfl,trivial⟩ trivial rfl⟩
     ·refine kE ?_
      refine kW ?_;rw[← hR,jg h1 h2 hq (.inr ⟨_,hx,by simp[fQ,hbl,hbd,h95]⟩)];exact bL (T:=TT) rfl rfl
    ·rw[hbd]at hcd
     refine kQ (hcd) ?_;exact⟨j+1,⟨by omega,hlt,hnext (by simp[fQ,hbd])⟩,by omega,weak ⟨rfl,bc (by omega) (by omega),rfl,trivial⟩ trivial rfl⟩
   ·rw[hbl]at hcl
    refine kQ (hcl) ?_;exact⟨j+1,⟨by omega,hlt,hnext (by simp[fQ,hbl])⟩,by omega,weak ⟨rfl,bc (by omega) (by omega),rfl,trivial⟩ trivial rfl⟩
  ·refine kE ?_
   refine kW ?_;rw[← hR,jg h1 h2 hq (.inl (by omega))];exact bL (T:=TT) rfl rfl
end Go.Proofs.YtikbnnljjeefgaaGreatDoor
namespace Go.Proofs.YtikbnnljjeefgaaGreatDoor
open Go.RowKit
theorem rf (s:List UInt8) (i:Nat) (hi:i≤s.length) (hl:s.length≤4611686018427387903) {r:Nat} (hr:r=i+if 0<aV cx (s.drop i)then jk (s.drop i)else 0):ab Tryz.prog 73 [dL s,dN .i64 i] (.one (dN .i64 r)):=by
 have hB:=au s;have c1:=lD s i hi (by omega);have hn:=gt cx (s.drop i);rw[List.length_drop]at hn;unfold jk at hr;rw[List.getElem?_drop,List.drop_drop]at hr;generalize aV cx (s.drop i)=n at *
 by_cases h0:0<n
 ·rw[if_pos h0]at hr
  by_cases h1:i+n<s.length
  ·have hx:s[i+n]? =some s[i+n]:=by simp[h1]
   by_cases h2:s[i+n]=46
   ·have e2:s[i+n].toNat=46:=by rw[h2];rfl
    have hx2:s[i+n]? =some 46:=by rw[hx,h2]
    have c2:=lD s (i+n+1) (by omega) (by omega);have hm:=gt cx (s.drop (i+n+1));rw[List.length_drop]at hm;rw[show i+(n+1)=i+n+1 by omega]at hr;generalize aV cx (s.drop (i+n+1))=m at *
    by_cases h3:0<m
    ·rw[if_pos ⟨hx2,h3⟩]at hr
     obtain rfl:r=i+n+1+m:=by omega
     refine kU aa ac Tryz.func73 ?_;refine kW ?_;refine kC (c1) ?_;refine kG ?_
     iterate 2 refine kO ?_
     refine kT ?_
     iterate 4 refine kO ?_
     refine kT ?_
     iterate 4 refine kO ?_
     refine ap aa (i:=i+n) (c:=s[i+n]) hx rfl rfl rfl rfl rfl rfl rfl rfl ?_;refine kT ?_
     iterate 4 refine kO ?_
     refine kJ ((i+n+1:Nat)) ?_;refine kC (c2) ?_;refine kO ?_;refine kJ ((i+n+1:Nat)) ?_;refine kT ?_;refine kG ?_
     iterate 2 refine kO ?_
     refine kJ ((i+n+1:Nat)) ?_;refine kC (c2) ?_;exact kF
    ·rw[if_neg (fun h=>h3 h.2)]at hr
     subst hr;refine kU aa ac Tryz.func73 ?_;refine kW ?_;refine kC (c1) ?_;refine kG ?_
     iterate 2 refine kO ?_
     refine kT ?_
     iterate 4 refine kO ?_
     refine kT ?_
     iterate 4 refine kO ?_
     refine ap aa (i:=i+n) (c:=s[i+n]) hx rfl rfl rfl rfl rfl rfl rfl rfl ?_;refine kT ?_
     iterate 4 refine kO ?_
     refine kJ ((i+n+1:Nat)) ?_;refine kC (c2) ?_;refine kO ?_;refine kJ ((i+n+1:Nat)) ?_;refine kE ?_;exact kF
   ·have e2:¬s[i+n].toNat=46:=dK h2
    rw[if_neg (fun h=>by rw[hx]at h;exact h2 (Option.some.inj h.1))]at hr;subst hr;refine kU aa ac Tryz.func73 ?_;refine kW ?_;refine kC (c1) ?_;refine kG ?_
    iterate 2 refine kO ?_
    refine kT ?_
    iterate 4 refine kO ?_
    refine kT ?_
    iterate 4 refine kO ?_
    refine ap aa (i:=i+n) (c:=s[i+n]) hx rfl rfl rfl rfl rfl rfl rfl rfl ?_;refine kE ?_;exact kF
  ·rw[if_neg (fun h=>by rw[List.getElem?_eq_none (by omega)]at h;cases h.1)]at hr
   subst hr;refine kU aa ac Tryz.func73 ?_;refine kW ?_;refine kC (c1) ?_;refine kG ?_
   iterate 2 refine kO ?_
   refine kT ?_
   iterate 4 refine kO ?_
   refine kE ?_;exact kF
 ·rw[if_neg h0]at hr
  obtain rfl:n=0:=by omega
  subst hr;refine kU aa ac Tryz.func73 ?_;refine kW ?_;refine kC (c1) ?_;refine kG ?_
  iterate 2 refine kO ?_
  refine kE ?_;exact kF
end Go.Proofs.YtikbnnljjeefgaaGreatDoor
namespace Go.Proofs.YtikbnnljjeefgaaGreatDoor
open Go.RowKit
theorem nJ:∀(l:List UInt8) (c:UInt8),0≤Lib.indexByte l c↔c∈l
 | [],c=>by simp[Lib.indexByte]
 |b::l,c=>by
  have ih:=nJ l c;have hge:=Lib.indexByte_ge l c
  simp only[Lib.indexByte]
  by_cases h:b=c
  ·subst h
   simp
  ·have hb:(b == c)=false:=by simpa using h
   have h':¬c=b:=fun e=>h e.symm
   rw[hb]
   simp only[Bool.false_eq_true,if_false,List.mem_cons,h',false_or]
   rw[← ih]
   by_cases h1:Lib.indexByte l c= -1
   ·simp[h1]
   ·have h2:(Lib.indexByte l c == -1)=false:=by simpa using h1
    rw[h2]
    simp only[Bool.false_eq_true,if_false]
    omega
theorem B3 (c:UInt8):rI c=decide (c∈io):=decide_eq_decide.2 (nJ io c)
theorem rF (c:UInt8):ab Tryz.prog 75 [dN .u8 c.toNat] (.one (dB (rI c))):=by
 rw[B3];have hlen:io.length=19:=rfl;refine kU aa ac Tryz.func75 ?_;refine kW ?_
 refine bh Nat (fun i=>i≤19∧ ∀(q:Nat) d,q<i→io[q]? =some d→d≠c) (fun i=>⟨[(0, .d (dN .u8 c.toNat)),(2, .d (dB false)),(3, .d (dN .i64 i))],[]⟩) (fun i=>19-i) 0 ⟨Nat.zero_le _,fun q d h=>absurd h (Nat.not_lt_zero _)⟩
  (weak ⟨rfl,rfl,rfl,trivial⟩ trivial rfl) ?_
 rintro i ⟨hi,hq⟩;refine kI ?_;refine kO ?_
 by_cases hlt:i<19
 ·have hx:io[i]? =some (io[i]'(by omega)):=by simp
  refine Exists.elim (Exists.intro _ hx:∃d,io[i]? =some d) fun d hd=>?_
  refine kT ?_;refine kG ?_;refine kO ?_;refine ap aa (l:=io) (i:=i) (c:=d) hd rfl rfl rfl rfl rfl rfl rfl rfl ?_;refine kO ?_
  by_cases he:d=c
  ·have e1:d.toNat=c.toNat:=by rw[he]
   refine kT ?_;rw[show decide (c∈io)=true from decide_eq_true (by rw[← he];exact List.mem_of_getElem? hd)];exact kF
  ·have e1:¬d.toNat=c.toNat:=dK he
   refine kY ?_
   exact⟨i+1,⟨hlt,fun q d' h1 h2=>by
    by_cases e:q=i
    ·subst e;rw[hd]at h2;cases h2;exact he
    ·exact hq q d' (by omega) h2⟩,by omega,weak ⟨rfl,rfl,bc (by omega) (by omega),trivial⟩ trivial rfl⟩
 ·refine kE ?_
  rw[show decide (c∈io)=false from decide_eq_false (fun hm=>by
   obtain⟨q,h⟩:=List.getElem?_of_mem hm;have h1:=(List.getElem?_eq_some_iff.1 h).1;exact hq q c (by omega) h rfl)]
  exact kF
end Go.Proofs.YtikbnnljjeefgaaGreatDoor
namespace Go.Proofs.YtikbnnljjeefgaaGreatDoor
open Go.RowKit
def m4 (s:List UInt8):Bool:=match s with
 | []=>false
 |c::_=>decide (s.length≤24) && (dU c && decide (aV fQ s=s.length))
theorem jV (s:List UInt8) (hl:s.length≤4611686018427387903):ab Tryz.prog 27 [dL s] (.one (dB (m4 s))):=by
 have hB:=au s;cases hs:s with
 |nil=>
  refine kU aa ac Tryz.func27 ?_;refine kR ?_;refine kI ?_;refine kO ?_;refine aO rfl rfl rfl rfl rfl rfl rfl (gk (a:=[]) (b:=[]) rfl) ?_;exact kF
 |cons c r=>
  have hn:m4 s=(decide (s.length≤24) && (dU c && decide (aV fQ s=s.length))):=by rw[hs];rfl
  have hne:s≠[]:=by rw[hs];simp
  have h0:s[0]? =some c:=by rw[hs];rfl
  have c1:=iQ c;have c2:=kL nZ s (by omega);rw[← hs,hn];generalize aV fQ s=n at *
  by_cases h24:s.length≤24
  ·rw[decide_eq_true h24,Bool.true_and]
   cases hb:dU c
   ·rw[hb]at c1
    refine kU aa ac Tryz.func27 ?_;refine kR ?_;refine kI ?_;refine kO ?_;refine aO rfl rfl rfl rfl rfl rfl rfl (ee (a:=s) (b:=[]) hne) ?_
    iterate 3 refine kO ?_
    refine kT ?_
    iterate 3 refine kO ?_
    refine ap aa (i:=0) (c:=c) h0 rfl rfl rfl rfl rfl rfl rfl rfl ?_;refine kC (c1) ?_;exact kF
   ·rw[hb]at c1
    by_cases he:n=s.length
    ·rw[decide_eq_true he]
     refine kU aa ac Tryz.func27 ?_;refine kR ?_;refine kI ?_;refine kO ?_;refine aO rfl rfl rfl rfl rfl rfl rfl (ee (a:=s) (b:=[]) hne) ?_
     iterate 3 refine kO ?_
     refine kT ?_
     iterate 3 refine kO ?_
     refine ap aa (i:=0) (c:=c) h0 rfl rfl rfl rfl rfl rfl rfl rfl ?_;refine kC (c1) ?_
     iterate 3 refine kO ?_
     refine kC (c2) ?_
     iterate 2 refine kO ?_
     refine kT ?_;exact kF
    ·rw[decide_eq_false he]
     refine kU aa ac Tryz.func27 ?_;refine kR ?_;refine kI ?_;refine kO ?_;refine aO rfl rfl rfl rfl rfl rfl rfl (ee (a:=s) (b:=[]) hne) ?_
     iterate 3 refine kO ?_
     refine kT ?_
     iterate 3 refine kO ?_
     refine ap aa (i:=0) (c:=c) h0 rfl rfl rfl rfl rfl rfl rfl rfl ?_;refine kC (c1) ?_
     iterate 3 refine kO ?_
     refine kC (c2) ?_
     iterate 2 refine kO ?_
     refine kE ?_;exact kF
  ·rw[decide_eq_false h24,Bool.false_and]
   refine kU aa ac Tryz.func27 ?_;refine kR ?_;refine kI ?_;refine kO ?_;refine aO rfl rfl rfl rfl rfl rfl rfl (ee (a:=s) (b:=[]) hne) ?_
   iterate 3 refine kO ?_
   refine kE ?_;exact kF
theorem rj (s:List UInt8) (hl:s.length≤4611686018427387903):ab Tryz.prog 84 [dL s] (.one (dB (m4 s))):=by
 have hB:=au s;cases hs:s with
 |nil=>
  refine kU aa ac Tryz.func84 ?_;refine kR ?_;refine kI ?_;refine kO ?_;refine aO rfl rfl rfl rfl rfl rfl rfl (gk (a:=[]) (b:=[]) rfl) ?_;exact kF
 |cons c r=>
  have hn:m4 s=(decide (s.length≤24) && decide (qW s=s.length)):=by
   rw[hs];show(decide ((c::r).length≤24) && (dU c && decide (aV fQ (c::r)=(c::r).length)))=(decide ((c::r).length≤24) && decide ((if dU c=true then aV fQ (c::r)else 0)=(c::r).length));cases dU c<;>simp
  have hne:s≠[]:=by rw[hs];simp
  have c2:ab Tryz.prog 72 [dL s,dN .i64 0] (.one (dN .i64 (qW s:Nat))):=by
   have:=oD s 0 (Nat.zero_le _) (by omega)
   rwa[List.drop_zero,Nat.zero_add]at this
  rw[← hs,hn];generalize qW s=n at *
  by_cases h24:s.length≤24
  ·rw[decide_eq_true h24,Bool.true_and]
   by_cases he:n=s.length
   ·rw[decide_eq_true he]
    refine kU aa ac Tryz.func84 ?_;refine kR ?_;refine kI ?_;refine kO ?_;refine aO rfl rfl rfl rfl rfl rfl rfl (ee (a:=s) (b:=[]) hne) ?_
    iterate 3 refine kO ?_
    refine kT ?_
    iterate 3 refine kO ?_
    refine kC (c2) ?_
    iterate 2 refine kO ?_
    refine kT ?_;exact kF
   ·rw[decide_eq_false he]
    refine kU aa ac Tryz.func84 ?_;refine kR ?_;refine kI ?_;refine kO ?_;refine aO rfl rfl rfl rfl rfl rfl rfl (ee (a:=s) (b:=[]) hne) ?_
    iterate 3 refine kO ?_
    refine kT ?_
    iterate 3 refine kO ?_
    refine kC (c2) ?_
    iterate 2 refine kO ?_
    refine kE ?_;exact kF
  ·rw[decide_eq_false h24,Bool.false_and]
   refine kU aa ac Tryz.func84 ?_;refine kR ?_;refine kI ?_;refine kO ?_;refine aO rfl rfl rfl rfl rfl rfl rfl (ee (a:=s) (b:=[]) hne) ?_
   iterate 3 refine kO ?_
   refine kE ?_;exact kF
end Go.Proofs.YtikbnnljjeefgaaGreatDoor
namespace Go.Proofs.YtikbnnljjeefgaaGreatDoor
open Go.RowKit
section
variable {P:Program} {T:TypeId→Option Ty} {n:Nat} {ops:Array Oper} {id:Nat} {draw:Bool} {K:AS→Prop} {s:AS} {k:Nat} {o:Oper} {os:List Oper} {fps:List FP}
theorem FV (j':Nat) {d t et q:Nat} {ty:Ty} (hT:∀t d,T t=some d→b7 P t d) (h0:draw=false) (h1:gd ops s o=some true) (ho:o.op= .buildSlice t 0 #[]) (hd:o.dst=some d) (h3:bn n o.dst=true) (ht:T t=some ty) (hel:ty.elem=some (et,q)) (hnew:lq s j'=true)
 (h:aH P T n ops id draw K (k+1) os ⟨(d, .own j' 0 q et)::s.t,(j',some [])::s.b⟩ (a6 ops o ⟨.junk,none⟩ []::fps)):aH P T n ops id draw K k (o::os) s fps:=by
 refine .snd h0 h1 (fun S0 w0 g a w K' Q hM hK=>?_) h;obtain⟨u,hu,_,hel',_⟩:=(hT _ _ ht).und;obtain⟨rfl,hks⟩:=hel' et q hel
 have hr:(execOp a.eval o).run P w= .ok (.value (.slice (some ⟨w.heap.size,0,none⟩) 0 0)) (w.alloc (.cells #[] et)):=by
  unfold execOp;rw[ho]
  simp only[Instr.buildSlice,Sem.run_bind,run_underlying hu w,Result.andThen_ok,eK hks w]
  rw[if_neg (by omega),if_pos (by omega)]
  simp[Instr.fill,show Array.range 0= #[] from by decide]
  rfl
 unfold Oper.wp;rw[hr];show K' (a.put o.dst _) _;rw[hd];refine hK _ _ _ (hM.alloc (fh h3 d hd) (fB hnew).1 (fB hnew).2 ⟨Nat.le_refl _,fun i a v h=>by simp at h⟩ (fun _ v h=>by simp at h) (fun a h=>by cases h) (fun h=>by rw[tf hnew]at h;cases h) fun g' s' hg hb=>?_);refine⟨AS.kn_of hb,fun cs hc=>⟨0,by rw[hg],Nat.le_refl _,by decide,by simp,#[],?_,by simp⟩⟩;rw[hg];exact heap_alloc_new w _
theorem G5 (hT:∀t d,T t=some d→b7 P t d) {t t' et:TypeId} {ty ty' te:Ty} {x:Operand} (h1:gd ops s o=some true) (h2:o.op= .convert t t' x) (h5:T t=some ty) (h6:ty.elem=some (et,1)) (h7:T et=some te) (h8:te.ik=some .u8) (h9:T t'=some ty') (h10:ty'.isStr=true) (h11:s.ev x= .d (.leaf (.sl 0 [])))
 (h3:bn n o.dst=true) (h4:jr draw ops (a6 ops o ⟨.d (dL []),none⟩ []) k fps=true) (h:aH P T n ops id draw K (k+1) os (s.eff o.dst ⟨.d (dL []),none⟩) (a6 ops o ⟨.d (dL []),none⟩ []::fps)):aH P T n ops id draw K k (o::os) s fps:=by
 refine .run h1 (.gen fun s2 ht _=>?_) h3 h4 h;have hx:=(bd ht (x:=x) (by simp[h2,Op.operands])).trans h11;have hu:=kd (hT _ _ h9) h10;obtain⟨d,hd,_,hel,_⟩:=(hT _ _ h5).und;obtain⟨rfl,_⟩:=hel et 1 h6;obtain⟨d2,hd2,_,_,_,_,_,hik,_⟩:=(hT _ _ h7).und;obtain rfl:=hik _ h8;refine av fun n S0 w0 g a w hM=>⟨vL [],w,?_,Below.refl _ _,AV.M.val rfl⟩
 have hm:=hM.ev x;rw[hx]at hm;have hm:AV.M (Own S0 g s2) w (.sl 0 []) (a.eval x):=hm
 have hA:∃A c,a.eval x= .slice A 0 c:=by
  generalize a.eval x=v at hm;cases hm with
  |emp=>exact⟨_,_,rfl⟩
  |sl=>exact⟨_,_,rfl⟩
 obtain⟨A,c,hv⟩:=hA
 have hr:(convert t t' (.slice A 0 c)).run P w= .ok (.string (Bs [])) w:=by
  cases A with
  |none=>exact run_convert_bytes_nil w t et hd hd2 0 c t' hu
  |some ad=>
   rw[run_convert_bytes_string w t t' et _ 0 c hd hd2 hu,run_bytesToString w ad 0 c [] (by simpa using run_loadCells_list (P:=P) w ad [] (fun j v hj=>by simp at hj))];rfl
 unfold execOp;rw[h2]
 simp only[hv,Sem.run_bind,hr,Result.andThen_ok,Sem.run_pure]
 rfl
end
end Go.Proofs.YtikbnnljjeefgaaGreatDoor
namespace Go.Proofs.YtikbnnljjeefgaaGreatDoor
def dg (k:Nat):UInt8:=UInt8.ofNat (48+k)
theorem mg {k:Nat} (h:k<10):(dg k).toNat=48+k:=by unfold dg;rw[UInt8.toNat_ofNat'];omega
def kP (n:Nat):List UInt8:=if _h:n=0 then []else kP (n/10)++[dg (n%10)]
termination_by n
decreasing_by omega
theorem dM:kP 0=[]:=by rw[kP];simp
theorem dA {n:Nat} (h:n≠0):kP n=kP (n/10)++[dg (n%10)]:=by rw[kP];simp[h]
def fmt (z:Int):List UInt8:=if z=0 then [48]else(if z<0 then [45]else [])++kP z.natAbs
def dv (c:UInt8):Nat:=c.toNat-48
def cX (c:UInt8):Prop:=48≤c.toNat∧c.toNat≤57
instance (c:UInt8):Decidable (cX c):=inferInstanceAs (Decidable (_∧_))
def num (l:List UInt8):Nat:=l.foldl (fun a c=>10*a+dv c) 0
theorem gx (l:List UInt8) (c:UInt8):num (l++[c])=10*num l+dv c:=by simp[num]
theorem IB {c:UInt8} (h:cX c):dg (dv c)=c:=by
 unfold dg dv
 apply UInt8.toNat_inj.1
 rw[UInt8.toNat_ofNat'];unfold cX at h;omega
theorem yZ {c:UInt8} (h:cX c):dv c<10:=by unfold dv;unfold cX at h;omega
theorem mh {n:Nat} (h:n≠0):∃c r,kP n=c::r∧c≠48:=by
 induction n using Nat.strongRecOn with
 |_ n ih=>
  rw[dA h]
  by_cases h1:n/10=0
  ·rw[h1,dM]
   refine⟨dg (n%10),[],rfl,fun e=>?_⟩;have h2:=mg (show n%10<10 by omega);rw[e]at h2;have:(48:UInt8).toNat=48:=rfl;omega
  ·obtain⟨c,r,e,hc⟩:=ih (n/10) (by omega) h1
   exact⟨c,r++[dg (n%10)],by rw[e];rfl,hc⟩
theorem uA {l:List UInt8} (hd:∀c∈l,cX c) {c:UInt8} {r:List UInt8} (h:l=c::r) (hc:c≠48):0<num l:=by
 have h1:∀(r:List UInt8) (a:Nat),0<a→0<r.foldl (fun a c=>10*a+dv c) a:=by
  intro r
  induction r with
  |nil=>intro a h;exact h
  |cons x r ih=>intro a h;exact ih _ (by dsimp only;omega)
 subst h;have h2:=hd c (by simp);refine h1 r _ ?_;dsimp only;have h3:c.toNat≠48:=fun e=>hc (UInt8.toNat_inj.1 e)
 unfold dv;unfold cX at h2;omega
theorem Em:∀(n:Nat) (l:List UInt8),l.length=n→(∀c∈l,cX c)→(∀c r,l=c::r→c≠48)→kP (num l)=l:=by
 intro n
 induction n with
 |zero=>intro l hl _ _;rw[List.eq_nil_of_length_eq_zero hl];exact dM
 |succ n ih=>
  intro l hl hd hh
  obtain⟨l',c,rfl⟩:∃l' c,l=l'++[c]:=by
   rcases List.eq_nil_or_concat l with h| ⟨l',c,h⟩
   ·subst h;simp at hl
   ·exact⟨l',c,by simpa using h⟩
  have hc:=hd c (by simp);have hc10:=yZ hc;have hl':l'.length=n:=by simpa using hl
  rw[gx]
  have hn0:10*num l'+dv c≠0:=by
   cases l' with
   |nil=>
    have h1:=hh c [] rfl;have h3:c.toNat≠48:=fun e=>h1 (UInt8.toNat_inj.1 e)
    unfold dv;unfold cX at hc;omega
   |cons x r=>
    have:=uA (l:=x::r) (fun c hc=>hd c (by simp at hc ⊢;rcases hc with h|h<;>simp[h])) rfl (hh x (r++[c]) rfl);omega
  rw[dA hn0,show(10*num l'+dv c)/10=num l' by omega,show(10*num l'+dv c)%10=dv c by omega,IB hc]
  congr 1
  refine ih l' hl' (fun c hc=>hd c (by simp[hc])) (fun x r e=>?_);subst e;exact hh x (r++[c]) rfl
theorem tR:∀(k n:Nat),n<10^k→(kP n).length≤k
 |0,n,h=>by simp at h;subst h;rw[dM];simp
 |k+1,n,h=>by
  by_cases h0:n=0
  ·subst h0;rw[dM];simp
  ·rw[dA h0,List.length_append]
   have:=tR k (n/10) (by rw[Nat.pow_succ]at h;omega)
   simp;omega
def ic (neg:Bool) (ds:List UInt8):Prop:=ds≠[]∧(∀c∈ds,cX c)∧((∀c r,ds=c::r→c≠48)∨(ds.length=1∧neg=false))
def kg (neg:Bool) (n:Nat):Int:=if neg then -(n:Int)else n
def sg (neg:Bool) (ds:List UInt8):List UInt8:=if neg then 45::ds else ds
theorem Gm {neg:Bool} {ds:List UInt8} (h:ic neg ds):fmt (kg neg (num ds))=sg neg ds:=by
 obtain⟨h1,h2,h3⟩:=h
 by_cases hh:∀c r,ds=c::r→c≠48
 ·obtain⟨c,r,e⟩:∃c r,ds=c::r:=by cases ds with|nil=>exact absurd rfl h1|cons c r=>exact⟨c,r,rfl⟩
  have hp:=uA h2 e (hh c r e);have hdn:=Em _ ds rfl h2 hh;unfold fmt kg sg;cases neg
  ·simp only[Bool.false_eq_true,if_false]
   rw[if_neg (by omega),if_neg (by omega),Int.natAbs_natCast,hdn];rfl
  ·simp only[if_true]
   rw[if_neg (by omega),if_pos (by omega),Int.natAbs_neg,Int.natAbs_natCast,hdn];rfl
 ·rcases h3 with h3| ⟨h3,h4⟩
  ·exact absurd h3 hh
  ·subst h4
   match ds,h3 with
   | [c],_=>
    have hc:c=48:=by
     apply Classical.byContradiction
     intro hne;exact hh fun x r e=>by cases e;exact hne
    subst hc;rfl
theorem AU {neg:Bool} {ds:List UInt8} (hd:∀c∈ds,cX c) (h:fmt (kg neg (num ds))=sg neg ds):ic neg ds:=by
 have h45:neg=false→ ∀l:List UInt8,ds≠45::l:=fun _ l e=>by
  have:=hd 45 (by rw[e];simp);unfold cX at this;have h2:(45:UInt8).toNat=45:=rfl;omega
 by_cases hz:num ds=0
 ·have h0:kg neg (num ds)=0:=by unfold kg;rw[hz];cases neg<;>simp
  rw[h0]at h;have h1:[48]=sg neg ds:=h;unfold sg at h1;cases neg
  ·simp only[Bool.false_eq_true,if_false]at h1
   rw[← h1]at hd ⊢;exact⟨by simp,hd, .inr ⟨rfl,rfl⟩⟩
  ·simp only[if_true,List.cons.injEq]at h1
   exact absurd h1.1 (by decide)
 ·obtain⟨c,r,e,hc⟩:=mh hz
  have key:ds=kP (num ds):=by
   unfold fmt kg sg at h;cases neg
   ·simp only[Bool.false_eq_true,if_false]at h
    rw[if_neg (by omega),if_neg (by omega),Int.natAbs_natCast]at h;exact h.symm
   ·simp only[if_true]at h
    rw[if_neg (by omega),if_pos (by omega),Int.natAbs_neg,Int.natAbs_natCast]at h
    simpa using h.symm
  refine⟨fun e2=>?_,hd, .inl fun x q e2=>?_⟩
  ·rw[← key,e2]at e;cases e
  ·rw[← key,e2]at e;cases e;exact hc
end Go.Proofs.YtikbnnljjeefgaaGreatDoor
namespace Go.Proofs.YtikbnnljjeefgaaGreatDoor
open Go.RowKit
theorem DO {a b:Nat} (h:(digs a).length≤4294967296) (hb0:0<b) (hb1:b<4294967296):ab Tryz.prog 103 [dW (digs a),dN .u32 b] (.tup [dW (digs (a/b)),dN .u32 (a%b:Nat)]):=
 ⟨aB Tryz.func103 rfl rfl,fun S w vs hS hv=>by
  match vs,hv with
  | [v,u],⟨h1,h2,_⟩=>
   obtain rfl:=bM h2;obtain⟨A,n,c,rfl,hx⟩:=gG h1 (aq _);have:=FS A n c b (digs a) w hx (by rw[← hx.len];exact h) hb0 hb1;rw[af]at this;refine this.mono ?_;rintro e w' ⟨A',n',c',rfl,hq,hb⟩;refine⟨_,rfl,⟨[.slice A' n' c', .int .u32 (a%b:Nat)],rfl,rfl,fun i x u h1 h2=>?_⟩,hb⟩
   match i with
   |0=>simp at h1 h2;subst h1 h2;exact od (hS.grow hb) hq
   |1=>simp at h1 h2;subst h1 h2;exact AV.M.val rfl
   |i+2=>simp at h1⟩
section
variable {P:Program} {T:TypeId→Option Ty} {n:Nat} {ops:Array Oper} {id:Nat} {draw:Bool} {K:AS→Prop} {s:AS} {k:Nat} {o:Oper} {os:List Oper} {fps:List FP}
theorem FI (hT:∀t d,T t=some d→b7 P t d) {t t' et:TypeId} {ty ty' te:Ty} {x:Operand} {l:List UInt8} {cs:List AV} (hcs:cs=l.map fun c=>AV.val (.int .u8 c.toNat)) (hl:l≠[]) (h1:gd ops s o=some true) (h2:o.op= .convert t t' x) (h5:T t=some ty) (h6:ty.elem=some (et,1)) (h7:T et=some te) (h8:te.ik=some .u8) (h9:T t'=some ty') (h10:ty'.isStr=true) (h11:s.ev x= .d (.leaf (.sl l.length cs)))
 (h3:bn n o.dst=true) (h4:jr draw ops (a6 ops o ⟨.d (dL l),none⟩ []) k fps=true) (h:aH P T n ops id draw K (k+1) os (s.eff o.dst ⟨.d (dL l),none⟩) (a6 ops o ⟨.d (dL l),none⟩ []::fps)):aH P T n ops id draw K k (o::os) s fps:=by
 refine .run h1 (.gen fun s2 ht _=>?_) h3 h4 h;have hx:=(bd ht (x:=x) (by simp[h2,Op.operands])).trans h11;have hu:=kd (hT _ _ h9) h10;obtain⟨d,hd,_,hel,_⟩:=(hT _ _ h5).und;obtain⟨rfl,_⟩:=hel et 1 h6;obtain⟨d2,hd2,_,_,_,_,_,hik,_⟩:=(hT _ _ h7).und;obtain rfl:=hik _ h8;refine av fun n S0 w0 g a w hM=>⟨vL l,w,?_,Below.refl _ _,AV.M.val rfl⟩
 have hm:=hM.ev x;rw[hx]at hm;have hm:AV.M (Own S0 g s2) w (.sl l.length cs) (a.eval x):=hm;unfold execOp;rw[h2];obtain⟨v,hv⟩:∃v,a.eval x=v:=⟨_,rfl⟩;rw[hv]at hm;cases hm with
 |emp=>
  have:l=[]:=by simpa using hcs.symm
  exact absurd this hl
 |sl f g1 g2 g3 g4 g5 g6=>
  rename_i b off c
  have hc:∀i,i<l.length→w.cell? ⟨b,off+i,none⟩=some (.int .u8 ((l.map fun c=>(c.toNat:Int)).getD i 0)):=by
   intro i hi;have h12:cs[i]? =some (AV.val (.int .u8 (l[i].toNat:Int))):=by rw[hcs];simp[hi]
   rw[g5 i _ h12,bM (g6 i _ h12)]
   simp[hi]
  simp only[hv,Sem.run_bind,run_convert_bytes_arg w t et hd hd2 b off l.length c (l.map fun c=>(c.toNat:Int)) (by simp) hc t' hu,Result.andThen_ok,Sem.run_pure]
  have:strOfNums (l.map fun c=>(c.toNat:Int))=Bs l:=by
   unfold strOfNums Bs
   congr 2
   rw[List.map_map]
   conv=>rhs;rw[← List.map_id l]
   apply List.map_congr_left
   intro x _
   simp
  rw[this];rfl
end
theorem tn {na:Bool} {xs:List Nat} (hw:Wd xs) {z:Int} (hxz:ak na xs=z) (hz:ew z):ab Tryz.prog 67 [dI na xs] (.one (dL (fmt z))):=by
 have hN:(kP z.natAbs).length≤42949672960:=by
  have h1:=co (Nat.le_refl (digs z.natAbs).length);refine Nat.le_trans (tR (10*(digs z.natAbs).length) _ (Nat.lt_of_lt_of_le h1 ?_)) (by unfold ew at hz;omega);rw[Nat.pow_mul];exact Nat.pow_le_pow_left (by decide) _
 refine kU aa ac Tryz.func67 ?_;refine kW ?_;refine kQ (yG (na:=na) hw hxz) ?_;refine bh (Nat × List UInt8) (fun p=>kP z.natAbs=kP p.1++p.2∧(digs p.1).length≤2147483648) (fun p=>⟨[(1, .box 0 0),(3, .d (dL p.2)),(4, .d (dW (digs p.1)))],[(0,some (aZ z))]⟩) (fun p=>p.1) (z.natAbs,[]) ⟨by simp,hz⟩ (weak ⟨rfl,rfl,rfl,trivial⟩ ⟨rfl,trivial⟩ rfl) ?_;rintro⟨a,t⟩ ⟨ha,hl⟩;dsimp only at ha hl ⊢;refine kW ?_;refine fS rfl (fun h=>?_) (fun h=>?_)
 ·have h0:a≠0:=fun e=>by rw[e,aD]at h;exact absurd h (by decide)
  have hdl:=congrArg List.length ha;rw[dA h0]at hdl
  simp only[List.length_append,List.length_cons,List.length_nil]at hdl
  have hm10:a%10<10:=Nat.mod_lt _ (by decide)
  refine bT ?_;refine kW ?_;refine DP (DO (b:=10) (Nat.le_trans hl (by decide)) (by decide) (by decide)) rfl rfl rfl rfl rfl rfl rfl ?_;refine kW ?_
  have hcv:(Value.int .u8 (IntKind.u8.wrap (IntKind.u32.wrap (48+((a%10:Nat):Int)))):Value)= .int .u8 ((dg (a%10)).toNat:Int):=by
   rw[IntWalk.u32_in _ (by omega),IntWalk.u8_in _ (by omega),mg hm10];rfl
  refine FI aa (l:=[dg (a%10)]) (congrArg (fun v=>[AV.val v]) hcv) (by simp) rfl rfl rfl rfl rfl rfl rfl rfl rfl rfl rfl ?_;refine kO ?_;refine aO rfl rfl rfl rfl rfl rfl rfl (ek (a:=[dg (a%10)]) (b:=t) (by simp;omega)) ?_;refine kW ?_;refine⟨(a/10,dg (a%10)::t),⟨?_,?_⟩,?_,weak ⟨rfl,rfl,rfl,trivial⟩ ⟨rfl,trivial⟩ rfl⟩
  ·rw[ha,dA h0];simp
  ·exact Nat.le_trans (dp (Nat.div_le_self _ _)) hl
  ·dsimp only;omega
 ·have h0:a=0:=by
   have:=of_decide_eq_false h;exact b8.1 (by omega)
  subst h0;rw[dM,List.nil_append]at ha;refine eN ?_;refine aJ ?_;refine aJ ?_;refine ax rfl ?_;refine kO ?_;refine aO rfl rfl rfl rfl rfl rfl rfl (jb (b:=[])) ?_;refine kW ?_
  by_cases hz0:z=0
  ·have ht:t=[]:=by rw[← ha,hz0];exact dM
   subst hz0;refine eX (T:=TT) rfl ?_ ?_
   ·exact decide_eq_true ht
   exact kF
  ·have ht:t≠[]:=by
    rw[← ha,dA (by omega)]
    simp
   refine dC (T:=TT) rfl ?_ ?_
   ·exact decide_eq_false ht
   refine bT ?_;refine kW ?_;refine fS rfl (fun h=>?_) (fun h=>?_)
   ·have hneg:=of_decide_eq_true h
    refine aJ ?_;refine ax rfl ?_;refine kO ?_;refine aO rfl rfl rfl rfl rfl rfl rfl (ek (a:=[45]) (b:=t) (by rw[← ha];simp;omega)) ?_;refine kW ?_
    have hf:fmt z=[45]++t:=by
     unfold fmt;rw[if_neg hz0,if_pos hneg,ha]
    rw[hf];exact bL (T:=TT) rfl rfl
   ·have hneg:=of_decide_eq_false h
    refine bT ?_;refine kW ?_
    have hf:fmt z=t:=by
     unfold fmt;rw[if_neg hz0,if_neg hneg,ha];rfl
    rw[hf];exact bL (T:=TT) rfl rfl
theorem lG {z:Int} (hz:ew z):ab Tryz.prog 67 [dZ z] (.one (dL (fmt z))):=tn (aq _) (aN z) hz
end Go.Proofs.YtikbnnljjeefgaaGreatDoor
namespace Go.Proofs.YtikbnnljjeefgaaGreatDoor
open Go.RowKit
def jP:List UInt8→List UInt8→List UInt8
 | [],_=>[]
 | [c],o=>if c=34 then o else []
 |c::d::r,o=>if c=34 then o else if c.toNat<32 then []else if c=92 then(if Lib.indexByte [34,92,110] d<0 then []else jP r (o++[if d=110 then 10 else d]))else jP (d::r) (o++[c])
theorem GF {r o:List UInt8}:jP (34::r) o=o:=by cases r<;>simp[jP]
theorem Dz {c:UInt8} {r o:List UInt8} (h:c≠34) (h':c.toNat<32):jP (c::r) o=[]:=by cases r<;>simp[jP,h,h']
theorem BS {c:UInt8} {o:List UInt8} (h:c≠34):jP [c] o=[]:=by simp[jP,h]
theorem CY {d:UInt8} {r o:List UInt8}:jP (92::d::r) o=if Lib.indexByte [34,92,110] d<0 then []else jP r (o++[if d=110 then 10 else d]):=by simp[jP]
theorem E6 {c:UInt8} {r o:List UInt8} (h:c≠34) (h':¬c.toNat<32) (h2:c≠92):jP (c::r) o=jP r (o++[c]):=by
 cases r with
 |nil=>simp[jP,h]
 |cons d r=>simp[jP,h,h',h2]
theorem uY:∀(n:Nat) (s:List UInt8) (i:Nat),s.length≤n→eW s i=0∨i<eW s i:=by
 intro n
 induction n using Nat.strongRecOn with
 |_ n ih=>
  intro s i h
  match s,h with
  | [],_=>simp[eW]
  | [c],_=>simp only[eW];split <;>simp
  |c::d::r,h=>
   simp at h
   simp only[eW]
   split
   ·simp
   ·split
    ·simp
    ·split
     ·split
      ·simp
      ·rcases ih (n-2) (by omega) r (i+2) (by omega)with h|h
       ·exact .inl h
       ·exact .inr (by omega)
     ·rcases ih (n-1) (by omega) (d::r) (i+1) (by simp;omega)with h|h
      ·exact .inl h
      ·exact .inr (by omega)
end Go.Proofs.YtikbnnljjeefgaaGreatDoor
namespace Go.Proofs.YtikbnnljjeefgaaGreatDoor
def bU:List UInt8→Bool
 |c::_=>c == 45
 | []=>false
def dx:List UInt8→List UInt8
 |c::r=>if c == 45 then r else c::r
 | []=>[]
theorem Er (s:List UInt8):sg (bU s) (dx s)=s:=by
 cases s with
 |nil=>rfl
 |cons c r=>
  unfold sg bU dx
  by_cases h:c=45
  ·subst h;rfl
  ·have:(c == 45)=false:=beq_eq_false_iff_ne.2 h
   simp[this]
theorem ll (s:List UInt8):(dx s).length≤s.length:=by
 cases s with
 |nil=>exact Nat.le_refl _
 |cons c r=>show(if(c == 45)=true then r else c::r).length≤_;split <;>simp
theorem GN (s:List UInt8):decide ((dx s).length<s.length)=bU s:=by
 cases s with
 |nil=>rfl
 |cons c r=>
  unfold dx bU
  by_cases h:c=45
  ·subst h;simp
  ·have:(c == 45)=false:=beq_eq_false_iff_ne.2 h
   simp[this]
theorem pe:∀(n:Nat) (l:List UInt8),l.length=n→(∀c∈l,cX c)→num l<10^n:=by
 intro n
 induction n with
 |zero=>intro l hl _;rw[List.eq_nil_of_length_eq_zero hl];decide
 |succ n ih=>
  intro l hl hd
  obtain⟨l',c,rfl⟩:∃l' c,l=l'++[c]:=by
   rcases List.eq_nil_or_concat l with h| ⟨l',c,h⟩
   ·subst h;simp at hl
   ·exact⟨l',c,by simpa using h⟩
  have:=ih l' (by simpa using hl) (fun c hc=>hd c (by simp[hc]));have hc:=yZ (hd c (by simp));rw[gx,Nat.pow_succ];omega
theorem yP {l:List UInt8} (hd:∀c∈l,cX c):(digs (num l)).length≤l.length:=by
 refine aL (Nat.lt_of_lt_of_le (pe _ l rfl hd) ?_);exact Nat.pow_le_pow_left (by decide) _
theorem xQ {n k:Nat} (h:(digs n).length≤k) {m:Nat} (hm:m≤10*n+10):(digs m).length≤k+1:=by
 refine aL (Nat.lt_of_le_of_lt hm ?_);have:=co h;rw[Nat.pow_succ];omega
def FM (s:List UInt8):Prop:=s.length≤65536∧ic (bU s) (dx s)
open Classical in
noncomputable def pz (s:List UInt8):Int × Int:=if FM s then(kg (bU s) (num (dx s)),0)else(0,2)
theorem DX {s:List UInt8} (h:FM s):pz s=(kg (bU s) (num (dx s)),0):=by unfold pz;rw[if_pos h]
theorem jy {s:List UInt8} (h:¬FM s):pz s=(0,2):=by unfold pz;rw[if_neg h]
theorem e0:aZ 0=[.val (.bool false), .sl 0 []]:=by
 unfold aZ aI aW;rw[show(0:Int).natAbs=0 from rfl,aD];rfl
end Go.Proofs.YtikbnnljjeefgaaGreatDoor
namespace Go.Proofs.YtikbnnljjeefgaaGreatDoor
def dk:Nat→Nat→List UInt8
 |0,_=>[]
 |k+1,c=>dk k (c/10)++[dg (c%10)]
def dd (c:Nat):List UInt8:=if c=0 then [48]else kP c
theorem At (k m c:Nat) (hm:0<m) (hc:c<10^k):kP (m*10^k+c)=kP m++dk k c:=by
 induction k generalizing c with
 |zero=>simp at hc;subst hc;simp[dk]
 |succ k ih=>
  rw[Nat.pow_succ]at hc;have hp:0<10^k:=Nat.pow_pos (by decide)
  have hmp:0<m*10^k:=Nat.mul_pos hm hp
  have e:m*10^(k+1)+c=10*(m*10^k)+c:=by rw[Nat.pow_succ,← Nat.mul_assoc,Nat.mul_comm]
  rw[e,dA (by omega),show(10*(m*10^k)+c)/10=m*10^k+c/10 by omega,show(10*(m*10^k)+c)%10=c%10 by omega,ih (c/10) (by omega),dk,List.append_assoc]
theorem Fg (k:Nat):dk k 0=List.replicate k 48:=by
 induction k with
 |zero=>rfl
 |succ k ih=>rw[dk,Nat.zero_div,ih,List.replicate_succ'];rfl
theorem qR {c:Nat} (h:c<10):dd c=[dg c]:=by
 unfold dd
 by_cases h0:c=0
 ·subst h0;rfl
 ·rw[if_neg h0,dA h0,show c/10=0 by omega,dM,show c%10=c by omega];rfl
theorem Dj {c:Nat} (h:10≤c):dd c=dd (c/10)++[dg (c%10)]:=by
 unfold dd;rw[if_neg (by omega),if_neg (by omega),dA (by omega)]
theorem F5 (k:Nat):∀c,c<10^(k+1)→(dd c).length≤k+1∧dk (k+1) c=List.replicate (k+1-(dd c).length) 48++dd c:=by
 induction k with
 |zero=>
  intro c hc;have:c<10:=by simpa using hc
  rw[qR this,dk,dk,show c%10=c by omega];exact⟨Nat.le_refl _,rfl⟩
 |succ k ih=>
  intro c hc
  by_cases h:c<10
  ·rw[qR h,dk,show c/10=0 by omega,Fg,show c%10=c by omega]
   exact⟨by simp,by simp⟩
  ·rw[Nat.pow_succ]at hc
   obtain⟨h1,h2⟩:=ih (c/10) (by omega);rw[Dj (by omega),dk,h2,List.length_append,List.length_singleton];refine⟨by omega,?_⟩;rw[show k+1+1-((dd (c/10)).length+1)=k+1-(dd (c/10)).length by omega,List.append_assoc]
theorem mr (u:Nat):Lib.decDigits u=dd u:=by
 induction u using Nat.strongRecOn with
 |_ u ih=>
  by_cases h:u<10
  ·rw[Lib.decDigits,dif_pos h,qR h];rfl
  ·rw[Lib.decDigits,dif_neg h,Dj (by omega),ih _ (by omega)];rfl
def rD (c:Nat):List UInt8:=List.replicate (9-(dd c).length) 48++dd c
theorem xP (m c:Nat) (hm:0<m) (hc:c<1000000000):kP (m*1000000000+c)=kP m++rD c:=by
 have h:=At 9 m c hm (by simpa using hc);rw[show(10:Nat)^9=1000000000 from rfl]at h;rw[h,(F5 8 c (by simpa using hc)).2];rfl
theorem uf {c:Nat} (hc:c<1000000000):1≤(dd c).length∧(dd c).length≤9:=by
 refine⟨?_,(F5 8 c (by simpa using hc)).1⟩;unfold dd
 by_cases h0:c=0
 ·rw[if_pos h0];exact Nat.le_refl _
 ·rw[if_neg h0,dA h0];simp
def ch (n:Nat):List Nat:=if _h:n=0 then []else n%1000000000::ch (n/1000000000)
termination_by n
decreasing_by omega
theorem kM:ch 0=[]:=by rw[ch];simp
theorem qx {n:Nat} (h:n≠0):ch n=n%1000000000::ch (n/1000000000):=by rw[ch];simp[h]
def Hn:List Nat→List UInt8
 | []=>[]
 |c::r=>dd c++r.flatMap rD
theorem DR {l:List Nat} (h:l≠[]) (c:Nat):Hn (l++[c])=Hn l++rD c:=by
 cases l with
 |nil=>exact absurd rfl h
 |cons a r=>simp[Hn,List.flatMap_append]
theorem Ea:∀(k n:Nat),n<1000000000^k→(ch n).length≤k
 |0,n,h=>by simp at h;subst h;rw[kM];simp
 |k+1,n,h=>by
  by_cases h0:n=0
  ·subst h0;rw[kM];simp
  ·rw[qx h0]
   have:=Ea k (n/1000000000) (by rw[Nat.pow_succ]at h;omega)
   simp;omega
theorem Im (n:Nat):∀c∈ch n,c<1000000000:=by
 induction n using Nat.strongRecOn with
 |_ n ih=>
  by_cases h:n=0
  ·subst h;rw[kM];simp
  ·rw[qx h]
   intro c hc;rcases List.mem_cons.1 hc with rfl|hc
   ·omega
   ·exact ih _ (by omega) c hc
theorem mR {xs:List Nat} (hw:Wd xs):(ch (val xs)).length≤2*xs.length:=by
 refine Ea _ _ (Nat.lt_of_lt_of_le (f9 hw) ?_);rw[Nat.pow_mul];exact Nat.pow_le_pow_left (by decide) _
theorem FW {n:Nat} (h:n≠0):ch n≠[]:=by rw[qx h];simp
theorem Gr (n:Nat):Hn (ch n).reverse=kP n:=by
 induction n using Nat.strongRecOn with
 |_ n ih=>
  by_cases h:n=0
  ·subst h;rw[kM,dM];rfl
  ·rw[qx h,List.reverse_cons]
   by_cases h1:n/1000000000=0
   ·rw[h1,kM]
    have:n%1000000000=n:=by omega
    rw[this];show dd n++[]=_;rw[List.append_nil];unfold dd;rw[if_neg h]
   ·rw[DR (by simpa using FW h1),ih _ (by omega),← xP _ _ (by omega) (by omega)]
    congr 1
    omega
theorem GH {k:Nat} (h:k<10):cX (dg k):=by
 unfold cX;rw[mg h];omega
theorem Fz (n:Nat):∀c∈kP n,cX c:=by
 induction n using Nat.strongRecOn with
 |_ n ih=>
  by_cases h:n=0
  ·subst h;rw[dM];simp
  ·rw[dA h]
   intro c hc;rcases List.mem_append.1 hc with hc|hc
   ·exact ih _ (by omega) c hc
   ·rw[List.mem_singleton]at hc;rw[hc];exact GH (by omega)
theorem EY (n:Nat):num (kP n)=n:=by
 induction n using Nat.strongRecOn with
 |_ n ih=>
  by_cases h:n=0
  ·subst h;rw[dM];rfl
  ·rw[dA h,gx,ih _ (by omega)]
   unfold dv;rw[mg (by omega)];omega
end Go.Proofs.YtikbnnljjeefgaaGreatDoor
namespace Go.Proofs.YtikbnnljjeefgaaGreatDoor
open Go.RowKit
theorem kZ {a b:Int} (h1:ew a) (h2:ew b) {g:Nat} (hg:Nat.gcd a.natAbs b.natAbs=g):ab Tryz.prog 131 [dZ a,dZ b] (.one (dZ g)):=by
 have:=uW (na:=decide (a<0)) (nb:=decide (b<0)) (aq a.natAbs) (aq b.natAbs) h1 h2;rw[af,af,hg]at this;exact this
theorem tW {a b q r:Int} (h1:ew a) (h2:ew b) (h0:b≠0) (hq:a.fdiv b=q) (hr:a.fmod b=r):ab Tryz.prog 193 [dZ a,dZ b] (.tup [dZ q,dZ r,dN .i64 0]):=
 wL (aq _) (aq _) h1 h2 (by rw[aN];exact h0) (by rw[aN,aN];exact hq) (by rw[aN,aN];exact hr)
theorem fv {a b:Int} (h1:ew a) (h2:ew b) {g:Nat} (hg:Nat.gcd a.natAbs b.natAbs=g):ab Tryz.prog 98 [dZ a,dZ b] (.one (dZ g)):=by
 have:=sc (na:=decide (a<0)) (nb:=decide (b<0)) (aq a.natAbs) (aq b.natAbs) h1 h2;rw[af,af,hg]at this;exact this
theorem rC {a b q r:Int} (h1:ew a) (h2:ew b) (h0:b≠0) (hq:a.fdiv b=q) (hr:a.fmod b=r):ab Tryz.prog 149 [dZ a,dZ b] (.tup [dZ q,dZ r,dN .i64 0]):=
 uB (aq _) (aq _) h1 h2 (by rw[aN];exact h0) (by rw[aN,aN];exact hq) (by rw[aN,aN];exact hr)
theorem Ae {a:Int} {k K:Nat} (hk:k≤4096) (hK:K≤2147483648) (hb:(max 1 a.natAbs)^k<4294967296^K) (h1:ew a) {z:Int} (hz:a^k=z):ab Tryz.prog 237 [dZ a,dN .i64 k] (.tup [dZ z,dN .i64 0]):=
 ⟨aB Tryz.func237 rfl rfl,fun S w vs hS hv=>by
  match vs,hv with
  | [v,u],⟨h,h3,_⟩=>
   obtain rfl:=bM h3;have:=Ir v _ _ k K w (ye h) hk hK (by rw[af];exact hb) h1;rw[aN,hz]at this;exact this.mono fun e w' he=>Gv hS he⟩
end Go.Proofs.YtikbnnljjeefgaaGreatDoor
namespace Go.Proofs.YtikbnnljjeefgaaGreatDoor
theorem Cs {q:Rat} {n:Int} {d:Nat} (hd:0<d) (hc:Nat.gcd n.natAbs d=1) (h:n*q.den=q.num*d):q.num=n∧q.den=d:=by
 have hp:(⟨n,d,by omega,hc⟩:Rat)=q:=by
  have h1:=Rat.num_divInt_den (⟨n,d,by omega,hc⟩:Rat);have h2:=Rat.num_divInt_den q;rw[← h1,← h2,Rat.divInt_eq_divInt_iff (by show(d:Int)≠0;omega) (by have:=q.den_nz;omega)];exact h
 exact⟨by rw[← hp],by rw[← hp]⟩
def gz (n d:Int):Int:=if d<0 then -((Nat.gcd n.natAbs d.natAbs:Nat):Int)else(Nat.gcd n.natAbs d.natAbs:Nat)
theorem zn {n d:Int} (h:d≠0):gz n d≠0:=by
 have:0<Nat.gcd n.natAbs d.natAbs:=Nat.gcd_pos_of_pos_right _ (by omega)
 unfold gz;split <;>omega
theorem oi {a b c:Int} (h:b≠0) (e:a=b*c):a.fdiv b=c:=by rw[e];exact Int.mul_fdiv_cancel_left _ h
theorem mP {n d:Int} (hd:d≠0):n.fdiv (gz n d)=(Rat.divInt n d).num∧d.fdiv (gz n d)=((Rat.divInt n d).den:Int)∧n=gz n d*(Rat.divInt n d).num∧d=gz n d*((Rat.divInt n d).den:Int):=by
 have hg0:=zn (n:=n) hd;obtain⟨a,ha⟩:((Nat.gcd n.natAbs d.natAbs:Nat):Int)∣n:=Int.ofNat_dvd_left.2 (Nat.gcd_dvd_left _ _);obtain⟨b,hb⟩:((Nat.gcd n.natAbs d.natAbs:Nat):Int)∣d:=Int.ofNat_dvd_left.2 (Nat.gcd_dvd_right _ _);have hp:0<Nat.gcd n.natAbs d.natAbs:=Nat.gcd_pos_of_pos_right _ (by omega)
 obtain⟨G,hG⟩:∃G,Nat.gcd n.natAbs d.natAbs=G:=⟨_,rfl⟩;have hG':=hG;rw[hG]at ha hb hp
 have hab:Nat.gcd a.natAbs b.natAbs=1:=by
  rw[ha,hb,Int.natAbs_mul,Int.natAbs_mul,Int.natAbs_natCast,Nat.gcd_mul_left]at hG;exact Nat.eq_of_mul_eq_mul_left hp (by omega)
 obtain⟨s,hs1,hs2⟩:∃s:Int,gz n d=G*s∧(s=1∧0<b∨s= -1∧b<0):=by
  unfold gz;rw[hG'];have hb0:b≠0:=by rintro rfl;simp at hb;omega
  split
  ·refine⟨-1,by omega, .inr ⟨rfl,?_⟩⟩
   rcases Int.lt_trichotomy b 0 with h|h|h
   ·exact h
   ·omega
   ·have:0<(G:Int)*b:=Int.mul_pos (by omega) h
    omega
  ·refine⟨1,by omega, .inl ⟨rfl,?_⟩⟩
   rcases Int.lt_trichotomy b 0 with h|h|h
   ·have:0<(G:Int)*(-b):=Int.mul_pos (by omega) (by omega)
    rw[Int.mul_neg]at this;omega
   ·omega
   ·exact h
 have hq:(Rat.divInt n d).num=s*a∧(Rat.divInt n d).den=(s*b).toNat:=by
  refine Cs ?_ ?_ ?_
  ·rcases hs2 with⟨rfl,h⟩| ⟨rfl,h⟩<;>omega
  ·have e:(s*b).toNat=b.natAbs:=by rcases hs2 with⟨rfl,h⟩| ⟨rfl,h⟩<;>omega
   have e2:(s*a).natAbs=a.natAbs:=by rcases hs2 with⟨rfl,h⟩| ⟨rfl,h⟩<;>omega
   rw[e,e2,hab]
  ·have h1:=Rat.num_divInt_den (Rat.divInt n d)
   have h0:((Rat.divInt n d).den:Int)≠0:=by have:=(Rat.divInt n d).den_nz;omega
   have h2:=(Rat.divInt_eq_divInt_iff h0 hd).1 h1
   have h3:((s*b).toNat:Int)=s*b:=by
    have:0≤s*b:=by rcases hs2 with⟨rfl,h⟩| ⟨rfl,h⟩<;>omega
    omega
   rw[h3];generalize(Rat.divInt n d).num=p at *;generalize((Rat.divInt n d).den:Int)=q at *;rw[ha,hb]at h2
   have h4:(G:Int)*(p*b)=G*(a*q):=by
    rw[← Int.mul_assoc,Int.mul_comm (G:Int) p,Int.mul_assoc,h2,Int.mul_assoc]
   have h5:=Int.eq_of_mul_eq_mul_left (by omega) h4;rw[Int.mul_assoc,← h5]
   simp[Int.mul_left_comm,Int.mul_comm]
 have hss:s*s=1:=by rcases hs2 with⟨rfl,_⟩| ⟨rfl,_⟩<;>rfl
 have e1:n=gz n d*(Rat.divInt n d).num:=by
  rw[hs1,hq.1,Int.mul_assoc,← Int.mul_assoc s s a,hss,Int.one_mul];exact ha
 have e2:d=gz n d*((Rat.divInt n d).den:Int):=by
  have h3:((s*b).toNat:Int)=s*b:=by
   have:0≤s*b:=by rcases hs2 with⟨rfl,h⟩| ⟨rfl,h⟩<;>omega
   omega
  rw[hs1,hq.2,h3,Int.mul_assoc,← Int.mul_assoc s s b,hss,Int.one_mul];exact hb
 exact⟨oi hg0 e1,oi hg0 e2,e1,e2⟩
theorem kp (q:Rat):Rat.divInt q.num q.den=q:=Rat.num_divInt_den q
theorem eU (q:Rat):0<(q.den:Int):=by have:=q.den_nz;omega
theorem yj (a b:Rat):Rat.divInt (a.num*b.den+b.num*a.den) (a.den*b.den)=a+b:=by
 have h:=Rat.divInt_add_divInt a.num b.num (d₁:=a.den) (d₂:=b.den) (by have:=eU a;omega) (by have:=eU b;omega);rw[Rat.num_divInt_den,Rat.num_divInt_den]at h;exact h.symm
theorem l7 (a b:Rat):Rat.divInt (a.num*b.num) (a.den*b.den)=a*b:=by
 have h:=Rat.divInt_mul_divInt a.num b.num (d₁:=a.den) (d₂:=b.den);rw[Rat.num_divInt_den,Rat.num_divInt_den]at h;exact h.symm
theorem xu (a b:Rat):Rat.divInt (a.num*b.den) (a.den*b.num)=a/b:=by
 rw[Rat.div_def,Rat.inv_def];have h:=Rat.divInt_mul_divInt a.num b.den (d₁:=a.den) (d₂:=b.num);rw[Rat.num_divInt_den]at h;exact h.symm
theorem xY {q:Rat} {n:Int} (h:q=n):q.num=n∧q.den=1:=by subst h;exact⟨rfl,rfl⟩
theorem sx {q:Rat} (h:q.den=1):q=(q.num:Rat):=Rat.ext rfl h
theorem mT {a b:Rat} (ha:a.den=1) (hb:b.den=1):(a*b).num=a.num*b.num∧(a*b).den=1:=by
 refine xY ?_;rw[sx ha,sx hb]
 simp
theorem Fu (a b:Rat):(a*b).num=(a.num/(Nat.gcd a.num.natAbs b.den:Nat))*(b.num/(Nat.gcd b.num.natAbs a.den:Nat))∧(a*b).den=(a.den/Nat.gcd b.num.natAbs a.den)*(b.den/Nat.gcd a.num.natAbs b.den):=by
 show(Rat.mul a b).num=_∧(Rat.mul a b).den=_;rw[Rat.mul.eq_1]
 simp only[Int.divExact_eq_ediv,Nat.divExact_eq_div]
 exact⟨trivial,trivial⟩
def BH (q:Rat):Int:=q.num.sign
theorem A0 {n d:Int} (h:0<d):BH (Rat.divInt n d)=n.sign:=by
 unfold BH;obtain⟨_,_,h1,h2⟩:=mP (n:=n) (d:=d) (by omega)
 have hg:0<gz n d:=by
  have:=Nat.gcd_pos_of_pos_right n.natAbs (show 0<d.natAbs by omega);unfold gz;rw[if_neg (by omega)];omega
 rw[h1,Int.sign_mul,Int.sign_eq_one_of_pos hg,Int.one_mul];rw[← h1]
end Go.Proofs.YtikbnnljjeefgaaGreatDoor
namespace Go.Proofs.YtikbnnljjeefgaaGreatDoor
def re (c:UInt8):Bool:=decide (cX c)
theorem iY {c:UInt8}:re c=true↔cX c:=decide_eq_true_iff
def ey (t:List UInt8):List UInt8:=t.takeWhile re
def iw (t:List UInt8):List UInt8:=t.dropWhile re
theorem ii (t:List UInt8):ey t++iw t=t:=List.takeWhile_append_dropWhile
theorem kb (t:List UInt8):∀c∈ey t,cX c:=fun c hc=>iY.1 (List.all_eq_true.1 (List.all_takeWhile (p:=re) (l:=t)) c hc)
theorem g8 {a b:List UInt8} (h:∀c∈a,cX c):ey (a++b)=a++ey b∧iw (a++b)=iw b:=by
 induction a with
 |nil=>exact⟨rfl,rfl⟩
 |cons x a ih=>
  have hx:=iY.2 (h x (by simp));obtain⟨h1,h2⟩:=ih (fun c hc=>h c (by simp[hc]));unfold ey iw at *;rw[List.cons_append,List.takeWhile_cons_of_pos hx,List.dropWhile_cons_of_pos hx,h1,h2];exact⟨rfl,rfl⟩
theorem gX {c:UInt8} {b:List UInt8} (h:¬cX c):ey (c::b)=[]∧iw (c::b)=c::b:=by
 have hc:¬re c=true:=fun e=>h (iY.1 e)
 unfold ey iw;exact⟨List.takeWhile_cons_of_neg hc,List.dropWhile_cons_of_neg hc⟩
theorem nN {a:List UInt8} (h:∀c∈a,cX c):ey a=a∧iw a=[]:=by
 have:=g8 (b:=[]) h
 simpa[ey,iw]using this
theorem AH {t:List UInt8} {c:UInt8} {b:List UInt8} (h:iw t=c::b):¬cX c:=by
 intro hc;unfold iw at h;have:=List.head?_dropWhile_not (p:=re) (l:=t);rw[h]at this
 simp[iY.2 hc]at this
theorem qh {a:List UInt8} (h:¬∀c∈a,cX c):∃p c r,a=p++c::r∧(∀x∈p,cX x)∧ ¬cX c:=by
 have e:=ii a;cases hr:iw a with
 |nil=>
  rw[hr,List.append_nil]at e;exact absurd (fun c hc=>kb a c (by rw[e];exact hc)) h
 |cons c r=>exact⟨ey a,c,r,by rw[← hr,e],kb a,AH hr⟩
open Classical in
noncomputable def eZ (t:List UInt8):Option Rat:=
 if ic false (ey t)then
  match iw t with
  | []=>some ((num (ey t):Int):Rat)
  |c::b=>
   if c=46 then(if b≠[]∧(∀x∈b,cX x)then some (Rat.divInt ((num (ey t)*10^b.length+num b:Nat):Int) ((10^b.length:Nat):Int))else none)
   else if c=47 then(if ic false b∧num b≠0∧num b≠1∧Nat.gcd (num (ey t)) (num b)=1 then some (Rat.divInt (num (ey t):Int) (num b:Int))else none)
   else none
 else none
theorem C6:¬cX 47:=by decide
theorem GU:¬cX 46:=by decide
theorem eC {a:List UInt8} (h:ic false a):∀c∈a,cX c:=h.2.1
open Classical in
theorem Au {a b:List UInt8} (ha:47 ∉ a):eZ (a++47::b)=if ic false a∧ic false b∧num b≠0∧num b≠1∧Nat.gcd (num a) (num b)=1 then some (Rat.divInt (num a:Int) (num b:Int))else none:=by
 by_cases h:∀c∈a,cX c
 ·have h1:=g8 (b:=47::b) h
  obtain⟨h2,h3⟩:=gX (b:=b) C6;rw[h2,h3,List.append_nil]at h1;unfold eZ;rw[h1.1,h1.2]
  by_cases ho:ic false a
  ·rw[if_pos ho]
   dsimp only;rw[if_neg (by decide),if_pos rfl]
   by_cases hb:ic false b∧num b≠0∧num b≠1∧Nat.gcd (num a) (num b)=1
   ·rw[if_pos hb,if_pos ⟨ho,hb⟩]
   ·rw[if_neg hb,if_neg (fun h=>hb h.2)]
  ·rw[if_neg ho,if_neg (fun h=>ho h.1)]
 ·rw[if_neg (fun e=>h (eC e.1))]
  obtain⟨p,c,r,rfl,hp,hc⟩:=qh h;have h1:=g8 (b:=c::(r++47::b)) hp;obtain⟨h2,h3⟩:=gX (b:=r++47::b) hc;rw[h2,h3,List.append_nil]at h1;unfold eZ;rw[show p++c::r++47::b=p++c::(r++47::b) by simp,h1.1,h1.2]
  split
  ·dsimp only
   split
   ·rw[if_neg (fun e=>C6 (e.2 47 (by simp)))]
   ·rw[if_neg (fun e=>ha (by rw[e];simp))]
  ·rfl
open Classical in
theorem zA {a b:List UInt8} (h47:47 ∉ a++46::b) (ha:46 ∉ a):eZ (a++46::b)=if ic false a∧b≠[]∧(∀x∈b,cX x)then some (Rat.divInt ((num a*10^b.length+num b:Nat):Int) ((10^b.length:Nat):Int))else none:=by
 by_cases h:∀c∈a,cX c
 ·have h1:=g8 (b:=46::b) h
  obtain⟨h2,h3⟩:=gX (b:=b) GU;rw[h2,h3,List.append_nil]at h1;unfold eZ;rw[h1.1,h1.2]
  by_cases ho:ic false a
  ·rw[if_pos ho]
   dsimp only;rw[if_pos rfl]
   by_cases hb:b≠[]∧(∀x∈b,cX x)
   ·rw[if_pos hb,if_pos ⟨ho,hb⟩]
   ·rw[if_neg hb,if_neg (fun h=>hb h.2)]
  ·rw[if_neg ho,if_neg (fun h=>ho h.1)]
 ·rw[if_neg (fun e=>h (eC e.1))]
  obtain⟨p,c,r,rfl,hp,hc⟩:=qh h;have h1:=g8 (b:=c::(r++46::b)) hp;obtain⟨h2,h3⟩:=gX (b:=r++46::b) hc;rw[h2,h3,List.append_nil]at h1;unfold eZ;rw[show p++c::r++46::b=p++c::(r++46::b) by simp,h1.1,h1.2]
  split
  ·dsimp only
   rw[if_neg (fun e=>ha (by rw[e];simp)),if_neg (fun e=>h47 (by rw[e];simp))]
  ·rfl
open Classical in
theorem u7 {a:List UInt8} (h47:47 ∉ a) (h46:46 ∉ a):eZ a=if ic false a then some ((num a:Int):Rat)else none:=by
 by_cases h:∀c∈a,cX c
 ·have h1:=nN h
  unfold eZ;rw[h1.1,h1.2]
 ·rw[if_neg (fun e=>h (eC e))]
  obtain⟨p,c,r,rfl,hp,hc⟩:=qh h;have h1:=g8 (b:=c::r) hp;obtain⟨h2,h3⟩:=gX (b:=r) hc;rw[h2,h3,List.append_nil]at h1;unfold eZ;rw[h1.1,h1.2]
  split
  ·dsimp only
   rw[if_neg (fun e=>h46 (by rw[e];simp)),if_neg (fun e=>h47 (by rw[e];simp))]
  ·rfl
open Classical in
noncomputable def bF (s:List UInt8):Option Rat:=
 if s.length≤65536 then
  match eZ (dx s)with
  |none=>none
  |some q=>if bU s=true then(if q=0 then none else some (-q))else some q
 else none
def lr (n:Nat):List UInt8:=if n=0 then [48]else kP n
theorem EM (n:Nat):fmt (n:Int)=lr n:=by
 unfold fmt lr
 by_cases h:n=0
 ·subst h;rfl
 ·rw[if_neg (by omega),if_neg h,if_neg (by omega),Int.natAbs_natCast];rfl
theorem Bw (z:Int):fmt z=(if z<0 then [45]else [])++lr z.natAbs:=by
 unfold fmt lr
 by_cases h:z=0
 ·subst h;rfl
 ·rw[if_neg h,if_neg (show ¬z.natAbs=0 by omega)]
theorem uV (n:Nat):∀c∈lr n,cX c:=by
 unfold lr
 split
 ·intro c hc;simp at hc;subst hc;decide
 ·exact Fz n
theorem En (n:Nat):ic false (lr n):=by
 refine⟨?_,uV n,?_⟩
 ·unfold lr;split
  ·simp
  ·rename_i h;obtain⟨c,r,e,_⟩:=mh h;rw[e];simp
 ·unfold lr;split
  ·exact .inr ⟨rfl,rfl⟩
  ·rename_i h;obtain⟨c,r,e,hc⟩:=mh h
   exact .inl fun x y e2=>by rw[e]at e2;cases e2;exact hc
theorem Cf (n:Nat):num (lr n)=n:=by
 unfold lr;split
 ·rename_i h;subst h;rfl
 ·exact EY n
theorem ym {b:Bool} {l:List UInt8} (h:∀c r,l=c::r→cX c):dx ((if b=true then [45]else [])++l)=l∧bU ((if b=true then [45]else [])++l)=b:=by
 cases b
 ·simp only[Bool.false_eq_true,if_false,List.nil_append]
  cases l with
  |nil=>exact⟨rfl,rfl⟩
  |cons c r=>
   have h1:=h c r rfl;have:(c == 45)=false:=beq_eq_false_iff_ne.2 (fun e=>by subst e;exact absurd h1 (by decide));exact⟨by show(if(c == 45)=true then r else c::r)=_;rw[this];rfl,this⟩
 ·exact⟨rfl,rfl⟩
theorem BC (k:Nat) (l:List UInt8):num (List.replicate k 48++l)=num l:=by
 induction k with
 |zero=>rfl
 |succ k ih=>rw[List.replicate_succ,List.cons_append];exact ih
def Dr (l:List UInt8):List UInt8:=l.dropWhile (· == 48)
theorem yX (l:List UInt8):num (Dr l)=num l:=by
 induction l with
 |nil=>rfl
 |cons c l ih=>
  unfold Dr at *
  by_cases h:c=48
  ·subst h;rw[List.dropWhile_cons_of_pos rfl,ih];rfl
  ·rw[List.dropWhile_cons_of_neg (by simpa using h)]
theorem GS {l:List UInt8} (h:∀c∈l,cX c) (hn:Dr l≠[]):ic false (Dr l):=by
 refine⟨hn,fun c hc=>h c (List.dropWhile_sublist _ |>.subset hc), .inl fun c r e=>?_⟩;have:=List.head?_dropWhile_not (p:=(· == (48:UInt8))) (l:=l);unfold Dr at e;rw[e]at this
 simpa using this
end Go.Proofs.YtikbnnljjeefgaaGreatDoor
namespace Go.Proofs.YtikbnnljjeefgaaGreatDoor
open Go.RowKit
def aQ (q:Rat):List AV:=aZ q.num++aZ q.den
def dQ (q:Rat):DV:= .agg (aQ q)
def Cp (na:Bool) (xs:List Nat) (nb:Bool) (ys:List Nat):List AV:=aI na xs++aI nb ys
def Gy (na:Bool) (xs:List Nat) (nb:Bool) (ys:List Nat):DV:= .agg (Cp na xs nb ys)
def kK:List AV:=[.val (.bool false), .sl 0 [], .val (.bool false), .sl 0 []]
def B7:DV:= .agg kK
def Sz (k:Nat) (z:Int):Prop:=z.natAbs<4294967296^k
theorem Sz.fit {k:Nat} {z:Int} (h:Sz k z) (hk:k≤2147483648):ew z:= .of_lt h hk
theorem Sz.mono {j k:Nat} {z:Int} (h:Sz j z) (hk:j≤k):Sz k z:=Nat.lt_of_lt_of_le h (Nat.pow_le_pow_right (by decide) hk)
theorem Sz.of_le {k:Nat} {a b:Int} (h:Sz k b) (hl:a.natAbs≤b.natAbs):Sz k a:=Nat.lt_of_le_of_lt hl h
theorem Sz.mul {j k:Nat} {a b:Int} (h:Sz j a) (h':Sz k b):Sz (j+k) (a*b):=by
 unfold Sz at *;rw[Int.natAbs_mul,Nat.pow_add];exact Nat.mul_lt_mul'' h h'
theorem Sz.add {k:Nat} {a b:Int} (h:Sz k a) (h':Sz k b):Sz (k+1) (a+b):=by
 unfold Sz at *;have:=Int.natAbs_add_le a b;have:0<4294967296^k:=Nat.pow_pos (by decide)
 rw[Nat.pow_succ];omega
theorem Sz.neg {k:Nat} {a:Int} (h:Sz k a):Sz k (-a):=by unfold Sz at *;rw[Int.natAbs_neg];exact h
theorem Sz.sub {k:Nat} {a b:Int} (h:Sz k a) (h':Sz k b):Sz (k+1) (a-b):=by rw[Int.sub_eq_add_neg];exact h.add h'.neg
theorem Sz.small {z:Int} (h:z.natAbs<4294967296):Sz 1 z:=by unfold Sz;simpa using h
theorem Sz.i64 {z:Int} (h1: -9223372036854775808≤z) (h2:z<9223372036854775808):Sz 2 z:=by unfold Sz;omega
theorem Sz.gcd {k:Nat} {n d:Int} (h:Sz k d) (hd:d≠0):Sz k (Nat.gcd n.natAbs d.natAbs:Nat):=by
 refine h.of_le ?_;rw[Int.natAbs_natCast];exact Nat.le_of_dvd (by omega) (Nat.gcd_dvd_right _ _)
theorem Sz.digs {k:Nat} {z:Int} (h:Sz k z):(digs z.natAbs).length≤k:=aL h
theorem Sz.of_digs {k:Nat} {z:Int} (h:(Go.Proofs.YtikbnnljjeefgaaGreatDoor.digs z.natAbs).length≤k):Sz k z:=co h
def iS (k:Nat) (q:Rat):Prop:=Sz k q.num∧Sz k q.den
theorem iS.mono {j k:Nat} {q:Rat} (h:iS j q) (hk:j≤k):iS k q:=⟨h.1.mono hk,h.2.mono hk⟩
theorem iS.divInt {k:Nat} {n d:Int} (h:Sz k n) (h':Sz k d) (hd:d≠0):iS k (Rat.divInt n d):=by
 obtain⟨_,_,h1,h2⟩:=mP (n:=n) (d:=d) hd;have hg:0<(gz n d).natAbs:=by have:=zn (n:=n) hd;omega
 refine⟨h.of_le ?_,h'.of_le ?_⟩
 ·conv=>rhs;rw[h1,Int.natAbs_mul]
  exact Nat.le_mul_of_pos_left _ hg
 ·conv=>rhs;rw[h2,Int.natAbs_mul]
  exact Nat.le_mul_of_pos_left _ hg
theorem iS.add {j k:Nat} {a b:Rat} (h:iS j a) (h':iS k b):iS (j+k+1) (a+b):=by
 rw[← yj];refine .divInt ?_ ((h.2.mul h'.2).mono (by omega)) (by have:=Int.mul_pos (eU a) (eU b);omega);exact Sz.add (h.1.mul h'.2) ((h'.1.mul h.2).mono (by omega))
theorem iS.neg {k:Nat} {a:Rat} (h:iS k a):iS k (-a):=⟨by rw[Rat.neg_num];exact h.1.neg,h.2⟩
theorem iS.sub {j k:Nat} {a b:Rat} (h:iS j a) (h':iS k b):iS (j+k+1) (a-b):=by rw[Rat.sub_eq_add_neg];exact h.add h'.neg
theorem iS.mul {j k:Nat} {a b:Rat} (h:iS j a) (h':iS k b):iS (j+k) (a*b):=by
 rw[← l7];exact .divInt (h.1.mul h'.1) (h.2.mul h'.2) (by have:=Int.mul_pos (eU a) (eU b);omega)
theorem iS.div {j k:Nat} {a b:Rat} (h:iS j a) (h':iS k b) (hb:b≠0):iS (j+k) (a/b):=by
 rw[← xu];have h0:b.num≠0:=fun e=>hb (Rat.num_eq_zero.1 e)
 refine .divInt (h.1.mul h'.2) (h.2.mul h'.1) ?_;exact Int.mul_ne_zero (by have:=eU a;omega) h0
theorem my {z:Int}:(!decide (z<0) && decide (digs z.natAbs=[1]))=decide (z=1):=by
 by_cases h:z=1
 ·subst h;rw[show(1:Int).natAbs=1 from rfl,pv (by decide) (by decide)];rfl
 ·rw[decide_eq_false h]
  by_cases hn:z<0
  ·simp[hn]
  ·have:digs z.natAbs≠[1]:=fun e=>by
    have h1:=congrArg val e;rw[af]at h1
    simp[val]at h1
    omega
   simp[this]
theorem jE {z:Int}:decide (((digs z.natAbs).length:Int)=0)=decide (z=0):=by
 have:=b8 (n:=z.natAbs)
 by_cases h:z=0
 ·subst h;rw[decide_eq_true rfl];exact decide_eq_true (by have:=this.2 rfl;omega)
 ·rw[decide_eq_false h];exact decide_eq_false (fun e=>h (by have:=this.1 (by omega);omega))
end Go.Proofs.YtikbnnljjeefgaaGreatDoor
namespace Go.Proofs.YtikbnnljjeefgaaGreatDoor
open Go.RowKit
theorem ku:ab Tryz.prog 132 [] (.one (dZ 1)):=by
 refine kU aa ac Tryz.func132 ?_;refine kW ?_;refine DP (fO 1 (by decide) (by decide)) rfl rfl rfl rfl rfl rfl rfl ?_;exact kF
theorem yH {na:Bool} {xs:List Nat} {b:Bool} (hb:(!na && decide (xs=[1]))=b):ab Tryz.prog 130 [dI na xs] (.one (dB b)):=by
 subst hb;cases na
 ·match xs with
  | []=>
   refine kU aa ac Tryz.func130 ?_;exact kF
  | [x]=>
   refine kU aa ac Tryz.func130 ?_;refine kW ?_;refine bf (cs':=[AV.val (bC x)]) (i:=0) (Nat.lt_succ_self 0) (fun j a h=>by simpa using h) (Nat.lt_succ_self 0) rfl rfl rfl rfl rfl rfl rfl rfl ?_;refine kW ?_;rw[show(!false && decide ([x]=[1]))=decide ((x:Int)=1) by by_cases h:x=1<;>simp[h]<;>omega];exact bL (T:=TT) rfl rfl
  |x::y::r=>
   refine kU aa ac Tryz.func130 ?_;refine kR ?_;refine kI ?_
   iterate 7 refine kO ?_
   refine kB false ?_ ?_
   ·exact decide_eq_false (by simp only[List.length_cons];omega)
   refine kW ?_;rw[show(!false && decide (x::y::r=[1]))=false by simp];exact bL (T:=TT) rfl rfl
 ·refine kU aa ac Tryz.func130 ?_
  exact kF
theorem BD {na:Bool} {xs:List Nat} {b:Bool} (hb:(!na && decide (xs=[1]))=b):ab Tryz.prog 97 [dI na xs] (.one (dB b)):=by
 subst hb
 match xs with
 | []=>
  refine kU aa ac Tryz.func97 ?_;refine kW ?_;rw[show(!na && decide (([]:List Nat)=[1]))=false by simp];exact bL (T:=TT) rfl rfl
 | [x]=>
  refine kU aa ac Tryz.func97 ?_;refine kW ?_;refine bf (cs':=[AV.val (bC x)]) (i:=0) (Nat.lt_succ_self 0) (fun j a h=>by simpa using h) (Nat.lt_succ_self 0) rfl rfl rfl rfl rfl rfl rfl rfl ?_;refine kO ?_
  by_cases h:x=1
  ·refine kT ?_
   refine kW ?_;rw[show(!na && decide ([x]=[1]))=!na by simp[h]];exact bL (T:=TT) rfl rfl
  ·refine kE ?_
   refine kW ?_;rw[show(!na && decide ([x]=[1]))=false by simp[h]];exact bL (T:=TT) rfl rfl
 |x::y::r=>
  refine kU aa ac Tryz.func97 ?_;refine kR ?_;refine kI ?_
  iterate 3 refine kO ?_
  refine kB false ?_ ?_
  ·exact decide_eq_false (by simp only[List.length_cons];omega)
  refine kW ?_;rw[show(!na && decide (x::y::r=[1]))=false by simp];exact bL (T:=TT) rfl rfl
theorem bK {z:Int} {b:Bool} (hb:decide (z=1)=b):ab Tryz.prog 130 [dZ z] (.one (dB b)):=yH (by rw[my,hb])
theorem dq {z:Int} {b:Bool} (hb:decide (z=1)=b):ab Tryz.prog 97 [dZ z] (.one (dB b)):=BD (by rw[my,hb])
theorem eS {z:Int} {b:Bool} (hb:decide (z=0)=b):ab Tryz.prog 217 [dZ z] (.one (dB b)):=by
 refine kU aa ac Tryz.func217 ?_;refine kW ?_;rw[← hb,← jE];exact bL (T:=TT) rfl rfl
theorem mF {a b c:Int} (h1:ew a) (h2:ew b) (hb:b≠0) (h:a.fdiv b=c):ab Tryz.prog 166 [dZ a,dZ b] (.one (dZ c)):=by
 by_cases h1':b=1
 ·subst h1'
  rw[Int.fdiv_one]at h;subst h;refine kU aa ac Tryz.func166 ?_;refine kW ?_;refine kC (bK (z:=1) (b:=true) rfl) ?_;exact kF
 ·refine kU aa ac Tryz.func166 ?_
  refine kW ?_;refine kQ (bK (z:=b) (b:=false) (decide_eq_false h1')) ?_;refine kC (tW h1 h2 hb h rfl) ?_;exact kF
theorem cY {a b c:Int} (h1:ew a) (h2:ew b) (hb:b≠0) (h:a.fdiv b=c):ab Tryz.prog 105 [dZ a,dZ b] (.one (dZ c)):=by
 refine kU aa ac Tryz.func105 ?_;refine kW ?_;refine kC (rC h1 h2 hb h rfl) ?_;exact kF
theorem DL {n d:Int} {g:Nat} (hg:Nat.gcd n.natAbs d.natAbs=g) (h:¬d<0):gz n d=g:=by unfold gz;rw[if_neg h,hg]
theorem Cm {n d:Int} {g:Nat} (hg:Nat.gcd n.natAbs d.natAbs=g) (h:d<0):gz n d= -(g:Int):=by unfold gz;rw[if_pos h,hg]
theorem iH {k:Nat} {n d:Int} {q:Rat} (h1:Sz k n) (h2:Sz k d) (hk:k≤2147483648) (hd:d≠0) (hq:Rat.divInt n d=q):ab Tryz.prog 139 [dZ n,dZ d] (.one (dQ q)):=by
 subst hq;obtain⟨e1,e2,_,_⟩:=mP (n:=n) hd;have hg0:=zn (n:=n) hd;have hsg:=h2.gcd (n:=n) hd;obtain⟨g,hg⟩:∃g,Nat.gcd n.natAbs d.natAbs=g:=⟨_,rfl⟩;rw[hg]at hsg
 by_cases h:d<0
 ·rw[Cm hg h]at e1 e2 hg0
  refine kU aa ac Tryz.func139 ?_;refine kW ?_;refine kQ (kZ (h1.fit hk) (h2.fit hk) hg) ?_;refine eX (T:=TT) rfl ?_ ?_
  ·exact decide_eq_true h
  refine kW ?_;refine kQ (sE (hsg.fit hk)) ?_;refine kQ (mF (h1.fit hk) (hsg.neg.fit hk) hg0 e1) ?_;refine kC (mF (h2.fit hk) (hsg.neg.fit hk) hg0 e2) ?_;exact kF
 ·rw[DL hg h]at e1 e2 hg0
  refine kU aa ac Tryz.func139 ?_;refine kW ?_;refine kQ (kZ (h1.fit hk) (h2.fit hk) hg) ?_;refine dC (T:=TT) rfl ?_ ?_
  ·exact decide_eq_false h
  refine kW ?_;refine kQ (mF (h1.fit hk) (hsg.fit hk) hg0 e1) ?_;refine kC (mF (h2.fit hk) (hsg.fit hk) hg0 e2) ?_;exact kF
theorem qD {k:Nat} {n d:Int} {q:Rat} (h1:Sz k n) (h2:Sz k d) (hk:k≤2147483648) (hd:d≠0) (hq:Rat.divInt n d=q):ab Tryz.prog 205 [dZ n,dZ d] (.one (dQ q)):=by
 subst hq;obtain⟨e1,e2,_,_⟩:=mP (n:=n) hd;have hg0:=zn (n:=n) hd;have hsg:=h2.gcd (n:=n) hd;obtain⟨g,hg⟩:∃g,Nat.gcd n.natAbs d.natAbs=g:=⟨_,rfl⟩;rw[hg]at hsg
 by_cases h:d<0
 ·rw[Cm hg h]at e1 e2 hg0
  have hs:ab Tryz.prog 96 [dZ d] (.one (dN .i64 (-1))):=by have:=j6 d;rwa[Int.sign_eq_neg_one_of_neg h]at this
  refine kU aa ac Tryz.func205 ?_;refine kW ?_;refine kQ (fv (h1.fit hk) (h2.fit hk) hg) ?_;refine kQ (hs) ?_;refine kQ (l0 g) ?_;refine kQ (cY (h1.fit hk) (hsg.neg.fit hk) hg0 e1) ?_;refine kC (cY (h2.fit hk) (hsg.neg.fit hk) hg0 e2) ?_;exact kF
 ·rw[DL hg h]at e1 e2 hg0
  have hs:ab Tryz.prog 96 [dZ d] (.one (dN .i64 1)):=by have:=j6 d;rwa[Int.sign_eq_one_of_pos (by omega)]at this
  refine kU aa ac Tryz.func205 ?_;refine kW ?_;refine kQ (fv (h1.fit hk) (h2.fit hk) hg) ?_;refine kQ (hs) ?_;refine kQ (cY (h1.fit hk) (hsg.fit hk) hg0 e1) ?_;refine kC (cY (h2.fit hk) (hsg.fit hk) hg0 e2) ?_;exact kF
theorem tM (k:Int) (h1: -9223372036854775808≤k) (h2:k<9223372036854775808) {q:Rat} (hq:(k:Rat)=q):ab Tryz.prog 88 [dN .i64 k] (.one (dQ q)):=by
 subst hq;refine kU aa ac Tryz.func88 ?_;refine kW ?_;refine kQ (fO k h1 h2) ?_;refine kC (ku) ?_;exact kF
theorem iP (k:Int) (h1: -9223372036854775808≤k) (h2:k<9223372036854775808) {q:Rat} (hq:(k:Rat)=q):ab Tryz.prog 64 [dN .i64 k] (.one (dQ q)):=by
 subst hq;refine kU aa ac Tryz.func64 ?_;refine kW ?_;refine kQ (cO k h1 h2) ?_;refine DP (cO 1 (by decide) (by decide)) rfl rfl rfl rfl rfl rfl rfl ?_;exact kF
theorem Dg {k:Nat} {a q:Rat} (h:iS k a) (hk:k≤2147483648) (hq: -a=q):ab Tryz.prog 218 [dQ a] (.one (dQ q)):=by
 subst hq;refine kU aa ac Tryz.func218 ?_;refine kW ?_;refine kC (sE (h.1.fit hk)) ?_;exact kF
theorem so (a:Rat):ab Tryz.prog 87 [dQ a] (.one (dN .i64 (BH a))):=by
 refine kU aa ac Tryz.func87 ?_;refine kW ?_;refine kC (x3 a.num) ?_;exact kF
theorem pq (a:Rat):ab Tryz.prog 63 [dQ a] (.one (dN .i64 (BH a))):=by
 refine kU aa ac Tryz.func63 ?_;refine kW ?_;refine kC (j6 a.num) ?_;exact kF
end Go.Proofs.YtikbnnljjeefgaaGreatDoor
namespace Go.Proofs.YtikbnnljjeefgaaGreatDoor
open Go.RowKit
theorem ze {q:Rat} {n d:Int} (h1:q.num=n) (h2:(q.den:Int)=d):dQ q= .agg (aZ n++aZ d):=by unfold dQ aQ;rw[h1,h2]
theorem Ca (a:Rat):decide ((a.den:Int)=1)=decide (a.den=1):=by by_cases h:a.den=1<;>simp[h]<;>omega
theorem se {a:Rat} (h:a.den=1):decide ((a.den:Int)=1)=true:=by rw[Ca];exact decide_eq_true h
theorem zf {a:Rat} (h:¬a.den=1):decide ((a.den:Int)=1)=false:=by rw[Ca];exact decide_eq_false h
theorem C5 {z:Int} (h:z=0):decide (((digs z.natAbs).length:Int)=0)=true:=jE.trans (decide_eq_true h)
theorem su {z:Int} (h:¬z=0):decide (((digs z.natAbs).length:Int)=0)=false:=jE.trans (decide_eq_false h)
theorem kw (a:Int) (g:Nat):a.fdiv g=a/g:=Int.fdiv_eq_ediv_of_nonneg _ (by omega)
theorem oL (a g:Nat):(a:Int).fdiv g=((a/g:Nat):Int):=by rw[kw];rfl
theorem Dy {j k:Nat} {a b q:Rat} (h:iS j a) (h':iS k b) (hk:j+k≤2147483648) (hq:a*b=q):ab Tryz.prog 91 [dQ a,dQ b] (.one (dQ q)):=by
 subst hq;have d0:(a.den:Int)*b.den≠0:=by have:=Int.mul_pos (eU a) (eU b);omega
 by_cases ha:a.den=1
 ·by_cases hb:b.den=1
  ·rw[ze (mT ha hb).1 (d:=1) (by rw[(mT ha hb).2];rfl)]
   refine kU aa ac Tryz.func91 ?_;refine kW ?_;refine kQ (bK (se ha)) ?_;refine kQ (bK (se hb)) ?_;refine DP (eV (h.1.fit (by omega)) (h'.1.fit (by omega))) rfl rfl rfl rfl rfl rfl rfl ?_;refine kW ?_;refine kC (ku) ?_;exact kF
  ·refine kU aa ac Tryz.func91 ?_
   refine kW ?_;refine kQ (bK (se ha)) ?_;refine kQ (bK (zf hb)) ?_;refine DP (eV (h.1.fit (by omega)) (h'.1.fit (by omega))) rfl rfl rfl rfl rfl rfl rfl ?_;refine kW ?_;refine DP (eV (h.2.fit (by omega)) (h'.2.fit (by omega))) rfl rfl rfl rfl rfl rfl rfl ?_;refine kW ?_;refine kC (iH (h.1.mul h'.1) (h.2.mul h'.2) hk d0 (l7 a b)) ?_;exact kF
 ·refine kU aa ac Tryz.func91 ?_
  refine kW ?_;refine kQ (bK (zf ha)) ?_;refine DP (eV (h.1.fit (by omega)) (h'.1.fit (by omega))) rfl rfl rfl rfl rfl rfl rfl ?_;refine kW ?_;refine DP (eV (h.2.fit (by omega)) (h'.2.fit (by omega))) rfl rfl rfl rfl rfl rfl rfl ?_;refine kW ?_;refine kC (iH (h.1.mul h'.1) (h.2.mul h'.2) hk d0 (l7 a b)) ?_;exact kF
theorem Bn {j k:Nat} {a b q:Rat} (h:iS j a) (h':iS k b) (hk:j+k≤2147483648) (hq:a*b=q):ab Tryz.prog 68 [dQ a,dQ b] (.one (dQ q)):=by
 subst hq
 by_cases ha0:a.num=0
 ·have e:a*b=0:=by rw[Rat.num_eq_zero.1 ha0];exact Rat.zero_mul b
  refine kU aa ac Tryz.func68 ?_;refine kR ?_;refine kI ?_
  iterate 4 refine kO ?_
  refine kB true ?_ ?_
  ·exact C5 ha0
  refine kW ?_;refine DP (iP 0 (by decide) (by decide) e.symm) rfl rfl rfl rfl rfl rfl rfl ?_;exact kF
 by_cases hb0:b.num=0
 ·have e:a*b=0:=by rw[Rat.num_eq_zero.1 hb0];exact Rat.mul_zero a
  refine kU aa ac Tryz.func68 ?_;refine kR ?_;refine kI ?_
  iterate 4 refine kO ?_
  refine kB false ?_ ?_
  ·exact su ha0
  iterate 5 refine kO ?_
  refine kB true ?_ ?_
  ·exact C5 hb0
  refine kW ?_;refine DP (iP 0 (by decide) (by decide) e.symm) rfl rfl rfl rfl rfl rfl rfl ?_;exact kF
 by_cases hab:a.den=1∧b.den=1
 ·rw[ze (mT hab.1 hab.2).1 (d:=a.den) (by rw[(mT hab.1 hab.2).2,hab.1])]
  refine kU aa ac Tryz.func68 ?_;refine kR ?_;refine kI ?_
  iterate 4 refine kO ?_
  refine kB false ?_ ?_
  ·exact su ha0
  iterate 5 refine kO ?_
  refine kB false ?_ ?_
  ·exact su hb0
  refine kW ?_;refine kQ (dq (se hab.1)) ?_;refine kQ (dq (se hab.2)) ?_;refine DP (eP (h.1.fit (by omega)) (h'.1.fit (by omega))) rfl rfl rfl rfl rfl rfl rfl ?_;exact kF
 have e:=Fu a b;obtain⟨g,hg⟩:∃g,Nat.gcd a.num.natAbs b.den=g:=⟨_,rfl⟩;obtain⟨t,ht⟩:∃t,Nat.gcd b.num.natAbs a.den=t:=⟨_,rfl⟩;rw[hg,ht]at e;have hgz:Nat.gcd a.num.natAbs (b.den:Int).natAbs=g:=by rw[Int.natAbs_natCast];exact hg
 have htz:Nat.gcd b.num.natAbs (a.den:Int).natAbs=t:=by rw[Int.natAbs_natCast];exact ht
 have hg0:0<g:=by rw[← hg];exact Nat.gcd_pos_of_pos_right _ (Nat.pos_of_ne_zero b.den_nz)
 have ht0:0<t:=by rw[← ht];exact Nat.gcd_pos_of_pos_right _ (Nat.pos_of_ne_zero a.den_nz)
 have sg:Sz k g:=by rw[← hgz];exact h'.2.gcd (by have:=eU b;omega)
 have st:Sz j t:=by rw[← htz];exact h.2.gcd (by have:=eU a;omega)
 have s1:Sz j (a.num/g):=h.1.of_le (Int.natAbs_ediv_le_natAbs _ _);have s2:Sz k (b.num/t):=h'.1.of_le (Int.natAbs_ediv_le_natAbs _ _);have s3:Sz j (a.den/t:Nat):=h.2.of_le (by rw[Int.natAbs_natCast,Int.natAbs_natCast];exact Nat.div_le_self _ _);have s4:Sz k (b.den/g:Nat):=h'.2.of_le (by rw[Int.natAbs_natCast,Int.natAbs_natCast];exact Nat.div_le_self _ _);rw[ze e.1 (d:=(a.den/t:Nat)*(b.den/g:Nat)) (by rw[e.2];rfl)];refine kU aa ac Tryz.func68 ?_;refine kR ?_;refine kI ?_
 iterate 4 refine kO ?_
 refine kB false ?_ ?_
 ·exact su ha0
 iterate 5 refine kO ?_
 refine kB false ?_ ?_
 ·exact su hb0
 refine kW ?_
 by_cases ha:a.den=1
 ·have hb:¬b.den=1:=fun e=>hab ⟨ha,e⟩
  refine kQ (dq (se ha)) ?_;refine kQ (dq (zf hb)) ?_;refine DP (fv (h.1.fit (by omega)) (h'.2.fit (by omega)) hgz) rfl rfl rfl rfl rfl rfl rfl ?_;refine kW ?_;refine DP (fv (h'.1.fit (by omega)) (h.2.fit (by omega)) htz) rfl rfl rfl rfl rfl rfl rfl ?_;refine kW ?_;refine DP (cY (h.1.fit (by omega)) (sg.fit (by omega)) (by omega) (kw _ _)) rfl rfl rfl rfl rfl rfl rfl ?_;refine kW ?_;refine DP (cY (h'.1.fit (by omega)) (st.fit (by omega)) (by omega) (kw _ _)) rfl rfl rfl rfl rfl rfl rfl ?_;refine kW ?_;refine DP (eP (s1.fit (by omega)) (s2.fit (by omega))) rfl rfl rfl rfl rfl rfl rfl ?_;refine kW ?_;refine DP (cY (h.2.fit (by omega)) (st.fit (by omega)) (by omega) (oL _ _)) rfl rfl rfl rfl rfl rfl rfl ?_;refine kW ?_
  refine DP (cY (h'.2.fit (by omega)) (sg.fit (by omega)) (by omega) (oL _ _)) rfl rfl rfl rfl rfl rfl rfl ?_;refine kW ?_;refine DP (eP (s3.fit (by omega)) (s4.fit (by omega))) rfl rfl rfl rfl rfl rfl rfl ?_;exact kF
 ·refine kC (dq (zf ha)) ?_
  refine kW ?_;refine DP (fv (h.1.fit (by omega)) (h'.2.fit (by omega)) hgz) rfl rfl rfl rfl rfl rfl rfl ?_;refine kW ?_;refine DP (fv (h'.1.fit (by omega)) (h.2.fit (by omega)) htz) rfl rfl rfl rfl rfl rfl rfl ?_;refine kW ?_;refine DP (cY (h.1.fit (by omega)) (sg.fit (by omega)) (by omega) (kw _ _)) rfl rfl rfl rfl rfl rfl rfl ?_;refine kW ?_;refine DP (cY (h'.1.fit (by omega)) (st.fit (by omega)) (by omega) (kw _ _)) rfl rfl rfl rfl rfl rfl rfl ?_;refine kW ?_;refine DP (eP (s1.fit (by omega)) (s2.fit (by omega))) rfl rfl rfl rfl rfl rfl rfl ?_;refine kW ?_;refine DP (cY (h.2.fit (by omega)) (st.fit (by omega)) (by omega) (oL _ _)) rfl rfl rfl rfl rfl rfl rfl ?_;refine kW ?_
  refine DP (cY (h'.2.fit (by omega)) (sg.fit (by omega)) (by omega) (oL _ _)) rfl rfl rfl rfl rfl rfl rfl ?_;refine kW ?_;refine DP (eP (s3.fit (by omega)) (s4.fit (by omega))) rfl rfl rfl rfl rfl rfl rfl ?_;exact kF
end Go.Proofs.YtikbnnljjeefgaaGreatDoor
namespace Go.Proofs.YtikbnnljjeefgaaGreatDoor
open Go.RowKit Go.Shelf
attribute [local go_sem] Oper.semAt_some
abbrev Cx (M:Nat) (x:Nat × Nat):Array Value:= #[.int .i64 (x.1:Int),bC (x.2%M)]
theorem ui {M:Nat} {xs:List Nat} (h0:0<M) (h:∀x∈xs,x<M) (i:Nat):xs.getD i 0<M:=by
 rw[List.getD_eq_getElem?_getD];cases hx:xs[i]? with
 |none=>exact h0
 |some x=>exact h x (List.mem_of_getElem? hx)
set_option maxRecDepth 100000 in
theorem Bg (F:Fence) (n:Nat) (h8:F.fn 167) (hro:F.round=none) (hn:1≤n) (l Bs:Nat) (A:Option Addr) (len cap:Nat) (xs:List Nat) (M:Nat) (hM0:0<M) (hM:∀x∈xs,x<M) (w:World) (hx:az w A len cap xs) (J Jx:List (Nat × Nat)→World→Prop)
 (hY:∀pre x W,J pre W→pre.length<len→YieldAt F (n-1) Tryz.prog l (Cx M x) W fun e W'=>
  (e= .returned (.bool true)∧J (pre++[x]) W'∧KB w.heap.size Bs W W')∨(e= .returned (.bool false)∧Jx (pre++[x]) W'))
 (W:World) (hbW:aG w W) (hBs:W.cell? ⟨Bs,0,none⟩=some (.slice A len cap)) (h0:J [] W):
 CallsIn F n Tryz.prog 167 #[.func (.yield l) #[] #[], .pointer (some ⟨Bs,0,none⟩)] W fun e W'=>(∃v,e= .returned v) ∧
  ((∃ys,ys=upto (dH xs) len∧J ys W')∨(∃pre,True∧Jx pre W')):=by
 have hcap:=hx.cap;have hlim:=hx.lim;have hlen:=hx.len;have hwd:=hx.wd;have Hx:=Lib.hid hx;have HM:=Lib.hid hM;have Hlen:=Lib.hid hlen;have Hwd:=Lib.hid hwd;clear hx hlen hwd hM;refine callsIn_of_wp Tryz.func167 rfl h8 ?_ hro
 simp only[Tryz.ntmps167,List.size_toArray,List.length_cons,List.length_nil,Nat.reduceAdd,Nat.reduceSub,Array.replicate_succ,Array.replicate_zero,List.push_toArray,List.append_toArray,List.nil_append,List.cons_append]
 gi_wp2
 gi_loopw [3] (fun i wr=>∃k:Nat,k≤len∧i= .int .i64 ((len:Int)-1-k)∧J (upto (dH xs) k) wr∧KB w.heap.size Bs W wr)
  (fun i _=>(intOf i+1).toNat)
 case atStart=>exact⟨0,Nat.zero_le _,by go_num,h0,KB.refl _ _ _⟩
 case round=>
  obtain⟨k,hk,rfl,hJs,hnx⟩:=hrel;have hcs:=(hnx.cell 0).trans hBs
  by_cases hlt:k<len
  ·obtain⟨b,off,rfl,hb,hc⟩:=Hx.out.at (by omega)
   have hcx:=(hnx.1.cell (p:=⟨b,off+(len-1-k),none⟩) hb).trans ((hbW.cell (p:=⟨b,off+(len-1-k),none⟩) hb).trans (hc (len-1-k) (by omega)));obtain⟨fn,tmps,assign,body,hy,hR⟩:=hY _ (dH xs k) wr hJs (by rw[oj];exact hlt);have e1:dH xs k=(len-1-k,xs.getD (len-1-k) 0):=by unfold dH;rw[Hlen.out]
   rw[e1]at hy;have e2:((len-1-k:Nat):Int)=(len:Int)-1-k:=by omega
   dsimp only[Cx]at hy;rw[e2]at hy;obtain⟨x,hxx⟩:∃x,x=xs.getD (len-1-k) 0:=⟨_,rfl⟩;rw[← hxx]at hy hcx;rw[Nat.mod_eq_of_lt (by rw[hxx];exact ui hM0 HM.out _)]at hy;have g1:(0:Int)≤(len:Int)-1-k:=by omega
   have g2:(len:Int)-1-k<len:=by omega
   have g3:((len:Int)-1-k).toNat=len-1-k:=by omega
   clear e1 e2 hc;have Hxx:=Lib.hid hxx;clear hxx
   gi_wp2
   refine hR.mono ?_;rintro e W3 (⟨rfl,hJ3,hk3⟩| ⟨rfl,hJx3⟩)
   ·gi_wp2
    go_roundw
    case rel=>exact⟨k+1,by omega,by go_num,by rw[nT];exact hJ3,hnx.trans hk3⟩
    case measure=>simp[intOf];omega
   ·gi_wp2
    refine bodyPost_ret (results_none rfl _ _ _) rfl ?_;exact⟨⟨_,rfl⟩, .inr ⟨_,trivial,hJx3⟩⟩
  ·obtain rfl:k=len:=by omega
   have g1:¬((k:Int)≤(k:Int)-1):=by omega
   gi_wp2
   go_end0
   first|exact⟨⟨_,rfl⟩, .inl ⟨_,rfl,hJs⟩⟩|exact⟨⟨_,rfl⟩, .inl hJs⟩
theorem ot (F:Fence) (n:Nat) (h8:F.fn 167) (hro:F.round=none) (hn:1≤n) (Bs:Nat) (A:Option Addr) (len cap:Nat) (xs:List Nat) (M:Nat) (hM0:0<M) (hM:∀x∈xs,x<M) (w0 w:World) (hx:az w0 A len cap xs) (h0:aG w0 w) (hBs:Bs<w.heap.size) (hc:w.cell? ⟨Bs,0,none⟩=some (.slice A len cap)):
 SeqStopsK F n Tryz.prog 167 #[.pointer (some ⟨Bs,0,none⟩)] (Cx M) (KB w0.heap.size Bs) (fun ys=>ys=upto (dH xs) len) (fun _=>True) len w:=fun l J Jx W hW _ _ hY hJ0=>
 Bg F n h8 hro hn l Bs A len cap xs M hM0 hM w0 hx J Jx hY W (h0.more hW) ((hW.cell (p:=⟨Bs,0,none⟩) hBs).trans hc) hJ0
end Go.Proofs.YtikbnnljjeefgaaGreatDoor
namespace Go.Proofs.YtikbnnljjeefgaaGreatDoor
open Go.Shelf Go.RowKit Go.Sort Go.Lib
set_option maxRecDepth 100000 in
theorem rJ (u:Nat) (hu64:u<18446744073709551616) (w:World) (htab:Lib.TabIs Tryz.prog w "internal/strconv.uint64pow10" .u64 Lib.pow10Tab):
 Calls Tryz.prog 168 #[.int .u64 u, .int .i64 10] w fun e w'=>e= .returned (.string ⟨(Lib.decDigits u).toArray⟩)∧Below w.heap.size w w':=by
 by_cases hs:u<100
 ·go_enter Tryz.func168,Tryz.ntmps168
  go_wp2_with (go_at_call 194;refine(Tryz.internal_strconv_small u hs _).mono ?_;rintro e w' ⟨rfl,rfl⟩)
  go_ret
  exact⟨rfl,Below.refl _ _⟩
 ·have hu1:1≤u:=by omega
  have hnd20:Lib.nDigits u≤20:=by have:=Lib.numDigits_eq u hu1 hu64;split at this<;>omega
  have hal:(Tryz.prog).arrayLen 188=24:=by simp[Program.arrayLen,Tryz.underlying188]
  have hsl:∀W,(Instr.sliceAt 188 (.pointer (some ⟨w.heap.size,0,none⟩)) none (some (.int .i64 (Lib.nDigits u:Int))) none).run Tryz.prog W= .ok (.slice (some ⟨w.heap.size,0,none⟩) (Lib.nDigits u) 24) W:=fun W=>by
   rw[run_sliceAt_array_h W 188 ⟨w.heap.size,0,none⟩ (by simp[Program.arrayLen,Program.elem,Tryz.underlying188]) .i64 (Lib.nDigits u:Int) (by omega) (by rw[hal];omega)]
   go_simp
  have hH0:=Lib.holds_zero0 w 188 (Lib.nDigits u) (by omega);have hfmt:=Tryz.internal_strconv_formatBase10 w.heap.size 0 24 u (Array.replicate (Lib.nDigits u) 0) (w.alloc (.cells Lib.zeros24 188)) hH0 (by rw[Array.size_replicate];exact Lib.lt_pow_nDigits u) hu64 (by rw[Array.size_replicate];omega);rw[Array.size_replicate]at hfmt;have HH0:=Lib.hid hH0;have iu:(100:Int)≤(u:Int):=by omega
  clear hH0 hal
  go_enter Tryz.func168,Tryz.ntmps168
  go_wp2_with (go_at_call 195;refine(Tryz.internal_strconv_numDigits u hu1 hu64 _ (Lib.tabIs_alloc htab _)).mono ?_;rintro e w' ⟨rfl,rfl⟩)
  go_at_call 196
  refine hfmt.mono ?_;rintro e w' ⟨rfl,k,v',dk,rfl,hF⟩
  have hcv:(convert 50 9 (.slice (some ⟨w.heap.size,0,none⟩) (Lib.nDigits u) 24)).run Tryz.prog ((putRow (fun(b:UInt8)=>Value.int .u8 (b.toNat:Int)) (w.alloc (.cells Lib.zeros24 188)) w.heap.size 0 dk).drewN k)= .ok (.string ⟨(Lib.decDigits u).toArray⟩) ((putRow (fun(b:UInt8)=>Value.int .u8 (b.toNat:Int)) (w.alloc (.cells Lib.zeros24 188)) w.heap.size 0 dk).drewN k):=by
   have h:=run_convert_bytes_back (P:=Tryz.prog) ((putRow (fun(b:UInt8)=>Value.int .u8 (b.toNat:Int)) (w.alloc (.cells Lib.zeros24 188)) w.heap.size 0 dk).drewN k) 50 9 5 ⟨w.heap.size,0,none⟩ 24 (Lib.decDigits u) Tryz.underlying50 Tryz.underlying5 Tryz.underlying9 (fun j hj=>by
    rw[Lib.row_is_numeral hF j hj,Lib.add_plain,World.cell?_drewN];exact cell?_putRow (fun(b:UInt8)=>Value.int .u8 (b.toNat:Int)) _ w.heap.size 0 _ dk HH0.out (by rw[hF.size,Array.size_replicate]) j (by rw[hF.size];rw[Lib.decDigits_length]at hj;exact hj))
   rw[Lib.decDigits_length]at h;exact h
  go_wp2
  go_ret
  obtain⟨os,eo⟩:=Lib.fin_at w (.cells Lib.zeros24 188) dk k 0;exact⟨rfl,by rw[eo];exact Lib.below_grow _ w (Nat.le_refl _) k os⟩
theorem iq (u:Nat) (hu64:u<18446744073709551616) (w:World) (htab:Lib.TabIs Tryz.prog w "internal/strconv.uint64pow10" .u64 Lib.pow10Tab):
 Calls Tryz.prog 142 #[.int .u64 u, .int .i64 10] w fun e w'=>e= .returned (.string ⟨(Lib.decDigits u).toArray⟩)∧Below w.heap.size w w':=by
 go_enter Tryz.func142,Tryz.ntmps142
 go_wp2_with (go_at_call 168;refine(rJ u hu64 _ htab).mono ?_;rintro e w' ⟨rfl,hb⟩)
 go_ret
 exact⟨rfl,hb⟩
end Go.Proofs.YtikbnnljjeefgaaGreatDoor
namespace Go.Proofs.YtikbnnljjeefgaaGreatDoor
open Go.Shelf Go.RowKit
theorem vI:((Tryz.prog).info? 52).map (·.size)=some 2:=Tryz.Builder_Extra_169.sizeBuilder
theorem Cu:liesAt Tryz.prog (Tryz.prog).depth 52 (2/(Tryz.prog).cellsOf 52) 0 52 1=true:=by kernel_rfl
theorem qQ:((Tryz.prog).info? 5).map (fun i=>(i.zero,i.size,i.bytes))=some (some (.int .u8 0),1,1):=Tryz.Builder_Extra_169.infoByte
set_option maxRecDepth 100000 in
theorem ki (b:Nat) (w:World) (h0:w.cell? ⟨b,0,none⟩=some (.pointer (some ⟨b,0,none⟩))):
 Calls Tryz.prog 85 #[.pointer (some ⟨b,0,none⟩)] w fun e w'=>e= .returned (.tuple #[])∧w'=w:=by
 obtain⟨j,hj,_⟩:=Option.map_eq_some_iff.1 vI
 go_enter Tryz.func85,Tryz.ntmps85
 go_wp2
 rw[Lib.run_neq_ptr_same w _ Tryz.underlying49 hj]
 go_wp2
 go_end0
 exact⟨rfl,rfl⟩
set_option maxRecDepth 100000 in
theorem jM (b:Nat) (w:World) (h0:w.cell? ⟨b,0,none⟩=some (.pointer none)) (hsh:w.shape? b=some (52,2)) (hfz:w.frozen? ⟨b,0,none⟩=false):
 Calls Tryz.prog 85 #[.pointer (some ⟨b,0,none⟩)] w fun e w'=>e= .returned (.tuple #[])∧w'=w.setCell ⟨b,0,none⟩ (.pointer (some ⟨b,0,none⟩)):=by
 obtain⟨j,hj,hjs⟩:=Option.map_eq_some_iff.1 vI
 go_enter Tryz.func85,Tryz.ntmps85
 go_wp2
 rw[Lib.run_to_unsafe w ⟨b,0,none⟩ Tryz.underlying49 Tryz.underlying141 hj (by rw[hjs];decide) hsh (Nat.zero_lt_succ 1)]
 simp only[Result.andThen]
 rw[Oper.upon_value]
 go_wp2
 rw[run_callFunc_extern Tryz.func127 (by kernel_rfl) (by kernel_rfl) (by kernel_rfl) (e:=Extern.AbiNoEscape.same) (by kernel_rfl)];rw[Lib.run_noEscape]
 simp only[Result.andThen]
 rw[Oper.upon_value]
 go_wp2
 rw[Lib.run_from_unsafe w ⟨b,0,none⟩ Tryz.underlying141 Tryz.underlying49 hj hsh Cu]
 simp only[Result.andThen]
 rw[Oper.upon_value]
 go_wp2
 go_end0
 exact⟨rfl,rfl⟩
theorem oq (B b:Nat) (bs:List Value) (w:World) (h:Lib.IsBuilderF 52 5 B b bs w):
 Calls Tryz.prog 85 #[.pointer (some ⟨b,0,none⟩)] w fun e w'=>e= .returned (.tuple #[])∧(Lib.BuilderAtF 52 5 B b (.pointer (some ⟨b,0,none⟩)) bs w'∧Below B w w'∧Lib.OthersKept 5 (some b) w w'):=by
 rcases h with h|h
 ·refine(jM b w h.cell0 h.shape h.frozen0).mono ?_
  rintro e w' ⟨rfl,rfl⟩;exact⟨rfl,h.used _,(Below.refl B w).setCell (p:=⟨b,0,none⟩) h.1 _,(Lib.OthersKept.refl _ _ w).setCell ⟨b,0,none⟩ rfl _⟩
 ·refine(ki b w h.cell0).mono ?_
  rintro e w' ⟨rfl,rfl⟩;exact⟨rfl,h,Below.refl B _,Lib.OthersKept.refl _ _ _⟩
set_option maxRecDepth 100000 in
theorem vE (B b:Nat) (bs:List Value) (c:Int) (w:World) (h:Lib.IsBuilderF 52 5 B b bs w) (hlen:bs.length+1≤140737488355328) (hBw:B≤w.heap.size):
 Calls Tryz.prog 140 #[.pointer (some ⟨b,0,none⟩), .int .u8 c] w fun e w'=>e= .returned .nilIface∧(Lib.BuilderAtF 52 5 B b (.pointer (some ⟨b,0,none⟩)) (bs++[.int .u8 c]) w'∧Below B w w'∧Lib.OthersKept 5 (some b) w w'):=by
 obtain⟨i0,hi,hz0,hz1,hz2⟩:=info_parts qQ
 go_enter Tryz.func140,Tryz.ntmps140
 go_wp2_with (go_at_call 85;refine(oq B b bs _ h).mono ?_)
 rintro e w1 ⟨rfl,h1,hb1,hk1⟩;obtain⟨hB,v,hbk,hown,hne⟩:=h1;have c0:w1.cell? ⟨b,0,none⟩=some (.pointer (some ⟨b,0,none⟩)):=by rw[Lib.cell_of_heap hbk];rfl
 have c1:w1.cell? ⟨b,1,none⟩=some v:=by rw[Lib.cell_of_heap hbk];rfl
 go_wp2_with (at_builtin;refine wpList_append_ownF _ rfl _ _ 50 rfl B 5 i0 (.int .u8 0) 1 1 Tryz.underlying50 hi hz0 hz1 hz2 rfl (by decide) _ _ _ rfl (hown.alloc _) ⟨w1.heap.size,0,none⟩ 1 1 [.int .u8 c] rfl rfl ?c1 ?c2 ?c3 ?c4 ?c5 ?_)
 case c1=>
  intro j u hj
  match j,hj with
  |0,hj=>simp at hj;subst hj;simp[Addr.add]
 case c2=>intro u hu;simp at hu;subst hu;rfl
 case c3=>unfold maxLen;omega
 case c4=>omega
 case c5=>have:=hb1.size;simp;omega
 intro v' w2 hown' hgrow _
 have hlt:b<w1.heap.size:=by
  rcases Nat.lt_or_ge b w1.heap.size with h'|h'
  ·exact h'
  ·simp[Array.getElem?_eq_none h']at hbk
 have hb2:w2.heap[b]? =some (.cells #[.pointer (some ⟨b,0,none⟩),v] 52 (0,0)):=by
  rw[hgrow.block b (by simp;omega) (fun e=>hne e.symm),Lib.alloc_old w1 _ b hlt];exact hbk
 have d0:w2.cell? ⟨b,0,none⟩=some (.pointer (some ⟨b,0,none⟩)):=by rw[Lib.cell_of_heap hb2];rfl
 have d1:w2.cell? ⟨b,1,none⟩=some v:=by rw[Lib.cell_of_heap hb2];rfl
 have f1:w2.frozen? ⟨b,1,none⟩=false:=Lib.frozen_of_heap hb2 1
 obtain⟨g,cap,rfl⟩:∃g cap,v'= .slice (some ⟨g,0,none⟩) (bs.length+1) cap:=by
  rcases hown'.2 with⟨_,h0⟩| ⟨g,cap,cur,fz,hv,_⟩
  ·omega
  ·exact⟨g,cap,hv⟩
 go_wp2
 go_ret
 refine⟨rfl,?_,?_,((hk1.alloc _).grown hgrow (Lib.ownsRowF_kind (hown.alloc _))).setCell ⟨b,1,none⟩ rfl _⟩
 ·exact Lib.BuilderAtF.put (T:=52) (e:=5) hB hb2 (bs':=bs++[.int .u8 c]) (by simpa using hown') (by decide)
 ·exact((hb1.alloc (by have:=hb1.size;omega) _).grown hgrow (by have:=hb1.size;simp;omega) (fun k hk=>(hown.lt k hk).1)).setCell (p:=⟨b,1,none⟩) hB _
set_option maxRecDepth 100000 in
theorem el (B b:Nat) (bs:List Value) (s:ByteArray) (w:World) (h:Lib.IsBuilderF 52 5 B b bs w) (hlen:bs.length+s.size≤140737488355328) (hBw:B≤w.heap.size):
 Calls Tryz.prog 57 #[.pointer (some ⟨b,0,none⟩), .string s] w fun e w'=>e= .returned (.tuple #[.int .i64 s.size, .nilIface])∧(Lib.BuilderAtF 52 5 B b (.pointer (some ⟨b,0,none⟩)) (bs++Lib.strCells s) w'∧Below B w w'∧Lib.OthersKept 5 (some b) w w'):=by
 obtain⟨i0,hi,hz0,hz1,hz2⟩:=info_parts qQ
 go_enter Tryz.func57,Tryz.ntmps57
 go_wp2_with (go_at_call 85;refine(oq B b bs _ h).mono ?_)
 rintro e w1 ⟨rfl,h1,hb1,hk1⟩;obtain⟨hB,v,hbk,hown,hne⟩:=h1;have c0:w1.cell? ⟨b,0,none⟩=some (.pointer (some ⟨b,0,none⟩)):=by rw[Lib.cell_of_heap hbk];rfl
 have c1:w1.cell? ⟨b,1,none⟩=some v:=by rw[Lib.cell_of_heap hbk];rfl
 go_wp2_with (at_builtin;refine Lib.wpList_append_own_stringF _ rfl _ _ 50 9 rfl B 5 i0 Tryz.underlying50 Tryz.underlying9 hi hz0 hz1 hz2 _ _ _ rfl hown s rfl ?c3 ?c4 ?c5 ?_)
 case c3=>unfold maxLen;omega
 case c4=>omega
 case c5=>have:=hb1.size;omega
 intro v' w2 hown' hgrow _
 have hlt:b<w1.heap.size:=by
  rcases Nat.lt_or_ge b w1.heap.size with h'|h'
  ·exact h'
  ·simp[Array.getElem?_eq_none h']at hbk
 have hb2:w2.heap[b]? =some (.cells #[.pointer (some ⟨b,0,none⟩),v] 52 (0,0)):=by
  rw[hgrow.block b hlt (fun e=>hne e.symm)];exact hbk
 have d0:w2.cell? ⟨b,0,none⟩=some (.pointer (some ⟨b,0,none⟩)):=by rw[Lib.cell_of_heap hb2];rfl
 have d1:w2.cell? ⟨b,1,none⟩=some v:=by rw[Lib.cell_of_heap hb2];rfl
 have f1:w2.frozen? ⟨b,1,none⟩=false:=Lib.frozen_of_heap hb2 1
 obtain⟨ao,n',cap,rfl⟩:∃ao n' cap,v'= .slice ao n' cap:=by
  rcases hown'.2 with⟨hv,_⟩| ⟨g,cap,cur,fz,hv,_⟩
  ·exact⟨_,_,_,hv⟩
  ·exact⟨_,_,_,hv⟩
 go_wp2
 go_ret2
 refine⟨rfl,?_,?_,(hk1.grown hgrow (Lib.ownsRowF_kind hown)).setCell ⟨b,1,none⟩ rfl _⟩
 ·exact Lib.BuilderAtF.put (T:=52) (e:=5) hB hb2 (bs':=bs++Lib.strCells s) (by simpa[Lib.strCells_length]using hown') (by decide)
 ·exact(hb1.grown hgrow (by have:=hb1.size;omega) (fun k hk=>(hown.lt k hk).1)).setCell (p:=⟨b,1,none⟩) hB _
end Go.Proofs.YtikbnnljjeefgaaGreatDoor
