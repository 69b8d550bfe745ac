/- Parts of a proof: contracts of the functions that the laws reach. -/
import Derived.Test.YtmkggcjajcdlcaaGreatDoorQAmI
import Derived.Test.YtmkggcjajcdlcaaGreatDoorQLSqrt
import Derived.Test.YtmkggcjajcdlcaaGreatDoorQAh
import Derived.Test.YtmkggcjajcdlcaaGreatDoorQLaw
import Derived.Laws.BytesArg
import Derived.Laws.Strings2
import Derived.Laws.IdiomStrings
import Derived.Lib.ItoaNum
set_option maxHeartbeats 100000000
set_option linter.all false
open Go.Proofs.Tryz
namespace Go.Proofs.YtmkggcjajcdlcaaGreatDoor
open Go.RowKit
def gW (xs:List Nat):Prop:=xs.length≤2147483648
def cM (z:Int):Prop:=(digs z.natAbs).length≤2147483648
theorem cM.of_lt {z:Int} {k:Nat} (h:z.natAbs<4294967296^k) (hk:k≤2147483648):cM z:=Nat.le_trans (av h) hk
theorem cM.small {z:Int} (h:z.natAbs<4294967296):cM z:= .of_lt (k:=1) (by simpa using h) (by decide)
theorem nV {na nb:Bool} {xs ys:List Nat} (hw:Wd xs) (hw':Wd ys) (h1:gW xs) (h2:gW ys) {z:Int} (hz:af na xs+af nb ys=z):ab Tryz.prog 141 [dI na xs,dI nb ys] (.one (dZ z)):=
 xI (ax func141 rfl rfl) hw hw' (fun v u w h k=>by have:=xS v u na nb xs ys w h k h1 h2;rwa[hz]at this) (fun _ _ _ _ hS h=>cK hS h)
theorem ge {a b:Int} (h1:cM a) (h2:cM b):ab Tryz.prog 141 [dZ a,dZ b] (.one (dZ (a+b))):=nV (ai _) (ai _) h1 h2 (by rw[au,au])
theorem uM {na nb:Bool} {xs ys:List Nat} (hw:Wd xs) (hw':Wd ys) (h1:gW xs) (h2:gW ys) {z:Int} (hz:af na xs*af nb ys=z):ab Tryz.prog 143 [dI na xs,dI nb ys] (.one (dZ z)):=
 xI (ax func143 rfl rfl) hw hw' (fun v u w h k=>by have:=wH v u na nb xs ys w h k h1 h2;rwa[hz]at this) (fun _ _ _ _ hS h=>cK hS h)
theorem bP {a b:Int} (h1:cM a) (h2:cM b):ab Tryz.prog 143 [dZ a,dZ b] (.one (dZ (a*b))):=uM (ai _) (ai _) h1 h2 (by rw[au,au])
theorem rS {na nb:Bool} {xs ys:List Nat} (hw:Wd xs) (hw':Wd ys) (h1:gW xs) (h2:gW ys) {z:Int} (hz:af na xs*af nb ys=z):ab Tryz.prog 98 [dI na xs,dI nb ys] (.one (dZ z)):=
 xI (ax func98 rfl rfl) hw hw' (fun v u w h k=>by have:=uD v u na nb xs ys w h k h1 h2;rwa[hz]at this) (fun _ _ _ _ hS h=>cK hS h)
theorem bO {a b:Int} (h1:cM a) (h2:cM b):ab Tryz.prog 98 [dZ a,dZ b] (.one (dZ (a*b))):=rS (ai _) (ai _) h1 h2 (by rw[au,au])
theorem gt {na:Bool} {xs:List Nat} (hw:Wd xs) (h1:gW xs) {z:Int} (hz:(af na xs)=z):ab Tryz.prog 151 [dI na xs] (.one (dZ z)):=
 vh (ax func151 rfl rfl) hw (fun v w h=>by have:=gS v na xs w h h1;rwa[hz]at this) (fun _ _ _ _ hS h=>cK hS h)
theorem tC {na:Bool} {xs:List Nat} (hw:Wd xs) (h1:gW xs) {z:Int} (hz: -(af na xs)=z):ab Tryz.prog 206 [dI na xs] (.one (dZ z)):=
 vh (ax func206 rfl rfl) hw (fun v w h=>by have:=yp v na xs w h h1;rwa[hz]at this) (fun _ _ _ _ hS h=>cK hS h)
theorem me {a:Int} (h1:cM a):ab Tryz.prog 206 [dZ a] (.one (dZ (- a))):=tC (ai _) h1 (by rw[au])
theorem sX {na:Bool} {xs:List Nat} (hw:Wd xs) {z:Int} (hz: -(af na xs)=z):ab Tryz.prog 102 [dI na xs] (.one (dZ z)):=
 vh (ax func102 rfl rfl) hw (fun v w h=>by have:=tj v na xs w h;rwa[hz]at this) (fun _ _ _ _ hS h=>cK hS h)
theorem p9 (a:Int):ab Tryz.prog 102 [dZ a] (.one (dZ (- a))):=sX (ai _) (by rw[au])
theorem tf {S:Nat→Prop} {w w':World} {e:Ending} {z:Int} (hr:i7 z w e w'):jN S (.one (dN .i64 z)) w e w':=by
 obtain⟨rfl,hb⟩:=hr;exact⟨_,rfl,AV.M.val rfl,hb⟩
theorem gV {na:Bool} {xs:List Nat} (hw:Wd xs) {z:Int} (hz:(af na xs).sign=z):ab Tryz.prog 103 [dI na xs] (.one (dN .i64 z)):=
 vh (ax func103 rfl rfl) hw (fun v w h=>by have:=rj v na xs w h;first|rwa[hz]at this|rwa[oZ,hz]at this) (fun _ _ _ _ _ h=>tf h)
theorem ot (a:Int):ab Tryz.prog 103 [dZ a] (.one (dN .i64 a.sign)):=gV (ai _) (by rw[au])
theorem cE {na:Bool} {xs:List Nat} (hw:Wd xs) {b:Bool} (hb:ej na xs=b):ab Tryz.prog 221 [dI na xs] (.one (dB b)):=
 vh (ax func221 rfl rfl) hw (fun v w h=>by have:=tU v na xs w h;rwa[hb]at this) (fun _ _ _ _ _ h=>xu h)
theorem tV {na nb:Bool} {xs ys:List Nat} (hw:Wd xs) (hw':Wd ys) {z:Int} (hz:aO (af na xs) (af nb ys)=z):ab Tryz.prog 157 [dI na xs,dI nb ys] (.one (dN .i64 z)):=
 xI (ax func157 rfl rfl) hw hw' (fun v u w h k=>by have:=xV v u na nb xs ys w h k;rwa[hz]at this) (fun _ _ _ _ _ h=>tf h)
theorem sA (a b:Int):ab Tryz.prog 157 [dZ a,dZ b] (.one (dN .i64 (aO a b))):=tV (ai _) (ai _) (by rw[au,au])
theorem bK (k:Int) (h1: -9223372036854775808≤k) (h2:k<9223372036854775808):ab Tryz.prog 146 [dN .i64 k] (.one (dZ k)):=
 ⟨ax func146 rfl rfl,fun S w vs hS hv=>by
  match vs,hv with
  | [v],⟨h,_⟩=>
   obtain rfl:=b6 h;exact(l8 k h1 h2 w).mono fun e w' he=>cK hS he⟩
theorem gM (k:Int) (h1: -9223372036854775808≤k) (h2:k<9223372036854775808):ab Tryz.prog 105 [dN .i64 k] (.one (dZ k)):=
 ⟨ax func105 rfl rfl,fun S w vs hS hv=>by
  match vs,hv with
  | [v],⟨h,_⟩=>
   obtain rfl:=b6 h;exact(lg k h1 h2 w).mono fun e w' he=>cK hS he⟩
theorem tc {na:Bool} {xs:List Nat}:af na xs=0↔val xs=0:=by unfold af;cases na<;>simp
theorem oY {na nb:Bool} {xs ys:List Nat} (hw:Wd xs) (hw':Wd ys) (h1:gW xs) (h2:gW ys) (h0:af nb ys≠0) {q r:Int} (hq:(af na xs).fdiv (af nb ys)=q) (hr:(af na xs).fmod (af nb ys)=r):ab Tryz.prog 153 [dI na xs,dI nb ys] (.tup [dZ q,dZ r,dN .i64 0]):=
 xI (ax func153 rfl rfl) hw hw' (fun v u w h k=>by
  have hy:val ys≠0:=fun e=>h0 (tc.2 e)
  have:=ul v u na nb xs ys w h k h1 h2 (u9 (by have:=aK hw;unfold trim at this;unfold gW at h1;omega) (by omega)) hy
  rwa[hq,hr]at this) (fun _ _ _ _ hS h=>rx hS h)
theorem nd {na nb:Bool} {xs ys:List Nat} (hw:Wd xs) (hw':Wd ys) (h1:gW xs) (h2:gW ys) (h0:af nb ys≠0) {q r:Int} (hq:(af na xs).fdiv (af nb ys)=q) (hr:(af na xs).fmod (af nb ys)=r):ab Tryz.prog 165 [dI na xs,dI nb ys] (.tup [dZ q,dZ r,dN .i64 0]):=
 xI (ax func165 rfl rfl) hw hw' (fun v u w h k=>by
  have:=rM v u na nb xs ys w h k h1 h2 h0
  rwa[hq,hr]at this) (fun _ _ _ _ hS h=>rx hS h)
section
open Go.ChangeShapes Go.WideShapes Go.ChangeAt Go.RowKit Go.Joins
theorem yM (w:World) (hT:bZ (fun _=>False) w):bZ (fun _=>False) w:=hT
theorem si {f:FuncId} {ds:List DV} (h:ab Tryz.prog f ds (.one (dB true))) {w:World} (hT:bZ (fun _=>False) w) {vs:List Value} (hv:VM (fun _=>False) w ds vs):Calls Tryz.prog f vs.toArray w (qE true w):=
 (h.calls _ w vs (yM w hT) hv).mono fun e w' ⟨v,he,hm,hb⟩=>by
  obtain rfl:=b6 (show AV.M _ _ _ _ from hm);exact⟨he,hb⟩
end
def dW (xs:List Nat):DV:= .leaf (aW xs)
theorem ra {S:Nat→Prop} {w w':World} {e:Ending} {q r:Nat} (h:bZ S w) (hr:dR q r w e w'):jN S (.tup [dW (digs q),dW (digs r)]) w e w':=by
 obtain⟨A,n,c,B,m,d,rfl,hq,hr,hb⟩:=hr;refine⟨_,rfl,⟨[.slice A n c, .slice B m d],rfl,rfl,fun i x u h1 h2=>?_⟩,hb⟩
 match i with
 |0=>simp at h1 h2;subst h1 h2;exact iE (h.grow hb) hq
 |1=>simp at h1 h2;subst h1 h2;exact iE (h.grow hb) hr
 |i+2=>simp at h1
theorem ml {xs:List Nat} (hw:Wd xs):ab Tryz.prog 199 [dW xs] (.one (dW (trim xs))):=
 ⟨ax func199 rfl rfl,fun S w vs hS hv=>by
  match vs,hv with
  | [v],⟨h,_⟩=>
   obtain⟨A,n,c,rfl,hx⟩:=em h hw;refine(aH A n c xs w hx).mono ?_;rintro e w' ⟨rfl,rfl⟩;exact⟨_,rfl,iE hS hx.trim,Below.refl _ _⟩⟩
theorem j3 {xs:List Nat} (hw:Wd xs):ab Tryz.prog 162 [dW xs] (.one (dW (trim xs))):=
 ⟨ax func162 rfl rfl,fun S w vs hS hv=>by
  match vs,hv with
  | [v],⟨h,_⟩=>
   obtain⟨A,n,c,rfl,hx⟩:=em h hw;refine(aX A n c xs w hx).mono ?_;rintro e w' ⟨rfl,rfl⟩;exact⟨_,rfl,iE hS hx.trim,Below.refl _ _⟩⟩
theorem ji {a b:Nat} (h:(digs a).length≤2147483648) (hb:0<b):ab Tryz.prog 215 [dW (digs a),dW (digs b)] (.tup [dW (digs (a/b)),dW (digs (a%b))]):=
 ⟨ax func215 rfl rfl,fun S w vs hS hv=>by
  match vs,hv with
  | [v,u],⟨h1,h2,_⟩=>
   obtain⟨A,n,c,rfl,hx⟩:=em h1 (ai _);obtain⟨B,m,d,rfl,hy⟩:=em h2 (ai _);exact(u9 h hb A n c B m d w hx hy).mono fun e w' he=>ra hS he⟩
theorem nD {a b:Nat} (h:(digs a).length≤2147483648) (hb:0<b):ab Tryz.prog 164 [dW (digs a),dW (digs b)] (.tup [dW (digs (a/b)),dW (digs (a%b))]):=
 ⟨ax func164 rfl rfl,fun S w vs hS hv=>by
  match vs,hv with
  | [v,u],⟨h1,h2,_⟩=>
   obtain⟨A,n,c,rfl,hx⟩:=em h1 (ai _);obtain⟨B,m,d,rfl,hy⟩:=em h2 (ai _);exact(tl h hb A n c B m d w hx hy).mono fun e w' he=>ra hS he⟩
theorem dK {neg:Bool} {xs:List Nat} (hw:Wd xs) {z:Int} (hz:af neg xs=z):ab Tryz.prog 200 [dB neg,dW xs] (.one (dZ z)):=
 ⟨ax func200 rfl rfl,fun S w vs hS hv=>by
  match vs,hv with
  | [v,u],⟨h1,h2,_⟩=>
   obtain rfl:=b6 h1;obtain⟨A,n,c,rfl,hx⟩:=em h2 hw;exact(aT hx hz).mono fun e w' he=>cK hS he⟩
theorem nH {neg:Bool} {xs:List Nat} (hw:Wd xs) {z:Int} (hz:af neg xs=z):ab Tryz.prog 163 [dB neg,dW xs] (.one (dZ z)):=
 ⟨ax func163 rfl rfl,fun S w vs hS hv=>by
  match vs,hv with
  | [v,u],⟨h1,h2,_⟩=>
   obtain rfl:=b6 h1;obtain⟨A,n,c,rfl,hx⟩:=em h2 hw;exact(bt hx hz).mono fun e w' he=>cK hS he⟩
theorem oS {xs:List Nat} (hw:Wd xs) (hl:xs.length≤4294967296):ab Tryz.prog 120 [dW xs] (.one (dW xs)):=
 ⟨ax func120 rfl rfl,fun S w vs hS hv=>by
  match vs,hv with
  | [v],⟨h,_⟩=>
   obtain⟨A,n,c,rfl,hx⟩:=em h hw;refine(eR A n c xs w hx (by rw[← hx.len];exact hl)).mono ?_;rintro e w' ⟨A',n',c',zs,rfl,hz,rfl,hb⟩;exact⟨_,rfl,iE (hS.grow hb) hz,hb⟩⟩
theorem mb {xs:List Nat} (hw:Wd xs) (hl:xs.length≤2):ab Tryz.prog 152 [dW xs] (.one (dN .u64 (val xs))):=
 ⟨ax func152 rfl rfl,fun S w vs hS hv=>by
  match vs,hv with
  | [v],⟨h,_⟩=>
   obtain⟨A,n,c,rfl,hx⟩:=em h hw;refine(iI A n c xs w hx (by rw[← hx.len];exact hl)).mono ?_;rintro e w' ⟨rfl,hb⟩;exact⟨_,rfl,AV.M.val rfl,hb⟩⟩
theorem ov (n:Nat) (hn:n<18446744073709551616):ab Tryz.prog 208 [dN .u64 n] (.one (dW (digs n))):=
 ⟨ax func208 rfl rfl,fun S w vs hS hv=>by
  match vs,hv with
  | [v],⟨h,_⟩=>
   obtain rfl:=b6 h;refine(dl n hn w).mono ?_;rintro e w' ⟨A',n',c',zs,rfl,hz,rfl,hb⟩;exact⟨_,rfl,iE (hS.grow hb) hz,hb⟩⟩
theorem bF {n:Nat}:(digs n).length=0↔n=0:=by
 constructor
 ·intro h;exact b5.1 (List.eq_nil_of_length_eq_zero h)
 ·rintro rfl;rw[ar];rfl
theorem il {a b:Nat}:Nat.gcd b (a%b)=Nat.gcd a b:=by rw[Nat.gcd_comm a b,Nat.gcd_rec b a,Nat.gcd_comm]
theorem mi {na nb:Bool} {xs ys:List Nat} (hw:Wd xs) (hw':Wd ys) (h1:gW xs) (h2:gW ys):ab Tryz.prog 100 [dI na xs,dI nb ys] (.one (dZ (Nat.gcd (val xs) (val ys)))):=by
 have f1:(digs (val xs)).length≤2147483648:=by have:=aK hw;unfold trim at this;unfold gW at h1;omega
 have f2:(digs (val ys)).length≤2147483648:=by have:=aK hw';unfold trim at this;unfold gW at h2;omega
 refine kV func100 ?_;refine kQ (j3 hw) ?_;refine kQ (j3 hw') ?_;refine dO (Nat × Nat) (fun p=>Nat.gcd p.1 p.2=Nat.gcd (val xs) (val ys)∧(digs p.1).length≤2147483648∧(digs p.2).length≤2147483648) (fun p=>⟨[(4, .box 2 0),(5, .d (dW (digs p.1))),(6, .d (dW (digs p.2)))],[(2,some [.val (.bool false), .sl 0 []])]⟩) (fun p=>p.2) (val xs,val ys) ⟨rfl,f1,f2⟩ (weak ⟨rfl,rfl,rfl,trivial⟩ ⟨rfl,trivial⟩ rfl) ?_;rintro⟨u,v⟩ ⟨hg,g1,g2⟩;dsimp only at hg g1 g2 ⊢;refine kW ?_;refine ee rfl (fun h=>?_) (fun h=>?_)
 ·have hv:0<v:=by
   rcases Nat.eq_zero_or_pos v with hv|hv
   ·have:=of_decide_eq_true h;rw[bF.2 hv]at this;omega
   ·exact hv
  refine dD ?_;refine kW ?_;refine kQ (nD g1 hv) ?_;have hm:=Nat.mod_lt u hv;refine⟨(v,u%v),⟨il.trans hg,g2,Nat.le_trans (bk (Nat.le_of_lt hm)) g2⟩,hm,weak ⟨rfl,rfl,rfl,trivial⟩ ⟨rfl,trivial⟩ rfl⟩
 ·have hv:v=0:=by
   have:=of_decide_eq_false h;exact bF.1 (by omega)
  subst hv;rw[Nat.gcd_zero_right]at hg;refine eI ?_;refine kW ?_;refine aa (nH (neg:=false) (xs:=digs u) (ai _) (show af false (digs u)=((Nat.gcd (val xs) (val ys):Nat):Int) by rw[gc,← hg];rfl)) rfl rfl rfl rfl rfl rfl rfl ?_;exact kF
theorem uU {na nb:Bool} {xs ys:List Nat} (hw:Wd xs) (hw':Wd ys) (h1:gW xs) (h2:gW ys):ab Tryz.prog 205 [dI na xs,dI nb ys] (.one (dZ (Nat.gcd (val xs) (val ys)))):=by
 have f1:(digs (val xs)).length≤2147483648:=by have:=aK hw;unfold trim at this;unfold gW at h1;omega
 have f2:(digs (val ys)).length≤2147483648:=by have:=aK hw';unfold trim at this;unfold gW at h2;omega
 refine kV func205 ?_;refine kQ (ml hw) ?_;refine kQ (ml hw') ?_;refine dO (Nat × Nat) (fun p=>Nat.gcd p.1 p.2=Nat.gcd (val xs) (val ys)∧(digs p.1).length≤2147483648∧(digs p.2).length≤2147483648) (fun p=>⟨[(4, .box 2 0),(5, .d (dW (digs p.1))),(6, .d (dW (digs p.2)))],[(2,some [.val (.bool false), .sl 0 []])]⟩) (fun p=>p.2) (val xs,val ys) ⟨rfl,f1,f2⟩ (weak ⟨rfl,rfl,rfl,trivial⟩ ⟨rfl,trivial⟩ rfl) ?_;rintro⟨u,v⟩ ⟨hg,g1,g2⟩;dsimp only at hg g1 g2 ⊢
 by_cases hb:2<(digs v).length∨(2<(digs u).length∧0<(digs v).length)
 ·have hv:0<v:=by
   rcases Nat.eq_zero_or_pos v with hv|hv
   ·rw[hv,ar]at hb;simp at hb
   ·exact hv
  have hm:=Nat.mod_lt u hv
  by_cases h2:2<(digs v).length
  ·refine aM ?_
   refine an rfl ?_
   refine kO2 ?_
   refine kX ?_;refine kQ (ji g1 hv) ?_;exact⟨(v,u%v),⟨il.trans hg,g2,Nat.le_trans (bk (Nat.le_of_lt hm)) g2⟩,hm,weak ⟨rfl,rfl,rfl,trivial⟩ ⟨rfl,trivial⟩ rfl⟩
  ·have h3:2<(digs u).length∧0<(digs v).length:=by omega
   refine aM ?_;refine an rfl ?_
   refine kO2 ?_
   refine kE ?_
   refine kO3 ?_
   refine kT ?_
   refine kO3 ?_
   refine kX ?_;refine kQ (ji g1 hv) ?_;exact⟨(v,u%v),⟨il.trans hg,g2,Nat.le_trans (bk (Nat.le_of_lt hm)) g2⟩,hm,weak ⟨rfl,rfl,rfl,trivial⟩ ⟨rfl,trivial⟩ rfl⟩
 ·have hz:v=0∨(0<v∧(digs v).length≤2∧(digs u).length≤2):=by
   rcases Nat.eq_zero_or_pos v with hv|hv
   ·exact .inl hv
   ·have:0<(digs v).length:=by
     rcases Nat.eq_zero_or_pos (digs v).length with h|h
     ·have:=bF.1 h;omega
     ·exact h
    exact .inr ⟨hv,by omega,by omega⟩
  rcases hz with hv| ⟨hv,hv2,hu2⟩
  ·subst hv
   rw[Nat.gcd_zero_right]at hg;have hl0:(digs 0).length=0:=bF.2 rfl
   by_cases hu2:2<(digs u).length
   ·refine aM ?_
    refine an rfl ?_
    refine kO2 ?_
    refine kE ?_
    refine kO3 ?_
    refine kT ?_
    refine kO3 ?_
    refine kY ?_;refine fb (T:=TT) rfl ?_ ?_
    ·exact(by rw[hl0];rfl)
    refine kW ?_;refine aa (oS (ai u) (by omega)) rfl rfl rfl rfl rfl rfl rfl ?_;refine kW ?_;refine aa (dK (neg:=false) (xs:=digs u) (ai _) (show af false (digs u)=((Nat.gcd (val xs) (val ys):Nat):Int) by rw[gc,← hg];rfl)) rfl rfl rfl rfl rfl rfl rfl ?_;exact kF
   ·refine aM ?_
    refine an rfl ?_
    refine kO2 ?_
    refine kE ?_
    refine kO3 ?_
    refine kY ?_;refine fb (T:=TT) rfl ?_ ?_
    ·exact(by rw[hl0];rfl)
    refine kW ?_;refine aa (oS (ai u) (by omega)) rfl rfl rfl rfl rfl rfl rfl ?_;refine kW ?_;refine aa (dK (neg:=false) (xs:=digs u) (ai _) (show af false (digs u)=((Nat.gcd (val xs) (val ys):Nat):Int) by rw[gc,← hg];rfl)) rfl rfl rfl rfl rfl rfl rfl ?_;exact kF
  ·have hvl:0<(digs v).length:=by
    rcases Nat.eq_zero_or_pos (digs v).length with h|h
    ·have:=bF.1 h;omega
    ·exact h
   have hu64:u<18446744073709551616:=by have:=bH hu2;simpa using this
   have hv64:v<18446744073709551616:=by have:=bH hv2;simpa using this
   refine aM ?_;refine an rfl ?_
   refine kO2 ?_
   refine kE ?_
   refine kO3 ?_
   refine kY ?_;refine cP (T:=TT) rfl ?_ ?_
   ·exact beq_eq_false_iff_ne.2 (by omega)
   refine kW ?_;refine kQ (mb (ai u) hu2) ?_;refine kQ (mb (ai v) hv2) ?_;rw[ac,ac];refine dO (Nat × Nat) (fun p=>Nat.gcd p.1 p.2=Nat.gcd (val xs) (val ys)∧p.1<18446744073709551616∧p.2<18446744073709551616) (fun p=>⟨[(4, .box 2 0),(9, .d (dN .u64 p.1)),(10, .d (dN .u64 p.2))],[(2,some [.val (.bool false), .sl 0 []])]⟩) (fun p=>p.2) (u,v) ⟨hg,hu64,hv64⟩ (weak ⟨rfl,rfl,rfl,trivial⟩ ⟨rfl,trivial⟩ rfl) ?_;clear hg hu64 hv64 g1 g2 hu2 hv2 hvl hv hb;clear u v;rintro⟨u,v⟩ ⟨hg,hu,hv⟩;dsimp only at hg hu hv ⊢;rcases Nat.eq_zero_or_pos v with h0|h0
   ·subst h0
    rw[Nat.gcd_zero_right]at hg;refine kW ?_;refine kQ (ov u hu) ?_;refine aa (dK (neg:=false) (xs:=digs u) (ai _) (show af false (digs u)=((Nat.gcd (val xs) (val ys):Nat):Int) by rw[gc,← hg];rfl)) rfl rfl rfl rfl rfl rfl rfl ?_;exact kF
   ·refine aM ?_
    refine aM ?_;refine an rfl ?_;refine kO ?_;refine kB true ?_ ?_
    ·exact bne_iff_ne.2 (by omega)
    refine kW ?_;refine eQ rfl rfl rfl rfl ?_ rfl rfl (oR (by omega)) ?_
    ·rfl
    refine kW ?_;have hm:=Nat.mod_lt u h0;refine⟨(v,u%v),⟨il.trans hg,hv,by dsimp only;omega⟩,hm,weak ⟨rfl,rfl,?_,trivial⟩ ⟨rfl,trivial⟩ rfl⟩;show TV.d (.leaf (.val (.int .u64 ((u:Int).tmod v))))=TV.d (dN .u64 ((u%v:Nat):Int));rw[Int.ofNat_tmod];rfl
def Bs (l:List UInt8):ByteArray:=⟨l.toArray⟩
def dL (l:List UInt8):DV:=dS (Bs l)
def vL (l:List UInt8):Value:= .string (Bs l)
theorem bD (l:List UInt8):(Bs l).size=l.length:=by simp[Bs,ByteArray.size]
theorem gB (l:List UInt8):(Bs l).toList=l:=ByteArray.toList_mk l
theorem sG (a b:List UInt8):Bs a++Bs b=Bs (a++b):=by
 apply ByteArray.ext
 simp[Bs]
theorem ks (l:List UInt8) (i j:Nat):(Bs l).extract i j=Bs ((l.take j).drop i):=by
 apply ByteArray.ext
 simp[Bs,ByteArray.data_extract,List.extract_eq_take_drop,List.drop_take]
theorem iB {t:TypeId} {x y:Operand} {a b:List UInt8}:jz .eql t x y (vL a) (vL b)=some (.bool (decide (a=b))):=by
 show some (Value.bool ((Bs a).toList == (Bs b).toList))=_;rw[gB,gB]
 congr 2
 by_cases h:a=b<;>simp[h]
theorem kq {t:TypeId} {x y:Operand} {a b:List UInt8}:jz .neq t x y (vL a) (vL b)=some (.bool (!decide (a=b))):=by
 show some (Value.bool (!((Bs a).toList == (Bs b).toList)))=_;rw[gB,gB]
 congr 3
 by_cases h:a=b<;>simp[h]
theorem oz {t:TypeId} {x y:Operand} {a b:List UInt8} (h:a.length+b.length≤9223372036854775807):jz .add t x y (vL a) (vL b)=some (vL (a++b)):=by
 have h1:¬(((Bs a).size+(Bs b).size:Nat):Int) > IntKind.i64.max:=by
  rw[bD,bD,show IntKind.i64.max=9223372036854775807 from by decide];omega
 have:binOp .add t (vL a) (vL b)= .pure (vL (a++b)):=by
  simp only[binOp,vL,Op.stringOp,h1,if_false,sG]
  rfl
 show oF (do eqGuard .add t x y (vL a) (vL b);binOp .add t (vL a) (vL b))=_
 simp only[this]
 rfl
section
variable {P:Program} {T:TypeId→Option Ty} {n:Nat} {ops:Array Oper} {id:Nat} {draw:Bool} {K:AS→Prop} {s:AS} {k:Nat} {o:Oper} {os:List Oper} {fps:List FP}
theorem nN {t:TypeId} {ty:Ty} (hT:bY P t ty) (hs:ty.isStr=true):P.underlying t=some .string:=by
 obtain⟨d,hu,_,_,_,_,hst,_⟩:=hT.und;rw[hu,hst hs]
theorem qK (hT:∀t d,T t=some d→bY P t d) {t:TypeId} {ty:Ty} {x y:Operand} {l:List UInt8} {c:UInt8} {i:Nat} {ik:IntKind} (hi:l[i]? =some c) (h1:gd ops s o=some true) (h2:o.op= .index t x y) (h5:T t=some ty) (h6:ty.isStr=true) (h7:s.ev x= .d (.leaf (.val (vL l)))) (h8:s.ev y= .d (.leaf (.val (.int ik (i:Nat)))))
 (h3:bX n o.dst=true) (h4:kP draw ops (bC ops o ⟨.d (dN .u8 c.toNat),none⟩ []) k fps=true) (h:aY P T n ops id draw K (k+1) os (s.eff o.dst ⟨.d (dN .u8 c.toNat),none⟩) (bC ops o ⟨.d (dN .u8 c.toNat),none⟩ []::fps)):aY P T n ops id draw K k (o::os) s fps:=by
 refine .run h1 (.gen fun s2 ht _=>?_) h3 h4 h;have hx:=(bw ht (x:=x) (by simp[h2,Op.operands])).trans h7;have hy:=(bw ht (x:=y) (by simp[h2,Op.operands])).trans h8;have hu:=nN (hT _ _ h5) h6;have hl:i<l.length:=(List.getElem?_eq_some_iff.1 hi).1
 refine ay fun n S0 w0 g a w hM=>⟨.int .u8 c.toNat,w,?_,Below.refl _ _,AV.M.val rfl⟩
 unfold execOp;rw[h2];have hsz:=bD l
 have hget:(Bs l)[i]'(by rw[hsz];exact hl)=c:=by
  have:=(List.getElem?_eq_some_iff.1 hi).2;show(Bs l).data[i]'_=c
  simpa[Bs]using this
 simp only[b8 hM hx,b8 hM hy,vL,Sem.run_bind,run_index_string _ t (Bs l) ik i hu]
 rw[dif_pos (by rw[hsz];omega)]
 simp only[Result.andThen_ok,Int.toNat_natCast,hget]
 rfl
theorem pq (hT:∀t d,T t=some d→bY P t d) {t:TypeId} {ty:Ty} {x y:Operand} {l:List UInt8} {i:Nat} {ik:IntKind} (hi:i≤l.length) (h1:gd ops s o=some true) (h2:o.op= .slice t x (some y) none none) (h5:T t=some ty) (h6:ty.isStr=true) (h7:s.ev x= .d (.leaf (.val (vL l)))) (h8:s.ev y= .d (.leaf (.val (.int ik (i:Nat)))))
 (h3:bX n o.dst=true) (h4:kP draw ops (bC ops o ⟨.d (dL (l.drop i)),none⟩ []) k fps=true) (h:aY P T n ops id draw K (k+1) os (s.eff o.dst ⟨.d (dL (l.drop i)),none⟩) (bC ops o ⟨.d (dL (l.drop i)),none⟩ []::fps)):aY P T n ops id draw K k (o::os) s fps:=by
 refine .run h1 (.gen fun s2 ht _=>?_) h3 h4 h;have hx:=(bw ht (x:=x) (by simp[h2,Op.operands])).trans h7;have hy:=(bw ht (x:=y) (by simp[h2,Op.operands])).trans h8;have hu:=nN (hT _ _ h5) h6;refine ay fun n S0 w0 g a w hM=>⟨vL (l.drop i),w,?_,Below.refl _ _,AV.M.val rfl⟩
 unfold execOp;rw[h2]
 have e1:(Instr.sliceAt t (.string (Bs l)) (some (.int ik i)) none none).run P w= .ok (vL (l.drop i)) w:=by
  unfold Instr.sliceAt
  simp only[Sem.run_bind,run_underlying hu w,Result.andThen_ok]
  rw[run_slice_string_l w t (Bs l) hu ik i (by omega) (by rw[bD];omega),ks,bD]
  simp[vL]
 simp only[b8 hM hx,b8 hM hy,vL,Option.map_some,Option.map_none,Sem.run_bind,e1,Result.andThen_ok]
 rfl
end
theorem kx {t:TypeId} {x y:Operand} {a b:List UInt8} (h:a=b):jz .eql t x y (vL a) (vL b)=some (.bool true):=by rw[iB,decide_eq_true h]
theorem uk {t:TypeId} {x y:Operand} {a b:List UInt8} (h:a≠b):jz .neq t x y (vL a) (vL b)=some (.bool true):=by rw[kq,decide_eq_false h];rfl
theorem uH {t:TypeId} {x y:Operand} {a b:List UInt8} (h:a=b):jz .neq t x y (vL a) (vL b)=some (.bool false):=by rw[kq,decide_eq_true h];rfl
section
variable {P:Program} {T:TypeId→Option Ty} {n:Nat} {ops:Array Oper} {id:Nat} {draw:Bool} {K:AS→Prop} {s:AS} {k:Nat} {o:Oper} {os:List Oper} {fps:List FP}
theorem ye (hT:∀t d,T t=some d→bY P t d) {t:TypeId} {ty:Ty} {x y:Operand} {l:List UInt8} {i:Nat} {ik:IntKind} (hi:i≤l.length) (h1:gd ops s o=some true) (h2:o.op= .slice t x none (some y) none) (h5:T t=some ty) (h6:ty.isStr=true) (h7:s.ev x= .d (.leaf (.val (vL l)))) (h8:s.ev y= .d (.leaf (.val (.int ik (i:Nat)))))
 (h3:bX n o.dst=true) (h4:kP draw ops (bC ops o ⟨.d (dL (l.take i)),none⟩ []) k fps=true) (h:aY P T n ops id draw K (k+1) os (s.eff o.dst ⟨.d (dL (l.take i)),none⟩) (bC ops o ⟨.d (dL (l.take i)),none⟩ []::fps)):aY P T n ops id draw K k (o::os) s fps:=by
 refine .run h1 (.gen fun s2 ht _=>?_) h3 h4 h;have hx:=(bw ht (x:=x) (by simp[h2,Op.operands])).trans h7;have hy:=(bw ht (x:=y) (by simp[h2,Op.operands])).trans h8;have hu:=nN (hT _ _ h5) h6;refine ay fun n S0 w0 g a w hM=>⟨vL (l.take i),w,?_,Below.refl _ _,AV.M.val rfl⟩
 unfold execOp;rw[h2]
 have e1:(Instr.sliceAt t (.string (Bs l)) none (some (.int ik i)) none).run P w= .ok (vL (l.take i)) w:=by
  unfold Instr.sliceAt
  simp only[Sem.run_bind,run_underlying hu w,Result.andThen_ok]
  rw[run_slice_string_h w t (Bs l) hu ik i (by omega) (by rw[bD];omega),ks]
  simp[vL]
 simp only[b8 hM hx,b8 hM hy,vL,Option.map_some,Option.map_none,Sem.run_bind,e1,Result.andThen_ok]
 rfl
end
def dg (k:Nat):UInt8:=UInt8.ofNat (48+k)
def mq (n:Nat):List UInt8:=if _h:n=0 then []else mq (n/10)++[dg (n%10)]
termination_by n
decreasing_by omega
theorem fN:mq 0=[]:=by rw[mq];simp
theorem fq {n:Nat} (h:n≠0):mq n=mq (n/10)++[dg (n%10)]:=by rw[mq];simp[h]
def fmt (z:Int):List UInt8:=if z=0 then [48]else(if z<0 then [45]else [])++mq z.natAbs
def dv (c:UInt8):Nat:=c.toNat-48
def eF (c:UInt8):Prop:=48≤c.toNat∧c.toNat≤57
instance (c:UInt8):Decidable (eF c):=inferInstanceAs (Decidable (_∧_))
def num (l:List UInt8):Nat:=l.foldl (fun a c=>10*a+dv c) 0
theorem ip (l:List UInt8) (c:UInt8):num (l++[c])=10*num l+dv c:=by simp[num]
theorem wD {c:UInt8} (h:eF c):dv c<10:=by unfold dv;unfold eF at h;omega
theorem rG:∀(k n:Nat),n<10^k→(mq n).length≤k
 |0,n,h=>by simp at h;subst h;rw[fN];simp
 |k+1,n,h=>by
  by_cases h0:n=0
  ·subst h0;rw[fN];simp
  ·rw[fq h0,List.length_append]
   have:=rG k (n/10) (by rw[Nat.pow_succ]at h;omega)
   simp;omega
def gU (neg:Bool) (ds:List UInt8):Prop:=ds≠[]∧(∀c∈ds,eF c)∧((∀c r,ds=c::r→c≠48)∨(ds.length=1∧neg=false))
def wi (neg:Bool) (n:Nat):Int:=if neg then -(n:Int)else n
def sg (neg:Bool) (ds:List UInt8):List UInt8:=if neg then 45::ds else ds
def cL:List UInt8→Bool
 |c::_=>c == 45
 | []=>false
def js:List UInt8→List UInt8
 |c::r=>if c == 45 then r else c::r
 | []=>[]
theorem nS (s:List UInt8):(js s).length≤s.length:=by
 cases s with
 |nil=>exact Nat.le_refl _
 |cons c r=>show(if(c == 45)=true then r else c::r).length≤_;split <;>simp
theorem nT:∀(n:Nat) (l:List UInt8),l.length=n→(∀c∈l,eF c)→num l<10^n:=by
 intro n
 induction n with
 |zero=>intro l hl _;rw[List.eq_nil_of_length_eq_zero hl];decide
 |succ n ih=>
  intro l hl hd
  obtain⟨l',c,rfl⟩:∃l' c,l=l'++[c]:=by
   rcases List.eq_nil_or_concat l with h| ⟨l',c,h⟩
   ·subst h;simp at hl
   ·exact⟨l',c,by simpa using h⟩
  have:=ih l' (by simpa using hl) (fun c hc=>hd c (by simp[hc]));have hc:=wD (hd c (by simp));rw[ip,Nat.pow_succ];omega
def xF (s:List UInt8):Prop:=s.length≤65536∧gU (cL s) (js s)
open Classical in
noncomputable def pz (s:List UInt8):Int × Int:=if xF s then(wi (cL s) (num (js s)),0)else(0,2)
theorem wM {s:List UInt8} (h:xF s):pz s=(wi (cL s) (num (js s)),0):=by unfold pz;rw[if_pos h]
theorem jY {s:List UInt8} (h:¬xF s):pz s=(0,2):=by unfold pz;rw[if_neg h]
theorem e0:aZ 0=[.val (.bool false), .sl 0 []]:=by
 unfold aZ aI aW;rw[show(0:Int).natAbs=0 from rfl,ar];rfl
def dk:Nat→Nat→List UInt8
 |0,_=>[]
 |k+1,c=>dk k (c/10)++[dg (c%10)]
def dd (c:Nat):List UInt8:=if c=0 then [48]else mq c
theorem sW (k m c:Nat) (hm:0<m) (hc:c<10^k):mq (m*10^k+c)=mq m++dk k c:=by
 induction k generalizing c with
 |zero=>simp at hc;subst hc;simp[dk]
 |succ k ih=>
  rw[Nat.pow_succ]at hc;have hp:0<10^k:=Nat.pow_pos (by decide)
  have hmp:0<m*10^k:=Nat.mul_pos hm hp
  have e:m*10^(k+1)+c=10*(m*10^k)+c:=by rw[Nat.pow_succ,← Nat.mul_assoc,Nat.mul_comm]
  rw[e,fq (by omega),show(10*(m*10^k)+c)/10=m*10^k+c/10 by omega,show(10*(m*10^k)+c)%10=c%10 by omega,ih (c/10) (by omega),dk,List.append_assoc]
theorem vj (k:Nat):dk k 0=List.replicate k 48:=by
 induction k with
 |zero=>rfl
 |succ k ih=>rw[dk,Nat.zero_div,ih,List.replicate_succ'];rfl
theorem j4 {c:Nat} (h:c<10):dd c=[dg c]:=by
 unfold dd
 by_cases h0:c=0
 ·subst h0;rfl
 ·rw[if_neg h0,fq h0,show c/10=0 by omega,fN,show c%10=c by omega];rfl
theorem uf {c:Nat} (h:10≤c):dd c=dd (c/10)++[dg (c%10)]:=by
 unfold dd;rw[if_neg (by omega),if_neg (by omega),fq (by omega)]
theorem wF (k:Nat):∀c,c<10^(k+1)→(dd c).length≤k+1∧dk (k+1) c=List.replicate (k+1-(dd c).length) 48++dd c:=by
 induction k with
 |zero=>
  intro c hc;have:c<10:=by simpa using hc
  rw[j4 this,dk,dk,show c%10=c by omega];exact⟨Nat.le_refl _,rfl⟩
 |succ k ih=>
  intro c hc
  by_cases h:c<10
  ·rw[j4 h,dk,show c/10=0 by omega,vj,show c%10=c by omega]
   exact⟨by simp,by simp⟩
  ·rw[Nat.pow_succ]at hc
   obtain⟨h1,h2⟩:=ih (c/10) (by omega);rw[uf (by omega),dk,h2,List.length_append,List.length_singleton];refine⟨by omega,?_⟩;rw[show k+1+1-((dd (c/10)).length+1)=k+1-(dd (c/10)).length by omega,List.append_assoc]
theorem iz (u:Nat):Lib.decDigits u=dd u:=by
 induction u using Nat.strongRecOn with
 |_ u ih=>
  by_cases h:u<10
  ·rw[Lib.decDigits,dif_pos h,j4 h];rfl
  ·rw[Lib.decDigits,dif_neg h,uf (by omega),ih _ (by omega)];rfl
def lI (c:Nat):List UInt8:=List.replicate (9-(dd c).length) 48++dd c
theorem pY (m c:Nat) (hm:0<m) (hc:c<1000000000):mq (m*1000000000+c)=mq m++lI c:=by
 have h:=sW 9 m c hm (by simpa using hc);rw[show(10:Nat)^9=1000000000 from rfl]at h;rw[h,(wF 8 c (by simpa using hc)).2];rfl
theorem mQ {c:Nat} (hc:c<1000000000):1≤(dd c).length∧(dd c).length≤9:=by
 refine⟨?_,(wF 8 c (by simpa using hc)).1⟩;unfold dd
 by_cases h0:c=0
 ·rw[if_pos h0];exact Nat.le_refl _
 ·rw[if_neg h0,fq h0];simp
def ch (n:Nat):List Nat:=if _h:n=0 then []else n%1000000000::ch (n/1000000000)
termination_by n
decreasing_by omega
theorem gD:ch 0=[]:=by rw[ch];simp
theorem lc {n:Nat} (h:n≠0):ch n=n%1000000000::ch (n/1000000000):=by rw[ch];simp[h]
def xH:List Nat→List UInt8
 | []=>[]
 |c::r=>dd c++r.flatMap lI
theorem tn {l:List Nat} (h:l≠[]) (c:Nat):xH (l++[c])=xH l++lI c:=by
 cases l with
 |nil=>exact absurd rfl h
 |cons a r=>simp[xH,List.flatMap_append]
theorem uv:∀(k n:Nat),n<1000000000^k→(ch n).length≤k
 |0,n,h=>by simp at h;subst h;rw[gD];simp
 |k+1,n,h=>by
  by_cases h0:n=0
  ·subst h0;rw[gD];simp
  ·rw[lc h0]
   have:=uv k (n/1000000000) (by rw[Nat.pow_succ]at h;omega)
   simp;omega
theorem yh (n:Nat):∀c∈ch n,c<1000000000:=by
 induction n using Nat.strongRecOn with
 |_ n ih=>
  by_cases h:n=0
  ·subst h;rw[gD];simp
  ·rw[lc h]
   intro c hc;rcases List.mem_cons.1 hc with rfl|hc
   ·omega
   ·exact ih _ (by omega) c hc
theorem iF {xs:List Nat} (hw:Wd xs):(ch (val xs)).length≤2*xs.length:=by
 refine uv _ _ (Nat.lt_of_lt_of_le (cw hw) ?_);rw[Nat.pow_mul];exact Nat.pow_le_pow_left (by decide) _
theorem wQ {n:Nat} (h:n≠0):ch n≠[]:=by rw[lc h];simp
theorem xq (n:Nat):xH (ch n).reverse=mq n:=by
 induction n using Nat.strongRecOn with
 |_ n ih=>
  by_cases h:n=0
  ·subst h;rw[gD,fN];rfl
  ·rw[lc h,List.reverse_cons]
   by_cases h1:n/1000000000=0
   ·rw[h1,gD]
    have:n%1000000000=n:=by omega
    rw[this];show dd n++[]=_;rw[List.append_nil];unfold dd;rw[if_neg h]
   ·rw[tn (by simpa using wQ h1),ih _ (by omega),← pY _ _ (by omega) (by omega)]
    congr 1
    omega
theorem gy {a b:Int} (h1:cM a) (h2:cM b) {g:Nat} (hg:Nat.gcd a.natAbs b.natAbs=g):ab Tryz.prog 205 [dZ a,dZ b] (.one (dZ g)):=by
 have:=uU (na:=decide (a<0)) (nb:=decide (b<0)) (ai a.natAbs) (ai b.natAbs) h1 h2;rw[ac,ac,hg]at this;exact this
theorem iv {a b q r:Int} (h1:cM a) (h2:cM b) (h0:b≠0) (hq:a.fdiv b=q) (hr:a.fmod b=r):ab Tryz.prog 153 [dZ a,dZ b] (.tup [dZ q,dZ r,dN .i64 0]):=
 oY (ai _) (ai _) h1 h2 (by rw[au];exact h0) (by rw[au,au];exact hq) (by rw[au,au];exact hr)
theorem fi {a b:Int} (h1:cM a) (h2:cM b) {g:Nat} (hg:Nat.gcd a.natAbs b.natAbs=g):ab Tryz.prog 100 [dZ a,dZ b] (.one (dZ g)):=by
 have:=mi (na:=decide (a<0)) (nb:=decide (b<0)) (ai a.natAbs) (ai b.natAbs) h1 h2;rw[ac,ac,hg]at this;exact this
theorem lp {a b q r:Int} (h1:cM a) (h2:cM b) (h0:b≠0) (hq:a.fdiv b=q) (hr:a.fmod b=r):ab Tryz.prog 165 [dZ a,dZ b] (.tup [dZ q,dZ r,dN .i64 0]):=
 nd (ai _) (ai _) h1 h2 (by rw[au];exact h0) (by rw[au,au];exact hq) (by rw[au,au];exact hr)
theorem sw {a:Int} {k K:Nat} (hk:k≤4096) (hK:K≤2147483648) (hb:(max 1 a.natAbs)^k<4294967296^K) (h1:cM a) {z:Int} (hz:a^k=z):ab Tryz.prog 286 [dZ a,dN .i64 k] (.tup [dZ z,dN .i64 0]):=
 ⟨ax func286 rfl rfl,fun S w vs hS hv=>by
  match vs,hv with
  | [v,u],⟨h,h3,_⟩=>
   obtain rfl:=b6 h3;have:=yj v _ _ k K w (qb h) hk hK (by rw[ac];exact hb) h1;rw[au,hz]at this;exact this.mono fun e w' he=>ni hS he⟩
theorem qz {a:Int} {r:Nat} (ha:0≤a) (hl:(digs a.natAbs).length≤2147483) (h1:r*r≤a.natAbs) (h2:a.natAbs<(r+1)*(r+1)):ab Tryz.prog 156 [dZ a] (.tup [dZ r,dN .i64 0]):=by
 obtain⟨t,t1,t2,_,ht⟩:=sK (decide (a<0)) (digs a.natAbs) hl (by rw[au];exact ha);rw[ac]at t1 t2;obtain rfl:=ky h1 h2 t1 t2;exact vh (ax func156 rfl rfl) (ai _) ht (fun _ _ _ _ hS h=>ni hS h)
theorem o6 {a:Int} (h:a<0):ab Tryz.prog 156 [dZ a] (.tup [dZ 0,dN .i64 7]):=
 vh (ax func156 rfl rfl) (ai _) (fun v w hv=>tH _ _ (by rw[au];exact h) v w hv) (fun _ _ _ _ hS h=>ni hS h)
theorem oa {a z:Int} {b:Bool} (h1:cM a) (hz:eN a=(z,b)):ab Tryz.prog 90 [dZ a] (.tup [dN .i64 z,dB b]):=
 vh (ax func90 rfl rfl) (ai _) (fun v w hv=>by have:=xx v _ _ w hv h1;rw[au,hz]at this;exact this) (fun S w e w' hS h=>by
  obtain⟨rfl,hb⟩:=h;refine⟨_,rfl,⟨[.int .i64 z, .bool b],rfl,rfl,fun i x u h1 h2=>?_⟩,hb⟩
  match i with
  |0=>simp at h1 h2;subst h1 h2;exact AV.M.val rfl
  |1=>simp at h1 h2;subst h1 h2;exact AV.M.val rfl
  |i+2=>simp at h1)
end Go.Proofs.YtmkggcjajcdlcaaGreatDoor
