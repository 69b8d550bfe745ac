/- Parts of a proof: contracts of the functions that the laws reach. -/
import Derived.Test.YtikbnnljjeefgaaGreatDoorWAmI
import Derived.Test.YtikbnnljjeefgaaGreatDoorWLSqrt
import Derived.Test.YtikbnnljjeefgaaGreatDoorWAh
import Derived.Test.YtikbnnljjeefgaaGreatDoorWLaw
import Derived.Laws.BytesArg
import Derived.Laws.Strings2
import Derived.Laws.IdiomStrings
import Derived.Test.YtikbnnljjeefgaaGreatDoorWShelf
import Derived.Lib.Bytealg
set_option maxHeartbeats 100000000
set_option linter.all false
open Go.Proofs.Tryz
namespace Go.Proofs.YtikbnnljjeefgaaGreatDoor
open Go.RowKit
def oi (xs:List Nat):Prop:=xs.length≤2147483648
def eD (z:Int):Prop:=(digs z.natAbs).length≤2147483648
theorem eD.of_lt {z:Int} {k:Nat} (h:z.natAbs<4294967296^k) (hk:k≤2147483648):eD z:=Nat.le_trans (aO h) hk
theorem eD.small {z:Int} (h:z.natAbs<4294967296):eD z:= .of_lt (k:=1) (by simpa using h) (by decide)
theorem xg {na nb:Bool} {xs ys:List Nat} (hw:Wd xs) (hw':Wd ys) (h1:oi xs) (h2:oi ys) {z:Int} (hz:aq na xs+aq nb ys=z):aa Tryz.prog 232 [dI na xs,dI nb ys] (.one (dZ z)):=
 GH (ay func232 rfl rfl) hw hw' (fun v u w h k=>by have:=JO v u na nb xs ys w h k h1 h2;rwa[hz]at this) (fun _ _ _ _ hS h=>eP hS h)
theorem Cr {a b:Int} (h1:eD a) (h2:eD b):aa Tryz.prog 232 [dZ a,dZ b] (.one (dZ (a+b))):=xg (ar _) (ar _) h1 h2 (by rw[aU,aU])
theorem DZ {na nb:Bool} {xs ys:List Nat} (hw:Wd xs) (hw':Wd ys) (h1:oi xs) (h2:oi ys) {z:Int} (hz:aq na xs*aq nb ys=z):aa Tryz.prog 138 [dI na xs,dI nb ys] (.one (dZ z)):=
 GH (ay func138 rfl rfl) hw hw' (fun v u w h k=>by have:=G2 v u na nb xs ys w h k h1 h2;rwa[hz]at this) (fun _ _ _ _ hS h=>eP hS h)
theorem eU {a b:Int} (h1:eD a) (h2:eD b):aa Tryz.prog 138 [dZ a,dZ b] (.one (dZ (a*b))):=DZ (ar _) (ar _) h1 h2 (by rw[aU,aU])
theorem BR {na nb:Bool} {xs ys:List Nat} (hw:Wd xs) (hw':Wd ys) (h1:oi xs) (h2:oi ys) {z:Int} (hz:aq na xs+aq nb ys=z):aa Tryz.prog 180 [dI na xs,dI nb ys] (.one (dZ z)):=
 GH (ay func180 rfl rfl) hw hw' (fun v u w h k=>by have:=yh v u na nb xs ys w h k h1 h2;rwa[hz]at this) (fun _ _ _ _ hS h=>eP hS h)
theorem rl {a b:Int} (h1:eD a) (h2:eD b):aa Tryz.prog 180 [dZ a,dZ b] (.one (dZ (a+b))):=BR (ar _) (ar _) h1 h2 (by rw[aU,aU])
theorem Ck {na nb:Bool} {xs ys:List Nat} (hw:Wd xs) (hw':Wd ys) (h1:oi xs) (h2:oi ys) {z:Int} (hz:aq na xs*aq nb ys=z):aa Tryz.prog 104 [dI na xs,dI nb ys] (.one (dZ z)):=
 GH (ay func104 rfl rfl) hw hw' (fun v u w h k=>by have:=DY v u na nb xs ys w h k h1 h2;rwa[hz]at this) (fun _ _ _ _ hS h=>eP hS h)
theorem eL {a b:Int} (h1:eD a) (h2:eD b):aa Tryz.prog 104 [dZ a,dZ b] (.one (dZ (a*b))):=Ck (ar _) (ar _) h1 h2 (by rw[aU,aU])
theorem ER {na:Bool} {xs:List Nat} (hw:Wd xs) (h1:oi xs) {z:Int} (hz: -(aq na xs)=z):aa Tryz.prog 165 [dI na xs] (.one (dZ z)):=
 Ie (ay func165 rfl rfl) hw (fun v w h=>by have:=Jv v na xs w h h1;rwa[hz]at this) (fun _ _ _ _ hS h=>eP hS h)
theorem tF {a:Int} (h1:eD a):aa Tryz.prog 165 [dZ a] (.one (dZ (- a))):=ER (ar _) h1 (by rw[aU])
theorem yL {na:Bool} {xs:List Nat} (hw:Wd xs) {z:Int} (hz:(aq na xs)=z):aa Tryz.prog 102 [dI na xs] (.one (dZ z)):=
 Ie (ay func102 rfl rfl) hw (fun v w h=>by have:=eG v na xs w h;rwa[hz]at this) (fun _ _ _ _ hS h=>eP hS h)
theorem Bv {na:Bool} {xs:List Nat} (hw:Wd xs) {z:Int} (hz: -(aq na xs)=z):aa Tryz.prog 199 [dI na xs] (.one (dZ z)):=
 Ie (ay func199 rfl rfl) hw (fun v w h=>by have:=DJ v na xs w h;rwa[hz]at this) (fun _ _ _ _ hS h=>eP hS h)
theorem lY (a:Int):aa Tryz.prog 199 [dZ a] (.one (dZ (- a))):=Bv (ar _) (by rw[aU])
theorem yk {S:Nat→Prop} {w w':World} {e:Ending} {z:Int} (hr:qd z w e w'):rG S (.one (dN .i64 z)) w e w':=by
 obtain⟨rfl,hb⟩:=hr;exact⟨_,rfl,AV.M.val rfl,hb⟩
theorem nV {na:Bool} {xs:List Nat} (hw:Wd xs) {z:Int} (hz:(aq na xs).sign=z):aa Tryz.prog 129 [dI na xs] (.one (dN .i64 z)):=
 Ie (ay func129 rfl rfl) hw (fun v w h=>by have:=zi v na xs w h;first|rwa[hz]at this|rwa[wA,hz]at this) (fun _ _ _ _ _ h=>yk h)
theorem y4 (a:Int):aa Tryz.prog 129 [dZ a] (.one (dN .i64 a.sign)):=nV (ar _) (by rw[aU])
theorem lV {na:Bool} {xs:List Nat} (hw:Wd xs) {z:Int} (hz:(aq na xs).sign=z):aa Tryz.prog 96 [dI na xs] (.one (dN .i64 z)):=
 Ie (ay func96 rfl rfl) hw (fun v w h=>by have:=zV v na xs w h;first|rwa[hz]at this|rwa[wA,hz]at this) (fun _ _ _ _ _ h=>yk h)
theorem kw (a:Int):aa Tryz.prog 96 [dZ a] (.one (dN .i64 a.sign)):=lV (ar _) (by rw[aU])
theorem fA {na:Bool} {xs:List Nat} (hw:Wd xs) {b:Bool} (hb:ef na xs=b):aa Tryz.prog 128 [dI na xs] (.one (dB b)):=
 Ie (ay func128 rfl rfl) hw (fun v w h=>by have:=Fq v na xs w h;rwa[hb]at this) (fun _ _ _ _ _ h=>yf h)
theorem eJ {na:Bool} {xs:List Nat} (hw:Wd xs) {b:Bool} (hb:ef na xs=b):aa Tryz.prog 95 [dI na xs] (.one (dB b)):=
 Ie (ay func95 rfl rfl) hw (fun v w h=>by have:=CO v na xs w h;rwa[hb]at this) (fun _ _ _ _ _ h=>yf h)
theorem D8 {na nb:Bool} {xs ys:List Nat} (hw:Wd xs) (hw':Wd ys) {z:Int} (hz:bQ (aq na xs) (aq nb ys)=z):aa Tryz.prog 90 [dI na xs,dI nb ys] (.one (dN .i64 z)):=
 GH (ay func90 rfl rfl) hw hw' (fun v u w h k=>by have:=JF v u na nb xs ys w h k;rwa[hz]at this) (fun _ _ _ _ _ h=>yk h)
theorem BO (a b:Int):aa Tryz.prog 90 [dZ a,dZ b] (.one (dN .i64 (bQ a b))):=D8 (ar _) (ar _) (by rw[aU,aU])
theorem fS (k:Int) (h1: -9223372036854775808≤k) (h2:k<9223372036854775808):aa Tryz.prog 89 [dN .i64 k] (.one (dZ k)):=
 ⟨ay func89 rfl rfl,fun S w vs hS hv=>by
  match vs,hv with
  | [v],⟨h,_⟩=>
   obtain rfl:=bP h;exact(sV k h1 h2 w).mono fun e w' he=>eP hS he⟩
theorem cX (k:Int) (h1: -9223372036854775808≤k) (h2:k<9223372036854775808):aa Tryz.prog 65 [dN .i64 k] (.one (dZ k)):=
 ⟨ay func65 rfl rfl,fun S w vs hS hv=>by
  match vs,hv with
  | [v],⟨h,_⟩=>
   obtain rfl:=bP h;exact(qk k h1 h2 w).mono fun e w' he=>eP hS he⟩
theorem FY {na nb:Bool} {xs ys:List Nat} {b:Bool} (hw:Wd xs) (hw':Wd ys) (hb:sameB na nb xs ys=b):aa Tryz.prog 66 [dI na xs,dI nb ys] (.one (dB b)):=
 GH (ay func66 rfl rfl) hw hw' (fun v u w h k=>by have:=FI v u na nb xs ys w h k;rwa[hb]at this) (fun _ _ _ _ _ h=>yf h)
theorem Eo (a b:Int):aa Tryz.prog 66 [dZ a,dZ b] (.one (dB (decide (a=b)))):=FY (ar _) (ar _) (AQ a b)
theorem Eb {na:Bool} {xs:List Nat}:aq na xs=0↔val xs=0:=by unfold aq;cases na<;>simp
theorem wT {na nb:Bool} {xs ys:List Nat} (hw:Wd xs) (hw':Wd ys) (h1:oi xs) (h2:oi ys) (h0:aq nb ys≠0) {q r:Int} (hq:(aq na xs).fdiv (aq nb ys)=q) (hr:(aq na xs).fmod (aq nb ys)=r):aa Tryz.prog 193 [dI na xs,dI nb ys] (.tup [dZ q,dZ r,dN .i64 0]):=
 GH (ay func193 rfl rfl) hw hw' (fun v u w h k=>by
  have hy:val ys≠0:=fun e=>h0 (Eb.2 e)
  have:=CB v u na nb xs ys w h k h1 h2 (G5 (by have:=bF hw;unfold trim at this;unfold oi at h1;omega) (by omega)) hy
  rwa[hq,hr]at this) (fun _ _ _ _ hS h=>Al hS h)
theorem tW {na nb:Bool} {xs ys:List Nat} (hw:Wd xs) (hw':Wd ys) (h1:oi xs) (h2:oi ys) (h0:aq nb ys≠0) {q r:Int} (hq:(aq na xs).fdiv (aq nb ys)=q) (hr:(aq na xs).fmod (aq nb ys)=r):aa Tryz.prog 149 [dI na xs,dI nb ys] (.tup [dZ q,dZ r,dN .i64 0]):=
 GH (ay func149 rfl rfl) hw hw' (fun v u w h k=>by
  have:=BI v u na nb xs ys w h k h1 h2 h0
  rwa[hq,hr]at this) (fun _ _ _ _ hS h=>Al hS h)
section
open Go.ChangeShapes Go.WideShapes Go.ChangeAt Go.RowKit Go.Joins
theorem KA (w:World) (hT:dO (fun _=>False) w):dO (fun _=>False) w:=hT
theorem sL {f:FuncId} {ds:List DV} (h:aa Tryz.prog f ds (.one (dB true))) {w:World} (hT:dO (fun _=>False) w) {vs:List Value} (hv:VM (fun _=>False) w ds vs):Calls Tryz.prog f vs.toArray w (oZ true w):=
 (h.calls _ w vs (KA w hT) hv).mono fun e w' ⟨v,he,hm,hb⟩=>by
  obtain rfl:=bP (show AV.M _ _ _ _ from hm);exact⟨he,hb⟩
end
def dW (xs:List Nat):DV:= .leaf (aW xs)
theorem zY {S:Nat→Prop} {w w':World} {e:Ending} {q r:Nat} (h:dO S w) (hr:ir q r w e w'):rG S (.tup [dW (digs q),dW (digs r)]) w e w':=by
 obtain⟨A,n,c,B,m,d,rfl,hq,hr,hb⟩:=hr;refine⟨_,rfl,⟨[.slice A n c, .slice B m d],rfl,rfl,fun i x u h1 h2=>?_⟩,hb⟩
 match i with
 |0=>simp at h1 h2;subst h1 h2;exact oL (h.grow hb) hq
 |1=>simp at h1 h2;subst h1 h2;exact oL (h.grow hb) hr
 |i+2=>simp at h1
theorem s8 {xs:List Nat} (hw:Wd xs):aa Tryz.prog 137 [dW xs] (.one (dW (trim xs))):=
 ⟨ay func137 rfl rfl,fun S w vs hS hv=>by
  match vs,hv with
  | [v],⟨h,_⟩=>
   obtain⟨A,n,c,rfl,hx⟩:=gM h hw;refine(bC A n c xs w hx).mono ?_;rintro e w' ⟨rfl,rfl⟩;exact⟨_,rfl,oL hS hx.trim,Below.refl _ _⟩⟩
theorem pL {xs:List Nat} (hw:Wd xs):aa Tryz.prog 146 [dW xs] (.one (dW (trim xs))):=
 ⟨ay func146 rfl rfl,fun S w vs hS hv=>by
  match vs,hv with
  | [v],⟨h,_⟩=>
   obtain⟨A,n,c,rfl,hx⟩:=gM h hw;refine(bX A n c xs w hx).mono ?_;rintro e w' ⟨rfl,rfl⟩;exact⟨_,rfl,oL hS hx.trim,Below.refl _ _⟩⟩
theorem oB {a b:Nat} (h:(digs a).length≤2147483648) (hb:0<b):aa Tryz.prog 160 [dW (digs a),dW (digs b)] (.tup [dW (digs (a/b)),dW (digs (a%b))]):=
 ⟨ay func160 rfl rfl,fun S w vs hS hv=>by
  match vs,hv with
  | [v,u],⟨h1,h2,_⟩=>
   obtain⟨A,n,c,rfl,hx⟩:=gM h1 (ar _);obtain⟨B,m,d,rfl,hy⟩:=gM h2 (ar _);exact(G5 h hb A n c B m d w hx hy).mono fun e w' he=>zY hS he⟩
theorem uf {a b:Nat} (h:(digs a).length≤2147483648) (hb:0<b):aa Tryz.prog 147 [dW (digs a),dW (digs b)] (.tup [dW (digs (a/b)),dW (digs (a%b))]):=
 ⟨ay func147 rfl rfl,fun S w vs hS hv=>by
  match vs,hv with
  | [v,u],⟨h1,h2,_⟩=>
   obtain⟨A,n,c,rfl,hx⟩:=gM h1 (ar _);obtain⟨B,m,d,rfl,hy⟩:=gM h2 (ar _);exact(CH h hb A n c B m d w hx hy).mono fun e w' he=>zY hS he⟩
theorem gG {neg:Bool} {xs:List Nat} (hw:Wd xs) {z:Int} (hz:aq neg xs=z):aa Tryz.prog 133 [dB neg,dW xs] (.one (dZ z)):=
 ⟨ay func133 rfl rfl,fun S w vs hS hv=>by
  match vs,hv with
  | [v,u],⟨h1,h2,_⟩=>
   obtain rfl:=bP h1;obtain⟨A,n,c,rfl,hx⟩:=gM h2 hw;exact(bR hx hz).mono fun e w' he=>eP hS he⟩
theorem tN {neg:Bool} {xs:List Nat} (hw:Wd xs) {z:Int} (hz:aq neg xs=z):aa Tryz.prog 99 [dB neg,dW xs] (.one (dZ z)):=
 ⟨ay func99 rfl rfl,fun S w vs hS hv=>by
  match vs,hv with
  | [v,u],⟨h1,h2,_⟩=>
   obtain rfl:=bP h1;obtain⟨A,n,c,rfl,hx⟩:=gM h2 hw;exact(cW hx hz).mono fun e w' he=>eP hS he⟩
theorem mx {xs:List Nat} (hw:Wd xs) (hl:xs.length≤4294967296):aa Tryz.prog 47 [dW xs] (.one (dW xs)):=
 ⟨ay func47 rfl rfl,fun S w vs hS hv=>by
  match vs,hv with
  | [v],⟨h,_⟩=>
   obtain⟨A,n,c,rfl,hx⟩:=gM h hw;refine(ja A n c xs w hx (by rw[← hx.len];exact hl)).mono ?_;rintro e w' ⟨A',n',c',zs,rfl,hz,rfl,hb⟩;exact⟨_,rfl,oL (hS.grow hb) hz,hb⟩⟩
theorem sQ {xs:List Nat} (hw:Wd xs) (hl:xs.length≤2):aa Tryz.prog 161 [dW xs] (.one (dN .u64 (val xs))):=
 ⟨ay func161 rfl rfl,fun S w vs hS hv=>by
  match vs,hv with
  | [v],⟨h,_⟩=>
   obtain⟨A,n,c,rfl,hx⟩:=gM h hw;refine(qQ A n c xs w hx (by rw[← hx.len];exact hl)).mono ?_;rintro e w' ⟨rfl,hb⟩;exact⟨_,rfl,AV.M.val rfl,hb⟩⟩
theorem xG (n:Nat) (hn:n<18446744073709551616):aa Tryz.prog 134 [dN .u64 n] (.one (dW (digs n))):=
 ⟨ay func134 rfl rfl,fun S w vs hS hv=>by
  match vs,hv with
  | [v],⟨h,_⟩=>
   obtain rfl:=bP h;refine(fV n hn w).mono ?_;rintro e w' ⟨A',n',c',zs,rfl,hz,rfl,hb⟩;exact⟨_,rfl,oL (hS.grow hb) hz,hb⟩⟩
theorem cE {n:Nat}:(digs n).length=0↔n=0:=by
 constructor
 ·intro h;exact eN.1 (List.eq_nil_of_length_eq_zero h)
 ·rintro rfl;rw[aK];rfl
theorem m6 {a b:Nat}:Nat.gcd b (a%b)=Nat.gcd a b:=by rw[Nat.gcd_comm a b,Nat.gcd_rec b a,Nat.gcd_comm]
theorem sI {na nb:Bool} {xs ys:List Nat} (hw:Wd xs) (hw':Wd ys) (h1:oi xs) (h2:oi ys):aa Tryz.prog 98 [dI na xs,dI nb ys] (.one (dZ (Nat.gcd (val xs) (val ys)))):=by
 have f1:(digs (val xs)).length≤2147483648:=by have:=bF hw;unfold trim at this;unfold oi at h1;omega
 have f2:(digs (val ys)).length≤2147483648:=by have:=bF hw';unfold trim at this;unfold oi at h2;omega
 refine kV func98 ?_;refine kQ (pL hw) ?_;refine kQ (pL hw') ?_;refine aS (Nat × Nat) (fun p=>Nat.gcd p.1 p.2=Nat.gcd (val xs) (val ys)∧(digs p.1).length≤2147483648∧(digs p.2).length≤2147483648) (fun p=>⟨[(4, .box 2 0),(5, .d (dW (digs p.1))),(6, .d (dW (digs p.2)))],[(2,some [.val (.bool false), .sl 0 []])]⟩) (fun p=>p.2) (val xs,val ys) ⟨rfl,f1,f2⟩ (weak ⟨rfl,rfl,rfl,trivial⟩ ⟨rfl,trivial⟩ rfl) ?_;rintro⟨u,v⟩ ⟨hg,g1,g2⟩;dsimp only at hg g1 g2 ⊢;refine kW ?_;refine f6 rfl (fun h=>?_) (fun h=>?_)
 ·have hv:0<v:=by
   rcases Nat.eq_zero_or_pos v with hv|hv
   ·have:=of_decide_eq_true h;rw[cE.2 hv]at this;omega
   ·exact hv
  refine bM ?_;refine kW ?_;refine kQ (uf g1 hv) ?_;have hm:=Nat.mod_lt u hv;refine⟨(v,u%v),⟨m6.trans hg,g2,Nat.le_trans (dq (Nat.le_of_lt hm)) g2⟩,hm,weak ⟨rfl,rfl,rfl,trivial⟩ ⟨rfl,trivial⟩ rfl⟩
 ·have hv:v=0:=by
   have:=of_decide_eq_false h;exact cE.1 (by omega)
  subst hv;rw[Nat.gcd_zero_right]at hg;refine cV ?_;refine kW ?_;refine ae (tN (neg:=false) (xs:=digs u) (ar _) (show aq false (digs u)=((Nat.gcd (val xs) (val ys):Nat):Int) by rw[kh,← hg];rfl)) rfl rfl rfl rfl rfl rfl rfl ?_;exact kF
theorem we {na nb:Bool} {xs ys:List Nat} (hw:Wd xs) (hw':Wd ys) (h1:oi xs) (h2:oi ys):aa Tryz.prog 131 [dI na xs,dI nb ys] (.one (dZ (Nat.gcd (val xs) (val ys)))):=by
 have f1:(digs (val xs)).length≤2147483648:=by have:=bF hw;unfold trim at this;unfold oi at h1;omega
 have f2:(digs (val ys)).length≤2147483648:=by have:=bF hw';unfold trim at this;unfold oi at h2;omega
 refine kV func131 ?_;refine kQ (s8 hw) ?_;refine kQ (s8 hw') ?_;refine aS (Nat × Nat) (fun p=>Nat.gcd p.1 p.2=Nat.gcd (val xs) (val ys)∧(digs p.1).length≤2147483648∧(digs p.2).length≤2147483648) (fun p=>⟨[(4, .box 2 0),(5, .d (dW (digs p.1))),(6, .d (dW (digs p.2)))],[(2,some [.val (.bool false), .sl 0 []])]⟩) (fun p=>p.2) (val xs,val ys) ⟨rfl,f1,f2⟩ (weak ⟨rfl,rfl,rfl,trivial⟩ ⟨rfl,trivial⟩ rfl) ?_;rintro⟨u,v⟩ ⟨hg,g1,g2⟩;dsimp only at hg g1 g2 ⊢
 by_cases hb:2<(digs v).length∨(2<(digs u).length∧0<(digs v).length)
 ·have hv:0<v:=by
   rcases Nat.eq_zero_or_pos v with hv|hv
   ·rw[hv,aK]at hb;simp at hb
   ·exact hv
  have hm:=Nat.mod_lt u hv
  by_cases h2:2<(digs v).length
  ·refine av ?_
   refine an rfl ?_
   refine kO2 ?_
   refine kX ?_;refine kQ (oB g1 hv) ?_;exact⟨(v,u%v),⟨m6.trans hg,g2,Nat.le_trans (dq (Nat.le_of_lt hm)) g2⟩,hm,weak ⟨rfl,rfl,rfl,trivial⟩ ⟨rfl,trivial⟩ rfl⟩
  ·have h3:2<(digs u).length∧0<(digs v).length:=by omega
   refine av ?_;refine an rfl ?_
   refine kO2 ?_
   refine kE ?_
   refine kO3 ?_
   refine kT ?_
   refine kO3 ?_
   refine kX ?_;refine kQ (oB g1 hv) ?_;exact⟨(v,u%v),⟨m6.trans hg,g2,Nat.le_trans (dq (Nat.le_of_lt hm)) g2⟩,hm,weak ⟨rfl,rfl,rfl,trivial⟩ ⟨rfl,trivial⟩ rfl⟩
 ·have hz:v=0∨(0<v∧(digs v).length≤2∧(digs u).length≤2):=by
   rcases Nat.eq_zero_or_pos v with hv|hv
   ·exact .inl hv
   ·have:0<(digs v).length:=by
     rcases Nat.eq_zero_or_pos (digs v).length with h|h
     ·have:=cE.1 h;omega
     ·exact h
    exact .inr ⟨hv,by omega,by omega⟩
  rcases hz with hv| ⟨hv,hv2,hu2⟩
  ·subst hv
   rw[Nat.gcd_zero_right]at hg;have hl0:(digs 0).length=0:=cE.2 rfl
   by_cases hu2:2<(digs u).length
   ·refine av ?_
    refine an rfl ?_
    refine kO2 ?_
    refine kE ?_
    refine kO3 ?_
    refine kT ?_
    refine kO3 ?_
    refine kY ?_;refine eY (T:=TT) rfl ?_ ?_
    ·exact(by rw[hl0];rfl)
    refine kW ?_;refine ae (mx (ar u) (by omega)) rfl rfl rfl rfl rfl rfl rfl ?_;refine kW ?_;refine ae (gG (neg:=false) (xs:=digs u) (ar _) (show aq false (digs u)=((Nat.gcd (val xs) (val ys):Nat):Int) by rw[kh,← hg];rfl)) rfl rfl rfl rfl rfl rfl rfl ?_;exact kF
   ·refine av ?_
    refine an rfl ?_
    refine kO2 ?_
    refine kE ?_
    refine kO3 ?_
    refine kY ?_;refine eY (T:=TT) rfl ?_ ?_
    ·exact(by rw[hl0];rfl)
    refine kW ?_;refine ae (mx (ar u) (by omega)) rfl rfl rfl rfl rfl rfl rfl ?_;refine kW ?_;refine ae (gG (neg:=false) (xs:=digs u) (ar _) (show aq false (digs u)=((Nat.gcd (val xs) (val ys):Nat):Int) by rw[kh,← hg];rfl)) rfl rfl rfl rfl rfl rfl rfl ?_;exact kF
  ·have hvl:0<(digs v).length:=by
    rcases Nat.eq_zero_or_pos (digs v).length with h|h
    ·have:=cE.1 h;omega
    ·exact h
   have hu64:u<18446744073709551616:=by have:=cL hu2;simpa using this
   have hv64:v<18446744073709551616:=by have:=cL hv2;simpa using this
   refine av ?_;refine an rfl ?_
   refine kO2 ?_
   refine kE ?_
   refine kO3 ?_
   refine kY ?_;refine dD (T:=TT) rfl ?_ ?_
   ·exact beq_eq_false_iff_ne.2 (by omega)
   refine kW ?_;refine kQ (sQ (ar u) hu2) ?_;refine kQ (sQ (ar v) hv2) ?_;rw[af,af];refine aS (Nat × Nat) (fun p=>Nat.gcd p.1 p.2=Nat.gcd (val xs) (val ys)∧p.1<18446744073709551616∧p.2<18446744073709551616) (fun p=>⟨[(4, .box 2 0),(9, .d (dN .u64 p.1)),(10, .d (dN .u64 p.2))],[(2,some [.val (.bool false), .sl 0 []])]⟩) (fun p=>p.2) (u,v) ⟨hg,hu64,hv64⟩ (weak ⟨rfl,rfl,rfl,trivial⟩ ⟨rfl,trivial⟩ rfl) ?_;clear hg hu64 hv64 g1 g2 hu2 hv2 hvl hv hb;clear u v;rintro⟨u,v⟩ ⟨hg,hu,hv⟩;dsimp only at hg hu hv ⊢;rcases Nat.eq_zero_or_pos v with h0|h0
   ·subst h0
    rw[Nat.gcd_zero_right]at hg;refine kW ?_;refine kQ (xG u hu) ?_;refine ae (gG (neg:=false) (xs:=digs u) (ar _) (show aq false (digs u)=((Nat.gcd (val xs) (val ys):Nat):Int) by rw[kh,← hg];rfl)) rfl rfl rfl rfl rfl rfl rfl ?_;exact kF
   ·refine av ?_
    refine av ?_;refine an rfl ?_;refine kO ?_;refine kB true ?_ ?_
    ·exact bne_iff_ne.2 (by omega)
    refine kW ?_;refine aP rfl rfl rfl rfl ?_ rfl rfl (xf (by omega)) ?_
    ·rfl
    refine kW ?_;have hm:=Nat.mod_lt u h0;refine⟨(v,u%v),⟨m6.trans hg,hv,by dsimp only;omega⟩,hm,weak ⟨rfl,rfl,?_,trivial⟩ ⟨rfl,trivial⟩ rfl⟩;show TV.d (.leaf (.val (.int .u64 ((u:Int).tmod v))))=TV.d (dN .u64 ((u%v:Nat):Int));rw[Int.ofNat_tmod];rfl
def Bs (l:List UInt8):ByteArray:=⟨l.toArray⟩
def dL (l:List UInt8):DV:=dS (Bs l)
def vL (l:List UInt8):Value:= .string (Bs l)
theorem Er (s:ByteArray):Bs s.data.toList=s:=rfl
theorem aB (l:List UInt8):(Bs l).size=l.length:=by simp[Bs,ByteArray.size]
theorem gX (l:List UInt8):(Bs l).toList=l:=ByteArray.toList_mk l
theorem AP (a b:List UInt8):Bs a++Bs b=Bs (a++b):=by
 apply ByteArray.ext
 simp[Bs]
theorem jJ (l:List UInt8) (i j:Nat):(Bs l).extract i j=Bs ((l.take j).drop i):=by
 apply ByteArray.ext
 simp[Bs,ByteArray.data_extract,List.extract_eq_take_drop,List.drop_take]
theorem jk {t:TypeId} {x y:Operand} {a b:List UInt8}:me .eql t x y (vL a) (vL b)=some (.bool (decide (a=b))):=by
 show some (Value.bool ((Bs a).toList == (Bs b).toList))=_;rw[gX,gX]
 congr 2
 by_cases h:a=b<;>simp[h]
theorem m7 {t:TypeId} {x y:Operand} {a b:List UInt8}:me .neq t x y (vL a) (vL b)=some (.bool (!decide (a=b))):=by
 show some (Value.bool (!((Bs a).toList == (Bs b).toList)))=_;rw[gX,gX]
 congr 3
 by_cases h:a=b<;>simp[h]
theorem ej {t:TypeId} {x y:Operand} {a b:List UInt8} (h:a.length+b.length≤9223372036854775807):me .add t x y (vL a) (vL b)=some (vL (a++b)):=by
 have h1:¬(((Bs a).size+(Bs b).size:Nat):Int) > IntKind.i64.max:=by
  rw[aB,aB,show IntKind.i64.max=9223372036854775807 from by decide];omega
 have:binOp .add t (vL a) (vL b)= .pure (vL (a++b)):=by
  simp only[binOp,vL,Op.stringOp,h1,if_false,AP]
  rfl
 show wl (do eqGuard .add t x y (vL a) (vL b);binOp .add t (vL a) (vL b))=_
 simp only[this]
 rfl
section
variable {P:Program} {T:TypeId→Option Ty} {n:Nat} {ops:Array Oper} {id:Nat} {draw:Bool} {K:AS→Prop} {s:AS} {k:Nat} {o:Oper} {os:List Oper} {fps:List FP}
theorem j4 {t:TypeId} {ty:Ty} (hT:bG P t ty) (hs:ty.isStr=true):P.underlying t=some .string:=by
 obtain⟨d,hu,_,_,_,_,hst,_⟩:=hT.und;rw[hu,hst hs]
theorem ap (hT:∀t d,T t=some d→bG P t d) {t:TypeId} {ty:Ty} {x y:Operand} {l:List UInt8} {c:UInt8} {i:Nat} {ik:IntKind} (hi:l[i]? =some c) (h1:gd ops s o=some true) (h2:o.op= .index t x y) (h5:T t=some ty) (h6:ty.isStr=true) (h7:s.ev x= .d (.leaf (.val (vL l)))) (h8:s.ev y= .d (.leaf (.val (.int ik (i:Nat)))))
 (h3:bd n o.dst=true) (h4:gN draw ops (aM ops o ⟨.d (dN .u8 c.toNat),none⟩ []) k fps=true) (h:aw P T n ops id draw K (k+1) os (s.eff o.dst ⟨.d (dN .u8 c.toNat),none⟩) (aM ops o ⟨.d (dN .u8 c.toNat),none⟩ []::fps)):aw P T n ops id draw K k (o::os) s fps:=by
 refine .run h1 (.gen fun s2 ht _=>?_) h3 h4 h;have hx:=(aL ht (x:=x) (by simp[h2,Op.operands])).trans h7;have hy:=(aL ht (x:=y) (by simp[h2,Op.operands])).trans h8;have hu:=j4 (hT _ _ h5) h6;have hl:i<l.length:=(List.getElem?_eq_some_iff.1 hi).1
 refine aj fun n S0 w0 g a w hM=>⟨.int .u8 c.toNat,w,?_,Below.refl _ _,AV.M.val rfl⟩
 unfold execOp;rw[h2];have hsz:=aB l
 have hget:(Bs l)[i]'(by rw[hsz];exact hl)=c:=by
  have:=(List.getElem?_eq_some_iff.1 hi).2;show(Bs l).data[i]'_=c
  simpa[Bs]using this
 simp only[bw hM hx,bw hM hy,vL,Sem.run_bind,run_index_string _ t (Bs l) ik i hu]
 rw[dif_pos (by rw[hsz];omega)]
 simp only[Result.andThen_ok,Int.toNat_natCast,hget]
 rfl
theorem iN (hT:∀t d,T t=some d→bG P t d) {t:TypeId} {ty:Ty} {x y:Operand} {l:List UInt8} {i:Nat} {ik:IntKind} (hi:i≤l.length) (h1:gd ops s o=some true) (h2:o.op= .slice t x (some y) none none) (h5:T t=some ty) (h6:ty.isStr=true) (h7:s.ev x= .d (.leaf (.val (vL l)))) (h8:s.ev y= .d (.leaf (.val (.int ik (i:Nat)))))
 (h3:bd n o.dst=true) (h4:gN draw ops (aM ops o ⟨.d (dL (l.drop i)),none⟩ []) k fps=true) (h:aw P T n ops id draw K (k+1) os (s.eff o.dst ⟨.d (dL (l.drop i)),none⟩) (aM ops o ⟨.d (dL (l.drop i)),none⟩ []::fps)):aw P T n ops id draw K k (o::os) s fps:=by
 refine .run h1 (.gen fun s2 ht _=>?_) h3 h4 h;have hx:=(aL ht (x:=x) (by simp[h2,Op.operands])).trans h7;have hy:=(aL ht (x:=y) (by simp[h2,Op.operands])).trans h8;have hu:=j4 (hT _ _ h5) h6;refine aj fun n S0 w0 g a w hM=>⟨vL (l.drop i),w,?_,Below.refl _ _,AV.M.val rfl⟩
 unfold execOp;rw[h2]
 have e1:(Instr.sliceAt t (.string (Bs l)) (some (.int ik i)) none none).run P w= .ok (vL (l.drop i)) w:=by
  unfold Instr.sliceAt
  simp only[Sem.run_bind,run_underlying hu w,Result.andThen_ok]
  rw[run_slice_string_l w t (Bs l) hu ik i (by omega) (by rw[aB];omega),jJ,aB]
  simp[vL]
 simp only[bw hM hx,bw hM hy,vL,Option.map_some,Option.map_none,Sem.run_bind,e1,Result.andThen_ok]
 rfl
end
section
variable {P:Program} {T:TypeId→Option Ty} {n:Nat} {s:AS}
theorem mq {x y:Code} {Q:AX→AS→Prop} (σ:AS) (hy:∀s',aV s' σ→fU P T n y Q s') (hx:∀R:AX→AS→Prop,(∀s',aV s' σ→R .normal s')→R .ret=Q .ret→fU P T n x R s):fU P T n (.seq x y) Q s:=av (hx _ hy rfl)
theorem Eh {x y:Code} {Q:AX→AS→Prop} (σ:AS) (φ:Prop) (hy:φ→ ∀s',aV s' σ→fU P T n y Q s') (hx:∀R:AX→AS→Prop,(φ→ ∀s',aV s' σ→R .normal s')→R .ret=Q .ret→fU P T n x R s):fU P T n (.seq x y) Q s:=av (hx _ hy rfl)
theorem aV.trans {a b c:AS} (h:aV a b) (h':aV b c):aV a c:=fun n S0 w0 x w m=>h' n S0 w0 x w (h n S0 w0 x w m)
theorem MG.rename {S0:Nat→Prop} {w0:fN} {g:Nat→Nat} {a:Act} {w:World} (h:MG n S0 w0 g s a w) {j j':Nat} {cs:List AV} (hj:s.bx j=some cs) (hn:ak s.b j'=none) (hw:dp j'=dp j) (hrv:jW j'=false) (hlb:d4 j'=false):
 ∃g',MG n S0 w0 g' ⟨s.t,(j',some cs)::(j,none)::s.b⟩ a w∧(∀(m k e:Nat) (v:Value),TV.M (Own S0 g s) g s w (.own j m k e) v→TV.M (Own S0 g' ⟨s.t,(j',some cs)::(j,none)::s.b⟩) g' ⟨s.t,(j',some cs)::(j,none)::s.b⟩ w (.own j' m k e) v)∧ ∀i,i≠j'→g' i=g i:=by
 have hjj:j'≠j:=fun e=>by
  subst e;obtain⟨x,hx⟩:=AS.kn_of hj;rw[hn]at hx;cases hx
 have hkn:∀i,s.kn i→i≠j':=fun i ⟨x,hx⟩ e=>by subst e;rw[hn]at hx;cases hx
 have hbx:∀i ci,(AS.mk s.t ((j',some cs)::(j,none)::s.b)).bx i=some ci→(i=j'∧ci=cs)∨(i≠j'∧i≠j∧s.bx i=some ci):=fun i ci hi=>by
  by_cases e1:i=j'
  ·subst e1;rw[AS.bx_same]at hi;cases hi;exact .inl ⟨rfl,rfl⟩
  ·rw[AS.bx_ne _ s.t _ _ e1]at hi
   by_cases e2:i=j
   ·subst e2;rw[AS.bx_dead]at hi;cases hi
   ·rw[AS.bx_ne _ s.t _ _ e2]at hi;exact .inr ⟨e1,e2,hi⟩
 have hO:Own S0 (fun i=>if i=j' then g j else g i) (AS.mk s.t ((j',some cs)::(j,none)::s.b))=Own S0 g s:=by
  funext b
  apply propext
  constructor
  ·rintro(h0| ⟨i,ci,hi,e0⟩)
   ·exact .inl h0
   ·rcases hbx i ci hi with⟨rfl,rfl⟩| ⟨h1,h2,h3⟩
    ·simp only[if_true]at e0;exact .inr ⟨j,ci,hj,e0⟩
    ·simp only[h1,if_false]at e0;exact .inr ⟨i,ci,h3,e0⟩
  ·rintro(h0| ⟨i,ci,hi,e0⟩)
   ·exact .inl h0
   ·by_cases e2:i=j
    ·subst e2
     exact .inr ⟨j',cs,AS.bx_same _ _ _ _,by simp only[if_true];exact e0⟩
    ·have h1:=hkn i (AS.kn_of hi)
     refine .inr ⟨i,ci,?_,by simp only[h1,if_false];exact e0⟩;rw[AS.bx_ne _ s.t _ _ h1,AS.bx_ne _ s.t _ _ e2];exact hi
 have hF:jc s (AS.mk s.t ((j',some cs)::(j,none)::s.b)) g (fun i=>if i=j' then g j else g i) w w:=⟨fun z hz=>AS.kn_cons (t:=s.t) _ (AS.kn_cons (t:=s.t) _ hz),fun z cz hk hz=>by
  rcases hbx z cz hz with⟨e1,_⟩| ⟨h1,h2,h3⟩
  ·exact absurd e1 (hkn z hk)
  ·exact⟨cz,h3,Nat.le_refl _,by simp only[h1,if_false],fun a1 e1 h4=>⟨a1,h4,rfl⟩⟩⟩
 refine⟨fun i=>if i=j' then g j else g i,⟨fun i=>?_,fun i ci hi=>?_,fun i i' ci ci' hi hi' e0=>?_,h.grow,h.df.agree hF,h.sz,h.cl,h.tg,fun k cs hk=>by rw[hO];exact(h.gl k cs hk).agree (ce.refl _ _) (fun _ _ h=>h) hF,fun i q ci h1 h2 hi=>by
  rcases hbx i ci hi with⟨e1,_⟩| ⟨h3,h4,h5⟩
  ·subst e1;rw[hrv]at h1;cases h1
  ·simp only[h3,if_false];exact h.gp i q ci h1 h2 h5,h.nk⟩,fun m k e v hm=>?_,fun i hi=>by simp only[hi,if_false]⟩
 ·rw[hO]
  exact(h.tm i).agree (ce.refl _ _) (fun _ _ h=>h) hF
 ·rw[hO]
  rcases hbx i ci hi with⟨rfl,rfl⟩| ⟨h1,h2,h3⟩
  ·simp only[if_true]
   obtain⟨h1,arr,e1,h4,h5,h6,_⟩:=h.bm j ci hj;exact⟨h1,arr,e1,h4,h5,fun hb=>h6 (by rw[← hw];exact hb),fun hl=>absurd hl (by rw[hlb];decide),fun ht=>absurd (mn ht) (by rw[hlb];decide)⟩
  ·simp only[h1,if_false]
   obtain⟨h4,h5⟩:=h.bm i ci h3;exact⟨h4,h5.agree rfl (ce.refl _ _) (fun _ _ h=>h) hF⟩
 ·rcases hbx i ci hi with⟨e1,_⟩| ⟨h1,h2,h3⟩<;>rcases hbx i' ci' hi' with⟨e1',_⟩| ⟨h1',h2',h3'⟩
  ·rw[e1,e1']
  ·rw[if_pos e1,if_neg h1']at e0
   exact absurd (h.inj j i' cs ci' hj h3' e0).symm h2'
  ·rw[if_neg h1,if_pos e1']at e0
   exact absurd (h.inj i j ci cs h3 hj e0) h2
  ·rw[if_neg h1,if_neg h1']at e0
   exact h.inj i i' ci ci' h3 h3' e0
 ·obtain⟨c,e1,e2,e3,e4,e5⟩:=hm.2 cs hj
  refine⟨⟨_,am _ _ _⟩,fun ci hc=>?_⟩;rw[AS.bx_same]at hc;cases hc
  simp only[if_true]
  exact⟨c,e1,e2,e3,e4,e5⟩
theorem MG.reslot {S0:Nat→Prop} {w0:fN} {g:Nat→Nat} {a:Act} {w:World} (h:MG n S0 w0 g s a w) {q:Nat} {x:TV} (hx:TV.M (Own S0 g s) g s w x (a.tmps.getD q Go.undef)) (hx1:rZ x=true) (hx2:rZ (s.tv q)=true):MG n S0 w0 g ⟨(q,x)::s.t,s.b⟩ a w:=by
 refine⟨fun i=>?_,fun i ci hi=>?_,h.inj,h.grow,?_,h.sz,h.cl,h.tg,fun k cs hk=>(h.gl k cs hk).sameB rfl,h.gp,h.nk⟩
 ·by_cases hi:q=i
  ·subst hi
   have e0:(AS.mk ((q,x)::s.t) s.b).tv q=x:=by simp[AS.tv,am]
   rw[e0];exact hx.sameB rfl
  ·have e0:(AS.mk ((q,x)::s.t) s.b).tv i=s.tv i:=by simp[AS.tv,aD _ _ hi]
   rw[e0];exact(h.tm i).sameB rfl
 ·obtain⟨h1,h2⟩:=h.bm i ci hi
  exact⟨h1,h2.sameB rfl⟩
 ·by_cases hi:q=DK
  ·have e0:(AS.mk ((q,x)::s.t) s.b).tv DK=x:=by rw[← hi];simp[AS.tv,am]
   rw[e0];have h0:=h.df;rw[← hi]at h0;exact(xT.no hx1).2 ((xT.no hx2).1 h0)
  ·have e0:(AS.mk ((q,x)::s.t) s.b).tv DK=s.tv DK:=by simp[AS.tv,aD _ _ hi]
   rw[e0];exact h.df.sameB rfl
theorem ax {q j j' m k e:Nat} {cs:List AV} (hq:s.tv q= .own j m k e) (hj:s.bx j=some cs) (hn:ak s.b j'=none) (hw:dp j'=dp j) (hrv:jW j'=false:=by rfl) (hlb:d4 j'=false:=by rfl):aV s ⟨(q, .own j' m k e)::s.t,(j',some cs)::(j,none)::s.b⟩:=by
 rintro n S0 w0 a w ⟨g,h⟩;obtain⟨g',h1,h2,_⟩:=h.rename hj hn hw hrv hlb;have hm:=h.tm q;rw[hq]at hm;exact⟨g',h1.reslot (h2 m k e _ hm) rfl (by show rZ (s.tv q)=true;rw[hq];rfl)⟩
end
section
variable {P:Program} {T:TypeId→Option Ty} {n:Nat} {ops:Array Oper} {id:Nat} {draw:Bool} {K:AS→Prop} {s:AS} {k:Nat} {o:Oper} {os:List Oper} {fps:List FP}
theorem tY {t:TypeId} {ty:Ty} {x:Operand} {i off:Nat} {cs:List AV} {a:AV} (ha:cs[off]? =some a) (h1:gd ops s o=some true) (h2:o.op= .load t x) (h5:T t=some ty) (h6:ty.agg=false) (h7:ty.size=1) (h8:s.ev x= .box i off) (h9:s.bx i=some cs)
 (h3:bd n o.dst=true) (h4:gN draw ops (aM ops o ⟨.d (.leaf a),none⟩ [i]) k fps=true) (h:aw P T n ops id draw K (k+1) os (s.eff o.dst ⟨.d (.leaf a),none⟩) (aM ops o ⟨.d (.leaf a),none⟩ [i]::fps)) (hlb:d4 i=false:=by rfl):aw P T n ops id draw K k (o::os) s fps:=by
 refine ia h1 ?_ h3 h4 h;obtain⟨hl,hg⟩:=List.getElem?_eq_some_iff.1 ha;have hb:Nat.ble (off+1) cs.length=true:=Nat.ble_eq_true_of_le hl
 have hd:(cs.drop off).take 1=[a]:=by
  rw[List.drop_eq_getElem_cons hl,hg];rfl
 unfold fO
 simp only[h2,h5,h8,h9,h6,h7,hb,hd,hlb]
 rfl
theorem EK {t:TypeId} {ty:Ty} {x y:Operand} {i off:Nat} {cs cs':List AV} {a:AV} (hl:off<cs.length) (hs:ea cs off [a]=cs') (h1:gd ops s o=some true) (h2:o.op= .store t x y) (h0:o.dst=none) (h5:T t=some ty) (h7:ty.size=1) (h8:s.ev x= .box i off) (h9:s.bx i=some cs) (h10:Ew (s.ev y)=some (.leaf a)) (h11:JX i [a]=true)
 (h4:gN draw ops (aM ops o ⟨.junk,some [(i,some cs')]⟩ [i]) k fps=true) (h:aw P T n ops id draw K (k+1) os (s.eff o.dst ⟨.junk,some [(i,some cs')]⟩) (aM ops o ⟨.junk,some [(i,some cs')]⟩ [i]::fps)) (hlb:d4 i=false:=by rfl):aw P T n ops id draw K k (o::os) s fps:=by
 refine ia h1 ?_ (by rw[h0];rfl) h4 h;have hb:Nat.ble (off+1) cs.length=true:=Nat.ble_eq_true_of_le hl;unfold fO
 simp only[h0,h2,h5,h8,h9,h7,hb,h10,DV.cells,h11,hs,hlb,GA]
 rfl
end
theorem cP {t:TypeId} {x y:Operand} {a b:List UInt8} (h:a=b):me .eql t x y (vL a) (vL b)=some (.bool true):=by rw[jk,decide_eq_true h]
theorem gF {t:TypeId} {x y:Operand} {a b:List UInt8} (h:a≠b):me .eql t x y (vL a) (vL b)=some (.bool false):=by rw[jk,decide_eq_false h]
theorem fj {t:TypeId} {x y:Operand} {a b:List UInt8} (h:a≠b):me .neq t x y (vL a) (vL b)=some (.bool true):=by rw[m7,decide_eq_false h];rfl
theorem fq {t:TypeId} {x y:Operand} {a b:List UInt8} (h:a=b):me .neq t x y (vL a) (vL b)=some (.bool false):=by rw[m7,decide_eq_true h];rfl
section
variable {P:Program} {T:TypeId→Option Ty} {n:Nat} {ops:Array Oper} {id:Nat} {draw:Bool} {K:AS→Prop} {s:AS} {k:Nat} {o:Oper} {os:List Oper} {fps:List FP}
theorem wW (hT:∀t d,T t=some d→bG P t d) {t:TypeId} {ty:Ty} {x y:Operand} {l:List UInt8} {i:Nat} {ik:IntKind} (hi:i≤l.length) (h1:gd ops s o=some true) (h2:o.op= .slice t x none (some y) none) (h5:T t=some ty) (h6:ty.isStr=true) (h7:s.ev x= .d (.leaf (.val (vL l)))) (h8:s.ev y= .d (.leaf (.val (.int ik (i:Nat)))))
 (h3:bd n o.dst=true) (h4:gN draw ops (aM ops o ⟨.d (dL (l.take i)),none⟩ []) k fps=true) (h:aw P T n ops id draw K (k+1) os (s.eff o.dst ⟨.d (dL (l.take i)),none⟩) (aM ops o ⟨.d (dL (l.take i)),none⟩ []::fps)):aw P T n ops id draw K k (o::os) s fps:=by
 refine .run h1 (.gen fun s2 ht _=>?_) h3 h4 h;have hx:=(aL ht (x:=x) (by simp[h2,Op.operands])).trans h7;have hy:=(aL ht (x:=y) (by simp[h2,Op.operands])).trans h8;have hu:=j4 (hT _ _ h5) h6;refine aj fun n S0 w0 g a w hM=>⟨vL (l.take i),w,?_,Below.refl _ _,AV.M.val rfl⟩
 unfold execOp;rw[h2]
 have e1:(Instr.sliceAt t (.string (Bs l)) none (some (.int ik i)) none).run P w= .ok (vL (l.take i)) w:=by
  unfold Instr.sliceAt
  simp only[Sem.run_bind,run_underlying hu w,Result.andThen_ok]
  rw[run_slice_string_h w t (Bs l) hu ik i (by omega) (by rw[aB];omega),jJ]
  simp[vL]
 simp only[bw hM hx,bw hM hy,vL,Option.map_some,Option.map_none,Sem.run_bind,e1,Result.andThen_ok]
 rfl
end
def ez (c:UInt8):Bool:=(decide (97≤c.toNat) && decide (c.toNat≤122)) || (decide (65≤c.toNat) && decide (c.toNat≤90))
def cH (c:UInt8):Bool:=decide (48≤c.toNat) && decide (c.toNat≤57)
def gJ (c:UInt8):Bool:=ez c || cH c || decide (c.toNat=95)
def bf (p:UInt8→Bool) (s:List UInt8):Nat:=(s.takeWhile p).length
theorem gH (p:UInt8→Bool) (s:List UInt8):bf p s≤s.length:=by
 induction s with
 |nil=>exact Nat.le_refl _
 |cons c r ih=>
  unfold bf at *;rw[List.takeWhile_cons]
  split
  ·simpa using ih
  ·simp
theorem nc {p:UInt8→Bool}:∀{s:List UInt8} {i:Nat},(∀(q:Nat) c,q<i→s[q]? =some c→p c=true)→(s[i]? =none∧i≤s.length∨ ∃c,s[i]? =some c∧p c=false)→bf p s=i
 | [],i,_,h=>by
  rcases h with⟨_,h⟩| ⟨c,h,_⟩
  ·simp at h;simp[bf,h]
  ·simp at h
 |a::s,0,_,h=>by
  rcases h with⟨h,_⟩| ⟨c,h,k⟩
  ·simp at h
  ·simp at h;subst h;simp[bf,List.takeWhile,k]
 |a::s,i+1,hq,h=>by
  have h0:=hq 0 a (by omega) rfl;have ih:=nc (s:=s) (i:=i) (fun q c h1 h2=>hq (q+1) c (by omega) (by simpa using h2)) (by simpa using h);unfold bf at *
  simp only[List.takeWhile,h0,List.length_cons]
  omega
def dF (f:FuncId):DV:= .leaf (.val (.func (.func f) #[] #[]))
theorem iX (c:UInt8):aa Tryz.prog 52 [dN .u8 c.toNat] (.one (dB (ez c))):=by
 by_cases h1:97≤c.toNat
 ·by_cases h2:c.toNat≤122
  ·rw[show ez c=true by unfold ez;simp[h1,h2]]
   refine kU func52 ?_;refine kR ?_;refine kI ?_;refine kO ?_;refine kT ?_
   refine kO2 ?_
   refine kT ?_;exact kF
  ·rw[show ez c=false by unfold ez;rw[decide_eq_false h2,decide_eq_false (show ¬c.toNat≤90 by omega)];simp]
   refine kU func52 ?_;refine kR ?_;refine kI ?_;refine kO ?_;refine kT ?_
   refine kO2 ?_
   refine kE ?_
   refine kO3 ?_
   refine kT ?_
   refine kO2 ?_
   refine kE ?_;exact kF
 ·by_cases h2:65≤c.toNat
  ·by_cases h3:c.toNat≤90
   ·rw[show ez c=true by unfold ez;simp[h2,h3]]
    refine kU func52 ?_;refine kR ?_;refine kI ?_;refine kO ?_;refine kE ?_
    iterate 6 refine kO ?_
    refine kT ?_
    refine kO2 ?_
    refine kT ?_;exact kF
   ·rw[show ez c=false by unfold ez;rw[decide_eq_false h1,decide_eq_false h3];simp]
    refine kU func52 ?_;refine kR ?_;refine kI ?_;refine kO ?_;refine kE ?_
    iterate 6 refine kO ?_
    refine kT ?_
    refine kO2 ?_
    refine kE ?_;exact kF
  ·rw[show ez c=false by unfold ez;rw[decide_eq_false h1,decide_eq_false h2];simp]
   refine kU func52 ?_;refine kR ?_;refine kI ?_;refine kO ?_;refine kE ?_
   iterate 6 refine kO ?_
   refine kE ?_;exact kF
theorem lP (c:UInt8):aa Tryz.prog 112 [dN .u8 c.toNat] (.one (dB (ez c))):=by
 by_cases h1:97≤c.toNat
 ·by_cases h2:c.toNat≤122
  ·rw[show ez c=true by unfold ez;simp[h1,h2]]
   refine kU func112 ?_;refine kR ?_;refine kI ?_;refine kO ?_;refine kT ?_
   refine kO2 ?_
   refine kT ?_;exact kF
  ·rw[show ez c=false by unfold ez;rw[decide_eq_false h2,decide_eq_false (show ¬c.toNat≤90 by omega)];simp]
   refine kU func112 ?_;refine kR ?_;refine kI ?_;refine kO ?_;refine kT ?_
   refine kO2 ?_
   refine kE ?_
   refine kO3 ?_
   refine kT ?_
   refine kO2 ?_
   refine kE ?_;exact kF
 ·by_cases h2:65≤c.toNat
  ·by_cases h3:c.toNat≤90
   ·rw[show ez c=true by unfold ez;simp[h2,h3]]
    refine kU func112 ?_;refine kR ?_;refine kI ?_;refine kO ?_;refine kE ?_
    iterate 6 refine kO ?_
    refine kT ?_
    refine kO2 ?_
    refine kT ?_;exact kF
   ·rw[show ez c=false by unfold ez;rw[decide_eq_false h1,decide_eq_false h3];simp]
    refine kU func112 ?_;refine kR ?_;refine kI ?_;refine kO ?_;refine kE ?_
    iterate 6 refine kO ?_
    refine kT ?_
    refine kO2 ?_
    refine kE ?_;exact kF
  ·rw[show ez c=false by unfold ez;rw[decide_eq_false h1,decide_eq_false h2];simp]
   refine kU func112 ?_;refine kR ?_;refine kI ?_;refine kO ?_;refine kE ?_
   iterate 6 refine kO ?_
   refine kE ?_;exact kF
theorem gU (c:UInt8):aa Tryz.prog 83 [dN .u8 c.toNat] (.one (dB (cH c))):=by
 by_cases h1:48≤c.toNat
 ·by_cases h2:c.toNat≤57
  ·rw[show cH c=true by unfold cH;simp[h1,h2]]
   refine kU func83 ?_;refine kR ?_;refine kI ?_;refine kO ?_;refine kT ?_
   refine kO2 ?_
   refine kT ?_;exact kF
  ·rw[show cH c=false by unfold cH;rw[decide_eq_false h2];simp]
   refine kU func83 ?_;refine kR ?_;refine kI ?_;refine kO ?_;refine kT ?_
   refine kO2 ?_
   refine kE ?_;exact kF
 ·rw[show cH c=false by unfold cH;rw[decide_eq_false h1];simp]
  refine kU func83 ?_;refine kR ?_;refine kI ?_;refine kO ?_;refine kE ?_;exact kF
theorem mz (c:UInt8):aa Tryz.prog 113 [dN .u8 c.toNat] (.one (dB (cH c))):=by
 by_cases h1:48≤c.toNat
 ·by_cases h2:c.toNat≤57
  ·rw[show cH c=true by unfold cH;simp[h1,h2]]
   refine kU func113 ?_;refine kR ?_;refine kI ?_;refine kO ?_;refine kT ?_
   refine kO2 ?_
   refine kT ?_;exact kF
  ·rw[show cH c=false by unfold cH;rw[decide_eq_false h2];simp]
   refine kU func113 ?_;refine kR ?_;refine kI ?_;refine kO ?_;refine kT ?_
   refine kO2 ?_
   refine kE ?_;exact kF
 ·rw[show cH c=false by unfold cH;rw[decide_eq_false h1];simp]
  refine kU func113 ?_;refine kR ?_;refine kI ?_;refine kO ?_;refine kE ?_;exact kF
theorem oG (c:UInt8):aa Tryz.prog 54 [dN .u8 c.toNat] (.one (dB (gJ c))):=by
 have c1:=iX c;have c2:=gU c;unfold gJ;cases h1:ez c
 ·rw[h1]at c1
  cases h2:cH c
  ·rw[h2]at c2
   refine kV func54 ?_;refine kQ (c1) ?_;refine kC (c2) ?_
   refine kO3 ?_
   by_cases h3:c.toNat=95
   ·refine kT ?_
    rw[decide_eq_true h3];exact kF
   ·refine kE ?_
    rw[decide_eq_false h3];exact kF
  ·rw[h2]at c2
   refine kV func54 ?_;refine kQ (c1) ?_;refine kC (c2) ?_;exact kF
 ·rw[h1]at c1
  refine kV func54 ?_;refine kC (c1) ?_;exact kF
theorem lc {fid:FuncId} {p:UInt8→Bool} (hp:∀c:UInt8,aa Tryz.prog fid [dN .u8 c.toNat] (.one (dB (p c)))) (s:List UInt8) (hl:s.length≤4611686018427387904):aa Tryz.prog 53 [dL s,dF fid] (.one (dN .i64 (bf p s))):=by
 have hB:=aB s;refine kV func53 ?_
 refine aS Nat (fun i=>i≤s.length∧ ∀(q:Nat) c,q<i→s[q]? =some c→p c=true) (fun i=>⟨[(0, .d (dL s)),(1, .d (dF fid)),(4, .d (dN .i64 0)),(5, .d (dN .i64 i))],[]⟩) (fun i=>s.length-i) 0 ⟨Nat.zero_le _,fun q c h=>absurd h (Nat.not_lt_zero _)⟩
  (weak ⟨rfl,rfl,rfl,rfl,trivial⟩ trivial rfl) ?_
 rintro i ⟨hi,hq⟩;refine kI ?_
 refine kO3 ?_
 by_cases hlt:i<s.length
 ·have hx:s[i]? =some s[i]:=by simp[hlt]
  have hc:=hp s[i];refine kT ?_
  refine kO4 ?_
  refine ap ab (i:=i) (c:=s[i]) hx rfl rfl rfl rfl rfl rfl rfl rfl ?_;cases hb:p s[i]
  ·rw[hb]at hc
   refine kQ (hc) ?_;rw[nc hq (.inr ⟨_,hx,hb⟩)];exact bu (T:=TT) rfl rfl
  ·rw[hb]at hc
   refine kQ (hc) ?_
   exact⟨i+1,⟨hlt,fun q c h1 h2=>by
    by_cases e:q=i
    ·subst e;rw[hx]at h2;cases h2;exact hb
    ·exact hq q c (by omega) h2⟩,by omega,weak ⟨rfl,rfl,rfl,aG (by omega) (by omega),trivial⟩ trivial rfl⟩
 ·refine kE ?_
  refine kW ?_;rw[nc hq (.inl ⟨List.getElem?_eq_none (by omega),hi⟩)];exact bu (T:=TT) rfl rfl
def jD (s:List UInt8):Nat:=if s[bf cH s]? =some 46∧0<bf cH (s.drop (bf cH s+1))then bf cH s+1+bf cH (s.drop (bf cH s+1))else bf cH s
theorem wY (s:List UInt8) (hl:s.length≤4611686018427387903):aa Tryz.prog 106 [dL s] (.one (dN .i64 (jD s))):=by
 have hB:=aB s;have c1:=lc gU s (by omega);have hn:=gH cH s;unfold jD;generalize bf cH s=n at *
 by_cases h1:n<s.length
 ·have hx:s[n]? =some s[n]:=by simp[h1]
  by_cases h2:s[n]=46
  ·have c2:=lc gU (s.drop (n+1)) (by rw[List.length_drop];omega)
   have hm:=gH cH (s.drop (n+1));rw[List.length_drop]at hm;generalize bf cH (s.drop (n+1))=m at *;have hx2:s[n]? =some 46:=by rw[hx,h2]
   have h2':s[n].toNat=46:=by rw[h2];rfl
   by_cases h3:0<m
   ·rw[if_pos ⟨hx2,h3⟩]
    refine kV func106 ?_;refine kC (c1) ?_;refine kG ?_
    refine kO3 ?_
    refine kT ?_
    refine kO3 ?_
    refine ap ab (i:=n) (c:=s[n]) hx rfl rfl rfl rfl rfl rfl rfl rfl ?_;refine kT ?_;refine kG ?_
    refine kO2 ?_
    refine kJ ((n+1:Nat)) ?_;refine iN ab (i:=n+1) (by omega) rfl rfl rfl rfl rfl rfl rfl rfl ?_;refine kC (c2) ?_;refine kG ?_;refine kO ?_;refine kT ?_;refine kG ?_;refine kO ?_;refine kJ ((n+1:Nat)) ?_;refine kO ?_;refine kJ ((n+1+m:Nat)) ?_;exact kF
   ·rw[if_neg (fun h=>h3 h.2)]
    refine kV func106 ?_;refine kC (c1) ?_;refine kG ?_
    refine kO3 ?_
    refine kT ?_
    refine kO3 ?_
    refine ap ab (i:=n) (c:=s[n]) hx rfl rfl rfl rfl rfl rfl rfl rfl ?_;refine kT ?_;refine kG ?_
    refine kO2 ?_
    refine kJ ((n+1:Nat)) ?_;refine iN ab (i:=n+1) (by omega) rfl rfl rfl rfl rfl rfl rfl rfl ?_;refine kC (c2) ?_;refine kG ?_;refine kO ?_;refine kE ?_;exact kF
  ·have h2':¬s[n].toNat=46:=fun e=>h2 (UInt8.toNat_inj.1 e)
   rw[if_neg (fun h=>by rw[hx]at h;exact h2 (Option.some.inj h.1))];refine kV func106 ?_;refine kC (c1) ?_;refine kG ?_
   refine kO3 ?_
   refine kT ?_
   refine kO3 ?_
   refine ap ab (i:=n) (c:=s[n]) hx rfl rfl rfl rfl rfl rfl rfl rfl ?_;refine kE ?_;exact kF
 ·rw[if_neg (fun h=>by rw[List.getElem?_eq_none (by omega)]at h;cases h.1)]
  refine kV func106 ?_;refine kC (c1) ?_;refine kG ?_
  refine kO3 ?_
  refine kE ?_;exact kF
theorem jw (s:List UInt8) (c:UInt8):aa Tryz.prog 108 [dL s,dN .u8 c.toNat] (.one (dN .i64 (Lib.indexByte s c))):=
 ⟨ay func108 rfl rfl,fun S w vs hS hv=>by
  match vs,hv with
  | [v,u],⟨h1,h2,_⟩=>
   obtain rfl:=bP h1;obtain rfl:=bP h2;refine(Tryz.strings_IndexByte (Bs s) c.toNat w).mono ?_;rintro e w' ⟨rfl,rfl⟩;have e1:Lib.indexByte (Bs s).data.toList ((c.toNat:Int).toNat.toUInt8)=Lib.indexByte s c:=by simp[Bs]
   rw[e1];exact⟨_,rfl,AV.M.val rfl,Below.refl _ _⟩⟩
def eT:List UInt8→Nat→Nat
 | [],_=>0
 | [c],i=>if c=34 then i+1 else 0
 |c::d::r,i=>if c=34 then i+1 else if c.toNat<32 then 0 else if c=92 then(if Lib.indexByte [34,92,110] d<0 then 0 else eT r (i+2))else eT (d::r) (i+1)
def mE (s:List UInt8):Nat:=eT (s.drop 1) 1
theorem om {r:List UInt8} {i:Nat}:eT (34::r) i=i+1:=by cases r<;>simp[eT]
theorem pR {c:UInt8} {r:List UInt8} {i:Nat} (h:c≠34) (h':c.toNat<32):eT (c::r) i=0:=by cases r<;>simp[eT,h,h']
theorem qW {c:UInt8} {i:Nat} (h:c≠34):eT [c] i=0:=by simp[eT,h]
theorem nv {d:UInt8} {r:List UInt8} {i:Nat}:eT (92::d::r) i=if Lib.indexByte [34,92,110] d<0 then 0 else eT r (i+2):=by simp[eT]
theorem pm {c:UInt8} {r:List UInt8} {i:Nat} (h:c≠34) (h':¬c.toNat<32) (h2:c≠92):eT (c::r) i=eT r (i+1):=by
 cases r with
 |nil=>simp[eT,h]
 |cons d r=>simp[eT,h,h',h2]
theorem dU {c:UInt8} {n:UInt8} (h:¬c=n):¬c.toNat=n.toNat:=fun e=>h (UInt8.toNat_inj.1 e)
theorem wS (s:List UInt8) (hl:s.length≤4611686018427387903):aa Tryz.prog 107 [dL s] (.one (dN .i64 (mE s))):=by
 have hB:=aB s;refine kV func107 ?_
 refine aS Nat (fun i=>1≤i∧(i≤s.length∨i=1)∧eT (s.drop i) i=mE s) (fun i=>⟨[(0, .d (dL s)),(2, .d (dN .i64 0)),(3, .d (dN .i64 i))],[]⟩) (fun i=>s.length+1-i) 1 ⟨Nat.le_refl _, .inr rfl,rfl⟩
  (weak ⟨rfl,rfl,rfl,trivial⟩ trivial rfl) ?_
 rintro i ⟨h1,h2,h3⟩;refine kI ?_
 refine kO3 ?_
 by_cases hlt:i<s.length
 ·have hx:s[i]? =some s[i]:=by simp[hlt]
  rw[List.drop_eq_getElem_cons hlt]at h3;generalize hc:s[i]=c at *;refine kT ?_;refine kG ?_
  refine kO2 ?_
  refine ap ab (i:=i) (c:=c) hx rfl rfl rfl rfl rfl rfl rfl rfl ?_
  by_cases c34:c=34
  ·have e34:c.toNat=34:=by rw[c34];rfl
   rw[c34,om]at h3;refine kT ?_;refine kG ?_;refine kO ?_;refine kJ ((i+1:Nat)) ?_;rw[← h3];exact kF
  ·have e34:¬c.toNat=34:=dU c34
   refine kE ?_;refine kG ?_
   refine kO2 ?_
   refine ap ab (i:=i) (c:=c) hx rfl rfl rfl rfl rfl rfl rfl rfl ?_
   by_cases c32:c.toNat<32
   ·rw[pR c34 c32]at h3
    refine kT ?_;rw[← h3];exact kF
   ·refine kE ?_
    refine kG ?_
    refine kO2 ?_
    refine ap ab (i:=i) (c:=c) hx rfl rfl rfl rfl rfl rfl rfl rfl ?_
    by_cases c92:c=92
    ·have e92:c.toNat=92:=by rw[c92];rfl
     refine kT ?_;refine kG ?_;refine kO ?_;refine kJ ((i+1:Nat)) ?_;refine kG ?_
     refine kO3 ?_
     by_cases hend:i+1=s.length
     ·rw[List.drop_eq_nil_of_le (by omega),qW c34]at h3
      refine kT ?_;rw[← h3];exact kF
     ·have hlt2:i+1<s.length:=by omega
      have hx2:s[i+1]? =some s[i+1]:=by simp[hlt2]
      rw[List.drop_eq_getElem_cons hlt2,c92,nv]at h3;generalize s[i+1]=d at *;refine kE ?_
      refine kO3 ?_
      refine ap ab (i:=i+1) (c:=d) hx2 rfl rfl rfl rfl rfl rfl rfl rfl ?_;refine kC (jw [34,92,110] d) ?_
      by_cases hd:Lib.indexByte [34,92,110] d<0
      ·rw[if_pos hd]at h3
       refine kB true ?_ ?_
       ·exact decide_eq_true hd
       rw[← h3];exact kF
      ·rw[if_neg hd]at h3
       refine kB false ?_ ?_
       ·exact decide_eq_false hd
       refine kW ?_;exact⟨i+2,⟨by omega, .inl (by omega),h3⟩,by omega,weak ⟨rfl,rfl,aG (by omega) (by omega),trivial⟩ trivial rfl⟩
    ·have e92:¬c.toNat=92:=dU c92
     rw[pm c34 c32 c92]at h3;refine kY ?_;exact⟨i+1,⟨by omega, .inl (by omega),h3⟩,by omega,weak ⟨rfl,rfl,aG (by omega) (by omega),trivial⟩ trivial rfl⟩
 ·refine kE ?_
  rw[List.drop_eq_nil_of_le (by omega),eT]at h3;rw[← h3];exact kF
def ip:List UInt8:=[43,45,42,47,40,41,91,93,123,125,44,58,59,61,46,60,62,64,35]
def r7 (c:UInt8):Bool:=decide (0≤Lib.indexByte ip c)
def gO:List UInt8→Nat × Nat
 | []=>(0,0)
 |c::r=>if ez c then(1,bf gJ (c::r))else if cH c then(2,jD (c::r))else if c=34 then(3,mE (c::r))else if c=10 then(5,1)else if r7 c then(4,1)else(0,0)
theorem AY (c:UInt8) (r:List UInt8) (hl:(c::r).length≤4611686018427387903):aa Tryz.prog 69 [dL (c::r)] (.tup [dN .i64 (gO (c::r)).1,dN .i64 (gO (c::r)).2]):=by
 have c1:=iX c;have c2:=gU c;cases h1:ez c
 ·rw[h1]at c1
  cases h2:cH c
  ·rw[h2]at c2
   by_cases h3:c=34
   ·have e3:c.toNat=34:=by rw[h3];rfl
    rw[show gO (c::r)=(3,mE (c::r)) by rw[gO,h1,h2];simp[h3]];refine kU func69 ?_;refine kR ?_;refine kI ?_;refine kO ?_;refine ap ab (i:=0) (c:=c) rfl rfl rfl rfl rfl rfl rfl rfl rfl ?_;refine kW ?_;refine kQ (c1) ?_;refine kC (c2) ?_;refine kG ?_;refine kO ?_;refine kX ?_;refine kC (wS (c::r) hl) ?_;exact kF
   ·have e3:¬c.toNat=34:=dU h3
    by_cases h4:c=10
    ·have e4:c.toNat=10:=by rw[h4];rfl
     rw[show gO (c::r)=(5,1) by rw[gO,h1,h2];simp[h3,h4]];refine kU func69 ?_;refine kR ?_;refine kI ?_;refine kO ?_;refine ap ab (i:=0) (c:=c) rfl rfl rfl rfl rfl rfl rfl rfl rfl ?_;refine kW ?_;refine kQ (c1) ?_;refine kC (c2) ?_;refine kG ?_;refine kO ?_;refine kE ?_;refine kG ?_;refine kO ?_;refine kT ?_;exact kF
    ·have e4:¬c.toNat=10:=dU h4
     by_cases h5:0≤Lib.indexByte ip c
     ·rw[show gO (c::r)=(4,1) by simp[gO,h1,h2,h3,h4,r7,h5]]
      refine kU func69 ?_;refine kR ?_;refine kI ?_;refine kO ?_;refine ap ab (i:=0) (c:=c) rfl rfl rfl rfl rfl rfl rfl rfl rfl ?_;refine kW ?_;refine kQ (c1) ?_;refine kC (c2) ?_;refine kG ?_;refine kO ?_;refine kE ?_;refine kG ?_;refine kO ?_;refine kY ?_;refine kC (jw ip c) ?_;refine kB true ?_ ?_
      ·exact decide_eq_true h5
      exact kF
     ·rw[show gO (c::r)=(0,0) by simp[gO,h1,h2,h3,h4,r7,h5]]
      refine kU func69 ?_;refine kR ?_;refine kI ?_;refine kO ?_;refine ap ab (i:=0) (c:=c) rfl rfl rfl rfl rfl rfl rfl rfl rfl ?_;refine kW ?_;refine kQ (c1) ?_;refine kC (c2) ?_;refine kG ?_;refine kO ?_;refine kE ?_;refine kG ?_;refine kO ?_;refine kY ?_;refine kC (jw ip c) ?_;refine kB false ?_ ?_
      ·exact decide_eq_false h5
      exact kF
  ·rw[h2]at c2
   rw[show gO (c::r)=(2,jD (c::r)) by simp[gO,h1,h2]];refine kU func69 ?_;refine kR ?_;refine kI ?_;refine kO ?_;refine ap ab (i:=0) (c:=c) rfl rfl rfl rfl rfl rfl rfl rfl rfl ?_;refine kW ?_;refine kQ (c1) ?_;refine kQ (c2) ?_;refine kC (wY (c::r) hl) ?_;exact kF
 ·rw[h1]at c1
  rw[show gO (c::r)=(1,bf gJ (c::r)) by simp[gO,h1]];refine kU func69 ?_;refine kR ?_;refine kI ?_;refine kO ?_;refine ap ab (i:=0) (c:=c) rfl rfl rfl rfl rfl rfl rfl rfl rfl ?_;refine kW ?_;refine kQ (c1) ?_;refine ae (lc oG (c::r) (by omega)) rfl rfl rfl rfl rfl rfl rfl ?_;exact kF
end Go.Proofs.YtikbnnljjeefgaaGreatDoor
