/- Integers as plain data; the proved contracts of the integer functions as contracts over plain data. -/
import Derived.Test.YtmkggcjajcdlcaaGreatDoorQAm
import Derived.Test.YtmkggcjajcdlcaaGreatDoorQDivZero
import Derived.Test.YtmkggcjajcdlcaaGreatDoorQDivAll
import Derived.KernelRfl
import Derived.IntWalk
set_option maxHeartbeats 100000000
set_option linter.all false
namespace Go.Proofs.YtmkggcjajcdlcaaGreatDoor
open Go.RowKit
def aW (xs:List Nat):AV:= .sl xs.length (xs.map fun x:Nat=>AV.val (aS x))
def aI (na:Bool) (xs:List Nat):List AV:=[.val (.bool na),aW xs]
def aZ (z:Int):List AV:=aI (decide (z<0)) (digs z.natAbs)
def dI (na:Bool) (xs:List Nat):DV:= .agg (aI na xs)
def dZ (z:Int):DV:= .agg (aZ z)
def dB (b:Bool):DV:= .leaf (.val (.bool b))
def dN (k:IntKind) (n:Int):DV:= .leaf (.val (.int k n))
theorem km {a b:Int} (h:a=b) (h1: -9223372036854775808≤a∧a≤9223372036854775807):TV.d (.leaf (.val (.int .i64 (IntKind.i64.wrap a))))=TV.d (dN .i64 b):=by
 subst h;rw[IntWalk.i64_in _ h1];rfl
def dS (s:ByteArray):DV:= .leaf (.val (.string s))
section
variable {S:Nat→Prop} {w w':World}
theorem bZ.grow (h:bZ S w) (hb:Below w.heap.size w w'):bZ S w':=⟨h.1.mono hb rfl,fun b hS=>by
 obtain⟨h1,h2⟩:=h.2 b hS;exact⟨Nat.lt_of_lt_of_le h1 hb.size,fun off v hv=>h2 off v (by rw[hb.cell (p:=⟨b,off,none⟩) h1]at hv;exact hv)⟩,fun k cs hk=>(h.gl k cs hk).agree (.of_below hb) (fun _ _ h=>h) (fv.same hb rfl)⟩
theorem iE (h:bZ S w) {A:Option Addr} {n c:Nat} {xs:List Nat} (hx:aj w A n c xs):AV.M S w (aW xs) (.slice A n c):=by
 unfold aW;rw[hx.len];rcases hx.cells with h0| ⟨b,off,rfl,hc⟩
 ·have:xs=[]:=by simpa using h0
  subst this;exact .emp hx.cap hx.lim hx.isnil
 ·cases xs with
  |nil=>exact .emp hx.cap hx.lim hx.isnil
  |cons x xs=>
   have h1:=hc 0 (aS x) rfl;have hb:b<w.heap.size:=World.block_lt_of_cell? w _ h1
   refine AV.M.sl (fun i=>aS ((x::xs).getD i 0)) hx.cap hx.lim (fun hS=>?_) hb (fun i a hi=>?_) (fun i a hi=>?_)
   ·have:=(h.2 b hS).2 _ _ h1
    cases this
   ·have hi':i<(x::xs).length:=by have:=(List.getElem?_eq_some_iff.1 hi).1;simpa using this
    exact hc i _ (by rw[List.getElem?_map,List.getElem?_eq_getElem hi',List.getD_eq_getElem?_getD,List.getElem?_eq_getElem hi'];rfl)
   ·have hi':i<(x::xs).length:=by have:=(List.getElem?_eq_some_iff.1 hi).1;simpa using this
    have e:a= .val (aS ((x::xs).getD i 0)):=by
     rw[List.getElem?_map,List.getElem?_eq_getElem hi']at hi;rw[List.getD_eq_getElem?_getD,List.getElem?_eq_getElem hi'];exact(Option.some.inj hi).symm
    rw[e];exact .val rfl
theorem em {v:Value} {xs:List Nat} (h:AV.M S w (aW xs) v) (hw:Wd xs):∃A n c,v= .slice A n c∧aj w A n c xs:=by
 unfold aW at h;generalize hcs:(xs.map fun x:Nat=>AV.val (aS x))=cs at h;cases h with
 |emp h1 h2 h3=>
  have:xs=[]:=by simpa using hcs
  subst this;exact⟨_,_,_,rfl,rfl,h1,h2,hw, .nil _ _,h3⟩
 |sl f h1 h2 h3 h4 h5 h6=>
  rename_i b off c
  refine⟨_,_,_,rfl,rfl,h1,h2,hw, .inr ⟨b,off,rfl,fun i u hu=>?_⟩,fun e=>by cases e⟩;rw[List.getElem?_map]at hu;cases hx:xs[i]? with
  |none=>rw[hx]at hu;cases hu
  |some x=>
   rw[hx]at hu
   simp only[Option.map_some,Option.some.injEq]at hu
   have hc:cs[i]? =some (AV.val (aS x)):=by rw[← hcs];simp[hx]
   have:=h6 i _ hc;rw[h5 i _ hc,← hu,b6 this]
theorem wA (h:bZ S w) {v:Value} {na:Bool} {xs:List Nat} (hv:aL w v na xs):DV.M S w (dI na xs) v:=by
 obtain⟨A,n,c,rfl,hx⟩:=hv;exact⟨[.bool na, .slice A n c],rfl,CM.cons (.val rfl) (CM.cons (iE h hx) (CM.nil _ _))⟩
theorem hX {v:Value} {na:Bool} {xs:List Nat} (h:DV.M S w (dI na xs) v) (hw:Wd xs):aL w v na xs:=by
 obtain⟨vs,rfl,hl,hc⟩:=h
 match vs,hl with
 | [u,u'],_=>
  have h0:=hc 0 _ u rfl rfl;have h1:=hc 1 _ u' rfl rfl;obtain rfl:=b6 h0;obtain⟨A,n,c,rfl,hx⟩:=em h1 hw;exact⟨A,n,c,rfl,hx⟩
theorem rh (h:bZ S w) {v:Value} {z:Int} (hv:a7 w v z):DV.M S w (dZ z) v:=wA h hv
theorem qb {v:Value} {z:Int} (h:DV.M S w (dZ z) v):a7 w v z:=hX h (ai _)
end
theorem ax {P:Program} {f:FuncId} {fn:Func} (hf:P.funcs[f]? =some fn) (hn:(fn.name == "runtime.NumGoroutine")=false) (hb:fn.body.isSome=true):∀args w,(callFunc f args).run P w= .ok (.enter f args) w:=by
 intro args w;obtain⟨c,hc⟩:=Option.isSome_iff_exists.1 hb;have hn':¬fn.name= "runtime.NumGoroutine" :=by simpa using hn
 simp[callFunc,Sem.run_bind,hf,hn',hc]
section
variable {f:FuncId} {P:Program}
theorem vh (he:∀args w,(callFunc f args).run P w= .ok (.enter f args) w) {na:Bool} {xs:List Nat} (hw:Wd xs) {r:RV} {R:World→Ending→World→Prop} (h:∀v w,aL w v na xs→Calls P f #[v] w (R w)) (hR:∀S w e w',bZ S w→R w e w'→jN S r w e w'):ab P f [dI na xs] r:=
 ⟨he,fun S w vs hS hv=>by
  match vs,hv with
  | [v],⟨h1,_⟩=>exact(h v w (hX h1 hw)).mono fun e w' he=>hR S w e w' hS he⟩
theorem xI (he:∀args w,(callFunc f args).run P w= .ok (.enter f args) w) {na nb:Bool} {xs ys:List Nat} (hw:Wd xs) (hw':Wd ys) {r:RV} {R:World→Ending→World→Prop} (h:∀v u w,aL w v na xs→aL w u nb ys→Calls P f #[v,u] w (R w)) (hR:∀S w e w',bZ S w→R w e w'→jN S r w e w'):ab P f [dI na xs,dI nb ys] r:=
 ⟨he,fun S w vs hS hv=>by
  match vs,hv with
  | [v,u],⟨h1,h2,_⟩=>exact(h v u w (hX h1 hw) (hX h2 hw')).mono fun e w' he=>hR S w e w' hS he⟩
end
section
variable {S:Nat→Prop} {w w':World} {e:Ending}
theorem cK {z:Int} (h:bZ S w) (hr:bc z w e w'):jN S (.one (dZ z)) w e w':=by
 obtain⟨v,rfl,hv,hb⟩:=hr;exact⟨v,rfl,rh (h.grow hb) hv,hb⟩
theorem xv {na:Bool} {xs:List Nat} (h:bZ S w) (hr:x8 na xs w e w'):jN S (.one (dI na xs)) w e w':=by
 obtain⟨v,rfl,hv,hb⟩:=hr;exact⟨v,rfl,wA (h.grow hb) hv,hb⟩
theorem xu {b:Bool} (hr:qE b w e w'):jN S (.one (dB b)) w e w':=by
 obtain⟨rfl,hb⟩:=hr;exact⟨_,rfl,AV.M.val rfl,hb⟩
theorem ni {z n:Int} (h:bZ S w) (hr:od z n w e w'):jN S (.tup [dZ z,dN .i64 n]) w e w':=by
 obtain⟨v,rfl,hv,hb⟩:=hr;refine⟨_,rfl,⟨[v, .int .i64 n],rfl,rfl,fun i x u h1 h2=>?_⟩,hb⟩
 match i with
 |0=>simp at h1 h2;subst h1 h2;exact rh (h.grow hb) hv
 |1=>simp at h1 h2;subst h1 h2;exact AV.M.val rfl
 |i+2=>simp at h1
theorem rx {q r n:Int} (h:bZ S w) (hr:∃v1 v2,e= .returned (.tuple #[v1,v2, .int .i64 n])∧a7 w' v1 q∧a7 w' v2 r∧Below w.heap.size w w'):jN S (.tup [dZ q,dZ r,dN .i64 n]) w e w':=by
 obtain⟨v1,v2,rfl,hv1,hv2,hb⟩:=hr;refine⟨_,rfl,⟨[v1,v2, .int .i64 n],rfl,rfl,fun i x u h1 h2=>?_⟩,hb⟩
 match i with
 |0=>simp at h1 h2;subst h1 h2;exact rh (h.grow hb) hv1
 |1=>simp at h1 h2;subst h1 h2;exact rh (h.grow hb) hv2
 |2=>simp at h1 h2;subst h1 h2;exact AV.M.val rfl
 |i+3=>simp at h1
end
def yr:List (Nat × Ty):=
 [
  (3,⟨false,1,8,[.val (.int .i64 0)],[],none,false,false,some .i64⟩),
  (36,⟨true,2,32,[.val (.bool false), .sl 0 []],[(0,1,false),(1,1,false)],none,false,false,none⟩),
  (34,⟨false,1,24,[.sl 0 []],[],some (133,1),false,false,none⟩),
  (133,⟨false,1,4,[.val (.int .u32 0)],[],none,false,false,some .u32⟩),
  (26,⟨false,1,8,[.val (.int .i64 0)],[],none,false,false,some .i64⟩),
  (9,⟨false,1,16,[.val (.string ByteArray.empty)],[],none,false,true,none⟩),
  (5,⟨false,1,1,[.val (.int .u8 0)],[],none,false,false,some .u8⟩),
  (2,⟨false,1,8,[.val (.int .i64 0)],[],none,false,false,some .i64⟩),
  (148,⟨false,1,8,[.val (.int .u64 0)],[],none,false,false,some .u64⟩),
  (194,⟨false,1,24,[.sl 0 []],[],some (5,1),false,false,none⟩),
  (38,⟨true,4,64,[.val (.bool false), .sl 0 [], .val (.bool false), .sl 0 []],[(0,2,true),(2,2,true)],none,false,false,none⟩),
  (111,⟨false,1,24,[.sl 0 []],[],some (38,4),false,false,none⟩),
  (50,⟨true,5,72,[.val (.bool false), .sl 0 [], .val (.bool false), .sl 0 [], .val (.int .i64 0)],[(0,4,true),(4,1,false)],none,false,false,none⟩),
  (59,⟨false,1,24,[.sl 0 []],[],some (50,5),false,false,none⟩),
  (25,⟨false,1,24,[.sl 0 []],[],some (9,1),false,false,none⟩),
  (41,⟨true,7,112,[.val (.int .i64 0), .val (.bool false), .sl 0 [], .val (.bool false), .sl 0 [], .val (.string ByteArray.empty), .sl 0 []],[(0,1,false),(1,4,true),(5,1,false),(6,1,false)],none,false,false,none⟩),
  (39,⟨false,1,24,[.sl 0 []],[],some (41,7),false,false,none⟩),
  (166,⟨true,3,32,[.val (.int .i64 0), .val (.string ByteArray.empty), .val (.int .i64 0)],[(0,1,false),(1,1,false),(2,1,false)],none,false,false,none⟩),
  (159,⟨false,1,24,[.sl 0 []],[],some (166,3),false,false,none⟩),
  (164,⟨true,4,48,[.sl 0 [], .val (.int .i64 0), .val (.int .i64 0), .val (.int .i64 0)],[(0,1,false),(1,1,false),(2,1,false),(3,1,false)],none,false,false,none⟩),
  (43,⟨true,8,128,[.val (.string ByteArray.empty), .val (.int .i64 0), .val (.bool false), .sl 0 [], .val (.bool false), .sl 0 [], .val (.string ByteArray.empty), .sl 0 []],[(0,1,false),(1,7,true)],none,false,false,none⟩),
  (22,⟨false,1,24,[.sl 0 []],[],some (43,8),false,false,none⟩),
  (90,⟨false,1,24,[.sl 0 []],[],some (3,1),false,false,none⟩),
  (136,⟨false,1,8,[.val (.int .u64 0)],[],none,false,false,some .u64⟩),
  (4,⟨false,1,1,[.val (.bool false)],[],none,true,false,none⟩)]
def TT:TypeId→Option Ty:=aE yr
theorem xr:yr.map (fun p=>ws Tryz.prog p.1)=yr.map (fun p=>some p.2):=by kernel_rfl
theorem fA:∀t d,TT t=some d→bY Tryz.prog t d:=by
 have h:∀(l:List (Nat × Ty)),l.map (fun p=>ws Tryz.prog p.1)=l.map (fun p=>some p.2)→ ∀t d,aE l t=some d→bY Tryz.prog t d:=by
  intro l
  induction l with
  |nil=>intro _ t d hd;cases hd
  |cons p l ih=>
   obtain⟨k,x⟩:=p;intro he t d hd
   simp only[List.map_cons,List.cons.injEq]at he
   by_cases e:k=t
   ·subst e
    rw[aA]at hd;cases hd;exact vq he.1
   ·rw[aR _ _ e]at hd
    exact ih he.2 t d hd
 exact h yr xr
theorem yb:Tryz.prog.follows .mixedOrders=true:=by kernel_rfl
theorem kW {p q:Prop} (h:q) (e:q→p:=by intro h;(repeat(first|refine ew rfl rfl rfl rfl ?_|refine bR rfl rfl rfl ?_|refine .done ?_|refine aM (T:=TT) ?_|refine an (T:=TT) rfl ?_|refine bL (T:=TT) ?_|refine du (T:=TT) rfl ?_|refine cR (T:=TT) rfl ?_));exact h):p:=e h
theorem kG {p q:Prop} (h:q) (e:q→p:=by intro h;(repeat(first|refine ew rfl rfl rfl rfl ?_|refine bR rfl rfl rfl ?_|refine .done ?_|refine aM (T:=TT) ?_|refine bL (T:=TT) ?_|refine du (T:=TT) rfl ?_|refine cR (T:=TT) rfl ?_));refine an (T:=TT) rfl ?_;exact h):p:=e h
theorem kO {p q:Prop} (h:q) (e:q→p:=by intro h;(first|refine ew rfl rfl rfl rfl ?_|refine bR rfl rfl rfl ?_);exact h):p:=e h
theorem kO2 {p q:Prop} (h:q) (e:q→p:=by intro h;(iterate 2 (first|refine ew rfl rfl rfl rfl ?_|refine bR rfl rfl rfl ?_));exact h):p:=e h
theorem kO3 {p q:Prop} (h:q) (e:q→p:=by intro h;(iterate 3 (first|refine ew rfl rfl rfl rfl ?_|refine bR rfl rfl rfl ?_));exact h):p:=e h
theorem kO4 {p q:Prop} (h:q) (e:q→p:=by intro h;(iterate 4 (first|refine ew rfl rfl rfl rfl ?_|refine bR rfl rfl rfl ?_));exact h):p:=e h
theorem kO5 {p q:Prop} (h:q) (e:q→p:=by intro h;(iterate 5 (first|refine ew rfl rfl rfl rfl ?_|refine bR rfl rfl rfl ?_));exact h):p:=e h
theorem kG2 {p q:Prop} (h:q) (e:q→p:=by intro h;((repeat(first|refine ew rfl rfl rfl rfl ?_|refine bR rfl rfl rfl ?_|refine .done ?_|refine aM (T:=TT) ?_|refine bL (T:=TT) ?_|refine du (T:=TT) rfl ?_|refine cR (T:=TT) rfl ?_));refine an (T:=TT) rfl ?_);(iterate 2 (first|refine ew rfl rfl rfl rfl ?_|refine bR rfl rfl rfl ?_));exact h):p:=e h
theorem kG3 {p q:Prop} (h:q) (e:q→p:=by intro h;((repeat(first|refine ew rfl rfl rfl rfl ?_|refine bR rfl rfl rfl ?_|refine .done ?_|refine aM (T:=TT) ?_|refine bL (T:=TT) ?_|refine du (T:=TT) rfl ?_|refine cR (T:=TT) rfl ?_));refine an (T:=TT) rfl ?_);(iterate 3 (first|refine ew rfl rfl rfl rfl ?_|refine bR rfl rfl rfl ?_));exact h):p:=e h
theorem kG4 {p q:Prop} (h:q) (e:q→p:=by intro h;((repeat(first|refine ew rfl rfl rfl rfl ?_|refine bR rfl rfl rfl ?_|refine .done ?_|refine aM (T:=TT) ?_|refine bL (T:=TT) ?_|refine du (T:=TT) rfl ?_|refine cR (T:=TT) rfl ?_));refine an (T:=TT) rfl ?_);(iterate 4 (first|refine ew rfl rfl rfl rfl ?_|refine bR rfl rfl rfl ?_));exact h):p:=e h
section
variable {P:Program} {T:TypeId→Option Ty} {n:Nat} {ops:Array Oper} {id:Nat} {draw:Bool} {K:AS→Prop} {s:AS} {k:Nat} {o:Oper} {os:List Oper} {fps:List FP}
theorem kB (t:Bool) {b:Bool} {rb:List Nat} (hv:b=t) (h:aY P T n ops id draw K (k+1) os (s.eff o.dst ⟨.d (.leaf (.val (.bool t))),none⟩) (bC ops o ⟨.d (.leaf (.val (.bool t))),none⟩ rb::fps)) (h1:gd ops s o=some true:=by rfl) (h2:di T (id*1000+k) s o=some (⟨.d (.leaf (.val (.bool b))),none⟩,rb):=by rfl) (h3:bX n o.dst=true:=by rfl) (h4:kP draw ops (bC ops o ⟨.d (.leaf (.val (.bool t))),none⟩ rb) k fps=true:=by rfl):aY P T n ops id draw K k (o::os) s fps:=fZ h1 h2 h3 h4 (congrArg Value.bool hv) h
theorem kC {f:Operand} {fid:FuncId} {args:Array Operand} {ts:Array TypeId} {ds:List DV} {r:RV} (hc:ab P fid ds r) (h:aY P T n ops id draw K (k+1) os (s.eff o.dst ⟨r.tv,none⟩) (bC ops o ⟨r.tv,none⟩ []::fps)) (h1:gd ops s o=some true:=by rfl) (hcl:dP [] s.b=true:=by rfl) (h2:o.op= .call ⟨.value f,args,ts⟩:=by rfl) (h5:s.ev f= .d (.leaf (.val (.func (.func fid) #[] #[]))):=by rfl) (h6:tt s args.toList=some ds:=by rfl) (h3:bX n o.dst=true:=by rfl) (h4:kP draw ops (bC ops o ⟨r.tv,none⟩ []) k fps=true:=by rfl):aY P T n ops id draw K k (o::os) s fps:=aa hc h1 hcl h2 h5 h6 h3 h4 h
end
theorem kI {p q:Prop} (h:q) (e:q→p:=by intro h;(repeat refine aM (T:=TT) ?_);refine an (T:=TT) rfl ?_;exact h):p:=e h
theorem kR {p q:Prop} (h:q) (e:q→p:=by intro h;(repeat refine aM (T:=TT) ?_);refine an (T:=TT) rfl ?_;(repeat(first|refine ew rfl rfl rfl rfl ?_|refine bR rfl rfl rfl ?_));(try refine .done ?_);exact h):p:=e h
theorem kN {p q:Prop} (h:q) (e:q→p:=by intro h;(repeat(first|refine ew rfl rfl rfl rfl ?_|refine bR rfl rfl rfl ?_|refine .done ?_));exact h):p:=e h
theorem kF {p:Prop} (e:p:=by(repeat(first|refine ew rfl rfl rfl rfl ?_|refine bR rfl rfl rfl ?_|refine .done ?_|refine aM (T:=TT) ?_|refine an (T:=TT) rfl ?_|refine bL (T:=TT) ?_|refine du (T:=TT) rfl ?_|refine cR (T:=TT) rfl ?_));exact cJ (T:=TT) rfl rfl):p:=e
theorem kU {f:FuncId} {fn:Func} {c:Code} {ds:List DV} {r:RV} (hf:Tryz.prog.funcs[f]? =some fn) (h:ff Tryz.prog TT fn.ntmps c (fun e s=>match e with| .exit _=>False|_=>∃l,gG TT s fn.results.toList=some l∧r7 l=r) ⟨jG 0 ds,[]⟩) (hb:fn.body=some c:=by rfl) (hn:(fn.name == "runtime.NumGoroutine")=false:=by rfl) (hsz:(Nat.ble ds.length fn.ntmps && Nat.ble fn.ntmps DK)=true:=by rfl):ab Tryz.prog f ds r:=lR fA yb hf hb hn hsz h
theorem kV {q:Prop} {f:FuncId} {fn:Func} {c:Code} {ds:List DV} {r:RV} (hf:Tryz.prog.funcs[f]? =some fn) (h:q) (hb:fn.body=some c:=by rfl) (hn:(fn.name == "runtime.NumGoroutine")=false:=by rfl) (hsz:(Nat.ble ds.length fn.ntmps && Nat.ble fn.ntmps DK)=true:=by rfl) (e:q→ff Tryz.prog TT fn.ntmps c (fun e s=>match e with| .exit _=>False|_=>∃l,gG TT s fn.results.toList=some l∧r7 l=r) ⟨jG 0 ds,[]⟩:=by intro h;(repeat(first|refine ew rfl rfl rfl rfl ?_|refine bR rfl rfl rfl ?_|refine .done ?_|refine aM (T:=TT) ?_|refine an (T:=TT) rfl ?_|refine bL (T:=TT) ?_|refine du (T:=TT) rfl ?_|refine cR (T:=TT) rfl ?_));exact h):ab Tryz.prog f ds r:=lR fA yb hf hb hn hsz (e h)
section
variable {P:Program} {T:TypeId→Option Ty} {n:Nat} {ops:Array Oper} {id:Nat} {draw:Bool} {K:AS→Prop} {s:AS} {k:Nat} {o:Oper} {os:List Oper} {fps:List FP}
theorem kT {b:Bool} {rb:List Nat} (h:aY P T n ops id draw K (k+1) os (s.eff o.dst ⟨.d (.leaf (.val (.bool true))),none⟩) (bC ops o ⟨.d (.leaf (.val (.bool true))),none⟩ rb::fps)) (h1:gd ops s o=some true:=by rfl) (h2:di T (id*1000+k) s o=some (⟨.d (.leaf (.val (.bool b))),none⟩,rb):=by rfl) (h3:bX n o.dst=true:=by rfl) (h4:kP draw ops (bC ops o ⟨.d (.leaf (.val (.bool true))),none⟩ rb) k fps=true:=by rfl) (hv:b=true:=by exact decide_eq_true (by omega)):aY P T n ops id draw K k (o::os) s fps:=kB true hv h h1 h2 h3 h4
theorem kE {b:Bool} {rb:List Nat} (h:aY P T n ops id draw K (k+1) os (s.eff o.dst ⟨.d (.leaf (.val (.bool false))),none⟩) (bC ops o ⟨.d (.leaf (.val (.bool false))),none⟩ rb::fps)) (h1:gd ops s o=some true:=by rfl) (h2:di T (id*1000+k) s o=some (⟨.d (.leaf (.val (.bool b))),none⟩,rb):=by rfl) (h3:bX n o.dst=true:=by rfl) (h4:kP draw ops (bC ops o ⟨.d (.leaf (.val (.bool false))),none⟩ rb) k fps=true:=by rfl) (hv:b=false:=by exact decide_eq_false (by omega)):aY P T n ops id draw K k (o::os) s fps:=kB false hv h h1 h2 h3 h4
theorem kX {q:Prop} {b:Bool} {rb:List Nat} (h:q) (h1:gd ops s o=some true:=by rfl) (h2:di T (id*1000+k) s o=some (⟨.d (.leaf (.val (.bool b))),none⟩,rb):=by rfl) (h3:bX n o.dst=true:=by rfl) (h4:kP draw ops (bC ops o ⟨.d (.leaf (.val (.bool true))),none⟩ rb) k fps=true:=by rfl) (hv:b=true:=by exact decide_eq_true (by omega)) (e:q→aY P T n ops id draw K (k+1) os (s.eff o.dst ⟨.d (.leaf (.val (.bool true))),none⟩) (bC ops o ⟨.d (.leaf (.val (.bool true))),none⟩ rb::fps):=by intro h;(repeat(first|refine ew rfl rfl rfl rfl ?_|refine bR rfl rfl rfl ?_|refine .done ?_|refine aM (T:=TT) ?_|refine an (T:=TT) rfl ?_|refine bL (T:=TT) ?_|refine du (T:=TT) rfl ?_|refine cR (T:=TT) rfl ?_));exact h):aY P T n ops id draw K k (o::os) s fps:=kB true hv (e h) h1 h2 h3 h4
theorem kY {q:Prop} {b:Bool} {rb:List Nat} (h:q) (h1:gd ops s o=some true:=by rfl) (h2:di T (id*1000+k) s o=some (⟨.d (.leaf (.val (.bool b))),none⟩,rb):=by rfl) (h3:bX n o.dst=true:=by rfl) (h4:kP draw ops (bC ops o ⟨.d (.leaf (.val (.bool false))),none⟩ rb) k fps=true:=by rfl) (hv:b=false:=by exact decide_eq_false (by omega)) (e:q→aY P T n ops id draw K (k+1) os (s.eff o.dst ⟨.d (.leaf (.val (.bool false))),none⟩) (bC ops o ⟨.d (.leaf (.val (.bool false))),none⟩ rb::fps):=by intro h;(repeat(first|refine ew rfl rfl rfl rfl ?_|refine bR rfl rfl rfl ?_|refine .done ?_|refine aM (T:=TT) ?_|refine an (T:=TT) rfl ?_|refine bL (T:=TT) ?_|refine du (T:=TT) rfl ?_|refine cR (T:=TT) rfl ?_));exact h):aY P T n ops id draw K k (o::os) s fps:=kB false hv (e h) h1 h2 h3 h4
theorem kJ {i:Int} {rb:List Nat} (m:Int) (h:aY P T n ops id draw K (k+1) os (s.eff o.dst ⟨.d (.leaf (.val (.int .i64 m))),none⟩) (bC ops o ⟨.d (.leaf (.val (.int .i64 m))),none⟩ rb::fps)) (h1:gd ops s o=some true:=by rfl) (h2:di T (id*1000+k) s o=some (⟨.d (.leaf (.val (.int .i64 i))),none⟩,rb):=by rfl) (h3:bX n o.dst=true:=by rfl) (h4:kP draw ops (bC ops o ⟨.d (.leaf (.val (.int .i64 m))),none⟩ rb) k fps=true:=by rfl) (hv:i=m:=by rw[IntWalk.i64_in _ (by omega)];omega):aY P T n ops id draw K k (o::os) s fps:=fZ h1 h2 h3 h4 (congrArg (Value.int .i64) hv) h
theorem kQ {q:Prop} {f:Operand} {fid:FuncId} {args:Array Operand} {ts:Array TypeId} {ds:List DV} {r:RV} (hc:ab P fid ds r) (h:q) (h1:gd ops s o=some true:=by rfl) (hcl:dP [] s.b=true:=by rfl) (h2:o.op= .call ⟨.value f,args,ts⟩:=by rfl) (h5:s.ev f= .d (.leaf (.val (.func (.func fid) #[] #[]))):=by rfl) (h6:tt s args.toList=some ds:=by rfl) (h3:bX n o.dst=true:=by rfl) (h4:kP draw ops (bC ops o ⟨r.tv,none⟩ []) k fps=true:=by rfl) (e:q→aY P T n ops id draw K (k+1) os (s.eff o.dst ⟨r.tv,none⟩) (bC ops o ⟨r.tv,none⟩ []::fps):=by intro h;(repeat(first|refine ew rfl rfl rfl rfl ?_|refine bR rfl rfl rfl ?_|refine .done ?_|refine aM (T:=TT) ?_|refine an (T:=TT) rfl ?_|refine bL (T:=TT) ?_|refine du (T:=TT) rfl ?_|refine cR (T:=TT) rfl ?_));exact h):aY P T n ops id draw K k (o::os) s fps:=aa hc h1 hcl h2 h5 h6 h3 h4 (e h)
end
end Go.Proofs.YtmkggcjajcdlcaaGreatDoor
