/- Integers as plain data; the proved contracts of the integer functions as contracts over plain data. -/
import Derived.Test.YtmkggcjajcdlcaaGreatDoorVK2
import Derived.Test.YtmkggcjajcdlcaaGreatDoorVAm
import Derived.Test.YtmkggcjajcdlcaaGreatDoorVDivZero
set_option maxHeartbeats 100000000
set_option linter.all false
namespace Go.Proofs.YtmkggcjajcdlcaaGreatDoor
open Go.RowKit
def aW (xs:List Nat):AV:= .sl xs.length (xs.map fun x:Nat=>AV.val (dh x))
def aI (na:Bool) (xs:List Nat):List AV:=[.val (.bool na),aW xs]
def aZ (z:Int):List AV:=aI (decide (z<0)) (digs z.natAbs)
def dI (na:Bool) (xs:List Nat):DV:= .agg (aI na xs)
def dZ (z:Int):DV:= .agg (aZ z)
def dB (b:Bool):DV:= .leaf (.val (.bool b))
def dN (k:IntKind) (n:Int):DV:= .leaf (.val (.int k n))
theorem ak {a b:Int} (h:a=b) (h1: -9223372036854775808<=a/\a<=9223372036854775807):TV.d (.leaf (.val (.int .i64 (IntKind.i64.wrap a))))=TV.d (dN .i64 b):=by
 subst h;rw[IntWalk.i64_in _ h1];rfl
def dS (s:ByteArray):DV:= .leaf (.val (.string s))
section
variable {S:Nat->Prop} {w w':World}
theorem eD.grow (h:eD S w) (hb:Below w.heap.size w w'):eD S w':=⟨h.1.mono hb rfl,fun b hS=>by
 obtain⟨h1,h2⟩:=h.2 b hS;exact⟨Nat.lt_of_lt_of_le h1 hb.size,fun off v hv=>h2 off v (by rw[hb.cell (p:=⟨b,off,none⟩) h1]at hv;exact hv)⟩,fun k cs hk=>(h.gl k cs hk).agree (.of_below hb) (fun _ _ h=>h) (iH.same hb rfl)⟩
theorem ph (h:eD S w) {A:Option Addr} {n c:Nat} {xs:List Nat} (hx:aC w A n c xs):AV.M S w (aW xs) (.slice A n c):=by
 unfold aW;rw[hx.len];rcases hx.cells with h0| ⟨b,off,rfl,hc⟩
 ·have:xs=[]:=by simpa using h0
  subst this;exact .emp hx.cap hx.lim hx.isnil
 ·cases xs with
  |nil=>exact .emp hx.cap hx.lim hx.isnil
  |cons x xs=>
   have h1:=hc 0 (dh x) rfl;have hb:b<w.heap.size:=World.block_lt_of_cell? w _ h1
   refine AV.M.sl (fun i=>dh ((x::xs).getD i 0)) hx.cap hx.lim (fun hS=>?_) hb (fun i a hi=>?_) (fun i a hi=>?_)
   ·have:=(h.2 b hS).2 _ _ h1
    cases this
   ·have hi':i<(x::xs).length:=by have:=(List.getElem?_eq_some_iff.1 hi).1;simpa using this
    exact hc i _ (by rw[List.getElem?_map,List.getElem?_eq_getElem hi',List.getD_eq_getElem?_getD,List.getElem?_eq_getElem hi'];rfl)
   ·have hi':i<(x::xs).length:=by have:=(List.getElem?_eq_some_iff.1 hi).1;simpa using this
    have e:a= .val (dh ((x::xs).getD i 0)):=by
     rw[List.getElem?_map,List.getElem?_eq_getElem hi']at hi;rw[List.getD_eq_getElem?_getD,List.getElem?_eq_getElem hi'];exact(Option.some.inj hi).symm
    rw[e];exact .val rfl
theorem gc {v:Value} {xs:List Nat} (h:AV.M S w (aW xs) v) (hw:Wd xs):∃A n c,v= .slice A n c/\aC w A n c xs:=by
 unfold aW at h;generalize hcs:(xs.map fun x:Nat=>AV.val (dh x))=cs at h;cases h with
 |emp h1 h2 h3=>
  have:xs=[]:=by simpa using hcs
  subst this;exact⟨_,_,_,rfl,rfl,h1,h2,hw, .nil _ _,h3⟩
 |sl f h1 h2 h3 h4 h5 h6=>
  rename_i b off c
  refine⟨_,_,_,rfl,rfl,h1,h2,hw, .inr ⟨b,off,rfl,fun i u hu=>?_⟩,fun e=>by cases e⟩;rw[List.getElem?_map]at hu;cases hx:xs[i]? with
  |none=>rw[hx]at hu;cases hu
  |some x=>
   rw[hx]at hu
   simp only[Option.map_some,Option.some.injEq]at hu
   have hc:cs[i]? =some (AV.val (dh x)):=by rw[<- hcs];simp[hx]
   have:=h6 i _ hc;rw[h5 i _ hc,<- hu,dM this]
theorem P6 (h:eD S w) {v:Value} {na:Bool} {xs:List Nat} (hv:bH w v na xs):DV.M S w (dI na xs) v:=by
 obtain⟨A,n,c,rfl,hx⟩:=hv;exact⟨[.bool na, .slice A n c],rfl,CM.cons (.val rfl) (CM.cons (ph h hx) (CM.nil _ _))⟩
theorem qa {v:Value} {na:Bool} {xs:List Nat} (h:DV.M S w (dI na xs) v) (hw:Wd xs):bH w v na xs:=by
 obtain⟨vs,rfl,hl,hc⟩:=h
 match vs,hl with
 | [u,u'],_=>
  have h0:=hc 0 _ u rfl rfl;have h1:=hc 1 _ u' rfl rfl;obtain rfl:=dM h0;obtain⟨A,n,c,rfl,hx⟩:=gc h1 hw;exact⟨A,n,c,rfl,hx⟩
theorem Gs (h:eD S w) {v:Value} {z:Int} (hv:dz w v z):DV.M S w (dZ z) v:=P6 h hv
end
theorem aJ {P:Program} {f:FuncId} {fn:Func} (hf:P.funcs[f]? =some fn) (hn:(fn.name == "runtime.NumGoroutine")=false) (hb:fn.body.isSome=true):∀args w,(callFunc f args).run P w= .ok (.enter f args) w:=by
 intro args w;obtain⟨c,hc⟩:=Option.isSome_iff_exists.1 hb;have hn':¬fn.name= "runtime.NumGoroutine" :=by simpa using hn
 simp[callFunc,Sem.run_bind,hf,hn',hc]
section
variable {f:FuncId} {P:Program}
theorem LN (he:∀args w,(callFunc f args).run P w= .ok (.enter f args) w) {na:Bool} {xs:List Nat} (hw:Wd xs) {r:RV} {R:World->Ending->World->Prop} (h:∀v w,bH w v na xs->Calls P f #[v] w (R w)) (hR:∀S w e w',eD S w->R w e w'->vO S r w e w'):aa P f [dI na xs] r:=
 ⟨he,fun S w vs hS hv=>by
  match vs,hv with
  | [v],⟨h1,_⟩=>exact(h v w (qa h1 hw)).mono fun e w' he=>hR S w e w' hS he⟩
theorem Mq (he:∀args w,(callFunc f args).run P w= .ok (.enter f args) w) {na nb:Bool} {xs ys:List Nat} (hw:Wd xs) (hw':Wd ys) {r:RV} {R:World->Ending->World->Prop} (h:∀v u w,bH w v na xs->bH w u nb ys->Calls P f #[v,u] w (R w)) (hR:∀S w e w',eD S w->R w e w'->vO S r w e w'):aa P f [dI na xs,dI nb ys] r:=
 ⟨he,fun S w vs hS hv=>by
  match vs,hv with
  | [v,u],⟨h1,h2,_⟩=>exact(h v u w (qa h1 hw) (qa h2 hw')).mono fun e w' he=>hR S w e w' hS he⟩
end
section
variable {S:Nat->Prop} {w w':World} {e:Ending}
theorem ee {z:Int} (h:eD S w) (hr:bZ z w e w'):vO S (.one (dZ z)) w e w':=by
 obtain⟨v,rfl,hv,hb⟩:=hr;exact⟨v,rfl,Gs (h.grow hb) hv,hb⟩
theorem Bz {b:Bool} (hr:pr b w e w'):vO S (.one (dB b)) w e w':=by
 obtain⟨rfl,hb⟩:=hr;exact⟨_,rfl,AV.M.val rfl,hb⟩
theorem CX {q r n:Int} (h:eD S w) (hr:∃v1 v2,e= .returned (.tuple #[v1,v2, .int .i64 n])/\dz w' v1 q/\dz w' v2 r/\Below w.heap.size w w'):vO S (.tup [dZ q,dZ r,dN .i64 n]) w e w':=by
 obtain⟨v1,v2,rfl,hv1,hv2,hb⟩:=hr;refine⟨_,rfl,⟨[v1,v2, .int .i64 n],rfl,rfl,fun i x u h1 h2=>?_⟩,hb⟩
 match i with
 |0=>simp at h1 h2;subst h1 h2;exact Gs (h.grow hb) hv1
 |1=>simp at h1 h2;subst h1 h2;exact Gs (h.grow hb) hv2
 |2=>simp at h1 h2;subst h1 h2;exact AV.M.val rfl
 |i+3=>simp at h1
end
def tys:List (Nat × Ty):=
 [
  (3,⟨false,1,8,[.val (.int .i64 0)],[],none,false,false,some .i64⟩),
  (36,⟨true,2,32,[.val (.bool false), .sl 0 []],[(0,1,false),(1,1,false)],none,false,false,none⟩),
  (34,⟨false,1,24,[.sl 0 []],[],some (133,1),false,false,none⟩),
  (133,⟨false,1,4,[.val (.int .u32 0)],[],none,false,false,some .u32⟩),
  (26,⟨false,1,8,[.val (.int .i64 0)],[],none,false,false,some .i64⟩),
  (9,⟨false,1,16,[.val (.string ByteArray.empty)],[],none,false,true,none⟩),
  (5,⟨false,1,1,[.val (.int .u8 0)],[],none,false,false,some .u8⟩),
  (2,⟨false,1,8,[.val (.int .i64 0)],[],none,false,false,some .i64⟩),
  (148,⟨false,1,8,[.val (.int .u64 0)],[],none,false,false,some .u64⟩),
  (194,⟨false,1,24,[.sl 0 []],[],some (5,1),false,false,none⟩),
  (38,⟨true,4,64,[.val (.bool false), .sl 0 [], .val (.bool false), .sl 0 []],[(0,2,true),(2,2,true)],none,false,false,none⟩),
  (111,⟨false,1,24,[.sl 0 []],[],some (38,4),false,false,none⟩),
  (50,⟨true,5,72,[.val (.bool false), .sl 0 [], .val (.bool false), .sl 0 [], .val (.int .i64 0)],[(0,4,true),(4,1,false)],none,false,false,none⟩),
  (59,⟨false,1,24,[.sl 0 []],[],some (50,5),false,false,none⟩),
  (25,⟨false,1,24,[.sl 0 []],[],some (9,1),false,false,none⟩),
  (41,⟨true,7,112,[.val (.int .i64 0), .val (.bool false), .sl 0 [], .val (.bool false), .sl 0 [], .val (.string ByteArray.empty), .sl 0 []],[(0,1,false),(1,4,true),(5,1,false),(6,1,false)],none,false,false,none⟩),
  (39,⟨false,1,24,[.sl 0 []],[],some (41,7),false,false,none⟩),
  (176,⟨true,3,32,[.val (.string ByteArray.empty), .val (.int .i64 0), .val (.int .i64 0)],[(0,1,false),(1,1,false),(2,1,false)],none,false,false,none⟩),
  (175,⟨false,1,24,[.sl 0 []],[],some (176,3),false,false,none⟩),
  (166,⟨true,3,32,[.val (.int .i64 0), .val (.string ByteArray.empty), .val (.int .i64 0)],[(0,1,false),(1,1,false),(2,1,false)],none,false,false,none⟩),
  (159,⟨false,1,24,[.sl 0 []],[],some (166,3),false,false,none⟩),
  (164,⟨true,4,48,[.sl 0 [], .val (.int .i64 0), .val (.int .i64 0), .val (.int .i64 0)],[(0,1,false),(1,1,false),(2,1,false),(3,1,false)],none,false,false,none⟩),
  (43,⟨true,8,128,[.val (.string ByteArray.empty), .val (.int .i64 0), .val (.bool false), .sl 0 [], .val (.bool false), .sl 0 [], .val (.string ByteArray.empty), .sl 0 []],[(0,1,false),(1,7,true)],none,false,false,none⟩),
  (22,⟨false,1,24,[.sl 0 []],[],some (43,8),false,false,none⟩),
  (90,⟨false,1,24,[.sl 0 []],[],some (3,1),false,false,none⟩),
  (136,⟨false,1,8,[.val (.int .u64 0)],[],none,false,false,some .u64⟩),
  (4,⟨false,1,1,[.val (.bool false)],[],none,true,false,none⟩)]
def TT:TypeId->Option Ty:=ai tys
theorem N2:tys.map (fun p=>Kk Tryz.prog p.1)=tys.map (fun p=>some p.2):=by kernel_rfl
theorem ac:∀t d,TT t=some d->aU Tryz.prog t d:=by
 have h:∀(l:List (Nat × Ty)),l.map (fun p=>Kk Tryz.prog p.1)=l.map (fun p=>some p.2)-> ∀t d,ai l t=some d->aU Tryz.prog t d:=by
  intro l
  induction l with
  |nil=>intro _ t d hd;cases hd
  |cons p l ih=>
   obtain⟨k,x⟩:=p;intro he t d hd
   simp only[List.map_cons,List.cons.injEq]at he
   by_cases e:k=t
   ·subst e
    rw[ah]at hd;cases hd;exact JG he.1
   ·rw[aq _ _ e]at hd
    exact ih he.2 t d hd
 exact h tys N2
theorem fo:Tryz.prog.follows .mixedOrders=true:=by kernel_rfl
theorem kW {p q:Prop} (h:q) (e:q->p:=by intro h;(repeat(first|refine gi rfl rfl rfl rfl ?_|refine dq rfl rfl rfl ?_|refine .done ?_|refine bG (T:=TT) ?_|refine bz (T:=TT) rfl ?_|refine eG (T:=TT) ?_|refine eZ (T:=TT) rfl ?_|refine eX (T:=TT) rfl ?_));exact h):p:=e h
theorem kG {p q:Prop} (h:q) (e:q->p:=by intro h;(repeat(first|refine gi rfl rfl rfl rfl ?_|refine dq rfl rfl rfl ?_|refine .done ?_|refine bG (T:=TT) ?_|refine eG (T:=TT) ?_|refine eZ (T:=TT) rfl ?_|refine eX (T:=TT) rfl ?_));refine bz (T:=TT) rfl ?_;exact h):p:=e h
theorem kO {p q:Prop} (h:q) (e:q->p:=by intro h;(first|refine gi rfl rfl rfl rfl ?_|refine dq rfl rfl rfl ?_);exact h):p:=e h
theorem kO2 {p q:Prop} (h:q) (e:q->p:=by intro h;(iterate 2 (first|refine gi rfl rfl rfl rfl ?_|refine dq rfl rfl rfl ?_));exact h):p:=e h
theorem kO3 {p q:Prop} (h:q) (e:q->p:=by intro h;(iterate 3 (first|refine gi rfl rfl rfl rfl ?_|refine dq rfl rfl rfl ?_));exact h):p:=e h
theorem kO4 {p q:Prop} (h:q) (e:q->p:=by intro h;(iterate 4 (first|refine gi rfl rfl rfl rfl ?_|refine dq rfl rfl rfl ?_));exact h):p:=e h
theorem kO5 {p q:Prop} (h:q) (e:q->p:=by intro h;(iterate 5 (first|refine gi rfl rfl rfl rfl ?_|refine dq rfl rfl rfl ?_));exact h):p:=e h
theorem kG2 {p q:Prop} (h:q) (e:q->p:=by intro h;((repeat(first|refine gi rfl rfl rfl rfl ?_|refine dq rfl rfl rfl ?_|refine .done ?_|refine bG (T:=TT) ?_|refine eG (T:=TT) ?_|refine eZ (T:=TT) rfl ?_|refine eX (T:=TT) rfl ?_));refine bz (T:=TT) rfl ?_);(iterate 2 (first|refine gi rfl rfl rfl rfl ?_|refine dq rfl rfl rfl ?_));exact h):p:=e h
theorem kG3 {p q:Prop} (h:q) (e:q->p:=by intro h;((repeat(first|refine gi rfl rfl rfl rfl ?_|refine dq rfl rfl rfl ?_|refine .done ?_|refine bG (T:=TT) ?_|refine eG (T:=TT) ?_|refine eZ (T:=TT) rfl ?_|refine eX (T:=TT) rfl ?_));refine bz (T:=TT) rfl ?_);(iterate 3 (first|refine gi rfl rfl rfl rfl ?_|refine dq rfl rfl rfl ?_));exact h):p:=e h
theorem kG4 {p q:Prop} (h:q) (e:q->p:=by intro h;((repeat(first|refine gi rfl rfl rfl rfl ?_|refine dq rfl rfl rfl ?_|refine .done ?_|refine bG (T:=TT) ?_|refine eG (T:=TT) ?_|refine eZ (T:=TT) rfl ?_|refine eX (T:=TT) rfl ?_));refine bz (T:=TT) rfl ?_);(iterate 4 (first|refine gi rfl rfl rfl rfl ?_|refine dq rfl rfl rfl ?_));exact h):p:=e h
section
variable {P:Program} {T:TypeId->Option Ty} {n:Nat} {ops:Array Oper} {id:Nat} {draw:Bool} {K:AS->Prop} {s:AS} {k:Nat} {o:Oper} {os:List Oper} {fps:List FP}
theorem kB (t:Bool) {b:Bool} {rb:List Nat} (hv:b=t) (h:am P T n ops id draw K (k+1) os (s.eff o.dst ⟨.d (.leaf (.val (.bool t))),none⟩) (ar ops o ⟨.d (.leaf (.val (.bool t))),none⟩ rb::fps)) (h1:gd ops s o=some true:=by rfl) (h2:eK T (id*1000+k) s o=some (⟨.d (.leaf (.val (.bool b))),none⟩,rb):=by rfl) (h3:aF n o.dst=true:=by rfl) (h4:eT draw ops (ar ops o ⟨.d (.leaf (.val (.bool t))),none⟩ rb) k fps=true:=by rfl):am P T n ops id draw K k (o::os) s fps:=nu h1 h2 h3 h4 (congrArg Value.bool hv) h
theorem kC {f:Operand} {fid:FuncId} {args:Array Operand} {ts:Array TypeId} {ds:List DV} {r:RV} (hc:aa P fid ds r) (h:am P T n ops id draw K (k+1) os (s.eff o.dst ⟨r.tv,none⟩) (ar ops o ⟨r.tv,none⟩ []::fps)) (h1:gd ops s o=some true:=by rfl) (hcl:ez [] s.b=true:=by rfl) (h2:o.op= .call ⟨.value f,args,ts⟩:=by rfl) (h5:s.ev f= .d (.leaf (.val (.func (.func fid) #[] #[]))):=by rfl) (h6:IX s args.toList=some ds:=by rfl) (h3:aF n o.dst=true:=by rfl) (h4:eT draw ops (ar ops o ⟨r.tv,none⟩ []) k fps=true:=by rfl):am P T n ops id draw K k (o::os) s fps:=ax hc h1 hcl h2 h5 h6 h3 h4 h
end
theorem kI {p q:Prop} (h:q) (e:q->p:=by intro h;(repeat refine bG (T:=TT) ?_);refine bz (T:=TT) rfl ?_;exact h):p:=e h
theorem kR {p q:Prop} (h:q) (e:q->p:=by intro h;(repeat refine bG (T:=TT) ?_);refine bz (T:=TT) rfl ?_;(repeat(first|refine gi rfl rfl rfl rfl ?_|refine dq rfl rfl rfl ?_));(try refine .done ?_);exact h):p:=e h
theorem kN {p q:Prop} (h:q) (e:q->p:=by intro h;(repeat(first|refine gi rfl rfl rfl rfl ?_|refine dq rfl rfl rfl ?_|refine .done ?_));exact h):p:=e h
theorem kF {p:Prop} (e:p:=by(repeat(first|refine gi rfl rfl rfl rfl ?_|refine dq rfl rfl rfl ?_|refine .done ?_|refine bG (T:=TT) ?_|refine bz (T:=TT) rfl ?_|refine eG (T:=TT) ?_|refine eZ (T:=TT) rfl ?_|refine eX (T:=TT) rfl ?_));exact de (T:=TT) rfl rfl):p:=e
theorem kU {f:FuncId} {fn:Func} {c:Code} {ds:List DV} {r:RV} (hf:Tryz.prog.funcs[f]? =some fn) (h:gk Tryz.prog TT fn.ntmps c (fun e s=>match e with| .exit _=>False|_=>∃l,jB TT s fn.results.toList=some l/\qC l=r) ⟨pq 0 ds,[]⟩) (hb:fn.body=some c:=by rfl) (hn:(fn.name == "runtime.NumGoroutine")=false:=by rfl) (hsz:(Nat.ble ds.length fn.ntmps && Nat.ble fn.ntmps DK)=true:=by rfl):aa Tryz.prog f ds r:=uq ac fo hf hb hn hsz h
theorem kV {q:Prop} {f:FuncId} {fn:Func} {c:Code} {ds:List DV} {r:RV} (hf:Tryz.prog.funcs[f]? =some fn) (h:q) (hb:fn.body=some c:=by rfl) (hn:(fn.name == "runtime.NumGoroutine")=false:=by rfl) (hsz:(Nat.ble ds.length fn.ntmps && Nat.ble fn.ntmps DK)=true:=by rfl) (e:q->gk Tryz.prog TT fn.ntmps c (fun e s=>match e with| .exit _=>False|_=>∃l,jB TT s fn.results.toList=some l/\qC l=r) ⟨pq 0 ds,[]⟩:=by intro h;(repeat(first|refine gi rfl rfl rfl rfl ?_|refine dq rfl rfl rfl ?_|refine .done ?_|refine bG (T:=TT) ?_|refine bz (T:=TT) rfl ?_|refine eG (T:=TT) ?_|refine eZ (T:=TT) rfl ?_|refine eX (T:=TT) rfl ?_));exact h):aa Tryz.prog f ds r:=uq ac fo hf hb hn hsz (e h)
section
variable {P:Program} {T:TypeId->Option Ty} {n:Nat} {ops:Array Oper} {id:Nat} {draw:Bool} {K:AS->Prop} {s:AS} {k:Nat} {o:Oper} {os:List Oper} {fps:List FP}
theorem kT {b:Bool} {rb:List Nat} (h:am P T n ops id draw K (k+1) os (s.eff o.dst ⟨.d (.leaf (.val (.bool true))),none⟩) (ar ops o ⟨.d (.leaf (.val (.bool true))),none⟩ rb::fps)) (h1:gd ops s o=some true:=by rfl) (h2:eK T (id*1000+k) s o=some (⟨.d (.leaf (.val (.bool b))),none⟩,rb):=by rfl) (h3:aF n o.dst=true:=by rfl) (h4:eT draw ops (ar ops o ⟨.d (.leaf (.val (.bool true))),none⟩ rb) k fps=true:=by rfl) (hv:b=true:=by exact decide_eq_true (by omega)):am P T n ops id draw K k (o::os) s fps:=kB true hv h h1 h2 h3 h4
theorem kE {b:Bool} {rb:List Nat} (h:am P T n ops id draw K (k+1) os (s.eff o.dst ⟨.d (.leaf (.val (.bool false))),none⟩) (ar ops o ⟨.d (.leaf (.val (.bool false))),none⟩ rb::fps)) (h1:gd ops s o=some true:=by rfl) (h2:eK T (id*1000+k) s o=some (⟨.d (.leaf (.val (.bool b))),none⟩,rb):=by rfl) (h3:aF n o.dst=true:=by rfl) (h4:eT draw ops (ar ops o ⟨.d (.leaf (.val (.bool false))),none⟩ rb) k fps=true:=by rfl) (hv:b=false:=by exact decide_eq_false (by omega)):am P T n ops id draw K k (o::os) s fps:=kB false hv h h1 h2 h3 h4
theorem kX {q:Prop} {b:Bool} {rb:List Nat} (h:q) (h1:gd ops s o=some true:=by rfl) (h2:eK T (id*1000+k) s o=some (⟨.d (.leaf (.val (.bool b))),none⟩,rb):=by rfl) (h3:aF n o.dst=true:=by rfl) (h4:eT draw ops (ar ops o ⟨.d (.leaf (.val (.bool true))),none⟩ rb) k fps=true:=by rfl) (hv:b=true:=by exact decide_eq_true (by omega)) (e:q->am P T n ops id draw K (k+1) os (s.eff o.dst ⟨.d (.leaf (.val (.bool true))),none⟩) (ar ops o ⟨.d (.leaf (.val (.bool true))),none⟩ rb::fps):=by intro h;(repeat(first|refine gi rfl rfl rfl rfl ?_|refine dq rfl rfl rfl ?_|refine .done ?_|refine bG (T:=TT) ?_|refine bz (T:=TT) rfl ?_|refine eG (T:=TT) ?_|refine eZ (T:=TT) rfl ?_|refine eX (T:=TT) rfl ?_));exact h):am P T n ops id draw K k (o::os) s fps:=kB true hv (e h) h1 h2 h3 h4
theorem kY {q:Prop} {b:Bool} {rb:List Nat} (h:q) (h1:gd ops s o=some true:=by rfl) (h2:eK T (id*1000+k) s o=some (⟨.d (.leaf (.val (.bool b))),none⟩,rb):=by rfl) (h3:aF n o.dst=true:=by rfl) (h4:eT draw ops (ar ops o ⟨.d (.leaf (.val (.bool false))),none⟩ rb) k fps=true:=by rfl) (hv:b=false:=by exact decide_eq_false (by omega)) (e:q->am P T n ops id draw K (k+1) os (s.eff o.dst ⟨.d (.leaf (.val (.bool false))),none⟩) (ar ops o ⟨.d (.leaf (.val (.bool false))),none⟩ rb::fps):=by intro h;(repeat(first|refine gi rfl rfl rfl rfl ?_|refine dq rfl rfl rfl ?_|refine .done ?_|refine bG (T:=TT) ?_|refine bz (T:=TT) rfl ?_|refine eG (T:=TT) ?_|refine eZ (T:=TT) rfl ?_|refine eX (T:=TT) rfl ?_));exact h):am P T n ops id draw K k (o::os) s fps:=kB false hv (e h) h1 h2 h3 h4
theorem kJ {i:Int} {rb:List Nat} (m:Int) (h:am P T n ops id draw K (k+1) os (s.eff o.dst ⟨.d (.leaf (.val (.int .i64 m))),none⟩) (ar ops o ⟨.d (.leaf (.val (.int .i64 m))),none⟩ rb::fps)) (h1:gd ops s o=some true:=by rfl) (h2:eK T (id*1000+k) s o=some (⟨.d (.leaf (.val (.int .i64 i))),none⟩,rb):=by rfl) (h3:aF n o.dst=true:=by rfl) (h4:eT draw ops (ar ops o ⟨.d (.leaf (.val (.int .i64 m))),none⟩ rb) k fps=true:=by rfl) (hv:i=m:=by rw[IntWalk.i64_in _ (by omega)];omega):am P T n ops id draw K k (o::os) s fps:=nu h1 h2 h3 h4 (congrArg (Value.int .i64) hv) h
theorem kQ {q:Prop} {f:Operand} {fid:FuncId} {args:Array Operand} {ts:Array TypeId} {ds:List DV} {r:RV} (hc:aa P fid ds r) (h:q) (h1:gd ops s o=some true:=by rfl) (hcl:ez [] s.b=true:=by rfl) (h2:o.op= .call ⟨.value f,args,ts⟩:=by rfl) (h5:s.ev f= .d (.leaf (.val (.func (.func fid) #[] #[]))):=by rfl) (h6:IX s args.toList=some ds:=by rfl) (h3:aF n o.dst=true:=by rfl) (h4:eT draw ops (ar ops o ⟨r.tv,none⟩ []) k fps=true:=by rfl) (e:q->am P T n ops id draw K (k+1) os (s.eff o.dst ⟨r.tv,none⟩) (ar ops o ⟨r.tv,none⟩ []::fps):=by intro h;(repeat(first|refine gi rfl rfl rfl rfl ?_|refine dq rfl rfl rfl ?_|refine .done ?_|refine bG (T:=TT) ?_|refine bz (T:=TT) rfl ?_|refine eG (T:=TT) ?_|refine eZ (T:=TT) rfl ?_|refine eX (T:=TT) rfl ?_));exact h):am P T n ops id draw K k (o::os) s fps:=ax hc h1 hcl h2 h5 h6 h3 h4 (e h)
end
theorem kw {s s':AS} (ht:Rw s s'.t:=by(repeat refine⟨rfl,?_⟩);exact trivial) (hb:sy s s'.b:=by(repeat refine⟨rfl,?_⟩);exact trivial) (hw:SR s'.b s'.t=true:=by rfl) (hdk:s'.tv DK=s.tv DK:=by rfl):bi s s':=weak ht hb hw hdk
end Go.Proofs.YtmkggcjajcdlcaaGreatDoor
