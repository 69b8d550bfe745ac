/- Integers as plain data; the proved contracts of the integer functions as contracts over plain data. -/
import Derived.Test.YtnchbpoopnjghaaGreatDoorQK2
import Derived.Test.YtnchbpoopnjghaaGreatDoorQAm
import Derived.Test.YtnchbpoopnjghaaGreatDoorQDivZero
set_option maxHeartbeats 100000000
set_option linter.all false
namespace Go.Proofs.YtnchbpoopnjghaaGreatDoor
open Go.RowKit
def aW (xs:List Nat):AV:= .sl xs.length (xs.map fun x:Nat=>AV.val (bZ x))
def aI (na:Bool) (xs:List Nat):List AV:=[.val (.bool na),aW xs]
def aZ (z:Int):List AV:=aI (decide (z<0)) (digs z.natAbs)
def dI (na:Bool) (xs:List Nat):DV:= .agg (aI na xs)
def dZ (z:Int):DV:= .agg (aZ z)
def dB (b:Bool):DV:= .leaf (.val (.bool b))
def dN (k:IntKind) (n:Int):DV:= .leaf (.val (.int k n))
theorem ai {a b:Int} (h:a=b) (h1: -9223372036854775808<=a/\a<=9223372036854775807):TV.d (.leaf (.val (.int .i64 (IntKind.i64.wrap a))))=TV.d (dN .i64 b):=by
 subst h;rw[IntWalk.i64_in _ h1];rfl
def dS (s:ByteArray):DV:= .leaf (.val (.string s))
section
variable {S:Nat->Prop} {w w':World}
theorem dU.grow (h:dU S w) (hb:Below w.heap.size w w'):dU S w':=⟨h.1.mono hb rfl,fun b hS=>by
 obtain⟨h1,h2⟩:=h.2 b hS;exact⟨k_ h1 hb.size,fun off v hv=>h2 off v (by rw[hb.cell (p:=⟨b,off,none⟩) h1]at hv;exact hv)⟩,fun k cs hk=>(h.gl k cs hk).agree (.of_below hb) (fun _ _ h=>h) (iX.same hb rfl)⟩
theorem lI (h:dU S w) {A:Option Addr} {n c:Nat} {xs:List Nat} (hx:bi w A n c xs):AV.M S w (aW xs) (.slice A n c):=by
 unfold aW;rw[hx.len];rcases hx.cells with h0| ⟨b,off,rfl,hc⟩
 ·have:xs=[]:=by simpa using h0
  subst this;exact .emp hx.cap hx.lim hx.isnil
 ·cases xs with
  |nil=>exact .emp hx.cap hx.lim hx.isnil
  |cons x xs=>
   have h1:=hc 0 (bZ x) rfl;have hb:b<w.heap.size:=World.block_lt_of_cell? w _ h1
   refine AV.M.sl (fun i=>bZ ((x::xs).getD i 0)) hx.cap hx.lim (fun hS=>?_) hb (fun i a hi=>?_) (fun i a hi=>?_)
   ·have:=(h.2 b hS).2 _ _ h1
    cases this
   ·have hi':i<(x::xs).length:=by have:=(G_.1 hi).1;simpa using this
    exact hc i _ (by rw[List.getElem?_map,Q_ hi',H_,Q_ hi'];rfl)
   ·have hi':i<(x::xs).length:=by have:=(G_.1 hi).1;simpa using this
    have e:a= .val (bZ ((x::xs).getD i 0)):=by
     rw[List.getElem?_map,Q_ hi']at hi;rw[H_,Q_ hi'];exact(Option.some.inj hi).symm
    rw[e];exact .val rfl
theorem fD {v:Value} {xs:List Nat} (h:AV.M S w (aW xs) v) (hw:Wd xs):∃A n c,v= .slice A n c/\bi w A n c xs:=by
 unfold aW at h;generalize hcs:(xs.map fun x:Nat=>AV.val (bZ x))=cs at h;cases h with
 |emp h1 h2 h3=>
  have:xs=[]:=by simpa using hcs
  subst this;exact⟨_,_,_,rfl,rfl,h1,h2,hw, .nil _ _,h3⟩
 |sl f h1 h2 h3 h4 h5 h6=>
  rename_i b off c
  refine⟨_,_,_,rfl,rfl,h1,h2,hw, .inr ⟨b,off,rfl,fun i u hu=>?_⟩,fun e=>by cases e⟩;rw[List.getElem?_map]at hu;cases hx:xs[i]? with
  |none=>rw[hx]at hu;cases hu
  |some x=>
   rw[hx]at hu
   simp only[Option.map_some,X_]at hu
   have hc:cs[i]? =some (AV.val (bZ x)):=by rw[<- hcs];simp[hx]
   have:=h6 i _ hc;rw[h5 i _ hc,<- hu,bc this]
theorem TX (h:dU S w) {v:Value} {na:Bool} {xs:List Nat} (hv:Jt w v na xs):DV.M S w (dI na xs) v:=by
 obtain⟨A,n,c,rfl,hx⟩:=hv;exact⟨[.bool na, .slice A n c],rfl,CM.cons (.val rfl) (CM.cons (lI h hx) (CM.nil _ _))⟩
theorem Mw {v:Value} {na:Bool} {xs:List Nat} (h:DV.M S w (dI na xs) v) (hw:Wd xs):Jt w v na xs:=by
 obtain⟨vs,rfl,hl,hc⟩:=h
 match vs,hl with
 | [u,u'],_=>
  have h0:=hc 0 _ u rfl rfl;have h1:=hc 1 _ u' rfl rfl;obtain rfl:=bc h0;obtain⟨A,n,c,rfl,hx⟩:=fD h1 hw;exact⟨A,n,c,rfl,hx⟩
theorem Vb (h:dU S w) {v:Value} {z:Int} (hv:xG w v z):DV.M S w (dZ z) v:=TX h hv
end
theorem aG {P:Program} {f:FuncId} {fn:Func} (hf:P.funcs[f]? =some fn) (hn:(fn.name == "runtime.NumGoroutine")=false) (hb:fn.body.isSome=true):∀args w,(callFunc f args).run P w= .ok (.enter f args) w:=by
 intro args w;obtain⟨c,hc⟩:=Option.isSome_iff_exists.1 hb;have hn':¬fn.name= "runtime.NumGoroutine" :=by simpa using hn
 simp[callFunc,Y_,hf,hn',hc]
section
variable {f:FuncId} {P:Program}
end
section
variable {S:Nat->Prop} {w w':World} {e:Ending}
theorem yf {z:Int} (h:dU S w) (hr:tu z w e w'):F4 S (.one (dZ z)) w e w':=by
 obtain⟨v,rfl,hv,hb⟩:=hr;exact⟨v,rfl,Vb (h.grow hb) hv,hb⟩
end
def tys:List (Nat × Ty):=
 [
  (3,⟨false,1,8,[.val (.int .i64 0)],[],none,false,false,some .i64⟩),
  (36,⟨true,2,32,[.val (.bool false), .sl 0 []],[(0,1,false),(1,1,false)],none,false,false,none⟩),
  (34,⟨false,1,24,[.sl 0 []],[],some (135,1),false,false,none⟩),
  (135,⟨false,1,4,[.val (.int .u32 0)],[],none,false,false,some .u32⟩),
  (44,⟨false,1,8,[.val (.int .i64 0)],[],none,false,false,some .i64⟩),
  (9,⟨false,1,16,[.val (.string ByteArray.empty)],[],none,false,true,none⟩),
  (5,⟨false,1,1,[.val (.int .u8 0)],[],none,false,false,some .u8⟩),
  (2,⟨false,1,8,[.val (.int .i64 0)],[],none,false,false,some .i64⟩),
  (169,⟨false,1,8,[.val (.int .u64 0)],[],none,false,false,some .u64⟩),
  (137,⟨false,1,24,[.sl 0 []],[],some (5,1),false,false,none⟩),
  (38,⟨true,4,64,[.val (.bool false), .sl 0 [], .val (.bool false), .sl 0 []],[(0,2,true),(2,2,true)],none,false,false,none⟩),
  (47,⟨false,1,24,[.sl 0 []],[],some (38,4),false,false,none⟩),
  (92,⟨true,5,72,[.val (.bool false), .sl 0 [], .val (.bool false), .sl 0 [], .val (.int .i64 0)],[(0,4,true),(4,1,false)],none,false,false,none⟩),
  (130,⟨false,1,24,[.sl 0 []],[],some (92,5),false,false,none⟩),
  (86,⟨false,1,24,[.sl 0 []],[],some (9,1),false,false,none⟩),
  (40,⟨true,7,112,[.val (.int .i64 0), .val (.bool false), .sl 0 [], .val (.bool false), .sl 0 [], .val (.string ByteArray.empty), .sl 0 []],[(0,1,false),(1,4,true),(5,1,false),(6,1,false)],none,false,false,none⟩),
  (28,⟨false,1,24,[.sl 0 []],[],some (40,7),false,false,none⟩),
  (244,⟨true,3,32,[.val (.string ByteArray.empty), .val (.int .i64 0), .val (.int .i64 0)],[(0,1,false),(1,1,false),(2,1,false)],none,false,false,none⟩),
  (243,⟨false,1,24,[.sl 0 []],[],some (244,3),false,false,none⟩),
  (118,⟨true,3,32,[.val (.int .i64 0), .val (.string ByteArray.empty), .val (.int .i64 0)],[(0,1,false),(1,1,false),(2,1,false)],none,false,false,none⟩),
  (110,⟨false,1,24,[.sl 0 []],[],some (118,3),false,false,none⟩),
  (160,⟨true,3,32,[.val (.int .i64 0), .val (.string ByteArray.empty), .val (.int .i64 0)],[(0,1,false),(1,1,false),(2,1,false)],none,false,false,none⟩),
  (154,⟨false,1,24,[.sl 0 []],[],some (160,3),false,false,none⟩),
  (115,⟨true,3,40,[.sl 0 [], .val (.int .i64 0), .val (.int .i64 0)],[(0,1,false),(1,1,false),(2,1,false)],none,false,false,none⟩),
  (159,⟨true,4,48,[.sl 0 [], .val (.int .i64 0), .val (.int .i64 0), .val (.int .i64 0)],[(0,1,false),(1,1,false),(2,1,false),(3,1,false)],none,false,false,none⟩),
  (42,⟨true,8,128,[.val (.string ByteArray.empty), .val (.int .i64 0), .val (.bool false), .sl 0 [], .val (.bool false), .sl 0 [], .val (.string ByteArray.empty), .sl 0 []],[(0,1,false),(1,7,true)],none,false,false,none⟩),
  (33,⟨false,1,24,[.sl 0 []],[],some (42,8),false,false,none⟩),
  (27,⟨false,1,24,[.sl 0 []],[],some (3,1),false,false,none⟩),
  (30,⟨true,5,88,[.val (.int .i64 0), .sl 0 [], .sl 0 [], .sl 0 [], .val (.int .i64 0)],[(0,1,false),(1,1,false),(2,1,false),(3,1,false),(4,1,false)],none,false,false,none⟩),
  (60,⟨true,7,40,[.val (.int .i64 0), .val (.int .i64 0), .val (.int .i64 0), .val (.int .i64 0), .val (.bool false), .val (.bool false), .val (.bool false)],[(0,1,false),(1,1,false),(2,1,false),(3,1,false),(4,1,false),(5,1,false),(6,1,false)],none,false,false,none⟩),
  (72,⟨true,8,56,[.val (.string ByteArray.empty), .val (.int .i64 0), .val (.int .i64 0), .val (.int .i64 0), .val (.int .i64 0), .val (.bool false), .val (.bool false), .val (.bool false)],[(0,1,false),(1,7,true)],none,false,false,none⟩),
  (64,⟨true,7,64,[.val (.string ByteArray.empty), .val (.int .i64 0), .val (.int .i64 0), .val (.int .i64 0), .val (.int .i64 0), .val (.int .i64 0), .val (.bool false)],[(0,1,false),(1,1,false),(2,1,false),(3,1,false),(4,1,false),(5,1,false),(6,1,false)],none,false,false,none⟩),
  (74,⟨false,1,24,[.sl 0 []],[],some (64,7),false,false,none⟩),
  (21,⟨false,1,4,[.val (.int .i32 0)],[],none,false,false,some .i32⟩),
  (195,⟨false,1,8,[.val (.int .u64 0)],[],none,false,false,some .u64⟩),
  (4,⟨false,1,1,[.val (.bool false)],[],none,true,false,none⟩)]
def TT:TypeId->Option Ty:=ap tys
theorem RB:tys.map (fun p=>LL Tryz.prog p.1)=tys.map (fun p=>some p.2):=by kernel_rfl
theorem af:∀t d,TT t=some d->a8 Tryz.prog t d:=by
 have h:∀(l:List (Nat × Ty)),l.map (fun p=>LL Tryz.prog p.1)=l.map (fun p=>some p.2)-> ∀t d,ap l t=some d->a8 Tryz.prog t d:=by
  intro l
  induction l with
  |nil=>intro _ t d hd;cases hd
  |cons p l ih=>
   obtain⟨k,x⟩:=p;intro he t d hd
   simp only[List.map_cons,List.cons.injEq]at he
   by_cases e:k=t
   ·subst e
    rw[am]at hd;cases hd;exact MB he.1
   ·rw[au _ _ e]at hd
    exact ih he.2 t d hd
 exact h tys RB
theorem dx:Tryz.prog.follows .mixedOrders=true:=by kernel_rfl
theorem kW {p q:Prop} (h:q) (e:q->p:=by intro h;(repeat(first|refine gT rfl rfl rfl rfl ?_|refine bn rfl rfl rfl ?_|refine .done ?_|refine bu (T:=TT) ?_|refine bG (T:=TT) rfl ?_|refine cX (T:=TT) ?_|refine fj (T:=TT) rfl ?_|refine dX (T:=TT) rfl ?_));exact h):p:=e h
theorem kG {p q:Prop} (h:q) (e:q->p:=by intro h;(repeat(first|refine gT rfl rfl rfl rfl ?_|refine bn rfl rfl rfl ?_|refine .done ?_|refine bu (T:=TT) ?_|refine cX (T:=TT) ?_|refine fj (T:=TT) rfl ?_|refine dX (T:=TT) rfl ?_));refine bG (T:=TT) rfl ?_;exact h):p:=e h
theorem kO {p q:Prop} (h:q) (e:q->p:=by intro h;(first|refine gT rfl rfl rfl rfl ?_|refine bn rfl rfl rfl ?_);exact h):p:=e h
theorem kO2 {p q:Prop} (h:q) (e:q->p:=by intro h;(iterate 2 (first|refine gT rfl rfl rfl rfl ?_|refine bn rfl rfl rfl ?_));exact h):p:=e h
theorem kO3 {p q:Prop} (h:q) (e:q->p:=by intro h;(iterate 3 (first|refine gT rfl rfl rfl rfl ?_|refine bn rfl rfl rfl ?_));exact h):p:=e h
theorem kO4 {p q:Prop} (h:q) (e:q->p:=by intro h;(iterate 4 (first|refine gT rfl rfl rfl rfl ?_|refine bn rfl rfl rfl ?_));exact h):p:=e h
theorem kO5 {p q:Prop} (h:q) (e:q->p:=by intro h;(iterate 5 (first|refine gT rfl rfl rfl rfl ?_|refine bn rfl rfl rfl ?_));exact h):p:=e h
theorem kG2 {p q:Prop} (h:q) (e:q->p:=by intro h;((repeat(first|refine gT rfl rfl rfl rfl ?_|refine bn rfl rfl rfl ?_|refine .done ?_|refine bu (T:=TT) ?_|refine cX (T:=TT) ?_|refine fj (T:=TT) rfl ?_|refine dX (T:=TT) rfl ?_));refine bG (T:=TT) rfl ?_);(iterate 2 (first|refine gT rfl rfl rfl rfl ?_|refine bn rfl rfl rfl ?_));exact h):p:=e h
theorem kG3 {p q:Prop} (h:q) (e:q->p:=by intro h;((repeat(first|refine gT rfl rfl rfl rfl ?_|refine bn rfl rfl rfl ?_|refine .done ?_|refine bu (T:=TT) ?_|refine cX (T:=TT) ?_|refine fj (T:=TT) rfl ?_|refine dX (T:=TT) rfl ?_));refine bG (T:=TT) rfl ?_);(iterate 3 (first|refine gT rfl rfl rfl rfl ?_|refine bn rfl rfl rfl ?_));exact h):p:=e h
theorem kG4 {p q:Prop} (h:q) (e:q->p:=by intro h;((repeat(first|refine gT rfl rfl rfl rfl ?_|refine bn rfl rfl rfl ?_|refine .done ?_|refine bu (T:=TT) ?_|refine cX (T:=TT) ?_|refine fj (T:=TT) rfl ?_|refine dX (T:=TT) rfl ?_));refine bG (T:=TT) rfl ?_);(iterate 4 (first|refine gT rfl rfl rfl rfl ?_|refine bn rfl rfl rfl ?_));exact h):p:=e h
section
variable {P:Program} {T:TypeId->Option Ty} {n:Nat} {ops:Array Oper} {id:Nat} {draw:Bool} {K:AS->Prop} {s:AS} {k:Nat} {o:Oper} {os:List Oper} {fps:List FP}
theorem kB (t:Bool) {b:Bool} {rb:List Nat} (hv:b=t) (h:ar P T n ops id draw K (k+1) os (s.eff o.dst ⟨.d (.leaf (.val (.bool t))),none⟩) (aA ops o ⟨.d (.leaf (.val (.bool t))),none⟩ rb::fps)) (h1:gd ops s o=some true:=by rfl) (h2:fv T (id*1000+k) s o=some (⟨.d (.leaf (.val (.bool b))),none⟩,rb):=by rfl) (h3:aL n o.dst=true:=by rfl) (h4:fg draw ops (aA ops o ⟨.d (.leaf (.val (.bool t))),none⟩ rb) k fps=true:=by rfl):ar P T n ops id draw K k (o::os) s fps:=cU h1 h2 h3 h4 (congrArg Value.bool hv) h
theorem kC {f:Operand} {fid:FuncId} {args:Array Operand} {ts:Array TypeId} {ds:List DV} {r:RV} (hc:aa P fid ds r) (h:ar P T n ops id draw K (k+1) os (s.eff o.dst ⟨r.tv,none⟩) (aA ops o ⟨r.tv,none⟩ []::fps)) (h1:gd ops s o=some true:=by rfl) (hcl:dY [] s.b=true:=by rfl) (h2:o.op= .call ⟨.value f,args,ts⟩:=by rfl) (h5:s.ev f= .d (.leaf (.val (.func (.func fid) #[] #[]))):=by rfl) (h6:GX s args.toList=some ds:=by rfl) (h3:aL n o.dst=true:=by rfl) (h4:fg draw ops (aA ops o ⟨r.tv,none⟩ []) k fps=true:=by rfl):ar P T n ops id draw K k (o::os) s fps:=ac hc h1 hcl h2 h5 h6 h3 h4 h
end
theorem kI {p q:Prop} (h:q) (e:q->p:=by intro h;(repeat refine bu (T:=TT) ?_);refine bG (T:=TT) rfl ?_;exact h):p:=e h
theorem kR {p q:Prop} (h:q) (e:q->p:=by intro h;(repeat refine bu (T:=TT) ?_);refine bG (T:=TT) rfl ?_;(repeat(first|refine gT rfl rfl rfl rfl ?_|refine bn rfl rfl rfl ?_));(try refine .done ?_);exact h):p:=e h
theorem kN {p q:Prop} (h:q) (e:q->p:=by intro h;(repeat(first|refine gT rfl rfl rfl rfl ?_|refine bn rfl rfl rfl ?_|refine .done ?_));exact h):p:=e h
theorem kF {p:Prop} (e:p:=by(repeat(first|refine gT rfl rfl rfl rfl ?_|refine bn rfl rfl rfl ?_|refine .done ?_|refine bu (T:=TT) ?_|refine bG (T:=TT) rfl ?_|refine cX (T:=TT) ?_|refine fj (T:=TT) rfl ?_|refine dX (T:=TT) rfl ?_));exact bK (T:=TT) rfl rfl):p:=e
theorem kU {f:FuncId} {fn:Func} {c:Code} {ds:List DV} {r:RV} (hf:Tryz.prog.funcs[f]? =some fn) (h:fP Tryz.prog TT fn.ntmps c (fun e s=>match e with| .exit _=>False|_=>∃l,ki TT s fn.results.toList=some l/\yt l=r) ⟨qp 0 ds,[]⟩) (hb:fn.body=some c:=by rfl) (hn:(fn.name == "runtime.NumGoroutine")=false:=by rfl) (hsz:(Nat.ble ds.length fn.ntmps && Nat.ble fn.ntmps DK)=true:=by rfl):aa Tryz.prog f ds r:=vz af dx hf hb hn hsz h
theorem kV {q:Prop} {f:FuncId} {fn:Func} {c:Code} {ds:List DV} {r:RV} (hf:Tryz.prog.funcs[f]? =some fn) (h:q) (hb:fn.body=some c:=by rfl) (hn:(fn.name == "runtime.NumGoroutine")=false:=by rfl) (hsz:(Nat.ble ds.length fn.ntmps && Nat.ble fn.ntmps DK)=true:=by rfl) (e:q->fP Tryz.prog TT fn.ntmps c (fun e s=>match e with| .exit _=>False|_=>∃l,ki TT s fn.results.toList=some l/\yt l=r) ⟨qp 0 ds,[]⟩:=by intro h;(repeat(first|refine gT rfl rfl rfl rfl ?_|refine bn rfl rfl rfl ?_|refine .done ?_|refine bu (T:=TT) ?_|refine bG (T:=TT) rfl ?_|refine cX (T:=TT) ?_|refine fj (T:=TT) rfl ?_|refine dX (T:=TT) rfl ?_));exact h):aa Tryz.prog f ds r:=vz af dx hf hb hn hsz (e h)
section
variable {P:Program} {T:TypeId->Option Ty} {n:Nat} {ops:Array Oper} {id:Nat} {draw:Bool} {K:AS->Prop} {s:AS} {k:Nat} {o:Oper} {os:List Oper} {fps:List FP}
theorem kT {b:Bool} {rb:List Nat} (h:ar P T n ops id draw K (k+1) os (s.eff o.dst ⟨.d (.leaf (.val (.bool true))),none⟩) (aA ops o ⟨.d (.leaf (.val (.bool true))),none⟩ rb::fps)) (h1:gd ops s o=some true:=by rfl) (h2:fv T (id*1000+k) s o=some (⟨.d (.leaf (.val (.bool b))),none⟩,rb):=by rfl) (h3:aL n o.dst=true:=by rfl) (h4:fg draw ops (aA ops o ⟨.d (.leaf (.val (.bool true))),none⟩ rb) k fps=true:=by rfl) (hv:b=true:=by exact T_ O_):ar P T n ops id draw K k (o::os) s fps:=kB true hv h h1 h2 h3 h4
theorem kE {b:Bool} {rb:List Nat} (h:ar P T n ops id draw K (k+1) os (s.eff o.dst ⟨.d (.leaf (.val (.bool false))),none⟩) (aA ops o ⟨.d (.leaf (.val (.bool false))),none⟩ rb::fps)) (h1:gd ops s o=some true:=by rfl) (h2:fv T (id*1000+k) s o=some (⟨.d (.leaf (.val (.bool b))),none⟩,rb):=by rfl) (h3:aL n o.dst=true:=by rfl) (h4:fg draw ops (aA ops o ⟨.d (.leaf (.val (.bool false))),none⟩ rb) k fps=true:=by rfl) (hv:b=false:=by exact F_ O_):ar P T n ops id draw K k (o::os) s fps:=kB false hv h h1 h2 h3 h4
theorem kX {q:Prop} {b:Bool} {rb:List Nat} (h:q) (h1:gd ops s o=some true:=by rfl) (h2:fv T (id*1000+k) s o=some (⟨.d (.leaf (.val (.bool b))),none⟩,rb):=by rfl) (h3:aL n o.dst=true:=by rfl) (h4:fg draw ops (aA ops o ⟨.d (.leaf (.val (.bool true))),none⟩ rb) k fps=true:=by rfl) (hv:b=true:=by exact T_ O_) (e:q->ar P T n ops id draw K (k+1) os (s.eff o.dst ⟨.d (.leaf (.val (.bool true))),none⟩) (aA ops o ⟨.d (.leaf (.val (.bool true))),none⟩ rb::fps):=by intro h;(repeat(first|refine gT rfl rfl rfl rfl ?_|refine bn rfl rfl rfl ?_|refine .done ?_|refine bu (T:=TT) ?_|refine bG (T:=TT) rfl ?_|refine cX (T:=TT) ?_|refine fj (T:=TT) rfl ?_|refine dX (T:=TT) rfl ?_));exact h):ar P T n ops id draw K k (o::os) s fps:=kB true hv (e h) h1 h2 h3 h4
theorem kY {q:Prop} {b:Bool} {rb:List Nat} (h:q) (h1:gd ops s o=some true:=by rfl) (h2:fv T (id*1000+k) s o=some (⟨.d (.leaf (.val (.bool b))),none⟩,rb):=by rfl) (h3:aL n o.dst=true:=by rfl) (h4:fg draw ops (aA ops o ⟨.d (.leaf (.val (.bool false))),none⟩ rb) k fps=true:=by rfl) (hv:b=false:=by exact F_ O_) (e:q->ar P T n ops id draw K (k+1) os (s.eff o.dst ⟨.d (.leaf (.val (.bool false))),none⟩) (aA ops o ⟨.d (.leaf (.val (.bool false))),none⟩ rb::fps):=by intro h;(repeat(first|refine gT rfl rfl rfl rfl ?_|refine bn rfl rfl rfl ?_|refine .done ?_|refine bu (T:=TT) ?_|refine bG (T:=TT) rfl ?_|refine cX (T:=TT) ?_|refine fj (T:=TT) rfl ?_|refine dX (T:=TT) rfl ?_));exact h):ar P T n ops id draw K k (o::os) s fps:=kB false hv (e h) h1 h2 h3 h4
theorem kJ {i:Int} {rb:List Nat} (m:Int) (h:ar P T n ops id draw K (k+1) os (s.eff o.dst ⟨.d (.leaf (.val (.int .i64 m))),none⟩) (aA ops o ⟨.d (.leaf (.val (.int .i64 m))),none⟩ rb::fps)) (h1:gd ops s o=some true:=by rfl) (h2:fv T (id*1000+k) s o=some (⟨.d (.leaf (.val (.int .i64 i))),none⟩,rb):=by rfl) (h3:aL n o.dst=true:=by rfl) (h4:fg draw ops (aA ops o ⟨.d (.leaf (.val (.int .i64 m))),none⟩ rb) k fps=true:=by rfl) (hv:i=m:=by rw[IntWalk.i64_in _ O_];omega):ar P T n ops id draw K k (o::os) s fps:=cU h1 h2 h3 h4 (congrArg (Value.int .i64) hv) h
theorem kQ {q:Prop} {f:Operand} {fid:FuncId} {args:Array Operand} {ts:Array TypeId} {ds:List DV} {r:RV} (hc:aa P fid ds r) (h:q) (h1:gd ops s o=some true:=by rfl) (hcl:dY [] s.b=true:=by rfl) (h2:o.op= .call ⟨.value f,args,ts⟩:=by rfl) (h5:s.ev f= .d (.leaf (.val (.func (.func fid) #[] #[]))):=by rfl) (h6:GX s args.toList=some ds:=by rfl) (h3:aL n o.dst=true:=by rfl) (h4:fg draw ops (aA ops o ⟨r.tv,none⟩ []) k fps=true:=by rfl) (e:q->ar P T n ops id draw K (k+1) os (s.eff o.dst ⟨r.tv,none⟩) (aA ops o ⟨r.tv,none⟩ []::fps):=by intro h;(repeat(first|refine gT rfl rfl rfl rfl ?_|refine bn rfl rfl rfl ?_|refine .done ?_|refine bu (T:=TT) ?_|refine bG (T:=TT) rfl ?_|refine cX (T:=TT) ?_|refine fj (T:=TT) rfl ?_|refine dX (T:=TT) rfl ?_));exact h):ar P T n ops id draw K k (o::os) s fps:=ac hc h1 hcl h2 h5 h6 h3 h4 (e h)
end
theorem kw {s s':AS} (ht:TI s s'.t:=by(repeat refine⟨rfl,?_⟩);exact trivial) (hb:qQ s s'.b:=by(repeat refine⟨rfl,?_⟩);exact trivial) (hw:Wg s'.b s'.t=true:=by rfl) (hdk:s'.tv DK=s.tv DK:=by rfl):aM s s':=weak ht hb hw hdk
end Go.Proofs.YtnchbpoopnjghaaGreatDoor
