/- Rows of the call's own whose capacity has a name: parts of them, append, copy, clear. -/
import Derived.Test.YtmkggcjajcdlcaaGreatDoorVZ3
set_option maxHeartbeats 100000000
set_option linter.all false
namespace Go.Proofs.YtmkggcjajcdlcaaGreatDoor
open Go.RowKit
section
variable {P:Program} {T:TypeId->Option Ty} {n:Nat} {ops:Array Oper} {id:Nat} {draw:Bool} {K:AS->Prop} {S0:Nat->Prop} {w0:eP} {s s':AS} {k:Nat} {o:Oper} {os:List Oper} {fps:List FP} {g:Nat->Nat} {a:Act} {w:World}
theorem oW (q:Nat) {j m r e:Nat} {cs:List AV} (hq:s.tv q= .own j m r e) (hj:s.bx j=some cs):yp s (fun s1=>∃c,m<=c/\c<=9223372036854775807/\s1=⟨(q, .vs j 0 m c r e)::s.t,s.b⟩):=by
 rintro n S0 w0 a w ⟨g,h⟩;have hm:=h.tm q;rw[hq]at hm;obtain⟨c,e1,e2,e3,e4,arr,e5,e6⟩:=hm.2 cs hj;exact⟨_,⟨c,e2,e3,rfl⟩,g,h.reslot (x:= .vs j 0 m c r e) ⟨hm.1,fun cs' hc=>⟨by rw[e1,Nat.zero_mul],e2,e3,arr,e5,by rw[Nat.zero_add];exact e6⟩⟩ rfl (by show og (s.tv q)=true;rw[hq];rfl)⟩
theorem mJ {Q:AX->AS->Prop} (q:Nat) {j m r e:Nat} {cs:List AV} (hq:s.tv q= .own j m r e) (hj:s.bx j=some cs) (h:∀c,m<=c->c<=9223372036854775807->gk P T n (.region id ops draw) Q ⟨(q, .vs j 0 m c r e)::s.t,s.b⟩):gk P T n (.region id ops draw) Q s:=
 Dm _ (oW q hq hj) (by rintro s1 ⟨c,h1,h2,rfl⟩;exact h c h1 h2)
theorem rV {q j m c r e:Nat} {cs:List AV} (hq:s.tv q= .vs j 0 m c r e) (hj:s.bx j=some cs) (hl:m*r<=cs.length):bi s ⟨(q, .own j m r e)::s.t,s.b⟩:=by
 rintro n S0 w0 a w ⟨g,h⟩;have hm:=h.tm q;rw[hq]at hm;obtain⟨e1,e2,e3,arr,e5,e6⟩:=hm.2 cs hj;exact⟨g,h.reslot (x:= .own j m r e) ⟨hm.1,fun cs' hc=>⟨c,by rw[e1,Nat.zero_mul],e2,e3,by rw[hj]at hc;cases hc;exact hl,arr,e5,by rw[e6,Nat.zero_add]⟩⟩ rfl (by show og (s.tv q)=true;rw[hq];rfl)⟩
theorem D3 {P:Program} {w:World} {t et q:Nat} (hu:P.underlying t=some (.slice et)) (hks:(P.info? et).map (·.size)=some q) (A:Option Addr) {m i i2 c:Nat} (ik ik2:IntKind) (hi:i<=i2) (h2:i2<=c):
 (Instr.sliceAt t (.slice A m c) (some (.int ik (i:Nat))) (some (.int ik2 (i2:Nat))) none).run P w= .ok (.slice (if c=i then A else A.map (·.add (i*q))) (i2-i) (c-i)) w:=by
 have hib:(0:Int)<=(i:Int)/\(i:Int)<=(i2:Nat):=⟨by omega,by omega⟩;have hib2:(0:Int)<=(i2:Int)/\(i2:Int)<=(c:Nat):=⟨by omega,by omega⟩;unfold Instr.sliceAt
 simp only[Sem.run_bind,run_underlying hu w,Result.andThen_ok]
 unfold Instr.slice
 simp only[Sem.run_bind,run_underlying hu w,Result.andThen_ok,Instr.sliceBounds,Instr.sliceBound,Sem.run_pure,asIntOf]
 simp only[Bool.false_eq_true,if_false,if_true]
 rw[if_pos hib2]
 simp only[Sem.run_pure,Result.andThen_ok,Sem.run_bind,Int.toNat_natCast]
 rw[if_pos hib]
 simp only[Sem.run_pure,Result.andThen_ok,Int.toNat_natCast]
 rw[bB hks w];rfl
theorem Af (hT:∀t d,T t=some d->aU P t d) {t:TypeId} {ty:Ty} {x z:Operand} {j p et q m c i:Nat} {ik:IntKind} {cs:List AV} (hi:i<=c) (h1:gd ops s o=some true) (h2:o.op= .slice t x none (some z) none) (h5:T t=some ty) (h6:ty.elem=some (et,q)) (h7:s.ev x= .vs j p m c q et) (hb:s.bx j=some cs) (h8:s.ev z= .d (.leaf (.val (.int ik (i:Nat)))))
 (h3:aF n o.dst=true) (h4:eT draw ops (ar ops o ⟨.vs j p i c q et,none⟩ [j]) k fps=true) (h:am P T n ops id draw K (k+1) os (s.eff o.dst ⟨.vs j p i c q et,none⟩) (ar ops o ⟨.vs j p i c q et,none⟩ [j]::fps)):am P T n ops id draw K k (o::os) s fps:=by
 refine .run h1 (.gen fun s2 ht hrb=>?_) h3 h4 h;have hx:=(an ht (x:=x) (by simp[h2,Op.operands])).trans h7;have hz:=(an ht (x:=z) (by simp[h2,Op.operands])).trans h8;have hbj:=(aN (hrb j (by simp))).trans hb;obtain⟨u,hu,_,hel,_⟩:=(hT _ _ h5).und;obtain⟨rfl,hks⟩:=hel et q h6;refine af fun n S0 w0 g a w hM=>?_
 have hm:=hM.ev x;rw[hx]at hm;obtain⟨e1,e2,e3,arr,e5,e6⟩:=hm.2 cs hbj;have hr:=qo (w:=w) hu hks (some ⟨g j,p*q,none⟩) (m:=m) (i:=i) (c:=c) ik hi
 have ha:(if c=0 then some (⟨g j,p*q,none⟩:Addr)else(some ⟨g j,p*q,none⟩:Option Addr).map (·.add (0*q)))=some ⟨g j,p*q,none⟩:=by
  split
  ·rfl
  ·rw[Nat.zero_mul,Option.map_some,b8];rfl
 rw[ha]at hr;refine⟨.slice (some ⟨g j,p*q,none⟩) i c,w,?_,Below.refl _ _,hm.1,fun cs' hc=>⟨rfl,hi,e3,arr,e5,e6⟩⟩;unfold execOp;rw[h2]
 simp only[e1,aY hM hz,Option.map_some,Option.map_none,Sem.run_bind,hr,Result.andThen_ok]
 rfl
theorem jQ (hT:∀t d,T t=some d->aU P t d) {t:TypeId} {ty:Ty} {x y:Operand} {j p et q m c i:Nat} {ik:IntKind} {cs:List AV} (hi:i<=m) (hic:i<c) (h1:gd ops s o=some true) (h2:o.op= .slice t x (some y) none none) (h5:T t=some ty) (h6:ty.elem=some (et,q)) (h7:s.ev x= .vs j p m c q et) (hb:s.bx j=some cs) (h8:s.ev y= .d (.leaf (.val (.int ik (i:Nat)))))
 (h3:aF n o.dst=true) (h4:eT draw ops (ar ops o ⟨.vs j (p+i) (m-i) (c-i) q et,none⟩ [j]) k fps=true) (h:am P T n ops id draw K (k+1) os (s.eff o.dst ⟨.vs j (p+i) (m-i) (c-i) q et,none⟩) (ar ops o ⟨.vs j (p+i) (m-i) (c-i) q et,none⟩ [j]::fps)):am P T n ops id draw K k (o::os) s fps:=by
 refine .run h1 (.gen fun s2 ht hrb=>?_) h3 h4 h;have hx:=(an ht (x:=x) (by simp[h2,Op.operands])).trans h7;have hy:=(an ht (x:=y) (by simp[h2,Op.operands])).trans h8;have hbj:=(aN (hrb j (by simp))).trans hb;obtain⟨u,hu,_,hel,_⟩:=(hT _ _ h5).und;obtain⟨rfl,hks⟩:=hel et q h6;refine af fun n S0 w0 g a w hM=>?_
 have hm:=hM.ev x;rw[hx]at hm;obtain⟨e1,e2,e3,arr,e5,e6⟩:=hm.2 cs hbj;have hr:=j9 (w:=w) hu hks (some ⟨g j,p*q,none⟩) (m:=m) (i:=i) (c:=c) ik (by omega);rw[if_neg (by omega),Option.map_some,b8]at hr;refine⟨.slice (some ⟨g j,p*q+i*q,none⟩) (m-i) (c-i),w,?_,Below.refl _ _,hm.1,fun cs' hc=>⟨by rw[Nat.add_mul],by omega,by omega,arr,e5,by rw[e6];congr 1;omega⟩⟩;unfold execOp;rw[h2]
 simp only[e1,aY hM hy,Option.map_some,Option.map_none,Sem.run_bind,hr,Result.andThen_ok]
 rfl
theorem Cy (hT:∀t d,T t=some d->aU P t d) {t:TypeId} {ty:Ty} {x y:Operand} {j p et q m c i:Nat} {ik:IntKind} {cs:List AV} (him:i=m) (h1:gd ops s o=some true) (h2:o.op= .slice t x (some y) none none) (h5:T t=some ty) (h6:ty.elem=some (et,q)) (h7:s.ev x= .vs j p m c q et) (hb:s.bx j=some cs) (h8:s.ev y= .d (.leaf (.val (.int ik (i:Nat)))))
 (h3:aF n o.dst=true) (h4:eT draw ops (ar ops o ⟨.d (.leaf (.sl 0 [])),none⟩ [j]) k fps=true) (h:am P T n ops id draw K (k+1) os (s.eff o.dst ⟨.d (.leaf (.sl 0 [])),none⟩) (ar ops o ⟨.d (.leaf (.sl 0 [])),none⟩ [j]::fps)):am P T n ops id draw K k (o::os) s fps:=by
 subst him;refine .run h1 (.gen fun s2 ht hrb=>?_) h3 h4 h;have hx:=(an ht (x:=x) (by simp[h2,Op.operands])).trans h7;have hy:=(an ht (x:=y) (by simp[h2,Op.operands])).trans h8;have hbj:=(aN (hrb j (by simp))).trans hb;obtain⟨u,hu,_,hel,_⟩:=(hT _ _ h5).und;obtain⟨rfl,hks⟩:=hel et q h6;refine af fun n S0 w0 g a w hM=>?_
 have hm:=hM.ev x;rw[hx]at hm;obtain⟨e1,e2,e3,arr,e5,e6⟩:=hm.2 cs hbj;have hr:=j9 (w:=w) hu hks (some ⟨g j,p*q,none⟩) (m:=i) (i:=i) (c:=c) ik (Nat.le_refl _);rw[Nat.sub_self]at hr;refine⟨.slice (if c=i then some ⟨g j,p*q,none⟩else(some ⟨g j,p*q,none⟩:Option Addr).map (·.add (i*q))) 0 (c-i),w,?_,Below.refl _ _,AV.M.emp (by omega) (by omega) (fun hA=>?_)⟩
 ·exact Q3
 ·split at hA<;>cases hA
theorem Dt (hT:∀t d,T t=some d->aU P t d) {t:TypeId} {ty:Ty} {x y z:Operand} {j p et q m c i i2:Nat} {ik ik2:IntKind} {cs:List AV} (hi:i<=i2) (hic:i<c) (hi2:i2<=c) (h1:gd ops s o=some true) (h2:o.op= .slice t x (some y) (some z) none) (h5:T t=some ty) (h6:ty.elem=some (et,q)) (h7:s.ev x= .vs j p m c q et) (hb:s.bx j=some cs) (h8:s.ev y= .d (.leaf (.val (.int ik (i:Nat))))) (h9:s.ev z= .d (.leaf (.val (.int ik2 (i2:Nat)))))
 (h3:aF n o.dst=true) (h4:eT draw ops (ar ops o ⟨.vs j (p+i) (i2-i) (c-i) q et,none⟩ [j]) k fps=true) (h:am P T n ops id draw K (k+1) os (s.eff o.dst ⟨.vs j (p+i) (i2-i) (c-i) q et,none⟩) (ar ops o ⟨.vs j (p+i) (i2-i) (c-i) q et,none⟩ [j]::fps)):am P T n ops id draw K k (o::os) s fps:=by
 refine .run h1 (.gen fun s2 ht hrb=>?_) h3 h4 h;have hx:=(an ht (x:=x) (by simp[h2,Op.operands])).trans h7;have hy:=(an ht (x:=y) (by simp[h2,Op.operands])).trans h8;have hz:=(an ht (x:=z) (by simp[h2,Op.operands])).trans h9;have hbj:=(aN (hrb j (by simp))).trans hb;obtain⟨u,hu,_,hel,_⟩:=(hT _ _ h5).und;obtain⟨rfl,hks⟩:=hel et q h6;refine af fun n S0 w0 g a w hM=>?_
 have hm:=hM.ev x;rw[hx]at hm;obtain⟨e1,e2,e3,arr,e5,e6⟩:=hm.2 cs hbj;have hr:=D3 (w:=w) hu hks (some ⟨g j,p*q,none⟩) (m:=m) (i:=i) (i2:=i2) (c:=c) ik ik2 hi hi2;rw[if_neg (by omega),Option.map_some,b8]at hr;refine⟨.slice (some ⟨g j,p*q+i*q,none⟩) (i2-i) (c-i),w,?_,Below.refl _ _,hm.1,fun cs' hc=>⟨by rw[Nat.add_mul],by omega,by omega,arr,e5,by rw[e6];congr 1;omega⟩⟩;unfold execOp;rw[h2]
 simp only[e1,aY hM hy,aY hM hz,Option.map_some,Option.map_none,Sem.run_bind,hr,Result.andThen_ok]
 rfl
theorem J2 (hT:∀t d,T t=some d->aU P t d) {t:TypeId} {ty:Ty} {x y:Operand} {j p et q m c i:Nat} {ik:IntKind} {cs:List AV} (hi:i<m) (h1:gd ops s o=some true) (h2:o.op= .indexAddr t x y) (h5:T t=some ty) (h6:ty.elem=some (et,q)) (h7:s.ev x= .vs j p m c q et) (hb:s.bx j=some cs) (h8:s.ev y= .d (.leaf (.val (.int ik (i:Nat)))))
 (h3:aF n o.dst=true) (h4:eT draw ops (ar ops o ⟨.box j ((p+i)*q),none⟩ [j]) k fps=true) (h:am P T n ops id draw K (k+1) os (s.eff o.dst ⟨.box j ((p+i)*q),none⟩) (ar ops o ⟨.box j ((p+i)*q),none⟩ [j]::fps)):am P T n ops id draw K k (o::os) s fps:=by
 refine .run h1 (.gen fun s2 ht hrb=>?_) h3 h4 h;have hx:=(an ht (x:=x) (by simp[h2,Op.operands])).trans h7;have hy:=(an ht (x:=y) (by simp[h2,Op.operands])).trans h8;have hbj:=(aN (hrb j (by simp))).trans hb;obtain⟨u,hu,_,hel,_⟩:=(hT _ _ h5).und;obtain⟨rfl,hks⟩:=hel et q h6;refine af fun n S0 w0 g a w hM=>?_
 have hm:=hM.ev x;rw[hx]at hm;obtain⟨e1,e2,e3,arr,e5,e6⟩:=hm.2 cs hbj;refine⟨.pointer (some ⟨g j,p*q+i*q,none⟩),w,?_,Below.refl _ _,hm.1,fun _ _=>by rw[Nat.add_mul]⟩;unfold execOp;rw[h2]
 simp only[e1,aY hM hy,Instr.indexAt,asIntOf,Sem.run_bind,Sem.run_pure,run_underlying hu w,Result.andThen_ok]
 have e2:(0:Int)<=i/\(i:Int)<m:=by omega
 simp only[e2,and_self,if_true,Sem.run_bind,bB hks w,Result.andThen_ok,Sem.run_pure,b8,Int.toNat_natCast]
theorem JZ (hT:∀t d,T t=some d->aU P t d) {t:TypeId} {ty:Ty} {x:Operand} {j p m c q e et q':Nat} {cs:List AV} (h1:gd ops s o=some true) (h2:o.op= .call ⟨.builtin .cap,#[x],#[t]⟩) (h5:T t=some ty) (h6:ty.elem=some (et,q')) (h7:s.ev x= .vs j p m c q e) (hb:s.bx j=some cs)
 (h3:aF n o.dst=true) (h4:eT draw ops (ar ops o ⟨.d (.leaf (.val (.int .i64 (c:Nat)))),none⟩ [j]) k fps=true) (h:am P T n ops id draw K (k+1) os (s.eff o.dst ⟨.d (.leaf (.val (.int .i64 (c:Nat)))),none⟩) (ar ops o ⟨.d (.leaf (.val (.int .i64 (c:Nat)))),none⟩ [j]::fps)):am P T n ops id draw K k (o::os) s fps:=by
 refine .run h1 (.gen fun s2 ht hrb=>?_) h3 h4 h;have hx:=(an ht (x:=x) (by simp[h2,Op.operands,Call.operands])).trans h7;have hbj:=(aN (hrb j (by simp))).trans hb;obtain⟨u,hu,_,hel,_⟩:=(hT _ _ h5).und;obtain⟨rfl,hks⟩:=hel et q' h6;refine af fun n S0 w0 g a w hM=>?_
 have hm:=hM.ev x;rw[hx]at hm;obtain⟨e1,_⟩:=hm.2 cs hbj;refine⟨.int .i64 c,w,?_,Below.refl _ _,AV.M.val rfl⟩;unfold execOp;rw[h2]
 simp[resolve,invoke,builtin,Builtin.cap_,e1,Sem.run_bind,run_underlying hu w,goInt]
theorem fH.drop {S:Nat->Prop} {w:World} {cs:List AV} {vs:List Value} (h:fH S w cs vs) (r:Nat):fH S w (cs.drop r) (vs.drop r):=
 ⟨by have:=h.1;simp;omega,fun i a v h1 h2=>h.2 (r+i) a v (by simpa using h1) (by simpa using h2)⟩
theorem CM.appC {S:Nat->Prop} {w:World} {cs ds:List AV} {vs us:List Value} (h:CM S w cs vs) (k:fH S w ds us):fH S w (cs++ds) (vs++us):=by
 refine⟨by have:=h.1;have:=k.1;simp;omega,fun i a v h1 h2=>?_⟩;rw[List.getElem?_append]at h1 h2;have:=h.1
 split at h1
 ·rw[if_pos (by omega)]at h2;exact h.2 i a v h1 h2
 ·rw[if_neg (by omega),<- this]at h2;exact k.2 _ a v h1 h2
theorem BE {cs xs:List AV} {p:Nat} (hp:p<=cs.length):cs.length<=(aB cs p xs).length:=by
 unfold aB
 simp
 omega
def rm (arr:Array Value) (p:Nat) (vs:List Value):Array Value:=(arr.toList.take p++vs++arr.toList.drop (p+vs.length)).toArray
theorem tO {arr:Array Value} {p:Nat} {vs:List Value} (h:p+vs.length<=arr.size):(rm arr p vs).size=arr.size:=by
 unfold rm
 simp
 omega
theorem MG.wr (h:MG n S0 w0 g s a w) {j p:Nat} {cs xs:List AV} {vs:List Value} (hj:s.bx j=some cs) (hlb:fO j=false) {arr:Array Value} {e:TypeId} (hB:w.heap[g j]? =some (.cells arr e (0,0))) (hp:p<=cs.length) (hf:p+vs.length<=arr.size) (hx:CM (Own S0 g s) w xs vs) (hw:bR j=false->a8 xs=true):
 MG n S0 w0 g { s with b:=(j,some (aB cs p xs))::s.b } a (w.setRow (g j) (rm arr p vs)):=by
 obtain⟨_,arr',e',h1,h2,h3,h4,h5⟩:=h.bm j cs hj;rw[hB]at h1
 injection h1 with h1
 injection h1 with h1 _
 subst h1;refine h.store hj (size_setRow _ _ _) ⟨rfl,rfl,rfl⟩ hB (setRow_heap w (g j) arr _ e _ hB) (tO hf) (fun b hb=>setRow_other w (g j) b _ hb) (BE hp) ?_ (fun hwf v hv=>?_) (fun hl=>by rw[hlb]at hl;cases hl)
 ·have h6:=h2.sub (off:=0) (k:=p) (by omega)
  rw[List.drop_zero,List.drop_zero]at h6;have h7:=(h6.append hx).appC (h2.drop (p+xs.length));rw[hx.1]at h7;unfold aB rm;rw[hx.1]
  simpa using h7
 ·unfold rm at hv
  simp only[List.mem_append]at hv
  rcases hv with(hv|hv)|hv
  ·exact h3 hwf v (List.mem_of_mem_take hv)
  ·exact gg hx (hw hwf) v hv
  ·exact h3 hwf v (List.mem_of_mem_drop hv)
theorem Lk (hM:MG n S0 w0 g s a w) {x:Operand} {j p m c q e:Nat} {cs:List AV} (hx:s.ev x= .vs j p m c q e) (hb:s.bx j=some cs) (hl:(p+m)*q<=cs.length):nS (Own S0 g s) w (a.eval x) m q ((cs.drop (p*q)).take (m*q)):=by
 have hm:=hM.ev x;rw[hx]at hm;obtain⟨e1,e2,e3,_⟩:=hm.2 cs hb;obtain⟨_,arr,e,e5,e6,_⟩:=hM.bm j cs hb;have hl2:=e6.1;have hsz:(p+m)*q=p*q+m*q:=Nat.add_mul _ _ _;refine⟨_,c,(arr.toList.drop (p*q)).take (m*q),e1,by simp at hl2 ⊢;omega,fun i u hi=>?_,e6.sub (by omega)⟩;exact LC
inductive io (s:AS) (x:Operand) (m q:Nat):List Nat->List AV->Prop
 |sl {xs:List AV}:s.ev x= .d (.leaf (.sl m xs))->xs.length=m*q->0<xs.length->io s x m q [] xs
 |own {j e:Nat} {cs xs:List AV}:s.ev x= .own j m q e->s.bx j=some cs->cs.take (m*q)=xs->io s x m q [j] xs
 |vw {j p:Nat} {cs xs:List AV}:s.ev x= .vw j p m q->s.bx j=some cs->(cs.drop (p*q)).take (m*q)=xs->io s x m q [j] xs
 |vs {j p c e:Nat} {cs xs:List AV}:s.ev x= .vs j p m c q e->s.bx j=some cs->(p+m)*q<=cs.length->(cs.drop (p*q)).take (m*q)=xs->io s x m q [j] xs
theorem io.congr {x:Operand} {m q:Nat} {L:List Nat} {xs:List AV} {s2:AS} (h:io s x m q L xs) (hx:s2.ev x=s.ev x) (hb:∀i∈L,ai s2.b i=ai s.b i):io s2 x m q L xs:=by
 cases h with
 |sl h1 h2 h3=>exact .sl (hx.trans h1) h2 h3
 |own h1 h2 h3=>exact .own (hx.trans h1) ((aN (hb _ (by simp))).trans h2) h3
 |vw h1 h2 h3=>exact .vw (hx.trans h1) ((aN (hb _ (by simp))).trans h2) h3
 |vs h1 h2 h3 h4=>exact .vs (hx.trans h1) ((aN (hb _ (by simp))).trans h2) h3 h4
theorem io.news {x:Operand} {m q:Nat} {L:List Nat} {xs:List AV} (h:io s x m q L xs) (hM:MG n S0 w0 g s a w):nS (Own S0 g s) w (a.eval x) m q xs:=by
 cases h with
 |sl h1 h2 h3=>
  have hyv:=hM.ev x;rw[h1]at hyv;exact Db hyv h2 h3
 |own h1 h2 h3=>subst h3;exact wV hM h1 h2
 |vw h1 h2 h3=>subst h3;exact Ct hM h1 h2
 |vs h1 h2 h3 h4=>subst h4;exact Lk hM h1 h2 h3
theorem kx {t et q:Nat} {ty te:Ty} (hT:aU P t ty) (hE:aU P et te) (hel:ty.elem=some (et,q)) (hk:te.size=q):P.underlying t=some (.slice et)/\ ∃i z,P.info? et=some i/\i.zero=some z/\i.size=q/\i.bytes=te.bytes/\z.cells.size=q/\ ∀(S:Nat->Prop) (w:World),CM S w te.zero z.cells.toList:=by
 obtain⟨u,hu,_,hel',_⟩:=hT.und;obtain⟨rfl,hks⟩:=hel' et q hel;obtain⟨z,hz,hzm⟩:=hE.zero;refine⟨hu,?_⟩;cases hq:P.info? et with
 |none=>rw[hq]at hz;cases hz
 |some i=>
  rw[hq]at hz hks;have h1:=hE.bytes;rw[hq]at h1;refine⟨i,z,rfl,hz,by simpa using hks,by simpa using h1,?_,hzm⟩;have:=(hzm (fun _=>False) default).1
  simp at this
  have h2:=hE.zlen;omega
theorem tj {w:World} (t ty e:TypeId) (i:TypeInfo) (ht:P.underlying t=some (.slice e)) (hi:P.info? e=some i) (b p sLen sCap:Nat) (cur:Array Value) (hg:w.heap[b]? =some (.cells cur e (0,0))) (ad:Addr) (m c:Nat) (news:List Value) (hl:news.length=m*i.size) (hnews:∀j u,news[j]? =some u->w.cell? (ad.add j)=some u) (h1:∀u∈news,u.oneCell'=true)
 (hroom:sLen+m<=sCap) (hfit:p+sLen*i.size+news.length<=cur.size):
 (Builtin.append_ #[t,t] ty #[.slice (some ⟨b,p,none⟩) sLen sCap, .slice (some ad) m c]).run P w= .ok (.slice (some ⟨b,p,none⟩) (sLen+m) sCap) (w.setRow b (rm cur (p+sLen*i.size) news)):=by
 have hf:=run_firstCells_some (P:=P) w i.size m ad m c news hl hnews;have hst:=run_storeCells_at P b (p+sLen*i.size) e news 0 cur w hg (by simpa using hfit) h1
 simp only[Nat.add_zero]at hst
 simp[Builtin.append_,run_underlying ht,sizeOf,typeInfo,hi,Builtin.lenOf,hroom,hf,Addr.add_lit,hst,rm]
theorem mL:∀{l:List AV},a8 l=true-> ∀b∈l,EN b=true
 | [],_,b,hb=>by cases hb
 |c::l,h,b,hb=>by
  simp only[a8]at h
  cases h1:EN c with
  |false=>rw[h1]at h;cases h
  |true=>
   rw[h1]at h;rcases List.mem_cons.1 hb with rfl|hb
   ·exact h1
   ·exact mL h b hb
theorem jO:∀{l:List AV},(∀b∈l,EN b=true)->a8 l=true
 | [],_=>rfl
 |c::l,h=>by
  simp only[a8]
  rw[h c (by simp)];exact jO fun b hb=>h b (by simp[hb])
theorem eU {l:List AV} (h:a8 l=true) (r:Nat):a8 (l.take r)=true:=jO fun b hb=>mL h b (List.mem_of_mem_take hb)
theorem rC {l:List AV} (h:a8 l=true) (r:Nat):a8 (cZ l r)=true:=jO fun b hb=>by
 obtain⟨i,hi⟩:=List.getElem?_of_mem hb;rcases Nat.eq_zero_or_pos l.length with h0|h0
 ·have:(cZ l r).length=0:=by rw[cP,h0,Nat.mul_zero]
  rw[List.eq_nil_of_length_eq_zero this]at hi
  simp at hi
 ·rw[gN _ h0]at hi
  split at hi
  ·exact mL h b (List.mem_of_getElem? hi)
  ·cases hi
theorem Cu {S:Nat->Prop} {w:World} {zs:List AV} {cells:Array Value} {q:Nat} (h:CM S w zs cells.toList) (hq:zs.length=q) (r:Nat):CM S w (cZ zs r) (Builtin.zeroCells cells r).toList:=by
 have hc:cells.size=zs.length:=by have:=h.1;simpa using this.symm
 refine⟨by rw[cP,<- hc,<- size_zeroCells];simp,fun i b v h1 h2=>?_⟩;rcases Nat.eq_zero_or_pos zs.length with h0|h0
 ·have:(cZ zs r).length=0:=by rw[cP,h0,Nat.mul_zero]
  rw[List.eq_nil_of_length_eq_zero this]at h1
  simp at h1
 ·rw[gN _ h0]at h1
  split at h1
  ·rename_i hi
   have hm:i%zs.length<zs.length:=Nat.mod_lt _ h0
   have hv:v=cells[i%cells.size]'(by rw[hc];exact hm):=by
    simp[Builtin.zeroCells,hc]at h2
    obtain⟨w1,hw1,h2⟩:=h2;rw[List.getElem?_range hi]at hw1;have hw2:w1=i:=(Option.some.inj hw1).symm;subst hw2;rw[<- h2]
    simp[hc,hm]
   exact h.2 (i%zs.length) b v h1 (by rw[hv];simp[hc,hm])
  ·cases h1
theorem xA {L:List Nat} {d:Nat} {x y:Operand} {t et q m1 m2 j p c:Nat} {ty te:Ty} {cs xs:List AV} (hT:aU P t ty) (hE:aU P et te) (ho:o.op= .call ⟨.builtin .append,#[x,y],#[t,t]⟩) (hd:o.dst=some d) (hel:ty.elem=some (et,q)) (hk:te.size=q) (hx:s.ev x= .vs j p m1 c q et) (hj:s.bx j=some cs) (hy:io s y m2 q L xs) (hlb:fO j=false) (hroom:m1+m2<=c) (hp:(p+m1)*q<=cs.length) (hw:bR j=false->a8 xs=true):
 bA P o s ⟨.vs j p (m1+m2) c q et,some [(j,some (aB cs ((p+m1)*q) xs))]⟩:=by
 obtain⟨hu,i,z,hi,hiz,his,hib,_⟩:=kx hT hE hel hk;intro n S0 w0 g a w K Q hM hdn hK;have hm:=hM.ev x;rw[hx]at hm;obtain⟨e1,e2,e3,arr,e5,e6⟩:=hm.2 cs hj;obtain⟨ad,c2,news,hya,hnl,hnews,hncm⟩:=hy.news hM
 have hfit:p*q+m1*q+m2*q<=arr.size:=by
  rw[e6,<- Nat.add_mul,<- Nat.add_mul];exact Nat.mul_le_mul_right _ (by omega)
 have hr:=tj (P:=P) (w:=w) t o.type et i hu hi (g j) (p*q) m1 c arr e5 ad m2 c2 news (by rw[hnl,his]) hnews hncm.plain hroom (by rw[his,hnl];exact hfit);rw[his,<- Nat.add_mul]at hr;have h2:=hM.wr hj hlb e5 hp (by rw[Nat.add_mul,hnl];exact hfit) hncm hw;have h3:=h2.put (hdn d hd) (x:= .vs j p (m1+m2) c q et) (v:= .slice (some ⟨g j,p*q,none⟩) (m1+m2) c) (Below.refl _ _) ⟨AS.kn_of (AS.bx_same _ _ _ _),fun cs' hc=>⟨rfl,hroom,e3,_,setRow_heap w (g j) arr _ et _ e5,by rw[tO (by rw[Nat.add_mul,hnl];exact hfit),e6]⟩⟩;unfold Oper.wp execOp
 simp only[ho,resolve,invoke,builtin,Sem.run_bind,Sem.run_pure,Result.andThen_ok,List.map_toArray,List.map_cons,List.map_nil,e1,hya,hr]
 show K (a.put o.dst _) _;rw[hd]at hK ⊢;exact hK _ _ _ h3
theorem wA {L:List Nat} {d:Nat} {x y:Operand} {t et q m1 m2 j p c j':Nat} {ty te:Ty} {cs xs:List AV} (hT:aU P t ty) (hE:aU P et te) (ho:o.op= .call ⟨.builtin .append,#[x,y],#[t,t]⟩) (hd:o.dst=some d) (hel:ty.elem=some (et,q)) (hk:te.size=q) (hx:s.ev x= .vs j p m1 c q et) (hj:s.bx j=some cs) (hy:io s y m2 q L xs) (hroom:c<m1+m2) (hp:(p+m1)*q<=cs.length) (hnew:fB s j'=true) (hw:(a8 te.zero && a8 ((cs.drop (p*q)).take (m1*q)) && a8 xs)=true) (hb:(m1+m2)*te.bytes<=140737488355328) (h63:m1+m2<=9223372036854775807):
 bA P o s ⟨.own j' (m1+m2) q et,some [(j',some ((cs.drop (p*q)).take (m1*q)++xs))]⟩:=by
 obtain⟨hu,i,z,hi,hiz,his,hib,hzl,hzm⟩:=kx hT hE hel hk;intro n S0 w0 g a w K Q hM hdn hK;have hm:=hM.ev x;rw[hx]at hm;obtain⟨e1,e2,e3,arr,e5,e6⟩:=hm.2 cs hj;obtain⟨_,arr',e',k1,k2,k3,_,_⟩:=hM.bm j cs hj;rw[e5]at k1
 injection k1 with k1
 injection k1 with k1 _
 subst k1;obtain⟨ad,c2,news,hya,hnl,hnews,hncm⟩:=hy.news hM;rw[Nat.add_mul]at hp;have hlc:=k2.1;have hold:CM (Own S0 g s) w ((cs.drop (p*q)).take (m1*q)) ((arr.toList.drop (p*q)).take (m1*q)):=k2.sub (by omega);generalize hO:(arr.toList.drop (p*q)).take (m1*q)=olds at *;have hol:olds.length=m1*q:=by rw[<- hO];simp at hlc ⊢;omega
 have holds:∀r u,olds[r]? =some u->w.cell? ((⟨g j,p*q,none⟩:Addr).add r)=some u:=fun r u hu=>by
  rw[b8,eN e5];rw[<- hO,List.getElem?_take]at hu
  split at hu
  ·simpa using hu
  ·cases hu
 have hr:=run_append_grow (P:=P) w t o.type et i z hu hi hiz ⟨g j,p*q,none⟩ m1 c olds (by rw[hol,his]) holds ad m2 c2 news (by rw[hnl,his]) hnews hroom (by omega) (growslice_fits hroom (by rw[hib];exact hb))
 simp only[Bool.and_eq_true]at hw
 have hbd:Below w.heap.size w w.drew:=⟨rfl,rfl,rfl,Nat.le_refl _,fun _ _=>rfl⟩;have hcap:m1+m2<=grownCap w (m1+m2) c et:=grownCap_ge w _ _ _
 have hcap2:grownCap w (m1+m2) c et<=9223372036854775807:=by
  exact B7
 have hcm:=(hold.append hncm).agree (S':=Own S0 g s) (w':=w.drew) (.of_below hbd) (fun _ _ h=>h);have key:=(hM.grow' hbd).alloc (hdn d hd) (bg hnew).1 (bg hnew).2 (cs:=(cs.drop (p*q)).take (m1*q)++xs) (arr:=olds.toArray++news.toArray++Builtin.zeroCells z.cells (grownCap w (m1+m2) c et-(m1+m2))) (e:=et) (x:= .own j' (m1+m2) q et) (v:= .slice (some ⟨w.heap.size,0,none⟩) (m1+m2) (grownCap w (m1+m2) c et)) (by simpa using fH.append (us:=(Builtin.zeroCells z.cells (grownCap w (m1+m2) c et-(m1+m2))).toList) hcm) ?_ ?_ (fun h=>by rw[jp hnew]at h;cases h) ?_
 ·unfold Oper.wp execOp
  simp only[ho,resolve,invoke,builtin,Sem.run_bind,Sem.run_pure,Result.andThen_ok,List.map_toArray,List.map_cons,List.map_nil,e1,hya,hr]
  show K (a.put o.dst _) _;rw[hd]at hK ⊢;exact hK _ _ _ key
 ·intro _ v hv
  simp only[Array.toList_append,List.mem_append]at hv
  rcases hv with(hv|hv)|hv
  ·exact gg hold hw.1.2 v (by simpa using hv)
  ·exact gg hncm hw.2 v (by simpa using hv)
  ·have hz0:∀u∈z.cells.toList,ge u=true:=gg (hzm (Own S0 g s) w) hw.1.1
   refine hz0 v ?_
   simp only[Builtin.zeroCells,Array.toList_map,List.mem_map]at hv
   obtain⟨r,hr,rfl⟩:=hv
   have hpos:0<z.cells.size:=by
    rcases Nat.eq_zero_or_pos z.cells.size with h|h
    ·rw[h,Nat.mul_zero]at hr;simp at hr
    ·exact h
   have:=Nat.mod_lt r hpos
   simp[this]
 ·intro b hb
  rcases List.mem_append.1 hb with hb|hb
  ·exact ir hw.1.2 b hb
  ·exact ir hw.2 b hb
 ·intro g' s' hg hb
  refine⟨AS.kn_of hb,fun cs' hc=>⟨_,by rw[hg];rfl,hcap,hcap2,?_,_,by rw[hg];exact heap_alloc_new w.drew _,?_⟩⟩
  ·rw[hb]at hc
   cases hc;rw[(hold.append hncm).1,List.length_append,hol,hnl,Nat.add_mul];omega
  ·simp[size_zeroCells,hol,hnl,hzl]
   rw[<- Nat.add_mul,<- Nat.add_mul]
   congr 1
   omega
theorem B3 (hT:∀t d,T t=some d->aU P t d) {L:List Nat} {d:Nat} {x y:Operand} {t et q m1 m2 m3 j p c:Nat} {ty te:Ty} {cs xs cs':List AV} (hroom:m1+m2<=c) (hp:(p+m1)*q<=cs.length) (hm:m1+m2=m3) (hcs:aB cs ((p+m1)*q) xs=cs') (hw:(bR j || a8 xs)=true) (h1:gd ops s o=some true) (ho:o.op= .call ⟨.builtin .append,#[x,y],#[t,t]⟩) (hd:o.dst=some d) (h3:aF n o.dst=true) (ht:T t=some ty) (hel:ty.elem=some (et,q)) (hte:T et=some te) (hk:te.size=q)
 (hx:s.ev x= .vs j p m1 c q et) (hj:s.bx j=some cs) (hy:io s y m2 q L xs) (hlb:fO j=false)
 (h4:eT draw ops (ar ops o ⟨.vs j p m3 c q et,some [(j,some cs')]⟩ (j::L)) k fps=true)
 (h:am P T n ops id draw K (k+1) os (s.eff o.dst ⟨.vs j p m3 c q et,some [(j,some cs')]⟩) (ar ops o ⟨.vs j p m3 c q et,some [(j,some cs')]⟩ (j::L)::fps)):am P T n ops id draw K k (o::os) s fps:=by
 subst hm hcs;refine .run h1 (.gen fun s2 ht2 hrb=>?_) h3 h4 h;have hx2:s2.ev x=s.ev x:=an ht2 (by rw[ho];simp[Op.operands,Call.operands]);have hy2:s2.ev y=s.ev y:=an ht2 (by rw[ho];simp[Op.operands,Call.operands]);exact xA (hT _ _ ht) (hT _ _ hte) ho hd hel hk (hx2.trans hx) ((aN (hrb j (by simp))).trans hj) (hy.congr hy2 fun i hi=>hrb i (List.mem_cons_of_mem _ hi)) hlb hroom hp (fun h=>by rw[h]at hw;exact hw)
theorem HY (j':Nat) (hT:∀t d,T t=some d->aU P t d) {L:List Nat} {d:Nat} {x y:Operand} {t et q m1 m2 m3 j p c:Nat} {ty te:Ty} {cs xs cs':List AV} (hroom:c<m1+m2) (hp:(p+m1)*q<=cs.length) (hm:m1+m2=m3) (hcs:(cs.drop (p*q)).take (m1*q)++xs=cs') (hb:(m1+m2)*te.bytes<=140737488355328) (h63:m1+m2<=9223372036854775807) (hw0:a8 ((cs.drop (p*q)).take (m1*q))=true) (hw1:a8 xs=true) (h1:gd ops s o=some true) (ho:o.op= .call ⟨.builtin .append,#[x,y],#[t,t]⟩) (hd:o.dst=some d) (h3:aF n o.dst=true) (ht:T t=some ty) (hel:ty.elem=some (et,q)) (hte:T et=some te) (hk:te.size=q)
 (hx:s.ev x= .vs j p m1 c q et) (hj:s.bx j=some cs) (hy:io s y m2 q L xs) (hnew:fB s j'=true) (hz:a8 te.zero=true)
 (h4:eT draw ops (ar ops o ⟨.own j' m3 q et,some [(j',some cs')]⟩ (j'::j::L)) k fps=true)
 (h:am P T n ops id draw K (k+1) os (s.eff o.dst ⟨.own j' m3 q et,some [(j',some cs')]⟩) (ar ops o ⟨.own j' m3 q et,some [(j',some cs')]⟩ (j'::j::L)::fps)):am P T n ops id draw K k (o::os) s fps:=by
 subst hm hcs;refine .run h1 (.gen fun s2 ht2 hrb=>?_) h3 h4 h;have hx2:s2.ev x=s.ev x:=an ht2 (by rw[ho];simp[Op.operands,Call.operands]);have hy2:s2.ev y=s.ev y:=an ht2 (by rw[ho];simp[Op.operands,Call.operands]);exact wA (hT _ _ ht) (hT _ _ hte) ho hd hel hk (hx2.trans hx) ((aN (hrb j (by simp))).trans hj) (hy.congr hy2 fun i hi=>hrb i (by simp[hi])) hroom hp ((dY (hrb j' (by simp))).trans hnew) (by simp[hz,hw0,hw1]) hb h63
theorem I2 (hT:∀t d,T t=some d->aU P t d) {x y:Operand} {t et q m1 j p c:Nat} {ty:Ty} {ts cs:List AV} (h1:gd ops s o=some true) (ho:o.op= .call ⟨.builtin .append,#[x,y],#[t,t]⟩) (ht:T t=some ty) (hel:ty.elem=some (et,q)) (hx:s.ev x= .vs j p m1 c q et) (hj:s.bx j=some cs) (hy:s.ev y= .d (.leaf (.sl 0 ts))) (h3:aF n o.dst=true)
 (h4:eT draw ops (ar ops o ⟨.vs j p m1 c q et,none⟩ [j]) k fps=true) (h:am P T n ops id draw K (k+1) os (s.eff o.dst ⟨.vs j p m1 c q et,none⟩) (ar ops o ⟨.vs j p m1 c q et,none⟩ [j]::fps)):am P T n ops id draw K k (o::os) s fps:=by
 refine .run h1 (.gen fun s2 ht2 hrb=>?_) h3 h4 h;have hx2:=(an ht2 (x:=x) (by rw[ho];simp[Op.operands,Call.operands])).trans hx;have hy2:=(an ht2 (x:=y) (by rw[ho];simp[Op.operands,Call.operands])).trans hy;have hb2:=(aN (hrb j (by simp))).trans hj;obtain⟨u,hu,_,hel',_⟩:=(hT _ _ ht).und;obtain⟨rfl,hks⟩:=hel' et q hel;refine af fun n S0 w0 g a w hM=>?_
 have hm:=hM.ev x;rw[hx2]at hm;obtain⟨e1,e2,e3,e4⟩:=hm.2 cs hb2;have hm0:=hm;rw[e1]at hm0;have hyv:=hM.ev y;rw[hy2]at hyv;have hyv:AV.M (Own S0 g s2) w (.sl 0 ts) (a.eval y):=hyv
 have hA:∃A c2,a.eval y= .slice A 0 c2:=by
  exact Ja
 obtain⟨A,c2,hv⟩:=hA
 have hr:(Builtin.append_ #[t,t] o.type #[.slice (some ⟨g j,p*q,none⟩) m1 c, .slice A 0 c2]).run P w= .ok (.slice (some ⟨g j,p*q,none⟩) m1 c) w:=by
  exact At
 refine⟨.slice (some ⟨g j,p*q,none⟩) m1 c,w,?_,Below.refl _ _,hm0⟩;unfold execOp
 simp only[ho,resolve,invoke,builtin,Sem.run_bind,Sem.run_pure,Result.andThen_ok,List.map_toArray,List.map_cons,List.map_nil,e1,hv,hr]
theorem u7 {d:Nat} {x y:Operand} {t tn et q m1 m2 j p c j':Nat} {ik kn:IntKind} {ty te:Ty} {cs:List AV} (hT:aU P t ty) (hE:aU P et te) (hN:P.underlying tn=some (.int kn)) (ho:o.op= .call ⟨.builtin .append,#[x,y],#[t,tn]⟩) (hd:o.dst=some d) (hel:ty.elem=some (et,q)) (hk:te.size=q) (hq0:0<q) (hx:s.ev x= .vs j p m1 c q et) (hj:s.bx j=some cs) (hy:s.ev y= .d (.leaf (.val (.int ik (m2:Nat))))) (hm2:0<m2) (hroom:c<m1+m2) (hp:(p+m1)*q<=cs.length) (hnew:fB s j'=true) (hw:(a8 te.zero && a8 ((cs.drop (p*q)).take (m1*q)))=true) (hb:(m1+m2)*te.bytes<=140737488355328) (h63:m1+m2<=9223372036854775807):
 bA P o s ⟨.own j' (m1+m2) q et,some [(j',some ((cs.drop (p*q)).take (m1*q)++cZ te.zero m2))]⟩:=by
 obtain⟨hu,i,z,hi,hiz,his,hib,hzl,hzm⟩:=kx hT hE hel hk;intro n S0 w0 g a w K Q hM hdn hK;have hm:=hM.ev x;rw[hx]at hm;obtain⟨e1,e2,e3,arr,e5,e6⟩:=hm.2 cs hj;obtain⟨_,arr',e',k1,k2,k3,_,_⟩:=hM.bm j cs hj;rw[e5]at k1
 injection k1 with k1
 injection k1 with k1 _
 subst k1;rw[Nat.add_mul]at hp;have hlc:=k2.1;have hold:CM (Own S0 g s) w ((cs.drop (p*q)).take (m1*q)) ((arr.toList.drop (p*q)).take (m1*q)):=k2.sub (by omega);generalize hO:(arr.toList.drop (p*q)).take (m1*q)=olds at *;have hol:olds.length=m1*q:=by rw[<- hO];simp at hlc ⊢;omega
 have hbd:Below w.heap.size w w.drew:=⟨rfl,rfl,rfl,Nat.le_refl _,fun _ _=>rfl⟩
 have holds:∀r u,olds[r]? =some u->w.drew.cell? ((⟨g j,p*q,none⟩:Addr).add r)=some u:=fun r u hu=>by
  rw[b8,eN (w:=w.drew) e5];rw[<- hO,List.getElem?_take]at hu
  split at hu
  ·simpa using hu
  ·cases hu
 have hf:=run_firstCells_some (P:=P) w.drew i.size m1 ⟨g j,p*q,none⟩ m1 c olds (by rw[hol,his]) holds;have hby:m2*te.bytes<=(m1+m2)*te.bytes:=Nat.mul_le_mul_right _ (by omega);have hr:=Lib.run_append_grow_zeros (P:=P) w t tn o.type et i z ik kn hu hN hi hiz (some ⟨g j,p*q,none⟩) m1 c olds hf m2 hm2 (by omega) hroom (by omega) (by rw[hib];omega) (growslice_fits hroom (by rw[hib];exact hb))
 simp only[Bool.and_eq_true]at hw
 have hcap:m1+m2<=grownCap w (m1+m2) c et:=grownCap_ge w _ _ _
 have hcap2:grownCap w (m1+m2) c et<=9223372036854775807:=by
  exact B7
 have hzc:∀r,CM (Own S0 g s) w (cZ te.zero r) (Builtin.zeroCells z.cells r).toList:=fun r=>Cu (hzm _ _) hE.zlen r
 have hcm:=(hold.append (hzc m2)).agree (S':=Own S0 g s) (w':=w.drew) (.of_below hbd) (fun _ _ h=>h);have key:=(hM.grow' hbd).alloc (hdn d hd) (bg hnew).1 (bg hnew).2 (cs:=(cs.drop (p*q)).take (m1*q)++cZ te.zero m2) (arr:=olds.toArray++Builtin.zeroCells z.cells m2++Builtin.zeroCells z.cells (grownCap w (m1+m2) c et-(m1+m2))) (e:=et) (x:= .own j' (m1+m2) q et) (v:= .slice (some ⟨w.heap.size,0,none⟩) (m1+m2) (grownCap w (m1+m2) c et)) (by simpa using fH.append (us:=(Builtin.zeroCells z.cells (grownCap w (m1+m2) c et-(m1+m2))).toList) hcm) ?_ ?_ (fun h=>by rw[jp hnew]at h;cases h) ?_
 ·unfold Oper.wp execOp
  simp only[ho,resolve,invoke,builtin,Sem.run_bind,Sem.run_pure,Result.andThen_ok,List.map_toArray,List.map_cons,List.map_nil,e1,aY hM hy,hr]
  show K (a.put o.dst _) _;rw[hd]at hK ⊢;exact hK _ _ _ key
 ·intro _ v hv
  have hz0:∀r,∀u∈(Builtin.zeroCells z.cells r).toList,ge u=true:=fun r=>gg (hzc r) (rC hw.1 r)
  simp only[Array.toList_append,List.mem_append]at hv
  rcases hv with(hv|hv)|hv
  ·exact gg hold hw.2 v (by simpa using hv)
  ·exact hz0 _ v hv
  ·exact hz0 _ v hv
 ·intro b hb
  rcases List.mem_append.1 hb with hb|hb
  ·exact ir hw.2 b hb
  ·exact ir (rC hw.1 m2) b hb
 ·intro g' s' hg hb
  refine⟨AS.kn_of hb,fun cs' hc=>⟨_,by rw[hg];rfl,hcap,hcap2,?_,_,by rw[hg];exact heap_alloc_new w.drew _,?_⟩⟩
  ·rw[hb]at hc
   cases hc;rw[(hold.append (hzc m2)).1,List.length_append,hol,Array.length_toList,size_zeroCells,hzl,Nat.add_mul];omega
  ·simp[size_zeroCells,hol,hzl]
   rw[<- Nat.add_mul,<- Nat.add_mul]
   congr 1
   omega
theorem I3 (j':Nat) (hT:∀t d,T t=some d->aU P t d) {d:Nat} {x y:Operand} {t tn et q m1 m2 m3 j p c:Nat} {ik kn:IntKind} {ty te:Ty} {cs cs':List AV} (hm2:0<m2) (hroom:c<m1+m2) (hp:(p+m1)*q<=cs.length) (hw:a8 ((cs.drop (p*q)).take (m1*q))=true) (hb:(m1+m2)*te.bytes<=140737488355328) (h63:m1+m2<=9223372036854775807) (hm:m1+m2=m3) (hcs:(cs.drop (p*q)).take (m1*q)++cZ te.zero m2=cs') (h1:gd ops s o=some true) (ho:o.op= .call ⟨.builtin .append,#[x,y],#[t,tn]⟩) (hd:o.dst=some d) (h3:aF n o.dst=true) (ht:T t=some ty) (hel:ty.elem=some (et,q)) (hte:T et=some te) (hk:te.size=q) (hq0:Nat.blt 0 q=true) (htn:P.underlying tn=some (.int kn))
 (hx:s.ev x= .vs j p m1 c q et) (hj:s.bx j=some cs) (hy:s.ev y= .d (.leaf (.val (.int ik (m2:Nat))))) (hnew:fB s j'=true) (hz:a8 te.zero=true)
 (h4:eT draw ops (ar ops o ⟨.own j' m3 q et,some [(j',some cs')]⟩ [j',j]) k fps=true)
 (h:am P T n ops id draw K (k+1) os (s.eff o.dst ⟨.own j' m3 q et,some [(j',some cs')]⟩) (ar ops o ⟨.own j' m3 q et,some [(j',some cs')]⟩ [j',j]::fps)):am P T n ops id draw K k (o::os) s fps:=by
 subst hm hcs;refine .run h1 (.gen fun s2 ht2 hrb=>?_) h3 h4 h;have hx2:s2.ev x=s.ev x:=an ht2 (by rw[ho];simp[Op.operands,Call.operands]);have hy2:s2.ev y=s.ev y:=an ht2 (by rw[ho];simp[Op.operands,Call.operands]);exact u7 (hT _ _ ht) (hT _ _ hte) htn ho hd hel hk (by simpa using hq0) (hx2.trans hx) ((aN (hrb j (by simp))).trans hj) (hy2.trans hy) hm2 hroom hp ((dY (hrb j' (by simp))).trans hnew) (by simp[hz,hw]) hb h63
inductive jt (s:AS) (x:Operand) (j p m q:Nat) (cs:List AV):Prop
 |own {e:Nat}:s.ev x= .own j m q e->p=0->s.bx j=some cs->jt s x j p m q cs
 |vw {r:Nat}:s.ev x= .vw j r m q->p=r*q->s.bx j=some cs->jt s x j p m q cs
 |vs {r c e:Nat}:s.ev x= .vs j r m c q e->p=r*q->s.bx j=some cs->jt s x j p m q cs
theorem jt.congr {x:Operand} {j p m q:Nat} {cs:List AV} {s2:AS} (h:jt s x j p m q cs) (hx:s2.ev x=s.ev x) (hb:ai s2.b j=ai s.b j):jt s2 x j p m q cs:=by
 cases h with
 |own h1 h2 h3=>exact .own (hx.trans h1) h2 ((aN hb).trans h3)
 |vw h1 h2 h3=>exact .vw (hx.trans h1) h2 ((aN hb).trans h3)
 |vs h1 h2 h3=>exact .vs (hx.trans h1) h2 ((aN hb).trans h3)
theorem jt.here {x:Operand} {j p m q:Nat} {cs:List AV} (h:jt s x j p m q cs) (hM:MG n S0 w0 g s a w):s.bx j=some cs/\ ∃c arr e,a.eval x= .slice (some ⟨g j,p,none⟩) m c/\w.heap[g j]? =some (.cells arr e (0,0))/\p+m*q<=arr.size:=by
 cases h with
 |own h1 h2 h3=>
  have hm:=hM.ev x;rw[h1]at hm;obtain⟨c,e1,e2,e3,e4,arr,e5,e6⟩:=hm.2 cs h3;subst h2;exact⟨h3,c,arr,_,e1,e5,by rw[e6,Nat.zero_add];exact Nat.mul_le_mul_right _ e2⟩
 |vw h1 h2 h3=>
  have hm:=hM.ev x;rw[h1]at hm;obtain⟨c,e1,e2,e3,e4⟩:=hm.2 cs h3;obtain⟨_,arr,e,e5,e6,_⟩:=hM.bm j cs h3;have hl:=e6.1;subst h2;refine⟨h3,c,arr,e,e1,e5,?_⟩;rw[<- Nat.add_mul]
  simp at hl
  omega
 |vs h1 h2 h3=>
  have hm:=hM.ev x;rw[h1]at hm;obtain⟨e1,e2,e3,arr,e5,e6⟩:=hm.2 cs h3;subst h2;refine⟨h3,_,arr,_,e1,e5,?_⟩;rw[e6,<- Nat.add_mul];exact Nat.mul_le_mul_right _ (by omega)
theorem xz {w:World} (dT sT ty elem:TypeId) (i:TypeInfo) (b p dLen dCap:Nat) (ad:Addr) (sLen sCap:Nat) (cur:Array Value) (t:TypeId) (cs:List Value) (hu:P.underlying dT=some (.slice elem)) (hi:P.info? elem=some i) (hg:w.heap[b]? =some (.cells cur t (0,0))) (r:Nat) (hn:Nat.min sLen dLen=r) (hl:cs.length=r*i.size)
 (hsrc:∀j v,cs[j]? =some v->w.cell? (ad.add j)=some v) (hfit:p+cs.length<=cur.size) (h1:∀v∈cs,v.oneCell'=true):
 (Builtin.copy_ #[dT,sT] ty #[.slice (some ⟨b,p,none⟩) dLen dCap, .slice (some ad) sLen sCap]).run P w= .ok (goInt r) (w.setRow b (rm cur p cs)):=by
 have hf:=run_firstCells_some (P:=P) w i.size r ad sLen sCap cs hl hsrc;have hst:=run_storeCells_at P b p t cs 0 cur w hg (by simpa using hfit) h1
 simp only[Nat.add_zero]at hst
 simp[Builtin.copy_,run_underlying hu,Builtin.lenOf,sizeOf,typeInfo,hi,hn,hf,hst,rm]
inductive mI (s:AS) (x:Operand) (mm r q:Nat):List Nat->List AV->Prop
 |of {L:List Nat} {ys xs:List AV}:io s x mm q L ys->r<=mm->ys.take (r*q)=xs->mI s x mm r q L xs
 |vs {j p c e:Nat} {cs xs:List AV}:s.ev x= .vs j p mm c q e->s.bx j=some cs->r<=mm->(p+r)*q<=cs.length->(cs.drop (p*q)).take (r*q)=xs->mI s x mm r q [j] xs
theorem mI.congr {x:Operand} {mm r q:Nat} {L:List Nat} {xs:List AV} {s2:AS} (h:mI s x mm r q L xs) (hx:s2.ev x=s.ev x) (hb:∀i∈L,ai s2.b i=ai s.b i):mI s2 x mm r q L xs:=by
 cases h with
 |of h1 h2 h3=>exact .of (h1.congr hx hb) h2 h3
 |vs h1 h2 h3 h4 h5=>exact .vs (hx.trans h1) ((aN (hb _ (by simp))).trans h2) h3 h4 h5
theorem mI.news {x:Operand} {mm r q:Nat} {L:List Nat} {xs:List AV} (h:mI s x mm r q L xs) (hM:MG n S0 w0 g s a w):∃(ad:Addr) (c2:Nat) (news:List Value),a.eval x= .slice (some ad) mm c2/\news.length=r*q/\(∀j u,news[j]? =some u->w.cell? (ad.add j)=some u)/\CM (Own S0 g s) w xs news:=by
 cases h with
 |of h1 h2 h3=>
  obtain⟨ad,c2,news,hya,hnl,hnews,hncm⟩:=h1.news hM;subst h3;refine⟨ad,c2,news.take (r*q),hya,?_,fun j u hj=>?_,hncm.take _⟩
  ·rw[List.length_take,hnl]
   exact Nat.min_eq_left (Nat.mul_le_mul_right _ h2)
  ·rw[List.getElem?_take]at hj
   split at hj
   ·exact hnews j u hj
   ·cases hj
 |vs h1 h2 h3 h4 h5=>
  rename_i j p c e cs
  have hm:=hM.ev x;rw[h1]at hm;obtain⟨e1,e2,e3,_⟩:=hm.2 cs h2;obtain⟨_,arr,e,e5,e6,_⟩:=hM.bm j cs h2;have hl2:=e6.1;subst h5;have hsz:(p+r)*q=p*q+r*q:=Nat.add_mul _ _ _;refine⟨_,c,(arr.toList.drop (p*q)).take (r*q),e1,by simp at hl2 ⊢;omega,fun i u hi=>?_,e6.sub (by omega)⟩;exact LC
theorem Bm {L:List Nat} {x y:Operand} {t t' et q m1 mm j p r:Nat} {ty:Ty} {cs xs:List AV} (hT:aU P t ty) (ho:o.op= .call ⟨.builtin .copy,#[x,y],#[t,t']⟩) (hel:ty.elem=some (et,q)) (hx:jt s x j p m1 q cs) (hy:mI s y mm r q L xs) (hr:Nat.min mm m1=r) (hlb:fO j=false) (hp:p<=cs.length) (hw:bR j=false->a8 xs=true):
 bA P o s ⟨.d (.leaf (.val (.int .i64 (r:Nat)))),some [(j,some (aB cs p xs))]⟩:=by
 obtain⟨u,hu,_,hel',_⟩:=hT.und;obtain⟨rfl,hks⟩:=hel' et q hel
 obtain⟨i,hi,his⟩:∃i,P.info? et=some i/\i.size=q:=by
  cases hq:P.info? et with
  |none=>rw[hq]at hks;cases hks
  |some i=>rw[hq]at hks;exact⟨i,rfl,by simpa using hks⟩
 intro n S0 w0 g a w K Q hM hdn hK;obtain⟨hj,c,arr,e,e1,e5,e6⟩:=hx.here hM;obtain⟨ad,c2,news,hya,hnl,hnews,hncm⟩:=hy.news hM;have hr1:r<=m1:=by rw[<- hr];exact Nat.min_le_right _ _
 have hfit:p+news.length<=arr.size:=by
  rw[hnl];have:=Nat.mul_le_mul_right q hr1;omega
 have hrun:=xz (P:=P) (w:=w) t t' o.type et i (g j) p m1 c ad mm c2 arr e news hu hi e5 r hr (by rw[hnl,his]) hnews hfit hncm.plain;have h2:=hM.wr hj hlb e5 hp hfit hncm hw;unfold Oper.wp execOp
 simp only[ho,resolve,invoke,builtin,Sem.run_bind,Sem.run_pure,Result.andThen_ok,List.map_toArray,List.map_cons,List.map_nil,e1,hya,hrun]
 show K (a.put o.dst _) _;cases hd:o.dst with
 |none=>rw[hd]at hK;exact hK _ _ _ h2
 |some d=>
  rw[hd]at hK;exact hK _ _ _ (h2.put (hdn d hd) (x:= .d (.leaf (.val (.int .i64 (r:Nat))))) (Below.refl _ _) (AV.M.val rfl))
theorem ka (hT:∀t d,T t=some d->aU P t d) {L:List Nat} {x y:Operand} {t t' et q m1 mm j p r:Nat} {ty:Ty} {cs xs cs':List AV} (hr:Nat.min mm m1=r) (hp:p<=cs.length) (hcs:aB cs p xs=cs') (hw:(bR j || a8 xs)=true) (h1:gd ops s o=some true) (ho:o.op= .call ⟨.builtin .copy,#[x,y],#[t,t']⟩) (h3:aF n o.dst=true) (ht:T t=some ty) (hel:ty.elem=some (et,q)) (hx:jt s x j p m1 q cs) (hy:mI s y mm r q L xs) (hlb:fO j=false)
 (h4:eT draw ops (ar ops o ⟨.d (.leaf (.val (.int .i64 (r:Nat)))),some [(j,some cs')]⟩ (j::L)) k fps=true)
 (h:am P T n ops id draw K (k+1) os (s.eff o.dst ⟨.d (.leaf (.val (.int .i64 (r:Nat)))),some [(j,some cs')]⟩) (ar ops o ⟨.d (.leaf (.val (.int .i64 (r:Nat)))),some [(j,some cs')]⟩ (j::L)::fps)):am P T n ops id draw K k (o::os) s fps:=by
 subst hcs;refine .run h1 (.gen fun s2 ht2 hrb=>?_) h3 h4 h;have hx2:s2.ev x=s.ev x:=an ht2 (by rw[ho];simp[Op.operands,Call.operands]);have hy2:s2.ev y=s.ev y:=an ht2 (by rw[ho];simp[Op.operands,Call.operands]);exact Bm (hT _ _ ht) ho hel (hx.congr hx2 (hrb j (by simp))) (hy.congr hy2 fun i hi=>hrb i (by simp[hi])) hr hlb hp (fun h=>by rw[h]at hw;exact hw)
theorem zk {x:Operand} {t et q m j p:Nat} {ty te:Ty} {cs:List AV} (hT:aU P t ty) (hE:aU P et te) (ho:o.op= .call ⟨.builtin .clear,#[x],#[t]⟩) (hel:ty.elem=some (et,q)) (hk:te.size=q) (hm0:0<m) (hx:jt s x j p m q cs) (hlb:fO j=false) (hp:p<=cs.length) (hw:bR j=false->a8 te.zero=true):
 bA P o s ⟨.tup [],some [(j,some (aB cs p (cZ te.zero m)))]⟩:=by
 obtain⟨hu,i,z,hi,hiz,his,hib,hzl,hzm⟩:=kx hT hE hel hk;intro n S0 w0 g a w K Q hM hdn hK;obtain⟨hj,c,arr,e,e1,e5,e6⟩:=hx.here hM;have hzc:CM (Own S0 g s) w (cZ te.zero m) (Builtin.zeroCells z.cells m).toList:=Cu (hzm _ _) hE.zlen m;have hzs:(Builtin.zeroCells z.cells m).toList.length=m*q:=by rw[Array.length_toList,size_zeroCells,hzl]
 have hst:=run_storeCells_at P (g j) p e (Builtin.zeroCells z.cells m).toList 0 arr w e5 (by simp only[Nat.add_zero];rw[hzs];exact e6) hzc.plain
 simp only[Nat.add_zero]at hst
 have hz:∀w,(zeroValue et).run P w= .ok z w:=fun w=>by simp[zeroValue,typeInfo,hi,hiz]
 have hr:(Builtin.clear_ #[t] o.type #[.slice (some ⟨g j,p,none⟩) m c]).run P w= .ok (.tuple #[]) (w.setRow (g j) (rm arr p (Builtin.zeroCells z.cells m).toList)):=by
  obtain⟨m',rfl⟩:∃m',m=m'+1:=⟨m-1,by omega⟩
  simp[Builtin.clear_,run_underlying hu,hz,hst,rm]
 have h2:=hM.wr hj hlb e5 hp (by rw[hzs];exact e6) hzc (fun h=>rC (hw h) m);unfold Oper.wp execOp
 simp only[ho,resolve,invoke,builtin,Sem.run_bind,Sem.run_pure,Result.andThen_ok,List.map_toArray,List.map_cons,List.map_nil,e1,hr]
 show K (a.put o.dst _) _;cases hd:o.dst with
 |none=>rw[hd]at hK;exact hK _ _ _ h2
 |some d=>
  rw[hd]at hK;exact hK _ _ _ (h2.put (hdn d hd) (x:= .tup []) (v:= .tuple #[]) (Below.refl _ _) ⟨[],rfl,rfl,fun i x u h=>by simp at h⟩)
theorem CZ (hT:∀t d,T t=some d->aU P t d) {x:Operand} {t et q m j p:Nat} {ty te:Ty} {cs cs':List AV} (hm0:0<m) (hp:p<=cs.length) (hcs:aB cs p (cZ te.zero m)=cs') (h0:draw=false) (h1:gd ops s o=some true) (ho:o.op= .call ⟨.builtin .clear,#[x],#[t]⟩) (h3:aF n o.dst=true) (ht:T t=some ty) (hel:ty.elem=some (et,q)) (hte:T et=some te) (hk:te.size=q) (hx:jt s x j p m q cs) (hlb:fO j=false) (hw:(bR j || a8 te.zero)=true)
 (h:am P T n ops id draw K (k+1) os (s.eff o.dst ⟨.tup [],some [(j,some cs')]⟩) (ar ops o ⟨.junk,none⟩ []::fps)):am P T n ops id draw K k (o::os) s fps:=by
 subst hcs;exact .snd h0 h1 ((zk (hT _ _ ht) (hT _ _ hte) ho hel hk hm0 hx hlb hp (fun h=>by rw[h]at hw;exact hw)).to h3) h
theorem PH (hT:∀t d,T t=some d->aU P t d) {t:TypeId} {ty:Ty} {x y z u:Operand} {j p et q m c i i2 i3:Nat} {ik ik2 ik3:IntKind} {cs:List AV} (hi:i<=i2) (hi2:i2<=i3) (hi3:i3<=c) (h1:gd ops s o=some true) (h2:o.op= .slice t x (some y) (some z) (some u)) (h5:T t=some ty) (h6:ty.elem=some (et,q)) (h7:s.ev x= .vs j p m c q et) (hb:s.bx j=some cs) (h8:s.ev y= .d (.leaf (.val (.int ik (i:Nat))))) (h9:s.ev z= .d (.leaf (.val (.int ik2 (i2:Nat))))) (h10:s.ev u= .d (.leaf (.val (.int ik3 (i3:Nat)))))
 (h3:aF n o.dst=true) (h4:eT draw ops (ar ops o ⟨.junk,none⟩ [j]) k fps=true) (h:am P T n ops id draw K (k+1) os (s.eff o.dst ⟨.junk,none⟩) (ar ops o ⟨.junk,none⟩ [j]::fps)):am P T n ops id draw K k (o::os) s fps:=by
 refine .run h1 (.gen fun s2 ht hrb=>?_) h3 h4 h;have hx:=(an ht (x:=x) (by simp[h2,Op.operands])).trans h7;have hy:=(an ht (x:=y) (by simp[h2,Op.operands])).trans h8;have hz:=(an ht (x:=z) (by simp[h2,Op.operands])).trans h9;have hu2:=(an ht (x:=u) (by simp[h2,Op.operands])).trans h10;have hbj:=(aN (hrb j (by simp))).trans hb;obtain⟨ud,hu,_,hel,_⟩:=(hT _ _ h5).und;obtain⟨rfl,hks⟩:=hel et q h6;refine af fun n S0 w0 g a w hM=>?_
 have hm:=hM.ev x;rw[hx]at hm;obtain⟨e1,e2,e3,arr,e5,e6⟩:=hm.2 cs hbj;have b1:(0:Int)<=(i3:Int)/\(i3:Int)<=(c:Nat):=⟨by omega,by omega⟩;have b2:(0:Int)<=(i2:Int)/\(i2:Int)<=(i3:Nat):=⟨by omega,by omega⟩;have b3:(0:Int)<=(i:Int)/\(i:Int)<=(i2:Nat):=⟨by omega,by omega⟩;refine⟨.slice (if i3=i then some ⟨g j,p*q,none⟩else(some ⟨g j,p*q,none⟩:Option Addr).map (·.add (i*q))) (i2-i) (i3-i),w,?_,Below.refl _ _,trivial⟩;unfold execOp;rw[h2]
 simp only[e1,aY hM hy,aY hM hz,aY hM hu2,Option.map_some,Sem.run_bind]
 unfold Instr.sliceAt
 simp only[Sem.run_bind,run_underlying hu w,Result.andThen_ok]
 unfold Instr.slice
 simp only[Sem.run_bind,run_underlying hu w,Result.andThen_ok,Instr.sliceBounds,Instr.sliceBound,Sem.run_pure,asIntOf]
 rw[if_pos b1]
 simp only[Sem.run_pure,Result.andThen_ok,Sem.run_bind,Int.toNat_natCast]
 rw[if_pos b2]
 simp only[Sem.run_pure,Result.andThen_ok,Sem.run_bind,Int.toNat_natCast]
 rw[if_pos b3]
 simp only[Sem.run_pure,Result.andThen_ok,Int.toNat_natCast]
 rw[bB hks w];rfl
theorem rB (hT:∀t d,T t=some d->aU P t d) {f:Operand} {fid:FuncId} {fn:Func} {x y:Operand} {ts:Array TypeId} {tS tR et q j1 m1 q1 e1 j2 p2 m2 c2 e2:Nat} {ty:Ty} {cs1 cs2:List AV} (hne:j1≠j2) (hm2:0<m2) (h1:gd ops s o=some true) (ho:o.op= .call ⟨.value f,#[x,y],ts⟩) (hev:s.ev f= .d (.leaf (.val (.func (.func fid) #[] #[])))) (hfn:P.funcs[fid]? =some fn) (hname:(fn.name == "runtime.NumGoroutine")=false) (hbd:fn.body.isNone=true) (hnx:Extern.findNext fn=none) (hfd:Extern.find fn=some (Extern.SlicesOverlaps.overlaps #[tS,tS] #[tR]))
 (h5:T tS=some ty) (h6:ty.elem=some (et,q)) (hq:Nat.blt 0 q=true) (hx:s.ev x= .own j1 m1 q1 e1) (hj1:s.bx j1=some cs1) (hy:s.ev y= .vs j2 p2 m2 c2 q e2) (hj2:s.bx j2=some cs2) (h3:aF n o.dst=true)
 (h4:eT draw ops (ar ops o ⟨.d (.leaf (.val (.bool false))),none⟩ [j1,j2]) k fps=true) (h:am P T n ops id draw K (k+1) os (s.eff o.dst ⟨.d (.leaf (.val (.bool false))),none⟩) (ar ops o ⟨.d (.leaf (.val (.bool false))),none⟩ [j1,j2]::fps)):am P T n ops id draw K k (o::os) s fps:=by
 refine .run h1 (.gen fun s2 ht hrb=>?_) h3 h4 h;have hf2:=(an ht (x:=f) (by simp[ho,Op.operands,Call.operands])).trans hev;have hx2:=(an ht (x:=x) (by simp[ho,Op.operands,Call.operands])).trans hx;have hy2:=(an ht (x:=y) (by simp[ho,Op.operands,Call.operands])).trans hy;have hb1:=(aN (hrb j1 (by simp))).trans hj1;have hb2:=(aN (hrb j2 (by simp))).trans hj2;obtain⟨ud,hu,_,hel,_⟩:=(hT _ _ h5).und;obtain⟨rfl,hks⟩:=hel et q h6;refine af fun n S0 w0 g a w hM=>⟨.bool false,w,?_,Below.refl _ _,AV.M.val rfl⟩
 have hmx:=hM.ev x;rw[hx2]at hmx;obtain⟨c1,a1,_,_,_,arr1,a5,_⟩:=hmx.2 cs1 hb1;have hmy:=hM.ev y;rw[hy2]at hmy;obtain⟨d1,d2,_,arr2,d5,d6⟩:=hmy.2 cs2 hb2;have hbl:g j1≠g j2:=fun e=>hne (hM.inj j1 j2 _ _ hb1 hb2 e)
 have hq0:0<q:=by simpa using hq
 have hpos:arr2.size≠0:=by
  rw[d6];exact Nat.mul_ne_zero (by omega) (by omega)
 have hr:=Lib.run_overlaps_apart (P:=P) w tS tR et hu q (fun w=>bB hks w) ⟨g j1,0,none⟩ ⟨g j2,p2*q,none⟩ m1 c1 m2 c2 hbl e1 e2 arr1.size arr2.size (by simp[World.shape?,a5]) (by simp[World.shape?,d5]) hpos (by simp[World.frozen?,a5]) (by simp[World.frozen?,a5]);have hc:=run_callFunc_extern (P:=P) hfn hname hbd hnx hfd #[a.eval x,a.eval y] w;rw[a1,d1,hr]at hc;unfold execOp;rw[ho]
 simp only[resolve,aY hM hf2,Deferred.ofValue,Sem.run_bind,Sem.run_pure,Result.andThen_ok,invoke]
 simpa[a1,d1]using hc
theorem Cn (hM:MG n S0 w0 g s a w):∀(l:List Operand),nP (Own S0 g s) g s w (l.map s.ev) (l.map a.eval)
 | []=>trivial
 |x::l=>⟨hM.ev x,Cn hM l⟩
theorem zm {f:Operand} {fid:FuncId} {args:Array Operand} {tys:Array TypeId} {ts:List TV} {b:BL} {r:RT} {b':BL} (hc:bw P fid ts b r b') (ho:o.op= .call ⟨.value f,args,tys⟩) (hfe:s.ev f= .d (.leaf (.val (.func (.func fid) #[] #[])))) (hts:args.toList.map s.ev=ts)
 (hk:(EM (aw b) (ts.flatMap dU) && sP (aw b) (aw b))=true) (hb:sy s (aw b)) (hcn:∀j cs,s.bx j=some cs->j ∉ b.map (·.1)->bR j=false) (hnew:mu s b b'=true):
 bA P o s ⟨r.tv,some (aw b'++dG b' b)⟩:=by
 intro n S0 w0 g a w K Q hM hdn hK;rw[Bool.and_eq_true]at hk;obtain⟨hk,hwfc⟩:=hk;obtain⟨S,hpre,hO,hpost⟩:=hM.callT (b:=b) (b':=b') hb hwfc hcn (fun j cs hj hn=>uZ hnew (cw.1 hj) hn);have inb:∀j cs,(sB b).bx j=some cs->s.bx j=some cs:=fun j cs hj=>hb.at (cw.1 hj)
 have hvs:=Cn hM args.toList;rw[hts]at hvs
 have hrun:(execOp a.eval o).run P w= .ok (.enter fid (args.toList.map a.eval).toArray) w:=by
  unfold execOp;rw[ho]
  simp only[resolve,aY hM hfe,Deferred.ofValue,Sem.run_bind,Sem.run_pure,Result.andThen_ok,invoke]
  exact MS
 have hcall:=hc.calls S g w _ hpre (by rw[hO];exact vo inb (Gh hk) hvs);unfold Oper.wp;rw[hrun];show Calls P fid _ w _;refine hcall.mono ?_;rintro en w1 ⟨v,g',rfl,h2,h3,h4,h5,h6⟩;show K (a.put o.dst v) w1;obtain⟨g2,hm⟩:=hpost r v g' w1 h2 h3 h4 h5 h6 o.dst hdn;refine hK g2 _ _ ?_;cases ho2:o.dst<;>(rw[ho2]at hm;exact hm)
theorem pJ {f:Operand} {fid:FuncId} {args:Array Operand} {tys:Array TypeId} {ts:List TV} {b:BL} {r:RT} {b':BL} (hc:bw P fid ts b r b') (h1:gd ops s o=some true) (ho:o.op= .call ⟨.value f,args,tys⟩) (hfe:s.ev f= .d (.leaf (.val (.func (.func fid) #[] #[])))) (hts:args.toList.map s.ev=ts)
 (hk:(EM (aw b) (ts.flatMap dU) && sP (aw b) (aw b))=true) (hb:sy s (aw b)) (hcn:ez [] s.b=true) (hnew:mu s b b'=true) (h3:aF n o.dst=true) (h4:eT draw ops (ar ops o ⟨r.tv,some (aw b'++dG b' b)⟩ (b.map (·.1)++b'.map (·.1))) k fps=true)
 (h:am P T n ops id draw K (k+1) os (s.eff o.dst ⟨r.tv,some (aw b'++dG b' b)⟩) (ar ops o ⟨r.tv,some (aw b'++dG b' b)⟩ (b.map (·.1)++b'.map (·.1))::fps)):am P T n ops id draw K k (o::os) s fps:=by
 refine .run h1 (.genC (iW hcn) fun s2 hc2 ht hrb=>?_) h3 h4 h;have hf:s2.ev f=s.ev f:=an ht (by rw[ho];simp[Op.operands,Call.operands])
 have ha:args.toList.map s2.ev=ts:=by
  rw[<- hts];exact List.map_congr_left fun x hx=>an ht (by rw[ho];simp[Op.operands,Call.operands];exact .inr (by simpa using hx))
 exact zm hc ho (hf.trans hfe) ha hk (lc (fun j hj=>hrb j (List.mem_append_left _ hj)) hb) (fun j cs hj _=>hc2 j cs hj) ((jm fun j hj=>hrb j (List.mem_append_right _ hj)).trans hnew)
end
end Go.Proofs.YtmkggcjajcdlcaaGreatDoor
