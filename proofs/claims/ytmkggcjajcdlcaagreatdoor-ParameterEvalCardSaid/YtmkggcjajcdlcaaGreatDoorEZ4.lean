/- Parts of a proof: contracts of the functions that the laws reach. -/
import Derived.Test.YtmkggcjajcdlcaaGreatDoorEZ3
set_option maxHeartbeats 100000000
set_option linter.all false
namespace Go.Proofs.YtmkggcjajcdlcaaGreatDoor
open Go.RowKit
section
variable {P:Program} {T:TypeId->Option Ty} {n:Nat} {ops:Array Oper} {id:Nat} {draw:Bool} {K:AS->Prop} {S0:Nat->Prop} {w0:eV} {s s':AS} {k:Nat} {o:Oper} {os:List Oper} {fps:List FP} {g:Nat->Nat} {a:Act} {w:World}
theorem qJ (q:Nat) {j m r e:Nat} {cs:List AV} (hq:s.tv q= .own j m r e) (hj:s.bx j=some cs):AH s (fun s1=>∃c,m<=c/\c<=9223372036854775807/\s1=⟨(q, .vs j 0 m c r e)::s.t,s.b⟩):=by
 rintro n S0 w0 a w ⟨g,h⟩;have hm:=h.tm q;rw[hq]at hm;obtain⟨c,e1,e2,e3,e4,arr,e5,e6⟩:=hm.2 cs hj;exact⟨_,⟨c,e2,e3,rfl⟩,g,h.reslot (x:= .vs j 0 m c r e) ⟨hm.1,fun cs' hc=>⟨by rw[e1,Nat.zero_mul],e2,e3,arr,e5,by rw[Nat.zero_add];exact e6⟩⟩ rfl (by show qO (s.tv q)=true;rw[hq];rfl)⟩
theorem nv {Q:AX->AS->Prop} (q:Nat) {j m r e:Nat} {cs:List AV} (hq:s.tv q= .own j m r e) (hj:s.bx j=some cs) (h:∀c,m<=c->c<=9223372036854775807->gy P T n (.region id ops draw) Q ⟨(q, .vs j 0 m c r e)::s.t,s.b⟩):gy P T n (.region id ops draw) Q s:=
 DU _ (qJ q hq hj) (by rintro s1 ⟨c,h1,h2,rfl⟩;exact h c h1 h2)
theorem tX {q j m c r e:Nat} {cs:List AV} (hq:s.tv q= .vs j 0 m c r e) (hj:s.bx j=some cs) (hl:m*r<=cs.length):bu s ⟨(q, .own j m r e)::s.t,s.b⟩:=by
 rintro n S0 w0 a w ⟨g,h⟩;have hm:=h.tm q;rw[hq]at hm;obtain⟨e1,e2,e3,arr,e5,e6⟩:=hm.2 cs hj;exact⟨g,h.reslot (x:= .own j m r e) ⟨hm.1,fun cs' hc=>⟨c,by rw[e1,Nat.zero_mul],e2,e3,by rw[hj]at hc;cases hc;exact hl,arr,e5,by rw[e6,Nat.zero_add]⟩⟩ rfl (by show qO (s.tv q)=true;rw[hq];rfl)⟩
theorem F5 {P:Program} {w:World} {t et q:Nat} (hu:P.underlying t=some (.slice et)) (hks:(P.info? et).map (·.size)=some q) (A:Option Addr) {m i i2 c:Nat} (ik ik2:IntKind) (hi:i<=i2) (h2:i2<=c):
 (Instr.sliceAt t (.slice A m c) (some (.int ik (i:Nat))) (some (.int ik2 (i2:Nat))) none).run P w= .ok (.slice (if c=i then A else A.map (·.add (i*q))) (i2-i) (c-i)) w:=by
 have hib:(0:Int)<=(i:Int)/\(i:Int)<=(i2:Nat):=⟨by omega,by omega⟩;have hib2:(0:Int)<=(i2:Int)/\(i2:Int)<=(c:Nat):=⟨by omega,by omega⟩;unfold Instr.sliceAt
 simp only[Sem.run_bind,run_underlying hu w,Result.andThen_ok]
 unfold Instr.slice
 simp only[Sem.run_bind,run_underlying hu w,Result.andThen_ok,Instr.sliceBounds,Instr.sliceBound,Sem.run_pure,asIntOf]
 simp only[Bool.false_eq_true,if_false,if_true]
 rw[if_pos hib2]
 simp only[Sem.run_pure,Result.andThen_ok,Sem.run_bind,Int.toNat_natCast]
 rw[if_pos hib]
 simp only[Sem.run_pure,Result.andThen_ok,Int.toNat_natCast]
 rw[bI hks w];rfl
theorem BG (hT:∀t d,T t=some d->aU P t d) {t:TypeId} {ty:Ty} {x z:Operand} {j p et q m c i:Nat} {ik:IntKind} {cs:List AV} (hi:i<=c) (h1:gd ops s o=some true) (h2:o.op= .slice t x none (some z) none) (h5:T t=some ty) (h6:ty.elem=some (et,q)) (h7:s.ev x= .vs j p m c q et) (hb:s.bx j=some cs) (h8:s.ev z= .d (.leaf (.val (.int ik (i:Nat)))))
 (h3:aH n o.dst=true) (h4:eS draw ops (aw ops o ⟨.vs j p i c q et,none⟩ [j]) k fps=true) (h:ak P T n ops id draw K (k+1) os (s.eff o.dst ⟨.vs j p i c q et,none⟩) (aw ops o ⟨.vs j p i c q et,none⟩ [j]::fps)):ak P T n ops id draw K k (o::os) s fps:=by
 refine .run h1 (.gen fun s2 ht hrb=>?_) h3 h4 h;have hx:=(an ht (x:=x) (by simp[h2,Op.operands])).trans h7;have hz:=(an ht (x:=z) (by simp[h2,Op.operands])).trans h8;have hbj:=(aT (hrb j (by simp))).trans hb;obtain⟨u,hu,_,hel,_⟩:=(hT _ _ h5).und;obtain⟨rfl,hks⟩:=hel et q h6;refine ai fun n S0 w0 g a w hM=>?_
 have hm:=hM.ev x;rw[hx]at hm;obtain⟨e1,e2,e3,arr,e5,e6⟩:=hm.2 cs hbj;have hr:=lF (w:=w) hu hks (some ⟨g j,p*q,none⟩) (m:=m) (i:=i) (c:=c) ik hi
 have ha:(if c=0 then some (⟨g j,p*q,none⟩:Addr)else(some ⟨g j,p*q,none⟩:Option Addr).map (·.add (0*q)))=some ⟨g j,p*q,none⟩:=by
  split
  ·rfl
  ·rw[Nat.zero_mul,Option.map_some,cH];rfl
 rw[ha]at hr;refine⟨.slice (some ⟨g j,p*q,none⟩) i c,w,?_,Below.refl _ _,hm.1,fun cs' hc=>⟨rfl,hi,e3,arr,e5,e6⟩⟩;unfold execOp;rw[h2]
 simp only[e1,bc hM hz,Option.map_some,Option.map_none,Sem.run_bind,hr,Result.andThen_ok]
 rfl
theorem ly (hT:∀t d,T t=some d->aU P t d) {t:TypeId} {ty:Ty} {x y:Operand} {j p et q m c i:Nat} {ik:IntKind} {cs:List AV} (hi:i<=m) (hic:i<c) (h1:gd ops s o=some true) (h2:o.op= .slice t x (some y) none none) (h5:T t=some ty) (h6:ty.elem=some (et,q)) (h7:s.ev x= .vs j p m c q et) (hb:s.bx j=some cs) (h8:s.ev y= .d (.leaf (.val (.int ik (i:Nat)))))
 (h3:aH n o.dst=true) (h4:eS draw ops (aw ops o ⟨.vs j (p+i) (m-i) (c-i) q et,none⟩ [j]) k fps=true) (h:ak P T n ops id draw K (k+1) os (s.eff o.dst ⟨.vs j (p+i) (m-i) (c-i) q et,none⟩) (aw ops o ⟨.vs j (p+i) (m-i) (c-i) q et,none⟩ [j]::fps)):ak P T n ops id draw K k (o::os) s fps:=by
 refine .run h1 (.gen fun s2 ht hrb=>?_) h3 h4 h;have hx:=(an ht (x:=x) (by simp[h2,Op.operands])).trans h7;have hy:=(an ht (x:=y) (by simp[h2,Op.operands])).trans h8;have hbj:=(aT (hrb j (by simp))).trans hb;obtain⟨u,hu,_,hel,_⟩:=(hT _ _ h5).und;obtain⟨rfl,hks⟩:=hel et q h6;refine ai fun n S0 w0 g a w hM=>?_
 have hm:=hM.ev x;rw[hx]at hm;obtain⟨e1,e2,e3,arr,e5,e6⟩:=hm.2 cs hbj;have hr:=lr (w:=w) hu hks (some ⟨g j,p*q,none⟩) (m:=m) (i:=i) (c:=c) ik (by omega);rw[if_neg (by omega),Option.map_some,cH]at hr;refine⟨.slice (some ⟨g j,p*q+i*q,none⟩) (m-i) (c-i),w,?_,Below.refl _ _,hm.1,fun cs' hc=>⟨by rw[Nat.add_mul],by omega,by omega,arr,e5,by rw[e6];congr 1;omega⟩⟩;unfold execOp;rw[h2]
 simp only[e1,bc hM hy,Option.map_some,Option.map_none,Sem.run_bind,hr,Result.andThen_ok]
 rfl
theorem Eg (hT:∀t d,T t=some d->aU P t d) {t:TypeId} {ty:Ty} {x y:Operand} {j p et q m c i:Nat} {ik:IntKind} {cs:List AV} (him:i=m) (h1:gd ops s o=some true) (h2:o.op= .slice t x (some y) none none) (h5:T t=some ty) (h6:ty.elem=some (et,q)) (h7:s.ev x= .vs j p m c q et) (hb:s.bx j=some cs) (h8:s.ev y= .d (.leaf (.val (.int ik (i:Nat)))))
 (h3:aH n o.dst=true) (h4:eS draw ops (aw ops o ⟨.d (.leaf (.sl 0 [])),none⟩ [j]) k fps=true) (h:ak P T n ops id draw K (k+1) os (s.eff o.dst ⟨.d (.leaf (.sl 0 [])),none⟩) (aw ops o ⟨.d (.leaf (.sl 0 [])),none⟩ [j]::fps)):ak P T n ops id draw K k (o::os) s fps:=by
 subst him;refine .run h1 (.gen fun s2 ht hrb=>?_) h3 h4 h;have hx:=(an ht (x:=x) (by simp[h2,Op.operands])).trans h7;have hy:=(an ht (x:=y) (by simp[h2,Op.operands])).trans h8;have hbj:=(aT (hrb j (by simp))).trans hb;obtain⟨u,hu,_,hel,_⟩:=(hT _ _ h5).und;obtain⟨rfl,hks⟩:=hel et q h6;refine ai fun n S0 w0 g a w hM=>?_
 have hm:=hM.ev x;rw[hx]at hm;obtain⟨e1,e2,e3,arr,e5,e6⟩:=hm.2 cs hbj;have hr:=lr (w:=w) hu hks (some ⟨g j,p*q,none⟩) (m:=i) (i:=i) (c:=c) ik (Nat.le_refl _);rw[Nat.sub_self]at hr;refine⟨.slice (if c=i then some ⟨g j,p*q,none⟩else(some ⟨g j,p*q,none⟩:Option Addr).map (·.add (i*q))) 0 (c-i),w,?_,Below.refl _ _,AV.M.emp (by omega) (by omega) (fun hA=>?_)⟩
 ·exact IS
 ·split at hA<;>cases hA
theorem E6 (hT:∀t d,T t=some d->aU P t d) {t:TypeId} {ty:Ty} {x y z:Operand} {j p et q m c i i2:Nat} {ik ik2:IntKind} {cs:List AV} (hi:i<=i2) (hic:i<c) (hi2:i2<=c) (h1:gd ops s o=some true) (h2:o.op= .slice t x (some y) (some z) none) (h5:T t=some ty) (h6:ty.elem=some (et,q)) (h7:s.ev x= .vs j p m c q et) (hb:s.bx j=some cs) (h8:s.ev y= .d (.leaf (.val (.int ik (i:Nat))))) (h9:s.ev z= .d (.leaf (.val (.int ik2 (i2:Nat)))))
 (h3:aH n o.dst=true) (h4:eS draw ops (aw ops o ⟨.vs j (p+i) (i2-i) (c-i) q et,none⟩ [j]) k fps=true) (h:ak P T n ops id draw K (k+1) os (s.eff o.dst ⟨.vs j (p+i) (i2-i) (c-i) q et,none⟩) (aw ops o ⟨.vs j (p+i) (i2-i) (c-i) q et,none⟩ [j]::fps)):ak P T n ops id draw K k (o::os) s fps:=by
 refine .run h1 (.gen fun s2 ht hrb=>?_) h3 h4 h;have hx:=(an ht (x:=x) (by simp[h2,Op.operands])).trans h7;have hy:=(an ht (x:=y) (by simp[h2,Op.operands])).trans h8;have hz:=(an ht (x:=z) (by simp[h2,Op.operands])).trans h9;have hbj:=(aT (hrb j (by simp))).trans hb;obtain⟨u,hu,_,hel,_⟩:=(hT _ _ h5).und;obtain⟨rfl,hks⟩:=hel et q h6;refine ai fun n S0 w0 g a w hM=>?_
 have hm:=hM.ev x;rw[hx]at hm;obtain⟨e1,e2,e3,arr,e5,e6⟩:=hm.2 cs hbj;have hr:=F5 (w:=w) hu hks (some ⟨g j,p*q,none⟩) (m:=m) (i:=i) (i2:=i2) (c:=c) ik ik2 hi hi2;rw[if_neg (by omega),Option.map_some,cH]at hr;refine⟨.slice (some ⟨g j,p*q+i*q,none⟩) (i2-i) (c-i),w,?_,Below.refl _ _,hm.1,fun cs' hc=>⟨by rw[Nat.add_mul],by omega,by omega,arr,e5,by rw[e6];congr 1;omega⟩⟩;unfold execOp;rw[h2]
 simp only[e1,bc hM hy,bc hM hz,Option.map_some,Option.map_none,Sem.run_bind,hr,Result.andThen_ok]
 rfl
theorem Lj (hT:∀t d,T t=some d->aU P t d) {t:TypeId} {ty:Ty} {x y:Operand} {j p et q m c i:Nat} {ik:IntKind} {cs:List AV} (hi:i<m) (h1:gd ops s o=some true) (h2:o.op= .indexAddr t x y) (h5:T t=some ty) (h6:ty.elem=some (et,q)) (h7:s.ev x= .vs j p m c q et) (hb:s.bx j=some cs) (h8:s.ev y= .d (.leaf (.val (.int ik (i:Nat)))))
 (h3:aH n o.dst=true) (h4:eS draw ops (aw ops o ⟨.box j ((p+i)*q),none⟩ [j]) k fps=true) (h:ak P T n ops id draw K (k+1) os (s.eff o.dst ⟨.box j ((p+i)*q),none⟩) (aw ops o ⟨.box j ((p+i)*q),none⟩ [j]::fps)):ak P T n ops id draw K k (o::os) s fps:=by
 refine .run h1 (.gen fun s2 ht hrb=>?_) h3 h4 h;have hx:=(an ht (x:=x) (by simp[h2,Op.operands])).trans h7;have hy:=(an ht (x:=y) (by simp[h2,Op.operands])).trans h8;have hbj:=(aT (hrb j (by simp))).trans hb;obtain⟨u,hu,_,hel,_⟩:=(hT _ _ h5).und;obtain⟨rfl,hks⟩:=hel et q h6;refine ai fun n S0 w0 g a w hM=>?_
 have hm:=hM.ev x;rw[hx]at hm;obtain⟨e1,e2,e3,arr,e5,e6⟩:=hm.2 cs hbj;refine⟨.pointer (some ⟨g j,p*q+i*q,none⟩),w,?_,Below.refl _ _,hm.1,fun _ _=>by rw[Nat.add_mul]⟩;unfold execOp;rw[h2]
 simp only[e1,bc hM hy,Instr.indexAt,asIntOf,Sem.run_bind,Sem.run_pure,run_underlying hu w,Result.andThen_ok]
 have e2:(0:Int)<=i/\(i:Int)<m:=by omega
 simp only[e2,and_self,if_true,Sem.run_bind,bI hks w,Result.andThen_ok,Sem.run_pure,cH,Int.toNat_natCast]
theorem MR (hT:∀t d,T t=some d->aU P t d) {t:TypeId} {ty:Ty} {x:Operand} {j p m c q e et q':Nat} {cs:List AV} (h1:gd ops s o=some true) (h2:o.op= .call ⟨.builtin .cap,#[x],#[t]⟩) (h5:T t=some ty) (h6:ty.elem=some (et,q')) (h7:s.ev x= .vs j p m c q e) (hb:s.bx j=some cs)
 (h3:aH n o.dst=true) (h4:eS draw ops (aw ops o ⟨.d (.leaf (.val (.int .i64 (c:Nat)))),none⟩ [j]) k fps=true) (h:ak P T n ops id draw K (k+1) os (s.eff o.dst ⟨.d (.leaf (.val (.int .i64 (c:Nat)))),none⟩) (aw ops o ⟨.d (.leaf (.val (.int .i64 (c:Nat)))),none⟩ [j]::fps)):ak P T n ops id draw K k (o::os) s fps:=by
 refine .run h1 (.gen fun s2 ht hrb=>?_) h3 h4 h;have hx:=(an ht (x:=x) (by simp[h2,Op.operands,Call.operands])).trans h7;have hbj:=(aT (hrb j (by simp))).trans hb;obtain⟨u,hu,_,hel,_⟩:=(hT _ _ h5).und;obtain⟨rfl,hks⟩:=hel et q' h6;refine ai fun n S0 w0 g a w hM=>?_
 have hm:=hM.ev x;rw[hx]at hm;obtain⟨e1,_⟩:=hm.2 cs hbj;refine⟨.int .i64 c,w,?_,Below.refl _ _,AV.M.val rfl⟩;unfold execOp;rw[h2]
 simp[resolve,invoke,builtin,Builtin.cap_,e1,Sem.run_bind,run_underlying hu w,goInt]
theorem fS.drop {S:Nat->Prop} {w:World} {cs:List AV} {vs:List Value} (h:fS S w cs vs) (r:Nat):fS S w (cs.drop r) (vs.drop r):=
 ⟨by have:=h.1;simp;omega,fun i a v h1 h2=>h.2 (r+i) a v (by simpa using h1) (by simpa using h2)⟩
theorem CM.appC {S:Nat->Prop} {w:World} {cs ds:List AV} {vs us:List Value} (h:CM S w cs vs) (k:fS S w ds us):fS S w (cs++ds) (vs++us):=by
 refine⟨by have:=h.1;have:=k.1;simp;omega,fun i a v h1 h2=>?_⟩;rw[List.getElem?_append]at h1 h2;have:=h.1
 split at h1
 ·rw[if_pos (by omega)]at h2;exact h.2 i a v h1 h2
 ·rw[if_neg (by omega),<- this]at h2;exact k.2 _ a v h1 h2
theorem Dl {cs xs:List AV} {p:Nat} (hp:p<=cs.length):cs.length<=(aF cs p xs).length:=by
 unfold aF
 simp
 omega
def sP (arr:Array Value) (p:Nat) (vs:List Value):Array Value:=(arr.toList.take p++vs++arr.toList.drop (p+vs.length)).toArray
theorem wB {arr:Array Value} {p:Nat} {vs:List Value} (h:p+vs.length<=arr.size):(sP arr p vs).size=arr.size:=by
 unfold sP
 simp
 omega
theorem MG.wr (h:MG n S0 w0 g s a w) {j p:Nat} {cs xs:List AV} {vs:List Value} (hj:s.bx j=some cs) (hlb:cT j=false) {arr:Array Value} {e:TypeId} (hB:w.heap[g j]? =some (.cells arr e (0,0))) (hp:p<=cs.length) (hf:p+vs.length<=arr.size) (hx:CM (Own S0 g s) w xs vs) (hw:bQ j=false->a8 xs=true):
 MG n S0 w0 g { s with b:=(j,some (aF cs p xs))::s.b } a (w.setRow (g j) (sP arr p vs)):=by
 obtain⟨_,arr',e',h1,h2,h3,h4,h5⟩:=h.bm j cs hj;rw[hB]at h1
 injection h1 with h1
 injection h1 with h1 _
 subst h1;refine h.store hj (size_setRow _ _ _) ⟨rfl,rfl,rfl⟩ hB (setRow_heap w (g j) arr _ e _ hB) (wB hf) (fun b hb=>setRow_other w (g j) b _ hb) (Dl hp) ?_ (fun hwf v hv=>?_) (fun hl=>by rw[hlb]at hl;cases hl)
 ·have h6:=h2.sub (off:=0) (k:=p) (by omega)
  rw[List.drop_zero,List.drop_zero]at h6;have h7:=(h6.append hx).appC (h2.drop (p+xs.length));rw[hx.1]at h7;unfold aF sP;rw[hx.1]
  simpa using h7
 ·unfold sP at hv
  simp only[List.mem_append]at hv
  rcases hv with(hv|hv)|hv
  ·exact h3 hwf v (List.mem_of_mem_take hv)
  ·exact gI hx (hw hwf) v hv
  ·exact h3 hwf v (List.mem_of_mem_drop hv)
theorem LP (hM:MG n S0 w0 g s a w) {x:Operand} {j p m c q e:Nat} {cs:List AV} (hx:s.ev x= .vs j p m c q e) (hb:s.bx j=some cs) (hl:(p+m)*q<=cs.length):pG (Own S0 g s) w (a.eval x) m q ((cs.drop (p*q)).take (m*q)):=by
 have hm:=hM.ev x;rw[hx]at hm;obtain⟨e1,e2,e3,_⟩:=hm.2 cs hb;obtain⟨_,arr,e,e5,e6,_⟩:=hM.bm j cs hb;have hl2:=e6.1;have hsz:(p+m)*q=p*q+m*q:=Nat.add_mul _ _ _;refine⟨_,c,(arr.toList.drop (p*q)).take (m*q),e1,by simp at hl2 ⊢;omega,fun i u hi=>?_,e6.sub (by omega)⟩;exact EV
inductive iJ (s:AS) (x:Operand) (m q:Nat):List Nat->List AV->Prop
 |sl {xs:List AV}:s.ev x= .d (.leaf (.sl m xs))->xs.length=m*q->0<xs.length->iJ s x m q [] xs
 |own {j e:Nat} {cs xs:List AV}:s.ev x= .own j m q e->s.bx j=some cs->cs.take (m*q)=xs->iJ s x m q [j] xs
 |vw {j p:Nat} {cs xs:List AV}:s.ev x= .vw j p m q->s.bx j=some cs->(cs.drop (p*q)).take (m*q)=xs->iJ s x m q [j] xs
 |vs {j p c e:Nat} {cs xs:List AV}:s.ev x= .vs j p m c q e->s.bx j=some cs->(p+m)*q<=cs.length->(cs.drop (p*q)).take (m*q)=xs->iJ s x m q [j] xs
theorem iJ.congr {x:Operand} {m q:Nat} {L:List Nat} {xs:List AV} {s2:AS} (h:iJ s x m q L xs) (hx:s2.ev x=s.ev x) (hb:∀i∈L,am s2.b i=am s.b i):iJ s2 x m q L xs:=by
 cases h with
 |sl h1 h2 h3=>exact .sl (hx.trans h1) h2 h3
 |own h1 h2 h3=>exact .own (hx.trans h1) ((aT (hb _ (by simp))).trans h2) h3
 |vw h1 h2 h3=>exact .vw (hx.trans h1) ((aT (hb _ (by simp))).trans h2) h3
 |vs h1 h2 h3 h4=>exact .vs (hx.trans h1) ((aT (hb _ (by simp))).trans h2) h3 h4
theorem iJ.news {x:Operand} {m q:Nat} {L:List Nat} {xs:List AV} (h:iJ s x m q L xs) (hM:MG n S0 w0 g s a w):pG (Own S0 g s) w (a.eval x) m q xs:=by
 cases h with
 |sl h1 h2 h3=>
  have hyv:=hM.ev x;rw[h1]at hyv;exact Eb hyv h2 h3
 |own h1 h2 h3=>subst h3;exact zL hM h1 h2
 |vw h1 h2 h3=>subst h3;exact D2 hM h1 h2
 |vs h1 h2 h3 h4=>subst h4;exact LP hM h1 h2 h3
theorem l9 {t et q:Nat} {ty te:Ty} (hT:aU P t ty) (hE:aU P et te) (hel:ty.elem=some (et,q)) (hk:te.size=q):P.underlying t=some (.slice et)/\ ∃i z,P.info? et=some i/\i.zero=some z/\i.size=q/\i.bytes=te.bytes/\z.cells.size=q/\ ∀(S:Nat->Prop) (w:World),CM S w te.zero z.cells.toList:=by
 obtain⟨u,hu,_,hel',_⟩:=hT.und;obtain⟨rfl,hks⟩:=hel' et q hel;obtain⟨z,hz,hzm⟩:=hE.zero;refine⟨hu,?_⟩;cases hq:P.info? et with
 |none=>rw[hq]at hz;cases hz
 |some i=>
  rw[hq]at hz hks;have h1:=hE.bytes;rw[hq]at h1;refine⟨i,z,rfl,hz,by simpa using hks,by simpa using h1,?_,hzm⟩;have:=(hzm (fun _=>False) default).1
  simp at this
  have h2:=hE.zlen;omega
theorem vf {w:World} (t ty e:TypeId) (i:TypeInfo) (ht:P.underlying t=some (.slice e)) (hi:P.info? e=some i) (b p sLen sCap:Nat) (cur:Array Value) (hg:w.heap[b]? =some (.cells cur e (0,0))) (ad:Addr) (m c:Nat) (news:List Value) (hl:news.length=m*i.size) (hnews:∀j u,news[j]? =some u->w.cell? (ad.add j)=some u) (h1:∀u∈news,u.oneCell'=true)
 (hroom:sLen+m<=sCap) (hfit:p+sLen*i.size+news.length<=cur.size):
 (Builtin.append_ #[t,t] ty #[.slice (some ⟨b,p,none⟩) sLen sCap, .slice (some ad) m c]).run P w= .ok (.slice (some ⟨b,p,none⟩) (sLen+m) sCap) (w.setRow b (sP cur (p+sLen*i.size) news)):=by
 have hf:=run_firstCells_some (P:=P) w i.size m ad m c news hl hnews;have hst:=run_storeCells_at P b (p+sLen*i.size) e news 0 cur w hg (by simpa using hfit) h1
 simp only[Nat.add_zero]at hst
 simp[Builtin.append_,run_underlying ht,sizeOf,typeInfo,hi,Builtin.lenOf,hroom,hf,Addr.add_lit,hst,sP]
theorem nH:∀{l:List AV},a8 l=true-> ∀b∈l,GD b=true
 | [],_,b,hb=>by cases hb
 |c::l,h,b,hb=>by
  simp only[a8]at h
  cases h1:GD c with
  |false=>rw[h1]at h;cases h
  |true=>
   rw[h1]at h;rcases List.mem_cons.1 hb with rfl|hb
   ·exact h1
   ·exact nH h b hb
theorem lD:∀{l:List AV},(∀b∈l,GD b=true)->a8 l=true
 | [],_=>rfl
 |c::l,h=>by
  simp only[a8]
  rw[h c (by simp)];exact lD fun b hb=>h b (by simp[hb])
theorem fh {l:List AV} (h:a8 l=true) (r:Nat):a8 (l.take r)=true:=lD fun b hb=>nH h b (List.mem_of_mem_take hb)
theorem sj {l:List AV} (h:a8 l=true) (r:Nat):a8 (cG l r)=true:=lD fun b hb=>by
 obtain⟨i,hi⟩:=List.getElem?_of_mem hb;rcases Nat.eq_zero_or_pos l.length with h0|h0
 ·have:(cG l r).length=0:=by rw[di,h0,Nat.mul_zero]
  rw[List.eq_nil_of_length_eq_zero this]at hi
  simp at hi
 ·rw[io _ h0]at hi
  split at hi
  ·exact nH h b (List.mem_of_getElem? hi)
  ·cases hi
theorem DG {S:Nat->Prop} {w:World} {zs:List AV} {cells:Array Value} {q:Nat} (h:CM S w zs cells.toList) (hq:zs.length=q) (r:Nat):CM S w (cG zs r) (Builtin.zeroCells cells r).toList:=by
 have hc:cells.size=zs.length:=by have:=h.1;simpa using this.symm
 refine⟨by rw[di,<- hc,<- size_zeroCells];simp,fun i b v h1 h2=>?_⟩;rcases Nat.eq_zero_or_pos zs.length with h0|h0
 ·have:(cG zs r).length=0:=by rw[di,h0,Nat.mul_zero]
  rw[List.eq_nil_of_length_eq_zero this]at h1
  simp at h1
 ·rw[io _ h0]at h1
  split at h1
  ·rename_i hi
   have hm:i%zs.length<zs.length:=Nat.mod_lt _ h0
   have hv:v=cells[i%cells.size]'(by rw[hc];exact hm):=by
    simp[Builtin.zeroCells,hc]at h2
    obtain⟨w1,hw1,h2⟩:=h2;rw[List.getElem?_range hi]at hw1;have hw2:w1=i:=(Option.some.inj hw1).symm;subst hw2;rw[<- h2]
    simp[hc,hm]
   exact h.2 (i%zs.length) b v h1 (by rw[hv];simp[hc,hm])
  ·cases h1
theorem z8 {L:List Nat} {d:Nat} {x y:Operand} {t et q m1 m2 j p c:Nat} {ty te:Ty} {cs xs:List AV} (hT:aU P t ty) (hE:aU P et te) (ho:o.op= .call ⟨.builtin .append,#[x,y],#[t,t]⟩) (hd:o.dst=some d) (hel:ty.elem=some (et,q)) (hk:te.size=q) (hx:s.ev x= .vs j p m1 c q et) (hj:s.bx j=some cs) (hy:iJ s y m2 q L xs) (hlb:cT j=false) (hroom:m1+m2<=c) (hp:(p+m1)*q<=cs.length) (hw:bQ j=false->a8 xs=true):
 bE P o s ⟨.vs j p (m1+m2) c q et,some [(j,some (aF cs ((p+m1)*q) xs))]⟩:=by
 obtain⟨hu,i,z,hi,hiz,his,hib,_⟩:=l9 hT hE hel hk;intro n S0 w0 g a w K Q hM hdn hK;have hm:=hM.ev x;rw[hx]at hm;obtain⟨e1,e2,e3,arr,e5,e6⟩:=hm.2 cs hj;obtain⟨ad,c2,news,hya,hnl,hnews,hncm⟩:=hy.news hM
 have hfit:p*q+m1*q+m2*q<=arr.size:=by
  rw[e6,<- Nat.add_mul,<- Nat.add_mul];exact Nat.mul_le_mul_right _ (by omega)
 have hr:=vf (P:=P) (w:=w) t o.type et i hu hi (g j) (p*q) m1 c arr e5 ad m2 c2 news (by rw[hnl,his]) hnews hncm.plain hroom (by rw[his,hnl];exact hfit);rw[his,<- Nat.add_mul]at hr;have h2:=hM.wr hj hlb e5 hp (by rw[Nat.add_mul,hnl];exact hfit) hncm hw;have h3:=h2.put (hdn d hd) (x:= .vs j p (m1+m2) c q et) (v:= .slice (some ⟨g j,p*q,none⟩) (m1+m2) c) (Below.refl _ _) ⟨AS.kn_of (AS.bx_same _ _ _ _),fun cs' hc=>⟨rfl,hroom,e3,_,setRow_heap w (g j) arr _ et _ e5,by rw[wB (by rw[Nat.add_mul,hnl];exact hfit),e6]⟩⟩;unfold Oper.wp execOp
 simp only[ho,resolve,invoke,builtin,Sem.run_bind,Sem.run_pure,Result.andThen_ok,List.map_toArray,List.map_cons,List.map_nil,e1,hya,hr]
 show K (a.put o.dst _) _;rw[hd]at hK ⊢;exact hK _ _ _ h3
theorem yh {L:List Nat} {d:Nat} {x y:Operand} {t et q m1 m2 j p c j':Nat} {ty te:Ty} {cs xs:List AV} (hT:aU P t ty) (hE:aU P et te) (ho:o.op= .call ⟨.builtin .append,#[x,y],#[t,t]⟩) (hd:o.dst=some d) (hel:ty.elem=some (et,q)) (hk:te.size=q) (hx:s.ev x= .vs j p m1 c q et) (hj:s.bx j=some cs) (hy:iJ s y m2 q L xs) (hroom:c<m1+m2) (hp:(p+m1)*q<=cs.length) (hnew:fm s j'=true) (hw:(a8 te.zero && a8 ((cs.drop (p*q)).take (m1*q)) && a8 xs)=true) (hb:(m1+m2)*te.bytes<=140737488355328) (h63:m1+m2<=9223372036854775807):
 bE P o s ⟨.own j' (m1+m2) q et,some [(j',some ((cs.drop (p*q)).take (m1*q)++xs))]⟩:=by
 obtain⟨hu,i,z,hi,hiz,his,hib,hzl,hzm⟩:=l9 hT hE hel hk;intro n S0 w0 g a w K Q hM hdn hK;have hm:=hM.ev x;rw[hx]at hm;obtain⟨e1,e2,e3,arr,e5,e6⟩:=hm.2 cs hj;obtain⟨_,arr',e',k1,k2,k3,_,_⟩:=hM.bm j cs hj;rw[e5]at k1
 injection k1 with k1
 injection k1 with k1 _
 subst k1;obtain⟨ad,c2,news,hya,hnl,hnews,hncm⟩:=hy.news hM;rw[Nat.add_mul]at hp;have hlc:=k2.1;have hold:CM (Own S0 g s) w ((cs.drop (p*q)).take (m1*q)) ((arr.toList.drop (p*q)).take (m1*q)):=k2.sub (by omega);generalize hO:(arr.toList.drop (p*q)).take (m1*q)=olds at *;have hol:olds.length=m1*q:=by rw[<- hO];simp at hlc ⊢;omega
 have holds:∀r u,olds[r]? =some u->w.cell? ((⟨g j,p*q,none⟩:Addr).add r)=some u:=fun r u hu=>by
  rw[cH,eW e5];rw[<- hO,List.getElem?_take]at hu
  split at hu
  ·simpa using hu
  ·cases hu
 have hr:=run_append_grow (P:=P) w t o.type et i z hu hi hiz ⟨g j,p*q,none⟩ m1 c olds (by rw[hol,his]) holds ad m2 c2 news (by rw[hnl,his]) hnews hroom (by omega) (growslice_fits hroom (by rw[hib];exact hb))
 simp only[Bool.and_eq_true]at hw
 have hbd:Below w.heap.size w w.drew:=⟨rfl,rfl,rfl,Nat.le_refl _,fun _ _=>rfl⟩;have hcap:m1+m2<=grownCap w (m1+m2) c et:=grownCap_ge w _ _ _
 have hcap2:grownCap w (m1+m2) c et<=9223372036854775807:=by
  exact OA
 have hcm:=(hold.append hncm).agree (S':=Own S0 g s) (w':=w.drew) (.of_below hbd) (fun _ _ h=>h);have key:=(hM.grow' hbd).alloc (hdn d hd) (bw hnew).1 (bw hnew).2 (cs:=(cs.drop (p*q)).take (m1*q)++xs) (arr:=olds.toArray++news.toArray++Builtin.zeroCells z.cells (grownCap w (m1+m2) c et-(m1+m2))) (e:=et) (x:= .own j' (m1+m2) q et) (v:= .slice (some ⟨w.heap.size,0,none⟩) (m1+m2) (grownCap w (m1+m2) c et)) (by simpa using fS.append (us:=(Builtin.zeroCells z.cells (grownCap w (m1+m2) c et-(m1+m2))).toList) hcm) ?_ ?_ (fun h=>by rw[jF hnew]at h;cases h) ?_
 ·unfold Oper.wp execOp
  simp only[ho,resolve,invoke,builtin,Sem.run_bind,Sem.run_pure,Result.andThen_ok,List.map_toArray,List.map_cons,List.map_nil,e1,hya,hr]
  show K (a.put o.dst _) _;rw[hd]at hK ⊢;exact hK _ _ _ key
 ·intro _ v hv
  simp only[Array.toList_append,List.mem_append]at hv
  rcases hv with(hv|hv)|hv
  ·exact gI hold hw.1.2 v (by simpa using hv)
  ·exact gI hncm hw.2 v (by simpa using hv)
  ·have hz0:∀u∈z.cells.toList,gK u=true:=gI (hzm (Own S0 g s) w) hw.1.1
   refine hz0 v ?_
   simp only[Builtin.zeroCells,Array.toList_map,List.mem_map]at hv
   obtain⟨r,hr,rfl⟩:=hv
   have hpos:0<z.cells.size:=by
    rcases Nat.eq_zero_or_pos z.cells.size with h|h
    ·rw[h,Nat.mul_zero]at hr;simp at hr
    ·exact h
   have:=Nat.mod_lt r hpos
   simp[this]
 ·intro b hb
  rcases List.mem_append.1 hb with hb|hb
  ·exact iP hw.1.2 b hb
  ·exact iP hw.2 b hb
 ·intro g' s' hg hb
  refine⟨AS.kn_of hb,fun cs' hc=>⟨_,by rw[hg];rfl,hcap,hcap2,?_,_,by rw[hg];exact heap_alloc_new w.drew _,?_⟩⟩
  ·rw[hb]at hc
   cases hc;rw[(hold.append hncm).1,List.length_append,hol,hnl,Nat.add_mul];omega
  ·simp[size_zeroCells,hol,hnl,hzl]
   rw[<- Nat.add_mul,<- Nat.add_mul]
   congr 1
   omega
theorem E4 (hT:∀t d,T t=some d->aU P t d) {L:List Nat} {d:Nat} {x y:Operand} {t et q m1 m2 m3 j p c:Nat} {ty te:Ty} {cs xs cs':List AV} (hroom:m1+m2<=c) (hp:(p+m1)*q<=cs.length) (hm:m1+m2=m3) (hcs:aF cs ((p+m1)*q) xs=cs') (hw:(bQ j || a8 xs)=true) (h1:gd ops s o=some true) (ho:o.op= .call ⟨.builtin .append,#[x,y],#[t,t]⟩) (hd:o.dst=some d) (h3:aH n o.dst=true) (ht:T t=some ty) (hel:ty.elem=some (et,q)) (hte:T et=some te) (hk:te.size=q)
 (hx:s.ev x= .vs j p m1 c q et) (hj:s.bx j=some cs) (hy:iJ s y m2 q L xs) (hlb:cT j=false)
 (h4:eS draw ops (aw ops o ⟨.vs j p m3 c q et,some [(j,some cs')]⟩ (j::L)) k fps=true)
 (h:ak P T n ops id draw K (k+1) os (s.eff o.dst ⟨.vs j p m3 c q et,some [(j,some cs')]⟩) (aw ops o ⟨.vs j p m3 c q et,some [(j,some cs')]⟩ (j::L)::fps)):ak P T n ops id draw K k (o::os) s fps:=by
 subst hm hcs;refine .run h1 (.gen fun s2 ht2 hrb=>?_) h3 h4 h;have hx2:s2.ev x=s.ev x:=an ht2 (by rw[ho];simp[Op.operands,Call.operands]);have hy2:s2.ev y=s.ev y:=an ht2 (by rw[ho];simp[Op.operands,Call.operands]);exact z8 (hT _ _ ht) (hT _ _ hte) ho hd hel hk (hx2.trans hx) ((aT (hrb j (by simp))).trans hj) (hy.congr hy2 fun i hi=>hrb i (List.mem_cons_of_mem _ hi)) hlb hroom hp (fun h=>by rw[h]at hw;exact hw)
theorem IM (j':Nat) (hT:∀t d,T t=some d->aU P t d) {L:List Nat} {d:Nat} {x y:Operand} {t et q m1 m2 m3 j p c:Nat} {ty te:Ty} {cs xs cs':List AV} (hroom:c<m1+m2) (hp:(p+m1)*q<=cs.length) (hm:m1+m2=m3) (hcs:(cs.drop (p*q)).take (m1*q)++xs=cs') (hb:(m1+m2)*te.bytes<=140737488355328) (h63:m1+m2<=9223372036854775807) (hw0:a8 ((cs.drop (p*q)).take (m1*q))=true) (hw1:a8 xs=true) (h1:gd ops s o=some true) (ho:o.op= .call ⟨.builtin .append,#[x,y],#[t,t]⟩) (hd:o.dst=some d) (h3:aH n o.dst=true) (ht:T t=some ty) (hel:ty.elem=some (et,q)) (hte:T et=some te) (hk:te.size=q)
 (hx:s.ev x= .vs j p m1 c q et) (hj:s.bx j=some cs) (hy:iJ s y m2 q L xs) (hnew:fm s j'=true) (hz:a8 te.zero=true)
 (h4:eS draw ops (aw ops o ⟨.own j' m3 q et,some [(j',some cs')]⟩ (j'::j::L)) k fps=true)
 (h:ak P T n ops id draw K (k+1) os (s.eff o.dst ⟨.own j' m3 q et,some [(j',some cs')]⟩) (aw ops o ⟨.own j' m3 q et,some [(j',some cs')]⟩ (j'::j::L)::fps)):ak P T n ops id draw K k (o::os) s fps:=by
 subst hm hcs;refine .run h1 (.gen fun s2 ht2 hrb=>?_) h3 h4 h;have hx2:s2.ev x=s.ev x:=an ht2 (by rw[ho];simp[Op.operands,Call.operands]);have hy2:s2.ev y=s.ev y:=an ht2 (by rw[ho];simp[Op.operands,Call.operands]);exact yh (hT _ _ ht) (hT _ _ hte) ho hd hel hk (hx2.trans hx) ((aT (hrb j (by simp))).trans hj) (hy.congr hy2 fun i hi=>hrb i (by simp[hi])) hroom hp ((dK (hrb j' (by simp))).trans hnew) (by simp[hz,hw0,hw1]) hb h63
theorem G4 (hT:∀t d,T t=some d->aU P t d) {x y:Operand} {t et q m1 j p c:Nat} {ty:Ty} {ts cs:List AV} (h1:gd ops s o=some true) (ho:o.op= .call ⟨.builtin .append,#[x,y],#[t,t]⟩) (ht:T t=some ty) (hel:ty.elem=some (et,q)) (hx:s.ev x= .vs j p m1 c q et) (hj:s.bx j=some cs) (hy:s.ev y= .d (.leaf (.sl 0 ts))) (h3:aH n o.dst=true)
 (h4:eS draw ops (aw ops o ⟨.vs j p m1 c q et,none⟩ [j]) k fps=true) (h:ak P T n ops id draw K (k+1) os (s.eff o.dst ⟨.vs j p m1 c q et,none⟩) (aw ops o ⟨.vs j p m1 c q et,none⟩ [j]::fps)):ak P T n ops id draw K k (o::os) s fps:=by
 refine .run h1 (.gen fun s2 ht2 hrb=>?_) h3 h4 h;have hx2:=(an ht2 (x:=x) (by rw[ho];simp[Op.operands,Call.operands])).trans hx;have hy2:=(an ht2 (x:=y) (by rw[ho];simp[Op.operands,Call.operands])).trans hy;have hb2:=(aT (hrb j (by simp))).trans hj;obtain⟨u,hu,_,hel',_⟩:=(hT _ _ ht).und;obtain⟨rfl,hks⟩:=hel' et q hel;refine ai fun n S0 w0 g a w hM=>?_
 have hm:=hM.ev x;rw[hx2]at hm;obtain⟨e1,e2,e3,e4⟩:=hm.2 cs hb2;have hm0:=hm;rw[e1]at hm0;have hyv:=hM.ev y;rw[hy2]at hyv;have hyv:AV.M (Own S0 g s2) w (.sl 0 ts) (a.eval y):=hyv
 have hA:∃A c2,a.eval y= .slice A 0 c2:=by
  exact Kd
 obtain⟨A,c2,hv⟩:=hA
 have hr:(Builtin.append_ #[t,t] o.type #[.slice (some ⟨g j,p*q,none⟩) m1 c, .slice A 0 c2]).run P w= .ok (.slice (some ⟨g j,p*q,none⟩) m1 c) w:=by
  exact Sd
 refine⟨.slice (some ⟨g j,p*q,none⟩) m1 c,w,?_,Below.refl _ _,hm0⟩;unfold execOp
 simp only[ho,resolve,invoke,builtin,Sem.run_bind,Sem.run_pure,Result.andThen_ok,List.map_toArray,List.map_cons,List.map_nil,e1,hv,hr]
theorem xD {d:Nat} {x y:Operand} {t tn et q m1 m2 j p c j':Nat} {ik kn:IntKind} {ty te:Ty} {cs:List AV} (hT:aU P t ty) (hE:aU P et te) (hN:P.underlying tn=some (.int kn)) (ho:o.op= .call ⟨.builtin .append,#[x,y],#[t,tn]⟩) (hd:o.dst=some d) (hel:ty.elem=some (et,q)) (hk:te.size=q) (hq0:0<q) (hx:s.ev x= .vs j p m1 c q et) (hj:s.bx j=some cs) (hy:s.ev y= .d (.leaf (.val (.int ik (m2:Nat))))) (hm2:0<m2) (hroom:c<m1+m2) (hp:(p+m1)*q<=cs.length) (hnew:fm s j'=true) (hw:(a8 te.zero && a8 ((cs.drop (p*q)).take (m1*q)))=true) (hb:(m1+m2)*te.bytes<=140737488355328) (h63:m1+m2<=9223372036854775807):
 bE P o s ⟨.own j' (m1+m2) q et,some [(j',some ((cs.drop (p*q)).take (m1*q)++cG te.zero m2))]⟩:=by
 obtain⟨hu,i,z,hi,hiz,his,hib,hzl,hzm⟩:=l9 hT hE hel hk;intro n S0 w0 g a w K Q hM hdn hK;have hm:=hM.ev x;rw[hx]at hm;obtain⟨e1,e2,e3,arr,e5,e6⟩:=hm.2 cs hj;obtain⟨_,arr',e',k1,k2,k3,_,_⟩:=hM.bm j cs hj;rw[e5]at k1
 injection k1 with k1
 injection k1 with k1 _
 subst k1;rw[Nat.add_mul]at hp;have hlc:=k2.1;have hold:CM (Own S0 g s) w ((cs.drop (p*q)).take (m1*q)) ((arr.toList.drop (p*q)).take (m1*q)):=k2.sub (by omega);generalize hO:(arr.toList.drop (p*q)).take (m1*q)=olds at *;have hol:olds.length=m1*q:=by rw[<- hO];simp at hlc ⊢;omega
 have hbd:Below w.heap.size w w.drew:=⟨rfl,rfl,rfl,Nat.le_refl _,fun _ _=>rfl⟩
 have holds:∀r u,olds[r]? =some u->w.drew.cell? ((⟨g j,p*q,none⟩:Addr).add r)=some u:=fun r u hu=>by
  rw[cH,eW (w:=w.drew) e5];rw[<- hO,List.getElem?_take]at hu
  split at hu
  ·simpa using hu
  ·cases hu
 have hf:=run_firstCells_some (P:=P) w.drew i.size m1 ⟨g j,p*q,none⟩ m1 c olds (by rw[hol,his]) holds;have hby:m2*te.bytes<=(m1+m2)*te.bytes:=Nat.mul_le_mul_right _ (by omega);have hr:=Lib.run_append_grow_zeros (P:=P) w t tn o.type et i z ik kn hu hN hi hiz (some ⟨g j,p*q,none⟩) m1 c olds hf m2 hm2 (by omega) hroom (by omega) (by rw[hib];omega) (growslice_fits hroom (by rw[hib];exact hb))
 simp only[Bool.and_eq_true]at hw
 have hcap:m1+m2<=grownCap w (m1+m2) c et:=grownCap_ge w _ _ _
 have hcap2:grownCap w (m1+m2) c et<=9223372036854775807:=by
  exact OA
 have hzc:∀r,CM (Own S0 g s) w (cG te.zero r) (Builtin.zeroCells z.cells r).toList:=fun r=>DG (hzm _ _) hE.zlen r
 have hcm:=(hold.append (hzc m2)).agree (S':=Own S0 g s) (w':=w.drew) (.of_below hbd) (fun _ _ h=>h);have key:=(hM.grow' hbd).alloc (hdn d hd) (bw hnew).1 (bw hnew).2 (cs:=(cs.drop (p*q)).take (m1*q)++cG te.zero m2) (arr:=olds.toArray++Builtin.zeroCells z.cells m2++Builtin.zeroCells z.cells (grownCap w (m1+m2) c et-(m1+m2))) (e:=et) (x:= .own j' (m1+m2) q et) (v:= .slice (some ⟨w.heap.size,0,none⟩) (m1+m2) (grownCap w (m1+m2) c et)) (by simpa using fS.append (us:=(Builtin.zeroCells z.cells (grownCap w (m1+m2) c et-(m1+m2))).toList) hcm) ?_ ?_ (fun h=>by rw[jF hnew]at h;cases h) ?_
 ·unfold Oper.wp execOp
  simp only[ho,resolve,invoke,builtin,Sem.run_bind,Sem.run_pure,Result.andThen_ok,List.map_toArray,List.map_cons,List.map_nil,e1,bc hM hy,hr]
  show K (a.put o.dst _) _;rw[hd]at hK ⊢;exact hK _ _ _ key
 ·intro _ v hv
  have hz0:∀r,∀u∈(Builtin.zeroCells z.cells r).toList,gK u=true:=fun r=>gI (hzc r) (sj hw.1 r)
  simp only[Array.toList_append,List.mem_append]at hv
  rcases hv with(hv|hv)|hv
  ·exact gI hold hw.2 v (by simpa using hv)
  ·exact hz0 _ v hv
  ·exact hz0 _ v hv
 ·intro b hb
  rcases List.mem_append.1 hb with hb|hb
  ·exact iP hw.2 b hb
  ·exact iP (sj hw.1 m2) b hb
 ·intro g' s' hg hb
  refine⟨AS.kn_of hb,fun cs' hc=>⟨_,by rw[hg];rfl,hcap,hcap2,?_,_,by rw[hg];exact heap_alloc_new w.drew _,?_⟩⟩
  ·rw[hb]at hc
   cases hc;rw[(hold.append (hzc m2)).1,List.length_append,hol,Array.length_toList,size_zeroCells,hzl,Nat.add_mul];omega
  ·simp[size_zeroCells,hol,hzl]
   rw[<- Nat.add_mul,<- Nat.add_mul]
   congr 1
   omega
theorem Jh (j':Nat) (hT:∀t d,T t=some d->aU P t d) {d:Nat} {x y:Operand} {t tn et q m1 m2 m3 j p c:Nat} {ik kn:IntKind} {ty te:Ty} {cs cs':List AV} (hm2:0<m2) (hroom:c<m1+m2) (hp:(p+m1)*q<=cs.length) (hw:a8 ((cs.drop (p*q)).take (m1*q))=true) (hb:(m1+m2)*te.bytes<=140737488355328) (h63:m1+m2<=9223372036854775807) (hm:m1+m2=m3) (hcs:(cs.drop (p*q)).take (m1*q)++cG te.zero m2=cs') (h1:gd ops s o=some true) (ho:o.op= .call ⟨.builtin .append,#[x,y],#[t,tn]⟩) (hd:o.dst=some d) (h3:aH n o.dst=true) (ht:T t=some ty) (hel:ty.elem=some (et,q)) (hte:T et=some te) (hk:te.size=q) (hq0:Nat.blt 0 q=true) (htn:P.underlying tn=some (.int kn))
 (hx:s.ev x= .vs j p m1 c q et) (hj:s.bx j=some cs) (hy:s.ev y= .d (.leaf (.val (.int ik (m2:Nat))))) (hnew:fm s j'=true) (hz:a8 te.zero=true)
 (h4:eS draw ops (aw ops o ⟨.own j' m3 q et,some [(j',some cs')]⟩ [j',j]) k fps=true)
 (h:ak P T n ops id draw K (k+1) os (s.eff o.dst ⟨.own j' m3 q et,some [(j',some cs')]⟩) (aw ops o ⟨.own j' m3 q et,some [(j',some cs')]⟩ [j',j]::fps)):ak P T n ops id draw K k (o::os) s fps:=by
 subst hm hcs;refine .run h1 (.gen fun s2 ht2 hrb=>?_) h3 h4 h;have hx2:s2.ev x=s.ev x:=an ht2 (by rw[ho];simp[Op.operands,Call.operands]);have hy2:s2.ev y=s.ev y:=an ht2 (by rw[ho];simp[Op.operands,Call.operands]);exact xD (hT _ _ ht) (hT _ _ hte) htn ho hd hel hk (by simpa using hq0) (hx2.trans hx) ((aT (hrb j (by simp))).trans hj) (hy2.trans hy) hm2 hroom hp ((dK (hrb j' (by simp))).trans hnew) (by simp[hz,hw]) hb h63
inductive j6 (s:AS) (x:Operand) (j p m q:Nat) (cs:List AV):Prop
 |own {e:Nat}:s.ev x= .own j m q e->p=0->s.bx j=some cs->j6 s x j p m q cs
 |vw {r:Nat}:s.ev x= .vw j r m q->p=r*q->s.bx j=some cs->j6 s x j p m q cs
 |vs {r c e:Nat}:s.ev x= .vs j r m c q e->p=r*q->s.bx j=some cs->j6 s x j p m q cs
theorem j6.congr {x:Operand} {j p m q:Nat} {cs:List AV} {s2:AS} (h:j6 s x j p m q cs) (hx:s2.ev x=s.ev x) (hb:am s2.b j=am s.b j):j6 s2 x j p m q cs:=by
 cases h with
 |own h1 h2 h3=>exact .own (hx.trans h1) h2 ((aT hb).trans h3)
 |vw h1 h2 h3=>exact .vw (hx.trans h1) h2 ((aT hb).trans h3)
 |vs h1 h2 h3=>exact .vs (hx.trans h1) h2 ((aT hb).trans h3)
theorem j6.here {x:Operand} {j p m q:Nat} {cs:List AV} (h:j6 s x j p m q cs) (hM:MG n S0 w0 g s a w):s.bx j=some cs/\ ∃c arr e,a.eval x= .slice (some ⟨g j,p,none⟩) m c/\w.heap[g j]? =some (.cells arr e (0,0))/\p+m*q<=arr.size:=by
 cases h with
 |own h1 h2 h3=>
  have hm:=hM.ev x;rw[h1]at hm;obtain⟨c,e1,e2,e3,e4,arr,e5,e6⟩:=hm.2 cs h3;subst h2;exact⟨h3,c,arr,_,e1,e5,by rw[e6,Nat.zero_add];exact Nat.mul_le_mul_right _ e2⟩
 |vw h1 h2 h3=>
  have hm:=hM.ev x;rw[h1]at hm;obtain⟨c,e1,e2,e3,e4⟩:=hm.2 cs h3;obtain⟨_,arr,e,e5,e6,_⟩:=hM.bm j cs h3;have hl:=e6.1;subst h2;refine⟨h3,c,arr,e,e1,e5,?_⟩;rw[<- Nat.add_mul]
  simp at hl
  omega
 |vs h1 h2 h3=>
  have hm:=hM.ev x;rw[h1]at hm;obtain⟨e1,e2,e3,arr,e5,e6⟩:=hm.2 cs h3;subst h2;refine⟨h3,_,arr,_,e1,e5,?_⟩;rw[e6,<- Nat.add_mul];exact Nat.mul_le_mul_right _ (by omega)
theorem AK {w:World} (dT sT ty elem:TypeId) (i:TypeInfo) (b p dLen dCap:Nat) (ad:Addr) (sLen sCap:Nat) (cur:Array Value) (t:TypeId) (cs:List Value) (hu:P.underlying dT=some (.slice elem)) (hi:P.info? elem=some i) (hg:w.heap[b]? =some (.cells cur t (0,0))) (r:Nat) (hn:Nat.min sLen dLen=r) (hl:cs.length=r*i.size)
 (hsrc:∀j v,cs[j]? =some v->w.cell? (ad.add j)=some v) (hfit:p+cs.length<=cur.size) (h1:∀v∈cs,v.oneCell'=true):
 (Builtin.copy_ #[dT,sT] ty #[.slice (some ⟨b,p,none⟩) dLen dCap, .slice (some ad) sLen sCap]).run P w= .ok (goInt r) (w.setRow b (sP cur p cs)):=by
 have hf:=run_firstCells_some (P:=P) w i.size r ad sLen sCap cs hl hsrc;have hst:=run_storeCells_at P b p t cs 0 cur w hg (by simpa using hfit) h1
 simp only[Nat.add_zero]at hst
 simp[Builtin.copy_,run_underlying hu,Builtin.lenOf,sizeOf,typeInfo,hi,hn,hf,hst,sP]
inductive nG (s:AS) (x:Operand) (mm r q:Nat):List Nat->List AV->Prop
 |of {L:List Nat} {ys xs:List AV}:iJ s x mm q L ys->r<=mm->ys.take (r*q)=xs->nG s x mm r q L xs
 |vs {j p c e:Nat} {cs xs:List AV}:s.ev x= .vs j p mm c q e->s.bx j=some cs->r<=mm->(p+r)*q<=cs.length->(cs.drop (p*q)).take (r*q)=xs->nG s x mm r q [j] xs
theorem nG.congr {x:Operand} {mm r q:Nat} {L:List Nat} {xs:List AV} {s2:AS} (h:nG s x mm r q L xs) (hx:s2.ev x=s.ev x) (hb:∀i∈L,am s2.b i=am s.b i):nG s2 x mm r q L xs:=by
 cases h with
 |of h1 h2 h3=>exact .of (h1.congr hx hb) h2 h3
 |vs h1 h2 h3 h4 h5=>exact .vs (hx.trans h1) ((aT (hb _ (by simp))).trans h2) h3 h4 h5
theorem nG.news {x:Operand} {mm r q:Nat} {L:List Nat} {xs:List AV} (h:nG s x mm r q L xs) (hM:MG n S0 w0 g s a w):∃(ad:Addr) (c2:Nat) (news:List Value),a.eval x= .slice (some ad) mm c2/\news.length=r*q/\(∀j u,news[j]? =some u->w.cell? (ad.add j)=some u)/\CM (Own S0 g s) w xs news:=by
 cases h with
 |of h1 h2 h3=>
  obtain⟨ad,c2,news,hya,hnl,hnews,hncm⟩:=h1.news hM;subst h3;refine⟨ad,c2,news.take (r*q),hya,?_,fun j u hj=>?_,hncm.take _⟩
  ·rw[List.length_take,hnl]
   exact Nat.min_eq_left (Nat.mul_le_mul_right _ h2)
  ·rw[List.getElem?_take]at hj
   split at hj
   ·exact hnews j u hj
   ·cases hj
 |vs h1 h2 h3 h4 h5=>
  rename_i j p c e cs
  have hm:=hM.ev x;rw[h1]at hm;obtain⟨e1,e2,e3,_⟩:=hm.2 cs h2;obtain⟨_,arr,e,e5,e6,_⟩:=hM.bm j cs h2;have hl2:=e6.1;subst h5;have hsz:(p+r)*q=p*q+r*q:=Nat.add_mul _ _ _;refine⟨_,c,(arr.toList.drop (p*q)).take (r*q),e1,by simp at hl2 ⊢;omega,fun i u hi=>?_,e6.sub (by omega)⟩;exact EV
theorem C5 {L:List Nat} {x y:Operand} {t t' et q m1 mm j p r:Nat} {ty:Ty} {cs xs:List AV} (hT:aU P t ty) (ho:o.op= .call ⟨.builtin .copy,#[x,y],#[t,t']⟩) (hel:ty.elem=some (et,q)) (hx:j6 s x j p m1 q cs) (hy:nG s y mm r q L xs) (hr:Nat.min mm m1=r) (hlb:cT j=false) (hp:p<=cs.length) (hw:bQ j=false->a8 xs=true):
 bE P o s ⟨.d (.leaf (.val (.int .i64 (r:Nat)))),some [(j,some (aF cs p xs))]⟩:=by
 obtain⟨u,hu,_,hel',_⟩:=hT.und;obtain⟨rfl,hks⟩:=hel' et q hel
 obtain⟨i,hi,his⟩:∃i,P.info? et=some i/\i.size=q:=by
  cases hq:P.info? et with
  |none=>rw[hq]at hks;cases hks
  |some i=>rw[hq]at hks;exact⟨i,rfl,by simpa using hks⟩
 intro n S0 w0 g a w K Q hM hdn hK;obtain⟨hj,c,arr,e,e1,e5,e6⟩:=hx.here hM;obtain⟨ad,c2,news,hya,hnl,hnews,hncm⟩:=hy.news hM;have hr1:r<=m1:=by rw[<- hr];exact Nat.min_le_right _ _
 have hfit:p+news.length<=arr.size:=by
  rw[hnl];have:=Nat.mul_le_mul_right q hr1;omega
 have hrun:=AK (P:=P) (w:=w) t t' o.type et i (g j) p m1 c ad mm c2 arr e news hu hi e5 r hr (by rw[hnl,his]) hnews hfit hncm.plain;have h2:=hM.wr hj hlb e5 hp hfit hncm hw;unfold Oper.wp execOp
 simp only[ho,resolve,invoke,builtin,Sem.run_bind,Sem.run_pure,Result.andThen_ok,List.map_toArray,List.map_cons,List.map_nil,e1,hya,hrun]
 show K (a.put o.dst _) _;cases hd:o.dst with
 |none=>rw[hd]at hK;exact hK _ _ _ h2
 |some d=>
  rw[hd]at hK;exact hK _ _ _ (h2.put (hdn d hd) (x:= .d (.leaf (.val (.int .i64 (r:Nat))))) (Below.refl _ _) (AV.M.val rfl))
theorem kr (hT:∀t d,T t=some d->aU P t d) {L:List Nat} {x y:Operand} {t t' et q m1 mm j p r:Nat} {ty:Ty} {cs xs cs':List AV} (hr:Nat.min mm m1=r) (hp:p<=cs.length) (hcs:aF cs p xs=cs') (hw:(bQ j || a8 xs)=true) (h1:gd ops s o=some true) (ho:o.op= .call ⟨.builtin .copy,#[x,y],#[t,t']⟩) (h3:aH n o.dst=true) (ht:T t=some ty) (hel:ty.elem=some (et,q)) (hx:j6 s x j p m1 q cs) (hy:nG s y mm r q L xs) (hlb:cT j=false)
 (h4:eS draw ops (aw ops o ⟨.d (.leaf (.val (.int .i64 (r:Nat)))),some [(j,some cs')]⟩ (j::L)) k fps=true)
 (h:ak P T n ops id draw K (k+1) os (s.eff o.dst ⟨.d (.leaf (.val (.int .i64 (r:Nat)))),some [(j,some cs')]⟩) (aw ops o ⟨.d (.leaf (.val (.int .i64 (r:Nat)))),some [(j,some cs')]⟩ (j::L)::fps)):ak P T n ops id draw K k (o::os) s fps:=by
 subst hcs;refine .run h1 (.gen fun s2 ht2 hrb=>?_) h3 h4 h;have hx2:s2.ev x=s.ev x:=an ht2 (by rw[ho];simp[Op.operands,Call.operands]);have hy2:s2.ev y=s.ev y:=an ht2 (by rw[ho];simp[Op.operands,Call.operands]);exact C5 (hT _ _ ht) ho hel (hx.congr hx2 (hrb j (by simp))) (hy.congr hy2 fun i hi=>hrb i (by simp[hi])) hr hlb hp (fun h=>by rw[h]at hw;exact hw)
theorem zo {x:Operand} {t et q m j p:Nat} {ty te:Ty} {cs:List AV} (hT:aU P t ty) (hE:aU P et te) (ho:o.op= .call ⟨.builtin .clear,#[x],#[t]⟩) (hel:ty.elem=some (et,q)) (hk:te.size=q) (hm0:0<m) (hx:j6 s x j p m q cs) (hlb:cT j=false) (hp:p<=cs.length) (hw:bQ j=false->a8 te.zero=true):
 bE P o s ⟨.tup [],some [(j,some (aF cs p (cG te.zero m)))]⟩:=by
 obtain⟨hu,i,z,hi,hiz,his,hib,hzl,hzm⟩:=l9 hT hE hel hk;intro n S0 w0 g a w K Q hM hdn hK;obtain⟨hj,c,arr,e,e1,e5,e6⟩:=hx.here hM;have hzc:CM (Own S0 g s) w (cG te.zero m) (Builtin.zeroCells z.cells m).toList:=DG (hzm _ _) hE.zlen m;have hzs:(Builtin.zeroCells z.cells m).toList.length=m*q:=by rw[Array.length_toList,size_zeroCells,hzl]
 have hst:=run_storeCells_at P (g j) p e (Builtin.zeroCells z.cells m).toList 0 arr w e5 (by simp only[Nat.add_zero];rw[hzs];exact e6) hzc.plain
 simp only[Nat.add_zero]at hst
 have hz:∀w,(zeroValue et).run P w= .ok z w:=fun w=>by simp[zeroValue,typeInfo,hi,hiz]
 have hr:(Builtin.clear_ #[t] o.type #[.slice (some ⟨g j,p,none⟩) m c]).run P w= .ok (.tuple #[]) (w.setRow (g j) (sP arr p (Builtin.zeroCells z.cells m).toList)):=by
  obtain⟨m',rfl⟩:∃m',m=m'+1:=⟨m-1,by omega⟩
  simp[Builtin.clear_,run_underlying hu,hz,hst,sP]
 have h2:=hM.wr hj hlb e5 hp (by rw[hzs];exact e6) hzc (fun h=>sj (hw h) m);unfold Oper.wp execOp
 simp only[ho,resolve,invoke,builtin,Sem.run_bind,Sem.run_pure,Result.andThen_ok,List.map_toArray,List.map_cons,List.map_nil,e1,hr]
 show K (a.put o.dst _) _;cases hd:o.dst with
 |none=>rw[hd]at hK;exact hK _ _ _ h2
 |some d=>
  rw[hd]at hK;exact hK _ _ _ (h2.put (hdn d hd) (x:= .tup []) (v:= .tuple #[]) (Below.refl _ _) ⟨[],rfl,rfl,fun i x u h=>by simp at h⟩)
theorem DR (hT:∀t d,T t=some d->aU P t d) {x:Operand} {t et q m j p:Nat} {ty te:Ty} {cs cs':List AV} (hm0:0<m) (hp:p<=cs.length) (hcs:aF cs p (cG te.zero m)=cs') (h0:draw=false) (h1:gd ops s o=some true) (ho:o.op= .call ⟨.builtin .clear,#[x],#[t]⟩) (h3:aH n o.dst=true) (ht:T t=some ty) (hel:ty.elem=some (et,q)) (hte:T et=some te) (hk:te.size=q) (hx:j6 s x j p m q cs) (hlb:cT j=false) (hw:(bQ j || a8 te.zero)=true)
 (h:ak P T n ops id draw K (k+1) os (s.eff o.dst ⟨.tup [],some [(j,some cs')]⟩) (aw ops o ⟨.junk,none⟩ []::fps)):ak P T n ops id draw K k (o::os) s fps:=by
 subst hcs;exact .snd h0 h1 ((zo (hT _ _ ht) (hT _ _ hte) ho hel hk hm0 hx hlb hp (fun h=>by rw[h]at hw;exact hw)).to h3) h
theorem Rz (hT:∀t d,T t=some d->aU P t d) {t:TypeId} {ty:Ty} {x y z u:Operand} {j p et q m c i i2 i3:Nat} {ik ik2 ik3:IntKind} {cs:List AV} (hi:i<=i2) (hi2:i2<=i3) (hi3:i3<=c) (h1:gd ops s o=some true) (h2:o.op= .slice t x (some y) (some z) (some u)) (h5:T t=some ty) (h6:ty.elem=some (et,q)) (h7:s.ev x= .vs j p m c q et) (hb:s.bx j=some cs) (h8:s.ev y= .d (.leaf (.val (.int ik (i:Nat))))) (h9:s.ev z= .d (.leaf (.val (.int ik2 (i2:Nat))))) (h10:s.ev u= .d (.leaf (.val (.int ik3 (i3:Nat)))))
 (h3:aH n o.dst=true) (h4:eS draw ops (aw ops o ⟨.junk,none⟩ [j]) k fps=true) (h:ak P T n ops id draw K (k+1) os (s.eff o.dst ⟨.junk,none⟩) (aw ops o ⟨.junk,none⟩ [j]::fps)):ak P T n ops id draw K k (o::os) s fps:=by
 refine .run h1 (.gen fun s2 ht hrb=>?_) h3 h4 h;have hx:=(an ht (x:=x) (by simp[h2,Op.operands])).trans h7;have hy:=(an ht (x:=y) (by simp[h2,Op.operands])).trans h8;have hz:=(an ht (x:=z) (by simp[h2,Op.operands])).trans h9;have hu2:=(an ht (x:=u) (by simp[h2,Op.operands])).trans h10;have hbj:=(aT (hrb j (by simp))).trans hb;obtain⟨ud,hu,_,hel,_⟩:=(hT _ _ h5).und;obtain⟨rfl,hks⟩:=hel et q h6;refine ai fun n S0 w0 g a w hM=>?_
 have hm:=hM.ev x;rw[hx]at hm;obtain⟨e1,e2,e3,arr,e5,e6⟩:=hm.2 cs hbj;have b1:(0:Int)<=(i3:Int)/\(i3:Int)<=(c:Nat):=⟨by omega,by omega⟩;have b2:(0:Int)<=(i2:Int)/\(i2:Int)<=(i3:Nat):=⟨by omega,by omega⟩;have b3:(0:Int)<=(i:Int)/\(i:Int)<=(i2:Nat):=⟨by omega,by omega⟩;refine⟨.slice (if i3=i then some ⟨g j,p*q,none⟩else(some ⟨g j,p*q,none⟩:Option Addr).map (·.add (i*q))) (i2-i) (i3-i),w,?_,Below.refl _ _,trivial⟩;unfold execOp;rw[h2]
 simp only[e1,bc hM hy,bc hM hz,bc hM hu2,Option.map_some,Sem.run_bind]
 unfold Instr.sliceAt
 simp only[Sem.run_bind,run_underlying hu w,Result.andThen_ok]
 unfold Instr.slice
 simp only[Sem.run_bind,run_underlying hu w,Result.andThen_ok,Instr.sliceBounds,Instr.sliceBound,Sem.run_pure,asIntOf]
 rw[if_pos b1]
 simp only[Sem.run_pure,Result.andThen_ok,Sem.run_bind,Int.toNat_natCast]
 rw[if_pos b2]
 simp only[Sem.run_pure,Result.andThen_ok,Sem.run_bind,Int.toNat_natCast]
 rw[if_pos b3]
 simp only[Sem.run_pure,Result.andThen_ok,Int.toNat_natCast]
 rw[bI hks w];rfl
theorem rN (hT:∀t d,T t=some d->aU P t d) {f:Operand} {fid:FuncId} {fn:Func} {x y:Operand} {ts:Array TypeId} {tS tR et q j1 m1 q1 e1 j2 p2 m2 c2 e2:Nat} {ty:Ty} {cs1 cs2:List AV} (hne:j1≠j2) (hm2:0<m2) (h1:gd ops s o=some true) (ho:o.op= .call ⟨.value f,#[x,y],ts⟩) (hev:s.ev f= .d (.leaf (.val (.func (.func fid) #[] #[])))) (hfn:P.funcs[fid]? =some fn) (hname:(fn.name == "runtime.NumGoroutine")=false) (hbd:fn.body.isNone=true) (hnx:Extern.findNext fn=none) (hfd:Extern.find fn=some (Extern.SlicesOverlaps.overlaps #[tS,tS] #[tR]))
 (h5:T tS=some ty) (h6:ty.elem=some (et,q)) (hq:Nat.blt 0 q=true) (hx:s.ev x= .own j1 m1 q1 e1) (hj1:s.bx j1=some cs1) (hy:s.ev y= .vs j2 p2 m2 c2 q e2) (hj2:s.bx j2=some cs2) (h3:aH n o.dst=true)
 (h4:eS draw ops (aw ops o ⟨.d (.leaf (.val (.bool false))),none⟩ [j1,j2]) k fps=true) (h:ak P T n ops id draw K (k+1) os (s.eff o.dst ⟨.d (.leaf (.val (.bool false))),none⟩) (aw ops o ⟨.d (.leaf (.val (.bool false))),none⟩ [j1,j2]::fps)):ak P T n ops id draw K k (o::os) s fps:=by
 refine .run h1 (.gen fun s2 ht hrb=>?_) h3 h4 h;have hf2:=(an ht (x:=f) (by simp[ho,Op.operands,Call.operands])).trans hev;have hx2:=(an ht (x:=x) (by simp[ho,Op.operands,Call.operands])).trans hx;have hy2:=(an ht (x:=y) (by simp[ho,Op.operands,Call.operands])).trans hy;have hb1:=(aT (hrb j1 (by simp))).trans hj1;have hb2:=(aT (hrb j2 (by simp))).trans hj2;obtain⟨ud,hu,_,hel,_⟩:=(hT _ _ h5).und;obtain⟨rfl,hks⟩:=hel et q h6;refine ai fun n S0 w0 g a w hM=>⟨.bool false,w,?_,Below.refl _ _,AV.M.val rfl⟩
 have hmx:=hM.ev x;rw[hx2]at hmx;obtain⟨c1,a1,_,_,_,arr1,a5,_⟩:=hmx.2 cs1 hb1;have hmy:=hM.ev y;rw[hy2]at hmy;obtain⟨d1,d2,_,arr2,d5,d6⟩:=hmy.2 cs2 hb2;have hbl:g j1≠g j2:=fun e=>hne (hM.inj j1 j2 _ _ hb1 hb2 e)
 have hq0:0<q:=by simpa using hq
 have hpos:arr2.size≠0:=by
  rw[d6];exact Nat.mul_ne_zero (by omega) (by omega)
 have hr:=Lib.run_overlaps_apart (P:=P) w tS tR et hu q (fun w=>bI hks w) ⟨g j1,0,none⟩ ⟨g j2,p2*q,none⟩ m1 c1 m2 c2 hbl e1 e2 arr1.size arr2.size (by simp[World.shape?,a5]) (by simp[World.shape?,d5]) hpos (by simp[World.frozen?,a5]) (by simp[World.frozen?,a5]);have hc:=run_callFunc_extern (P:=P) hfn hname hbd hnx hfd #[a.eval x,a.eval y] w;rw[a1,d1,hr]at hc;unfold execOp;rw[ho]
 simp only[resolve,bc hM hf2,Deferred.ofValue,Sem.run_bind,Sem.run_pure,Result.andThen_ok,invoke]
 simpa[a1,d1]using hc
theorem DP (hM:MG n S0 w0 g s a w):∀(l:List Operand),pS (Own S0 g s) g s w (l.map s.ev) (l.map a.eval)
 | []=>trivial
 |x::l=>⟨hM.ev x,DP hM l⟩
theorem yH {f:Operand} {fid:FuncId} {args:Array Operand} {tys:Array TypeId} {ts:List TV} {b:BL} {r:RT} {b':BL} (hc:bA P fid ts b r b') (ho:o.op= .call ⟨.value f,args,tys⟩) (hfe:s.ev f= .d (.leaf (.val (.func (.func fid) #[] #[])))) (hts:args.toList.map s.ev=ts)
 (hk:(Fj (aA b) (ts.flatMap eE) && uG (aA b) (aA b))=true) (hb:ux s (aA b)) (hcn:∀j cs,s.bx j=some cs->j ∉ b.map (·.1)->bQ j=false) (hnew:oL s b b'=true):
 bE P o s ⟨r.tv,some (aA b'++ee b' b)⟩:=by
 intro n S0 w0 g a w K Q hM hdn hK;rw[Bool.and_eq_true]at hk;obtain⟨hk,hwfc⟩:=hk;obtain⟨S,hpre,hO,hpost⟩:=hM.callT (b:=b) (b':=b') hb hwfc hcn (fun j cs hj hn=>yk hnew (cV.1 hj) hn);have inb:∀j cs,(sB b).bx j=some cs->s.bx j=some cs:=fun j cs hj=>hb.at (cV.1 hj)
 have hvs:=DP hM args.toList;rw[hts]at hvs
 have hrun:(execOp a.eval o).run P w= .ok (.enter fid (args.toList.map a.eval).toArray) w:=by
  unfold execOp;rw[ho]
  simp only[resolve,bc hM hfe,Deferred.ofValue,Sem.run_bind,Sem.run_pure,Result.andThen_ok,invoke]
  exact NT
 have hcall:=hc.calls S g w _ hpre (by rw[hO];exact xy inb (Iz hk) hvs);unfold Oper.wp;rw[hrun];show Calls P fid _ w _;refine hcall.mono ?_;rintro en w1 ⟨v,g',rfl,h2,h3,h4,h5,h6⟩;show K (a.put o.dst v) w1;obtain⟨g2,hm⟩:=hpost r v g' w1 h2 h3 h4 h5 h6 o.dst hdn;refine hK g2 _ _ ?_;cases ho2:o.dst<;>(rw[ho2]at hm;exact hm)
theorem rH {f:Operand} {fid:FuncId} {args:Array Operand} {tys:Array TypeId} {ts:List TV} {b:BL} {r:RT} {b':BL} (hc:bA P fid ts b r b') (h1:gd ops s o=some true) (ho:o.op= .call ⟨.value f,args,tys⟩) (hfe:s.ev f= .d (.leaf (.val (.func (.func fid) #[] #[])))) (hts:args.toList.map s.ev=ts)
 (hk:(Fj (aA b) (ts.flatMap eE) && uG (aA b) (aA b))=true) (hb:ux s (aA b)) (hcn:dV [] s.b=true) (hnew:oL s b b'=true) (h3:aH n o.dst=true) (h4:eS draw ops (aw ops o ⟨r.tv,some (aA b'++ee b' b)⟩ (b.map (·.1)++b'.map (·.1))) k fps=true)
 (h:ak P T n ops id draw K (k+1) os (s.eff o.dst ⟨r.tv,some (aA b'++ee b' b)⟩) (aw ops o ⟨r.tv,some (aA b'++ee b' b)⟩ (b.map (·.1)++b'.map (·.1))::fps)):ak P T n ops id draw K k (o::os) s fps:=by
 refine .run h1 (.genC (jj hcn) fun s2 hc2 ht hrb=>?_) h3 h4 h;have hf:s2.ev f=s.ev f:=an ht (by rw[ho];simp[Op.operands,Call.operands])
 have ha:args.toList.map s2.ev=ts:=by
  rw[<- hts];exact List.map_congr_left fun x hx=>an ht (by rw[ho];simp[Op.operands,Call.operands];exact .inr (by simpa using hx))
 exact yH hc ho (hf.trans hfe) ha hk (l8 (fun j hj=>hrb j (List.mem_append_left _ hj)) hb) (fun j cs hj _=>hc2 j cs hj) ((jJ fun j hj=>hrb j (List.mem_append_right _ hj)).trans hnew)
end
theorem bK {j i:Nat} {cs ci:List AV}:(sB [(j,cs)]).bx i=some ci↔i=j/\ci=cs:=by
 rw[cV]
 by_cases e:j=i
 ·subst e
  rw[aA,ah]
  constructor
  ·intro h;cases h;exact⟨rfl,rfl⟩
  ·rintro⟨_,rfl⟩;rfl
 ·rw[aA,av _ _ e]
  constructor
  ·intro h;cases h
  ·rintro⟨h,_⟩;exact absurd h.symm e
theorem rI {S:Nat->Prop} {g:Nat->Nat} {j:Nat} {cs:List AV}:Own S g (sB [(j,cs)])=fun q=>S q∨g j=q:=by
 funext q
 unfold Own;refine propext ⟨?_,?_⟩
 ·rintro(h| ⟨i,ci,h,e⟩)
  ·exact .inl h
  ·obtain⟨rfl,_⟩:=bK.1 h;exact .inr e
 ·rintro(h|e)
  ·exact .inl h
  ·exact .inr ⟨j,cs,bK.2 ⟨rfl,rfl⟩,e⟩
theorem pL {g:Nat->Nat} {j:Nat} {cs:List AV}:BX g [(j,cs)]=fun q=>g j=q:=by
 funext q
 unfold BX;refine propext ⟨?_,?_⟩
 ·rintro⟨i,ci,h,e⟩
  obtain⟨rfl,_⟩:=bK.1 h;exact e
 ·intro e;exact⟨j,cs,bK.2 ⟨rfl,rfl⟩,e⟩
def sw (a b j:Nat):Nat:=if j=a then b else if j=b then a else j
theorem kK (a b j:Nat):sw a b (sw a b j)=j:=by
 unfold sw
 split <;>split <;>(try split)<;>omega
theorem CN {a b i j:Nat} (h:sw a b i=sw a b j):i=j:=by
 have:=congrArg (sw a b) h
 rwa[kK,kK]at this
def Q6 (a b:Nat):AV->AV
 | .ow j n k e=> .ow (sw a b j) n k e
 | .bp j o=> .bp (sw a b j) o
 |x=>x
def FC (a b j:Nat) (cs:List AV):List AV:=match cT j with
 |true=>cs.map (Q6 a b)
 |false=>cs
def r8 (a b:Nat):BL->BL
 | []=>[]
 |(j,cs)::r=>(sw a b j,FC a b j cs)::r8 a b r
def TD (a b:Nat):CV->CV
 | .val v=> .val v
 | .box j o=> .box (sw a b j) o
def Rs (a b:Nat):TV->TV
 | .box j o=> .box (sw a b j) o
 | .own j n k e=> .own (sw a b j) n k e
 | .vw j o n k=> .vw (sw a b j) o n k
 | .vs j o n c k e=> .vs (sw a b j) o n c k e
 | .clo fn fs cs=> .clo fn (fs.map (TD a b)) (cs.map (TD a b))
 |x=>x
def Tx (a b:Nat):RT->RT
 | .own j n k e=> .own (sw a b j) n k e
 | .v r=> .v r
theorem nB (a b j:Nat) (cs:List AV):(FC a b j cs).length=cs.length:=by
 unfold FC;split <;>simp
theorem QT (a b:Nat) (r:RT):(Tx a b r).tv=Rs a b r.tv:=by
 cases r with
 |own=>rfl
 |v r=>cases r<;>rfl
theorem rA {a b:Nat}:∀(l:BL) (j:Nat),am (aA (r8 a b l)) (sw a b j)=(am (aA l) j).map fun o=>o.map (FC a b j)
 | [],_=>rfl
 |(i,cs)::r,j=>by
  by_cases e:i=j
  ·subst e
   rw[r8,aA,aA,ah,ah];rfl
  ·rw[r8,aA,aA,av _ _ e,av _ _ (fun h=>e (CN h))]
   exact rA r j
theorem He {a b:Nat} (l:BL) (j:Nat):am (aA (r8 a b l)) j=(am (aA l) (sw a b j)).map fun o=>o.map (FC a b (sw a b j)):=by
 have:=rA (a:=a) (b:=b) l (sw a b j)
 rwa[kK]at this
theorem qd {a b:Nat} {l:BL} {j:Nat} {cs:List AV} (h:(sB l).bx j=some cs):(sB (r8 a b l)).bx (sw a b j)=some (FC a b j cs):=by
 rw[cV]at h ⊢;rw[rA,h];rfl
theorem iZ {a b:Nat} {l:BL} {j:Nat} {cs:List AV} (h:(sB (r8 a b l)).bx j=some cs):∃c0,(sB l).bx (sw a b j)=some c0/\cs=FC a b (sw a b j) c0:=by
 rw[cV,He]at h;cases hl:am (aA l) (sw a b j)with
 |none=>rw[hl]at h;cases h
 |some o=>
  rw[hl]at h;cases o with
  |none=>cases h
  |some c0=>
   simp only[Option.map_some,Option.some.injEq]at h
   exact⟨c0,cV.2 hl,h.symm⟩
theorem vg {a b:Nat} {l:BL} {j:Nat}:(sB (r8 a b l)).kn (sw a b j)↔(sB l).kn j:=by
 unfold AS.kn sB;dsimp only;rw[rA]
 constructor
 ·rintro⟨x,h⟩
  cases hl:am (aA l) j with
  |none=>rw[hl]at h;cases h
  |some o=>exact⟨o,rfl⟩
 ·rintro⟨x,h⟩
  rw[h];exact⟨_,rfl⟩
theorem tZ {a b:Nat} {S:Nat->Prop} {g:Nat->Nat} {l:BL}:Own S g (sB (r8 a b l))=Own S (fun j=>g (sw a b j)) (sB l):=by
 funext q
 refine propext ⟨?_,?_⟩
 ·rintro(h| ⟨j,cs,h,e⟩)
  ·exact .inl h
  ·obtain⟨c0,h0,_⟩:=iZ h
   exact .inr ⟨sw a b j,c0,h0,by dsimp only;rw[kK];exact e⟩
 ·rintro(h| ⟨j,cs,h,e⟩)
  ·exact .inl h
  ·exact .inr ⟨sw a b j,_,qd h,e⟩
theorem DA {a b:Nat} {g:Nat->Nat} {l:BL}:BX g (r8 a b l)=BX (fun j=>g (sw a b j)) l:=by
 funext q
 refine propext ⟨?_,?_⟩
 ·rintro⟨j,cs,h,e⟩
  obtain⟨c0,h0,_⟩:=iZ h;exact⟨sw a b j,c0,h0,by dsimp only;rw[kK];exact e⟩
 ·rintro⟨j,cs,h,e⟩
  exact⟨sw a b j,_,qd h,e⟩
section
variable {a b:Nat} {S:Nat->Prop} {g:Nat->Nat} {l:BL} {w:World}
theorem M5 {x:CV} {v:Value}:CV.M g (sB (r8 a b l)) (TD a b x) v↔CV.M (fun j=>g (sw a b j)) (sB l) x v:=by
 cases x with
 |val u=>exact Iff.rfl
 |box j o=>
  constructor
  ·rintro⟨h1,h2⟩
   exact⟨vg.1 h1,fun cs hc=>h2 _ (qd hc)⟩
  ·rintro⟨h1,h2⟩
   refine⟨vg.2 h1,fun cs hc=>?_⟩;obtain⟨c0,h0,_⟩:=iZ hc;rw[kK]at h0;exact h2 c0 h0
theorem tO:∀{xs:List CV} {vs:List Value},rm g (sB (r8 a b l)) (xs.map (TD a b)) vs↔rm (fun j=>g (sw a b j)) (sB l) xs vs
 | [],[]=>Iff.rfl
 |x::xs,v::vs=>and_congr M5 tO
 | [],_::_=>Iff.rfl
 |_::_,[]=>Iff.rfl
theorem DL {x:TV} {v:Value}:TV.M S g (sB (r8 a b l)) w (Rs a b x) v↔TV.M S (fun j=>g (sw a b j)) (sB l) w x v:=by
 cases x with
 |d x=>exact Iff.rfl
 |tup ts=>exact Iff.rfl
 |box j o=>exact M5 (x:= .box j o)
 |rp cs=>exact Iff.rfl
 |own j n k e=>
  exact OO
 |clo fn fs cs=>
  constructor
  ·rintro⟨us,vs,e,h1,h2⟩;exact⟨us,vs,e,tO.1 h1,tO.1 h2⟩
  ·rintro⟨us,vs,e,h1,h2⟩;exact⟨us,vs,e,tO.2 h1,tO.2 h2⟩
 |mp es=>exact Iff.rfl
 |nil=>exact Iff.rfl
 |und=>exact Iff.rfl
 |junk=>exact Iff.rfl
 |dfr f cs=>exact Iff.rfl
 |vw j o n k=>
  exact OO
 |vs j o n c k e=>
  constructor
  ·rintro⟨h1,h2⟩
   exact⟨vg.1 h1,fun cs hc=>h2 _ (qd hc)⟩
  ·rintro⟨h1,h2⟩
   refine⟨vg.2 h1,fun cs hc=>?_⟩;obtain⟨c0,h0,rfl⟩:=iZ hc;rw[kK]at h0;exact h2 c0 h0
theorem Jb:∀{xs:List TV} {vs:List Value},pS S g (sB (r8 a b l)) w (xs.map (Rs a b)) vs↔pS S (fun j=>g (sw a b j)) (sB l) w xs vs
 | [],[]=>Iff.rfl
 |x::xs,v::vs=>and_congr DL Jb
 | [],_::_=>Iff.rfl
 |_::_,[]=>Iff.rfl
theorem NM {x:AV} {v:Value}:yB S g (sB (r8 a b l)) w (Q6 a b x) v↔yB S (fun j=>g (sw a b j)) (sB l) w x v:=by
 cases x with
 |ow j n k e=>exact DL (S:=S) (w:=w) (x:= .own j n k e)
 |bp j o=>exact DL (S:=S) (w:=w) (x:= .box j o)
 |val=>exact Iff.rfl
 |sl=>exact Iff.rfl
 |nl=>exact Iff.rfl
theorem M6 {x:AV} {v:Value}:AV.M S w (Q6 a b x) v↔AV.M S w x v:=by
 cases x with
 |ow j n k e=>constructor <;>(intro h;cases h;exact .ow (by assumption))
 |bp j o=>constructor <;>(intro h;cases h;exact .bp (by assumption))
 |val=>exact Iff.rfl
 |sl=>exact Iff.rfl
 |nl=>exact Iff.rfl
theorem Fa {j i:Nat} {cs:List AV} {x:AV} (h:(FC a b j cs)[i]? =some x):∃y,cs[i]? =some y/\ ∀(v:Value),(AV.M S w x v↔AV.M S w y v)/\(cT j=true->x=Q6 a b y):=by
 unfold FC at h
 split at h
 ·rw[List.getElem?_map]at h
  cases hc:cs[i]? with
  |none=>rw[hc]at h;cases h
  |some y=>
   rw[hc]at h;cases h;exact⟨y,rfl,fun v=>⟨M6,fun _=>rfl⟩⟩
 ·rename_i hl
  exact⟨x,h,fun v=>⟨Iff.rfl,fun h=>by rw[hl]at h;cases h⟩⟩
theorem Ax {j i:Nat} {cs:List AV} {y:AV} (h:cs[i]? =some y):∃x,(FC a b j cs)[i]? =some x/\ ∀(v:Value),(AV.M S w x v↔AV.M S w y v)/\(cT j=true->x=Q6 a b y):=by
 unfold FC
 split
 ·exact⟨Q6 a b y,by rw[List.getElem?_map,h];rfl,fun v=>⟨M6,fun _=>rfl⟩⟩
 ·rename_i hl
  exact⟨y,h,fun v=>⟨Iff.rfl,fun h=>by rw[hl]at h;cases h⟩⟩
theorem ND {j:Nat} {cs:List AV} {vs:List Value}:fS S w (FC a b j cs) vs↔fS S w cs vs:=by
 unfold fS;rw[nB]
 constructor
 ·rintro⟨h1,h2⟩
  refine⟨h1,fun i y v hy hv=>?_⟩;obtain⟨x,hx,h⟩:=Ax (a:=a) (b:=b) (S:=S) (w:=w) (j:=j) hy;exact(h v).1.1 (h2 i x v hx hv)
 ·rintro⟨h1,h2⟩
  refine⟨h1,fun i x v hx hv=>?_⟩;obtain⟨y,hy,h⟩:=Fa (S:=S) (w:=w) hx;exact(h v).1.2 (h2 i y v hy hv)
theorem E7 {j B:Nat} {cs:List AV} (hw:bQ (sw a b j)=bQ j) (hl:cT (sw a b j)=cT j) (ht:jg (sw a b j)=jg j):ni S g (sB (r8 a b l)) w (sw a b j) (FC a b j cs) B↔ni S (fun j=>g (sw a b j)) (sB l) w j cs B:=by
 constructor
 ·rintro⟨arr,e,h1,h2,h3,h4,h5⟩
  refine⟨arr,e,h1,ND.1 h2,by rw[<- hw];exact h3,fun hj i y v hy hv=>?_,by rw[<- ht];exact h5⟩;obtain⟨x,hx,h⟩:=Ax (a:=a) (b:=b) (S:=S) (w:=w) (j:=j) hy;have h6:=h4 (by rw[hl];exact hj) i x v hx hv;rw[(h v).2 hj]at h6;exact NM.1 h6
 ·rintro⟨arr,e,h1,h2,h3,h4,h5⟩
  refine⟨arr,e,h1,ND.2 h2,by rw[hw];exact h3,fun hj i x v hx hv=>?_,by rw[ht];exact h5⟩;obtain⟨y,hy,h⟩:=Fa (S:=S) (w:=w) hx;rw[(h v).2 (by rw[<- hl];exact hj)];exact NM.2 (h4 (by rw[<- hl];exact hj) i y v hy hv)
end
def wg (a b:Nat):Bool:=(bQ a == bQ b) && ((cT a == cT b) && (jg a == jg b))
theorem ES {a b:Nat} (h:wg a b=true) (j:Nat):bQ (sw a b j)=bQ j/\cT (sw a b j)=cT j/\jg (sw a b j)=jg j:=by
 simp only[wg,Bool.and_eq_true,beq_iff_eq]at h
 unfold sw
 split
 ·rename_i e;subst e;exact⟨h.1.symm,h.2.1.symm,h.2.2.symm⟩
 ·split
  ·rename_i e;subst e;exact⟨h.1,h.2.1,h.2.2⟩
  ·exact⟨rfl,rfl,rfl⟩
section
variable {P:Program} {f:FuncId} {ts:List TV} {l l':BL} {r:RT} {a b:Nat}
theorem P1 (hab:wg a b=true) {S:Nat->Prop} {g:Nat->Nat} {w:World} (h:GJ S g w (r8 a b l)):GJ S (fun j=>g (sw a b j)) w l:=by
 refine⟨?_,?_,?_,?_,?_⟩
 ·rw[<- DA];exact h.tab
 ·rw[<- DA];exact h.blk
 ·intro k cs hk
  have:=h.gl k cs hk;rw[tZ]at this;exact this
 ·intro j cs hj
  have h1:=h.bm _ _ (qd (a:=a) (b:=b) hj);obtain⟨k1,k2,k3⟩:=ES hab j;rw[tZ]at h1;exact(E7 k1 k2 k3).1 h1
 ·intro i j ci cj hi hj e
  exact CN (h.inj _ _ _ _ (qd (a:=a) (b:=b) hi) (qd (a:=a) (b:=b) hj) e)
theorem QB (hab:wg a b=true) {S:Nat->Prop} {g:Nat->Nat} {w w':World} {e:Ending} (h:CB S (fun j=>g (sw a b j)) l r l' w e w'):CB S g (r8 a b l) (Tx a b r) (r8 a b l') w e w':=by
 obtain⟨v,g',he,h1,h2,h3,h4,h5⟩:=h;have hg:(fun j=>(fun i=>g' (sw a b i)) (sw a b j))=g':=by funext j;dsimp only;rw[kK]
 refine⟨v,fun i=>g' (sw a b i),he,?_,?_,?_,?_,?_⟩
 ·intro j cs cs' hj hj'
  obtain⟨c0,k1,rfl⟩:=iZ hj;obtain⟨c1,k2,rfl⟩:=iZ hj';obtain⟨k3,k4⟩:=h1 _ _ _ k1 k2;dsimp only at k3 ⊢;rw[kK]at k3;rw[nB,nB];exact⟨k3,k4⟩
 ·intro j cs' hj
  obtain⟨c0,k1,rfl⟩:=iZ hj;obtain⟨k2,k3⟩:=h2 _ _ k1;rw[DA];refine⟨k2,?_⟩;obtain⟨q1,q2,q3⟩:=ES hab (sw a b j);have:=(E7 (a:=a) (b:=b) (S:=Own S g' (sB l')) (g:=fun i=>g' (sw a b i)) (l:=l') (w:=w') (cs:=c0) (B:=g' (sw a b j)) q1 q2 q3).2 (by rw[hg];exact k3);rw[tZ,hg];rw[kK]at this;exact this
 ·intro i j ci cj hi hj e
  obtain⟨c0,k1,_⟩:=iZ hi;obtain⟨c1,k2,_⟩:=iZ hj;exact CN (h3 _ _ _ _ k1 k2 e)
 ·rw[QT,tZ,hg,DL,hg]
  exact h4
 ·rw[DA];exact h5
theorem bA.swap (a b:Nat) (hab:wg a b=true) (h:bA P f ts l r l'):bA P f (ts.map (Rs a b)) (r8 a b l) (Tx a b r) (r8 a b l'):=by
 refine⟨h.enter,fun S g w vs hpre hv=>?_⟩;rw[tZ,Jb]at hv;exact(h.calls S _ w vs (P1 hab hpre) hv).mono fun e w' hr=>QB hab hr
end
end Go.Proofs.YtmkggcjajcdlcaaGreatDoor
