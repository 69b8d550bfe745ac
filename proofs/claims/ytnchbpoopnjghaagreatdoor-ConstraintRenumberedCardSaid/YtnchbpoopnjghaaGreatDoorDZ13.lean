/- Parts of a proof: contracts of the functions that the laws reach. -/
import Derived.Test.YtnchbpoopnjghaaGreatDoorDZ12
set_option maxHeartbeats 100000000
set_option linter.all false
open Go.Proofs.Tryz
namespace Go.Proofs.YtnchbpoopnjghaaGreatDoor
open Go.RowKit
section
variable {P:Program} {T:TypeId->Option Ty} {n:Nat} {ops:Array Oper} {id:Nat} {draw:Bool} {K:AS->Prop} {S0:Nat->Prop} {w0:ee} {s s':AS} {k:Nat} {o:Oper} {os:List Oper} {fps:List FP} {g:Nat->Nat} {a:Act} {w:World}
theorem wY (q:Nat) {j m r e:Nat} {cs:List AV} (hq:s.tv q= .own j m r e) (hj:s.bx j=some cs):xC s (fun s1=>∃c,m<=c/\c<=9223372036854775807/\s1=⟨(q, .vs j 0 m c r e)::s.t,s.b⟩):=by
 rintro n S0 w0 a w ⟨g,h⟩;have hm:=h.tm q;rw[hq]at hm;obtain⟨c,e1,e2,e3,e4,arr,e5,e6⟩:=hm.2 cs hj;exact⟨_,⟨c,e2,e3,rfl⟩,g,h.reslot (x:= .vs j 0 m c r e) ⟨hm.1,fun cs' hc=>⟨by rw[e1,Nat.zero_mul],e2,e3,arr,e5,by rw[Nat.zero_add];exact e6⟩⟩ rfl (by show oe (s.tv q)=true;rw[hq];rfl)⟩
theorem CE {Q:AX->AS->Prop} (q:Nat) {j m r e:Nat} {cs:List AV} (hq:s.tv q= .own j m r e) (hj:s.bx j=some cs) (h:∀c,m<=c->c<=9223372036854775807->fq P T n (.region id ops draw) Q ⟨(q, .vs j 0 m c r e)::s.t,s.b⟩):fq P T n (.region id ops draw) Q s:=
 LH _ (wY q hq hj) (by rintro s1 ⟨c,h1,h2,rfl⟩;exact h c h1 h2)
theorem FQ {q j m c r e:Nat} {cs:List AV} (hq:s.tv q= .vs j 0 m c r e) (hj:s.bx j=some cs) (hl:m*r<=cs.length):aU s ⟨(q, .own j m r e)::s.t,s.b⟩:=by
 rintro n S0 w0 a w ⟨g,h⟩;have hm:=h.tm q;rw[hq]at hm;obtain⟨e1,e2,e3,arr,e5,e6⟩:=hm.2 cs hj;exact⟨g,h.reslot (x:= .own j m r e) ⟨hm.1,fun cs' hc=>⟨c,by rw[e1,Nat.zero_mul],e2,e3,by rw[hj]at hc;cases hc;exact hl,arr,e5,by rw[e6,Nat.zero_add]⟩⟩ rfl (by show oe (s.tv q)=true;rw[hq];rfl)⟩
theorem Jh (hT:∀t d,T t=some d->aY P t d) {t:TypeId} {ty:Ty} {x z:Operand} {j p et q m c i:Nat} {ik:IntKind} {cs:List AV} (hi:i<=c) (h1:gd ops s o=some true) (h2:o.op= .slice t x none (some z) none) (h5:T t=some ty) (h6:ty.elem=some (et,q)) (h7:s.ev x= .vs j p m c q et) (hb:s.bx j=some cs) (h8:s.ev z= .d (.leaf (.val (.int ik (i:Nat)))))
 (h3:aG n o.dst=true) (h4:eY draw ops (az ops o ⟨.vs j p i c q et,none⟩ [j]) k fps=true) (h:aq P T n ops id draw K (k+1) os (s.eff o.dst ⟨.vs j p i c q et,none⟩) (az ops o ⟨.vs j p i c q et,none⟩ [j]::fps)):aq P T n ops id draw K k (o::os) s fps:=by
 refine .run h1 (.gen fun s2 ht hrb=>?_) h3 h4 h;have hx:=(aw ht (x:=x) (by simp[h2,Op.operands])).trans h7;have hz:=(aw ht (x:=z) (by simp[h2,Op.operands])).trans h8;have hbj:=(ba (hrb j (by simp))).trans hb;obtain⟨u,hu,_,hel,_⟩:=(hT _ _ h5).und;obtain⟨rfl,hks⟩:=hel et q h6;refine an fun n S0 w0 g a w hM=>?_
 have hm:=hM.ev x;rw[hx]at hm;obtain⟨e1,e2,e3,arr,e5,e6⟩:=hm.2 cs hbj;have hr:=qN (w:=w) hu hks (some ⟨g j,p*q,none⟩) (m:=m) (i:=i) (c:=c) ik hi
 have ha:(if c=0 then some (⟨g j,p*q,none⟩:Addr)else(some ⟨g j,p*q,none⟩:Option Addr).map (·.add (0*q)))=some ⟨g j,p*q,none⟩:=by
  split
  ·rfl
  ·rw[Nat.zero_mul,Option.map_some,bX];rfl
 rw[ha]at hr;refine⟨.slice (some ⟨g j,p*q,none⟩) i c,w,?_,Below.refl _ _,hm.1,fun cs' hc=>⟨rfl,hi,e3,arr,e5,e6⟩⟩;unfold execOp;rw[h2]
 simp only[e1,bh hM hz,Option.map_some,Option.map_none,Sem.run_bind,hr,Result.andThen_ok]
 rfl
theorem sd (hT:∀t d,T t=some d->aY P t d) {t:TypeId} {ty:Ty} {x y:Operand} {j p et q m c i:Nat} {ik:IntKind} {cs:List AV} (hi:i<=m) (hic:i<c) (h1:gd ops s o=some true) (h2:o.op= .slice t x (some y) none none) (h5:T t=some ty) (h6:ty.elem=some (et,q)) (h7:s.ev x= .vs j p m c q et) (hb:s.bx j=some cs) (h8:s.ev y= .d (.leaf (.val (.int ik (i:Nat)))))
 (h3:aG n o.dst=true) (h4:eY draw ops (az ops o ⟨.vs j (p+i) (m-i) (c-i) q et,none⟩ [j]) k fps=true) (h:aq P T n ops id draw K (k+1) os (s.eff o.dst ⟨.vs j (p+i) (m-i) (c-i) q et,none⟩) (az ops o ⟨.vs j (p+i) (m-i) (c-i) q et,none⟩ [j]::fps)):aq P T n ops id draw K k (o::os) s fps:=by
 refine .run h1 (.gen fun s2 ht hrb=>?_) h3 h4 h;have hx:=(aw ht (x:=x) (by simp[h2,Op.operands])).trans h7;have hy:=(aw ht (x:=y) (by simp[h2,Op.operands])).trans h8;have hbj:=(ba (hrb j (by simp))).trans hb;obtain⟨u,hu,_,hel,_⟩:=(hT _ _ h5).und;obtain⟨rfl,hks⟩:=hel et q h6;refine an fun n S0 w0 g a w hM=>?_
 have hm:=hM.ev x;rw[hx]at hm;obtain⟨e1,e2,e3,arr,e5,e6⟩:=hm.2 cs hbj;have hr:=m7 (w:=w) hu hks (some ⟨g j,p*q,none⟩) (m:=m) (i:=i) (c:=c) ik (by omega);rw[if_neg (by omega),Option.map_some,bX]at hr;refine⟨.slice (some ⟨g j,p*q+i*q,none⟩) (m-i) (c-i),w,?_,Below.refl _ _,hm.1,fun cs' hc=>⟨by rw[Nat.add_mul],by omega,by omega,arr,e5,by rw[e6];congr 1;omega⟩⟩;unfold execOp;rw[h2]
 simp only[e1,bh hM hy,Option.map_some,Option.map_none,Sem.run_bind,hr,Result.andThen_ok]
 rfl
theorem Ki (hT:∀t d,T t=some d->aY P t d) {t:TypeId} {ty:Ty} {x:Operand} {j p m c q e et q':Nat} {cs:List AV} (h1:gd ops s o=some true) (h2:o.op= .call ⟨.builtin .cap,#[x],#[t]⟩) (h5:T t=some ty) (h6:ty.elem=some (et,q')) (h7:s.ev x= .vs j p m c q e) (hb:s.bx j=some cs)
 (h3:aG n o.dst=true) (h4:eY draw ops (az ops o ⟨.d (.leaf (.val (.int .i64 (c:Nat)))),none⟩ [j]) k fps=true) (h:aq P T n ops id draw K (k+1) os (s.eff o.dst ⟨.d (.leaf (.val (.int .i64 (c:Nat)))),none⟩) (az ops o ⟨.d (.leaf (.val (.int .i64 (c:Nat)))),none⟩ [j]::fps)):aq P T n ops id draw K k (o::os) s fps:=by
 refine .run h1 (.gen fun s2 ht hrb=>?_) h3 h4 h;have hx:=(aw ht (x:=x) (by simp[h2,Op.operands,Call.operands])).trans h7;have hbj:=(ba (hrb j (by simp))).trans hb;obtain⟨u,hu,_,hel,_⟩:=(hT _ _ h5).und;obtain⟨rfl,hks⟩:=hel et q' h6;refine an fun n S0 w0 g a w hM=>?_
 have hm:=hM.ev x;rw[hx]at hm;obtain⟨e1,_⟩:=hm.2 cs hbj;refine⟨.int .i64 c,w,?_,Below.refl _ _,AV.M.val rfl⟩;unfold execOp;rw[h2]
 simp[resolve,invoke,builtin,Builtin.cap_,e1,Sem.run_bind,run_underlying hu w,goInt]
theorem ff.drop {S:Nat->Prop} {w:World} {cs:List AV} {vs:List Value} (h:ff S w cs vs) (r:Nat):ff S w (cs.drop r) (vs.drop r):=
 ⟨by have:=h.1;simp;omega,fun i a v h1 h2=>h.2 (r+i) a v (by simpa using h1) (by simpa using h2)⟩
theorem CM.appC {S:Nat->Prop} {w:World} {cs ds:List AV} {vs us:List Value} (h:CM S w cs vs) (k:ff S w ds us):ff S w (cs++ds) (vs++us):=by
 refine⟨by have:=h.1;have:=k.1;simp;omega,fun i a v h1 h2=>?_⟩;rw[List.getElem?_append]at h1 h2;have:=h.1
 split at h1
 ·rw[if_pos (by omega)]at h2;exact h.2 i a v h1 h2
 ·rw[if_neg (by omega),<- this]at h2;exact k.2 _ a v h1 h2
theorem zB {cs xs:List AV} {p:Nat} (hp:p<=cs.length):cs.length<=(bl cs p xs).length:=by
 unfold bl
 simp
 omega
def AJ (arr:Array Value) (p:Nat) (vs:List Value):Array Value:=(arr.toList.take p++vs++arr.toList.drop (p+vs.length)).toArray
theorem Ey {arr:Array Value} {p:Nat} {vs:List Value} (h:p+vs.length<=arr.size):(AJ arr p vs).size=arr.size:=by
 unfold AJ
 simp
 omega
theorem MG.wr (h:MG n S0 w0 g s a w) {j p:Nat} {cs xs:List AV} {vs:List Value} (hj:s.bx j=some cs) (hlb:bW j=false) {arr:Array Value} {e:TypeId} (hB:w.heap[g j]? =some (.cells arr e (0,0))) (hp:p<=cs.length) (hf:p+vs.length<=arr.size) (hx:CM (Own S0 g s) w xs vs) (hw:bD j=false->bz xs=true):
 MG n S0 w0 g { s with b:=(j,some (bl cs p xs))::s.b } a (w.setRow (g j) (AJ arr p vs)):=by
 obtain⟨_,arr',e',h1,h2,h3,h4,h5⟩:=h.bm j cs hj;rw[hB]at h1
 injection h1 with h1
 injection h1 with h1 _
 subst h1;refine h.store hj (size_setRow _ _ _) ⟨rfl,rfl,rfl⟩ hB (setRow_heap w (g j) arr _ e _ hB) (Ey hf) (fun b hb=>setRow_other w (g j) b _ hb) (zB hp) ?_ (fun hwf v hv=>?_) (fun hl=>by rw[hlb]at hl;cases hl)
 ·have h6:=h2.sub (off:=0) (k:=p) (by omega)
  rw[List.drop_zero,List.drop_zero]at h6;have h7:=(h6.append hx).appC (h2.drop (p+xs.length));rw[hx.1]at h7;unfold bl AJ;rw[hx.1]
  simpa using h7
 ·unfold AJ at hv
  simp only[List.mem_append]at hv
  rcases hv with(hv|hv)|hv
  ·exact h3 hwf v (List.mem_of_mem_take hv)
  ·exact jr hx (hw hwf) v hv
  ·exact h3 hwf v (List.mem_of_mem_drop hv)
theorem Ls (hM:MG n S0 w0 g s a w) {x:Operand} {j p m c q e:Nat} {cs:List AV} (hx:s.ev x= .vs j p m c q e) (hb:s.bx j=some cs) (hl:(p+m)*q<=cs.length):nF (Own S0 g s) w (a.eval x) m q ((cs.drop (p*q)).take (m*q)):=by
 have hm:=hM.ev x;rw[hx]at hm;obtain⟨e1,e2,e3,_⟩:=hm.2 cs hb;obtain⟨_,arr,e,e5,e6,_⟩:=hM.bm j cs hb;have hl2:=e6.1;have hsz:(p+m)*q=p*q+m*q:=Nat.add_mul _ _ _;refine⟨_,c,(arr.toList.drop (p*q)).take (m*q),e1,by simp at hl2 ⊢;omega,fun i u hi=>?_,e6.sub (by omega)⟩;exact CA
inductive lz (s:AS) (x:Operand) (m q:Nat):List Nat->List AV->Prop
 |sl {xs:List AV}:s.ev x= .d (.leaf (.sl m xs))->xs.length=m*q->0<xs.length->lz s x m q [] xs
 |own {j e:Nat} {cs xs:List AV}:s.ev x= .own j m q e->s.bx j=some cs->cs.take (m*q)=xs->lz s x m q [j] xs
 |vw {j p:Nat} {cs xs:List AV}:s.ev x= .vw j p m q->s.bx j=some cs->(cs.drop (p*q)).take (m*q)=xs->lz s x m q [j] xs
 |vs {j p c e:Nat} {cs xs:List AV}:s.ev x= .vs j p m c q e->s.bx j=some cs->(p+m)*q<=cs.length->(cs.drop (p*q)).take (m*q)=xs->lz s x m q [j] xs
theorem lz.congr {x:Operand} {m q:Nat} {L:List Nat} {xs:List AV} {s2:AS} (h:lz s x m q L xs) (hx:s2.ev x=s.ev x) (hb:∀i∈L,ak s2.b i=ak s.b i):lz s2 x m q L xs:=by
 cases h with
 |sl h1 h2 h3=>exact .sl (hx.trans h1) h2 h3
 |own h1 h2 h3=>exact .own (hx.trans h1) ((ba (hb _ (by simp))).trans h2) h3
 |vw h1 h2 h3=>exact .vw (hx.trans h1) ((ba (hb _ (by simp))).trans h2) h3
 |vs h1 h2 h3 h4=>exact .vs (hx.trans h1) ((ba (hb _ (by simp))).trans h2) h3 h4
theorem lz.news {x:Operand} {m q:Nat} {L:List Nat} {xs:List AV} (h:lz s x m q L xs) (hM:MG n S0 w0 g s a w):nF (Own S0 g s) w (a.eval x) m q xs:=by
 cases h with
 |sl h1 h2 h3=>
  have hyv:=hM.ev x;rw[h1]at hyv;exact C3 hyv h2 h3
 |own h1 h2 h3=>subst h3;exact yV hM h1 h2
 |vw h1 h2 h3=>subst h3;exact KQ hM h1 h2
 |vs h1 h2 h3 h4=>subst h4;exact Ls hM h1 h2 h3
theorem EB {t et q:Nat} {ty te:Ty} (hT:aY P t ty) (hE:aY P et te) (hel:ty.elem=some (et,q)) (hk:te.size=q):P.underlying t=some (.slice et)/\ ∃i z,P.info? et=some i/\i.zero=some z/\i.size=q/\i.bytes=te.bytes/\z.cells.size=q/\ ∀(S:Nat->Prop) (w:World),CM S w te.zero z.cells.toList:=by
 obtain⟨u,hu,_,hel',_⟩:=hT.und;obtain⟨rfl,hks⟩:=hel' et q hel;obtain⟨z,hz,hzm⟩:=hE.zero;refine⟨hu,?_⟩;cases hq:P.info? et with
 |none=>rw[hq]at hz;cases hz
 |some i=>
  rw[hq]at hz hks;have h1:=hE.bytes;rw[hq]at h1;refine⟨i,z,rfl,hz,by simpa using hks,by simpa using h1,?_,hzm⟩;have:=(hzm (fun _=>False) default).1
  simp at this
  have h2:=hE.zlen;omega
theorem mP:∀{l:List AV},bz l=true-> ∀b∈l,JN b=true
 | [],_,b,hb=>by cases hb
 |c::l,h,b,hb=>by
  simp only[bz]at h
  cases h1:JN c with
  |false=>rw[h1]at h;cases h
  |true=>
   rw[h1]at h;rcases List.mem_cons.1 hb with rfl|hb
   ·exact h1
   ·exact mP h b hb
theorem iA:∀{l:List AV},(∀b∈l,JN b=true)->bz l=true
 | [],_=>rfl
 |c::l,h=>by
  simp only[bz]
  rw[h c (by simp)];exact iA fun b hb=>h b (by simp[hb])
theorem eL {l:List AV} (h:bz l=true) (r:Nat):bz (l.take r)=true:=iA fun b hb=>mP h b (List.mem_of_mem_take hb)
theorem xw {l:List AV} (h:bz l=true) (r:Nat):bz (iJ l r)=true:=iA fun b hb=>by
 obtain⟨i,hi⟩:=List.getElem?_of_mem hb;rcases Nat.eq_zero_or_pos l.length with h0|h0
 ·have:(iJ l r).length=0:=by rw[dp,h0,Nat.mul_zero]
  rw[List.eq_nil_of_length_eq_zero this]at hi
  simp at hi
 ·rw[jB _ h0]at hi
  split at hi
  ·exact mP h b (List.mem_of_getElem? hi)
  ·cases hi
theorem Kb {S:Nat->Prop} {w:World} {zs:List AV} {cells:Array Value} {q:Nat} (h:CM S w zs cells.toList) (hq:zs.length=q) (r:Nat):CM S w (iJ zs r) (Builtin.zeroCells cells r).toList:=by
 have hc:cells.size=zs.length:=by have:=h.1;simpa using this.symm
 refine⟨by rw[dp,<- hc,<- size_zeroCells];simp,fun i b v h1 h2=>?_⟩;rcases Nat.eq_zero_or_pos zs.length with h0|h0
 ·have:(iJ zs r).length=0:=by rw[dp,h0,Nat.mul_zero]
  rw[List.eq_nil_of_length_eq_zero this]at h1
  simp at h1
 ·rw[jB _ h0]at h1
  split at h1
  ·rename_i hi
   have hm:i%zs.length<zs.length:=Nat.mod_lt _ h0
   have hv:v=cells[i%cells.size]'(by rw[hc];exact hm):=by
    simp[Builtin.zeroCells,hc]at h2
    obtain⟨w1,hw1,h2⟩:=h2;rw[List.getElem?_range hi]at hw1;have hw2:w1=i:=(Option.some.inj hw1).symm;subst hw2;rw[<- h2]
    simp[hc,hm]
   exact h.2 (i%zs.length) b v h1 (by rw[hv];simp[hc,hm])
  ·cases h1
theorem uS {d:Nat} {x y:Operand} {t tn et q m1 m2 j p c j':Nat} {ik kn:IntKind} {ty te:Ty} {cs:List AV} (hT:aY P t ty) (hE:aY P et te) (hN:P.underlying tn=some (.int kn)) (ho:o.op= .call ⟨.builtin .append,#[x,y],#[t,tn]⟩) (hd:o.dst=some d) (hel:ty.elem=some (et,q)) (hk:te.size=q) (hq0:0<q) (hx:s.ev x= .vs j p m1 c q et) (hj:s.bx j=some cs) (hy:s.ev y= .d (.leaf (.val (.int ik (m2:Nat))))) (hm2:0<m2) (hroom:c<m1+m2) (hp:(p+m1)*q<=cs.length) (hnew:fc s j'=true) (hw:(bz te.zero && bz ((cs.drop (p*q)).take (m1*q)))=true) (hb:(m1+m2)*te.bytes<=140737488355328) (h63:m1+m2<=9223372036854775807):
 bB P o s ⟨.own j' (m1+m2) q et,some [(j',some ((cs.drop (p*q)).take (m1*q)++iJ te.zero m2))]⟩:=by
 obtain⟨hu,i,z,hi,hiz,his,hib,hzl,hzm⟩:=EB hT hE hel hk;intro n S0 w0 g a w K Q hM hdn hK;have hm:=hM.ev x;rw[hx]at hm;obtain⟨e1,e2,e3,arr,e5,e6⟩:=hm.2 cs hj;obtain⟨_,arr',e',k1,k2,k3,_,_⟩:=hM.bm j cs hj;rw[e5]at k1
 injection k1 with k1
 injection k1 with k1 _
 subst k1;rw[Nat.add_mul]at hp;have hlc:=k2.1;have hold:CM (Own S0 g s) w ((cs.drop (p*q)).take (m1*q)) ((arr.toList.drop (p*q)).take (m1*q)):=k2.sub (by omega);generalize hO:(arr.toList.drop (p*q)).take (m1*q)=olds at *;have hol:olds.length=m1*q:=by rw[<- hO];simp at hlc ⊢;omega
 have hbd:Below w.heap.size w w.drew:=⟨rfl,rfl,rfl,Nat.le_refl _,fun _ _=>rfl⟩
 have holds:∀r u,olds[r]? =some u->w.drew.cell? ((⟨g j,p*q,none⟩:Addr).add r)=some u:=fun r u hu=>by
  rw[bX,dh (w:=w.drew) e5];rw[<- hO,List.getElem?_take]at hu
  split at hu
  ·simpa using hu
  ·cases hu
 have hf:=run_firstCells_some (P:=P) w.drew i.size m1 ⟨g j,p*q,none⟩ m1 c olds (by rw[hol,his]) holds;have hby:m2*te.bytes<=(m1+m2)*te.bytes:=Nat.mul_le_mul_right _ (by omega);have hr:=Lib.run_append_grow_zeros (P:=P) w t tn o.type et i z ik kn hu hN hi hiz (some ⟨g j,p*q,none⟩) m1 c olds hf m2 hm2 (by omega) hroom (by omega) (by rw[hib];omega) (growslice_fits hroom (by rw[hib];exact hb))
 simp only[Bool.and_eq_true]at hw
 have hcap:m1+m2<=grownCap w (m1+m2) c et:=grownCap_ge w _ _ _
 have hcap2:grownCap w (m1+m2) c et<=9223372036854775807:=by
  have:=grownCap_le_maxLen w (m1+m2) c et (by unfold maxLen;omega);unfold maxLen at this;omega
 have hzc:∀r,CM (Own S0 g s) w (iJ te.zero r) (Builtin.zeroCells z.cells r).toList:=fun r=>Kb (hzm _ _) hE.zlen r
 have hcm:=(hold.append (hzc m2)).agree (S':=Own S0 g s) (w':=w.drew) (.of_below hbd) (fun _ _ h=>h);have key:=(hM.grow' hbd).alloc (hdn d hd) (bt hnew).1 (bt hnew).2 (cs:=(cs.drop (p*q)).take (m1*q)++iJ te.zero m2) (arr:=olds.toArray++Builtin.zeroCells z.cells m2++Builtin.zeroCells z.cells (grownCap w (m1+m2) c et-(m1+m2))) (e:=et) (x:= .own j' (m1+m2) q et) (v:= .slice (some ⟨w.heap.size,0,none⟩) (m1+m2) (grownCap w (m1+m2) c et)) (by simpa using ff.append (us:=(Builtin.zeroCells z.cells (grownCap w (m1+m2) c et-(m1+m2))).toList) hcm) ?_ ?_ (fun h=>by rw[mM hnew]at h;cases h) ?_
 ·unfold Oper.wp execOp
  simp only[ho,resolve,invoke,builtin,Sem.run_bind,Sem.run_pure,Result.andThen_ok,List.map_toArray,List.map_cons,List.map_nil,e1,bh hM hy,hr]
  show K (a.put o.dst _) _;rw[hd]at hK ⊢;exact hK _ _ _ key
 ·intro _ v hv
  have hz0:∀r,∀u∈(Builtin.zeroCells z.cells r).toList,fR u=true:=fun r=>jr (hzc r) (xw hw.1 r)
  simp only[Array.toList_append,List.mem_append]at hv
  rcases hv with(hv|hv)|hv
  ·exact jr hold hw.2 v (by simpa using hv)
  ·exact hz0 _ v hv
  ·exact hz0 _ v hv
 ·intro b hb
  rcases List.mem_append.1 hb with hb|hb
  ·exact kx hw.2 b hb
  ·exact kx (xw hw.1 m2) b hb
 ·intro g' s' hg hb
  refine⟨AS.kn_of hb,fun cs' hc=>⟨_,by rw[hg];rfl,hcap,hcap2,?_,_,by rw[hg];exact heap_alloc_new w.drew _,?_⟩⟩
  ·rw[hb]at hc
   cases hc;rw[(hold.append (hzc m2)).1,List.length_append,hol,Array.length_toList,size_zeroCells,hzl,Nat.add_mul];omega
  ·simp[size_zeroCells,hol,hzl]
   rw[<- Nat.add_mul,<- Nat.add_mul]
   congr 1
   omega
theorem Iw (j':Nat) (hT:∀t d,T t=some d->aY P t d) {d:Nat} {x y:Operand} {t tn et q m1 m2 m3 j p c:Nat} {ik kn:IntKind} {ty te:Ty} {cs cs':List AV} (hm2:0<m2) (hroom:c<m1+m2) (hp:(p+m1)*q<=cs.length) (hw:bz ((cs.drop (p*q)).take (m1*q))=true) (hb:(m1+m2)*te.bytes<=140737488355328) (h63:m1+m2<=9223372036854775807) (hm:m1+m2=m3) (hcs:(cs.drop (p*q)).take (m1*q)++iJ te.zero m2=cs') (h1:gd ops s o=some true) (ho:o.op= .call ⟨.builtin .append,#[x,y],#[t,tn]⟩) (hd:o.dst=some d) (h3:aG n o.dst=true) (ht:T t=some ty) (hel:ty.elem=some (et,q)) (hte:T et=some te) (hk:te.size=q) (hq0:Nat.blt 0 q=true) (htn:P.underlying tn=some (.int kn))
 (hx:s.ev x= .vs j p m1 c q et) (hj:s.bx j=some cs) (hy:s.ev y= .d (.leaf (.val (.int ik (m2:Nat))))) (hnew:fc s j'=true) (hz:bz te.zero=true)
 (h4:eY draw ops (az ops o ⟨.own j' m3 q et,some [(j',some cs')]⟩ [j',j]) k fps=true)
 (h:aq P T n ops id draw K (k+1) os (s.eff o.dst ⟨.own j' m3 q et,some [(j',some cs')]⟩) (az ops o ⟨.own j' m3 q et,some [(j',some cs')]⟩ [j',j]::fps)):aq P T n ops id draw K k (o::os) s fps:=by
 subst hm hcs;refine .run h1 (.gen fun s2 ht2 hrb=>?_) h3 h4 h;have hx2:s2.ev x=s.ev x:=aw ht2 (by rw[ho];simp[Op.operands,Call.operands]);have hy2:s2.ev y=s.ev y:=aw ht2 (by rw[ho];simp[Op.operands,Call.operands]);exact uS (hT _ _ ht) (hT _ _ hte) htn ho hd hel hk (by simpa using hq0) (hx2.trans hx) ((ba (hrb j (by simp))).trans hj) (hy2.trans hy) hm2 hroom hp ((ep (hrb j' (by simp))).trans hnew) (by simp[hz,hw]) hb h63
inductive ll (s:AS) (x:Operand) (j p m q:Nat) (cs:List AV):Prop
 |own {e:Nat}:s.ev x= .own j m q e->p=0->s.bx j=some cs->ll s x j p m q cs
 |vw {r:Nat}:s.ev x= .vw j r m q->p=r*q->s.bx j=some cs->ll s x j p m q cs
 |vs {r c e:Nat}:s.ev x= .vs j r m c q e->p=r*q->s.bx j=some cs->ll s x j p m q cs
theorem ll.congr {x:Operand} {j p m q:Nat} {cs:List AV} {s2:AS} (h:ll s x j p m q cs) (hx:s2.ev x=s.ev x) (hb:ak s2.b j=ak s.b j):ll s2 x j p m q cs:=by
 cases h with
 |own h1 h2 h3=>exact .own (hx.trans h1) h2 ((ba hb).trans h3)
 |vw h1 h2 h3=>exact .vw (hx.trans h1) h2 ((ba hb).trans h3)
 |vs h1 h2 h3=>exact .vs (hx.trans h1) h2 ((ba hb).trans h3)
theorem ll.here {x:Operand} {j p m q:Nat} {cs:List AV} (h:ll s x j p m q cs) (hM:MG n S0 w0 g s a w):s.bx j=some cs/\ ∃c arr e,a.eval x= .slice (some ⟨g j,p,none⟩) m c/\w.heap[g j]? =some (.cells arr e (0,0))/\p+m*q<=arr.size:=by
 cases h with
 |own h1 h2 h3=>
  have hm:=hM.ev x;rw[h1]at hm;obtain⟨c,e1,e2,e3,e4,arr,e5,e6⟩:=hm.2 cs h3;subst h2;exact⟨h3,c,arr,_,e1,e5,by rw[e6,Nat.zero_add];exact Nat.mul_le_mul_right _ e2⟩
 |vw h1 h2 h3=>
  have hm:=hM.ev x;rw[h1]at hm;obtain⟨c,e1,e2,e3,e4⟩:=hm.2 cs h3;obtain⟨_,arr,e,e5,e6,_⟩:=hM.bm j cs h3;have hl:=e6.1;subst h2;refine⟨h3,c,arr,e,e1,e5,?_⟩;rw[<- Nat.add_mul]
  simp at hl
  omega
 |vs h1 h2 h3=>
  have hm:=hM.ev x;rw[h1]at hm;obtain⟨e1,e2,e3,arr,e5,e6⟩:=hm.2 cs h3;subst h2;refine⟨h3,_,arr,_,e1,e5,?_⟩;rw[e6,<- Nat.add_mul];exact Nat.mul_le_mul_right _ (by omega)
theorem yz {w:World} (dT sT ty elem:TypeId) (i:TypeInfo) (b p dLen dCap:Nat) (ad:Addr) (sLen sCap:Nat) (cur:Array Value) (t:TypeId) (cs:List Value) (hu:P.underlying dT=some (.slice elem)) (hi:P.info? elem=some i) (hg:w.heap[b]? =some (.cells cur t (0,0))) (r:Nat) (hn:Nat.min sLen dLen=r) (hl:cs.length=r*i.size)
 (hsrc:∀j v,cs[j]? =some v->w.cell? (ad.add j)=some v) (hfit:p+cs.length<=cur.size) (h1:∀v∈cs,v.oneCell'=true):
 (Builtin.copy_ #[dT,sT] ty #[.slice (some ⟨b,p,none⟩) dLen dCap, .slice (some ad) sLen sCap]).run P w= .ok (goInt r) (w.setRow b (AJ cur p cs)):=by
 have hf:=run_firstCells_some (P:=P) w i.size r ad sLen sCap cs hl hsrc;have hst:=run_storeCells_at P b p t cs 0 cur w hg (by simpa using hfit) h1
 simp only[Nat.add_zero]at hst
 simp[Builtin.copy_,run_underlying hu,Builtin.lenOf,sizeOf,typeInfo,hi,hn,hf,hst,AJ]
inductive mF (s:AS) (x:Operand) (mm r q:Nat):List Nat->List AV->Prop
 |of {L:List Nat} {ys xs:List AV}:lz s x mm q L ys->r<=mm->ys.take (r*q)=xs->mF s x mm r q L xs
 |vs {j p c e:Nat} {cs xs:List AV}:s.ev x= .vs j p mm c q e->s.bx j=some cs->r<=mm->(p+r)*q<=cs.length->(cs.drop (p*q)).take (r*q)=xs->mF s x mm r q [j] xs
theorem mF.congr {x:Operand} {mm r q:Nat} {L:List Nat} {xs:List AV} {s2:AS} (h:mF s x mm r q L xs) (hx:s2.ev x=s.ev x) (hb:∀i∈L,ak s2.b i=ak s.b i):mF s2 x mm r q L xs:=by
 cases h with
 |of h1 h2 h3=>exact .of (h1.congr hx hb) h2 h3
 |vs h1 h2 h3 h4 h5=>exact .vs (hx.trans h1) ((ba (hb _ (by simp))).trans h2) h3 h4 h5
theorem mF.news {x:Operand} {mm r q:Nat} {L:List Nat} {xs:List AV} (h:mF s x mm r q L xs) (hM:MG n S0 w0 g s a w):∃(ad:Addr) (c2:Nat) (news:List Value),a.eval x= .slice (some ad) mm c2/\news.length=r*q/\(∀j u,news[j]? =some u->w.cell? (ad.add j)=some u)/\CM (Own S0 g s) w xs news:=by
 cases h with
 |of h1 h2 h3=>
  obtain⟨ad,c2,news,hya,hnl,hnews,hncm⟩:=h1.news hM;subst h3;refine⟨ad,c2,news.take (r*q),hya,?_,fun j u hj=>?_,hncm.take _⟩
  ·rw[List.length_take,hnl]
   exact Nat.min_eq_left (Nat.mul_le_mul_right _ h2)
  ·rw[List.getElem?_take]at hj
   split at hj
   ·exact hnews j u hj
   ·cases hj
 |vs h1 h2 h3 h4 h5=>
  rename_i j p c e cs
  have hm:=hM.ev x;rw[h1]at hm;obtain⟨e1,e2,e3,_⟩:=hm.2 cs h2;obtain⟨_,arr,e,e5,e6,_⟩:=hM.bm j cs h2;have hl2:=e6.1;subst h5;have hsz:(p+r)*q=p*q+r*q:=Nat.add_mul _ _ _;refine⟨_,c,(arr.toList.drop (p*q)).take (r*q),e1,by simp at hl2 ⊢;omega,fun i u hi=>?_,e6.sub (by omega)⟩;exact CA
theorem Av {L:List Nat} {x y:Operand} {t t' et q m1 mm j p r:Nat} {ty:Ty} {cs xs:List AV} (hT:aY P t ty) (ho:o.op= .call ⟨.builtin .copy,#[x,y],#[t,t']⟩) (hel:ty.elem=some (et,q)) (hx:ll s x j p m1 q cs) (hy:mF s y mm r q L xs) (hr:Nat.min mm m1=r) (hlb:bW j=false) (hp:p<=cs.length) (hw:bD j=false->bz xs=true):
 bB P o s ⟨.d (.leaf (.val (.int .i64 (r:Nat)))),some [(j,some (bl cs p xs))]⟩:=by
 obtain⟨u,hu,_,hel',_⟩:=hT.und;obtain⟨rfl,hks⟩:=hel' et q hel
 obtain⟨i,hi,his⟩:∃i,P.info? et=some i/\i.size=q:=by
  cases hq:P.info? et with
  |none=>rw[hq]at hks;cases hks
  |some i=>rw[hq]at hks;exact⟨i,rfl,by simpa using hks⟩
 intro n S0 w0 g a w K Q hM hdn hK;obtain⟨hj,c,arr,e,e1,e5,e6⟩:=hx.here hM;obtain⟨ad,c2,news,hya,hnl,hnews,hncm⟩:=hy.news hM;have hr1:r<=m1:=by rw[<- hr];exact Nat.min_le_right _ _
 have hfit:p+news.length<=arr.size:=by
  rw[hnl];have:=Nat.mul_le_mul_right q hr1;omega
 have hrun:=yz (P:=P) (w:=w) t t' o.type et i (g j) p m1 c ad mm c2 arr e news hu hi e5 r hr (by rw[hnl,his]) hnews hfit hncm.plain;have h2:=hM.wr hj hlb e5 hp hfit hncm hw;unfold Oper.wp execOp
 simp only[ho,resolve,invoke,builtin,Sem.run_bind,Sem.run_pure,Result.andThen_ok,List.map_toArray,List.map_cons,List.map_nil,e1,hya,hrun]
 show K (a.put o.dst _) _;cases hd:o.dst with
 |none=>rw[hd]at hK;exact hK _ _ _ h2
 |some d=>
  rw[hd]at hK;exact hK _ _ _ (h2.put (hdn d hd) (x:= .d (.leaf (.val (.int .i64 (r:Nat))))) (Below.refl _ _) (AV.M.val rfl))
theorem jG (hT:∀t d,T t=some d->aY P t d) {L:List Nat} {x y:Operand} {t t' et q m1 mm j p r:Nat} {ty:Ty} {cs xs cs':List AV} (hr:Nat.min mm m1=r) (hp:p<=cs.length) (hcs:bl cs p xs=cs') (hw:(bD j || bz xs)=true) (h1:gd ops s o=some true) (ho:o.op= .call ⟨.builtin .copy,#[x,y],#[t,t']⟩) (h3:aG n o.dst=true) (ht:T t=some ty) (hel:ty.elem=some (et,q)) (hx:ll s x j p m1 q cs) (hy:mF s y mm r q L xs) (hlb:bW j=false)
 (h4:eY draw ops (az ops o ⟨.d (.leaf (.val (.int .i64 (r:Nat)))),some [(j,some cs')]⟩ (j::L)) k fps=true)
 (h:aq P T n ops id draw K (k+1) os (s.eff o.dst ⟨.d (.leaf (.val (.int .i64 (r:Nat)))),some [(j,some cs')]⟩) (az ops o ⟨.d (.leaf (.val (.int .i64 (r:Nat)))),some [(j,some cs')]⟩ (j::L)::fps)):aq P T n ops id draw K k (o::os) s fps:=by
 subst hcs;refine .run h1 (.gen fun s2 ht2 hrb=>?_) h3 h4 h;have hx2:s2.ev x=s.ev x:=aw ht2 (by rw[ho];simp[Op.operands,Call.operands]);have hy2:s2.ev y=s.ev y:=aw ht2 (by rw[ho];simp[Op.operands,Call.operands]);exact Av (hT _ _ ht) ho hel (hx.congr hx2 (hrb j (by simp))) (hy.congr hy2 fun i hi=>hrb i (by simp[hi])) hr hlb hp (fun h=>by rw[h]at hw;exact hw)
theorem qT (hT:∀t d,T t=some d->aY P t d) {f:Operand} {fid:FuncId} {fn:Func} {x y:Operand} {ts:Array TypeId} {tS tR et q j1 m1 q1 e1 j2 p2 m2 c2 e2:Nat} {ty:Ty} {cs1 cs2:List AV} (hne:j1≠j2) (hm2:0<m2) (h1:gd ops s o=some true) (ho:o.op= .call ⟨.value f,#[x,y],ts⟩) (hev:s.ev f= .d (.leaf (.val (.func (.func fid) #[] #[])))) (hfn:P.funcs[fid]? =some fn) (hname:(fn.name == "runtime.NumGoroutine")=false) (hbd:fn.body.isNone=true) (hnx:Extern.findNext fn=none) (hfd:Extern.find fn=some (Extern.SlicesOverlaps.overlaps #[tS,tS] #[tR]))
 (h5:T tS=some ty) (h6:ty.elem=some (et,q)) (hq:Nat.blt 0 q=true) (hx:s.ev x= .own j1 m1 q1 e1) (hj1:s.bx j1=some cs1) (hy:s.ev y= .vs j2 p2 m2 c2 q e2) (hj2:s.bx j2=some cs2) (h3:aG n o.dst=true)
 (h4:eY draw ops (az ops o ⟨.d (.leaf (.val (.bool false))),none⟩ [j1,j2]) k fps=true) (h:aq P T n ops id draw K (k+1) os (s.eff o.dst ⟨.d (.leaf (.val (.bool false))),none⟩) (az ops o ⟨.d (.leaf (.val (.bool false))),none⟩ [j1,j2]::fps)):aq P T n ops id draw K k (o::os) s fps:=by
 refine .run h1 (.gen fun s2 ht hrb=>?_) h3 h4 h;have hf2:=(aw ht (x:=f) (by simp[ho,Op.operands,Call.operands])).trans hev;have hx2:=(aw ht (x:=x) (by simp[ho,Op.operands,Call.operands])).trans hx;have hy2:=(aw ht (x:=y) (by simp[ho,Op.operands,Call.operands])).trans hy;have hb1:=(ba (hrb j1 (by simp))).trans hj1;have hb2:=(ba (hrb j2 (by simp))).trans hj2;obtain⟨ud,hu,_,hel,_⟩:=(hT _ _ h5).und;obtain⟨rfl,hks⟩:=hel et q h6;refine an fun n S0 w0 g a w hM=>⟨.bool false,w,?_,Below.refl _ _,AV.M.val rfl⟩
 have hmx:=hM.ev x;rw[hx2]at hmx;obtain⟨c1,a1,_,_,_,arr1,a5,_⟩:=hmx.2 cs1 hb1;have hmy:=hM.ev y;rw[hy2]at hmy;obtain⟨d1,d2,_,arr2,d5,d6⟩:=hmy.2 cs2 hb2;have hbl:g j1≠g j2:=fun e=>hne (hM.inj j1 j2 _ _ hb1 hb2 e)
 have hq0:0<q:=by simpa using hq
 have hpos:arr2.size≠0:=by
  rw[d6];exact Nat.mul_ne_zero (by omega) (by omega)
 have hr:=Lib.run_overlaps_apart (P:=P) w tS tR et hu q (fun w=>bA hks w) ⟨g j1,0,none⟩ ⟨g j2,p2*q,none⟩ m1 c1 m2 c2 hbl e1 e2 arr1.size arr2.size (by simp[World.shape?,a5]) (by simp[World.shape?,d5]) hpos (by simp[World.frozen?,a5]) (by simp[World.frozen?,a5]);have hc:=run_callFunc_extern (P:=P) hfn hname hbd hnx hfd #[a.eval x,a.eval y] w;rw[a1,d1,hr]at hc;unfold execOp;rw[ho]
 simp only[resolve,bh hM hf2,Deferred.ofValue,Sem.run_bind,Sem.run_pure,Result.andThen_ok,invoke]
 simpa[a1,d1]using hc
theorem BS (hM:MG n S0 w0 g s a w):∀(l:List Operand),ny (Own S0 g s) g s w (l.map s.ev) (l.map a.eval)
 | []=>trivial
 |x::l=>⟨hM.ev x,BS hM l⟩
theorem xN {f:Operand} {fid:FuncId} {args:Array Operand} {tys:Array TypeId} {ts:List TV} {b:BL} {r:RT} {b':BL} (hc:au P fid ts b r b') (ho:o.op= .call ⟨.value f,args,tys⟩) (hfe:s.ev f= .d (.leaf (.val (.func (.func fid) #[] #[])))) (hts:args.toList.map s.ev=ts)
 (hk:(BU (ar b) (ts.flatMap dw) && sI (ar b) (ar b))=true) (hb:p6 s (ar b)) (hcn:∀j cs,s.bx j=some cs->j ∉ b.map (·.1)->bD j=false) (hnew:lH s b b'=true):
 bB P o s ⟨r.tv,some (ar b'++cU b' b)⟩:=by
 intro n S0 w0 g a w K Q hM hdn hK;rw[Bool.and_eq_true]at hk;obtain⟨hk,hwfc⟩:=hk;obtain⟨S,hpre,hO,hpost⟩:=hM.callT (b:=b) (b':=b') hb hwfc hcn (fun j cs hj hn=>pH hnew (bI.1 hj) hn);have inb:∀j cs,(sB b).bx j=some cs->s.bx j=some cs:=fun j cs hj=>hb.at (bI.1 hj)
 have hvs:=BS hM args.toList;rw[hts]at hvs
 have hrun:(execOp a.eval o).run P w= .ok (.enter fid (args.toList.map a.eval).toArray) w:=by
  unfold execOp;rw[ho]
  simp only[resolve,bh hM hfe,Deferred.ofValue,Sem.run_bind,Sem.run_pure,Result.andThen_ok,invoke]
  exact MQ
 have hcall:=hc.calls S g w _ hpre (by rw[hO];exact pG inb (zH hk) hvs);unfold Oper.wp;rw[hrun];show Calls P fid _ w _;refine hcall.mono ?_;rintro en w1 ⟨v,g',rfl,h2,h3,h4,h5,h6⟩;show K (a.put o.dst v) w1;obtain⟨g2,hm⟩:=hpost r v g' w1 h2 h3 h4 h5 h6 o.dst hdn;refine hK g2 _ _ ?_;cases ho2:o.dst<;>(rw[ho2]at hm;exact hm)
theorem pK {f:Operand} {fid:FuncId} {args:Array Operand} {tys:Array TypeId} {ts:List TV} {b:BL} {r:RT} {b':BL} (hc:au P fid ts b r b') (h1:gd ops s o=some true) (ho:o.op= .call ⟨.value f,args,tys⟩) (hfe:s.ev f= .d (.leaf (.val (.func (.func fid) #[] #[])))) (hts:args.toList.map s.ev=ts)
 (hk:(BU (ar b) (ts.flatMap dw) && sI (ar b) (ar b))=true) (hb:p6 s (ar b)) (hcn:dt [] s.b=true) (hnew:lH s b b'=true) (h3:aG n o.dst=true) (h4:eY draw ops (az ops o ⟨r.tv,some (ar b'++cU b' b)⟩ (b.map (·.1)++b'.map (·.1))) k fps=true)
 (h:aq P T n ops id draw K (k+1) os (s.eff o.dst ⟨r.tv,some (ar b'++cU b' b)⟩) (az ops o ⟨r.tv,some (ar b'++cU b' b)⟩ (b.map (·.1)++b'.map (·.1))::fps)):aq P T n ops id draw K k (o::os) s fps:=by
 refine .run h1 (.genC (iK hcn) fun s2 hc2 ht hrb=>?_) h3 h4 h;have hf:s2.ev f=s.ev f:=aw ht (by rw[ho];simp[Op.operands,Call.operands])
 have ha:args.toList.map s2.ev=ts:=by
  rw[<- hts];exact List.map_congr_left fun x hx=>aw ht (by rw[ho];simp[Op.operands,Call.operands];exact .inr (by simpa using hx))
 exact xN hc ho (hf.trans hfe) ha hk (kH (fun j hj=>hrb j (List.mem_append_left _ hj)) hb) (fun j cs hj _=>hc2 j cs hj) ((iM fun j hj=>hrb j (List.mem_append_right _ hj)).trans hnew)
end
theorem di.no {b b':BL} (h:∀j cs cs',(sB b).bx j=some cs->(sB b').bx j=some cs'->False):di b b':=fun j cs cs' h1 h2=>(h j cs cs' h1 h2).elim
theorem JA {x cs':List AV}:di [(902,x)] [(1003,cs')]:=di.no fun j c c' h1 h2=>by
 exact Ol
theorem wm {x cs cs':List AV}:di [(901,cs),(902,x)] [(1003,cs')]:=di.no fun j c c' h1 h2=>by
 exact Ol
def nC (q:Nat) (cs:List AV) (i:Nat) (x:List AV):List AV:=cs.take (i*q)++x++cs.drop (i*q)
theorem uA {a b c:List AV} {p:Nat} (h:a.length=p):bl (a++b) p c=a++c++b.drop c.length:=by
 subst h;unfold bl;rw[List.take_left,<- List.drop_drop,List.drop_left]
section
variable {q m i:Nat} {cs x:List AV}
theorem CT (hi:i=m) (hcs:cs.length=m*q) (hx:x.length=1*q):cs.take (m*q)++x.take (1*q)=nC q cs i x:=by
 subst hi;unfold nC;rw[List.drop_of_length_le (Nat.le_of_eq hcs),List.append_nil,List.take_of_length_le (l:=x) (Nat.le_of_eq hx)]
theorem GI (hi:i<m) (hcs:cs.length=m*q) (hx:x.length=1*q) (Z:List AV):bl ((cs.drop (0*q)).take (i*q)++Z) (i*q) (x.take (1*q))=cs.take (i*q)++x++Z.drop x.length:=by
 rw[Nat.zero_mul,List.drop_zero,List.take_of_length_le (l:=x) (Nat.le_of_eq hx)];refine uA ?_;rw[List.length_take,hcs];exact Nat.min_eq_left (Nat.mul_le_mul_right _ (Nat.le_of_lt hi))
theorem Ji (hi:i<m) (hcs:cs.length=m*q) (hx:x.length=1*q) {Z:List AV} (hZ:Z.length=(m+1-i)*q):bl (cs.take (i*q)++x++Z.drop x.length) ((i+1)*q) ((cs.drop ((0+i)*q)).take ((m-i)*q))=nC q cs i x:=by
 have h1:(m-i)*q=m*q-i*q:=Nat.sub_mul _ _ _;have h2:(i+1)*q=i*q+1*q:=Nat.add_mul _ _ _;have h3:i*q<=m*q:=Nat.mul_le_mul_right _ (Nat.le_of_lt hi);have h4:(m+1-i)*q=(m-i)*q+1*q:=by rw[<- Nat.add_mul];congr 1;omega
 rw[Nat.zero_add,List.take_of_length_le (l:=cs.drop (i*q)) (by rw[List.length_drop];omega),uA (by rw[List.length_append,List.length_take];omega)];rw[List.drop_drop,List.drop_of_length_le (l:=Z) (by rw[List.length_drop];omega),List.append_nil];rfl
theorem Ir (hi:i<m) (hcs:cs.length=m*q):bl cs ((0+(i+1))*q) ((cs.drop ((0+i)*q)).take ((m-i)*q))=cs.take ((i+1)*q)++cs.drop (i*q):=by
 have h1:(m-i)*q=m*q-i*q:=Nat.sub_mul _ _ _;have h2:(i+1)*q=i*q+1*q:=Nat.add_mul _ _ _;have h3:i*q<=m*q:=Nat.mul_le_mul_right _ (Nat.le_of_lt hi);rw[Nat.zero_add,Nat.zero_add,List.take_of_length_le (l:=cs.drop (i*q)) (by rw[List.length_drop];omega)];have hd:cs.drop ((i+1)*q+(cs.drop (i*q)).length)=[]:=List.drop_of_length_le (by rw[List.length_drop];omega);unfold bl;rw[hd,List.append_nil]
theorem Gx (hi:i<m) (hcs:cs.length=m*q) (hx:x.length=1*q):bl (cs.take ((i+1)*q)++cs.drop (i*q)) ((0+i)*q) (x.take (1*q))=nC q cs i x:=by
 have h2:(i+1)*q=i*q+1*q:=Nat.add_mul _ _ _;have h3:(i+1)*q<=m*q:=Nat.mul_le_mul_right _ hi;rw[Nat.zero_add,List.take_of_length_le (l:=x) (Nat.le_of_eq hx)];unfold bl nC;rw[List.take_append_of_le_length (by rw[List.length_take];omega),List.take_take,Nat.min_eq_left (by omega),List.drop_append_of_le_length (by rw[List.length_take];omega),hx,<- h2,List.drop_eq_nil_of_le (by rw[List.length_take];omega),List.nil_append]
theorem Bz (hi:i<=m) (hcs:cs.length=m*q) (hx:x.length=1*q):(nC q cs i x).length=(m+1)*q:=by
 have h1:i*q<=m*q:=Nat.mul_le_mul_right _ hi;have h2:(m+1)*q=m*q+1*q:=Nat.add_mul _ _ _;unfold nC;rw[List.length_append,List.length_append,List.length_take,List.length_drop];omega
theorem nu {l:List AV} (h:bz l=true) (r:Nat):bz (l.drop r)=true:=iA fun b hb=>mP h b (List.mem_of_mem_drop hb)
end
theorem FN (x:List AV) (hx:x.length=1*1) (hB:bz x=true):au Tryz.prog 182 [.nil, .d (dN .i64 0), .own 902 1 1 9] [(902,x)] (.own 1003 1 1 9) [(1003,x)]:=by
 have hcs:([]:List AV).take (0*1)++x.take (1*1)=x:=by rw[List.take_nil,List.nil_append,List.take_of_length_le (Nat.le_of_eq hx)]
 refine aM ah cX func182 rfl rfl rfl rfl rfl (JA) ?_;refine tC ?_;exact RA
theorem JZ {m i:Nat} {cs x:List AV} (hi:i<=m) (hm:0<m) (hl:m<=1000000) (hcs:cs.length=m*1) (hx:x.length=1*1) (hB:bz cs=true) (hX:bz x=true):au Tryz.prog 182 [.own 901 m 1 9, .d (dN .i64 i), .own 902 1 1 9] [(901,cs),(902,x)] (.own 1003 (m+1) 1 9) [(1003,nC 1 cs i x)]:=by
 have hby:∀k,k<=1000001->k*16<=140737488355328:=fun k hk=>by omega
 by_cases e:i=m
 ·have hfin:=CT e hcs hx
  subst e;refine aM ah cX func182 rfl rfl rfl rfl rfl (wm) ?_;refine tC ?_;exact RR
 have him:i<m:=by omega
 have g1:=GI him hcs hx;have g2:=fun Z=> @Ji 1 m i cs x him hcs hx Z
 have r1:=Ir him hcs;have r2:=Gx him hcs hx;have hlen:=Bz hi hcs hx;have hik:i*1<=m*1:=Nat.mul_le_mul_right _ hi;have hik2:(i+1)*1<=m*1:=Nat.mul_le_mul_right _ him;refine aM ah cX func182 rfl rfl rfl rfl rfl (wm) ?_;refine tC ?_;refine kv ah him rfl rfl rfl rfl rfl rfl rfl rfl rfl ?_;refine tw ?_
 repeat refine bu (T:=TT) ?_
 refine CE 0 rfl rfl fun c hc1 hc2=>?_
 refine Oe ?_
 by_cases hc:c=m
 ·refine ST ?_
  refine jG ah (r:=1) (p:=i*1) (Nat.min_eq_left (by omega)) ?_ (g1 _) ?_ rfl rfl rfl rfl rfl (.vw rfl rfl rfl) (.of (.own rfl rfl rfl) (Nat.le_refl 1) (List.take_take ..)) rfl rfl ?_
  ·rw[List.length_append,List.length_take,Nat.zero_mul,List.drop_zero];omega
  ·rw[eL hX];rfl
  refine MV ?_;refine jG ah (r:=m-i) (p:=(i+1)*1) (by show min _ _=_;omega) ?_ (g2 _ ?_) ?_ rfl rfl rfl rfl rfl (.vw rfl rfl rfl) (.vs rfl rfl (by omega) ?_ rfl) rfl rfl ?_
  ·rw[List.length_append,List.length_append,List.length_take];omega
  ·exact dp _ _
  ·rw[eL (nu hB _)];rfl
  ·exact Bp
  exact GY
 ·refine MP ?_
  refine L5 ?_;refine qT ah (j1:=902) (j2:=901) (tS:=86) (tR:=4) (by decide) (show 0<m+1-(i+1) by omega) rfl rfl rfl func249 (by kernel_rfl) (by kernel_rfl) (by kernel_rfl) (by kernel_rfl) rfl rfl rfl rfl rfl rfl rfl rfl rfl ?_;refine kG ?_
  refine kO3 ?_
  refine L5 ?_
  refine kO2 ?_
  refine Cd ?_;refine jG ah (r:=m-i) (p:=(0+(i+1))*1) (by show min _ _=_;omega) (by rw[Nat.zero_add];omega) r1 ?_ rfl rfl rfl rfl rfl (.vs rfl rfl rfl) (.vs rfl rfl (by omega) ?_ rfl) rfl rfl ?_
  ·rw[eL (nu hB _)];rfl
  ·exact Bp
  refine kW ?_;refine Cd ?_;refine kO ?_;refine jG ah (r:=1) (p:=(0+i)*1) (Nat.min_eq_left (by omega)) ?_ r2 ?_ rfl rfl rfl rfl rfl (.vs rfl rfl rfl) (.of (.own rfl rfl rfl) (Nat.le_refl 1) (List.take_take ..)) rfl rfl ?_
  ·rw[List.length_append,List.length_take,Nat.zero_add];omega
  ·rw[eL hX];rfl
  exact OJ
theorem I0 (x:List AV) (hx:x.length=1*5) (hB:bz x=true):au Tryz.prog 183 [.nil, .d (dN .i64 0), .own 902 1 5 92] [(902,x)] (.own 1003 1 5 92) [(1003,x)]:=by
 have hcs:([]:List AV).take (0*5)++x.take (1*5)=x:=by rw[List.take_nil,List.nil_append,List.take_of_length_le (Nat.le_of_eq hx)]
 refine aM ah cX func183 rfl rfl rfl rfl rfl (JA) ?_;refine tC ?_;exact RA
theorem Lr {m i:Nat} {cs x:List AV} (hi:i<=m) (hm:0<m) (hl:m<=1000000) (hcs:cs.length=m*5) (hx:x.length=1*5) (hB:bz cs=true) (hX:bz x=true):au Tryz.prog 183 [.own 901 m 5 92, .d (dN .i64 i), .own 902 1 5 92] [(901,cs),(902,x)] (.own 1003 (m+1) 5 92) [(1003,nC 5 cs i x)]:=by
 have hby:∀k,k<=1000001->k*72<=140737488355328:=fun k hk=>by omega
 by_cases e:i=m
 ·have hfin:=CT e hcs hx
  subst e;refine aM ah cX func183 rfl rfl rfl rfl rfl (wm) ?_;refine tC ?_;exact RR
 have him:i<m:=by omega
 have g1:=GI him hcs hx;have g2:=fun Z=> @Ji 5 m i cs x him hcs hx Z
 have r1:=Ir him hcs;have r2:=Gx him hcs hx;have hlen:=Bz hi hcs hx;have hik:i*5<=m*5:=Nat.mul_le_mul_right _ hi;have hik2:(i+1)*5<=m*5:=Nat.mul_le_mul_right _ him;refine aM ah cX func183 rfl rfl rfl rfl rfl (wm) ?_;refine tC ?_;refine kv ah him rfl rfl rfl rfl rfl rfl rfl rfl rfl ?_;refine tw ?_
 repeat refine bu (T:=TT) ?_
 refine CE 0 rfl rfl fun c hc1 hc2=>?_
 refine Oe ?_
 by_cases hc:c=m
 ·refine ST ?_
  refine jG ah (r:=1) (p:=i*5) (Nat.min_eq_left (by omega)) ?_ (g1 _) ?_ rfl rfl rfl rfl rfl (.vw rfl rfl rfl) (.of (.own rfl rfl rfl) (Nat.le_refl 1) (List.take_take ..)) rfl rfl ?_
  ·rw[List.length_append,List.length_take,Nat.zero_mul,List.drop_zero];omega
  ·rw[eL hX];rfl
  refine MV ?_;refine jG ah (r:=m-i) (p:=(i+1)*5) (by show min _ _=_;omega) ?_ (g2 _ ?_) ?_ rfl rfl rfl rfl rfl (.vw rfl rfl rfl) (.vs rfl rfl (by omega) ?_ rfl) rfl rfl ?_
  ·rw[List.length_append,List.length_append,List.length_take];omega
  ·exact dp _ _
  ·rw[eL (nu hB _)];rfl
  ·exact Bp
  exact GY
 ·refine MP ?_
  refine L5 ?_;refine qT ah (j1:=902) (j2:=901) (tS:=130) (tR:=4) (by decide) (show 0<m+1-(i+1) by omega) rfl rfl rfl func251 (by kernel_rfl) (by kernel_rfl) (by kernel_rfl) (by kernel_rfl) rfl rfl rfl rfl rfl rfl rfl rfl rfl ?_;refine kG ?_
  refine kO3 ?_
  refine L5 ?_
  refine kO2 ?_
  refine Cd ?_;refine jG ah (r:=m-i) (p:=(0+(i+1))*5) (by show min _ _=_;omega) (by rw[Nat.zero_add];omega) r1 ?_ rfl rfl rfl rfl rfl (.vs rfl rfl rfl) (.vs rfl rfl (by omega) ?_ rfl) rfl rfl ?_
  ·rw[eL (nu hB _)];rfl
  ·exact Bp
  refine kW ?_;refine Cd ?_;refine kO ?_;refine jG ah (r:=1) (p:=(0+i)*5) (Nat.min_eq_left (by omega)) ?_ r2 ?_ rfl rfl rfl rfl rfl (.vs rfl rfl rfl) (.of (.own rfl rfl rfl) (Nat.le_refl 1) (List.take_take ..)) rfl rfl ?_
  ·rw[List.length_append,List.length_take,Nat.zero_add];omega
  ·rw[eL hX];rfl
  exact OJ
theorem PI {l:EL} (hs:ew l) {n:L8} {q:Nat} {x:L8 × (Rat × Int)} (hq:pp l n<=q) (h:l[q]? =some x):Op.bytesLess x.1 n=false:=by
 have hl:=(List.getElem?_eq_some_iff.1 h).1;have hx:l[pp l n]? =some (l[pp l n]'(by omega)):=List.getElem?_eq_getElem _;have h1:=I9 hx
 by_cases e:pp l n=q
 ·subst e;rw[hx]at h;cases h;exact h1
 ·have h2:=hs _ q _ _ (by omega) hx h
  cases h3:Op.bytesLess x.1 n
  ·rfl
  ·rw[eI h2 h3]at h1;cases h1
theorem QS (l:EL) (hs:ew l) (hl:l.length<=1000000) (s:List UInt8) (hn:∀x∈l,x.1≠s):aa Tryz.prog 181 [il l,dL s] (.tup [dN .i64 (pp l s:Nat),dB false]):=by
 have hp1:=wj l s;have hp2:∀(q:Nat) x,q<pp l s->l[q]? =some x->Op.bytesLess x.1 s=true:=fun q x=>Hg
 have hp3:∀(q:Nat) x,pp l s<=q->l[q]? =some x->Op.bytesLess x.1 s=false:=fun q x=>PI hs
 generalize pp l s=p at *;refine kV func181 ?_
 refine ax (Nat × Nat) (fun x=>x.1<=p/\p<=x.2/\x.2<=l.length) (fun x=>⟨[(0, .d (il l)),(1, .d (dL s)),(4, .d (dN .i64 0)),(5, .d (dB false)),(6, .d (dN .i64 l.length)),(7, .d (dN .i64 x.1)),(8, .d (dN .i64 x.2))],[]⟩) (fun x=>x.2-x.1) (0,l.length) ⟨Nat.zero_le _,hp1,Nat.le_refl _⟩
  kw ?_
 rintro⟨i,j⟩ ⟨h1,h2,h3⟩;dsimp only at h1 h2 h3 ⊢;refine kI ?_
 refine kO2 ?_
 by_cases hij:i<j
 ·exact Ud
 ·have e1:i=p:=by omega
  have e2:j=p:=by omega
  subst e2;subst e1;refine kE ?_;refine tq ?_;refine kI ?_
  refine kO3 ?_
  by_cases hil:i<l.length
  ·have hx:l[i]? =some l[i]:=by simp[hil]
   have e:=hn _ (List.mem_of_getElem? hx);refine kT ?_;refine P5 ?_
   refine kO2 ?_
   exact Ou
  ·refine kE ?_
   exact am
section
open Go.RowKit Go.Lib
theorem BB {S:Nat->Prop} {w:World} {v:Value} (h:AV.M S w (.sl 0 []) v):∃A c,v= .slice A 0 c:=by
 cases h with
 |emp=>exact⟨_,_,rfl⟩
 |sl=>exact⟨_,_,rfl⟩
theorem Jp:aa Tryz.prog 322 [.leaf (.sl 0 [])] (.tup []):=
 ⟨av func322 rfl rfl,fun S w vs hS hv=>by
  match vs,hv with
  | [v],⟨h1,_⟩=>
   obtain⟨A,c,rfl⟩:=BB (show AV.M S w (.sl 0 []) v from h1);refine(Tryz.slices_Sort_string_none A c w).mono ?_;rintro e w' ⟨rfl,rfl⟩;exact⟨_,rfl,⟨[],rfl,rfl,fun i x u h=>by simp at h⟩,Below.refl _ _⟩⟩
theorem wP:aa Tryz.prog 323 [.leaf (.sl 0 [])] (.one (.leaf (.sl 0 []))):=
 ⟨av func323 rfl rfl,fun S w vs hS hv=>by
  match vs,hv with
  | [v],⟨h1,_⟩=>
   have h1:AV.M S w (.sl 0 []) v:=h1;obtain⟨A,c,rfl⟩:=BB h1;refine(Tryz.slices_Compact_string_empty A c w).mono ?_;rintro e w' ⟨rfl,rfl⟩;exact⟨_,rfl,h1,Below.refl _ _⟩⟩
theorem zF:∀x,lV x->fW x<=1000000->aa Tryz.prog 291 [dR x] (.one (.leaf (.sl (ox x).length (aJ (ox x))))):=by
 refine dK fun op na xs nb ys nm args ih hx hs=>?_
 obtain⟨_,_,_,_,_,_,hargs⟩:=hx;rw[fW]at hs;have hge:=pQ args;rw[ox]
 have hz:(if op=2 then [nm]else [])=cond (decide (op=2)) [nm] []:=by
  by_cases h:op=2
  ·rw[if_pos h,decide_eq_true h];rfl
  ·rw[if_neg h,decide_eq_false h];rfl
 rw[hz];clear hz;have hbl:(cond (decide (op=2)) [nm] []).length<=1:=by cases decide (op=2)<;>simp
 generalize hb:decide (op=2)=b at *;obtain⟨al,hal⟩:∃al:Nat->List L8,∀i,al i=cond b [nm] []++fU (args.take i):=⟨_,fun _=>rfl⟩;have hal0:al 0=cond b [nm] []:=by rw[hal];simp[fU]
 have hall:∀i,(al i).length<=1000000:=fun i=>by
  have:=sM args i;rw[hal,List.length_append];omega
 have hsn:∀i (h:i<args.length),al (i+1)=al i++ox args[i]:=fun i h=>by rw[hal,hal,D1 h,List.append_assoc]
 have hend:cond b [nm] []++fU args=al args.length:=by rw[hal,List.take_length]
 rw[hend];have hlenA:=hall args.length;obtain⟨A,hA0⟩:∃A,al args.length=A:=⟨_,rfl⟩;rw[hA0]at hlenA ⊢;rw[<- nv];refine EA ?_;refine kU func291 ?_;refine kR ?_;refine kR ?_;refine oS ⟨[(3,zP 5001 (al 0)),(1, .box 0 0),(2, .nil)],[(5001,F1 (al 0)),(0,some (ab op na xs nb ys nm args.length (d7 args)))]⟩ (fun s' hw2=>?_) (fun R hR _=>?_)
 ·clear hb hal hal0 hend
  refine bu (T:=TT) ?_;refine ez hw2 rfl ?_;refine kW ?_
  refine ax Nat (fun i=>i<=args.length) (fun i=>⟨[(3,zP 5001 (al i)),(2, .nil),(15, .d (.leaf (.sl args.length (d7 args)))),(16, .d (dN .i64 args.length)),(17, .d (dN .i64 i))],[(5001,F1 (al i))]⟩) (fun i=>args.length-i) 0 (Nat.zero_le _)
   (by dsimp only;generalize al 0=B;cases B<;>first|exact weak ⟨rfl,rfl,rfl,rfl,rfl,trivial⟩ trivial rfl|exact weak ⟨rfl,rfl,rfl,rfl,rfl,trivial⟩ ⟨rfl,trivial⟩ rfl) ?_
  intro i hi
  by_cases hlt:i<args.length
  ·obtain⟨o1,na1,xs1,nb1,ys1,nm1,n1,cs1,hA⟩:=aN args[i]
   have hx:args[i]? =some args[i]:=by simp[hlt]
   have hat:∀(j:Nat) (a:AV),(ab o1 na1 xs1 nb1 ys1 nm1 n1 cs1)[j]? =some a->(d7 args)[i*7+j]? =some a:=fun j a h=>dz args i args[i] hx j a (by rw[hA];exact h)
   have c:=ih args[i] (List.getElem_mem hlt) (hargs _ (List.getElem_mem hlt)) (by have:=mL (List.getElem_mem hlt);omega);rw[show dR args[i]= .agg (ab o1 na1 xs1 nb1 ys1 nm1 n1 cs1) from congrArg DV.agg hA]at c;have hsi:=hsn i hlt;have hl2:=hall (i+1);rw[hsi]at hl2;generalize ox args[i]=Y at *;generalize al i=B at *;cases B with
   |nil=>
    cases Y with
    |nil=>
     refine B9 ?_;refine LO ah rfl rfl rfl rfl rfl rfl rfl rfl ?_;refine kW ?_;refine⟨i+1,hlt,by omega,?_⟩;rw[hsi];exact weak ⟨rfl,rfl,rfl,rfl,aA (by omega) (by omega),trivial⟩ trivial rfl
    |cons y r=>
     refine B9 ?_;refine eT 5002 (m1:=0) (m2:=(y::r).length) ah (Nat.succ_pos _) (Nat.le_trans (Nat.mul_le_mul_right _ (show 0+(y::r).length<=1000000 by simp at hl2 ⊢;omega)) (by decide)) (by simp[aJ]) rfl rfl rfl rfl rfl rfl rfl rfl rfl rfl (.nil rfl rfl) rfl rfl (by rw[tZ];rfl) ?_;refine kW ?_;refine⟨i+1,hlt,by omega,?_⟩;rw[hsi]
     refine Eq.mpr (congrArg (aU _) (Bk [(2, .nil),(15, .d (.leaf (.sl args.length (d7 args)))),(16, .d (dN .i64 args.length)),(17, .d (dN .i64 (i+1:Nat)))] [] 3 5001 ([]:List L8) y r)) (aU.trans (b:=⟨[(3, .own 5002 (0+(y::r).length) 1 9),(2, .nil),(15, .d (.leaf (.sl args.length (d7 args)))),(16, .d (dN .i64 args.length)),(17, .d (dN .i64 (i+1:Nat)))],[(5002,some ((aJ ([]:List L8)).take (0*1)++aJ (y::r)))]⟩) (weak ⟨rfl,rfl,rfl,rfl,aA (by omega) (by omega),trivial⟩ ⟨rfl,trivial⟩ rfl) ((aT (q:=3) (j:=5002) (j':=5001) rfl rfl rfl rfl).trans kw))
   |cons a B=>
    cases Y with
    |nil=>
     refine B9 ?_;refine HX ah rfl rfl rfl rfl rfl rfl rfl rfl rfl ?_;refine kW ?_;refine⟨i+1,hlt,by omega,?_⟩;rw[hsi,List.append_nil];exact weak ⟨rfl,rfl,rfl,rfl,aA (by omega) (by omega),trivial⟩ ⟨rfl,trivial⟩ rfl
    |cons y r=>
     refine B9 ?_;refine eT 5002 (m1:=(a::B).length) (m2:=(y::r).length) ah (Nat.succ_pos _) (Nat.le_trans (Nat.mul_le_mul_right _ (show(a::B).length+(y::r).length<=1000000 by simp at hl2 ⊢;omega)) (by decide)) (by simp[aJ]) rfl rfl rfl rfl rfl rfl rfl rfl rfl rfl (.own rfl rfl) rfl rfl (by rw[tZ];rfl) ?_;refine kW ?_;refine⟨i+1,hlt,by omega,?_⟩;rw[hsi]
     refine Eq.mpr (congrArg (aU _) (Bk [(2, .nil),(15, .d (.leaf (.sl args.length (d7 args)))),(16, .d (dN .i64 args.length)),(17, .d (dN .i64 (i+1:Nat)))] [] 3 5001 (a::B) y r)) (aU.trans (b:=⟨[(3, .own 5002 ((a::B).length+(y::r).length) 1 9),(2, .nil),(15, .d (.leaf (.sl args.length (d7 args)))),(16, .d (dN .i64 args.length)),(17, .d (dN .i64 (i+1:Nat)))],[(5002,some ((aJ (a::B)).take ((a::B).length*1)++aJ (y::r)))]⟩) (weak ⟨rfl,rfl,rfl,rfl,aA (by omega) (by omega),trivial⟩ ⟨rfl,trivial⟩ rfl) ((aT (q:=3) (j:=5002) (j':=5001) rfl rfl rfl rfl).trans kw))
  ·have hO:A=al i:=by rw[show i=args.length by omega,hA0]
   generalize al i=B at *;cases B with
   |nil=>
    refine ut ?_;refine kQ (Jp) ?_;refine kC (wP) ?_;refine fO ?_;rw[hO,nv];rfl
   |cons a r=>
    have hlB:(a::r).length<=1000000:=by rw[<- hO];exact hlenA
    have ct1:au Tryz.prog 322 [.own 5001 (a::r).length 1 9] [(5001,aJ (a::r))] (.v (.tup [])) [(5001,aJ ((a::r).mergeSort fun x y=>decide (x<=y)))]:=(KF hlB).swap 901 5001 rfl;have hms:((a::r).mergeSort fun x y=>decide (x<=y)).length=(a::r).length:=List.length_mergeSort _;have ct2:au Tryz.prog 323 [.own 5001 ((a::r).mergeSort fun x y=>decide (x<=y)).length 1 9] [(5001,aJ ((a::r).mergeSort fun x y=>decide (x<=y)))] (.own 5001 (Lib.compact ((a::r).mergeSort fun x y=>decide (x<=y))).length 1 9) [(5001,aJ (Lib.compact ((a::r).mergeSort fun x y=>decide (x<=y))++List.replicate (((a::r).mergeSort fun x y=>decide (x<=y)).length-(Lib.compact ((a::r).mergeSort fun x y=>decide (x<=y))).length) []))]:=(At (by omega)).swap 901 5001 rfl;rw[hms]at ct2
    have hcut:∀M:List L8,(aJ (Lib.compact M++List.replicate ((a::r).length-(Lib.compact M).length) [])).take (Lib.compact M).length=aJ (Lib.compact M):=fun M=>by
     rw[ni,List.take_left' (im _)]
    generalize hM:((a::r).mergeSort fun x y=>decide (x<=y))=M at *;have hcM:=hcut M;refine ut ?_;refine kZ (ct1) ?_;refine kD (ct2) ?_;refine Db ah rfl rfl rfl rfl ((b5 (q:=2) rfl rfl).trans (GU (q:=2) (Lib.compact M).length rfl)) ?_;refine fO ?_;rw[hO,hM,<- hcM];rfl
 ·cases b
  ·refine kI ?_
   refine kO2 ?_
   refine kB false ?_ ?_
   ·exact hb
   refine kW ?_;refine hR _ ?_;rw[hal0];exact kw
  ·refine kI ?_
   refine kO2 ?_
   refine kB true ?_ ?_
   ·exact hb
   refine kG ?_
   refine kO4 ?_
   refine Uj ?_;refine hR _ ?_;rw[hal0];exact kw
end
theorem AZ (l:Tb) (hs:JP l) (hl:l.length<=1000000):aa Tryz.prog 242 [gO l] (.one (dN .i64 (Df l))):=by
 by_cases h200:200<l.length
 ·refine kU func242 ?_
  refine Gr ?_;refine fO ?_;exact congrArg (fun z=>RV.one (dN .i64 z)) (show(3:Int)=Df l by unfold Df;rw[if_pos h200])
 have hv:Df l=FB l 0 (l.drop 0):=by unfold Df;rw[if_neg h200];rfl
 rw[hv];clear hv;refine kU func242 ?_;refine tw ?_;refine kW ?_;refine ax Nat (fun i=>i<=l.length/\FB l 0 (l.drop 0)=FB l i (l.drop i)) (fun i=>⟨[(0, .d (gO l)),(9, .d (gO l)),(10, .d (dN .i64 l.length)),(11, .d (dN .i64 i))],[]⟩) (fun i=>l.length-i) 0 ⟨Nat.zero_le _,rfl⟩ kw ?_;rintro i ⟨hi,hv⟩;refine kI ?_
 by_cases hlt:i<l.length
 ·refine kT ?_
  obtain⟨p,hx⟩:∃p,l[i]? =some p:=⟨l[i],by simp[hlt]⟩;rw[P4 hx]at hv;have hp:=List.mem_of_getElem? hx;obtain⟨hn,hsx⟩:=hs p hp;obtain⟨o1,na1,xs1,nb1,ys1,nm1,n1,cs1,hA,hB⟩:=eM p;have hat:∀(j:Nat) (a:AV),(eF p.1 o1 na1 xs1 nb1 ys1 nm1 n1 cs1)[j]? =some a->(Fg l)[i*8+j]? =some a:=fun j a h=>j4 l i p hx j a (by rw[hB];exact h)
  have c1:=fB p.1 (by omega);have c2:=gP p.2 hsx.wd hsx.lm (by have:=hsx.sz;omega);rw[show dR p.2= .agg (ab o1 na1 xs1 nb1 ys1 nm1 n1 cs1) from congrArg DV.agg hA]at c2;have c3:=qP l p.1 hl;have hf:=zn.2 ⟨p,hp,rfl⟩;rw[show QF l p.1=(l9 l p.1:Nat) by unfold QF;rw[if_pos hf]]at c3;rcases Bool.eq_false_or_eq_true (pB p.1)with hb|hb
  ·rw[if_pos hb]at hv
   rw[hb]at c1;refine Rq ?_;refine gG ?_;refine kC (c2) ?_
   by_cases h0:jg p.2=0
   ·rw[if_pos h0]at hv
    refine xp ?_;refine kB false ?_ ?_
    ·exact bne_eq_false_iff_eq.2 h0
    refine kW ?_;refine kC (c3) ?_;refine kO ?_
    by_cases h5:l9 l p.1<i
    ·rw[if_pos h5]at hv
     refine kT ?_;refine fO ?_;exact Cl
    ·rw[if_neg h5]at hv
     refine kY ?_;exact⟨i+1,⟨hlt,hv⟩,by omega,weak ⟨rfl,rfl,rfl,aA (by omega) (by omega),trivial⟩ trivial rfl⟩
   ·rw[if_neg h0]at hv
    refine xp ?_;refine kB true ?_ ?_
    ·exact bne_iff_ne.2 h0
    refine fO ?_;exact Cl
  ·rw[if_neg (by rw[hb];decide)]at hv
   rw[hb]at c1;refine Ev ?_;refine kC (c1) ?_;refine fO ?_;exact Cl
 ·refine kE ?_
  refine fO ?_;have e:l.drop i=[]:=List.drop_of_length_le (by omega);rw[e]at hv;exact Cl
theorem ET (l:List L8) (n:L8) (hl:l.length<=1000000):aa Tryz.prog 293 [zd l,dL n] (.one (dN .i64 (if l.findIdx (fun x=>decide (n=x))<l.length then((l.findIdx fun x=>decide (n=x):Nat):Int)else -1))):=by
 have hf:=List.findIdx_le_length (p:=fun x=>decide (n=x)) (xs:=l)
 have hn:∀(i:Nat) (hi:i<l.length),i<l.findIdx (fun x=>decide (n=x))-> ¬n=l[i]:=fun i hi h=>by
  exact tY
 have hy:∀(h:l.findIdx (fun x=>decide (n=x))<l.length),n=(l[l.findIdx (fun x=>decide (n=x))]):=fun h=>of_decide_eq_true (List.findIdx_getElem (p:=fun x=>decide (n=x)) (xs:=l) (w:=h))
 generalize l.findIdx (fun x=>decide (n=x))=f at *;refine kV func293 ?_
 refine ax Nat (fun i=>i<=f) (fun i=>⟨[(0, .d (zd l)),(1, .d (dL n)),(4, .d (dN .i64 0)),(7, .d (dN .i64 l.length)),(8, .d (dN .i64 i))],[]⟩) (fun i=>l.length-i) 0 (Nat.zero_le _)
  kw ?_
 intro i hi;refine kI ?_
 by_cases hlt:i<l.length
 ·refine kT ?_
  have hx:l[i]? =some l[i]:=by simp[hlt]
  have hni:=hn i hlt;have hyi:∀h:i=f,n=l[i]:=fun h=>by subst h;exact hy hlt
  generalize l[i]=q at *
  by_cases e:n=q
  ·have e2:i=f:=by
    by_cases e3:i<f
    ·exact absurd e (hni e3)
    ·omega
   subst e2;rw[if_pos hlt];refine Gs ?_;refine aD rfl rfl rfl rfl rfl rfl rfl (bv (a:=n) (b:=q) e) ?_;exact am
  ·refine Gs ?_
   refine aD rfl rfl rfl rfl rfl rfl rfl (b7 (a:=n) (b:=q) e) ?_;refine Ig ?_
   by_cases e3:i=f
   ·exact absurd (hyi e3) e
   ·omega
 ·rw[if_neg (by omega)]
  refine kE ?_;exact am
theorem EY (l:List L8) (n:L8) (hl:l.length<=1000000):∃i:Int,(0<=i↔n∈l)/\aa Tryz.prog 293 [zd l,dL n] (.one (dN .i64 i)):=by
 refine⟨_,?_,ET l n hl⟩;have:=List.findIdx_lt_length (p:=fun x=>decide (n=x)) (xs:=l);exact OB
theorem iY (l:List L8) (n:L8) (hl:l.length<=1000000):aa Tryz.prog 244 [zd l,dL n] (.one (dB (decide (n∈l)))):=by
 obtain⟨i,h1,c⟩:=EY l n hl
 by_cases h:n∈l
 ·rw[decide_eq_true h]
  have:=h1.2 h;refine kV func244 ?_;refine kC (c) ?_;refine kT ?_;exact am
 ·rw[decide_eq_false h]
  have:=fun h2=>h (h1.1 h2)
  refine kV func244 ?_;refine kC (c) ?_;refine kE ?_;exact am
abbrev EK (ns:List L8):List AV:=[.sl ns.length (aJ ns)]
theorem vy {ns:List L8}:di [(900,EK ns)] [(900,EK ns)]:=di.one (Nat.le_refl 1)
theorem EU (ns:List L8) (n:L8) (hl:ns.length<=1000000):au Tryz.prog 292 [.d (dL n), .box 900 0] [(900,EK ns)] (.v (.one (dB (!decide (n∈ns))))) [(900,EK ns)]:=by
 have c:=iY ns n hl;generalize decide (n∈ns)=b at *;cases b
 all_goals(
  refine aM ah cX func292 rfl rfl rfl rfl rfl (vy) ?_;refine kR ?_;refine kI ?_
  refine kO2 ?_
  refine kQ (c) ?_;exact⟨⟨_,rfl,rfl⟩,⟨rfl,trivial⟩⟩)
theorem sJ {fid:FuncId} {p:L8->Bool} {ns:List L8} (l:List L8) (hp:∀x∈l,au Tryz.prog fid [.d (dL x), .box 900 0] [(900,EK ns)] (.v (.one (dB (p x)))) [(900,EK ns)]) (hl:l.length<=1000000):au Tryz.prog 321 [.d (zd l), .clo (.func fid) [] [.box 900 0]] [(900,EK ns)] (.v (.one (dN .i64 (if l.findIdx p<l.length then((l.findIdx p:Nat):Int)else -1)))) [(900,EK ns)]:=by
 have hf:=List.findIdx_le_length (p:=p) (xs:=l)
 have hn:∀(i:Nat) (hi:i<l.length),i<l.findIdx p->p l[i]=false:=fun i hi h=>by
  exact tY
 have hy:∀(h:l.findIdx p<l.length),p (l[l.findIdx p])=true:=fun h=>List.findIdx_getElem
 generalize l.findIdx p=f at *;refine aM ah cX func321 rfl rfl rfl rfl rfl (vy) ?_;refine kW ?_
 refine ax Nat (fun i=>i<=f) (fun i=>⟨[(0, .d (zd l)),(1, .clo (.func fid) [] [.box 900 0]),(4, .d (dN .i64 0)),(7, .d (dN .i64 l.length)),(8, .d (dN .i64 i))],[(900,some (EK ns))]⟩) (fun i=>l.length-i) 0 (Nat.zero_le _)
  kw ?_
 intro i hi;refine kI ?_
 by_cases hlt:i<l.length
 ·refine kT ?_
  have hx:l[i]? =some l[i]:=by simp[hlt]
  have c:=hp l[i] (List.getElem_mem hlt);have hni:=hn i hlt;have hyi:∀h:i=f,p l[i]=true:=fun h=>by subst h;exact hy hlt
  generalize l[i]=q at *;refine Gs ?_;exact HI
 ·rw[if_neg (by omega)]
  refine kE ?_;exact jt
theorem nS {fid:FuncId} {p:L8->Bool} {ns:List L8} (l:List L8) (hp:∀x∈l,au Tryz.prog fid [.d (dL x), .box 900 0] [(900,EK ns)] (.v (.one (dB (p x)))) [(900,EK ns)]) (hl:l.length<=1000000):au Tryz.prog 290 [.d (zd l), .clo (.func fid) [] [.box 900 0]] [(900,EK ns)] (.v (.one (dB (l.any p)))) [(900,EK ns)]:=by
 have c:=sJ l hp hl
 have hlt:(l.findIdx p<l.length)↔l.any p=true:=by
  rw[List.any_eq_true];exact List.findIdx_lt_length
 cases hb:l.any p with
 |true=>
  rw[if_pos (hlt.2 hb)]at c;refine aM ah cX func290 rfl rfl rfl rfl rfl (vy) ?_;refine kW ?_;refine kD (c) ?_;refine kT ?_;exact jt
 |false=>
  rw[if_neg (fun h=>by rw[hlt.1 h]at hb;cases hb)]at c;refine aM ah cX func290 rfl rfl rfl rfl rfl (vy) ?_;refine kW ?_;refine kD (c) ?_;exact jt
theorem J7 (x:Rx) (ns:List L8):(!((ox x).any fun n=>!decide (n∈ns)))=wq x ns:=by
 unfold wq
 induction ox x with
 |nil=>rfl
 |cons a r ih=>rw[List.any_cons,List.all_cons,Bool.not_or,ih,Bool.not_not]
theorem lR (q:Pm) (ns:List L8) (hq:AF q.2) (hl:ns.length<=1000000):aa Tryz.prog 243 [KM q,zd ns] (.one (dB (wq q.2 ns))):=by
 have cn:=zF q.2 hq.wd (by have:=hq.sz;omega);have cc:=(nS (fid:=292) (p:=fun n=>!decide (n∈ns)) (ns:=ns) (ox q.2) (fun x _=>EU ns x hl) (Nat.le_trans (Da q.2) (by have:=hq.sz;omega))).swap 900 1 rfl;have hr:=J7 q.2 ns;obtain⟨o1,na1,xs1,nb1,ys1,nm1,n1,cs1,hA,hB⟩:=eM q;rw[show KM q= .agg (eF q.1 o1 na1 xs1 nb1 ys1 nm1 n1 cs1) from congrArg DV.agg hB];rw[show dR q.2= .agg (ab o1 na1 xs1 nb1 ys1 nm1 n1 cs1) from congrArg DV.agg hA]at cn;rw[<- hr];clear hr;generalize((ox q.2).any fun n=>!decide (n∈ns))=b at *;generalize ox q.2=ms at *;cases b
 all_goals(
  refine kV func243 ?_;refine kC (cn) ?_;refine kO ?_;refine kD (cc) ?_;exact kF)
end Go.Proofs.YtnchbpoopnjghaaGreatDoor
