/- Parts of a proof: contracts of the functions that the laws reach. -/
import Derived.Test.YtnchbpoopnjghaaGreatDoorDZ10
set_option maxHeartbeats 100000000
set_option linter.all false
namespace Go.Proofs.YtnchbpoopnjghaaGreatDoor
open Go.RowKit
abbrev Pm:=L8 × Rx
abbrev Tb:=List Pm
def l9:Tb->L8->Nat
 | [],_=>0
 |p::r,n=>if p.1=n then 0 else l9 r n+1
theorem zn:∀{l:Tb} {n:L8},l9 l n<l.length↔ ∃p∈l,p.1=n
 | [],n=>by simp[l9]
 |p::r,n=>by
  have ih:=zn (l:=r) (n:=n);unfold l9
  split
  ·rename_i h;simp[h]
  ·rename_i h
   simp only[List.length_cons,Nat.add_lt_add_iff_right,ih,List.mem_cons,exists_eq_or_imp,h,false_or]
theorem Fh:∀{l:Tb} {n:L8},l9 l n<l.length-> ∃p,l[l9 l n]? =some p/\p.1=n
 | [],n,h=>by simp[l9]at h
 |p::r,n,h=>by
  unfold l9 at h ⊢
  split
  ·rename_i e;exact⟨p,rfl,e⟩
  ·rename_i e
   rw[if_neg e]at h;obtain⟨q,h1,h2⟩:=Fh (l:=r) (n:=n) (by simpa using h);exact⟨q,by simpa using h1,h2⟩
theorem iZ:∀{l:Tb} {n:L8} {i:Nat} {p:Pm},i<l9 l n->l[i]? =some p->p.1≠n
 | [],n,i,p,_,h=>by simp at h
 |q::r,n,i,p,hi,h=>by
  unfold l9 at hi
  split at hi
  ·omega
  ·rename_i e
   cases i with
   |zero=>simp at h;subst h;exact e
   |succ i=>exact iZ (l:=r) (n:=n) (i:=i) (by omega) (by simpa using h)
theorem O6 {l:Tb} {n:L8} {i:Nat} {p:Pm} (h:l[i]? =some p) (hp:p.1=n) (hb:∀(j:Nat) (q:Pm),j<i->l[j]? =some q->q.1≠n):l9 l n=i:=by
 have h1:¬i<l9 l n:=fun h2=>iZ h2 h hp
 have h2:l9 l n<l.length:=zn.2 ⟨p,List.mem_of_getElem? h,hp⟩
 obtain⟨q,h3,h4⟩:=Fh h2;rcases Nat.lt_or_ge (l9 l n) i with h5|h5
 ·exact absurd h4 (hb _ q h5 h3)
 ·omega
def QF (l:Tb) (n:L8):Int:=if l9 l n<l.length then(l9 l n:Int)else -1
def FB (l:Tb):Nat->Tb->Int
 |_,[]=>0
 |i,p::r=>if pB p.1=true then(if jg p.2=0 then(if l9 l p.1<i then 5 else FB l (i+1) r)else jg p.2)else 1
def Df (l:Tb):Int:=if 200<l.length then 3 else FB l 0 l
structure ze (l:Tb):Prop where
 len:l.length<=200
 nm:∀p∈l,pB p.1=true
 ex:∀p∈l,jg p.2=0
 nd:∀(i j:Nat) (p q:Pm),l[i]? =some p->l[j]? =some q->p.1=q.1->i=j
theorem IU (l:Tb):∀(i:Nat) (r:Tb),l.drop i=r->FB l i r=0-> ∀(j:Nat) (p:Pm),i<=j->l[j]? =some p->pB p.1=true/\jg p.2=0/\j<=l9 l p.1
 |i,[],h,_,j,p,hj,hp=>by
  have:=congrArg List.length h;have h1:=(List.getElem?_eq_some_iff.1 hp).1
  simp at this
  omega
 |i,q::r,h,h0,j,p,hj,hp=>by
  have hq:l[i]? =some q:=by
   have:=congrArg (·[0]?) h
   simpa using this
  unfold FB at h0
  split at h0
  ·rename_i h1
   split at h0
   ·rename_i h2
    split at h0
    ·cases h0
    ·rename_i h3
     by_cases e:j=i
     ·subst e;rw[hq]at hp;cases hp;exact⟨h1,h2,by omega⟩
     ·exact IU l (i+1) r (by rw[<- List.drop_drop,h];rfl) h0 j p (by omega) hp
   ·rename_i h2;exact absurd h0 h2
  ·cases h0
theorem uT {l:Tb} (h:Df l=0):ze l:=by
 unfold Df at h
 split at h
 ·cases h
 rename_i hl
 have key:=IU l 0 l rfl h;refine⟨by omega,fun p hp=>?_,fun p hp=>?_,?_⟩
 ·obtain⟨i,hi⟩:=List.getElem?_of_mem hp;exact(key i p (Nat.zero_le _) hi).1
 ·obtain⟨i,hi⟩:=List.getElem?_of_mem hp;exact(key i p (Nat.zero_le _) hi).2.1
 ·intro i j p q hi hj e
  have h1:=(key i p (Nat.zero_le _) hi).2.2;have h2:=(key j q (Nat.zero_le _) hj).2.2;rw[<- e]at h2;have h3:¬i<l9 l p.1:=fun h4=>iZ h4 hi rfl
  have h4:¬j<l9 l p.1:=fun h4=>iZ h4 hj e.symm
  omega
theorem ze.fd {l:Tb} (h:ze l) {i:Nat} {p:Pm} (hi:l[i]? =some p):l9 l p.1=i:=
 O6 hi rfl fun j q hj hq e=>by have:=h.nd _ _ _ _ hq hi e;omega
def wq (x:Rx) (out:List L8):Bool:=(ox x).all fun n=>decide (n∈out)
theorem L6 {x:Rx} {out:List L8}:wq x out=true↔ ∀n∈ox x,n∈out:=by simp[wq]
def E3 (out:List L8) (p:Pm):Bool:=!(decide (p.1∈out)) && wq p.2 out
def sx (out:List L8) (nx:L8) (p:Pm):L8:=if E3 out p=true/\(nx=[]∨Op.bytesLess p.1 nx=true)then p.1 else nx
def Fc (l:Tb) (out:List L8):L8:=l.foldl (sx out) []
theorem zR {out:List L8}:∀(l:Tb) (nx:L8),l.foldl (sx out) nx=nx∨ ∃p∈l,E3 out p=true/\l.foldl (sx out) nx=p.1
 | [],nx=> .inl rfl
 |p::r,nx=>by
  simp only[List.foldl_cons]
  by_cases h:E3 out p=true/\(nx=[]∨Op.bytesLess p.1 nx=true)
  ·rw[show sx out nx p=p.1 from if_pos h]
   rcases zR r p.1 with h1| ⟨q,hq,h1,h2⟩
   ·exact .inr ⟨p,by simp,h.1,h1⟩
   ·exact .inr ⟨q,by simp[hq],h1,h2⟩
  ·rw[show sx out nx p=nx from if_neg h]
   rcases zR r nx with h1| ⟨q,hq,h1,h2⟩
   ·exact .inl h1
   ·exact .inr ⟨q,by simp[hq],h1,h2⟩
theorem LK {l:Tb} {out:List L8} (h:Fc l out≠[]):∃p∈l,E3 out p=true/\Fc l out=p.1:=by
 rcases zR (out:=out) l []with h1|h1
 ·exact absurd h1 h
 ·exact h1
def mw (l:Tb):Nat->List L8->Option (List L8)
 |0,out=>some out
 |k+1,out=>if Fc l out=[]then none else mw l k (out++[Fc l out])
def fK (l:Tb):List L8 × Int:=
 if Df l=0 then(if l.all (fun p=>wq p.2 (l.map (·.1)))=true then(match mw l l.length []with|some o=>(o,0)|none=>([],9))else([],4))else([],Df l)
structure nZ (l:Tb) (o:List L8):Prop where
 nd:o.Nodup
 mem:∀n∈o,∃p∈l,p.1=n
 up:∀(i:Nat) (n:L8) (p:Pm),o[i]? =some n->p∈l->p.1=n-> ∀m∈ox p.2,m∈o.take i
theorem nZ.nil (l:Tb):nZ l []:=⟨List.nodup_nil,fun n h=>(by cases h),fun i n p h=>by simp at h⟩
theorem nZ.snoc {l:Tb} (hl:ze l) {o:List L8} (h:nZ l o) {p:Pm} (hp:p∈l) (hc:E3 o p=true):nZ l (o++[p.1]):=by
 unfold E3 at hc
 simp only[Bool.and_eq_true,Bool.not_eq_true',decide_eq_false_iff_not]at hc
 refine⟨?_,fun n hn=>?_,fun i n q hi hq e m hm=>?_⟩
 ·rw[List.nodup_append]
  refine⟨h.nd,List.nodup_cons.2 ⟨by simp,List.nodup_nil⟩,fun a ha b hb=>?_⟩;rw[List.mem_singleton.1 hb];exact fun e=>hc.1 (e ▸ ha)
 ·rcases List.mem_append.1 hn with hn|hn
  ·exact h.mem n hn
  ·exact⟨p,hp,(List.mem_singleton.1 hn).symm⟩
 ·rcases Nat.lt_or_ge i o.length with hlt|hge
  ·rw[List.getElem?_append_left hlt]at hi
   rw[List.take_append_of_le_length (by omega)];exact h.up i n q hi hq e m hm
  ·rw[List.getElem?_append_right hge]at hi
   have hi0:i=o.length:=by
    have:=(List.getElem?_eq_some_iff.1 hi).1
    simp at this
    omega
   subst hi0
   simp at hi
   subst hi;obtain⟨a,ha⟩:=List.getElem?_of_mem hp;obtain⟨b,hb⟩:=List.getElem?_of_mem hq;have:=hl.nd _ _ _ _ hb ha e;subst this;rw[ha]at hb;cases hb;rw[List.take_left']
   ·exact L6.1 hc.2 m hm
   ·rfl
theorem wZ {l:Tb} (hl:ze l):∀(k:Nat) (out o:List L8),nZ l out->mw l k out=some o->nZ l o/\o.length=out.length+k
 |0,out,o,h,e=>by cases e;exact⟨h,rfl⟩
 |k+1,out,o,h,e=>by
  unfold mw at e
  split at e
  ·cases e
  ·rename_i hn
   obtain⟨p,hp,hc,hx⟩:=LK hn;rw[hx]at e;obtain⟨h1,h2⟩:=wZ hl k _ o (h.snoc hl hp hc) e;exact⟨h1,by simp at h2;omega⟩
theorem BY {l:Tb} {o:List L8} (h:fK l=(o,0)):ze l/\nZ l o/\o.length=l.length:=by
 unfold fK at h
 split at h
 ·rename_i hv
  split at h
  ·split at h
   ·rename_i o' ho
    cases h;have:=wZ (uT hv) l.length [] o (.nil l) ho;exact⟨uT hv,this.1,by simpa using this.2⟩
   ·cases h
  ·cases h
 ·rename_i hv
  injection h with h1 h2
  exact absurd h2 hv
theorem nY:∀{a b:List L8},a.Nodup->(∀x∈a,x∈b)->a.length<=b.length
 | [],_,_,_=>Nat.zero_le _
 |x::a,b,h,hs=>by
  have hx:=hs x (by simp);obtain⟨h1,h2⟩:=List.nodup_cons.1 h;have:=nY (a:=a) (b:=b.erase x) h2 fun y hy=>(List.mem_erase_of_ne (fun e:y=x=>h1 (by rw[<- e];exact hy))).2 (hs y (List.mem_cons_of_mem _ hy))
  rw[List.length_erase_of_mem hx]at this;have:=List.length_pos_of_mem hx
  simp only[List.length_cons]
  omega
theorem nZ.all {l:Tb} {o:List L8} (h:nZ l o) (hlen:o.length=l.length):∀p∈l,p.1∈o:=fun p hp=>by
 refine Classical.byContradiction fun hn=>?_
 have:=nY (a:=p.1::o) (b:=l.map (·.1)) (List.nodup_cons.2 ⟨hn,h.nd⟩) fun x hx=>by
  rcases List.mem_cons.1 hx with rfl|hx
  ·exact List.mem_map.2 ⟨p,hp,rfl⟩
  ·obtain⟨q,hq,e⟩:=h.mem x hx;exact List.mem_map.2 ⟨q,hq,e⟩
 simp at this
 omega
theorem KA {l:Tb} {out:List L8} {i:Nat} {p:Pm} (h:l[i]? =some p):(l.take (i+1)).foldl (sx out) []=sx out ((l.take i).foldl (sx out) []) p:=by
 have hi:=(List.getElem?_eq_some_iff.1 h).1;have e:=(List.getElem?_eq_some_iff.1 h).2;rw[List.take_succ_eq_append_getElem hi,List.foldl_append,e];rfl
section
variable {P:Program} {T:TypeId->Option Ty} {n:Nat} {ops:Array Oper} {id:Nat} {draw:Bool} {K:AS->Prop} {s:AS} {k:Nat} {o:Oper} {os:List Oper} {fps:List FP}
theorem m7 {P:Program} {w:World} {t et q:Nat} (hu:P.underlying t=some (.slice et)) (hks:(P.info? et).map (·.size)=some q) (A:Option Addr) {m i c:Nat} (ik:IntKind) (hi:i<=m):
 (Instr.sliceAt t (.slice A m c) (some (.int ik (i:Nat))) none none).run P w= .ok (.slice (if c=i then A else A.map (·.add (i*q))) (m-i) (c-i)) w:=by
 have hib:(0:Int)<=(i:Int)/\(i:Int)<=(m:Nat):=⟨by omega,by omega⟩;unfold Instr.sliceAt
 simp only[Sem.run_bind,run_underlying hu w,Result.andThen_ok]
 unfold Instr.slice
 simp only[Sem.run_bind,run_underlying hu w,Result.andThen_ok,Instr.sliceBounds,Instr.sliceBound,Sem.run_pure,asIntOf]
 rw[if_pos hib]
 simp only[Sem.run_pure,Result.andThen_ok,Int.toNat_natCast]
 rw[bA hks w];rfl
theorem qN {P:Program} {w:World} {t et q:Nat} (hu:P.underlying t=some (.slice et)) (hks:(P.info? et).map (·.size)=some q) (A:Option Addr) {m i c:Nat} (ik:IntKind) (hi:i<=c):
 (Instr.sliceAt t (.slice A m c) none (some (.int ik (i:Nat))) none).run P w= .ok (.slice (if c=0 then A else A.map (·.add (0*q))) i c) w:=by
 have hib:(0:Int)<=(i:Int)/\(i:Int)<=(c:Nat):=⟨by omega,by omega⟩;unfold Instr.sliceAt
 simp only[Sem.run_bind,run_underlying hu w,Result.andThen_ok]
 unfold Instr.slice
 simp only[Sem.run_bind,run_underlying hu w,Result.andThen_ok,Instr.sliceBounds,Instr.sliceBound,Sem.run_pure,asIntOf]
 simp only[Bool.false_eq_true,if_false,if_true]
 rw[if_pos hib]
 simp only[Sem.run_pure,Result.andThen_ok,Int.toNat_natCast]
 rw[bA hks w];rfl
theorem kv (hT:∀t d,T t=some d->aY P t d) {t:TypeId} {ty:Ty} {x y:Operand} {j et q m i:Nat} {ik:IntKind} {cs:List AV} (hi:i<m) (h1:gd ops s o=some true) (h2:o.op= .slice t x (some y) none none) (h5:T t=some ty) (h6:ty.elem=some (et,q)) (h7:s.ev x= .own j m q et) (hb:s.bx j=some cs) (h8:s.ev y= .d (.leaf (.val (.int ik (i:Nat)))))
 (h3:aG n o.dst=true) (h4:eY draw ops (az ops o ⟨.vw j i (m-i) q,none⟩ [j]) k fps=true) (h:aq P T n ops id draw K (k+1) os (s.eff o.dst ⟨.vw j i (m-i) q,none⟩) (az ops o ⟨.vw j i (m-i) q,none⟩ [j]::fps)):aq P T n ops id draw K k (o::os) s fps:=by
 refine .run h1 (.gen fun s2 ht hrb=>?_) h3 h4 h;have hx:=(aw ht (x:=x) (by simp[h2,Op.operands])).trans h7;have hy:=(aw ht (x:=y) (by simp[h2,Op.operands])).trans h8;have hbj:=(ba (hrb j (by simp))).trans hb;obtain⟨u,hu,_,hel,_⟩:=(hT _ _ h5).und;obtain⟨rfl,hks⟩:=hel et q h6;refine an fun n S0 w0 g a w hM=>?_
 have hm:=hM.ev x;rw[hx]at hm;obtain⟨c,e1,e2,e3,e4,arr,e5,e6⟩:=hm.2 cs hbj;have hr:=m7 (w:=w) hu hks (some ⟨g j,0,none⟩) (m:=m) (i:=i) (c:=c) ik (by omega);rw[if_neg (by omega),Option.map_some,bX,Nat.zero_add]at hr;refine⟨.slice (some ⟨g j,i*q,none⟩) (m-i) (c-i),w,?_,Below.refl _ _,hm.1,fun cs' hc=>?_⟩
 ·exact Nc
 ·rw[hbj]at hc
  cases hc;exact⟨c-i,rfl,by omega,by omega,by rw[show i+(m-i)=m by omega];exact e4⟩
theorem Jg (hT:∀t d,T t=some d->aY P t d) {t:TypeId} {ty:Ty} {x y:Operand} {j et q m:Nat} {ik:IntKind} {cs:List AV} (h1:gd ops s o=some true) (h2:o.op= .slice t x (some y) none none) (h5:T t=some ty) (h6:ty.elem=some (et,q)) (h7:s.ev x= .own j m q et) (hb:s.bx j=some cs) (h8:s.ev y= .d (.leaf (.val (.int ik (m:Nat)))))
 (h3:aG n o.dst=true) (h4:eY draw ops (az ops o ⟨.d (.leaf (.sl 0 [])),none⟩ [j]) k fps=true) (h:aq P T n ops id draw K (k+1) os (s.eff o.dst ⟨.d (.leaf (.sl 0 [])),none⟩) (az ops o ⟨.d (.leaf (.sl 0 [])),none⟩ [j]::fps)):aq P T n ops id draw K k (o::os) s fps:=by
 refine .run h1 (.gen fun s2 ht hrb=>?_) h3 h4 h;have hx:=(aw ht (x:=x) (by simp[h2,Op.operands])).trans h7;have hy:=(aw ht (x:=y) (by simp[h2,Op.operands])).trans h8;have hbj:=(ba (hrb j (by simp))).trans hb;obtain⟨u,hu,_,hel,_⟩:=(hT _ _ h5).und;obtain⟨rfl,hks⟩:=hel et q h6;refine an fun n S0 w0 g a w hM=>?_
 have hm:=hM.ev x;rw[hx]at hm;obtain⟨c,e1,e2,e3,e4,arr,e5,e6⟩:=hm.2 cs hbj;have hr:=m7 (w:=w) hu hks (some ⟨g j,0,none⟩) (m:=m) (i:=m) (c:=c) ik (Nat.le_refl _);rw[Nat.sub_self]at hr;refine⟨.slice (if c=m then some ⟨g j,0,none⟩else(some ⟨g j,0,none⟩:Option Addr).map (·.add (m*q))) 0 (c-m),w,?_,Below.refl _ _,AV.M.emp (by omega) (by omega) (fun hA=>?_)⟩
 ·exact Nc
 ·split at hA<;>cases hA
theorem Dx (hT:∀t d,T t=some d->aY P t d) {t:TypeId} {ty:Ty} {x y:Operand} {et q:Nat} {ik:IntKind} (h1:gd ops s o=some true) (h2:o.op= .slice t x (some y) none none) (h5:T t=some ty) (h6:ty.elem=some (et,q)) (h7:s.ev x= .nil) (h8:s.ev y= .d (.leaf (.val (.int ik (0:Nat)))))
 (h3:aG n o.dst=true) (h4:eY draw ops (az ops o ⟨.d (.leaf (.sl 0 [])),none⟩ []) k fps=true) (h:aq P T n ops id draw K (k+1) os (s.eff o.dst ⟨.d (.leaf (.sl 0 [])),none⟩) (az ops o ⟨.d (.leaf (.sl 0 [])),none⟩ []::fps)):aq P T n ops id draw K k (o::os) s fps:=by
 refine .run h1 (.gen fun s2 ht hrb=>?_) h3 h4 h;have hx:=(aw ht (x:=x) (by simp[h2,Op.operands])).trans h7;have hy:=(aw ht (x:=y) (by simp[h2,Op.operands])).trans h8;obtain⟨u,hu,_,hel,_⟩:=(hT _ _ h5).und;obtain⟨rfl,hks⟩:=hel et q h6;refine an fun n S0 w0 g a w hM=>?_
 have hm:=hM.ev x;rw[hx]at hm;have hm:a.eval x= .slice none 0 0:=hm;have hr:=m7 (w:=w) hu hks none (m:=0) (i:=0) (c:=0) ik (Nat.le_refl _);rw[if_pos rfl]at hr;refine⟨.slice none 0 0,w,?_,Below.refl _ _,AV.M.emp (Nat.le_refl _) (by decide) (fun _=>rfl)⟩;unfold execOp;rw[h2]
 simp only[hm,bh hM hy,Option.map_some,Option.map_none,Sem.run_bind,hr,Result.andThen_ok]
 rfl
theorem KQ {S0:Nat->Prop} {w0:ee} {g:Nat->Nat} {a:Act} {w:World} (hM:MG n S0 w0 g s a w) {x:Operand} {j p m q:Nat} {cs:List AV} (hx:s.ev x= .vw j p m q) (hb:s.bx j=some cs):nF (Own S0 g s) w (a.eval x) m q ((cs.drop (p*q)).take (m*q)):=by
 have hm:=hM.ev x;rw[hx]at hm;obtain⟨c,e1,e2,e3,e4⟩:=hm.2 cs hb;obtain⟨_,arr,e,e5,e6,_⟩:=hM.bm j cs hb;have hl:=e6.1;have hsz:(p+m)*q=p*q+m*q:=Nat.add_mul _ _ _;refine⟨_,c,(arr.toList.drop (p*q)).take (m*q),e1,by simp at hl ⊢;omega,fun i u hi=>?_,e6.sub (by omega)⟩;exact CA
theorem yV {S0:Nat->Prop} {w0:ee} {g:Nat->Nat} {a:Act} {w:World} (hM:MG n S0 w0 g s a w) {x:Operand} {j m q e2:Nat} {cs:List AV} (hx:s.ev x= .own j m q e2) (hb:s.bx j=some cs):nF (Own S0 g s) w (a.eval x) m q (cs.take (m*q)):=by
 have hm:=hM.ev x;rw[hx]at hm;obtain⟨c,e1,e2,e3,e4,_⟩:=hm.2 cs hb;obtain⟨_,arr,e,e5,e6,_⟩:=hM.bm j cs hb;have hl:=e6.1;have h0:=e6.sub (off:=0) (k:=m*q) (by omega);rw[List.drop_zero,List.drop_zero]at h0;refine⟨_,c,arr.toList.take (m*q),e1,by simp at hl ⊢;omega,fun i u hi=>?_,h0⟩;exact CA
theorem Fx (j':Nat) {d:Nat} {x y:Operand} {t et q m1 m2 j2 e2:Nat} {ty te:Ty} {dead:Option Nat} {cs cs2:List AV} (hT:∀t d,T t=some d->aY P t d) (hm:0<m2) (hb:(m1+m2)*te.bytes<=140737488355328) (hlen:m2*q<=cs2.length) (h1:gd ops s o=some true) (ho:o.op= .call ⟨.builtin .append,#[x,y],#[t,t]⟩) (hd:o.dst=some d) (h3:aG n o.dst=true) (ht:T t=some ty) (hel:ty.elem=some (et,q)) (hte:T et=some te) (hq:te.size=q) (hq0:(Nat.ble 1 q && Nat.ble 1 te.bytes)=true)
 (hbase:eU s x m1 q et dead cs) (hy:s.ev y= .own j2 m2 q e2) (hj2:s.bx j2=some cs2) (hnew:fc s j'=true) (hcl:(bz te.zero && bz (cs2.take (m2*q)) && iV dead)=true)
 (h4:eY draw ops (az ops o ⟨.own j' (m1+m2) q et,some ((j',some (cs.take (m1*q)++cs2.take (m2*q)))::eH dead [])⟩ (j'::j2::q6 dead)) k fps=true)
 (h:aq P T n ops id draw K (k+1) os (s.eff o.dst ⟨.own j' (m1+m2) q et,some ((j',some (cs.take (m1*q)++cs2.take (m2*q)))::eH dead [])⟩) (az ops o ⟨.own j' (m1+m2) q et,some ((j',some (cs.take (m1*q)++cs2.take (m2*q)))::eH dead [])⟩ (j'::j2::q6 dead)::fps)):aq P T n ops id draw K k (o::os) s fps:=by
 rw[Bool.and_eq_true]at hq0
 have h63:m1+m2<=9223372036854775807:=by
  exact Cm
 refine .run h1 (.gen fun s2 ht2 hrb=>?_) h3 h4 h;have hx2:s2.ev x=s.ev x:=aw ht2 (by rw[ho];simp[Op.operands,Call.operands]);have hy2:s2.ev y=s.ev y:=aw ht2 (by rw[ho];simp[Op.operands,Call.operands]);have hb2:s2.bx j2=some cs2:=(ba (hrb j2 (by simp))).trans hj2
 have hbase2:eU s2 x m1 q et dead cs:=by
  exact Oj
 have hnew2:fc s2 j'=true:=(ep (hrb j' (by simp))).trans hnew;intro n S0 w0 g a w K Q hM hdn hK;refine oA (hT _ _ ht) (hT _ _ hte) ho hd hel hq (Nat.le_of_ble_eq_true hq0.1) hbase2 (by rw[List.length_take];omega) hm hb h63 (bt hnew2) (kp hnew2) (.inr hcl) hM (yV hM (hy2.trans hy) hb2) (hdn d hd) fun g' a' w' hM'=>hK g' a' w' ?_
 rw[hd];cases dead<;>exact hM'
theorem qg {s2:AS} {x y:Operand} {t et q m1 j:Nat} {ty:Ty} {ts:List AV} {cs:List AV} (hT:aY P t ty) (ho:o.op= .call ⟨.builtin .append,#[x,y],#[t,t]⟩) (hel:ty.elem=some (et,q)) (hx2:s2.ev x= .own j m1 q et) (hbj:s2.bx j=some cs) (hy2:s2.ev y= .d (.leaf (.sl 0 ts))):bB P o s2 ⟨.own j m1 q et,none⟩:=by
 obtain⟨u,hu,_,hel',_⟩:=hT.und;obtain⟨rfl,hks⟩:=hel' et q hel;refine an fun n S0 w0 g a w hM=>?_
 have hm:=hM.ev x;rw[hx2]at hm;obtain⟨c,e1,e2,e3,e4,arr,e5,e6⟩:=hm.2 cs hbj;have hm0:=hm;rw[e1]at hm0;have hyv:=hM.ev y;rw[hy2]at hyv;have hyv:AV.M (Own S0 g s2) w (.sl 0 ts) (a.eval y):=hyv
 have hA:∃A c2,a.eval y= .slice A 0 c2:=by
  exact On
 obtain⟨A,c2,hv⟩:=hA
 have hr:(Builtin.append_ #[t,t] o.type #[.slice (some ⟨g j,0,none⟩) m1 c, .slice A 0 c2]).run P w= .ok (.slice (some ⟨g j,0,none⟩) m1 c) w:=by
  have hz:∀ad:Addr,(loadCells ad 0).run P w= .ok #[] w:=fun ad=>by
   simpa using run_loadCells_list (P:=P) w ad [] (fun j v hj=>by simp at hj)
  cases A with
  |none=>simp[Builtin.append_,run_underlying hu,bA hks w,Builtin.lenOf,Builtin.firstCells,e2,storeCells]
  |some ad=>simp[Builtin.append_,run_underlying hu,bA hks w,Builtin.lenOf,Builtin.firstCells,e2,storeCells,hz]
 refine⟨.slice (some ⟨g j,0,none⟩) m1 c,w,?_,Below.refl _ _,hm0⟩;unfold execOp
 simp only[ho,resolve,invoke,builtin,Sem.run_bind,Sem.run_pure,Result.andThen_ok,List.map_toArray,List.map_cons,List.map_nil,e1,hv,hr]
theorem HX {x y:Operand} {t et q m1 j:Nat} {ty:Ty} {ts:List AV} {cs:List AV} (hT:∀t d,T t=some d->aY P t d) (h1:gd ops s o=some true) (ho:o.op= .call ⟨.builtin .append,#[x,y],#[t,t]⟩) (ht:T t=some ty) (hel:ty.elem=some (et,q)) (h7:s.ev x= .own j m1 q et) (hb:s.bx j=some cs) (hy:s.ev y= .d (.leaf (.sl 0 ts)))
 (h3:aG n o.dst=true) (h4:eY draw ops (az ops o ⟨.own j m1 q et,none⟩ [j]) k fps=true) (h:aq P T n ops id draw K (k+1) os (s.eff o.dst ⟨.own j m1 q et,none⟩) (az ops o ⟨.own j m1 q et,none⟩ [j]::fps)):aq P T n ops id draw K k (o::os) s fps:=
 .run h1 (.gen fun _ ht2 hrb=>qg (hT _ _ ht) ho hel ((aw ht2 (x:=x) (by rw[ho];simp[Op.operands,Call.operands])).trans h7) ((ba (hrb j (by simp))).trans hb) ((aw ht2 (x:=y) (by rw[ho];simp[Op.operands,Call.operands])).trans hy)) h3 h4 h
theorem o8 {s2:AS} {x y:Operand} {t et q:Nat} {ty:Ty} {ts:List AV} (hT:aY P t ty) (ho:o.op= .call ⟨.builtin .append,#[x,y],#[t,t]⟩) (hel:ty.elem=some (et,q)) (hx2:s2.ev x= .nil) (hy2:s2.ev y= .d (.leaf (.sl 0 ts))):bB P o s2 ⟨.nil,none⟩:=by
 obtain⟨u,hu,_,hel',_⟩:=hT.und;obtain⟨rfl,hks⟩:=hel' et q hel;refine an fun n S0 w0 g a w hM=>?_
 have hm:=hM.ev x;rw[hx2]at hm;have hm:a.eval x= .slice none 0 0:=hm;have hyv:=hM.ev y;rw[hy2]at hyv;have hyv:AV.M (Own S0 g s2) w (.sl 0 ts) (a.eval y):=hyv
 have hA:∃A c2,a.eval y= .slice A 0 c2:=by
  exact On
 obtain⟨A,c2,hv⟩:=hA
 have hr:(Builtin.append_ #[t,t] o.type #[.slice none 0 0, .slice A 0 c2]).run P w= .ok (.slice none 0 0) w:=by
  have hz:∀ad:Addr,(loadCells ad 0).run P w= .ok #[] w:=fun ad=>by
   simpa using run_loadCells_list (P:=P) w ad [] (fun j v hj=>by simp at hj)
  cases A with
  |none=>simp[Builtin.append_,run_underlying hu,bA hks w,Builtin.lenOf,Builtin.firstCells,storeCells]
  |some ad=>simp[Builtin.append_,run_underlying hu,bA hks w,Builtin.lenOf,Builtin.firstCells,storeCells,hz]
 refine⟨.slice none 0 0,w,?_,Below.refl _ _,rfl⟩;unfold execOp
 simp only[ho,resolve,invoke,builtin,Sem.run_bind,Sem.run_pure,Result.andThen_ok,List.map_toArray,List.map_cons,List.map_nil,hm,hv,hr]
theorem LO {x y:Operand} {t et q:Nat} {ty:Ty} {ts:List AV} (hT:∀t d,T t=some d->aY P t d) (h1:gd ops s o=some true) (ho:o.op= .call ⟨.builtin .append,#[x,y],#[t,t]⟩) (ht:T t=some ty) (hel:ty.elem=some (et,q)) (h7:s.ev x= .nil) (hy:s.ev y= .d (.leaf (.sl 0 ts)))
 (h3:aG n o.dst=true) (h4:eY draw ops (az ops o ⟨.nil,none⟩ []) k fps=true) (h:aq P T n ops id draw K (k+1) os (s.eff o.dst ⟨.nil,none⟩) (az ops o ⟨.nil,none⟩ []::fps)):aq P T n ops id draw K k (o::os) s fps:=
 .run h1 (.gen fun _ ht2 _=>o8 (hT _ _ ht) ho hel ((aw ht2 (x:=x) (by rw[ho];simp[Op.operands,Call.operands])).trans h7) ((aw ht2 (x:=y) (by rw[ho];simp[Op.operands,Call.operands])).trans hy)) h3 h4 h
theorem Cj (j':Nat) {d t et q len:Nat} {ty te:Ty} {parts:Array (Nat × Operand)} {l:List (Nat × DV)} {cs:List AV} (hT:∀t d,T t=some d->aY P t d) (h1:gd ops s o=some true) (ho:o.op= .buildSlice t len parts) (hd:o.dst=some d) (h3:aG n o.dst=true) (ht:T t=some ty) (hel:ty.elem=some (et,q)) (hte:T et=some te)
 (hk:(Nat.ble 1 q && (Nat.ble 1 len && (Nat.beq te.zero.length q && (Nat.ble (len*q) 16777216 && Nat.beq cs.length (len*q)))))=true) (hp:d8 s parts.toList=some l) (hf:mq (fun i=>some (i*q,q)) (iJ te.zero len) l=some cs) (hB:bz cs=true) (hnew:fc s j'=true)
 (h4:eY draw ops (az ops o ⟨.own j' len q et,some [(j',some cs)]⟩ [j']) k fps=true) (h:aq P T n ops id draw K (k+1) os (s.eff o.dst ⟨.own j' len q et,some [(j',some cs)]⟩) (az ops o ⟨.own j' len q et,some [(j',some cs)]⟩ [j']::fps)):aq P T n ops id draw K k (o::os) s fps:=by
 simp only[Bool.and_eq_true]at hk
 obtain⟨k1,k2,k3,k4,k5⟩:=hk;have k1:=Nat.le_of_ble_eq_true k1;have k2:=Nat.le_of_ble_eq_true k2;have k3:=Nat.eq_of_beq_eq_true k3;have k4:=Nat.le_of_ble_eq_true k4;have k5:=Nat.eq_of_beq_eq_true k5;refine .run h1 (.gen fun s2 ht2 hrb=>?_) h3 h4 h;have hnew2:fc s2 j'=true:=(ep (hrb j' (by simp))).trans hnew
 have hp2:d8 s2 parts.toList=some l:=by
  rw[<- hp];have:∀x∈parts.toList,s2.ev x.2=s.ev x.2:=fun x hx=>aw ht2 (by rw[ho];simp only[Op.operands];simp;exact⟨x.1,by simpa using hx⟩)
  generalize parts.toList=ps at this;clear hp hf
  induction ps with
  |nil=>rfl
  |cons p ps ih=>
   simp only[d8]
   rw[ih (fun x hx=>this x (by simp[hx])),this p (by simp)]
 intro n S0 w0 g a w K' Q hM hdn hK;obtain⟨u,hu,_,hel',_⟩:=(hT _ _ ht).und;obtain⟨rfl,hks⟩:=hel' et q hel;obtain⟨z,hz,hzm⟩:=(hT _ _ hte).zero;have hpos:0<len*q:=Nat.mul_pos k2 k1
 have hzl':z.cells.size=q:=by have:=(hzm (Own S0 g s2) w).1;simp at this;omega
 have hini:CM (Own S0 g s2) w (iJ te.zero len) ((Array.range (len*q)).map (fun i=>z.cells[i%z.cells.size]!)).toList:=by
  refine⟨by rw[dp,k3];simp,fun i b v h1 h2=>?_⟩;rw[jB _ (by omega)]at h1
  split at h1
  ·rename_i hi
   rw[k3]at h1 hi;have hm:i%q<q:=Nat.mod_lt _ k1
   have hv:v=z.cells[i%q]'(by omega):=by
    simp[hi,hzl']at h2
    rw[<- h2]
    simp[hzl',hm]
   exact(hzm _ w).2 (i%q) b v h1 (by rw[hv];simp[hzl',hm])
  ·cases h1
 obtain⟨arr,g1,g2⟩:=pM l _ _ _ cs hini (m6 hM parts.toList l hp2) hf;have e:(parts.map fun x=>match x with|(i,y)=>(i,a.eval y)).toList=parts.toList.map fun(p:Nat × Operand)=>(p.1,a.eval p.2):=by simp
 have hr:(execOp a.eval o).run P w= .ok (.value (.slice (some ⟨w.heap.size,0,none⟩) len len)) (w.alloc (.cells arr et)):=by
  unfold execOp;rw[ho]
  simp only[Instr.buildSlice,Sem.run_bind,run_underlying hu w,Result.andThen_ok,bA hks w]
  rw[if_neg (by omega),if_neg (by omega)]
  simp only[Sem.run_bind,kf hz w,Result.andThen_ok,Sem.run_pure,e,g1]
  rfl
 unfold Oper.wp;rw[hr];show K' (a.put o.dst _) _;rw[hd]at hK ⊢;have hsz:arr.size=len*q:=by have:=g2.1;simp at this;omega
 have hl1:len<=9223372036854775807:=by
  have:=Nat.le_mul_of_pos_right len k1;omega
 refine hK _ _ _ (hM.alloc (hdn d hd) (bt hnew2).1 (bt hnew2).2 g2.cp (fun _=>jr g2 hB) (kx hB) (fun h=>by rw[mM hnew2]at h;cases h) fun g' s' hg hb=>?_);refine⟨AS.kn_of hb,fun cs' hc=>⟨len,by rw[hg],Nat.le_refl _,hl1,?_,arr,?_,hsz⟩⟩
 ·rw[hb]at hc;cases hc;exact Nat.le_of_eq k5.symm
 ·rw[hg];exact heap_alloc_new w _
theorem FV {q:Nat} (hq:s.tv q= .nil):aU s ⟨(q, .d (.leaf (.sl 0 [])))::s.t,s.b⟩:=by
 rintro n S0 w0 a w ⟨g,h⟩;have hm:=h.tm q;rw[hq]at hm;exact⟨g,h.reslot (GW (tv:= .nil) rfl hm) rfl (by show oe (s.tv q)=true;rw[hq];rfl)⟩
theorem GU {q m:Nat} {cs:List AV} (i:Nat) (hq:s.tv q= .d (.leaf (.sl m cs))):aU s ⟨(q, .d (.leaf (.sl m (cs.take i))))::s.t,s.b⟩:=by
 rintro n S0 w0 a w ⟨g,h⟩;have hm:=h.tm q;rw[hq]at hm;have hm:AV.M (Own S0 g s) w (.sl m cs) (a.tmps.getD q Go.undef):=hm
 have key:AV.M (Own S0 g s) w (.sl m (cs.take i)) (a.tmps.getD q Go.undef):=by
  generalize a.tmps.getD q Go.undef=v at hm
  have hc:∀(p:Nat) (b:AV),(cs.take i)[p]? =some b->cs[p]? =some b:=fun p b hb=>by
   rw[List.getElem?_take]at hb
   split at hb
   ·exact hb
   ·cases hb
  cases hm with
  |emp h1 h2 h3=>rw[List.take_nil];exact .emp h1 h2 h3
  |sl f h1 h2 h3 h4 h5 h6=>exact .sl f h1 h2 h3 h4 (fun p b hb=>h5 p b (hc p b hb)) (fun p b hb=>h6 p b (hc p b hb))
 exact⟨g,h.reslot key rfl (by show oe (s.tv q)=true;rw[hq];rfl)⟩
end
def zP (J:Nat):List L8->TV
 | []=> .nil
 |a::r=> .own J (a::r).length 1 9
def F1:List L8->Option (List AV)
 | []=>none
 |a::r=>some (aJ (a::r))
theorem im (l:List L8):(aJ l).length=l.length:=by simp[aJ]
theorem ni (a b:List L8):aJ (a++b)=aJ a++aJ b:=by simp[aJ]
theorem Kf {l:List L8} {i:Nat} {x:L8} (h:l[i]? =some x):(aJ l)[i*1]? =some (.val (vL x)):=by simp[aJ,h]
theorem iz {l:List L8} {i:Nat} {x:L8} (h:l[i]? =some x):∀(j:Nat) (a:AV),[AV.val (vL x)][j]? =some a->(aJ l)[i*1+j]? =some a:=fun j a hj=>by
 cases j with
 |zero=>cases hj;exact Kf h
 |succ j=>cases hj
theorem C7:∀{cs:List AV},(∀a∈cs,∃l,a= .val (vL l))->bz cs=true
 | [],_=>rfl
 |a::r,h=>by
  obtain⟨l,rfl⟩:=h a (by simp);have ih:=C7 (cs:=r) (fun b hb=>h b (by simp[hb]))
  simp only[bz,ih]
  rfl
theorem JF {l:List L8} {a:AV} (h:a∈aJ l):∃x,a= .val (vL x):=by
 obtain⟨x,_,rfl⟩:=List.mem_map.1 h;exact⟨x,rfl⟩
theorem tZ (l:List L8):bz (aJ l)=true:=C7 fun _ h=>JF h
theorem Bk (t:List (Nat × TV)) (b:List (Nat × Option (List AV))) (q J:Nat) (l:List L8) (y:L8) (r:List L8):(⟨(q,zP J (l++y::r))::t,(J,F1 (l++y::r))::b⟩:AS)=⟨(q, .own J (l.length+(y::r).length) 1 9)::t,(J,some ((aJ l).take (l.length*1)++aJ (y::r)))::b⟩:=by
 have e1:zP J (l++y::r)= .own J (l.length+(y::r).length) 1 9:=by
  cases l with
  |nil=>simp[zP]
  |cons a l=>simp[zP];omega
 have e2:F1 (l++y::r)=some ((aJ l).take (l.length*1)++aJ (y::r)):=by
  rw[Nat.mul_one,List.take_of_length_le (Nat.le_of_eq (im l)),<- ni];cases l<;>rfl
 rw[e1,e2]
theorem D1 {args:List Rx} {i:Nat} (h:i<args.length):fU (args.take (i+1))=fU (args.take i)++ox args[i]:=by
 have app:∀a b:List Rx,fU (a++b)=fU a++fU b:=by
  intro a b
  induction a with
  |nil=>simp[fU]
  |cons x r ih=>simp[fU,ih]
 rw[List.take_add_one,app]
 simp[h,fU]
theorem wD:∀(l:List L8) (x:L8),(l7 l x).length<=l.length+1
 | [],x=>by simp[l7]
 |y::r,x=>by
  have ih:=wD r x;unfold l7
  split
  ·simp only[List.length_cons];omega
  ·split <;>simp
theorem zD (l:List L8):(jT l).length<=l.length:=by
 have:∀(l acc:List L8),(l.foldl l7 acc).length<=acc.length+l.length:=by
  intro l
  induction l with
  |nil=>intro acc;simp
  |cons x l ih=>
   intro acc;have h1:=ih (l7 acc x);have h2:=wD acc x;rw[List.foldl_cons,List.length_cons];omega
 have:=this l []
 simpa[jT]using this
theorem Da:∀x,(ox x).length<=fW x:=by
 refine dK fun op na xs nb ys nm args ih=>?_
 have key:∀l:List Rx,(∀y∈l,(ox y).length<=fW y)->(fU l).length<=eg l:=by
  intro l
  induction l with
  |nil=>intro _;simp[fU]
  |cons y l ihl=>
   intro h;have h1:=h y (by simp);have h2:=ihl (fun z hz=>h z (by simp[hz]));rw[fU,eg,List.length_append];omega
 have h1:=key args ih;rw[ox,fW];refine Nat.le_trans (zD _) ?_;rw[List.length_append]
 split <;>simp <;>omega
theorem JD (l:List Rx):(fU l).length<=eg l:=by
 induction l with
 |nil=>simp[fU]
 |cons y l ihl=>
  have h1:=Da y;rw[fU,eg,List.length_append];omega
theorem sM (l:List Rx) (i:Nat):(fU (l.take i)).length<=eg l:=by
 have h:eg (l.take i)<=eg l:=by
  induction l generalizing i with
  |nil=>simp
  |cons y l ih=>
   cases i with
   |zero=>simp[eg]
   |succ i=>have:=ih i;simp only[List.take_succ_cons,eg];omega
 exact Nat.le_trans (JD _) h
theorem T2 {t:TypeId} {p q:Operand} {a b:L8} {v:Bool} (h:Op.bytesLess a b=v):jM .lss t p q (vL a) (vL b)=some (.bool v):=by rw[t8,h]
def Tv:AV->Bool
 | .val _=>true
 |_=>false
def TW:DV->Bool
 | .leaf a=>Tv a
 | .agg cs=>cs.all Tv
def Un:RV->Bool
 | .one d=>TW d
 | .tup l=>l.all TW
theorem Mx {S S':Nat->Prop} {w w':World} {a:AV} {v:Value} (h:Tv a=true) (hm:AV.M S w a v):AV.M S' w' a v:=by
 cases hm with
 |val h0=>exact .val h0
 |_=>cases h
theorem M5 {S S':Nat->Prop} {w w':World} {d:DV} {v:Value} (h:TW d=true) (hm:DV.M S w d v):DV.M S' w' d v:=by
 cases d with
 |leaf a=>exact Mx h hm
 |agg cs=>
  obtain⟨vs,e,hl,hc⟩:=hm;exact⟨vs,e,hl,fun i a v h1 h2=>Mx (List.all_eq_true.1 h a (List.mem_of_getElem? h1)) (hc i a v h1 h2)⟩
theorem Te {S S':Nat->Prop} {g:Nat->Nat} {s:AS} {w w':World} {r:RV} {v:Value} (h:Un r=true) (hm:RV.M S w r v):TV.M S' g s w' r.tv v:=by
 cases r with
 |one d=>exact M5 (S:=S) (w:=w) h hm
 |tup l=>
  obtain⟨vs,e,hl,hc⟩:=hm;exact⟨vs,e,hl,fun i a v h1 h2=>M5 (List.all_eq_true.1 h a (List.mem_of_getElem? h1)) (hc i a v h1 h2)⟩
def Sw (b:BL):TV->Option DV
 | .d x=>some x
 | .own j n _ _=>match ak b j with
  |some cs=>some (.leaf (.sl n cs))
  |none=>none
 | .vw j o n k=>match ak b j with
  |some cs=>some (.leaf (.sl n (cs.drop (o*k))))
  |none=>none
 | .vs j o n _ k _=>match ak b j with
  |some cs=>some (.leaf (.sl n (cs.drop (o*k))))
  |none=>none
 | .nil=>some (.leaf (.sl 0 []))
 |_=>none
def Jn (b:BL):List TV->Option (List DV)
 | []=>some []
 |t::r=>match Sw b t,Jn b r with
  |some d,some l=>some (d::l)
  |_,_=>none
theorem jP:∀{b:BL} {j:Nat} {cs:List AV},ak b j=some cs->ak (ar b) j=some (some cs)
 | [],_,_,h=>by cases h
 |(i,c)::r,j,cs,h=>by
  by_cases e:i=j
  ·subst e;rw[ai]at h;cases h;exact ai _ _ _
  ·rw[ap _ _ e]at h;simp only[ar,ap _ _ e];exact jP h
theorem A8 {S:Nat->Prop} {g:Nat->Nat} {w:World} {b:BL} (hP:EM S g w b) {j n o c:Nat} {cs:List AV} (hj:ak b j=some cs) (h1:n<=c) (h2:c<=9223372036854775807):AV.M S w (.sl n (cs.drop o)) (.slice (some ⟨g j,o,none⟩) n c):=by
 have hb:(sB b).bx j=some cs:=bI.2 (jP hj);obtain⟨arr,e,h7,h8,_⟩:=hP.bm j cs hb;have hn:¬S (g j):=fun h=>(hP.blk _ h).2.1 ⟨j,cs,hb,rfl⟩
 have hl:=h8.1
 simp only[Array.length_toList]at hl
 have hlt:∀i (x:AV),(cs.drop o)[i]? =some x->cs[o+i]? =some x/\o+i<arr.size:=fun i x hi=>by
  rw[List.getElem?_drop]at hi;exact⟨hi,Nat.lt_of_lt_of_le (List.getElem?_eq_some_iff.1 hi).1 hl⟩
 refine AV.M.sl (fun i=>arr.getD (o+i) undef) h1 h2 hn (Array.getElem?_eq_some_iff.1 h7).1 (fun i x hi=>?_) (fun i x hi=>?_)
 ·have:=(hlt i x hi).2
  simp[World.cell?,h7,this]
 ·have:=(hlt i x hi).2
  exact(h8.2 (o+i) x _ (hlt i x hi).1 (by simp[this])).agree (bL.refl _ _) (fun _ _ h=> .inl h)
theorem O4 {S:Nat->Prop} {g:Nat->Nat} {w:World} {b:BL} (hP:EM S g w b) {t:TV} {d:DV} {v:Value} (hd:Sw b t=some d) (hm:TV.M (Own S g (sB b)) g (sB b) w t v):DV.M S w d v:=by
 cases t with
 |d x=>
  cases hd;exact DV.M.agree hm (bL.refl _ _) (fun _ _ h=> .inl h)
 |own j n k e=>
  simp only[Sw]at hd
  split at hd
  ·rename_i cs hj
   cases hd;obtain⟨c,e1,e2,e3,_⟩:=hm.2 cs (bI.2 (jP hj));rw[e1];exact A8 hP (o:=0) hj e2 e3
  ·cases hd
 |vw j o n k=>
  simp only[Sw]at hd
  split at hd
  ·rename_i cs hj
   cases hd;obtain⟨c,e1,e2,e3,_⟩:=hm.2 cs (bI.2 (jP hj));rw[e1];exact A8 hP hj e2 e3
  ·cases hd
 |vs j o n c0 k e=>
  simp only[Sw]at hd
  split at hd
  ·rename_i cs hj
   cases hd;obtain⟨e1,e2,e3,_⟩:=hm.2 cs (bI.2 (jP hj));rw[e1];exact A8 hP hj e2 e3
  ·cases hd
 |nil=>
  cases hd;have:v= .slice none 0 0:=hm;rw[this];exact AV.M.emp (Nat.le_refl _) (by omega) (fun _=>rfl)
 |_=>cases hd
theorem uO {S:Nat->Prop} {g:Nat->Nat} {w:World} {b:BL} (hP:EM S g w b):∀{ts:List TV} {ds:List DV} {vs:List Value},Jn b ts=some ds->ny (Own S g (sB b)) g (sB b) w ts vs->VM S w ds vs
 | [],ds,[],hd,_=>by cases hd;trivial
 |t::ts,ds,v::vs,hd,hm=>by
  simp only[Jn]at hd
  split at hd
  ·rename_i d l h1 h2
   cases hd;exact⟨O4 hP h1 hm.1,uO hP h2 hm.2⟩
  ·cases hd
 | [],_,_::_,_,h=>h.elim
 |_::_,_,[],_,h=>h.elim
theorem aa.rd {P:Program} {f:FuncId} {ds:List DV} {r:RV} (h:aa P f ds r) {ts:List TV} {b:BL} (hts:Jn b ts=some ds) (hr:Un r=true):au P f ts b (.v r) b:=by
 refine⟨h.enter,fun S g w vs hP hv=>?_⟩;refine(h.calls S w vs ⟨fun w' hb=>hP.tab w' ⟨hb.os,hb.tape,hb.output,hb.size,fun k hk _=>hb.block k hk,fun k hk _ arr e fz he=>⟨arr,fz,(hb.block k hk).trans he,rfl⟩⟩,fun q hq=>⟨(hP.blk q hq).1,(hP.blk q hq).2.2⟩,fun k cs hk=>?_⟩ (uO hP hts hv)).mono ?_
 ·exact NT
 ·rintro e w' ⟨v,rfl,hm,hb⟩
  refine⟨v,g,rfl,fun j cs cs' h1 h2=>?_,fun j cs' h1=>⟨.inr ⟨j,cs',h1,rfl⟩,?_⟩,hP.inj,Te hr hm,⟨hb.os,hb.tape,hb.output,hb.size,fun k hk _=>hb.block k hk,fun k hk _ arr e fz he=>⟨arr,fz,(hb.block k hk).trans he,rfl⟩⟩⟩
  ·rw[h1]at h2;cases h2;exact⟨rfl,Nat.le_refl _⟩
  ·exact N3
def Sf (p:Pm):List AV:= .val (vL p.1)::aR p.2
def Fg:Tb->List AV
 | []=>[]
 |p::r=>Sf p++Fg r
def KM (p:Pm):DV:= .agg (Sf p)
def gO (l:Tb):DV:= .leaf (.sl l.length (Fg l))
def eF (n:L8) (o:Int) (na:Bool) (xs:List Nat) (nb:Bool) (ys:List Nat) (nm:List UInt8) (k:Nat) (cs:List AV):List AV:= .val (vL n)::ab o na xs nb ys nm k cs
theorem eM (p:Pm):∃o na xs nb ys nm k cs,aR p.2=ab o na xs nb ys nm k cs/\Sf p=eF p.1 o na xs nb ys nm k cs:=by
 obtain⟨o1,na1,xs1,nb1,ys1,nm1,n1,cs1,hA⟩:=aN p.2;exact⟨o1,na1,xs1,nb1,ys1,nm1,n1,cs1,hA,congrArg (AV.val (vL p.1):: ·) hA⟩
theorem Ca (p:Pm):(Sf p).length=8:=by
 show(aR p.2).length+1=8;rw[zW]
theorem j4:∀(l:Tb) (i:Nat) (p:Pm),l[i]? =some p-> ∀(j:Nat) (a:AV),(Sf p)[j]? =some a->(Fg l)[i*8+j]? =some a
 | [],i,p,h,_,_,_=>by simp at h
 |q::l,0,p,h,j,a,ha=>by
  simp at h
  subst h
  simp only[Fg,Nat.zero_mul,Nat.zero_add]
  exact Ck
 |q::l,i+1,p,h,j,a,ha=>by
  simp only[Fg]
  rw[List.getElem?_append_right (by rw[Ca];omega),Ca,show(i+1)*8+j-8=i*8+j by omega];exact j4 l i p (by simpa using h) j a ha
theorem bJ {α:Type} {o:List α} {k:Nat} {n:α} (hk:o[k]? =some n):o.take (k+1)=o.take k++[n]:=by
 obtain⟨h,e⟩:=List.getElem?_eq_some_iff.1 hk;rw[List.take_succ_eq_append_getElem h,e]
structure AF (x:Rx):Prop where
 wd:lV x
 lt:pW x=true
 sz:fW x<=120
theorem AF.lm {x:Rx} (h:AF x):CK x:=CK.of_lt x h.lt
def JP (l:Tb):Prop:=∀p∈l,p.1.length<=60/\AF p.2
def zd (l:List L8):DV:= .leaf (.sl l.length (aJ l))
theorem P4 {l:Tb} {i:Nat} {p:Pm} (h:l[i]? =some p):FB l i (l.drop i)=if pB p.1=true then(if jg p.2=0 then(if l9 l p.1<i then 5 else FB l (i+1) (l.drop (i+1)))else jg p.2)else 1:=by
 obtain⟨hi,e⟩:=List.getElem?_eq_some_iff.1 h;rw[List.drop_eq_getElem_cons hi,e,FB]
theorem yi {l:Tb} {out:List L8} {i:Nat} {p:Pm} (h:l[i]? =some p) {nx:L8} (hn:(l.take i).foldl (sx out) []=nx):(l.take (i+1)).foldl (sx out) []=sx out nx p:=by rw[KA h,hn]
def zt:Ex->List (List UInt8)
 | .num _ _=>[]
 | .nam s=>[s]
 | .neg a=>zt a
 | .bin _ a b=>zt a++zt b
theorem yJ {a b:Nat} (h:digs a=digs b):a=b:=by rw[<- af a,h,af]
theorem vr:∀{a b:Ex},rx a=rx b->a=b
 | .num v u, .num v' u',h=>by
  simp only[rx,Rx.mk.injEq,decide_eq_decide]at h
  obtain⟨_,h1,h2,_,h3,h4,_⟩:=h;have h2:=yJ h2;have h3:=yJ h3;have:v=v':=Rat.ext (by omega) (by omega);rw[this,h4]
 | .num _ _, .nam _,h=>by simp[rx]at h
 | .num _ _, .neg _,h=>by simp[rx]at h
 | .num _ _, .bin k _ _,h=>by cases k<;>simp[rx,B4.code]at h
 | .nam _, .num _ _,h=>by simp[rx]at h
 | .nam _, .nam _,h=>by simp[rx]at h;rw[h]
 | .nam _, .neg _,h=>by simp[rx]at h
 | .nam _, .bin k _ _,h=>by cases k<;>simp[rx,B4.code]at h
 | .neg _, .num _ _,h=>by simp[rx]at h
 | .neg _, .nam _,h=>by simp[rx]at h
 | .neg a, .neg b,h=>by simp[rx]at h;rw[vr h]
 | .neg _, .bin k _ _,h=>by cases k<;>simp[rx,B4.code]at h
 | .bin k _ _, .num _ _,h=>by cases k<;>simp[rx,B4.code]at h
 | .bin k _ _, .nam _,h=>by cases k<;>simp[rx,B4.code]at h
 | .bin k _ _, .neg _,h=>by cases k<;>simp[rx,B4.code]at h
 | .bin k a b, .bin k' a' b',h=>by
  simp only[rx,Rx.mk.injEq,List.cons.injEq,and_true,true_and]at h
  obtain⟨h1,h2,h3⟩:=h;have:k=k':=by cases k<;>cases k'<;>first|rfl|simp[B4.code]at h1
  rw[this,vr h2,vr h3]
noncomputable def lA (x:Rx):Ex:= @dite _ (∃e,x=rx e/\pu e) (Classical.propDecidable _) (fun h=>Classical.choose h) (fun _=> .nam [])
theorem vm {e:Ex} (h:pu e):lA (rx e)=e:=by
 have h0:∃e',rx e=rx e'/\pu e':=⟨e,rfl,h⟩;unfold lA;rw[dif_pos h0];exact(vr (Classical.choose_spec h0).1).symm
theorem A5 {x:Rx} (h:∃e,x=rx e/\pu e):rx (lA x)=x/\pu (lA x):=by
 obtain⟨e,rfl,hf⟩:=h;rw[vm hf];exact⟨rfl,hf⟩
theorem CD:∀(e:Ex) (n:L8),n∈ox (rx e)↔n∈zt e
 | .num v u,n=>by simp[rx,ox,fU,zt,gw]
 | .nam s,n=>by simp[rx,ox,fU,zt,gw]
 | .neg a,n=>by simp[rx,ox,fU,zt,gw,CD a]
 | .bin k a b,n=>by
  have:¬k.code=2:=by cases k<;>decide
  simp[rx,ox,fU,zt,gw,CD a,CD b,this]
theorem ir {u v:L8->Option (Rat × Int)}:∀{e:Ex},(∀n∈zt e,u n=v n)->bZ u e=bZ v e
 | .num _ _,_=>rfl
 | .nam s,h=>by simp only[bZ,h s (by simp[zt])]
 | .neg a,h=>by simp only[bZ,ir (e:=a) h]
 | .bin k a b,h=>by simp only[bZ,ir (e:=a) (fun n hn=>h n (List.mem_append_left _ hn)),ir (e:=b) (fun n hn=>h n (List.mem_append_right _ hn))]
def pp:EL->L8->Nat
 | [],_=>0
 |y::r,n=>if Op.bytesLess y.1 n=true then pp r n+1 else 0
def iP (l:EL) (n:L8) (v:Rat × Int):EL:=l.take (pp l n)++(n,v)::l.drop (pp l n)
theorem wj:∀(l:EL) (n:L8),pp l n<=l.length
 | [],_=>Nat.le_refl _
 |y::r,n=>by
  unfold pp
  split
  ·have:=wj r n;simp;omega
  ·exact Nat.zero_le _
theorem Hg:∀{l:EL} {n:L8} {i:Nat} {x:L8 × (Rat × Int)},i<pp l n->l[i]? =some x->Op.bytesLess x.1 n=true
 | [],n,i,x,_,h=>by simp at h
 |y::r,n,i,x,hi,h=>by
  unfold pp at hi
  split at hi
  ·rename_i hy
   cases i with
   |zero=>simp at h;subst h;exact hy
   |succ i=>exact Hg (l:=r) (n:=n) (i:=i) (by omega) (by simpa using h)
  ·omega
theorem I9:∀{l:EL} {n:L8} {x:L8 × (Rat × Int)},l[pp l n]? =some x->Op.bytesLess x.1 n=false
 | [],n,x,h=>by simp[pp]at h
 |y::r,n,x,h=>by
  unfold pp at h
  split at h
  ·exact I9 (l:=r) (by simpa using h)
  ·rename_i hy;simp at h;subst h;simpa using hy
theorem rF {l:EL} {n:L8} {v:Rat × Int} {x:L8 × (Rat × Int)}:x∈iP l n v↔x=(n,v)∨x∈l:=by
 unfold iP
 conv=>rhs;rw[<- List.take_append_drop (pp l n) l]
 simp only[List.mem_append,List.mem_cons]
 grind
theorem F6 (l:EL) (n:L8) (v:Rat × Int):(iP l n v).length=l.length+1:=by
 have:=wj l n
 simp[iP]
 omega
theorem DU (y:L8 × (Rat × Int)) (r:EL) (n:L8) (v:Rat × Int):iP (y::r) n v=if Op.bytesLess y.1 n=true then y::iP r n v else(n,v)::y::r:=by
 unfold iP
 conv=>lhs;unfold pp
 split <;>simp
theorem fG {y:L8 × (Rat × Int)} {r:EL}:ew (y::r)↔(∀x∈r,Op.bytesLess y.1 x.1=true)/\ew r:=by
 constructor
 ·intro h
  refine⟨fun x hx=>?_,fun i j a b hij ha hb=>h (i+1) (j+1) a b (by omega) (by simpa using ha) (by simpa using hb)⟩;obtain⟨i,hi⟩:=List.getElem?_of_mem hx;exact h 0 (i+1) y x (by omega) rfl (by simpa using hi)
 ·rintro⟨h1,h2⟩ i j a b hij ha hb
  cases j with
  |zero=>omega
  |succ j=>
   cases i with
   |zero=>simp at ha;subst ha;exact h1 b (List.mem_of_getElem? (by simpa using hb))
   |succ i=>exact h2 i j a b (by omega) (by simpa using ha) (by simpa using hb)
theorem qA:ew []:=fun i j a b _ h=>by simp at h
theorem oE:∀{l:EL} {n:L8} {v:Rat × Int},ew l->(∀x∈l,x.1≠n)->ew (iP l n v)
 | [],n,v,_,_=>by
  rw[show iP [] n v=[(n,v)] from rfl,fG];exact⟨fun x hx=>absurd hx (by simp),qA⟩
 |y::r,n,v,h,hn=>by
  rw[DU];rw[fG]at h
  split
  ·rename_i hy
   rw[fG];refine⟨fun x hx=>?_,oE h.2 (fun x hx=>hn x (by simp[hx]))⟩;rcases rF.1 hx with rfl|hx
   ·exact hy
   ·exact h.1 x hx
  ·rename_i hy
   have hy:Op.bytesLess y.1 n=false:=by simpa using hy
   have hny:Op.bytesLess n y.1=true:=by
    cases hb:Op.bytesLess n y.1
    ·exact absurd (nQ hy hb) (hn y (by simp))
    ·rfl
   rw[fG,fG];refine⟨fun x hx=>?_,h⟩;rcases List.mem_cons.1 hx with rfl|hx
   ·exact hny
   ·exact eI hny (h.1 x hx)
theorem Ft {l:EL} (hs:ew l) {n:L8} {v:Rat × Int}:bi l n=some v↔(n,v)∈l:=by
 constructor
 ·intro h
  clear hs
  induction l with
  |nil=>cases h
  |cons y r ih=>
   simp only[bi]at h
   split at h
   ·rename_i e;cases h;subst e;simp
   ·simp[ih h]
 ·intro h
  obtain⟨i,hi⟩:=List.getElem?_of_mem h;exact CU hs hi
def QB (l:Tb) (n:L8):Rx:=match l[l9 l n]? with
 |some p=>p.2
 |none=> .mk 0 false [] false [] [] []
theorem ze.fx {l:Tb} (h:ze l) {p:Pm} (hp:p∈l):QB l p.1=p.2:=by
 obtain⟨i,hi⟩:=List.getElem?_of_mem hp;unfold QB;rw[h.fd hi,hi]
noncomputable def po (l:Tb):List L8->EL->Except Int EL
 | [],env=> .ok env
 |n::r,env=>match bZ (bi env) (lA (QB l n))with
  | .ok x=>po l r (iP env n x)
  | .error e=> .error e
noncomputable def yr (l:Tb):Except Int EL:=if(fK l).2=0 then po l (fK l).1 []else .error (fK l).2
inductive Hv (l:Tb):L8->Rat × Int->Prop
 |mk {p:Pm} {x:Rat × Int} (f:L8->Rat × Int):p∈l->(∀n∈zt (lA p.2),Hv l n (f n))->bZ (fun n=>some (f n)) (lA p.2)= .ok x->Hv l p.1 x
theorem Hv.fn {l:Tb} (hl:ze l) {n:L8} {x:Rat × Int} (h:Hv l n x):∀{y:Rat × Int},Hv l n y->x=y:=by
 induction h with
 | @mk p x f hp hf hx ih=>
  intro y hy;generalize hn:p.1=n at hy;cases hy with
  | @mk q _ g hq hg hy=>
   obtain⟨i,hi⟩:=List.getElem?_of_mem hp;obtain⟨j,hj⟩:=List.getElem?_of_mem hq;have:=hl.nd _ _ _ _ hi hj hn;subst this;rw[hi]at hj;cases hj;have:bZ (fun n=>some (f n)) (lA p.2)=bZ (fun n=>some (g n)) (lA p.2):=ir fun n hn=>by rw[ih n hn (hg n hn)]
   rw[this,hy]at hx;exact(Except.ok.inj hx).symm
structure vg (l:Tb) (done:List L8) (env:EL):Prop where
 so:ew env
 ky:∀n,n∈done ↔ ∃v,(n,v)∈env
 hv:∀x∈env,Hv l x.1 x.2
theorem vg.nil (l:Tb):vg l [] []:=⟨qA,fun n=>by simp,fun x h=>by cases h⟩
theorem vg.env {l:Tb} {done:List L8} {env:EL} (h:vg l done env) {n:L8} (hn:n∈done):∃v,bi env n=some v/\Hv l n v:=by
 obtain⟨v,hv⟩:=(h.ky n).1 hn;exact⟨v,(Ft h.so).2 hv,h.hv _ hv⟩
theorem vg.ev {l:Tb} {done:List L8} {env:EL} (h:vg l done env) {e:Ex} (hn:∀n∈zt e,n∈done):bZ (bi env) e=bZ (fun n=>some ((bi env n).getD (0,0))) e:=ir fun n hm=>by
 obtain⟨v,h1,_⟩:=h.env (hn n hm);rw[h1];rfl
theorem vg.has {l:Tb} {done:List L8} {env:EL} (h:vg l done env) {p:Pm} (hp:p∈l) {x:Rat × Int} (hn:∀n∈zt (lA p.2),n∈done) (hx:bZ (bi env) (lA p.2)= .ok x):Hv l p.1 x:=by
 rw[h.ev hn]at hx;refine .mk _ hp (fun n hm=>?_) hx;obtain⟨v,h1,h2⟩:=h.env (hn n hm);rw[h1];exact h2
theorem vg.step {l:Tb} {done:List L8} {env:EL} (h:vg l done env) {p:Pm} (hd:p.1 ∉ done) {x:Rat × Int} (hx:Hv l p.1 x):vg l (done ++[p.1]) (iP env p.1 x):=by
 have hne:∀y∈env,y.1≠p.1:=fun y hy e=>hd ((h.ky _).2 ⟨y.2,by rw[<- e];exact hy⟩)
 refine⟨oE h.so hne,fun n=>?_,fun y hy=>?_⟩
 ·simp only[List.mem_append,List.mem_singleton,rF,Prod.mk.injEq,h.ky n]
  constructor
  ·rintro(⟨v,hv⟩|rfl)
   ·exact⟨v, .inr hv⟩
   ·exact⟨x, .inl ⟨rfl,rfl⟩⟩
  ·rintro⟨v,⟨rfl,rfl⟩|hv⟩
   ·exact .inr rfl
   ·exact .inl ⟨v,hv⟩
 ·rcases rF.1 hy with rfl|hy
  ·exact hx
  ·exact h.hv y hy
def Qy (l:Tb):Prop:=∀p∈l,∃e,p.2=rx e/\pu e
theorem Qy.ns {l:Tb} (h:Qy l) {p:Pm} (hp:p∈l) (n:L8):n∈zt (lA p.2)↔n∈ox p.2:=by
 have:=(A5 (h p hp)).1
 conv=>rhs;rw[<- this]
 exact(CD _ _).symm
theorem SS {l:List L8} (h:l.Nodup) {i j:Nat} {a:L8} (hi:l[i]? =some a) (hj:l[j]? =some a):i=j:=by
 obtain⟨h1,e1⟩:=List.getElem?_eq_some_iff.1 hi;obtain⟨h2,e2⟩:=List.getElem?_eq_some_iff.1 hj;have hp:=List.pairwise_iff_getElem.1 (List.nodup_iff_pairwise_ne.1 h);rcases Nat.lt_trichotomy i j with h3|h3|h3
 ·exact absurd (e1.trans e2.symm) (hp i j h1 h2 h3)
 ·exact h3
 ·exact absurd (e2.trans e1.symm) (hp j i h2 h1 h3)
theorem nZ.at {l:Tb} (hl:ze l) (hf:Qy l) {o:List L8} (h:nZ l o) {k:Nat} {n:L8} (hk:o[k]? =some n):∃p∈l,p.1=n/\QB l n=p.2/\n ∉ o.take k/\ ∀m∈zt (lA p.2),m∈o.take k:=by
 obtain⟨p,hp,rfl⟩:=h.mem n (List.mem_of_getElem? hk);refine⟨p,hp,rfl,hl.fx hp,fun hn=>?_,fun m hm=>h.up k _ p hk hp rfl m ((hf.ns hp m).1 hm)⟩;obtain⟨i,hi⟩:=List.getElem?_of_mem hn;rw[List.getElem?_take]at hi
 split at hi
 ·have:=SS h.nd hi hk
  omega
 ·cases hi
theorem B8 {l:Tb} (hl:ze l) (hf:Qy l) {o:List L8} (h:nZ l o):∀(r:List L8) (k:Nat) (env env':EL),o.drop k=r->vg l (o.take k) env->po l r env= .ok env'->vg l o env'
 | [],k,env,env',hr,hI,he=>by
  cases he
  rwa[List.take_of_length_le (List.drop_eq_nil_iff.1 hr)]at hI
 |n::r,k,env,env',hr,hI,he=>by
  have hk:o[k]? =some n:=by have:=congrArg (·[0]?) hr;simpa using this
  obtain⟨p,hp,rfl,e1,e2,e3⟩:=h.at hl hf hk
  simp only[po,e1]at he
  split at he
  ·rename_i x hx
   refine B8 hl hf h r (k+1) _ env' (by rw[<- List.drop_drop,hr];rfl) ?_ he;rw[bJ hk];exact hI.step e2 (hI.has hp e3 hx)
  ·cases he
theorem yn {l:Tb}:∀{r:List L8} {env:EL} {e:Int},po l r env= .error e->e≠0
 | [],env,e,h=>by cases h
 |n::r,env,e,h=>by
  simp only[po]at h
  split at h
  ·exact yn h
  ·rename_i e' h';cases h;exact eA h'
theorem G0 {x:Rx} (hx:lV x) (hm:CK x) (h:jg x=0):∃e,x=rx e/\pu e:=by
 refine PZ x hx hm ?_;unfold jg at h;cases hf:qx x
 ·rw[hf]at h;simp at h
 ·rfl
theorem FW {l:Tb} (hf:ze l->Qy l) {env:EL} (h:yr l= .ok env):ze l/\(fK l).2=0/\ew env/\(∀n,(∃v,(n,v)∈env)↔ ∃p∈l,p.1=n)/\(∀x∈env,Hv l x.1 x.2)/\env.length<=l.length:=by
 unfold yr at h
 split at h
 ·rename_i h0
  obtain⟨o,ho⟩:∃o,(fK l).1=o:=⟨_,rfl⟩;rw[ho]at h;obtain⟨hl,ht,hn⟩:=BY (l:=l) (o:=o) (by rw[<- ho,<- h0]);have hI:=B8 hl (hf hl) ht o 0 [] env (by simp) (vg.nil l) h;refine⟨hl,h0,hI.so,fun n=>?_,hI.hv,?_⟩
  ·rw[<- hI.ky]
   constructor
   ·exact ht.mem n
   ·rintro⟨p,hp,rfl⟩;exact ht.all hn p hp
  ·have hnd:(env.map (·.1)).Nodup:=by
    refine List.nodup_iff_pairwise_ne.2 (List.pairwise_iff_getElem.2 fun i j hi hj hij e=>?_)
    simp only[List.length_map]at hi hj
    simp only[List.getElem_map]at e
    have:=hI.so i j _ _ hij (List.getElem?_eq_getElem hi) (List.getElem?_eq_getElem hj);rw[e,iT]at this;cases this
   have:=nY (b:=l.map (·.1)) hnd fun x hx=>by
    obtain⟨y,hy,rfl⟩:=List.mem_map.1 hx;obtain⟨p,hp,e⟩:=ht.mem _ ((hI.ky y.1).2 ⟨y.2,hy⟩);exact List.mem_map.2 ⟨p,hp,e⟩
   simpa using this
 ·cases h
theorem sh:∀(e:Ex),pW (rx e)=true->x7 e
 | .num v u,h=>by
  simp only[rx,pW,nN,Bool.and_eq_true,decide_eq_true_eq]at h
  exact⟨Sz.of_digs h.2.1.1,Sz.of_digs h.2.1.2⟩
 | .nam s,_=>trivial
 | .neg a,h=>by
  simp only[rx,pW,nN,Bool.and_eq_true]at h
  exact sh a h.1.1
 | .bin k a b,h=>by
  simp only[rx,pW,nN,Bool.and_eq_true]at h
  exact⟨sh a h.1.1,sh b h.1.2.1⟩
theorem q8:∀(e:Ex),mv e<=400*fW (rx e)
 | .num v u=>by simp[mv,rx,fW,eg]
 | .nam s=>by simp[mv,rx,fW,eg]
 | .neg a=>by have:=q8 a;simp only[mv,rx,fW,eg];omega
 | .bin k a b=>by have:=q8 a;have:=q8 b;simp only[mv,rx,fW,eg];omega
section
variable {P:Program} {T:TypeId->Option Ty} {n:Nat} {ops:Array Oper} {id:Nat} {draw:Bool} {K:AS->Prop} {s:AS} {k:Nat} {o:Oper} {os:List Oper} {fps:List FP}
def gV (J q e:Nat):Nat->TV
 |0=> .nil
 |m+1=> .own J (m+1) q e
def gX (cs:List AV):Nat->Option (List AV)
 |0=>none
 |_+1=>some cs
theorem mI.weak {s1 s2:AS} (h:mI P n o s s1) (hw:aU s1 s2):mI P n o s s2:=fun S0 w0 g a w K Q hM hK=>h S0 w0 g a w K Q hM fun g' a' w' hm=>by
 obtain⟨g2,hm2⟩:=hw _ _ _ _ _ ⟨g',hm⟩;exact hK g2 a' w' hm2
theorem bB.to {e:qn} (h:bB P o s e) (h3:aG n o.dst=true):mI P n o s (s.eff o.dst e):=fun S0 w0 g a w K Q hM hK=>h n S0 w0 g a w K Q hM (dx h3) hK
theorem gn (j:Nat):aU s ⟨s.t,(j,none)::s.b⟩:=fun _ _ _ _ _ ⟨g,h⟩=>⟨g,h.kill j⟩
theorem aU.tr {a b c:AS} (h:aU a b) (h':aU b c):aU a c:=fun n S0 w0 x w m=>h' n S0 w0 x w (h n S0 w0 x w m)
theorem FK {d:Nat} {x y:TV} {t:List (Nat × TV)} {b:List (Nat × Option (List AV))}:aU ⟨(d,x)::(d,y)::t,b⟩ ⟨(d,x)::t,b⟩:=fun _ _ _ _ _ ⟨g,h⟩=>⟨g,h.ext (fun k=>by
 by_cases e:d=k
 ·subst e;simp only[AS.tv,ai]
 ·simp only[AS.tv,ap _ _ e]) (fun _=>rfl)⟩
theorem Po (J':Nat) {d J:Nat} {x y:Operand} {t et q m1 m2:Nat} {ty te:Ty} {cs xs:List AV} (hT:∀t d,T t=some d->aY P t d) (hb:(m1+m2)*te.bytes<=140737488355328) (hcs:cs.length=m1*q) (hxs:xs.length=m2*q) (hxB:bz xs=true) (h0:draw=false) (h1:gd ops s o=some true) (ho:o.op= .call ⟨.builtin .append,#[x,y],#[t,t]⟩) (hd:o.dst=some d) (h3:aG n o.dst=true) (ht:T t=some ty) (hel:ty.elem=some (et,q)) (hte:T et=some te) (hq:te.size=q) (hq0:(Nat.ble 1 q && Nat.ble 1 te.bytes)=true)
 (hx:s.ev x=gV J q et m1) (hJ:ak s.b J=some (gX cs m1)) (hy:s.ev y= .d (.leaf (.sl m2 xs))) (hnew:fc s J'=true) (hcl:(bz te.zero && (!(bD J') && (!(bD J) && !(bW J'))))=true)
 (h:aq P T n ops id draw K (k+1) os ⟨(d,gV J' q et (m1+m2))::s.t,(J',gX (cs++xs) (m1+m2))::(J,none)::s.b⟩ (az ops o ⟨.junk,none⟩ []::fps)):aq P T n ops id draw K k (o::os) s fps:=by
 refine .snd h0 h1 ?_ h
 simp only[Bool.and_eq_true,Bool.not_eq_true']at hcl
 obtain⟨c1,c2,c3,c4⟩:=hcl;rw[Bool.and_eq_true]at hq0
 have h63:m1+m2<=9223372036854775807:=by
  exact Cm
 have hkill:∀(v:TV),aU (s.eff o.dst ⟨v,none⟩) ⟨(d,v)::s.t,(J',none)::(J,none)::s.b⟩:=fun v=>by
  rw[hd];exact(gn (s:=⟨(d,v)::s.t,s.b⟩) J).tr (gn J')
 cases m2 with
 |zero=>
  have hxe:xs=[]:=List.eq_nil_of_length_eq_zero (by rw[hxs,Nat.zero_mul]);subst hxe;rw[List.append_nil];cases m1 with
  |zero=>exact((o8 (hT _ _ ht) ho hel hx hy).to h3).weak (hkill .nil)
  |succ m=>
   refine((qg (hT _ _ ht) ho hel hx (cs:=cs) (by unfold AS.bx;rw[hJ];rfl) hy).to h3).weak ?_;rw[hd];have hl:ak s.b J'=none:=(bt hnew).1;exact aU.tr (aT (s:=⟨(d, .own J (m+1) q et)::s.t,s.b⟩) (q:=d) (j:=J) (m:=m+1) (k:=q) (e:=et) (by simp[AS.tv,ai]) (by show(AS.mk _ s.b).bx J=some cs;unfold AS.bx;rw[hJ];rfl) hl (by rw[c2,c3]) (bt hnew).2 c4) FK
 |succ m2=>
  cases m1 with
  |zero=>
   intro S0 w0 g a w K' Q hM hK;refine eP (hT _ _ ht) (hT _ _ hte) ho hd hel hq (Nat.le_of_ble_eq_true hq0.1) (.nil hx rfl) hy hxs (Nat.zero_lt_succ _) hb h63 (bt hnew) c4 (.inr (by rw[c1,hxB];rfl)) hM (dx h3 d hd) fun g' a' w' hm=>?_
   have hce:cs=[]:=List.eq_nil_of_length_eq_zero (by rw[hcs,Nat.zero_mul]);subst hce;rw[show 0+(m2+1)=m2+1 by omega]at hm hK;have hm:MG n S0 w0 g' ⟨(d, .own J' (m2+1) q et)::s.t,(J',some xs)::s.b⟩ a' w':=by rw[List.take_nil,List.nil_append]at hm;exact hm
   obtain⟨g2,hm2⟩:=(gn (s:=⟨(d, .own J' (m2+1) q et)::s.t,(J',some xs)::s.b⟩) J) _ _ _ _ _ ⟨g',hm⟩;have hJJ:J≠J':=fun e=>by subst e;have:=(bt hnew).1;rw[hJ]at this;cases this
   refine hK g2 a' w' (hm2.ext (fun _=>rfl) fun i=>?_);show ak ((J',some ([]++xs))::(J,none)::s.b) i=ak ((J,none)::(J',some xs)::s.b) i
   by_cases e1:J'=i
   ·subst e1;rw[ai,ap _ _ hJJ,ai];rfl
   ·rw[ap _ _ e1]
    by_cases e2:J=i
    ·subst e2;rw[ai,ai]
    ·rw[ap _ _ e2,ap _ _ e2,ap _ _ e1]
  |succ m1=>
   intro S0 w0 g a w K' Q hM hK;refine eP (dead:=some J) (cs:=cs) (hT _ _ ht) (hT _ _ hte) ho hd hel hq (Nat.le_of_ble_eq_true hq0.1) (.own hx (by unfold AS.bx;rw[hJ];rfl)) hy hxs (Nat.zero_lt_succ _) hb h63 (bt hnew) c4 (.inr (by rw[c1,hxB];show(true && true && !(bD J))=true;rw[c3];rfl)) hM (dx h3 d hd) fun g' a' w' hm=>?_
   rw[<- hcs,List.take_length]at hm;exact hK g' a' w' hm
theorem jb {q J k e m:Nat} {cs:List AV} (hcs:m=0->cs=[]) (hq:s.tv q=gV J k e m) (hJ:ak s.b J=some (gX cs m)):aU s ⟨(q, .d (.leaf (.sl m cs)))::s.t,(J,none)::s.b⟩:=by
 cases m with
 |zero=>rw[hcs rfl];exact(FV hq).tr (gn J)
 |succ m=>exact b5 hq (by unfold AS.bx;rw[hJ];rfl)
theorem zS {q J J' k e m:Nat} {cs:List AV} (hq:s.tv q=gV J k e m) (hJ:ak s.b J=some (gX cs m)) (hn:ak s.b J'=none) (hw:bD J'=bD J:=by rfl) (hrv:ia J'=false:=by rfl) (hlb:bW J'=false:=by rfl):aU s ⟨(q,gV J' k e m)::s.t,(J',gX cs m)::(J,none)::s.b⟩:=by
 cases m with
 |zero=>
  rintro n S0 w0 a w ⟨g,h⟩;have hm:=h.tm q;rw[hq]at hm;obtain⟨g2,h2⟩:=((gn (s:=⟨(q, .nil)::s.t,s.b⟩) J).tr (gn J')) n S0 w0 a w ⟨g,h.reslot (x:= .nil) hm rfl (by show oe (s.tv q)=true;rw[hq];rfl)⟩;exact⟨g2,h2⟩
 |succ m=>exact aT hq (by unfold AS.bx;rw[hJ];rfl) hn hw hrv hlb
end
def Mj:AV->Bool
 | .val _=>true
 | .sl _ cs=>cs.all fun c=>match c with
  | .val (.int .u32 _)=>true
  |_=>false
 |_=>false
def QH:DV->Bool
 | .leaf a=>Mj a
 | .agg cs=>cs.all Mj
def T0:RV->Bool
 | .one d=>QH d
 | .tup l=>l.all QH
theorem OG {S S':Nat->Prop} {w:World} {a:AV} {v:Value} (h:Mj a=true) (hm:AV.M S w a v) (hS:∀b,S' b->S b∨ ∀off v,w.cell? ⟨b,off,none⟩=some v->fR v=true):AV.M S' w a v:=by
 cases hm with
 |val h0=>exact .val h0
 |emp h1 h2 h3=>exact .emp h1 h2 h3
 |sl f h1 h2 h3 h4 h5 h6=>
  rename_i b off c n0 cs
  cases cs with
  |nil=>
   exact .emp h1 h2 (fun h=>by cases h)
  |cons x r=>
   have hx:∃i,x= .val (.int .u32 i):=by
    simp only[Mj,List.all_cons,Bool.and_eq_true]at h
    have:=h.1
    split at this
    ·exact⟨_,rfl⟩
    ·cases this
   obtain⟨i,rfl⟩:=hx;have h50:=h5 0 _ rfl;have h60:=aV (h6 0 _ rfl);rw[h60]at h50;refine .sl f h1 h2 (fun hb=>?_) h4 h5 fun i a hi=>?_
   ·rcases hS b hb with hb|hb
    ·exact h3 hb
    ·have:=hb _ _ h50;cases this
   ·have hw:∃z,a= .val (.int .u32 z):=by
     have h:=List.all_eq_true.1 h a (List.mem_of_getElem? hi)
     split at h
     ·exact⟨_,rfl⟩
     ·cases h
    obtain⟨z,rfl⟩:=hw;rw[aV (h6 i _ hi)];exact .val rfl
 |ow=>cases h
 |bp=>cases h
 |nl=>cases h
theorem OD {S S':Nat->Prop} {w:World} {d:DV} {v:Value} (h:QH d=true) (hm:DV.M S w d v) (hS:∀b,S' b->S b∨ ∀off v,w.cell? ⟨b,off,none⟩=some v->fR v=true):DV.M S' w d v:=by
 cases d with
 |leaf a=>exact OG h hm hS
 |agg cs=>
  obtain⟨vs,e,hl,hc⟩:=hm;exact⟨vs,e,hl,fun i a v h1 h2=>OG (List.all_eq_true.1 h a (List.mem_of_getElem? h1)) (hc i a v h1 h2) hS⟩
theorem Sn {S S':Nat->Prop} {g:Nat->Nat} {s:AS} {w:World} {r:RV} {v:Value} (h:T0 r=true) (hm:RV.M S w r v) (hS:∀b,S' b->S b∨ ∀off v,w.cell? ⟨b,off,none⟩=some v->fR v=true):TV.M S' g s w r.tv v:=by
 cases r with
 |one d=>exact OD (S:=S) (w:=w) h hm hS
 |tup l=>
  obtain⟨vs,e,hl,hc⟩:=hm;exact⟨vs,e,hl,fun i a v h1 h2=>OD (List.all_eq_true.1 h a (List.mem_of_getElem? h1)) (hc i a v h1 h2) hS⟩
theorem aa.rdW {P:Program} {f:FuncId} {ds:List DV} {r:RV} (h:aa P f ds r) {ts:List TV} {b:BL} (hts:Jn b ts=some ds) (hr:T0 r=true) (hwb:∀j cs,(sB b).bx j=some cs->bD j=false):au P f ts b (.v r) b:=by
 refine⟨h.enter,fun S g w vs hP hv=>?_⟩;refine(h.calls S w vs ⟨fun w' hb=>hP.tab w' ⟨hb.os,hb.tape,hb.output,hb.size,fun k hk _=>hb.block k hk,fun k hk _ arr e fz he=>⟨arr,fz,(hb.block k hk).trans he,rfl⟩⟩,fun q hq=>⟨(hP.blk q hq).1,(hP.blk q hq).2.2⟩,fun k cs hk=>?_⟩ (uO hP hts hv)).mono ?_
 ·exact NT
 ·rintro e w' ⟨v,rfl,hm,hb⟩
  refine⟨v,g,rfl,fun j cs cs' h1 h2=>?_,fun j cs' h1=>⟨.inr ⟨j,cs',h1,rfl⟩,?_⟩,hP.inj,Sn hr hm (fun q hq=>?_),⟨hb.os,hb.tape,hb.output,hb.size,fun k hk _=>hb.block k hk,fun k hk _ arr e fz he=>⟨arr,fz,(hb.block k hk).trans he,rfl⟩⟩⟩
  ·rw[h1]at h2;cases h2;exact⟨rfl,Nat.le_refl _⟩
  ·exact N3
  ·rcases hq with hq| ⟨j,cs',h1,rfl⟩
   ·exact .inl hq
   ·refine .inr fun off v hv=>?_
    obtain⟨arr,e,h7,_,h9,_⟩:=hP.bm j cs' h1;have h7':w'.heap[g j]? =some (.cells arr e (0,0)):=(hb.block _ (Array.getElem?_eq_some_iff.1 h7).1).trans h7;rw[dh h7']at hv;exact h9 (hwb j cs' h1) v (List.mem_of_getElem? (by simpa using hv))
section
variable {P:Program} {T:TypeId->Option Ty} {n:Nat} {ops:Array Oper} {id:Nat} {draw:Bool} {K:AS->Prop} {s:AS} {k:Nat} {o:Oper} {os:List Oper} {fps:List FP}
end
end Go.Proofs.YtnchbpoopnjghaaGreatDoor
