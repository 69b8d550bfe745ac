/- Parts of a proof: contracts of the functions that the laws reach. -/
import Derived.Test.YtnchbpoopnjghaaGreatDoorCZ9
set_option maxHeartbeats 100000000
set_option maxRecDepth 100000
set_option linter.all false
open Go.Proofs.Tryz
namespace Go.Proofs.YtnchbpoopnjghaaGreatDoor
open Go.RowKit
section
variable {P:Program} {T:TypeId->Option Ty} {n:Nat} {ops:Array Oper} {id:Nat} {draw:Bool} {K:AS->Prop} {s:AS} {k:Nat} {o:Oper} {os:List Oper} {fps:List FP}
theorem mB {P:Program} {w:World} {t et q:Nat} (hu:P.underlying t=some (.slice et)) (hks:(P.info? et).map (·.size)=some q) (A:Option Addr) {m i c:Nat} (ik:IntKind) (hi:i<=m):
 (Instr.sliceAt t (.slice A m c) (some (.int ik (i:Nat))) none none).run P w= .ok (.slice (if c=i then A else A.map (·.add (i*q))) (m-i) (c-i)) w:=by
 have hib:(0:Int)<=(i:Int)/\(i:Int)<=(m:Nat):=⟨by omega,by omega⟩;unfold Instr.sliceAt
 simp only[Sem.run_bind,run_underlying hu w,Result.andThen_ok]
 unfold Instr.slice
 simp only[Sem.run_bind,run_underlying hu w,Result.andThen_ok,Instr.sliceBounds,Instr.sliceBound,Sem.run_pure,asIntOf]
 rw[if_pos hib]
 simp only[Sem.run_pure,Result.andThen_ok,Int.toNat_natCast]
 rw[bn hks w];rfl
theorem qn {P:Program} {w:World} {t et q:Nat} (hu:P.underlying t=some (.slice et)) (hks:(P.info? et).map (·.size)=some q) (A:Option Addr) {m i c:Nat} (ik:IntKind) (hi:i<=c):
 (Instr.sliceAt t (.slice A m c) none (some (.int ik (i:Nat))) none).run P w= .ok (.slice (if c=0 then A else A.map (·.add (0*q))) i c) w:=by
 have hib:(0:Int)<=(i:Int)/\(i:Int)<=(c:Nat):=⟨by omega,by omega⟩;unfold Instr.sliceAt
 simp only[Sem.run_bind,run_underlying hu w,Result.andThen_ok]
 unfold Instr.slice
 simp only[Sem.run_bind,run_underlying hu w,Result.andThen_ok,Instr.sliceBounds,Instr.sliceBound,Sem.run_pure,asIntOf]
 simp only[Bool.false_eq_true,if_false,if_true]
 rw[if_pos hib]
 simp only[Sem.run_pure,Result.andThen_ok,Int.toNat_natCast]
 rw[bn hks w];rfl
theorem kg (hT:∀t d,T t=some d->aO P t d) {t:TypeId} {ty:Ty} {x y:Operand} {j et q m i:Nat} {ik:IntKind} {cs:List AV} (hi:i<m) (h1:gd ops s o=some true) (h2:o.op= .slice t x (some y) none none) (h5:T t=some ty) (h6:ty.elem=some (et,q)) (h7:s.ev x= .own j m q et) (hb:s.bx j=some cs) (h8:s.ev y= .d (.leaf (.val (.int ik (i:Nat)))))
 (h3:aB n o.dst=true) (h4:eZ draw ops (au ops o ⟨.vw j i (m-i) q,none⟩ [j]) k fps=true) (h:ak P T n ops id draw K (k+1) os (s.eff o.dst ⟨.vw j i (m-i) q,none⟩) (au ops o ⟨.vw j i (m-i) q,none⟩ [j]::fps)):ak P T n ops id draw K k (o::os) s fps:=by
 refine .run h1 (.gen fun s2 ht hrb=>?_) h3 h4 h;have hx:=(aq ht (x:=x) (by simp[h2,Op.operands])).trans h7;have hy:=(aq ht (x:=y) (by simp[h2,Op.operands])).trans h8;have hbj:=(aV (hrb j (by simp))).trans hb;obtain⟨u,hu,_,hel,_⟩:=(hT _ _ h5).und;obtain⟨rfl,hks⟩:=hel et q h6;refine ah fun n S0 w0 g a w hM=>?_
 have hm:=hM.ev x;rw[hx]at hm;obtain⟨c,e1,e2,e3,e4,arr,e5,e6⟩:=hm.2 cs hbj;have hr:=mB (w:=w) hu hks (some ⟨g j,0,none⟩) (m:=m) (i:=i) (c:=c) ik (by omega);rw[if_neg (by omega),Option.map_some,bL,Nat.zero_add]at hr;refine⟨.slice (some ⟨g j,i*q,none⟩) (m-i) (c-i),w,?_,Below.refl _ _,hm.1,fun cs' hc=>?_⟩
 ·exact M3
 ·rw[hbj]at hc
  cases hc;exact⟨c-i,rfl,by omega,by omega,by rw[show i+(m-i)=m by omega];exact e4⟩
theorem IF (hT:∀t d,T t=some d->aO P t d) {t:TypeId} {ty:Ty} {x y:Operand} {j et q m:Nat} {ik:IntKind} {cs:List AV} (h1:gd ops s o=some true) (h2:o.op= .slice t x (some y) none none) (h5:T t=some ty) (h6:ty.elem=some (et,q)) (h7:s.ev x= .own j m q et) (hb:s.bx j=some cs) (h8:s.ev y= .d (.leaf (.val (.int ik (m:Nat)))))
 (h3:aB n o.dst=true) (h4:eZ draw ops (au ops o ⟨.d (.leaf (.sl 0 [])),none⟩ [j]) k fps=true) (h:ak P T n ops id draw K (k+1) os (s.eff o.dst ⟨.d (.leaf (.sl 0 [])),none⟩) (au ops o ⟨.d (.leaf (.sl 0 [])),none⟩ [j]::fps)):ak P T n ops id draw K k (o::os) s fps:=by
 refine .run h1 (.gen fun s2 ht hrb=>?_) h3 h4 h;have hx:=(aq ht (x:=x) (by simp[h2,Op.operands])).trans h7;have hy:=(aq ht (x:=y) (by simp[h2,Op.operands])).trans h8;have hbj:=(aV (hrb j (by simp))).trans hb;obtain⟨u,hu,_,hel,_⟩:=(hT _ _ h5).und;obtain⟨rfl,hks⟩:=hel et q h6;refine ah fun n S0 w0 g a w hM=>?_
 have hm:=hM.ev x;rw[hx]at hm;obtain⟨c,e1,e2,e3,e4,arr,e5,e6⟩:=hm.2 cs hbj;have hr:=mB (w:=w) hu hks (some ⟨g j,0,none⟩) (m:=m) (i:=m) (c:=c) ik (Nat.le_refl _);rw[Nat.sub_self]at hr;refine⟨.slice (if c=m then some ⟨g j,0,none⟩else(some ⟨g j,0,none⟩:Option Addr).map (·.add (m*q))) 0 (c-m),w,?_,Below.refl _ _,AV.M.emp (by omega) (by omega) (fun hA=>?_)⟩
 ·exact M3
 ·split at hA<;>cases hA
theorem D3 (hT:∀t d,T t=some d->aO P t d) {t:TypeId} {ty:Ty} {x y:Operand} {et q:Nat} {ik:IntKind} (h1:gd ops s o=some true) (h2:o.op= .slice t x (some y) none none) (h5:T t=some ty) (h6:ty.elem=some (et,q)) (h7:s.ev x= .nil) (h8:s.ev y= .d (.leaf (.val (.int ik (0:Nat)))))
 (h3:aB n o.dst=true) (h4:eZ draw ops (au ops o ⟨.d (.leaf (.sl 0 [])),none⟩ []) k fps=true) (h:ak P T n ops id draw K (k+1) os (s.eff o.dst ⟨.d (.leaf (.sl 0 [])),none⟩) (au ops o ⟨.d (.leaf (.sl 0 [])),none⟩ []::fps)):ak P T n ops id draw K k (o::os) s fps:=by
 refine .run h1 (.gen fun s2 ht hrb=>?_) h3 h4 h;have hx:=(aq ht (x:=x) (by simp[h2,Op.operands])).trans h7;have hy:=(aq ht (x:=y) (by simp[h2,Op.operands])).trans h8;obtain⟨u,hu,_,hel,_⟩:=(hT _ _ h5).und;obtain⟨rfl,hks⟩:=hel et q h6;refine ah fun n S0 w0 g a w hM=>?_
 have hm:=hM.ev x;rw[hx]at hm;have hm:a.eval x= .slice none 0 0:=hm;have hr:=mB (w:=w) hu hks none (m:=0) (i:=0) (c:=0) ik (Nat.le_refl _);rw[if_pos rfl]at hr;refine⟨.slice none 0 0,w,?_,Below.refl _ _,AV.M.emp (Nat.le_refl _) (by decide) (fun _=>rfl)⟩;unfold execOp;rw[h2]
 simp only[hm,aY hM hy,Option.map_some,Option.map_none,Sem.run_bind,hr,Result.andThen_ok]
 rfl
theorem KC {S0:Nat->Prop} {w0:ee} {g:Nat->Nat} {a:Act} {w:World} (hM:MG n S0 w0 g s a w) {x:Operand} {j p m q:Nat} {cs:List AV} (hx:s.ev x= .vw j p m q) (hb:s.bx j=some cs):nR (Own S0 g s) w (a.eval x) m q ((cs.drop (p*q)).take (m*q)):=by
 have hm:=hM.ev x;rw[hx]at hm;obtain⟨c,e1,e2,e3,e4⟩:=hm.2 cs hb;obtain⟨_,arr,e,e5,e6,_⟩:=hM.bm j cs hb;have hl:=e6.1;have hsz:(p+m)*q=p*q+m*q:=Nat.add_mul _ _ _;refine⟨_,c,(arr.toList.drop (p*q)).take (m*q),e1,by simp at hl ⊢;omega,fun i u hi=>?_,e6.sub (by omega)⟩;exact I6
theorem yl {S0:Nat->Prop} {w0:ee} {g:Nat->Nat} {a:Act} {w:World} (hM:MG n S0 w0 g s a w) {x:Operand} {j m q e2:Nat} {cs:List AV} (hx:s.ev x= .own j m q e2) (hb:s.bx j=some cs):nR (Own S0 g s) w (a.eval x) m q (cs.take (m*q)):=by
 have hm:=hM.ev x;rw[hx]at hm;obtain⟨c,e1,e2,e3,e4,_⟩:=hm.2 cs hb;obtain⟨_,arr,e,e5,e6,_⟩:=hM.bm j cs hb;have hl:=e6.1;have h0:=e6.sub (off:=0) (k:=m*q) (by omega);rw[List.drop_zero,List.drop_zero]at h0;refine⟨_,c,arr.toList.take (m*q),e1,by simp at hl ⊢;omega,fun i u hi=>?_,h0⟩;exact I6
theorem HC (j':Nat) {d:Nat} {x y:Operand} {t et q m1 m2 j2 e2:Nat} {ty te:Ty} {dead:Option Nat} {cs cs2:List AV} (hT:∀t d,T t=some d->aO P t d) (hm:0<m2) (hb:(m1+m2)*te.bytes<=140737488355328) (hlen:m2*q<=cs2.length) (h1:gd ops s o=some true) (ho:o.op= .call ⟨.builtin .append,#[x,y],#[t,t]⟩) (hd:o.dst=some d) (h3:aB n o.dst=true) (ht:T t=some ty) (hel:ty.elem=some (et,q)) (hte:T et=some te) (hq:te.size=q) (hq0:(Nat.ble 1 q && Nat.ble 1 te.bytes)=true)
 (hbase:eM s x m1 q et dead cs) (hy:s.ev y= .own j2 m2 q e2) (hj2:s.bx j2=some cs2) (hnew:fo s j'=true) (hcl:(bt te.zero && bt (cs2.take (m2*q)) && iK dead)=true)
 (h4:eZ draw ops (au ops o ⟨.own j' (m1+m2) q et,some ((j',some (cs.take (m1*q)++cs2.take (m2*q)))::eY dead [])⟩ (j'::j2::qU dead)) k fps=true)
 (h:ak P T n ops id draw K (k+1) os (s.eff o.dst ⟨.own j' (m1+m2) q et,some ((j',some (cs.take (m1*q)++cs2.take (m2*q)))::eY dead [])⟩) (au ops o ⟨.own j' (m1+m2) q et,some ((j',some (cs.take (m1*q)++cs2.take (m2*q)))::eY dead [])⟩ (j'::j2::qU dead)::fps)):ak P T n ops id draw K k (o::os) s fps:=by
 rw[Bool.and_eq_true]at hq0
 have h63:m1+m2<=9223372036854775807:=by
  exact B7
 refine .run h1 (.gen fun s2 ht2 hrb=>?_) h3 h4 h;have hx2:s2.ev x=s.ev x:=aq ht2 (by rw[ho];simp[Op.operands,Call.operands]);have hy2:s2.ev y=s.ev y:=aq ht2 (by rw[ho];simp[Op.operands,Call.operands]);have hb2:s2.bx j2=some cs2:=(aV (hrb j2 (by simp))).trans hj2
 have hbase2:eM s2 x m1 q et dead cs:=by
  exact Mh
 have hnew2:fo s2 j'=true:=(ep (hrb j' (by simp))).trans hnew;intro n S0 w0 g a w K Q hM hdn hK;refine oj (hT _ _ ht) (hT _ _ hte) ho hd hel hq (Nat.le_of_ble_eq_true hq0.1) hbase2 (by rw[List.length_take];omega) hm hb h63 (bd hnew2) (ks hnew2) (.inr hcl) hM (yl hM (hy2.trans hy) hb2) (hdn d hd) fun g' a' w' hM'=>hK g' a' w' ?_
 rw[hd];cases dead<;>exact hM'
theorem q9 {s2:AS} {x y:Operand} {t et q m1 j:Nat} {ty:Ty} {ts:List AV} {cs:List AV} (hT:aO P t ty) (ho:o.op= .call ⟨.builtin .append,#[x,y],#[t,t]⟩) (hel:ty.elem=some (et,q)) (hx2:s2.ev x= .own j m1 q et) (hbj:s2.bx j=some cs) (hy2:s2.ev y= .d (.leaf (.sl 0 ts))):bh P o s2 ⟨.own j m1 q et,none⟩:=by
 obtain⟨u,hu,_,hel',_⟩:=hT.und;obtain⟨rfl,hks⟩:=hel' et q hel;refine ah fun n S0 w0 g a w hM=>?_
 have hm:=hM.ev x;rw[hx2]at hm;obtain⟨c,e1,e2,e3,e4,arr,e5,e6⟩:=hm.2 cs hbj;have hm0:=hm;rw[e1]at hm0;have hyv:=hM.ev y;rw[hy2]at hyv;have hyv:AV.M (Own S0 g s2) w (.sl 0 ts) (a.eval y):=hyv
 have hA:∃A c2,a.eval y= .slice A 0 c2:=by
  exact Mg
 obtain⟨A,c2,hv⟩:=hA
 have hr:(Builtin.append_ #[t,t] o.type #[.slice (some ⟨g j,0,none⟩) m1 c, .slice A 0 c2]).run P w= .ok (.slice (some ⟨g j,0,none⟩) m1 c) w:=by
  have hz:∀ad:Addr,(loadCells ad 0).run P w= .ok #[] w:=fun ad=>by
   simpa using run_loadCells_list (P:=P) w ad [] (fun j v hj=>by simp at hj)
  cases A with
  |none=>simp[Builtin.append_,run_underlying hu,bn hks w,Builtin.lenOf,Builtin.firstCells,e2,storeCells]
  |some ad=>simp[Builtin.append_,run_underlying hu,bn hks w,Builtin.lenOf,Builtin.firstCells,e2,storeCells,hz]
 refine⟨.slice (some ⟨g j,0,none⟩) m1 c,w,?_,Below.refl _ _,hm0⟩;unfold execOp
 simp only[ho,resolve,invoke,builtin,Sem.run_bind,Sem.run_pure,Result.andThen_ok,List.map_toArray,List.map_cons,List.map_nil,e1,hv,hr]
theorem Fc {x y:Operand} {t et q m1 j:Nat} {ty:Ty} {ts:List AV} {cs:List AV} (hT:∀t d,T t=some d->aO P t d) (h1:gd ops s o=some true) (ho:o.op= .call ⟨.builtin .append,#[x,y],#[t,t]⟩) (ht:T t=some ty) (hel:ty.elem=some (et,q)) (h7:s.ev x= .own j m1 q et) (hb:s.bx j=some cs) (hy:s.ev y= .d (.leaf (.sl 0 ts)))
 (h3:aB n o.dst=true) (h4:eZ draw ops (au ops o ⟨.own j m1 q et,none⟩ [j]) k fps=true) (h:ak P T n ops id draw K (k+1) os (s.eff o.dst ⟨.own j m1 q et,none⟩) (au ops o ⟨.own j m1 q et,none⟩ [j]::fps)):ak P T n ops id draw K k (o::os) s fps:=
 .run h1 (.gen fun _ ht2 hrb=>q9 (hT _ _ ht) ho hel ((aq ht2 (x:=x) (by rw[ho];simp[Op.operands,Call.operands])).trans h7) ((aV (hrb j (by simp))).trans hb) ((aq ht2 (x:=y) (by rw[ho];simp[Op.operands,Call.operands])).trans hy)) h3 h4 h
theorem oB {s2:AS} {x y:Operand} {t et q:Nat} {ty:Ty} {ts:List AV} (hT:aO P t ty) (ho:o.op= .call ⟨.builtin .append,#[x,y],#[t,t]⟩) (hel:ty.elem=some (et,q)) (hx2:s2.ev x= .nil) (hy2:s2.ev y= .d (.leaf (.sl 0 ts))):bh P o s2 ⟨.nil,none⟩:=by
 obtain⟨u,hu,_,hel',_⟩:=hT.und;obtain⟨rfl,hks⟩:=hel' et q hel;refine ah fun n S0 w0 g a w hM=>?_
 have hm:=hM.ev x;rw[hx2]at hm;have hm:a.eval x= .slice none 0 0:=hm;have hyv:=hM.ev y;rw[hy2]at hyv;have hyv:AV.M (Own S0 g s2) w (.sl 0 ts) (a.eval y):=hyv
 have hA:∃A c2,a.eval y= .slice A 0 c2:=by
  exact Mg
 obtain⟨A,c2,hv⟩:=hA
 have hr:(Builtin.append_ #[t,t] o.type #[.slice none 0 0, .slice A 0 c2]).run P w= .ok (.slice none 0 0) w:=by
  have hz:∀ad:Addr,(loadCells ad 0).run P w= .ok #[] w:=fun ad=>by
   simpa using run_loadCells_list (P:=P) w ad [] (fun j v hj=>by simp at hj)
  cases A with
  |none=>simp[Builtin.append_,run_underlying hu,bn hks w,Builtin.lenOf,Builtin.firstCells,storeCells]
  |some ad=>simp[Builtin.append_,run_underlying hu,bn hks w,Builtin.lenOf,Builtin.firstCells,storeCells,hz]
 refine⟨.slice none 0 0,w,?_,Below.refl _ _,rfl⟩;unfold execOp
 simp only[ho,resolve,invoke,builtin,Sem.run_bind,Sem.run_pure,Result.andThen_ok,List.map_toArray,List.map_cons,List.map_nil,hm,hv,hr]
theorem J1 {x y:Operand} {t et q:Nat} {ty:Ty} {ts:List AV} (hT:∀t d,T t=some d->aO P t d) (h1:gd ops s o=some true) (ho:o.op= .call ⟨.builtin .append,#[x,y],#[t,t]⟩) (ht:T t=some ty) (hel:ty.elem=some (et,q)) (h7:s.ev x= .nil) (hy:s.ev y= .d (.leaf (.sl 0 ts)))
 (h3:aB n o.dst=true) (h4:eZ draw ops (au ops o ⟨.nil,none⟩ []) k fps=true) (h:ak P T n ops id draw K (k+1) os (s.eff o.dst ⟨.nil,none⟩) (au ops o ⟨.nil,none⟩ []::fps)):ak P T n ops id draw K k (o::os) s fps:=
 .run h1 (.gen fun _ ht2 _=>oB (hT _ _ ht) ho hel ((aq ht2 (x:=x) (by rw[ho];simp[Op.operands,Call.operands])).trans h7) ((aq ht2 (x:=y) (by rw[ho];simp[Op.operands,Call.operands])).trans hy)) h3 h4 h
theorem Bo (j':Nat) {d t et q len:Nat} {ty te:Ty} {parts:Array (Nat × Operand)} {l:List (Nat × DV)} {cs:List AV} (hT:∀t d,T t=some d->aO P t d) (h1:gd ops s o=some true) (ho:o.op= .buildSlice t len parts) (hd:o.dst=some d) (h3:aB n o.dst=true) (ht:T t=some ty) (hel:ty.elem=some (et,q)) (hte:T et=some te)
 (hk:(Nat.ble 1 q && (Nat.ble 1 len && (Nat.beq te.zero.length q && (Nat.ble (len*q) 16777216 && Nat.beq cs.length (len*q)))))=true) (hp:dX s parts.toList=some l) (hf:l4 (fun i=>some (i*q,q)) (iB te.zero len) l=some cs) (hB:bt cs=true) (hnew:fo s j'=true)
 (h4:eZ draw ops (au ops o ⟨.own j' len q et,some [(j',some cs)]⟩ [j']) k fps=true) (h:ak P T n ops id draw K (k+1) os (s.eff o.dst ⟨.own j' len q et,some [(j',some cs)]⟩) (au ops o ⟨.own j' len q et,some [(j',some cs)]⟩ [j']::fps)):ak P T n ops id draw K k (o::os) s fps:=by
 simp only[Bool.and_eq_true]at hk
 obtain⟨k1,k2,k3,k4,k5⟩:=hk;have k1:=Nat.le_of_ble_eq_true k1;have k2:=Nat.le_of_ble_eq_true k2;have k3:=Nat.eq_of_beq_eq_true k3;have k4:=Nat.le_of_ble_eq_true k4;have k5:=Nat.eq_of_beq_eq_true k5;refine .run h1 (.gen fun s2 ht2 hrb=>?_) h3 h4 h;have hnew2:fo s2 j'=true:=(ep (hrb j' (by simp))).trans hnew
 have hp2:dX s2 parts.toList=some l:=by
  rw[<- hp];have:∀x∈parts.toList,s2.ev x.2=s.ev x.2:=fun x hx=>aq ht2 (by rw[ho];simp only[Op.operands];simp;exact⟨x.1,by simpa using hx⟩)
  generalize parts.toList=ps at this;clear hp hf
  induction ps with
  |nil=>rfl
  |cons p ps ih=>
   simp only[dX]
   rw[ih (fun x hx=>this x (by simp[hx])),this p (by simp)]
 intro n S0 w0 g a w K' Q hM hdn hK;obtain⟨u,hu,_,hel',_⟩:=(hT _ _ ht).und;obtain⟨rfl,hks⟩:=hel' et q hel;obtain⟨z,hz,hzm⟩:=(hT _ _ hte).zero;have hpos:0<len*q:=Nat.mul_pos k2 k1
 have hzl':z.cells.size=q:=by have:=(hzm (Own S0 g s2) w).1;simp at this;omega
 have hini:CM (Own S0 g s2) w (iB te.zero len) ((Array.range (len*q)).map (fun i=>z.cells[i%z.cells.size]!)).toList:=by
  refine⟨by rw[cZ,k3];simp,fun i b v h1 h2=>?_⟩;rw[jE _ (by omega)]at h1
  split at h1
  ·rename_i hi
   rw[k3]at h1 hi;have hm:i%q<q:=Nat.mod_lt _ k1
   have hv:v=z.cells[i%q]'(by omega):=by
    simp[hi,hzl']at h2
    rw[<- h2]
    simp[hzl',hm]
   exact(hzm _ w).2 (i%q) b v h1 (by rw[hv];simp[hzl',hm])
  ·cases h1
 obtain⟨arr,g1,g2⟩:=pt l _ _ _ cs hini (mf hM parts.toList l hp2) hf;have e:(parts.map fun x=>match x with|(i,y)=>(i,a.eval y)).toList=parts.toList.map fun(p:Nat × Operand)=>(p.1,a.eval p.2):=by simp
 have hr:(execOp a.eval o).run P w= .ok (.value (.slice (some ⟨w.heap.size,0,none⟩) len len)) (w.alloc (.cells arr et)):=by
  unfold execOp;rw[ho]
  simp only[Instr.buildSlice,Sem.run_bind,run_underlying hu w,Result.andThen_ok,bn hks w]
  rw[if_neg (by omega),if_neg (by omega)]
  simp only[Sem.run_bind,jL hz w,Result.andThen_ok,Sem.run_pure,e,g1]
  rfl
 unfold Oper.wp;rw[hr];show K' (a.put o.dst _) _;rw[hd]at hK ⊢;have hsz:arr.size=len*q:=by have:=g2.1;simp at this;omega
 have hl1:len<=9223372036854775807:=by
  have:=Nat.le_mul_of_pos_right len k1;omega
 refine hK _ _ _ (hM.alloc (hdn d hd) (bd hnew2).1 (bd hnew2).2 g2.cp (fun _=>iL g2 hB) (ku hB) (fun h=>by rw[m4 hnew2]at h;cases h) fun g' s' hg hb=>?_);refine⟨AS.kn_of hb,fun cs' hc=>⟨len,by rw[hg],Nat.le_refl _,hl1,?_,arr,?_,hsz⟩⟩
 ·rw[hb]at hc;cases hc;exact Nat.le_of_eq k5.symm
 ·rw[hg];exact heap_alloc_new w _
theorem FW {q:Nat} (hq:s.tv q= .nil):aL s ⟨(q, .d (.leaf (.sl 0 [])))::s.t,s.b⟩:=by
 rintro n S0 w0 a w ⟨g,h⟩;have hm:=h.tm q;rw[hq]at hm;exact⟨g,h.reslot (IQ (tv:= .nil) rfl hm) rfl (by show nA (s.tv q)=true;rw[hq];rfl)⟩
theorem H1 {q m:Nat} {cs:List AV} (i:Nat) (hq:s.tv q= .d (.leaf (.sl m cs))):aL s ⟨(q, .d (.leaf (.sl m (cs.take i))))::s.t,s.b⟩:=by
 rintro n S0 w0 a w ⟨g,h⟩;have hm:=h.tm q;rw[hq]at hm;have hm:AV.M (Own S0 g s) w (.sl m cs) (a.tmps.getD q Go.undef):=hm
 have key:AV.M (Own S0 g s) w (.sl m (cs.take i)) (a.tmps.getD q Go.undef):=by
  generalize a.tmps.getD q Go.undef=v at hm
  have hc:∀(p:Nat) (b:AV),(cs.take i)[p]? =some b->cs[p]? =some b:=fun p b hb=>by
   rw[List.getElem?_take]at hb
   split at hb
   ·exact hb
   ·cases hb
  cases hm with
  |emp h1 h2 h3=>rw[List.take_nil];exact .emp h1 h2 h3
  |sl f h1 h2 h3 h4 h5 h6=>exact .sl f h1 h2 h3 h4 (fun p b hb=>h5 p b (hc p b hb)) (fun p b hb=>h6 p b (hc p b hb))
 exact⟨g,h.reslot key rfl (by show nA (s.tv q)=true;rw[hq];rfl)⟩
end
def Ao (J:Nat):List L8->TV
 | []=> .nil
 |a::r=> .own J (a::r).length 1 9
def EG:List L8->Option (List AV)
 | []=>none
 |a::r=>some (aF (a::r))
theorem im (l:List L8):(aF l).length=l.length:=by simp[aF]
theorem mh (a b:List L8):aF (a++b)=aF a++aF b:=by simp[aF]
theorem JG {l:List L8} {i:Nat} {x:L8} (h:l[i]? =some x):(aF l)[i*1]? =some (.val (vL x)):=by simp[aF,h]
theorem ii {l:List L8} {i:Nat} {x:L8} (h:l[i]? =some x):∀(j:Nat) (a:AV),[AV.val (vL x)][j]? =some a->(aF l)[i*1+j]? =some a:=fun j a hj=>by
 cases j with
 |zero=>cases hj;exact JG h
 |succ j=>cases hj
theorem Br:∀{cs:List AV},(∀a∈cs,∃l,a= .val (vL l))->bt cs=true
 | [],_=>rfl
 |a::r,h=>by
  obtain⟨l,rfl⟩:=h a (by simp);have ih:=Br (cs:=r) (fun b hb=>h b (by simp[hb]))
  simp only[bt,ih]
  rfl
theorem Gs {l:List L8} {a:AV} (h:a∈aF l):∃x,a= .val (vL x):=by
 obtain⟨x,_,rfl⟩:=List.mem_map.1 h;exact⟨x,rfl⟩
theorem tV (l:List L8):bt (aF l)=true:=Br fun _ h=>Gs h
theorem AT (t:List (Nat × TV)) (b:List (Nat × Option (List AV))) (q J:Nat) (l:List L8) (y:L8) (r:List L8):(⟨(q,Ao J (l++y::r))::t,(J,EG (l++y::r))::b⟩:AS)=⟨(q, .own J (l.length+(y::r).length) 1 9)::t,(J,some ((aF l).take (l.length*1)++aF (y::r)))::b⟩:=by
 have e1:Ao J (l++y::r)= .own J (l.length+(y::r).length) 1 9:=by
  cases l with
  |nil=>simp[Ao]
  |cons a l=>simp[Ao];omega
 have e2:EG (l++y::r)=some ((aF l).take (l.length*1)++aF (y::r)):=by
  rw[Nat.mul_one,List.take_of_length_le (Nat.le_of_eq (im l)),<- mh];cases l<;>rfl
 rw[e1,e2]
theorem CU {args:List Rx} {i:Nat} (h:i<args.length):fH (args.take (i+1))=fH (args.take i)++oo args[i]:=by
 have app:∀a b:List Rx,fH (a++b)=fH a++fH b:=by
  intro a b
  induction a with
  |nil=>simp[fH]
  |cons x r ih=>simp[fH,ih]
 rw[List.take_add_one,app]
 simp[h,fH]
theorem xk:∀(l:List L8) (x:L8),(lC l x).length<=l.length+1
 | [],x=>by simp[lC]
 |y::r,x=>by
  have ih:=xk r x;unfold lC
  split
  ·simp only[List.length_cons];omega
  ·split <;>simp
theorem zR (l:List L8):(jD l).length<=l.length:=by
 have:∀(l acc:List L8),(l.foldl lC acc).length<=acc.length+l.length:=by
  intro l
  induction l with
  |nil=>intro acc;simp
  |cons x l ih=>
   intro acc;have h1:=ih (lC acc x);have h2:=xk acc x;rw[List.foldl_cons,List.length_cons];omega
 have:=this l []
 simpa[jD]using this
theorem CR:∀x,(oo x).length<=ib x:=by
 refine eQ fun op na xs nb ys nm args ih=>?_
 have key:∀l:List Rx,(∀y∈l,(oo y).length<=ib y)->(fH l).length<=eR l:=by
  intro l
  induction l with
  |nil=>intro _;simp[fH]
  |cons y l ihl=>
   intro h;have h1:=h y (by simp);have h2:=ihl (fun z hz=>h z (by simp[hz]));rw[fH,eR,List.length_append];omega
 have h1:=key args ih;rw[oo,ib];refine Nat.le_trans (zR _) ?_;rw[List.length_append]
 split <;>simp <;>omega
theorem EW (l:List Rx):(fH l).length<=eR l:=by
 induction l with
 |nil=>simp[fH]
 |cons y l ihl=>
  have h1:=CR y;rw[fH,eR,List.length_append];omega
theorem sE (l:List Rx) (i:Nat):(fH (l.take i)).length<=eR l:=by
 have h:eR (l.take i)<=eR l:=by
  induction l generalizing i with
  |nil=>simp
  |cons y l ih=>
   cases i with
   |zero=>simp[eR]
   |succ i=>have:=ih i;simp only[List.take_succ_cons,eR];omega
 exact Nat.le_trans (EW _) h
theorem Sp {t:TypeId} {p q:Operand} {a b:L8} {v:Bool} (h:Op.bytesLess a b=v):lJ .lss t p q (vL a) (vL b)=some (.bool v):=by rw[tK,h]
def SH:AV->Bool
 | .val _=>true
 |_=>false
def Sk:DV->Bool
 | .leaf a=>SH a
 | .agg cs=>cs.all SH
def S7:RV->Bool
 | .one d=>Sk d
 | .tup l=>l.all Sk
theorem MC {S S':Nat->Prop} {w w':World} {a:AV} {v:Value} (h:SH a=true) (hm:AV.M S w a v):AV.M S' w' a v:=by
 cases hm with
 |val h0=>exact .val h0
 |_=>cases h
theorem ME {S S':Nat->Prop} {w w':World} {d:DV} {v:Value} (h:Sk d=true) (hm:DV.M S w d v):DV.M S' w' d v:=by
 cases d with
 |leaf a=>exact MC h hm
 |agg cs=>
  obtain⟨vs,e,hl,hc⟩:=hm;exact⟨vs,e,hl,fun i a v h1 h2=>MC (List.all_eq_true.1 h a (List.mem_of_getElem? h1)) (hc i a v h1 h2)⟩
theorem Qx {S S':Nat->Prop} {g:Nat->Nat} {s:AS} {w w':World} {r:RV} {v:Value} (h:S7 r=true) (hm:RV.M S w r v):TV.M S' g s w' r.tv v:=by
 cases r with
 |one d=>exact ME (S:=S) (w:=w) h hm
 |tup l=>
  obtain⟨vs,e,hl,hc⟩:=hm;exact⟨vs,e,hl,fun i a v h1 h2=>ME (List.all_eq_true.1 h a (List.mem_of_getElem? h1)) (hc i a v h1 h2)⟩
def R1 (b:BL):TV->Option DV
 | .d x=>some x
 | .own j n _ _=>match af b j with
  |some cs=>some (.leaf (.sl n cs))
  |none=>none
 | .vw j o n k=>match af b j with
  |some cs=>some (.leaf (.sl n (cs.drop (o*k))))
  |none=>none
 | .vs j o n _ k _=>match af b j with
  |some cs=>some (.leaf (.sl n (cs.drop (o*k))))
  |none=>none
 | .nil=>some (.leaf (.sl 0 []))
 |_=>none
def Hi (b:BL):List TV->Option (List DV)
 | []=>some []
 |t::r=>match R1 b t,Hi b r with
  |some d,some l=>some (d::l)
  |_,_=>none
theorem jP:∀{b:BL} {j:Nat} {cs:List AV},af b j=some cs->af (an b) j=some (some cs)
 | [],_,_,h=>by cases h
 |(i,c)::r,j,cs,h=>by
  by_cases e:i=j
  ·subst e;rw[ae]at h;cases h;exact ae _ _ _
  ·rw[aj _ _ e]at h;simp only[an,aj _ _ e];exact jP h
theorem zX {S:Nat->Prop} {g:Nat->Nat} {w:World} {b:BL} (hP:Eo S g w b) {j n o c:Nat} {cs:List AV} (hj:af b j=some cs) (h1:n<=c) (h2:c<=9223372036854775807):AV.M S w (.sl n (cs.drop o)) (.slice (some ⟨g j,o,none⟩) n c):=by
 have hb:(sB b).bx j=some cs:=bE.2 (jP hj);obtain⟨arr,e,h7,h8,_⟩:=hP.bm j cs hb;have hn:¬S (g j):=fun h=>(hP.blk _ h).2.1 ⟨j,cs,hb,rfl⟩
 have hl:=h8.1
 simp only[Array.length_toList]at hl
 have hlt:∀i (x:AV),(cs.drop o)[i]? =some x->cs[o+i]? =some x/\o+i<arr.size:=fun i x hi=>by
  rw[List.getElem?_drop]at hi;exact⟨hi,Nat.lt_of_lt_of_le (List.getElem?_eq_some_iff.1 hi).1 hl⟩
 refine AV.M.sl (fun i=>arr.getD (o+i) undef) h1 h2 hn (Array.getElem?_eq_some_iff.1 h7).1 (fun i x hi=>?_) (fun i x hi=>?_)
 ·have:=(hlt i x hi).2
  simp[World.cell?,h7,this]
 ·have:=(hlt i x hi).2
  exact(h8.2 (o+i) x _ (hlt i x hi).1 (by simp[this])).agree (bG.refl _ _) (fun _ _ h=> .inl h)
theorem OU {S:Nat->Prop} {g:Nat->Nat} {w:World} {b:BL} (hP:Eo S g w b) {t:TV} {d:DV} {v:Value} (hd:R1 b t=some d) (hm:TV.M (Own S g (sB b)) g (sB b) w t v):DV.M S w d v:=by
 cases t with
 |d x=>
  cases hd;exact DV.M.agree hm (bG.refl _ _) (fun _ _ h=> .inl h)
 |own j n k e=>
  simp only[R1]at hd
  split at hd
  ·rename_i cs hj
   cases hd;obtain⟨c,e1,e2,e3,_⟩:=hm.2 cs (bE.2 (jP hj));rw[e1];exact zX hP (o:=0) hj e2 e3
  ·cases hd
 |vw j o n k=>
  simp only[R1]at hd
  split at hd
  ·rename_i cs hj
   cases hd;obtain⟨c,e1,e2,e3,_⟩:=hm.2 cs (bE.2 (jP hj));rw[e1];exact zX hP hj e2 e3
  ·cases hd
 |vs j o n c0 k e=>
  simp only[R1]at hd
  split at hd
  ·rename_i cs hj
   cases hd;obtain⟨e1,e2,e3,_⟩:=hm.2 cs (bE.2 (jP hj));rw[e1];exact zX hP hj e2 e3
  ·cases hd
 |nil=>
  cases hd;have:v= .slice none 0 0:=hm;rw[this];exact AV.M.emp (Nat.le_refl _) (by omega) (fun _=>rfl)
 |_=>cases hd
theorem vI {S:Nat->Prop} {g:Nat->Nat} {w:World} {b:BL} (hP:Eo S g w b):∀{ts:List TV} {ds:List DV} {vs:List Value},Hi b ts=some ds->nc (Own S g (sB b)) g (sB b) w ts vs->VM S w ds vs
 | [],ds,[],hd,_=>by cases hd;trivial
 |t::ts,ds,v::vs,hd,hm=>by
  simp only[Hi]at hd
  split at hd
  ·rename_i d l h1 h2
   cases hd;exact⟨OU hP h1 hm.1,vI hP h2 hm.2⟩
  ·cases hd
 | [],_,_::_,_,h=>h.elim
 |_::_,_,[],_,h=>h.elim
theorem aa.rd {P:Program} {f:FuncId} {ds:List DV} {r:RV} (h:aa P f ds r) {ts:List TV} {b:BL} (hts:Hi b ts=some ds) (hr:S7 r=true):ap P f ts b (.v r) b:=by
 refine⟨h.enter,fun S g w vs hP hv=>?_⟩;refine(h.calls S w vs ⟨fun w' hb=>hP.tab w' ⟨hb.os,hb.tape,hb.output,hb.size,fun k hk _=>hb.block k hk,fun k hk _ arr e fz he=>⟨arr,fz,(hb.block k hk).trans he,rfl⟩⟩,fun q hq=>⟨(hP.blk q hq).1,(hP.blk q hq).2.2⟩,fun k cs hk=>?_⟩ (vI hP hts hv)).mono ?_
 ·exact CL
 ·rintro e w' ⟨v,rfl,hm,hb⟩
  refine⟨v,g,rfl,fun j cs cs' h1 h2=>?_,fun j cs' h1=>⟨.inr ⟨j,cs',h1,rfl⟩,?_⟩,hP.inj,Qx hr hm,⟨hb.os,hb.tape,hb.output,hb.size,fun k hk _=>hb.block k hk,fun k hk _ arr e fz he=>⟨arr,fz,(hb.block k hk).trans he,rfl⟩⟩⟩
  ·rw[h1]at h2;cases h2;exact⟨rfl,Nat.le_refl _⟩
  ·exact LN
def Qj (p:Pm):List AV:= .val (vL p.1)::aR p.2
def Ev:Tb->List AV
 | []=>[]
 |p::r=>Qj p++Ev r
def Ky (p:Pm):DV:= .agg (Qj p)
def gK (l:Tb):DV:= .leaf (.sl l.length (Ev l))
def eC (n:L8) (o:Int) (na:Bool) (xs:List Nat) (nb:Bool) (ys:List Nat) (nm:List UInt8) (k:Nat) (cs:List AV):List AV:= .val (vL n)::ab o na xs nb ys nm k cs
theorem eT (p:Pm):∃o na xs nb ys nm k cs,aR p.2=ab o na xs nb ys nm k cs/\Qj p=eC p.1 o na xs nb ys nm k cs:=by
 obtain⟨o1,na1,xs1,nb1,ys1,nm1,n1,cs1,hA⟩:=aM p.2;exact⟨o1,na1,xs1,nb1,ys1,nm1,n1,cs1,hA,congrArg (AV.val (vL p.1):: ·) hA⟩
theorem Cp (p:Pm):(Qj p).length=8:=by
 show(aR p.2).length+1=8;rw[Ab]
theorem j4:∀(l:Tb) (i:Nat) (p:Pm),l[i]? =some p-> ∀(j:Nat) (a:AV),(Qj p)[j]? =some a->(Ev l)[i*8+j]? =some a
 | [],i,p,h,_,_,_=>by simp at h
 |q::l,0,p,h,j,a,ha=>by
  simp at h
  subst h
  simp only[Ev,Nat.zero_mul,Nat.zero_add]
  exact LL
 |q::l,i+1,p,h,j,a,ha=>by
  simp only[Ev]
  rw[List.getElem?_append_right (by rw[Cp];omega),Cp,show(i+1)*8+j-8=i*8+j by omega];exact j4 l i p (by simpa using h) j a ha
theorem b8 {α:Type} {o:List α} {k:Nat} {n:α} (hk:o[k]? =some n):o.take (k+1)=o.take k++[n]:=by
 obtain⟨h,e⟩:=List.getElem?_eq_some_iff.1 hk;rw[List.take_succ_eq_append_getElem h,e]
structure DW (x:Rx):Prop where
 wd:nj x
 lt:pJ x=true
 sz:ib x<=120
theorem DW.lm {x:Rx} (h:DW x):I1 x:=I1.of_lt x h.lt
def I4 (l:Tb):Prop:=∀p∈l,p.1.length<=60/\DW p.2
def yO (l:List L8):DV:= .leaf (.sl l.length (aF l))
theorem NU {l:Tb} {i:Nat} {p:Pm} (h:l[i]? =some p):GW l i (l.drop i)=if o0 p.1=true then(if lZ p.2=0 then(if l0 l p.1<i then 5 else GW l (i+1) (l.drop (i+1)))else lZ p.2)else 1:=by
 obtain⟨hi,e⟩:=List.getElem?_eq_some_iff.1 h;rw[List.drop_eq_getElem_cons hi,e,GW]
theorem wa {l:Tb} {out:List L8} {i:Nat} {p:Pm} (h:l[i]? =some p) {nx:L8} (hn:(l.take i).foldl (qM out) []=nx):(l.take (i+1)).foldl (qM out) []=qM out nx p:=by rw[Kq h,hn]
def zV:Ex->List (List UInt8)
 | .num _ _=>[]
 | .nam s=>[s]
 | .neg a=>zV a
 | .bin _ a b=>zV a++zV b
theorem wA {a b:Nat} (h:digs a=digs b):a=b:=by rw[<- az a,h,az]
theorem vi:∀{a b:Ex},rx a=rx b->a=b
 | .num v u, .num v' u',h=>by
  simp only[rx,Rx.mk.injEq,decide_eq_decide]at h
  obtain⟨_,h1,h2,_,h3,h4,_⟩:=h;have h2:=wA h2;have h3:=wA h3;have:v=v':=Rat.ext (by omega) (by omega);rw[this,h4]
 | .num _ _, .nam _,h=>by simp[rx]at h
 | .num _ _, .neg _,h=>by simp[rx]at h
 | .num _ _, .bin k _ _,h=>by cases k<;>simp[rx,B4.code]at h
 | .nam _, .num _ _,h=>by simp[rx]at h
 | .nam _, .nam _,h=>by simp[rx]at h;rw[h]
 | .nam _, .neg _,h=>by simp[rx]at h
 | .nam _, .bin k _ _,h=>by cases k<;>simp[rx,B4.code]at h
 | .neg _, .num _ _,h=>by simp[rx]at h
 | .neg _, .nam _,h=>by simp[rx]at h
 | .neg a, .neg b,h=>by simp[rx]at h;rw[vi h]
 | .neg _, .bin k _ _,h=>by cases k<;>simp[rx,B4.code]at h
 | .bin k _ _, .num _ _,h=>by cases k<;>simp[rx,B4.code]at h
 | .bin k _ _, .nam _,h=>by cases k<;>simp[rx,B4.code]at h
 | .bin k _ _, .neg _,h=>by cases k<;>simp[rx,B4.code]at h
 | .bin k a b, .bin k' a' b',h=>by
  simp only[rx,Rx.mk.injEq,List.cons.injEq,and_true,true_and]at h
  obtain⟨h1,h2,h3⟩:=h;have:k=k':=by cases k<;>cases k'<;>first|rfl|simp[B4.code]at h1
  rw[this,vi h2,vi h3]
noncomputable def lg (x:Rx):Ex:= @dite _ (∃e,x=rx e/\pg e) (Classical.propDecidable _) (fun h=>Classical.choose h) (fun _=> .nam [])
theorem uh {e:Ex} (h:pg e):lg (rx e)=e:=by
 have h0:∃e',rx e=rx e'/\pg e':=⟨e,rfl,h⟩;unfold lg;rw[dif_pos h0];exact(vi (Classical.choose_spec h0).1).symm
theorem zg {x:Rx} (h:∃e,x=rx e/\pg e):rx (lg x)=x/\pg (lg x):=by
 obtain⟨e,rfl,hf⟩:=h;rw[uh hf];exact⟨rfl,hf⟩
theorem Bd:∀(e:Ex) (n:L8),n∈oo (rx e)↔n∈zV e
 | .num v u,n=>by simp[rx,oo,fH,zV,gg]
 | .nam s,n=>by simp[rx,oo,fH,zV,gg]
 | .neg a,n=>by simp[rx,oo,fH,zV,gg,Bd a]
 | .bin k a b,n=>by
  have:¬k.code=2:=by cases k<;>decide
  simp[rx,oo,fH,zV,gg,Bd a,Bd b,this]
theorem iz {u v:L8->Option (Rat × Int)}:∀{e:Ex},(∀n∈zV e,u n=v n)->bQ u e=bQ v e
 | .num _ _,_=>rfl
 | .nam s,h=>by simp only[bQ,h s (by simp[zV])]
 | .neg a,h=>by simp only[bQ,iz (e:=a) h]
 | .bin k a b,h=>by simp only[bQ,iz (e:=a) (fun n hn=>h n (List.mem_append_left _ hn)),iz (e:=b) (fun n hn=>h n (List.mem_append_right _ hn))]
def oY:EL->L8->Nat
 | [],_=>0
 |y::r,n=>if Op.bytesLess y.1 n=true then oY r n+1 else 0
def iH (l:EL) (n:L8) (v:Rat × Int):EL:=l.take (oY l n)++(n,v)::l.drop (oY l n)
theorem uo:∀(l:EL) (n:L8),oY l n<=l.length
 | [],_=>Nat.le_refl _
 |y::r,n=>by
  unfold oY
  split
  ·have:=uo r n;simp;omega
  ·exact Nat.zero_le _
theorem E0:∀{l:EL} {n:L8} {i:Nat} {x:L8 × (Rat × Int)},i<oY l n->l[i]? =some x->Op.bytesLess x.1 n=true
 | [],n,i,x,_,h=>by simp at h
 |y::r,n,i,x,hi,h=>by
  unfold oY at hi
  split at hi
  ·rename_i hy
   cases i with
   |zero=>simp at h;subst h;exact hy
   |succ i=>exact E0 (l:=r) (n:=n) (i:=i) (by omega) (by simpa using h)
  ·omega
theorem Gc:∀{l:EL} {n:L8} {x:L8 × (Rat × Int)},l[oY l n]? =some x->Op.bytesLess x.1 n=false
 | [],n,x,h=>by simp[oY]at h
 |y::r,n,x,h=>by
  unfold oY at h
  split at h
  ·exact Gc (l:=r) (by simpa using h)
  ·rename_i hy;simp at h;subst h;simpa using hy
theorem p8 {l:EL} {n:L8} {v:Rat × Int} {x:L8 × (Rat × Int)}:x∈iH l n v↔x=(n,v)∨x∈l:=by
 unfold iH
 conv=>rhs;rw[<- List.take_append_drop (oY l n) l]
 simp only[List.mem_append,List.mem_cons]
 grind
theorem EQ (l:EL) (n:L8) (v:Rat × Int):(iH l n v).length=l.length+1:=by
 have:=uo l n
 simp[iH]
 omega
theorem Dg (y:L8 × (Rat × Int)) (r:EL) (n:L8) (v:Rat × Int):iH (y::r) n v=if Op.bytesLess y.1 n=true then y::iH r n v else(n,v)::y::r:=by
 unfold iH
 conv=>lhs;unfold oY
 split <;>simp
theorem fD {y:L8 × (Rat × Int)} {r:EL}:el (y::r)↔(∀x∈r,Op.bytesLess y.1 x.1=true)/\el r:=by
 constructor
 ·intro h
  refine⟨fun x hx=>?_,fun i j a b hij ha hb=>h (i+1) (j+1) a b (by omega) (by simpa using ha) (by simpa using hb)⟩;obtain⟨i,hi⟩:=List.getElem?_of_mem hx;exact h 0 (i+1) y x (by omega) rfl (by simpa using hi)
 ·rintro⟨h1,h2⟩ i j a b hij ha hb
  cases j with
  |zero=>omega
  |succ j=>
   cases i with
   |zero=>simp at ha;subst ha;exact h1 b (List.mem_of_getElem? (by simpa using hb))
   |succ i=>exact h2 i j a b (by omega) (by simpa using ha) (by simpa using hb)
theorem pL:el []:=fun i j a b _ h=>by simp at h
theorem oN:∀{l:EL} {n:L8} {v:Rat × Int},el l->(∀x∈l,x.1≠n)->el (iH l n v)
 | [],n,v,_,_=>by
  rw[show iH [] n v=[(n,v)] from rfl,fD];exact⟨fun x hx=>absurd hx (by simp),pL⟩
 |y::r,n,v,h,hn=>by
  rw[Dg];rw[fD]at h
  split
  ·rename_i hy
   rw[fD];refine⟨fun x hx=>?_,oN h.2 (fun x hx=>hn x (by simp[hx]))⟩;rcases p8.1 hx with rfl|hx
   ·exact hy
   ·exact h.1 x hx
  ·rename_i hy
   have hy:Op.bytesLess y.1 n=false:=by simpa using hy
   have hny:Op.bytesLess n y.1=true:=by
    cases hb:Op.bytesLess n y.1
    ·exact absurd (nU hy hb) (hn y (by simp))
    ·rfl
   rw[fD,fD];refine⟨fun x hx=>?_,h⟩;rcases List.mem_cons.1 hx with rfl|hx
   ·exact hny
   ·exact eK hny (h.1 x hx)
theorem H2 {l:EL} (hs:el l) {n:L8} {v:Rat × Int}:a6 l n=some v↔(n,v)∈l:=by
 constructor
 ·intro h
  clear hs
  induction l with
  |nil=>cases h
  |cons y r ih=>
   simp only[a6]at h
   split at h
   ·rename_i e;cases h;subst e;simp
   ·simp[ih h]
 ·intro h
  obtain⟨i,hi⟩:=List.getElem?_of_mem h;exact BP hs hi
def PP (l:Tb) (n:L8):Rx:=match l[l0 l n]? with
 |some p=>p.2
 |none=> .mk 0 false [] false [] [] []
theorem yP.fx {l:Tb} (h:yP l) {p:Pm} (hp:p∈l):PP l p.1=p.2:=by
 obtain⟨i,hi⟩:=List.getElem?_of_mem hp;unfold PP;rw[h.fd hi,hi]
noncomputable def ph (l:Tb):List L8->EL->Except Int EL
 | [],env=> .ok env
 |n::r,env=>match bQ (a6 env) (lg (PP l n))with
  | .ok x=>ph l r (iH env n x)
  | .error e=> .error e
noncomputable def xO (l:Tb):Except Int EL:=if(fE l).2=0 then ph l (fE l).1 []else .error (fE l).2
inductive Hv (l:Tb):L8->Rat × Int->Prop
 |mk {p:Pm} {x:Rat × Int} (f:L8->Rat × Int):p∈l->(∀n∈zV (lg p.2),Hv l n (f n))->bQ (fun n=>some (f n)) (lg p.2)= .ok x->Hv l p.1 x
theorem Hv.fn {l:Tb} (hl:yP l) {n:L8} {x:Rat × Int} (h:Hv l n x):∀{y:Rat × Int},Hv l n y->x=y:=by
 induction h with
 | @mk p x f hp hf hx ih=>
  intro y hy;generalize hn:p.1=n at hy;cases hy with
  | @mk q _ g hq hg hy=>
   obtain⟨i,hi⟩:=List.getElem?_of_mem hp;obtain⟨j,hj⟩:=List.getElem?_of_mem hq;have:=hl.nd _ _ _ _ hi hj hn;subst this;rw[hi]at hj;cases hj;have:bQ (fun n=>some (f n)) (lg p.2)=bQ (fun n=>some (g n)) (lg p.2):=iz fun n hn=>by rw[ih n hn (hg n hn)]
   rw[this,hy]at hx;exact(Except.ok.inj hx).symm
structure vH (l:Tb) (done:List L8) (env:EL):Prop where
 so:el env
 ky:∀n,n∈done ↔ ∃v,(n,v)∈env
 hv:∀x∈env,Hv l x.1 x.2
theorem vH.nil (l:Tb):vH l [] []:=⟨pL,fun n=>by simp,fun x h=>by cases h⟩
theorem vH.env {l:Tb} {done:List L8} {env:EL} (h:vH l done env) {n:L8} (hn:n∈done):∃v,a6 env n=some v/\Hv l n v:=by
 obtain⟨v,hv⟩:=(h.ky n).1 hn;exact⟨v,(H2 h.so).2 hv,h.hv _ hv⟩
theorem vH.ev {l:Tb} {done:List L8} {env:EL} (h:vH l done env) {e:Ex} (hn:∀n∈zV e,n∈done):bQ (a6 env) e=bQ (fun n=>some ((a6 env n).getD (0,0))) e:=iz fun n hm=>by
 obtain⟨v,h1,_⟩:=h.env (hn n hm);rw[h1];rfl
theorem vH.has {l:Tb} {done:List L8} {env:EL} (h:vH l done env) {p:Pm} (hp:p∈l) {x:Rat × Int} (hn:∀n∈zV (lg p.2),n∈done) (hx:bQ (a6 env) (lg p.2)= .ok x):Hv l p.1 x:=by
 rw[h.ev hn]at hx;refine .mk _ hp (fun n hm=>?_) hx;obtain⟨v,h1,h2⟩:=h.env (hn n hm);rw[h1];exact h2
theorem vH.step {l:Tb} {done:List L8} {env:EL} (h:vH l done env) {p:Pm} (hd:p.1 ∉ done) {x:Rat × Int} (hx:Hv l p.1 x):vH l (done ++[p.1]) (iH env p.1 x):=by
 have hne:∀y∈env,y.1≠p.1:=fun y hy e=>hd ((h.ky _).2 ⟨y.2,by rw[<- e];exact hy⟩)
 refine⟨oN h.so hne,fun n=>?_,fun y hy=>?_⟩
 ·simp only[List.mem_append,List.mem_singleton,p8,Prod.mk.injEq,h.ky n]
  constructor
  ·rintro(⟨v,hv⟩|rfl)
   ·exact⟨v, .inr hv⟩
   ·exact⟨x, .inl ⟨rfl,rfl⟩⟩
  ·rintro⟨v,⟨rfl,rfl⟩|hv⟩
   ·exact .inr rfl
   ·exact .inl ⟨v,hv⟩
 ·rcases p8.1 hy with rfl|hy
  ·exact hx
  ·exact h.hv y hy
def PO (l:Tb):Prop:=∀p∈l,∃e,p.2=rx e/\pg e
theorem PO.ns {l:Tb} (h:PO l) {p:Pm} (hp:p∈l) (n:L8):n∈zV (lg p.2)↔n∈oo p.2:=by
 have:=(zg (h p hp)).1
 conv=>rhs;rw[<- this]
 exact(Bd _ _).symm
theorem QK {l:List L8} (h:l.Nodup) {i j:Nat} {a:L8} (hi:l[i]? =some a) (hj:l[j]? =some a):i=j:=by
 obtain⟨h1,e1⟩:=List.getElem?_eq_some_iff.1 hi;obtain⟨h2,e2⟩:=List.getElem?_eq_some_iff.1 hj;have hp:=List.pairwise_iff_getElem.1 (List.nodup_iff_pairwise_ne.1 h);rcases Nat.lt_trichotomy i j with h3|h3|h3
 ·exact absurd (e1.trans e2.symm) (hp i j h1 h2 h3)
 ·exact h3
 ·exact absurd (e2.trans e1.symm) (hp j i h2 h1 h3)
theorem nV.at {l:Tb} (hl:yP l) (hf:PO l) {o:List L8} (h:nV l o) {k:Nat} {n:L8} (hk:o[k]? =some n):∃p∈l,p.1=n/\PP l n=p.2/\n ∉ o.take k/\ ∀m∈zV (lg p.2),m∈o.take k:=by
 obtain⟨p,hp,rfl⟩:=h.mem n (List.mem_of_getElem? hk);refine⟨p,hp,rfl,hl.fx hp,fun hn=>?_,fun m hm=>h.up k _ p hk hp rfl m ((hf.ns hp m).1 hm)⟩;obtain⟨i,hi⟩:=List.getElem?_of_mem hn;rw[List.getElem?_take]at hi
 split at hi
 ·have:=QK h.nd hi hk
  omega
 ·cases hi
theorem B2 {l:Tb} (hl:yP l) (hf:PO l) {o:List L8} (h:nV l o):∀(r:List L8) (k:Nat) (env env':EL),o.drop k=r->vH l (o.take k) env->ph l r env= .ok env'->vH l o env'
 | [],k,env,env',hr,hI,he=>by
  cases he
  rwa[List.take_of_length_le (List.drop_eq_nil_iff.1 hr)]at hI
 |n::r,k,env,env',hr,hI,he=>by
  have hk:o[k]? =some n:=by have:=congrArg (·[0]?) hr;simpa using this
  obtain⟨p,hp,rfl,e1,e2,e3⟩:=h.at hl hf hk
  simp only[ph,e1]at he
  split at he
  ·rename_i x hx
   refine B2 hl hf h r (k+1) _ env' (by rw[<- List.drop_drop,hr];rfl) ?_ he;rw[b8 hk];exact hI.step e2 (hI.has hp e3 hx)
  ·cases he
theorem wl {l:Tb}:∀{r:List L8} {env:EL} {e:Int},ph l r env= .error e->e≠0
 | [],env,e,h=>by cases h
 |n::r,env,e,h=>by
  simp only[ph]at h
  split at h
  ·exact wl h
  ·rename_i e' h';cases h;exact eq h'
theorem G4 {x:Rx} (hx:nj x) (hm:I1 x) (h:lZ x=0):∃e,x=rx e/\pg e:=by
 refine Pp x hx hm ?_;unfold lZ at h;cases hf:yX x
 ·rw[hf]at h;simp at h
 ·rfl
theorem GG {l:Tb} (hf:yP l->PO l) {env:EL} (h:xO l= .ok env):yP l/\(fE l).2=0/\el env/\(∀n,(∃v,(n,v)∈env)↔ ∃p∈l,p.1=n)/\(∀x∈env,Hv l x.1 x.2)/\env.length<=l.length:=by
 unfold xO at h
 split at h
 ·rename_i h0
  obtain⟨o,ho⟩:∃o,(fE l).1=o:=⟨_,rfl⟩;rw[ho]at h;obtain⟨hl,ht,hn⟩:=Cz (l:=l) (o:=o) (by rw[<- ho,<- h0]);have hI:=B2 hl (hf hl) ht o 0 [] env (by simp) (vH.nil l) h;refine⟨hl,h0,hI.so,fun n=>?_,hI.hv,?_⟩
  ·rw[<- hI.ky]
   constructor
   ·exact ht.mem n
   ·rintro⟨p,hp,rfl⟩;exact ht.all hn p hp
  ·have hnd:(env.map (·.1)).Nodup:=by
    refine List.nodup_iff_pairwise_ne.2 (List.pairwise_iff_getElem.2 fun i j hi hj hij e=>?_)
    simp only[List.length_map]at hi hj
    simp only[List.getElem_map]at e
    have:=hI.so i j _ _ hij (List.getElem?_eq_getElem hi) (List.getElem?_eq_getElem hj);rw[e,iX]at this;cases this
   have:=nD (b:=l.map (·.1)) hnd fun x hx=>by
    obtain⟨y,hy,rfl⟩:=List.mem_map.1 hx;obtain⟨p,hp,e⟩:=ht.mem _ ((hI.ky y.1).2 ⟨y.2,hy⟩);exact List.mem_map.2 ⟨p,hp,e⟩
   simpa using this
 ·cases h
theorem rV:∀(e:Ex),pJ (rx e)=true->ym e
 | .num v u,h=>by
  simp only[rx,pJ,nC,Bool.and_eq_true,decide_eq_true_eq]at h
  exact⟨Sz.of_digs h.2.1.1,Sz.of_digs h.2.1.2⟩
 | .nam s,_=>trivial
 | .neg a,h=>by
  simp only[rx,pJ,nC,Bool.and_eq_true]at h
  exact rV a h.1.1
 | .bin k a b,h=>by
  simp only[rx,pJ,nC,Bool.and_eq_true]at h
  exact⟨rV a h.1.1,rV b h.1.2.1⟩
theorem ra:∀(e:Ex),mj e<=400*ib (rx e)
 | .num v u=>by simp[mj,rx,ib,eR]
 | .nam s=>by simp[mj,rx,ib,eR]
 | .neg a=>by have:=ra a;simp only[mj,rx,ib,eR];omega
 | .bin k a b=>by have:=ra a;have:=ra b;simp only[mj,rx,ib,eR];omega
section
variable {P:Program} {T:TypeId->Option Ty} {n:Nat} {ops:Array Oper} {id:Nat} {draw:Bool} {K:AS->Prop} {s:AS} {k:Nat} {o:Oper} {os:List Oper} {fps:List FP}
def gV (J q e:Nat):Nat->TV
 |0=> .nil
 |m+1=> .own J (m+1) q e
def gX (cs:List AV):Nat->Option (List AV)
 |0=>none
 |_+1=>some cs
theorem mi.weak {s1 s2:AS} (h:mi P n o s s1) (hw:aL s1 s2):mi P n o s s2:=fun S0 w0 g a w K Q hM hK=>h S0 w0 g a w K Q hM fun g' a' w' hm=>by
 obtain⟨g2,hm2⟩:=hw _ _ _ _ _ ⟨g',hm⟩;exact hK g2 a' w' hm2
theorem bh.to {e:pW} (h:bh P o s e) (h3:aB n o.dst=true):mi P n o s (s.eff o.dst e):=fun S0 w0 g a w K Q hM hK=>h n S0 w0 g a w K Q hM (dl h3) hK
theorem f7 (j:Nat):aL s ⟨s.t,(j,none)::s.b⟩:=fun _ _ _ _ _ ⟨g,h⟩=>⟨g,h.kill j⟩
theorem aL.tr {a b c:AS} (h:aL a b) (h':aL b c):aL a c:=fun n S0 w0 x w m=>h' n S0 w0 x w (h n S0 w0 x w m)
theorem Hg {d:Nat} {x y:TV} {t:List (Nat × TV)} {b:List (Nat × Option (List AV))}:aL ⟨(d,x)::(d,y)::t,b⟩ ⟨(d,x)::t,b⟩:=fun _ _ _ _ _ ⟨g,h⟩=>⟨g,h.ext (fun k=>by
 by_cases e:d=k
 ·subst e;simp only[AS.tv,ae]
 ·simp only[AS.tv,aj _ _ e]) (fun _=>rfl)⟩
theorem Pk (J':Nat) {d J:Nat} {x y:Operand} {t et q m1 m2:Nat} {ty te:Ty} {cs xs:List AV} (hT:∀t d,T t=some d->aO P t d) (hb:(m1+m2)*te.bytes<=140737488355328) (hcs:cs.length=m1*q) (hxs:xs.length=m2*q) (hxB:bt xs=true) (h0:draw=false) (h1:gd ops s o=some true) (ho:o.op= .call ⟨.builtin .append,#[x,y],#[t,t]⟩) (hd:o.dst=some d) (h3:aB n o.dst=true) (ht:T t=some ty) (hel:ty.elem=some (et,q)) (hte:T et=some te) (hq:te.size=q) (hq0:(Nat.ble 1 q && Nat.ble 1 te.bytes)=true)
 (hx:s.ev x=gV J q et m1) (hJ:af s.b J=some (gX cs m1)) (hy:s.ev y= .d (.leaf (.sl m2 xs))) (hnew:fo s J'=true) (hcl:(bt te.zero && (!(bC J') && (!(bC J) && !(bM J'))))=true)
 (h:ak P T n ops id draw K (k+1) os ⟨(d,gV J' q et (m1+m2))::s.t,(J',gX (cs++xs) (m1+m2))::(J,none)::s.b⟩ (au ops o ⟨.junk,none⟩ []::fps)):ak P T n ops id draw K k (o::os) s fps:=by
 refine .snd h0 h1 ?_ h
 simp only[Bool.and_eq_true,Bool.not_eq_true']at hcl
 obtain⟨c1,c2,c3,c4⟩:=hcl;rw[Bool.and_eq_true]at hq0
 have h63:m1+m2<=9223372036854775807:=by
  exact B7
 have hkill:∀(v:TV),aL (s.eff o.dst ⟨v,none⟩) ⟨(d,v)::s.t,(J',none)::(J,none)::s.b⟩:=fun v=>by
  rw[hd];exact(f7 (s:=⟨(d,v)::s.t,s.b⟩) J).tr (f7 J')
 cases m2 with
 |zero=>
  have hxe:xs=[]:=List.eq_nil_of_length_eq_zero (by rw[hxs,Nat.zero_mul]);subst hxe;rw[List.append_nil];cases m1 with
  |zero=>exact((oB (hT _ _ ht) ho hel hx hy).to h3).weak (hkill .nil)
  |succ m=>
   refine((q9 (hT _ _ ht) ho hel hx (cs:=cs) (by unfold AS.bx;rw[hJ];rfl) hy).to h3).weak ?_;rw[hd];have hl:af s.b J'=none:=(bd hnew).1;exact aL.tr (aK (s:=⟨(d, .own J (m+1) q et)::s.t,s.b⟩) (q:=d) (j:=J) (m:=m+1) (k:=q) (e:=et) (by simp[AS.tv,ae]) (by show(AS.mk _ s.b).bx J=some cs;unfold AS.bx;rw[hJ];rfl) hl (by rw[c2,c3]) (bd hnew).2 c4) Hg
 |succ m2=>
  cases m1 with
  |zero=>
   intro S0 w0 g a w K' Q hM hK;refine eI (hT _ _ ht) (hT _ _ hte) ho hd hel hq (Nat.le_of_ble_eq_true hq0.1) (.nil hx rfl) hy hxs (Nat.zero_lt_succ _) hb h63 (bd hnew) c4 (.inr (by rw[c1,hxB];rfl)) hM (dl h3 d hd) fun g' a' w' hm=>?_
   have hce:cs=[]:=List.eq_nil_of_length_eq_zero (by rw[hcs,Nat.zero_mul]);subst hce;rw[show 0+(m2+1)=m2+1 by omega]at hm hK;have hm:MG n S0 w0 g' ⟨(d, .own J' (m2+1) q et)::s.t,(J',some xs)::s.b⟩ a' w':=by rw[List.take_nil,List.nil_append]at hm;exact hm
   obtain⟨g2,hm2⟩:=(f7 (s:=⟨(d, .own J' (m2+1) q et)::s.t,(J',some xs)::s.b⟩) J) _ _ _ _ _ ⟨g',hm⟩;have hJJ:J≠J':=fun e=>by subst e;have:=(bd hnew).1;rw[hJ]at this;cases this
   refine hK g2 a' w' (hm2.ext (fun _=>rfl) fun i=>?_);show af ((J',some ([]++xs))::(J,none)::s.b) i=af ((J,none)::(J',some xs)::s.b) i
   by_cases e1:J'=i
   ·subst e1;rw[ae,aj _ _ hJJ,ae];rfl
   ·rw[aj _ _ e1]
    by_cases e2:J=i
    ·subst e2;rw[ae,ae]
    ·rw[aj _ _ e2,aj _ _ e2,aj _ _ e1]
  |succ m1=>
   intro S0 w0 g a w K' Q hM hK;refine eI (dead:=some J) (cs:=cs) (hT _ _ ht) (hT _ _ hte) ho hd hel hq (Nat.le_of_ble_eq_true hq0.1) (.own hx (by unfold AS.bx;rw[hJ];rfl)) hy hxs (Nat.zero_lt_succ _) hb h63 (bd hnew) c4 (.inr (by rw[c1,hxB];show(true && true && !(bC J))=true;rw[c3];rfl)) hM (dl h3 d hd) fun g' a' w' hm=>?_
   rw[<- hcs,List.take_length]at hm;exact hK g' a' w' hm
theorem iQ {q J k e m:Nat} {cs:List AV} (hcs:m=0->cs=[]) (hq:s.tv q=gV J k e m) (hJ:af s.b J=some (gX cs m)):aL s ⟨(q, .d (.leaf (.sl m cs)))::s.t,(J,none)::s.b⟩:=by
 cases m with
 |zero=>rw[hcs rfl];exact(FW hq).tr (f7 J)
 |succ m=>exact bR hq (by unfold AS.bx;rw[hJ];rfl)
theorem zI {q J J' k e m:Nat} {cs:List AV} (hq:s.tv q=gV J k e m) (hJ:af s.b J=some (gX cs m)) (hn:af s.b J'=none) (hw:bC J'=bC J:=by rfl) (hrv:gP J'=false:=by rfl) (hlb:bM J'=false:=by rfl):aL s ⟨(q,gV J' k e m)::s.t,(J',gX cs m)::(J,none)::s.b⟩:=by
 cases m with
 |zero=>
  rintro n S0 w0 a w ⟨g,h⟩;have hm:=h.tm q;rw[hq]at hm;obtain⟨g2,h2⟩:=((f7 (s:=⟨(q, .nil)::s.t,s.b⟩) J).tr (f7 J')) n S0 w0 a w ⟨g,h.reslot (x:= .nil) hm rfl (by show nA (s.tv q)=true;rw[hq];rfl)⟩;exact⟨g2,h2⟩
 |succ m=>exact aK hq (by unfold AS.bx;rw[hJ];rfl) hn hw hrv hlb
end
def LQ:AV->Bool
 | .val _=>true
 | .sl _ cs=>cs.all fun c=>match c with
  | .val (.int .u32 _)=>true
  |_=>false
 |_=>false
def PI:DV->Bool
 | .leaf a=>LQ a
 | .agg cs=>cs.all LQ
def St:RV->Bool
 | .one d=>PI d
 | .tup l=>l.all PI
theorem Mk {S S':Nat->Prop} {w:World} {a:AV} {v:Value} (h:LQ a=true) (hm:AV.M S w a v) (hS:∀b,S' b->S b∨ ∀off v,w.cell? ⟨b,off,none⟩=some v->fI v=true):AV.M S' w a v:=by
 cases hm with
 |val h0=>exact .val h0
 |emp h1 h2 h3=>exact .emp h1 h2 h3
 |sl f h1 h2 h3 h4 h5 h6=>
  rename_i b off c n0 cs
  cases cs with
  |nil=>
   exact .emp h1 h2 (fun h=>by cases h)
  |cons x r=>
   have hx:∃i,x= .val (.int .u32 i):=by
    simp only[LQ,List.all_cons,Bool.and_eq_true]at h
    have:=h.1
    split at this
    ·exact⟨_,rfl⟩
    ·cases this
   obtain⟨i,rfl⟩:=hx;have h50:=h5 0 _ rfl;have h60:=aT (h6 0 _ rfl);rw[h60]at h50;refine .sl f h1 h2 (fun hb=>?_) h4 h5 fun i a hi=>?_
   ·rcases hS b hb with hb|hb
    ·exact h3 hb
    ·have:=hb _ _ h50;cases this
   ·have hw:∃z,a= .val (.int .u32 z):=by
     have h:=List.all_eq_true.1 h a (List.mem_of_getElem? hi)
     split at h
     ·exact⟨_,rfl⟩
     ·cases h
    obtain⟨z,rfl⟩:=hw;rw[aT (h6 i _ hi)];exact .val rfl
 |ow=>cases h
 |bp=>cases h
 |nl=>cases h
theorem Nm {S S':Nat->Prop} {w:World} {d:DV} {v:Value} (h:PI d=true) (hm:DV.M S w d v) (hS:∀b,S' b->S b∨ ∀off v,w.cell? ⟨b,off,none⟩=some v->fI v=true):DV.M S' w d v:=by
 cases d with
 |leaf a=>exact Mk h hm hS
 |agg cs=>
  obtain⟨vs,e,hl,hc⟩:=hm;exact⟨vs,e,hl,fun i a v h1 h2=>Mk (List.all_eq_true.1 h a (List.mem_of_getElem? h1)) (hc i a v h1 h2) hS⟩
theorem Rg {S S':Nat->Prop} {g:Nat->Nat} {s:AS} {w:World} {r:RV} {v:Value} (h:St r=true) (hm:RV.M S w r v) (hS:∀b,S' b->S b∨ ∀off v,w.cell? ⟨b,off,none⟩=some v->fI v=true):TV.M S' g s w r.tv v:=by
 cases r with
 |one d=>exact Nm (S:=S) (w:=w) h hm hS
 |tup l=>
  obtain⟨vs,e,hl,hc⟩:=hm;exact⟨vs,e,hl,fun i a v h1 h2=>Nm (List.all_eq_true.1 h a (List.mem_of_getElem? h1)) (hc i a v h1 h2) hS⟩
theorem aa.rdW {P:Program} {f:FuncId} {ds:List DV} {r:RV} (h:aa P f ds r) {ts:List TV} {b:BL} (hts:Hi b ts=some ds) (hr:St r=true) (hwb:∀j cs,(sB b).bx j=some cs->bC j=false):ap P f ts b (.v r) b:=by
 refine⟨h.enter,fun S g w vs hP hv=>?_⟩;refine(h.calls S w vs ⟨fun w' hb=>hP.tab w' ⟨hb.os,hb.tape,hb.output,hb.size,fun k hk _=>hb.block k hk,fun k hk _ arr e fz he=>⟨arr,fz,(hb.block k hk).trans he,rfl⟩⟩,fun q hq=>⟨(hP.blk q hq).1,(hP.blk q hq).2.2⟩,fun k cs hk=>?_⟩ (vI hP hts hv)).mono ?_
 ·exact CL
 ·rintro e w' ⟨v,rfl,hm,hb⟩
  refine⟨v,g,rfl,fun j cs cs' h1 h2=>?_,fun j cs' h1=>⟨.inr ⟨j,cs',h1,rfl⟩,?_⟩,hP.inj,Rg hr hm (fun q hq=>?_),⟨hb.os,hb.tape,hb.output,hb.size,fun k hk _=>hb.block k hk,fun k hk _ arr e fz he=>⟨arr,fz,(hb.block k hk).trans he,rfl⟩⟩⟩
  ·rw[h1]at h2;cases h2;exact⟨rfl,Nat.le_refl _⟩
  ·exact LN
  ·rcases hq with hq| ⟨j,cs',h1,rfl⟩
   ·exact .inl hq
   ·refine .inr fun off v hv=>?_
    obtain⟨arr,e,h7,_,h9,_⟩:=hP.bm j cs' h1;have h7':w'.heap[g j]? =some (.cells arr e (0,0)):=(hb.block _ (Array.getElem?_eq_some_iff.1 h7).1).trans h7;rw[cM h7']at hv;exact h9 (hwb j cs' h1) v (List.mem_of_getElem? (by simpa using hv))
section
variable {P:Program} {T:TypeId->Option Ty} {n:Nat} {ops:Array Oper} {id:Nat} {draw:Bool} {K:AS->Prop} {s:AS} {k:Nat} {o:Oper} {os:List Oper} {fps:List FP}
end
section
variable {P:Program} {T:TypeId->Option Ty} {n:Nat} {ops:Array Oper} {id:Nat} {draw:Bool} {K:AS->Prop} {s:AS} {k:Nat} {o:Oper} {os:List Oper} {fps:List FP}
theorem PZ (hT:∀t d,T t=some d->aO P t d) {t:TypeId} {ty:Ty} {x y:Operand} {et q m i:Nat} {ik:IntKind} {cs:List AV} (hi:i<=m) (h1:gd ops s o=some true) (h2:o.op= .slice t x none (some y) none) (h5:T t=some ty) (h6:ty.elem=some (et,q)) (h7:s.ev x= .d (.leaf (.sl m cs))) (h8:s.ev y= .d (.leaf (.val (.int ik (i:Nat)))))
 (h3:aB n o.dst=true) (h4:eZ draw ops (au ops o ⟨.d (.leaf (.sl i (cs.take (i*q)))),none⟩ []) k fps=true) (h:ak P T n ops id draw K (k+1) os (s.eff o.dst ⟨.d (.leaf (.sl i (cs.take (i*q)))),none⟩) (au ops o ⟨.d (.leaf (.sl i (cs.take (i*q)))),none⟩ []::fps)):ak P T n ops id draw K k (o::os) s fps:=by
 refine .run h1 (.gen fun s2 ht _=>?_) h3 h4 h;have hx:=(aq ht (x:=x) (by simp[h2,Op.operands])).trans h7;have hy:=(aq ht (x:=y) (by simp[h2,Op.operands])).trans h8;obtain⟨u,hu,_,hel,_⟩:=(hT _ _ h5).und;obtain⟨rfl,hks⟩:=hel et q h6;refine ah fun n S0 w0 g a w hM=>?_
 have hm:=hM.ev x;rw[hx]at hm;have hm:AV.M (Own S0 g s2) w (.sl m cs) (a.eval x):=hm;have hiv:=aY hM hy
 have key:∃v,(Instr.sliceAt t (a.eval x) none (some (.int ik (i:Nat))) none).run P w= .ok v w/\AV.M (Own S0 g s2) w (.sl i (cs.take (i*q))) v:=by
  generalize a.eval x=v at hm;cases hm with
  |emp e1 e2 e3=>
   rename_i A c
   refine⟨_,qn hu hks A ik (by omega),?_⟩;rw[List.take_nil];refine .emp (by omega) (by omega) (fun hA=>?_)
   split at hA
   ·assumption
   ·exact e3 (by cases A<;>simp_all)
  |sl f e1 e2 e3 e4 e5 e6=>
   rename_i b off c
   have hA:(if c=0 then some (⟨b,off,none⟩:Addr)else(some (⟨b,off,none⟩:Addr)).map (·.add (0*q)))=some ⟨b,off,none⟩:=by
    split
    ·rfl
    ·show some ((⟨b,off,none⟩:Addr).add (0*q))=_
     rw[bL,Nat.zero_mul,Nat.add_zero]
   have hr:=qn (P:=P) (w:=w) hu hks (some (⟨b,off,none⟩:Addr)) (m:=m) (i:=i) (c:=c) ik (by omega);rw[hA]at hr;refine⟨_,hr,?_⟩
   have hc:∀(p:Nat) (b:AV),(cs.take (i*q))[p]? =some b->cs[p]? =some b:=fun p b hb=>by
    rw[List.getElem?_take]at hb
    split at hb
    ·exact hb
    ·cases hb
   exact .sl f (by omega) (by omega) e3 e4 (fun j x hj=>e5 _ _ (hc j x hj)) (fun j x hj=>e6 _ _ (hc j x hj))
 obtain⟨v,hr,hv⟩:=key;refine⟨v,w,?_,Below.refl _ _,hv⟩;unfold execOp;rw[h2]
 simp only[hiv,Option.map_some,Option.map_none,Sem.run_bind,hr,Result.andThen_ok]
 rfl
theorem OJ (hT:∀t d,T t=some d->aO P t d) {t:TypeId} {ty:Ty} {x y:Operand} {et q m i d:Nat} {ik:IntKind} {cs:List AV} (hcs:cs.length<=m*q) (hi:i<=m) (hd:m-i=d) (h1:gd ops s o=some true) (h2:o.op= .slice t x (some y) none none) (h5:T t=some ty) (h6:ty.elem=some (et,q)) (h7:s.ev x= .d (.leaf (.sl m cs))) (h8:s.ev y= .d (.leaf (.val (.int ik (i:Nat)))))
 (h3:aB n o.dst=true) (h4:eZ draw ops (au ops o ⟨.d (.leaf (.sl d (cs.drop (i*q)))),none⟩ []) k fps=true) (h:ak P T n ops id draw K (k+1) os (s.eff o.dst ⟨.d (.leaf (.sl d (cs.drop (i*q)))),none⟩) (au ops o ⟨.d (.leaf (.sl d (cs.drop (i*q)))),none⟩ []::fps)):ak P T n ops id draw K k (o::os) s fps:=by
 subst hd;exact MU hT hcs hi h1 h2 h5 h6 h7 h8 h3 h4 h
end
theorem mQ:∀{cs:List AV},bt cs=true↔ ∀a∈cs,I3 a=true
 | []=>by simp[bt]
 |a::cs=>by
  simp only[bt,List.mem_cons,forall_eq_or_imp]
  cases h:I3 a
  ·simp
  ·simp[mQ (cs:=cs)]
theorem HI {a b:List AV} (h:bt a=true) (k:bt b=true):bt (a++b)=true:=mQ.2 fun x hx=>by
 rcases List.mem_append.1 hx with hx|hx
 ·exact mQ.1 h x hx
 ·exact mQ.1 k x hx
section
variable {P:Program} {T:TypeId->Option Ty} {n:Nat} {ops:Array Oper} {id:Nat} {draw:Bool} {K:AS->Prop} {s:AS} {k:Nat} {o:Oper} {os:List Oper} {fps:List FP}
end
theorem Ps (env:EL):ig env=yO (env.map (·.1)):=by
 unfold ig yO aF;rw[List.length_map,List.map_map];rfl
theorem Lo (a b:EL):lO (a++b)=lO a++lO b:=by
 induction a with
 |nil=>rfl
 |cons x a ih=>simp only[List.cons_append,lO,ih,List.append_assoc]
theorem ug (q:Rat) (p:Int):(lB q p).length=5:=rfl
theorem Bx:∀l:EL,(lO l).length=l.length*5
 | []=>rfl
 |x::r=>by rw[lO,List.length_append,ug,Bx r,List.length_cons];omega
theorem wP:∀(l:EL) (i:Nat),(lO l).take (i*5)=lO (l.take i)
 | [],i=>by simp[lO]
 |x::r,0=>by simp[lO]
 |x::r,i+1=>by
  rw[List.take_succ_cons,lO,lO,show(i+1)*5=(lB x.2.1 x.2.2).length+i*5 by rw[ug];omega,List.take_length_add_append,wP r i]
theorem x4:∀(l:EL) (i:Nat),(lO l).drop (i*5)=lO (l.drop i)
 | [],i=>by simp[lO]
 |x::r,0=>by simp
 |x::r,i+1=>by
  rw[List.drop_succ_cons,lO,show(i+1)*5=(lB x.2.1 x.2.2).length+i*5 by rw[ug];omega,List.drop_length_add_append,x4 r i]
theorem CI:∀l:EL,bt (lO l)=true
 | []=>rfl
 |x::r=>HI (a:=lB x.2.1 x.2.2) rfl (CI r)
def Ta:Except Int EL->RV
 | .ok env=> .tup [ig env,jv env,dN .i64 0]
 | .error e=> .tup [.leaf (.sl 0 []), .leaf (.sl 0 []),dN .i64 e]
structure PQ (l:Tb):Prop where
 sm:I4 l
 len:l.length<=500
 hv:∀n x,Hv l n x->dJ 400 x.1/\o9 x.2=true
theorem yP.fx_of {l:Tb} (hs:I4 l) (ho:yP l):PO l:=fun p hp=>G4 (hs p hp).2.wd (hs p hp).2.lm (ho.ex p hp)
theorem Pf {l:Tb} (hs:I4 l) (ho:yP l) {p:Pm} (hp:p∈l):ym (lg p.2)/\mj (lg p.2)<=1000000/\rx (lg p.2)=p.2:=by
 have h1:=zg (ho.fx_of hs p hp);refine⟨rV _ (by rw[h1.1];exact(hs p hp).2.lt),?_,h1.1⟩;have h2:=ra (lg p.2);rw[h1.1]at h2;have:=(hs p hp).2.sz;omega
theorem Ir {l:Tb} (h:(fE l).2≠0):xO l= .error (fE l).2:=by unfold xO;rw[if_neg h]
noncomputable def Od (l:Tb) (x:Rx):RV:=if lZ x=0 then(match xO l with
 | .ok env=>d9 (bQ (a6 env) (lg x))
 | .error e=> .tup [Ar,dN .i64 e])else .tup [Ar,dN .i64 (lZ x)]
theorem Ln {l:Tb} (hs:I4 l) (hV:(fE l).2=0->PQ l) {env:EL} (h:xO l= .ok env):el env/\env.length<=1000000/\ ∀x∈env,dJ 400 x.2.1/\o9 x.2.2=true:=by
 obtain⟨h1,h2,h3,_,h5,h6⟩:=GG (fun h=>h.fx_of hs) h;have hv:=hV h2;exact⟨h3,by have:=hv.len;omega,fun x hx=>hv.hv _ _ (h5 x hx)⟩
theorem Om {x:Rx} (hx:DW x) (h0:lZ x=0):ym (lg x)/\mj (lg x)<=1000000/\rx (lg x)=x:=by
 have h1:=zg (G4 hx.wd hx.lm h0);refine⟨rV _ (by rw[h1.1];exact hx.lt),?_,h1.1⟩;have h2:=ra (lg x);rw[h1.1]at h2;have:=hx.sz;omega
theorem OT {l:Tb} {e:Int} (h:xO l= .error e):e≠0:=by
 unfold xO at h
 split at h
 ·exact wl h
 ·rename_i h0;cases h;exact h0
section
variable {P:Program} {T:TypeId->Option Ty} {n:Nat} {ops:Array Oper} {id:Nat} {draw:Bool} {K:AS->Prop} {s:AS} {k:Nat} {o:Oper} {os:List Oper} {fps:List FP}
end
theorem BH (F:List L8) (x:L8):(aF F).take (F.length*1)++[.val (vL x)]=aF (F++[x]):=by
 rw[Nat.mul_one,List.take_of_length_le (Nat.le_of_eq (im F)),mh];rfl
abbrev KK (n:L8):List AV:=[.val (vL n)]
theorem z8 {n:L8}:cH [(900,KK n)] [(900,KK n)]:=cH.one (Nat.le_refl 1)
theorem DC (q:Pm) (n:L8):ap Tryz.prog 246 [.d (Ky q), .box 900 0] [(900,KK n)] (.v (.one (dB (decide (q.1=n))))) [(900,KK n)]:=by
 obtain⟨o1,na1,xs1,nb1,ys1,nm1,n1,cs1,hA,hB⟩:=eT q;rw[show Ky q= .agg (eC q.1 o1 na1 xs1 nb1 ys1 nm1 n1 cs1) from congrArg DV.agg hB]
 by_cases e:q.1=n
 ·rw[decide_eq_true e]
  refine aG ac cg func246 rfl rfl rfl rfl rfl (z8) ?_;refine kR ?_;refine kI ?_
  refine kO3 ?_
  refine aD rfl rfl rfl rfl rfl rfl rfl (bf (a:=q.1) (b:=n) e) ?_;exact jo
 ·rw[decide_eq_false e]
  refine aG ac cg func246 rfl rfl rfl rfl rfl (z8) ?_;refine kR ?_;refine kI ?_
  refine kO3 ?_
  refine aD rfl rfl rfl rfl rfl rfl rfl (bT (a:=q.1) (b:=n) e) ?_;exact jo
theorem vu {fid:FuncId} {p:Pm->Bool} {n:L8} (l:Tb) (hp:∀x∈l,ap Tryz.prog fid [.d (Ky x), .box 900 0] [(900,KK n)] (.v (.one (dB (p x)))) [(900,KK n)]) (hl:l.length<=1000000):ap Tryz.prog 245 [.d (gK l), .clo (.func fid) [] [.box 900 0]] [(900,KK n)] (.v (.one (dN .i64 (if l.findIdx p<l.length then((l.findIdx p:Nat):Int)else -1)))) [(900,KK n)]:=by
 have hf:=List.findIdx_le_length (p:=p) (xs:=l)
 have hn:∀(i:Nat) (hi:i<l.length),i<l.findIdx p->p l[i]=false:=fun i hi h=>by
  exact MQ
 have hy:∀(h:l.findIdx p<l.length),p (l[l.findIdx p])=true:=fun h=>List.findIdx_getElem
 generalize l.findIdx p=f at *;refine aG ac cg func245 rfl rfl rfl rfl rfl (z8) ?_;refine kW ?_
 refine ax Nat (fun i=>i<=f) (fun i=>⟨[(0, .d (gK l)),(1, .clo (.func fid) [] [.box 900 0]),(4, .d (dN .i64 0)),(7, .d (dN .i64 l.length)),(8, .d (dN .i64 i))],[(900,some (KK n))]⟩) (fun i=>l.length-i) 0 (Nat.zero_le _)
  kw ?_
 intro i hi;refine kI ?_
 by_cases hlt:i<l.length
 ·refine kT ?_
  have hx:l[i]? =some l[i]:=by simp[hlt]
  have c:=hp l[i] (List.getElem_mem hlt);have hni:=hn i hlt;have hyi:∀h:i=f,p l[i]=true:=fun h=>by subst h;exact hy hlt
  generalize l[i]=q at *;obtain⟨o1,na1,xs1,nb1,ys1,nm1,n1,cs1,hA,hB⟩:=eT q;have hat:∀(j:Nat) (a:AV),(eC q.1 o1 na1 xs1 nb1 ys1 nm1 n1 cs1)[j]? =some a->(Ev l)[i*8+j]? =some a:=fun j a h=>j4 l i q hx j a (by rw[hB];exact h)
  rw[show Ky q= .agg (eC q.1 o1 na1 xs1 nb1 ys1 nm1 n1 cs1) from congrArg DV.agg hB]at c;refine kW ?_;refine aP (i:=i) (cs':=eC q.1 o1 na1 xs1 nb1 ys1 nm1 n1 cs1) hlt hat (Nat.zero_lt_succ 7) rfl rfl rfl rfl rfl rfl rfl rfl ?_;refine kO ?_;exact FY
 ·rw[if_neg (by omega)]
  refine kE ?_;exact jo
theorem xx:∀(l:Tb) (n:L8),l0 l n=l.findIdx fun q=>decide (q.1=n)
 | [],_=>rfl
 |p::r,n=>by
  rw[l0,List.findIdx_cons,<- xx r n]
  by_cases e:p.1=n<;>simp[e]
theorem rC (l:Tb) (n:L8) (hl:l.length<=1000000):aa Tryz.prog 180 [gK l,dL n] (.one (dN .i64 (PA l n))):=by
 have c:=(vu (fid:=246) (p:=fun q=>decide (q.1=n)) (n:=n) l (fun x _=>DC x n) hl).swap 900 0 rfl;rw[<- xx l n]at c;unfold PA;generalize(if l0 l n<l.length then((l0 l n:Nat):Int)else -1)=f at *;refine kV func180 ?_;refine kD (c) ?_;exact ar
end Go.Proofs.YtnchbpoopnjghaaGreatDoor
