/- Parts of a proof: contracts of the functions that the laws reach. -/
import Derived.Test.YtnchbpoopnjghaaGreatDoorQZ10
set_option maxHeartbeats 100000000
set_option linter.all false
open Go.Proofs.Tryz
namespace Go.Proofs.YtnchbpoopnjghaaGreatDoor
open Go.RowKit
section
variable {P:Program} {T:TypeId->Option Ty} {n:Nat} {ops:Array Oper} {id:Nat} {draw:Bool} {K:AS->Prop} {s:AS} {k:Nat} {o:Oper} {os:List Oper} {fps:List FP}
theorem nD {P:Program} {w:World} {t et q:Nat} (hu:P.underlying t=some (.slice et)) (hks:(P.info? et).map (·.size)=some q) (A:Option Addr) {m i c:Nat} (ik:IntKind) (hi:i<=m):
 (Instr.sliceAt t (.slice A m c) (some (.int ik (i:Nat))) none none).run P w= .ok (.slice (if c=i then A else A.map (·.add (i*q))) (m-i) (c-i)) w:=by
 have hib:(0:Int)<=(i:Int)/\(i:Int)<=(m:Nat):=⟨by omega,by omega⟩;unfold Instr.sliceAt
 simp only[Y_,run_underlying hu w,R_]
 unfold Instr.slice
 simp only[Y_,run_underlying hu w,R_,Instr.sliceBounds,Instr.sliceBound,a_,asIntOf]
 rw[if_pos hib]
 simp only[a_,R_,Int.toNat_natCast]
 rw[bJ hks w];rfl
theorem kP {P:Program} {w:World} {t et q:Nat} (hu:P.underlying t=some (.slice et)) (hks:(P.info? et).map (·.size)=some q) (A:Option Addr) {m i c:Nat} (ik:IntKind) (hi:i<=c):
 (Instr.sliceAt t (.slice A m c) none (some (.int ik (i:Nat))) none).run P w= .ok (.slice (if c=0 then A else A.map (·.add (0*q))) i c) w:=by
 have hib:(0:Int)<=(i:Int)/\(i:Int)<=(c:Nat):=⟨by omega,by omega⟩;unfold Instr.sliceAt
 simp only[Y_,run_underlying hu w,R_]
 unfold Instr.slice
 simp only[Y_,run_underlying hu w,R_,Instr.sliceBounds,Instr.sliceBound,a_,asIntOf]
 simp only[Bool.false_eq_true,if_false,if_true]
 rw[if_pos hib]
 simp only[a_,R_,Int.toNat_natCast]
 rw[bJ hks w];rfl
theorem DB (hT:∀t d,T t=some d->a8 P t d) {t:TypeId} {ty:Ty} {x z:Operand} {j et q m i:Nat} {ik:IntKind} {cs:List AV} (hi:i<=m) (h1:gd ops s o=some true) (h2:o.op= .slice t x none (some z) none) (h5:T t=some ty) (h6:ty.elem=some (et,q)) (h7:s.ev x= .own j m q et) (hb:s.bx j=some cs) (h8:s.ev z= .d (.leaf (.val (.int ik (i:Nat)))))
 (h3:aL n o.dst=true) (h4:fg draw ops (aA ops o ⟨.own j i q et,none⟩ [j]) k fps=true) (h:ar P T n ops id draw K (k+1) os (s.eff o.dst ⟨.own j i q et,none⟩) (aA ops o ⟨.own j i q et,none⟩ [j]::fps)):ar P T n ops id draw K k (o::os) s fps:=by
 refine .run h1 (.gen fun s2 ht hrb=>?_) h3 h4 h;have hx:=(aw ht (x:=x) (by simp[h2,Op.operands])).trans h7;have hz:=(aw ht (x:=z) (by simp[h2,Op.operands])).trans h8;have hbj:=(bg (hrb j S_)).trans hb;obtain⟨u,hu,_,hel,_⟩:=(hT _ _ h5).und;obtain⟨rfl,hks⟩:=hel et q h6;refine ak fun n S0 w0 g a w hM=>?_
 have hm:=hM.ev x;rw[hx]at hm;obtain⟨c,e1,e2,e3,e4,arr,e5,e6⟩:=hm.2 cs hbj;have hr:=kP (w:=w) hu hks (some ⟨g j,0,none⟩) (m:=m) (i:=i) (c:=c) ik O_
 have ha:(if c=0 then some (⟨g j,0,none⟩:Addr)else(some ⟨g j,0,none⟩:Option Addr).map (·.add (0*q)))=some ⟨g j,0,none⟩:=by
  split
  ·rfl
  ·rw[Nat.zero_mul,Option.map_some,b7]
 rw[ha]at hr;refine⟨.slice (some ⟨g j,0,none⟩) i c,w,?_,Below.refl _ _,hm.1,fun cs' hc=>?_⟩
 ·unfold execOp
  rw[h2]
  simp only[e1,a7 hM hz,Option.map_some,Option.map_none,Y_,hr,R_]
  rfl
 ·rw[hbj]at hc
  cases hc;exact⟨c,rfl,by omega,e3,V_ (P_ _ hi) e4,arr,e5,e6⟩
theorem iL (hT:∀t d,T t=some d->a8 P t d) {t:TypeId} {ty:Ty} {x y:Operand} {j et q m i:Nat} {ik:IntKind} {cs:List AV} (hi:i<m) (h1:gd ops s o=some true) (h2:o.op= .slice t x (some y) none none) (h5:T t=some ty) (h6:ty.elem=some (et,q)) (h7:s.ev x= .own j m q et) (hb:s.bx j=some cs) (h8:s.ev y= .d (.leaf (.val (.int ik (i:Nat)))))
 (h3:aL n o.dst=true) (h4:fg draw ops (aA ops o ⟨.vw j i (m-i) q,none⟩ [j]) k fps=true) (h:ar P T n ops id draw K (k+1) os (s.eff o.dst ⟨.vw j i (m-i) q,none⟩) (aA ops o ⟨.vw j i (m-i) q,none⟩ [j]::fps)):ar P T n ops id draw K k (o::os) s fps:=by
 refine .run h1 (.gen fun s2 ht hrb=>?_) h3 h4 h;have hx:=(aw ht (x:=x) (by simp[h2,Op.operands])).trans h7;have hy:=(aw ht (x:=y) (by simp[h2,Op.operands])).trans h8;have hbj:=(bg (hrb j S_)).trans hb;obtain⟨u,hu,_,hel,_⟩:=(hT _ _ h5).und;obtain⟨rfl,hks⟩:=hel et q h6;refine ak fun n S0 w0 g a w hM=>?_
 have hm:=hM.ev x;rw[hx]at hm;obtain⟨c,e1,e2,e3,e4,arr,e5,e6⟩:=hm.2 cs hbj;have hr:=nD (w:=w) hu hks (some ⟨g j,0,none⟩) (m:=m) (i:=i) (c:=c) ik O_;rw[if_neg O_,Option.map_some,b7,J_]at hr;refine⟨.slice (some ⟨g j,i*q,none⟩) (m-i) (c-i),w,?_,Below.refl _ _,hm.1,fun cs' hc=>?_⟩
 ·exact Pr
 ·rw[hbj]at hc
  cases hc;exact⟨c-i,rfl,by omega,by omega,by rw[show i+(m-i)=m by omega];exact e4⟩
theorem yB (hT:∀t d,T t=some d->a8 P t d) {t:TypeId} {ty:Ty} {x y:Operand} {j et q m:Nat} {ik:IntKind} {cs:List AV} (h1:gd ops s o=some true) (h2:o.op= .slice t x (some y) none none) (h5:T t=some ty) (h6:ty.elem=some (et,q)) (h7:s.ev x= .own j m q et) (hb:s.bx j=some cs) (h8:s.ev y= .d (.leaf (.val (.int ik (m:Nat)))))
 (h3:aL n o.dst=true) (h4:fg draw ops (aA ops o ⟨.d (.leaf (.sl 0 [])),none⟩ [j]) k fps=true) (h:ar P T n ops id draw K (k+1) os (s.eff o.dst ⟨.d (.leaf (.sl 0 [])),none⟩) (aA ops o ⟨.d (.leaf (.sl 0 [])),none⟩ [j]::fps)):ar P T n ops id draw K k (o::os) s fps:=by
 refine .run h1 (.gen fun s2 ht hrb=>?_) h3 h4 h;have hx:=(aw ht (x:=x) (by simp[h2,Op.operands])).trans h7;have hy:=(aw ht (x:=y) (by simp[h2,Op.operands])).trans h8;have hbj:=(bg (hrb j S_)).trans hb;obtain⟨u,hu,_,hel,_⟩:=(hT _ _ h5).und;obtain⟨rfl,hks⟩:=hel et q h6;refine ak fun n S0 w0 g a w hM=>?_
 have hm:=hM.ev x;rw[hx]at hm;obtain⟨c,e1,e2,e3,e4,arr,e5,e6⟩:=hm.2 cs hbj;have hr:=nD (w:=w) hu hks (some ⟨g j,0,none⟩) (m:=m) (i:=m) (c:=c) ik (l_ _);rw[Nat.sub_self]at hr;refine⟨.slice (if c=m then some ⟨g j,0,none⟩else(some ⟨g j,0,none⟩:Option Addr).map (·.add (m*q))) 0 (c-m),w,?_,Below.refl _ _,AV.M.emp O_ O_ (fun hA=>?_)⟩
 ·exact Pr
 ·split at hA<;>cases hA
theorem My (hT:∀t d,T t=some d->a8 P t d) {t:TypeId} {ty:Ty} {x z:Operand} {et q:Nat} {ik:IntKind} (h1:gd ops s o=some true) (h2:o.op= .slice t x none (some z) none) (h5:T t=some ty) (h6:ty.elem=some (et,q)) (h7:s.ev x= .nil) (h8:s.ev z= .d (.leaf (.val (.int ik (0:Nat)))))
 (h3:aL n o.dst=true) (h4:fg draw ops (aA ops o ⟨.nil,none⟩ []) k fps=true) (h:ar P T n ops id draw K (k+1) os (s.eff o.dst ⟨.nil,none⟩) (aA ops o ⟨.nil,none⟩ []::fps)):ar P T n ops id draw K k (o::os) s fps:=by
 refine .run h1 (.gen fun s2 ht hrb=>?_) h3 h4 h;have hx:=(aw ht (x:=x) (by simp[h2,Op.operands])).trans h7;have hz:=(aw ht (x:=z) (by simp[h2,Op.operands])).trans h8;obtain⟨u,hu,_,hel,_⟩:=(hT _ _ h5).und;obtain⟨rfl,hks⟩:=hel et q h6;refine ak fun n S0 w0 g a w hM=>?_
 have hm:=hM.ev x;rw[hx]at hm;have hm:a.eval x= .slice none 0 0:=hm;have hr:=kP (w:=w) hu hks none (m:=0) (i:=0) (c:=0) ik (l_ _);rw[if_pos rfl]at hr;refine⟨.slice none 0 0,w,?_,Below.refl _ _,rfl⟩;unfold execOp;rw[h2]
 simp only[hm,a7 hM hz,Option.map_some,Option.map_none,Y_,hr,R_]
 rfl
theorem vP (hT:∀t d,T t=some d->a8 P t d) {t:TypeId} {ty:Ty} {x y:Operand} {et q:Nat} {ik:IntKind} (h1:gd ops s o=some true) (h2:o.op= .slice t x (some y) none none) (h5:T t=some ty) (h6:ty.elem=some (et,q)) (h7:s.ev x= .nil) (h8:s.ev y= .d (.leaf (.val (.int ik (0:Nat)))))
 (h3:aL n o.dst=true) (h4:fg draw ops (aA ops o ⟨.d (.leaf (.sl 0 [])),none⟩ []) k fps=true) (h:ar P T n ops id draw K (k+1) os (s.eff o.dst ⟨.d (.leaf (.sl 0 [])),none⟩) (aA ops o ⟨.d (.leaf (.sl 0 [])),none⟩ []::fps)):ar P T n ops id draw K k (o::os) s fps:=by
 refine .run h1 (.gen fun s2 ht hrb=>?_) h3 h4 h;have hx:=(aw ht (x:=x) (by simp[h2,Op.operands])).trans h7;have hy:=(aw ht (x:=y) (by simp[h2,Op.operands])).trans h8;obtain⟨u,hu,_,hel,_⟩:=(hT _ _ h5).und;obtain⟨rfl,hks⟩:=hel et q h6;refine ak fun n S0 w0 g a w hM=>?_
 have hm:=hM.ev x;rw[hx]at hm;have hm:a.eval x= .slice none 0 0:=hm;have hr:=nD (w:=w) hu hks none (m:=0) (i:=0) (c:=0) ik (l_ _);rw[if_pos rfl]at hr;refine⟨.slice none 0 0,w,?_,Below.refl _ _,AV.M.emp (l_ _) D_ (fun _=>rfl)⟩;unfold execOp;rw[h2]
 simp only[hm,a7 hM hy,Option.map_some,Option.map_none,Y_,hr,R_]
 rfl
theorem DO {S0:Nat->Prop} {w0:eR} {g:Nat->Nat} {a:Act} {w:World} (hM:MG n S0 w0 g s a w) {x:Operand} {j p m q:Nat} {cs:List AV} (hx:s.ev x= .vw j p m q) (hb:s.bx j=some cs):oH (Own S0 g s) w (a.eval x) m q ((cs.drop (p*q)).take (m*q)):=by
 have hm:=hM.ev x;rw[hx]at hm;obtain⟨c,e1,e2,e3,e4⟩:=hm.2 cs hb;obtain⟨_,arr,e,e5,e6,_⟩:=hM.bm j cs hb;have hl:=e6.1;have hsz:(p+m)*q=p*q+m*q:=Nat.add_mul _ _ _;refine⟨_,c,(arr.toList.drop (p*q)).take (m*q),e1,by simp at hl ⊢;omega,fun i u hi=>?_,e6.sub O_⟩;exact Dx
theorem yr {S0:Nat->Prop} {w0:eR} {g:Nat->Nat} {a:Act} {w:World} (hM:MG n S0 w0 g s a w) {x:Operand} {j m q e2:Nat} {cs:List AV} (hx:s.ev x= .own j m q e2) (hb:s.bx j=some cs):oH (Own S0 g s) w (a.eval x) m q (cs.take (m*q)):=by
 have hm:=hM.ev x;rw[hx]at hm;obtain⟨c,e1,e2,e3,e4,_⟩:=hm.2 cs hb;obtain⟨_,arr,e,e5,e6,_⟩:=hM.bm j cs hb;have hl:=e6.1;have h0:=e6.sub (off:=0) (k:=m*q) O_;rw[List.drop_zero,List.drop_zero]at h0;refine⟨_,c,arr.toList.take (m*q),e1,by simp at hl ⊢;omega,fun i u hi=>?_,h0⟩;exact Dx
theorem Rl (j':Nat) {d:Nat} {x y:Operand} {t et q m1 m2 j2 p:Nat} {ty te:Ty} {dead:Option Nat} {cs cs2:List AV} (hT:∀t d,T t=some d->a8 P t d) (hm:0<m2) (hb:(m1+m2)*te.bytes<=140737488355328) (hlen:(p+m2)*q<=cs2.length) (h1:gd ops s o=some true) (ho:o.op= .call ⟨.builtin .append,#[x,y],#[t,t]⟩) (hd:o.dst=some d) (h3:aL n o.dst=true) (ht:T t=some ty) (hel:ty.elem=some (et,q)) (hte:T et=some te) (hq:te.size=q) (hq0:(Nat.ble 1 q && Nat.ble 1 te.bytes)=true)
 (hbase:eK s x m1 q et dead cs) (hy:s.ev y= .vw j2 p m2 q) (hj2:s.bx j2=some cs2) (hnew:fJ s j'=true) (hcl:(bB te.zero && bB ((cs2.drop (p*q)).take (m2*q)) && jm dead)=true)
 (h4:fg draw ops (aA ops o ⟨.own j' (m1+m2) q et,some ((j',some (cs.take (m1*q)++(cs2.drop (p*q)).take (m2*q)))::fB dead [])⟩ (j'::j2::sF dead)) k fps=true)
 (h:ar P T n ops id draw K (k+1) os (s.eff o.dst ⟨.own j' (m1+m2) q et,some ((j',some (cs.take (m1*q)++(cs2.drop (p*q)).take (m2*q)))::fB dead [])⟩) (aA ops o ⟨.own j' (m1+m2) q et,some ((j',some (cs.take (m1*q)++(cs2.drop (p*q)).take (m2*q)))::fB dead [])⟩ (j'::j2::sF dead)::fps)):ar P T n ops id draw K k (o::os) s fps:=by
 rw[B_]at hq0
 have h63:m1+m2<=9223372036854775807:=by
  exact x8
 refine .run h1 (.gen fun s2 ht2 hrb=>?_) h3 h4 h;have hx2:s2.ev x=s.ev x:=aw ht2 (by rw[ho];simp[Op.operands,Call.operands]);have hy2:s2.ev y=s.ev y:=aw ht2 (by rw[ho];simp[Op.operands,Call.operands]);have hb2:s2.bx j2=some cs2:=(bg (hrb j2 S_)).trans hj2
 have hbase2:eK s2 x m1 q et dead cs:=by
  exact Ke
 have hnew2:fJ s2 j'=true:=(ew (hrb j' S_)).trans hnew;have hsz:(p+m2)*q=p*q+m2*q:=Nat.add_mul _ _ _;intro n S0 w0 g a w K Q hM hdn hK;refine jR (hT _ _ ht) (hT _ _ hte) ho hd hel hq (N_ hq0.1) hbase2 (by simp;omega) hm hb h63 (bA hnew2) (ji hnew2) (.inr hcl) hM (DO hM (hy2.trans hy) hb2) (hdn d hd) fun g' a' w' hM'=>hK g' a' w' ?_
 rw[hd];cases dead<;>exact hM'
theorem tw (j':Nat) {d:Nat} {x y:Operand} {t et q m1 m2 j2 e2:Nat} {ty te:Ty} {dead:Option Nat} {cs cs2:List AV} (hT:∀t d,T t=some d->a8 P t d) (hm:0<m2) (hb:(m1+m2)*te.bytes<=140737488355328) (hlen:m2*q<=cs2.length) (h1:gd ops s o=some true) (ho:o.op= .call ⟨.builtin .append,#[x,y],#[t,t]⟩) (hd:o.dst=some d) (h3:aL n o.dst=true) (ht:T t=some ty) (hel:ty.elem=some (et,q)) (hte:T et=some te) (hq:te.size=q) (hq0:(Nat.ble 1 q && Nat.ble 1 te.bytes)=true)
 (hbase:eK s x m1 q et dead cs) (hy:s.ev y= .own j2 m2 q e2) (hj2:s.bx j2=some cs2) (hnew:fJ s j'=true) (hcl:(bB te.zero && bB (cs2.take (m2*q)) && jm dead)=true)
 (h4:fg draw ops (aA ops o ⟨.own j' (m1+m2) q et,some ((j',some (cs.take (m1*q)++cs2.take (m2*q)))::fB dead [])⟩ (j'::j2::sF dead)) k fps=true)
 (h:ar P T n ops id draw K (k+1) os (s.eff o.dst ⟨.own j' (m1+m2) q et,some ((j',some (cs.take (m1*q)++cs2.take (m2*q)))::fB dead [])⟩) (aA ops o ⟨.own j' (m1+m2) q et,some ((j',some (cs.take (m1*q)++cs2.take (m2*q)))::fB dead [])⟩ (j'::j2::sF dead)::fps)):ar P T n ops id draw K k (o::os) s fps:=by
 rw[B_]at hq0
 have h63:m1+m2<=9223372036854775807:=by
  exact x8
 refine .run h1 (.gen fun s2 ht2 hrb=>?_) h3 h4 h;have hx2:s2.ev x=s.ev x:=aw ht2 (by rw[ho];simp[Op.operands,Call.operands]);have hy2:s2.ev y=s.ev y:=aw ht2 (by rw[ho];simp[Op.operands,Call.operands]);have hb2:s2.bx j2=some cs2:=(bg (hrb j2 S_)).trans hj2
 have hbase2:eK s2 x m1 q et dead cs:=by
  exact Ke
 have hnew2:fJ s2 j'=true:=(ew (hrb j' S_)).trans hnew;intro n S0 w0 g a w K Q hM hdn hK;refine jR (hT _ _ ht) (hT _ _ hte) ho hd hel hq (N_ hq0.1) hbase2 (by rw[U_];omega) hm hb h63 (bA hnew2) (ji hnew2) (.inr hcl) hM (yr hM (hy2.trans hy) hb2) (hdn d hd) fun g' a' w' hM'=>hK g' a' w' ?_
 rw[hd];cases dead<;>exact hM'
theorem t8 {s2:AS} {x y:Operand} {t et q m1 j:Nat} {ty:Ty} {ts:List AV} {cs:List AV} (hT:a8 P t ty) (ho:o.op= .call ⟨.builtin .append,#[x,y],#[t,t]⟩) (hel:ty.elem=some (et,q)) (hx2:s2.ev x= .own j m1 q et) (hbj:s2.bx j=some cs) (hy2:s2.ev y= .d (.leaf (.sl 0 ts))):bE P o s2 ⟨.own j m1 q et,none⟩:=by
 obtain⟨u,hu,_,hel',_⟩:=hT.und;obtain⟨rfl,hks⟩:=hel' et q hel;refine ak fun n S0 w0 g a w hM=>?_
 have hm:=hM.ev x;rw[hx2]at hm;obtain⟨c,e1,e2,e3,e4,arr,e5,e6⟩:=hm.2 cs hbj;have hm0:=hm;rw[e1]at hm0;have hyv:=hM.ev y;rw[hy2]at hyv;have hyv:AV.M (Own S0 g s2) w (.sl 0 ts) (a.eval y):=hyv
 have hA:∃A c2,a.eval y= .slice A 0 c2:=by
  exact PI
 obtain⟨A,c2,hv⟩:=hA
 have hr:(Builtin.append_ #[t,t] o.type #[.slice (some ⟨g j,0,none⟩) m1 c, .slice A 0 c2]).run P w= .ok (.slice (some ⟨g j,0,none⟩) m1 c) w:=by
  have hz:∀ad:Addr,(loadCells ad 0).run P w= .ok #[] w:=fun ad=>by
   simpa using run_loadCells_list (P:=P) w ad [] (fun j v hj=>by simp at hj)
  cases A with
  |none=>simp[Builtin.append_,run_underlying hu,bJ hks w,Builtin.lenOf,Builtin.firstCells,e2,storeCells]
  |some ad=>simp[Builtin.append_,run_underlying hu,bJ hks w,Builtin.lenOf,Builtin.firstCells,e2,storeCells,hz]
 refine⟨.slice (some ⟨g j,0,none⟩) m1 c,w,?_,Below.refl _ _,hm0⟩;unfold execOp
 simp only[ho,resolve,invoke,builtin,Y_,a_,R_,List.map_toArray,List.map_cons,List.map_nil,e1,hv,hr]
theorem Sg {x y:Operand} {t et q m1 j:Nat} {ty:Ty} {ts:List AV} {cs:List AV} (hT:∀t d,T t=some d->a8 P t d) (h1:gd ops s o=some true) (ho:o.op= .call ⟨.builtin .append,#[x,y],#[t,t]⟩) (ht:T t=some ty) (hel:ty.elem=some (et,q)) (h7:s.ev x= .own j m1 q et) (hb:s.bx j=some cs) (hy:s.ev y= .d (.leaf (.sl 0 ts)))
 (h3:aL n o.dst=true) (h4:fg draw ops (aA ops o ⟨.own j m1 q et,none⟩ [j]) k fps=true) (h:ar P T n ops id draw K (k+1) os (s.eff o.dst ⟨.own j m1 q et,none⟩) (aA ops o ⟨.own j m1 q et,none⟩ [j]::fps)):ar P T n ops id draw K k (o::os) s fps:=
 .run h1 (.gen fun _ ht2 hrb=>t8 (hT _ _ ht) ho hel ((aw ht2 (x:=x) (by rw[ho];simp[Op.operands,Call.operands])).trans h7) ((bg (hrb j S_)).trans hb) ((aw ht2 (x:=y) (by rw[ho];simp[Op.operands,Call.operands])).trans hy)) h3 h4 h
theorem pI {s2:AS} {x y:Operand} {t et q:Nat} {ty:Ty} {ts:List AV} (hT:a8 P t ty) (ho:o.op= .call ⟨.builtin .append,#[x,y],#[t,t]⟩) (hel:ty.elem=some (et,q)) (hx2:s2.ev x= .nil) (hy2:s2.ev y= .d (.leaf (.sl 0 ts))):bE P o s2 ⟨.nil,none⟩:=by
 obtain⟨u,hu,_,hel',_⟩:=hT.und;obtain⟨rfl,hks⟩:=hel' et q hel;refine ak fun n S0 w0 g a w hM=>?_
 have hm:=hM.ev x;rw[hx2]at hm;have hm:a.eval x= .slice none 0 0:=hm;have hyv:=hM.ev y;rw[hy2]at hyv;have hyv:AV.M (Own S0 g s2) w (.sl 0 ts) (a.eval y):=hyv
 have hA:∃A c2,a.eval y= .slice A 0 c2:=by
  exact PI
 obtain⟨A,c2,hv⟩:=hA
 have hr:(Builtin.append_ #[t,t] o.type #[.slice none 0 0, .slice A 0 c2]).run P w= .ok (.slice none 0 0) w:=by
  have hz:∀ad:Addr,(loadCells ad 0).run P w= .ok #[] w:=fun ad=>by
   simpa using run_loadCells_list (P:=P) w ad [] (fun j v hj=>by simp at hj)
  cases A with
  |none=>simp[Builtin.append_,run_underlying hu,bJ hks w,Builtin.lenOf,Builtin.firstCells,storeCells]
  |some ad=>simp[Builtin.append_,run_underlying hu,bJ hks w,Builtin.lenOf,Builtin.firstCells,storeCells,hz]
 refine⟨.slice none 0 0,w,?_,Below.refl _ _,rfl⟩;unfold execOp
 simp only[ho,resolve,invoke,builtin,Y_,a_,R_,List.map_toArray,List.map_cons,List.map_nil,hm,hv,hr]
theorem xg {x y:Operand} {t et q:Nat} {ty:Ty} {ts:List AV} (hT:∀t d,T t=some d->a8 P t d) (h1:gd ops s o=some true) (ho:o.op= .call ⟨.builtin .append,#[x,y],#[t,t]⟩) (ht:T t=some ty) (hel:ty.elem=some (et,q)) (h7:s.ev x= .nil) (hy:s.ev y= .d (.leaf (.sl 0 ts)))
 (h3:aL n o.dst=true) (h4:fg draw ops (aA ops o ⟨.nil,none⟩ []) k fps=true) (h:ar P T n ops id draw K (k+1) os (s.eff o.dst ⟨.nil,none⟩) (aA ops o ⟨.nil,none⟩ []::fps)):ar P T n ops id draw K k (o::os) s fps:=
 .run h1 (.gen fun _ ht2 _=>pI (hT _ _ ht) ho hel ((aw ht2 (x:=x) (by rw[ho];simp[Op.operands,Call.operands])).trans h7) ((aw ht2 (x:=y) (by rw[ho];simp[Op.operands,Call.operands])).trans hy)) h3 h4 h
theorem Am (j':Nat) {d t et q len:Nat} {ty te:Ty} {parts:Array (Nat × Operand)} {l:List (Nat × DV)} {cs:List AV} (hT:∀t d,T t=some d->a8 P t d) (h1:gd ops s o=some true) (ho:o.op= .buildSlice t len parts) (hd:o.dst=some d) (h3:aL n o.dst=true) (ht:T t=some ty) (hel:ty.elem=some (et,q)) (hte:T et=some te)
 (hk:(Nat.ble 1 q && (Nat.ble 1 len && (Nat.beq te.zero.length q && (Nat.ble (len*q) 16777216 && Nat.beq cs.length (len*q)))))=true) (hp:eN s parts.toList=some l) (hf:mR (fun i=>some (i*q,q)) (eL te.zero len) l=some cs) (hB:bB cs=true) (hnew:fJ s j'=true)
 (h4:fg draw ops (aA ops o ⟨.own j' len q et,some [(j',some cs)]⟩ [j']) k fps=true) (h:ar P T n ops id draw K (k+1) os (s.eff o.dst ⟨.own j' len q et,some [(j',some cs)]⟩) (aA ops o ⟨.own j' len q et,some [(j',some cs)]⟩ [j']::fps)):ar P T n ops id draw K k (o::os) s fps:=by
 simp only[B_]at hk
 obtain⟨k1,k2,k3,k4,k5⟩:=hk;have k1:=N_ k1;have k2:=N_ k2;have k3:=Nat.eq_of_beq_eq_true k3;have k4:=N_ k4;have k5:=Nat.eq_of_beq_eq_true k5;refine .run h1 (.gen fun s2 ht2 hrb=>?_) h3 h4 h;have hnew2:fJ s2 j'=true:=(ew (hrb j' S_)).trans hnew
 have hp2:eN s2 parts.toList=some l:=by
  rw[<- hp];have:∀x∈parts.toList,s2.ev x.2=s.ev x.2:=fun x hx=>aw ht2 (by rw[ho];simp only[Op.operands];simp;exact⟨x.1,by simpa using hx⟩)
  generalize parts.toList=ps at this;clear hp hf
  induction ps with
  |nil=>rfl
  |cons p ps ih=>
   simp only[eN]
   rw[ih (fun x hx=>this x (by simp[hx])),this p S_]
 intro n S0 w0 g a w K' Q hM hdn hK;obtain⟨u,hu,_,hel',_⟩:=(hT _ _ ht).und;obtain⟨rfl,hks⟩:=hel' et q hel;obtain⟨z,hz,hzm⟩:=(hT _ _ hte).zero;have hpos:0<len*q:=Nat.mul_pos k2 k1
 have hzl':z.cells.size=q:=by have:=(hzm (Own S0 g s2) w).1;simp at this;omega
 have hini:CM (Own S0 g s2) w (eL te.zero len) ((Array.range (len*q)).map (fun i=>z.cells[i%z.cells.size]!)).toList:=by
  refine⟨by rw[cY,k3];simp,fun i b v h1 h2=>?_⟩;rw[gP _ O_]at h1
  split at h1
  ·rename_i hi
   rw[k3]at h1 hi;have hm:i%q<q:=Nat.mod_lt _ k1
   have hv:v=z.cells[i%q]'(by omega):=by
    simp[hi,hzl']at h2
    rw[<- h2]
    simp[hzl',hm]
   exact(hzm _ w).2 (i%q) b v h1 (by rw[hv];simp[hzl',hm])
  ·cases h1
 obtain⟨arr,g1,g2⟩:=ra l _ _ _ cs hini (oc hM parts.toList l hp2) hf;have e:(parts.map fun x=>match x with|(i,y)=>(i,a.eval y)).toList=parts.toList.map fun(p:Nat × Operand)=>(p.1,a.eval p.2):=S_
 have hr:(execOp a.eval o).run P w= .ok (.value (.slice (some ⟨w.heap.size,0,none⟩) len len)) (w.alloc (.cells arr et)):=by
  unfold execOp;rw[ho]
  simp only[Instr.buildSlice,Y_,run_underlying hu w,R_,bJ hks w]
  rw[if_neg O_,if_neg O_]
  simp only[Y_,kH hz w,R_,a_,e,g1]
  rfl
 unfold Oper.wp;rw[hr];show K' (a.put o.dst _) _;rw[hd]at hK ⊢;have hsz:arr.size=len*q:=by have:=g2.1;simp at this;omega
 have hl1:len<=9223372036854775807:=by
  have:=Nat.le_mul_of_pos_right len k1;omega
 refine hK _ _ _ (hM.alloc (hdn d hd) (bA hnew2).1 (bA hnew2).2 g2.cp (fun _=>jl g2 hB) (lh hB) (fun h=>by rw[nK hnew2]at h;cases h) fun g' s' hg hb=>?_);refine⟨AS.kn_of hb,fun cs' hc=>⟨len,by rw[hg],l_ _,hl1,?_,arr,?_,hsz⟩⟩
 ·rw[hb]at hc;cases hc;exact Nat.le_of_eq k5.symm
 ·rw[hg];exact heap_alloc_new w _
theorem n7 {q:Nat} (hq:s.tv q= .nil):aM s ⟨(q, .d (.leaf (.sl 0 [])))::s.t,s.b⟩:=by
 rintro n S0 w0 a w ⟨g,h⟩;have hm:=h.tm q;rw[hq]at hm;exact⟨g,h.reslot (Iw (tv:= .nil) rfl hm) rfl (by show pf (s.tv q)=true;rw[hq];rfl)⟩
theorem GV {q m:Nat} {cs:List AV} (i:Nat) (hq:s.tv q= .d (.leaf (.sl m cs))):aM s ⟨(q, .d (.leaf (.sl m (cs.take i))))::s.t,s.b⟩:=by
 rintro n S0 w0 a w ⟨g,h⟩;have hm:=h.tm q;rw[hq]at hm;have hm:AV.M (Own S0 g s) w (.sl m cs) (a.tmps.getD q Go.undef):=hm
 have key:AV.M (Own S0 g s) w (.sl m (cs.take i)) (a.tmps.getD q Go.undef):=by
  generalize a.tmps.getD q Go.undef=v at hm
  have hc:∀(p:Nat) (b:AV),(cs.take i)[p]? =some b->cs[p]? =some b:=fun p b hb=>by
   rw[List.getElem?_take]at hb
   split at hb
   ·exact hb
   ·cases hb
  cases hm with
  |emp h1 h2 h3=>rw[List.take_nil];exact .emp h1 h2 h3
  |sl f h1 h2 h3 h4 h5 h6=>exact .sl f h1 h2 h3 h4 (fun p b hb=>h5 p b (hc p b hb)) (fun p b hb=>h6 p b (hc p b hb))
 exact⟨g,h.reslot key rfl (by show pf (s.tv q)=true;rw[hq];rfl)⟩
end
def mX (J:Nat):List L8->TV
 | []=> .nil
 |a::r=> .own J (a::r).length 1 9
def qt:List L8->Option (List AV)
 | []=>none
 |a::r=>some (av (a::r))
theorem c8 (l:List L8):(av l).length=l.length:=by simp[av]
theorem nP (a b:List L8):av (a++b)=av a++av b:=by simp[av]
theorem DG {l:List L8} {i:Nat} {x:L8} (h:l[i]? =some x):(av l)[i*1]? =some (.val (vL x)):=by simp[av,h]
theorem ef {l:List L8} {i:Nat} {x:L8} (h:l[i]? =some x):∀(j:Nat) (a:AV),[AV.val (vL x)][j]? =some a->(av l)[i*1+j]? =some a:=fun j a hj=>by
 cases j with
 |zero=>cases hj;exact DG h
 |succ j=>cases hj
theorem qR:∀{cs:List AV},(∀a∈cs,∃l,a= .val (vL l))->bB cs=true
 | [],_=>rfl
 |a::r,h=>by
  obtain⟨l,rfl⟩:=h a S_;have ih:=qR (cs:=r) (fun b hb=>h b (by simp[hb]))
  simp only[bB,ih]
  rfl
theorem rW {l:List L8} {a:AV} (h:a∈av l):∃x,a= .val (vL x):=by
 obtain⟨x,_,rfl⟩:=List.mem_map.1 h;exact⟨x,rfl⟩
theorem iK (l:List L8):bB (av l)=true:=qR fun _ h=>rW h
theorem pQ (t:List (Nat × TV)) (b:List (Nat × Option (List AV))) (q J:Nat) (l:List L8) (y:L8) (r:List L8):(⟨(q,mX J (l++y::r))::t,(J,qt (l++y::r))::b⟩:AS)=⟨(q, .own J (l.length+(y::r).length) 1 9)::t,(J,some ((av l).take (l.length*1)++av (y::r)))::b⟩:=by
 have e1:mX J (l++y::r)= .own J (l.length+(y::r).length) 1 9:=by
  cases l with
  |nil=>simp[mX]
  |cons a l=>simp[mX];omega
 have e2:qt (l++y::r)=some ((av l).take (l.length*1)++av (y::r)):=by
  rw[o_,K_ (Nat.le_of_eq (c8 l)),<- nP];cases l<;>rfl
 rw[e1,e2]
theorem vn {args:List Rx} {i:Nat} (h:i<args.length):fH (args.take (i+1))=fH (args.take i)++ju args[i]:=by
 have app:∀a b:List Rx,fH (a++b)=fH a++fH b:=by
  intro a b
  induction a with
  |nil=>simp[fH]
  |cons x r ih=>simp[fH,ih]
 rw[List.take_add_one,app]
 simp[h,fH]
theorem yT:∀(l:List L8) (x:L8),(ic l x).length<=l.length+1
 | [],x=>by simp[ic]
 |y::r,x=>by
  have ih:=yT r x;unfold ic
  split
  ·simp only[List.length_cons];omega
  ·split <;>simp
theorem tl (l:List L8):(iz l).length<=l.length:=by
 have:∀(l acc:List L8),(l.foldl ic acc).length<=acc.length+l.length:=by
  intro l
  induction l with
  |nil=>intro acc;simp
  |cons x l ih=>
   intro acc;have h1:=ih (ic acc x);have h2:=yT acc x;rw[List.foldl_cons,List.length_cons];omega
 have:=this l []
 simpa[iz]using this
theorem xf:∀x,(ju x).length<=f8 x:=by
 refine eM fun op na xs nb ys nm args ih=>?_
 have key:∀l:List Rx,(∀y∈l,(ju y).length<=f8 y)->(fH l).length<=eQ l:=by
  intro l
  induction l with
  |nil=>intro _;simp[fH]
  |cons y l ihl=>
   intro h;have h1:=h y S_;have h2:=ihl (fun z hz=>h z (by simp[hz]));rw[fH,eQ,L_];omega
 have h1:=key args ih;rw[ju,f8];refine V_ (tl _) ?_;rw[L_]
 split <;>simp <;>omega
theorem Hi (l:List Rx):(fH l).length<=eQ l:=by
 induction l with
 |nil=>simp[fH]
 |cons y l ihl=>
  have h1:=xf y;rw[fH,eQ,L_];omega
theorem lO (l:List Rx) (i:Nat):(fH (l.take i)).length<=eQ l:=by
 have h:eQ (l.take i)<=eQ l:=by
  induction l generalizing i with
  |nil=>simp
  |cons y l ih=>
   cases i with
   |zero=>simp[eQ]
   |succ i=>have:=ih i;simp only[List.take_succ_cons,eQ];omega
 exact V_ (Hi _) h
theorem LR {O:List L8} {x:L8} {k:Nat} (hk:k<O.length):(av O).take (k*1)++(([AV.val (vL x)].take (1*1)++((av O).drop (k*1)).take ((O.length-k)*1)).take ((1+(O.length-k))*1))=av (O.take k++x::O.drop k):=by
 simp only[o_]
 have h1:((av O).drop k).take (O.length-k)=(av O).drop k:=K_ (by rw[n_,c8];exact l_ _);rw[h1,K_ (l:=_++_)]
 ·simp[av]
 ·simp[c8];omega
theorem J6 (t:List (Nat × TV)) (b:List (Nat × Option (List AV))) (q J:Nat) (l:List L8) (h:l≠[]):(⟨(q,mX J l)::t,(J,qt l)::b⟩:AS)=⟨(q, .own J l.length 1 9)::t,(J,some (av l))::b⟩:=by
 cases l with
 |nil=>exact absurd rfl h
 |cons a r=>rfl
theorem Bt {t:TypeId} {p q:Operand} {a b:L8} {v:Bool} (h:Op.bytesLess a b=v):j7 .lss t p q (vL a) (vL b)=some (.bool v):=by rw[vd,h]
theorem NN {O:List L8} {x:L8}:(av O).take (O.length*1)++([AV.val (vL x)].take (1*1))=av (O.take O.length++x::O.drop O.length):=by
 rw[o_,K_ (Nat.le_of_eq (c8 O)),List.take_length,List.drop_length]
 simp[av]
theorem jo:∀x,j3 x->f8 x<=1000000->aa Tryz.prog 92 [dR x] (.one (.leaf (.sl (ju x).length (av (ju x))))):=by
 refine eM fun op na xs nb ys nm args ih hx hs=>?_
 obtain⟨_,_,_,_,_,_,hargs⟩:=hx;rw[f8]at hs;have hge:=mQ args;rw[ju]
 have hz:(if op=2 then [nm]else [])=cond (decide (op=2)) [nm] []:=by
  exact Pn
 rw[hz];clear hz;have hbl:(cond (decide (op=2)) [nm] []).length<=1:=by cases decide (op=2)<;>simp
 generalize hb:decide (op=2)=b at *;obtain⟨al,hal⟩:∃al:Nat->List L8,∀i,al i=cond b [nm] []++fH (args.take i):=⟨_,fun _=>rfl⟩;have hal0:al 0=cond b [nm] []:=by rw[hal];simp[fH]
 have hall:∀i,(al i).length<=1000000:=fun i=>by
  have:=lO args i;rw[hal,L_];omega
 have hsn:∀i (h:i<args.length),al (i+1)=al i++ju args[i]:=fun i h=>by rw[hal,hal,vn h,e_]
 have hend:cond b [nm] []++fH args=al args.length:=by rw[hal,List.take_length]
 rw[hend];have hlenA:=hall args.length;obtain⟨A,hA0⟩:∃A,al args.length=A:=⟨_,rfl⟩;rw[hA0]at hlenA ⊢;obtain⟨ou,hou⟩:∃ou:Nat->List L8,∀i,ou i=(A.take i).foldl ic []:=⟨_,fun _=>rfl⟩;have hou0:ou 0=[]:=by rw[hou];rfl
 have hos:∀i (h:i<A.length),ou (i+1)=ic (ou i) A[i]:=fun i h=>by
  rw[hou,hou,List.take_add_one,List.foldl_append]
  simp[h]
 have hol:∀i,(ou i).length<=1000000:=fun i=>by
  have:=tl (A.take i);have h2:=List.length_take_le i A;rw[hou];unfold iz at this;have h3:(A.take i).length<=A.length:=by rw[U_];omega
  omega
 have hoe:iz A=ou A.length:=by rw[hou,List.take_length];rfl
 rw[hoe];refine BO ?_;refine kU func92 ?_;refine kR ?_;refine kR ?_;refine lL ⟨[(3,mX 5001 (al 0)),(1, .box 0 0),(2, .nil)],[(5001,qt (al 0)),(0,some (ab op na xs nb ys nm args.length (fG args)))]⟩ (fun s' hw2=>?_) (fun R hR _=>?_)
 ·clear hb hal hal0 hend
  refine lL ⟨[(3, .d (.leaf (.sl A.length (av A)))),(2, .nil)],[]⟩ (fun s' hw3=>?_) (fun R hR _=>?_)
  ·refine dh hw3 rfl ?_
   refine kW ?_
   refine aq Nat (fun i=>i<=A.length) (fun i=>⟨[(5,mX 16001 (ou i)),(3, .d (.leaf (.sl A.length (av A)))),(2, .nil),(6, .d (dN .i64 i))],[(16001,qt (ou i))]⟩) (fun i=>A.length-i) 0 (Nat.zero_le _)
    (by dsimp only;rw[hou0];exact weak ⟨rfl,rfl,rfl,rfl,trivial⟩ trivial rfl) ?_
   intro i hi;have hO1:=hol i
   by_cases hlt:i<A.length
   ·have hsi:=hos i hlt
    have hxx:A[i]? =some A[i]:=by simp[hlt]
    generalize A[i]=x at *;generalize ou i=O at *;cases O with
    |nil=>
     refine kI ?_
     refine kO3 ?_
     refine kX ?_;refine aq Nat (fun k=>k=0) (fun k=>⟨[(7, .d (dN .i64 0)),(5, .nil),(3, .d (.leaf (.sl A.length (av A)))),(2, .nil),(6, .d (dN .i64 i))],[]⟩) (fun k=>k) 0 rfl kw ?_;rintro k rfl;refine kW ?_;refine My af rfl rfl rfl rfl rfl rfl rfl rfl ?_;refine H5 ?_;refine Jr ?_;refine vP af rfl rfl rfl rfl rfl rfl rfl rfl ?_;refine qd ?_;refine tw 16004 (m1:=0) (m2:=1) af D_ D_ (N_ rfl) rfl rfl rfl rfl rfl rfl rfl rfl rfl (.nil rfl rfl) rfl rfl rfl rfl rfl ?_;refine qx ?_;rw[hsi]
     exact aM.trans (b:=⟨[(5, .own 16004 1 1 9),(3, .d (.leaf (.sl A.length (av A)))),(2, .nil),(6, .d (dN .i64 (i+1:Nat)))],[(16004,some [.val (vL x)])]⟩) (weak ⟨rfl,rfl,rfl,ai O_ O_,trivial⟩ ⟨rfl,trivial⟩ rfl) ((aD (q:=5) (j:=16004) (j':=16001) rfl rfl rfl rfl).trans kw)
    |cons a r=>
     refine kI ?_
     refine kO3 ?_
     refine kX ?_;refine aq Nat (fun k=>k<=(a::r).length/\ ∀(q:Nat) y,q<k->(a::r)[q]? =some y->Op.bytesLess y x=true) (fun k=>⟨[(7, .d (dN .i64 k)),(5, .own 16001 (a::r).length 1 9),(3, .d (.leaf (.sl A.length (av A)))),(2, .nil),(6, .d (dN .i64 i))],[(16001,some (av (a::r)))]⟩) (fun k=>(a::r).length-k) 0 ⟨Nat.zero_le _,fun q y h=>absurd h (Nat.not_lt_zero _)⟩ kw ?_;rintro k ⟨hk,hq⟩;have hat0:=DC (l:=a::r) (x:=x) hk hq
     by_cases hko:k<(a::r).length
     ·have hy:(a::r)[k]? =some (a::r)[k]:=by simp[hko]
      generalize(a::r)[k]=y at *;refine kI ?_;refine u6 ?_;refine Qv ?_;refine H5 ?_;cases hbx:Op.bytesLess y x
      ·have hat0:=hat0 (fun z hz=>by rw[hy]at hz;cases hz;exact hbx)
       refine ax rfl rfl rfl rfl rfl rfl rfl (Bt (a:=y) (b:=x) hbx) ?_;refine jP ?_;refine kI ?_;refine u6 ?_;refine Qv ?_;refine H5 ?_
       by_cases e:y=x
       ·refine ax rfl rfl rfl rfl rfl rfl rfl (aU (a:=y) (b:=x) e) ?_
        refine qx ?_;rw[hsi,hat0,if_pos (by rw[hy,e])];exact weak ⟨rfl,rfl,rfl,ai O_ O_,trivial⟩ ⟨rfl,trivial⟩ rfl
       ·have hnew:ic (a::r) x=(a::r).take k++x::(a::r).drop k:=by rw[hat0,if_neg (fun h=>e (by rw[hy]at h;cases h;rfl))]
        have hne:(a::r).take k++x::(a::r).drop k≠[]:=S_
        have hcont:=LR (O:=a::r) (x:=x) hko;have hlenE:k+(1+((a::r).length-k))=((a::r).take k++x::(a::r).drop k).length:=by simp at hk ⊢;omega
        have hst:(⟨[(5,mX 16001 (ou (i+1))),(3, .d (.leaf (.sl A.length (av A)))),(2, .nil),(6, .d (dN .i64 (i+1:Nat)))],[(16001,qt (ou (i+1)))]⟩:AS)=⟨[(5, .own 16001 (k+(1+((a::r).length-k))) 1 9),(3, .d (.leaf (.sl A.length (av A)))),(2, .nil),(6, .d (dN .i64 (i+1:Nat)))],[(16001,some ((av (a::r)).take (k*1)++(([AV.val (vL x)].take (1*1)++((av (a::r)).drop (k*1)).take (((a::r).length-k)*1)).take ((1+((a::r).length-k))*1))))]⟩:=by rw[hsi,hnew,J6 _ _ _ _ _ hne,hcont,hlenE]
        refine ax rfl rfl rfl rfl rfl rfl rfl (bC (a:=y) (b:=x) e) ?_;refine QG ?_;refine DB af (i:=k) (Nat.le_of_lt hko) rfl rfl rfl rfl rfl rfl rfl rfl rfl ?_;refine H5 ?_;refine Jr ?_;refine iL af (i:=k) hko rfl rfl rfl rfl rfl rfl rfl rfl rfl ?_;refine Rl 16003 (m1:=1) (m2:=(a::r).length-k) (p:=k) af (Nat.sub_pos_of_lt hko) (V_ (P_ _ (show 1+((a::r).length-k)<=1000001 by omega)) D_) (by rw[c8];omega) rfl rfl rfl rfl rfl rfl rfl rfl rfl (.own rfl rfl) rfl rfl rfl (by rw[qR (fun b hb=>rW (List.mem_of_mem_drop (List.mem_of_mem_take hb)))];rfl) rfl ?_
        refine tw 16004 (m1:=k) (m2:=1+((a::r).length-k)) af O_ (V_ (P_ _ (show k+(1+((a::r).length-k))<=1000001 by omega)) D_) (by simp[c8];omega) rfl rfl rfl rfl rfl rfl rfl rfl rfl (.own rfl rfl) rfl rfl rfl (by rw[qR (fun b hb=>(List.mem_append.1 (List.mem_of_mem_take hb)).elim (fun h=>⟨x,by simpa using h⟩) fun h=>rW (List.mem_of_mem_drop (List.mem_of_mem_take h)))];rfl) rfl ?_;refine qx ?_
        exact Eq.mpr (congrArg (aM _) hst) (aM.trans (b:=⟨[(5, .own 16004 (k+(1+((a::r).length-k))) 1 9),(3, .d (.leaf (.sl A.length (av A)))),(2, .nil),(6, .d (dN .i64 (i+1:Nat)))],[(16004,some ((av (a::r)).take (k*1)++(([AV.val (vL x)].take (1*1)++((av (a::r)).drop (k*1)).take (((a::r).length-k)*1)).take ((1+((a::r).length-k))*1))))]⟩) (weak ⟨rfl,rfl,rfl,ai O_ O_,trivial⟩ ⟨rfl,trivial⟩ rfl) ((aD (q:=5) (j:=16004) (j':=16001) rfl rfl rfl rfl).trans kw))
      ·refine ax rfl rfl rfl rfl rfl rfl rfl (Bt (a:=y) (b:=x) hbx) ?_
       refine kW ?_
       exact⟨k+1,⟨hko,fun q z h1 h2=>by
        by_cases e:q=k
        ·subst e;rw[hy]at h2;cases h2;exact hbx
        ·exact hq q z O_ h2⟩,by omega,weak ⟨ai O_ O_,rfl,rfl,rfl,rfl,trivial⟩ ⟨rfl,trivial⟩ rfl⟩
     ·obtain rfl:k=(a::r).length:=O_
      have hno:(a::r)[(a::r).length]? =none:=List.getElem?_eq_none (l_ _);have hat0:=hat0 (fun z hz=>by rw[hno]at hz;cases hz);have hnew:ic (a::r) x=(a::r).take (a::r).length++x::(a::r).drop (a::r).length:=by rw[hat0,if_neg (fun h=>by rw[hno]at h;cases h)]
      have hne:(a::r).take (a::r).length++x::(a::r).drop (a::r).length≠[]:=S_
      have hcont:=NN (O:=a::r) (x:=x);have hlenE:(a::r).length+1=((a::r).take (a::r).length++x::(a::r).drop (a::r).length).length:=S_
      have hst:(⟨[(5,mX 16001 (ou (i+1))),(3, .d (.leaf (.sl A.length (av A)))),(2, .nil),(6, .d (dN .i64 (i+1:Nat)))],[(16001,qt (ou (i+1)))]⟩:AS)=⟨[(5, .own 16001 ((a::r).length+1) 1 9),(3, .d (.leaf (.sl A.length (av A)))),(2, .nil),(6, .d (dN .i64 (i+1:Nat)))],[(16001,some ((av (a::r)).take ((a::r).length*1)++([AV.val (vL x)].take (1*1))))]⟩:=by rw[hsi,hnew,J6 _ _ _ _ _ hne,hcont,hlenE]
      refine kI ?_
      refine kO3 ?_
      refine kE ?_;refine jP ?_;refine kI ?_
      refine kO3 ?_
      refine kE ?_;refine QG ?_;refine DB af (i:=(a::r).length) (l_ _) rfl rfl rfl rfl rfl rfl rfl rfl rfl ?_;refine H5 ?_;refine Jr ?_;refine yB af rfl rfl rfl rfl rfl rfl rfl rfl rfl ?_;refine qd ?_;refine tw 16004 (m1:=(a::r).length) (m2:=1) af D_ (V_ (P_ _ (show(a::r).length+1<=1000001 by omega)) D_) (N_ rfl) rfl rfl rfl rfl rfl rfl rfl rfl rfl (.own rfl rfl) rfl rfl rfl rfl rfl ?_;refine qx ?_
      exact Eq.mpr (congrArg (aM _) hst) (aM.trans (b:=⟨[(5, .own 16004 ((a::r).length+1) 1 9),(3, .d (.leaf (.sl A.length (av A)))),(2, .nil),(6, .d (dN .i64 (i+1:Nat)))],[(16004,some ((av (a::r)).take ((a::r).length*1)++([AV.val (vL x)].take (1*1))))]⟩) (weak ⟨rfl,rfl,rfl,ai O_ O_,trivial⟩ ⟨rfl,trivial⟩ rfl) ((aD (q:=5) (j:=16004) (j':=16001) rfl rfl rfl rfl).trans kw))
   ·have hO:ou A.length=ou i:=by rw[show i=A.length by omega]
    generalize ou i=O at *;refine kI ?_
    refine kO3 ?_
    refine kE ?_;refine jP ?_;cases O with
    |nil=>
     refine eH ?_;rw[hO];rfl
    |cons a r=>
     refine bu (T:=TT) ?_;refine dh (bf (q:=5) rfl rfl) rfl ?_;refine eH ?_;rw[hO];rfl
  ·refine bu (T:=TT) ?_
   refine dh hw2 rfl ?_;refine kW ?_
   refine aq Nat (fun i=>i<=args.length) (fun i=>⟨[(3,mX 5001 (al i)),(1, .box 0 0),(2, .nil),(4, .d (dN .i64 i))],[(5001,qt (al i)),(0,some (ab op na xs nb ys nm args.length (fG args)))]⟩) (fun i=>args.length-i) 0 (Nat.zero_le _)
    (by dsimp only;generalize al 0=B;cases B<;>first|exact weak ⟨rfl,rfl,rfl,rfl,trivial⟩ ⟨rfl,trivial⟩ rfl|exact weak ⟨rfl,rfl,rfl,rfl,trivial⟩ ⟨rfl,rfl,trivial⟩ rfl) ?_
   intro i hi
   by_cases hlt:i<args.length
   ·obtain⟨o1,na1,xs1,nb1,ys1,nm1,n1,cs1,hA⟩:=aY args[i]
    have hx:args[i]? =some args[i]:=by simp[hlt]
    have hat:∀(j:Nat) (a:AV),(ab o1 na1 xs1 nb1 ys1 nm1 n1 cs1)[j]? =some a->(fG args)[i*7+j]? =some a:=fun j a h=>eX args i args[i] hx j a (by rw[hA];exact h)
    have c:=ih args[i] (List.getElem_mem hlt) (hargs _ (List.getElem_mem hlt)) (by have:=lp (List.getElem_mem hlt);omega);rw[show dR args[i]= .agg (ab o1 na1 xs1 nb1 ys1 nm1 n1 cs1) from congrArg DV.agg hA]at c;have hsi:=hsn i hlt;have hl2:=hall (i+1);rw[hsi]at hl2;generalize ju args[i]=Y at *;generalize al i=B at *;cases B with
    |nil=>
     cases Y with
     |nil=>
      refine qv ?_;refine np ?_;refine xg af rfl rfl rfl rfl rfl rfl rfl rfl ?_;refine qx ?_;rw[hsi];exact weak ⟨rfl,rfl,rfl,ai O_ O_,trivial⟩ ⟨rfl,trivial⟩ rfl
     |cons y r=>
      refine qv ?_;refine np ?_;refine ek 5002 (m1:=0) (m2:=(y::r).length) af (Nat.succ_pos _) (V_ (P_ _ (show 0+(y::r).length<=1000000 by simp at hl2 ⊢;omega)) D_) (by simp[av]) rfl rfl rfl rfl rfl rfl rfl rfl rfl rfl (.nil rfl rfl) rfl rfl (by rw[iK];rfl) ?_;refine qx ?_;rw[hsi]
      refine Eq.mpr (congrArg (aM _) (pQ [(1, .box 0 0),(2, .nil),(4, .d (dN .i64 (i+1:Nat)))] [(0,some (ab op na xs nb ys nm args.length (fG args)))] 3 5001 ([]:List L8) y r)) (aM.trans (b:=⟨[(3, .own 5002 (0+(y::r).length) 1 9),(1, .box 0 0),(2, .nil),(4, .d (dN .i64 (i+1:Nat)))],[(5002,some ((av ([]:List L8)).take (0*1)++av (y::r))),(0,some (ab op na xs nb ys nm args.length (fG args)))]⟩) (weak ⟨rfl,rfl,rfl,ai O_ O_,trivial⟩ ⟨rfl,rfl,trivial⟩ rfl) ((aD (q:=3) (j:=5002) (j':=5001) rfl rfl rfl rfl).trans kw))
    |cons a B=>
     cases Y with
     |nil=>
      refine qv ?_;refine np ?_;refine qd ?_;refine qx ?_;rw[hsi,c_];exact weak ⟨rfl,rfl,rfl,ai O_ O_,trivial⟩ ⟨rfl,rfl,trivial⟩ rfl
     |cons y r=>
      refine qv ?_;refine np ?_;refine ek 5002 (m1:=(a::B).length) (m2:=(y::r).length) af (Nat.succ_pos _) (V_ (P_ _ (show(a::B).length+(y::r).length<=1000000 by simp at hl2 ⊢;omega)) D_) (by simp[av]) rfl rfl rfl rfl rfl rfl rfl rfl rfl rfl (.own rfl rfl) rfl rfl (by rw[iK];rfl) ?_;refine qx ?_;rw[hsi]
      refine Eq.mpr (congrArg (aM _) (pQ [(1, .box 0 0),(2, .nil),(4, .d (dN .i64 (i+1:Nat)))] [(0,some (ab op na xs nb ys nm args.length (fG args)))] 3 5001 (a::B) y r)) (aM.trans (b:=⟨[(3, .own 5002 ((a::B).length+(y::r).length) 1 9),(1, .box 0 0),(2, .nil),(4, .d (dN .i64 (i+1:Nat)))],[(5002,some ((av (a::B)).take ((a::B).length*1)++av (y::r))),(0,some (ab op na xs nb ys nm args.length (fG args)))]⟩) (weak ⟨rfl,rfl,rfl,ai O_ O_,trivial⟩ ⟨rfl,rfl,trivial⟩ rfl) ((aD (q:=3) (j:=5002) (j':=5001) rfl rfl rfl rfl).trans kw))
   ·have hO:A=al i:=by rw[show i=args.length by omega,hA0]
    rw[hO]at hR;generalize al i=B at *;cases B with
    |nil=>
     refine vf ?_;refine jP ?_;exact hR _ (aM.trans (b:=⟨[(3, .nil),(2, .nil)],[]⟩) kw ((n7 (q:=3) rfl).trans kw))
    |cons a r=>
     refine vf ?_;refine jP ?_;exact hR _ (aM.trans (b:=⟨[(3, .own 5001 (a::r).length 1 9),(2, .nil)],[(5001,some (av (a::r)))]⟩) kw ((bf (q:=3) rfl rfl).trans kw))
 ·exact QD
def VG:AV->Bool
 | .val _=>true
 |_=>false
def VF:DV->Bool
 | .leaf a=>VG a
 | .agg cs=>cs.all VG
def Wq:RV->Bool
 | .one d=>VF d
 | .tup l=>l.all VF
theorem NW {S S':Nat->Prop} {w w':World} {a:AV} {v:Value} (h:VG a=true) (hm:AV.M S w a v):AV.M S' w' a v:=by
 cases hm with
 |val h0=>exact .val h0
 |_=>cases h
theorem P9 {S S':Nat->Prop} {w w':World} {d:DV} {v:Value} (h:VF d=true) (hm:DV.M S w d v):DV.M S' w' d v:=by
 cases d with
 |leaf a=>exact NW h hm
 |agg cs=>
  obtain⟨vs,e,hl,hc⟩:=hm;exact⟨vs,e,hl,fun i a v h1 h2=>NW (I_.1 h a (M_ h1)) (hc i a v h1 h2)⟩
theorem Uq {S S':Nat->Prop} {g:Nat->Nat} {s:AS} {w w':World} {r:RV} {v:Value} (h:Wq r=true) (hm:RV.M S w r v):TV.M S' g s w' r.tv v:=by
 cases r with
 |one d=>exact P9 (S:=S) (w:=w) h hm
 |tup l=>
  obtain⟨vs,e,hl,hc⟩:=hm;exact⟨vs,e,hl,fun i a v h1 h2=>P9 (I_.1 h a (M_ h1)) (hc i a v h1 h2)⟩
def Uk (b:BL):TV->Option DV
 | .d x=>some x
 | .own j n _ _=>match ap b j with
  |some cs=>some (.leaf (.sl n cs))
  |none=>none
 | .vw j o n k=>match ap b j with
  |some cs=>some (.leaf (.sl n (cs.drop (o*k))))
  |none=>none
 | .vs j o n _ k _=>match ap b j with
  |some cs=>some (.leaf (.sl n (cs.drop (o*k))))
  |none=>none
 | .nil=>some (.leaf (.sl 0 []))
 |_=>none
def Ky (b:BL):List TV->Option (List DV)
 | []=>some []
 |t::r=>match Uk b t,Ky b r with
  |some d,some l=>some (d::l)
  |_,_=>none
theorem kr:∀{b:BL} {j:Nat} {cs:List AV},ap b j=some cs->ap (ay b) j=some (some cs)
 | [],_,_,h=>by cases h
 |(i,c)::r,j,cs,h=>by
  by_cases e:i=j
  ·subst e;rw[am]at h;cases h;exact am _ _ _
  ·rw[au _ _ e]at h;simp only[ay,au _ _ e];exact kr h
theorem BR {S:Nat->Prop} {g:Nat->Nat} {w:World} {b:BL} (hP:Gi S g w b) {j n o c:Nat} {cs:List AV} (hj:ap b j=some cs) (h1:n<=c) (h2:c<=9223372036854775807):AV.M S w (.sl n (cs.drop o)) (.slice (some ⟨g j,o,none⟩) n c):=by
 have hb:(sB b).bx j=some cs:=bU.2 (kr hj);obtain⟨arr,e,h7,h8,_⟩:=hP.bm j cs hb;have hn:¬S (g j):=fun h=>(hP.blk _ h).2.1 ⟨j,cs,hb,rfl⟩
 have hl:=h8.1
 simp only[Array.length_toList]at hl
 have hlt:∀i (x:AV),(cs.drop o)[i]? =some x->cs[o+i]? =some x/\o+i<arr.size:=fun i x hi=>by
  rw[List.getElem?_drop]at hi;exact⟨hi,k_ (G_.1 hi).1 hl⟩
 refine AV.M.sl (fun i=>arr.getD (o+i) undef) h1 h2 hn (A_.1 h7).1 (fun i x hi=>?_) (fun i x hi=>?_)
 ·have:=(hlt i x hi).2
  simp[World.cell?,h7,this]
 ·have:=(hlt i x hi).2
  exact(h8.2 (o+i) x _ (hlt i x hi).1 (by simp[this])).agree (bY.refl _ _) (fun _ _ h=> .inl h)
theorem Q6 {S:Nat->Prop} {g:Nat->Nat} {w:World} {b:BL} (hP:Gi S g w b) {t:TV} {d:DV} {v:Value} (hd:Uk b t=some d) (hm:TV.M (Own S g (sB b)) g (sB b) w t v):DV.M S w d v:=by
 cases t with
 |d x=>
  cases hd;exact DV.M.agree hm (bY.refl _ _) (fun _ _ h=> .inl h)
 |own j n k e=>
  simp only[Uk]at hd
  split at hd
  ·rename_i cs hj
   cases hd;obtain⟨c,e1,e2,e3,_⟩:=hm.2 cs (bU.2 (kr hj));rw[e1];exact BR hP (o:=0) hj e2 e3
  ·cases hd
 |vw j o n k=>
  simp only[Uk]at hd
  split at hd
  ·rename_i cs hj
   cases hd;obtain⟨c,e1,e2,e3,_⟩:=hm.2 cs (bU.2 (kr hj));rw[e1];exact BR hP hj e2 e3
  ·cases hd
 |vs j o n c0 k e=>
  simp only[Uk]at hd
  split at hd
  ·rename_i cs hj
   cases hd;obtain⟨e1,e2,e3,_⟩:=hm.2 cs (bU.2 (kr hj));rw[e1];exact BR hP hj e2 e3
  ·cases hd
 |nil=>
  cases hd;have:v= .slice none 0 0:=hm;rw[this];exact AV.M.emp (l_ _) O_ (fun _=>rfl)
 |_=>cases hd
theorem xI {S:Nat->Prop} {g:Nat->Nat} {w:World} {b:BL} (hP:Gi S g w b):∀{ts:List TV} {ds:List DV} {vs:List Value},Ky b ts=some ds->oq (Own S g (sB b)) g (sB b) w ts vs->VM S w ds vs
 | [],ds,[],hd,_=>by cases hd;trivial
 |t::ts,ds,v::vs,hd,hm=>by
  simp only[Ky]at hd
  split at hd
  ·rename_i d l h1 h2
   cases hd;exact⟨Q6 hP h1 hm.1,xI hP h2 hm.2⟩
  ·cases hd
 | [],_,_::_,_,h=>h.elim
 |_::_,_,[],_,h=>h.elim
theorem aa.rd {P:Program} {f:FuncId} {ds:List DV} {r:RV} (h:aa P f ds r) {ts:List TV} {b:BL} (hts:Ky b ts=some ds) (hr:Wq r=true):az P f ts b (.v r) b:=by
 refine⟨h.enter,fun S g w vs hP hv=>?_⟩;refine(h.calls S w vs ⟨fun w' hb=>hP.tab w' ⟨hb.os,hb.tape,hb.output,hb.size,fun k hk _=>hb.block k hk,fun k hk _ arr e fz he=>⟨arr,fz,(hb.block k hk).trans he,rfl⟩⟩,fun q hq=>⟨(hP.blk q hq).1,(hP.blk q hq).2.2⟩,fun k cs hk=>?_⟩ (xI hP hts hv)).mono ?_
 ·exact OL
 ·rintro e w' ⟨v,rfl,hm,hb⟩
  refine⟨v,g,rfl,fun j cs cs' h1 h2=>?_,fun j cs' h1=>⟨.inr ⟨j,cs',h1,rfl⟩,?_⟩,hP.inj,Uq hr hm,⟨hb.os,hb.tape,hb.output,hb.size,fun k hk _=>hb.block k hk,fun k hk _ arr e fz he=>⟨arr,fz,(hb.block k hk).trans he,rfl⟩⟩⟩
  ·rw[h1]at h2;cases h2;exact⟨rfl,l_ _⟩
  ·exact OK
def SN (p:Pm):List AV:= .val (vL p.1)::aR p.2
def ot:Tb->List AV
 | []=>[]
 |p::r=>SN p++ot r
def L4 (p:Pm):DV:= .agg (SN p)
def da (l:Tb):DV:= .leaf (.sl l.length (ot l))
def bV (n:L8) (o:Int) (na:Bool) (xs:List Nat) (nb:Bool) (ys:List Nat) (nm:List UInt8) (k:Nat) (cs:List AV):List AV:= .val (vL n)::ab o na xs nb ys nm k cs
theorem bD (p:Pm):∃o na xs nb ys nm k cs,aR p.2=ab o na xs nb ys nm k cs/\SN p=bV p.1 o na xs nb ys nm k cs:=by
 obtain⟨o1,na1,xs1,nb1,ys1,nm1,n1,cs1,hA⟩:=aY p.2;exact⟨o1,na1,xs1,nb1,ys1,nm1,n1,cs1,hA,congrArg (AV.val (vL p.1):: ·) hA⟩
theorem Dr (p:Pm):(SN p).length=8:=by
 show(aR p.2).length+1=8;rw[AP]
theorem de:∀(l:Tb) (i:Nat) (p:Pm),l[i]? =some p-> ∀(j:Nat) (a:AV),(SN p)[j]? =some a->(ot l)[i*8+j]? =some a
 | [],i,p,h,_,_,_=>by simp at h
 |q::l,0,p,h,j,a,ha=>by
  simp at h
  subst h
  simp only[ot,Nat.zero_mul,J_]
  exact D3
 |q::l,i+1,p,h,j,a,ha=>by
  simp only[ot]
  rw[g_ (by rw[Dr];omega),Dr,show(i+1)*8+j-8=i*8+j by omega];exact de l i p (by simpa using h) j a ha
theorem aT {α:Type} {o:List α} {k:Nat} {n:α} (hk:o[k]? =some n):o.take (k+1)=o.take k++[n]:=by
 obtain⟨h,e⟩:=G_.1 hk;rw[List.take_succ_eq_append_getElem h,e]
structure AG (x:Rx):Prop where
 wd:j3 x
 lt:oB x=true
 sz:f8 x<=120
theorem AG.lm {x:Rx} (h:AG x):Ds x:=Ds.of_lt x h.lt
def ul (l:Tb):Prop:=∀p∈l,p.1.length<=60/\AG p.2
def lS (l:List L8):DV:= .leaf (.sl l.length (av l))
theorem qU (l:Tb) (n:L8) (hl:l.length<=1000000):aa Tryz.prog 53 [da l,dL n] (.one (dN .i64 (uh l n))):=by
 have hf:=Io l n;refine kV func53 ?_
 refine aq Nat (fun i=>i<=il l n) (fun i=>⟨[(0, .d (da l)),(1, .d (dL n)),(5, .d (dN .i64 i))],[]⟩) (fun i=>l.length-i) 0 (Nat.zero_le _)
  kw ?_
 intro i hi;refine kI ?_
 refine kO3 ?_
 by_cases hlt:i<l.length
 ·refine kT ?_
  have hx:l[i]? =some l[i]:=by simp[hlt]
  obtain⟨o1,na1,xs1,nb1,ys1,nm1,n1,cs1,hA,hB⟩:=bD l[i];have hat:∀(j:Nat) (a:AV),(bV l[i].1 o1 na1 xs1 nb1 ys1 nm1 n1 cs1)[j]? =some a->(ot l)[i*8+j]? =some a:=fun j a h=>de l i l[i] hx j a (by rw[hB];exact h)
  refine kW ?_;refine aH (i:=i) (cs':=bV l[i].1 o1 na1 xs1 nb1 ys1 nm1 n1 cs1) hlt hat (Z_ 7) rfl rfl rfl rfl rfl rfl rfl rfl ?_
  refine kO3 ?_
  by_cases e:l[i].1=n
  ·refine ax rfl rfl rfl rfl rfl rfl rfl (aU (a:=l[i].1) (b:=n) e) ?_
   refine eH ?_;have h1:il l n=i:=Nat.le_antisymm (Nat.le_of_not_lt fun h=>g7 h hx e) hi;exact congrArg (fun z=>RV.one (dN .i64 z)) (show(i:Int)=uh l n by unfold uh;rw[h1,if_pos hlt])
  ·refine ax rfl rfl rfl rfl rfl rfl rfl (bC (a:=l[i].1) (b:=n) e) ?_
   refine kW ?_;refine⟨i+1,?_,by omega,weak ⟨rfl,rfl,ai O_ O_,trivial⟩ trivial rfl⟩;rcases Nat.lt_or_ge i (il l n)with h|h
   ·exact h
   ·obtain⟨p,h1,h2⟩:=wG (l:=l) (n:=n) O_
    rw[show il l n=i by omega,hx]at h1;cases h1;exact absurd h2 e
 ·refine kE ?_
  refine eH ?_;exact congrArg (fun z=>RV.one (dN .i64 z)) (show(-1:Int)=uh l n by unfold uh;rw[if_neg O_])
theorem Bu (l:List L8) (n:L8) (hl:l.length<=1000000):aa Tryz.prog 93 [lS l,dL n] (.one (dB (decide (n∈l)))):=by
 refine kV func93 ?_;refine aq Nat (fun i=>i<=l.length/\n ∉ l.take i) (fun i=>⟨[(0, .d (lS l)),(1, .d (dL n)),(5, .d (dN .i64 i))],[]⟩) (fun i=>l.length-i) 0 ⟨Nat.zero_le _,by simp⟩ kw ?_;rintro i ⟨hi,hn⟩;refine kI ?_
 refine kO3 ?_
 by_cases hlt:i<l.length
 ·refine kT ?_
  obtain⟨x,hx⟩:∃x,l[i]? =some x:=⟨l[i],by simp[hlt]⟩;refine Pw ?_
  refine kO2 ?_
  by_cases e:x=n
  ·refine ax rfl rfl rfl rfl rfl rfl rfl (aU (a:=x) (b:=n) e) ?_
   refine eH ?_;exact congrArg (fun b=>RV.one (dB b)) (T_ (show n∈l by rw[<- e];exact M_ hx)).symm
  ·refine ax rfl rfl rfl rfl rfl rfl rfl (bC (a:=x) (b:=n) e) ?_
   refine kW ?_;refine⟨i+1,⟨hlt,?_⟩,by omega,weak ⟨rfl,rfl,ai O_ O_,trivial⟩ trivial rfl⟩;rw[aT hx,List.mem_append,not_or];exact⟨hn,fun h=>e (d_.1 h).symm⟩
 ·refine kE ?_
  refine eH ?_;rw[K_ O_]at hn;exact congrArg (fun b=>RV.one (dB b)) (F_ hn).symm
theorem G7 (l m:List L8) (hl:l.length<=1000000) (hm:m.length<=1000000):aa Tryz.prog 94 [lS l,lS m] (.one (dB (m.all fun n=>decide (n∈l)))):=by
 refine kV func94 ?_;refine aq Nat (fun i=>i<=m.length/\ ∀n∈m.take i,n∈l) (fun i=>⟨[(0, .d (lS l)),(1, .d (lS m)),(5, .d (dN .i64 i))],[]⟩) (fun i=>m.length-i) 0 ⟨Nat.zero_le _,by simp⟩ kw ?_;rintro i ⟨hi,hn⟩;refine kI ?_
 refine kO3 ?_
 by_cases hlt:i<m.length
 ·refine kT ?_
  obtain⟨x,hx⟩:∃x,m[i]? =some x:=⟨m[i],by simp[hlt]⟩;refine Pw ?_;refine kO ?_;have c:=Bu l x hl
  by_cases e:x∈l
  ·rw[T_ e]at c
   refine kQ (c) ?_;refine⟨i+1,⟨hlt,?_⟩,by omega,weak ⟨rfl,rfl,ai O_ O_,trivial⟩ trivial rfl⟩;rw[aT hx];intro n hn';rcases List.mem_append.1 hn' with h|h
   ·exact hn n h
   ·rw[d_.1 h];exact e
  ·rw[F_ e]at c
   refine kC (c) ?_;refine eH ?_;refine congrArg (fun b=>RV.one (dB b)) (Bool.eq_false_iff.2 fun h=>e ?_).symm;have:=I_.1 h x (M_ hx)
   simpa using this
 ·refine kE ?_
  refine eH ?_;rw[K_ O_]at hn;exact congrArg (fun b=>RV.one (dB b)) (I_.2 fun x hx=>T_ (hn x hx)).symm
theorem IS {l:Tb} {i:Nat} {p:Pm} (h:l[i]? =some p):DQ l i (l.drop i)=if pO p.1=true then(if iH p.2=0 then(if il l p.1<i then 5 else DQ l (i+1) (l.drop (i+1)))else iH p.2)else 1:=by
 obtain⟨hi,e⟩:=G_.1 h;rw[List.drop_eq_getElem_cons hi,e,DQ]
theorem ni (l:Tb) (hs:ul l) (hl:l.length<=1000000):aa Tryz.prog 20 [da l] (.one (dN .i64 (ur l))):=by
 by_cases h200:200<l.length
 ·refine kU func20 ?_
  refine Af ?_;refine eH ?_;exact Qo
 have hv:ur l=DQ l 0 (l.drop 0):=by unfold ur;rw[if_neg h200];rfl
 rw[hv];clear hv;refine kU func20 ?_;refine qz ?_;refine kW ?_;refine aq Nat (fun i=>i<=l.length/\DQ l 0 (l.drop 0)=DQ l i (l.drop i)) (fun i=>⟨[(0, .d (da l)),(3, .d (dN .i64 i))],[]⟩) (fun i=>l.length-i) 0 ⟨Nat.zero_le _,rfl⟩ kw ?_;rintro i ⟨hi,hv⟩;refine kI ?_
 refine kO3 ?_
 by_cases hlt:i<l.length
 ·refine kT ?_
  obtain⟨p,hx⟩:∃p,l[i]? =some p:=⟨l[i],by simp[hlt]⟩;rw[IS hx]at hv;have hp:=M_ hx;obtain⟨hn,hsx⟩:=hs p hp;obtain⟨o1,na1,xs1,nb1,ys1,nm1,n1,cs1,hA,hB⟩:=bD p;have hat:∀(j:Nat) (a:AV),(bV p.1 o1 na1 xs1 nb1 ys1 nm1 n1 cs1)[j]? =some a->(ot l)[i*8+j]? =some a:=fun j a h=>de l i p hx j a (by rw[hB];exact h)
  have c1:=lQ p.1 O_;have c2:=jw p.2 hsx.wd hsx.lm (by have:=hsx.sz;omega);rw[show dR p.2= .agg (ab o1 na1 xs1 nb1 ys1 nm1 n1 cs1) from congrArg DV.agg hA]at c2;have c3:=qU l p.1 hl;have hf:=l9.2 ⟨p,hp,rfl⟩;rw[show uh l p.1=(il l p.1:Nat) by unfold uh;rw[if_pos hf]]at c3;refine Aw ?_;cases hb:pO p.1
  ·rw[hb]at c1 hv
   refine kC (c1) ?_;refine eH ?_;exact tN
  ·rw[hb,if_pos rfl]at hv
   rw[hb]at c1;refine kC (c1) ?_;refine Aw ?_;refine kC (c2) ?_;refine lC ?_
   by_cases h0:iH p.2=0
   ·rw[if_pos h0]at hv
    refine kB false ?_ ?_
    ·exact bne_eq_false_iff_eq.2 h0
    refine Aw ?_;refine kC (c3) ?_;refine kO ?_
    by_cases h5:il l p.1<i
    ·rw[if_pos h5]at hv
     refine kT ?_;refine eH ?_;exact tN
    ·rw[if_neg h5]at hv
     refine kY ?_;exact⟨i+1,⟨hlt,hv⟩,by omega,weak ⟨rfl,ai O_ O_,trivial⟩ trivial rfl⟩
   ·rw[if_neg h0]at hv
    refine vD ?_;refine eH ?_;exact tN
 ·exact Oq
end Go.Proofs.YtnchbpoopnjghaaGreatDoor
