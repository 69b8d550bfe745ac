/- Parts of a proof: contracts of the functions that the laws reach. -/
import Derived.Test.YtmkggcjajcdlcaaGreatDoorVZ2
set_option maxHeartbeats 100000000
set_option linter.all false
namespace Go.Proofs.YtmkggcjajcdlcaaGreatDoor
open Go.RowKit
section
variable {P:Program} {T:TypeId->Option Ty} {n:Nat} {ops:Array Oper} {id:Nat} {draw:Bool} {K:AS->Prop} {s:AS} {k:Nat} {o:Oper} {os:List Oper} {fps:List FP}
theorem Dy (hT:∀t d,T t=some d->aU P t d) {t:TypeId} {ty:Ty} {x y:Operand} {et q m i:Nat} {ik:IntKind} {cs:List AV} (hcs:cs.length<=m*q) (hi:i<=m) (h1:gd ops s o=some true) (h2:o.op= .slice t x (some y) none none) (h5:T t=some ty) (h6:ty.elem=some (et,q)) (h7:s.ev x= .d (.leaf (.sl m cs))) (h8:s.ev y= .d (.leaf (.val (.int ik (i:Nat)))))
 (h3:aF n o.dst=true) (h4:eT draw ops (ar ops o ⟨.d (.leaf (.sl (m-i) (cs.drop (i*q)))),none⟩ []) k fps=true) (h:am P T n ops id draw K (k+1) os (s.eff o.dst ⟨.d (.leaf (.sl (m-i) (cs.drop (i*q)))),none⟩) (ar ops o ⟨.d (.leaf (.sl (m-i) (cs.drop (i*q)))),none⟩ []::fps)):am P T n ops id draw K k (o::os) s fps:=by
 refine .run h1 (.gen fun s2 ht _=>?_) h3 h4 h;have hx:=(an ht (x:=x) (by simp[h2,Op.operands])).trans h7;have hy:=(an ht (x:=y) (by simp[h2,Op.operands])).trans h8;obtain⟨u,hu,_,hel,_⟩:=(hT _ _ h5).und;obtain⟨rfl,hks⟩:=hel et q h6;refine af fun n S0 w0 g a w hM=>?_
 have hm:=hM.ev x;rw[hx]at hm;have hm:AV.M (Own S0 g s2) w (.sl m cs) (a.eval x):=hm;have hiv:=aY hM hy
 have key:∃v,(Instr.sliceAt t (a.eval x) (some (.int ik (i:Nat))) none none).run P w= .ok v w/\AV.M (Own S0 g s2) w (.sl (m-i) (cs.drop (i*q))) v:=by
  generalize a.eval x=v at hm;have hib:(0:Int)<=(i:Int)/\(i:Int)<=(m:Nat):=⟨by omega,by omega⟩
  have run:∀(A:Option Addr) (c:Nat),(Instr.sliceAt t (.slice A m c) (some (.int ik (i:Nat))) none none).run P w= .ok (.slice (if c=i then A else A.map (·.add (i*q))) (m-i) (c-i)) w:=fun A c=>by
   refine tB ?_;unfold Instr.slice
   simp only[Sem.run_bind,run_underlying hu w,Result.andThen_ok,Instr.sliceBounds,Instr.sliceBound,Sem.run_pure,asIntOf]
   rw[if_pos hib]
   simp only[Sem.run_pure,Result.andThen_ok,Int.toNat_natCast]
   rw[bB hks w];rfl
  cases hm with
  |emp e1 e2 e3=>
   rename_i A c
   refine⟨_,run A c,?_⟩;rw[List.drop_nil];refine .emp (by omega) (by omega) (fun hA=>?_)
   split at hA
   ·rename_i hci;omega
   ·have:A=none:=by cases A<;>simp_all
    have:=e3 this;omega
  |sl f e1 e2 e3 e4 e5 e6=>
   rename_i b off c
   refine⟨_,run _ c,?_⟩
   by_cases hci:c=i
   ·rw[if_pos hci]
    have hd:cs.drop (i*q)=[]:=List.drop_eq_nil_of_le (by rw[show i=m by omega];exact hcs);rw[hd];exact .emp (by omega) (by omega) (fun h=>by cases h)
   ·rw[if_neg hci]
    show AV.M _ _ _ (.slice (some ((⟨b,off,none⟩:Addr).add (i*q))) (m-i) (c-i));rw[b8];refine .sl (fun j=>f (i*q+j)) (by omega) (by omega) e3 e4 (fun j x hj=>?_) (fun j x hj=>?_)
    ·rw[List.getElem?_drop]at hj
     rw[Nat.add_assoc];exact e5 _ _ hj
    ·rw[List.getElem?_drop]at hj
     exact e6 _ _ hj
 obtain⟨v,hr,hv⟩:=key;refine⟨v,w,?_,Below.refl _ _,hv⟩;unfold execOp;rw[h2]
 simp only[hiv,Option.map_some,Option.map_none,Sem.run_bind,hr,Result.andThen_ok]
 rfl
end
section
variable {P:Program} {T:TypeId->Option Ty}
theorem CallsD.mono {f:FuncId} {args:Array Value} {u:FrameMode} {w:World} {R R':Ending->FrameMode->World->Prop} (h:CallsD P f args u w R) (hR:∀e u' w',R e u' w'->R' e u' w'):CallsD P f args u w R':=fun c cs hu=>by
 obtain⟨e,u',w',fr,h1,h2⟩:=h c cs hu;exact⟨e,u',w',fr,hR _ _ _ h1,h2⟩
end
section
variable {P:Program} {T:TypeId->Option Ty} {n:Nat} {ops:Array Oper} {id:Nat} {draw:Bool} {K:AS->Prop} {s:AS} {k:Nat} {o:Oper} {os:List Oper} {fps:List FP}
theorem j9 {P:Program} {w:World} {t et q:Nat} (hu:P.underlying t=some (.slice et)) (hks:(P.info? et).map (·.size)=some q) (A:Option Addr) {m i c:Nat} (ik:IntKind) (hi:i<=m):
 (Instr.sliceAt t (.slice A m c) (some (.int ik (i:Nat))) none none).run P w= .ok (.slice (if c=i then A else A.map (·.add (i*q))) (m-i) (c-i)) w:=by
 have hib:(0:Int)<=(i:Int)/\(i:Int)<=(m:Nat):=⟨by omega,by omega⟩;unfold Instr.sliceAt
 simp only[Sem.run_bind,run_underlying hu w,Result.andThen_ok]
 unfold Instr.slice
 simp only[Sem.run_bind,run_underlying hu w,Result.andThen_ok,Instr.sliceBounds,Instr.sliceBound,Sem.run_pure,asIntOf]
 rw[if_pos hib]
 simp only[Sem.run_pure,Result.andThen_ok,Int.toNat_natCast]
 rw[bB hks w];rfl
theorem qo {P:Program} {w:World} {t et q:Nat} (hu:P.underlying t=some (.slice et)) (hks:(P.info? et).map (·.size)=some q) (A:Option Addr) {m i c:Nat} (ik:IntKind) (hi:i<=c):
 (Instr.sliceAt t (.slice A m c) none (some (.int ik (i:Nat))) none).run P w= .ok (.slice (if c=0 then A else A.map (·.add (0*q))) i c) w:=by
 have hib:(0:Int)<=(i:Int)/\(i:Int)<=(c:Nat):=⟨by omega,by omega⟩;unfold Instr.sliceAt
 simp only[Sem.run_bind,run_underlying hu w,Result.andThen_ok]
 unfold Instr.slice
 simp only[Sem.run_bind,run_underlying hu w,Result.andThen_ok,Instr.sliceBounds,Instr.sliceBound,Sem.run_pure,asIntOf]
 simp only[Bool.false_eq_true,if_false,if_true]
 rw[if_pos hib]
 simp only[Sem.run_pure,Result.andThen_ok,Int.toNat_natCast]
 rw[bB hks w];rfl
theorem Co (hT:∀t d,T t=some d->aU P t d) {t:TypeId} {ty:Ty} {x z:Operand} {j et q m i:Nat} {ik:IntKind} {cs:List AV} (hi:i<=m) (h1:gd ops s o=some true) (h2:o.op= .slice t x none (some z) none) (h5:T t=some ty) (h6:ty.elem=some (et,q)) (h7:s.ev x= .own j m q et) (hb:s.bx j=some cs) (h8:s.ev z= .d (.leaf (.val (.int ik (i:Nat)))))
 (h3:aF n o.dst=true) (h4:eT draw ops (ar ops o ⟨.own j i q et,none⟩ [j]) k fps=true) (h:am P T n ops id draw K (k+1) os (s.eff o.dst ⟨.own j i q et,none⟩) (ar ops o ⟨.own j i q et,none⟩ [j]::fps)):am P T n ops id draw K k (o::os) s fps:=by
 refine .run h1 (.gen fun s2 ht hrb=>?_) h3 h4 h;have hx:=(an ht (x:=x) (by simp[h2,Op.operands])).trans h7;have hz:=(an ht (x:=z) (by simp[h2,Op.operands])).trans h8;have hbj:=(aN (hrb j (by simp))).trans hb;obtain⟨u,hu,_,hel,_⟩:=(hT _ _ h5).und;obtain⟨rfl,hks⟩:=hel et q h6;refine af fun n S0 w0 g a w hM=>?_
 have hm:=hM.ev x;rw[hx]at hm;obtain⟨c,e1,e2,e3,e4,arr,e5,e6⟩:=hm.2 cs hbj;have hr:=qo (w:=w) hu hks (some ⟨g j,0,none⟩) (m:=m) (i:=i) (c:=c) ik (by omega)
 have ha:(if c=0 then some (⟨g j,0,none⟩:Addr)else(some ⟨g j,0,none⟩:Option Addr).map (·.add (0*q)))=some ⟨g j,0,none⟩:=by
  split
  ·rfl
  ·rw[Nat.zero_mul,Option.map_some,b8]
 rw[ha]at hr;refine⟨.slice (some ⟨g j,0,none⟩) i c,w,?_,Below.refl _ _,hm.1,fun cs' hc=>?_⟩
 ·unfold execOp
  rw[h2]
  simp only[e1,aY hM hz,Option.map_some,Option.map_none,Sem.run_bind,hr,Result.andThen_ok]
  rfl
 ·rw[hbj]at hc
  cases hc;exact⟨c,rfl,by omega,e3,Nat.le_trans (Nat.mul_le_mul_right _ hi) e4,arr,e5,e6⟩
theorem kA (hT:∀t d,T t=some d->aU P t d) {t:TypeId} {ty:Ty} {x y:Operand} {j et q m i:Nat} {ik:IntKind} {cs:List AV} (hi:i<m) (h1:gd ops s o=some true) (h2:o.op= .slice t x (some y) none none) (h5:T t=some ty) (h6:ty.elem=some (et,q)) (h7:s.ev x= .own j m q et) (hb:s.bx j=some cs) (h8:s.ev y= .d (.leaf (.val (.int ik (i:Nat)))))
 (h3:aF n o.dst=true) (h4:eT draw ops (ar ops o ⟨.vw j i (m-i) q,none⟩ [j]) k fps=true) (h:am P T n ops id draw K (k+1) os (s.eff o.dst ⟨.vw j i (m-i) q,none⟩) (ar ops o ⟨.vw j i (m-i) q,none⟩ [j]::fps)):am P T n ops id draw K k (o::os) s fps:=by
 refine .run h1 (.gen fun s2 ht hrb=>?_) h3 h4 h;have hx:=(an ht (x:=x) (by simp[h2,Op.operands])).trans h7;have hy:=(an ht (x:=y) (by simp[h2,Op.operands])).trans h8;have hbj:=(aN (hrb j (by simp))).trans hb;obtain⟨u,hu,_,hel,_⟩:=(hT _ _ h5).und;obtain⟨rfl,hks⟩:=hel et q h6;refine af fun n S0 w0 g a w hM=>?_
 have hm:=hM.ev x;rw[hx]at hm;obtain⟨c,e1,e2,e3,e4,arr,e5,e6⟩:=hm.2 cs hbj;have hr:=j9 (w:=w) hu hks (some ⟨g j,0,none⟩) (m:=m) (i:=i) (c:=c) ik (by omega);rw[if_neg (by omega),Option.map_some,b8,Nat.zero_add]at hr;refine⟨.slice (some ⟨g j,i*q,none⟩) (m-i) (c-i),w,?_,Below.refl _ _,hm.1,fun cs' hc=>?_⟩
 ·exact Q3
 ·rw[hbj]at hc
  cases hc;exact⟨c-i,rfl,by omega,by omega,by rw[show i+(m-i)=m by omega];exact e4⟩
theorem xW (hT:∀t d,T t=some d->aU P t d) {t:TypeId} {ty:Ty} {x y:Operand} {j et q m:Nat} {ik:IntKind} {cs:List AV} (h1:gd ops s o=some true) (h2:o.op= .slice t x (some y) none none) (h5:T t=some ty) (h6:ty.elem=some (et,q)) (h7:s.ev x= .own j m q et) (hb:s.bx j=some cs) (h8:s.ev y= .d (.leaf (.val (.int ik (m:Nat)))))
 (h3:aF n o.dst=true) (h4:eT draw ops (ar ops o ⟨.d (.leaf (.sl 0 [])),none⟩ [j]) k fps=true) (h:am P T n ops id draw K (k+1) os (s.eff o.dst ⟨.d (.leaf (.sl 0 [])),none⟩) (ar ops o ⟨.d (.leaf (.sl 0 [])),none⟩ [j]::fps)):am P T n ops id draw K k (o::os) s fps:=by
 refine .run h1 (.gen fun s2 ht hrb=>?_) h3 h4 h;have hx:=(an ht (x:=x) (by simp[h2,Op.operands])).trans h7;have hy:=(an ht (x:=y) (by simp[h2,Op.operands])).trans h8;have hbj:=(aN (hrb j (by simp))).trans hb;obtain⟨u,hu,_,hel,_⟩:=(hT _ _ h5).und;obtain⟨rfl,hks⟩:=hel et q h6;refine af fun n S0 w0 g a w hM=>?_
 have hm:=hM.ev x;rw[hx]at hm;obtain⟨c,e1,e2,e3,e4,arr,e5,e6⟩:=hm.2 cs hbj;have hr:=j9 (w:=w) hu hks (some ⟨g j,0,none⟩) (m:=m) (i:=m) (c:=c) ik (Nat.le_refl _);rw[Nat.sub_self]at hr;refine⟨.slice (if c=m then some ⟨g j,0,none⟩else(some ⟨g j,0,none⟩:Option Addr).map (·.add (m*q))) 0 (c-m),w,?_,Below.refl _ _,AV.M.emp (by omega) (by omega) (fun hA=>?_)⟩
 ·exact Q3
 ·split at hA<;>cases hA
theorem J5 (hT:∀t d,T t=some d->aU P t d) {t:TypeId} {ty:Ty} {x z:Operand} {et q:Nat} {ik:IntKind} (h1:gd ops s o=some true) (h2:o.op= .slice t x none (some z) none) (h5:T t=some ty) (h6:ty.elem=some (et,q)) (h7:s.ev x= .nil) (h8:s.ev z= .d (.leaf (.val (.int ik (0:Nat)))))
 (h3:aF n o.dst=true) (h4:eT draw ops (ar ops o ⟨.nil,none⟩ []) k fps=true) (h:am P T n ops id draw K (k+1) os (s.eff o.dst ⟨.nil,none⟩) (ar ops o ⟨.nil,none⟩ []::fps)):am P T n ops id draw K k (o::os) s fps:=by
 refine .run h1 (.gen fun s2 ht hrb=>?_) h3 h4 h;have hx:=(an ht (x:=x) (by simp[h2,Op.operands])).trans h7;have hz:=(an ht (x:=z) (by simp[h2,Op.operands])).trans h8;obtain⟨u,hu,_,hel,_⟩:=(hT _ _ h5).und;obtain⟨rfl,hks⟩:=hel et q h6;refine af fun n S0 w0 g a w hM=>?_
 have hm:=hM.ev x;rw[hx]at hm;have hm:a.eval x= .slice none 0 0:=hm;have hr:=qo (w:=w) hu hks none (m:=0) (i:=0) (c:=0) ik (Nat.le_refl _);rw[if_pos rfl]at hr;refine⟨.slice none 0 0,w,?_,Below.refl _ _,rfl⟩;unfold execOp;rw[h2]
 simp only[hm,aY hM hz,Option.map_some,Option.map_none,Sem.run_bind,hr,Result.andThen_ok]
 rfl
theorem ui (hT:∀t d,T t=some d->aU P t d) {t:TypeId} {ty:Ty} {x y:Operand} {et q:Nat} {ik:IntKind} (h1:gd ops s o=some true) (h2:o.op= .slice t x (some y) none none) (h5:T t=some ty) (h6:ty.elem=some (et,q)) (h7:s.ev x= .nil) (h8:s.ev y= .d (.leaf (.val (.int ik (0:Nat)))))
 (h3:aF n o.dst=true) (h4:eT draw ops (ar ops o ⟨.d (.leaf (.sl 0 [])),none⟩ []) k fps=true) (h:am P T n ops id draw K (k+1) os (s.eff o.dst ⟨.d (.leaf (.sl 0 [])),none⟩) (ar ops o ⟨.d (.leaf (.sl 0 [])),none⟩ []::fps)):am P T n ops id draw K k (o::os) s fps:=by
 refine .run h1 (.gen fun s2 ht hrb=>?_) h3 h4 h;have hx:=(an ht (x:=x) (by simp[h2,Op.operands])).trans h7;have hy:=(an ht (x:=y) (by simp[h2,Op.operands])).trans h8;obtain⟨u,hu,_,hel,_⟩:=(hT _ _ h5).und;obtain⟨rfl,hks⟩:=hel et q h6;refine af fun n S0 w0 g a w hM=>?_
 have hm:=hM.ev x;rw[hx]at hm;have hm:a.eval x= .slice none 0 0:=hm;have hr:=j9 (w:=w) hu hks none (m:=0) (i:=0) (c:=0) ik (Nat.le_refl _);rw[if_pos rfl]at hr;refine⟨.slice none 0 0,w,?_,Below.refl _ _,AV.M.emp (Nat.le_refl _) (by decide) (fun _=>rfl)⟩;unfold execOp;rw[h2]
 simp only[hm,aY hM hy,Option.map_some,Option.map_none,Sem.run_bind,hr,Result.andThen_ok]
 rfl
theorem Ct {S0:Nat->Prop} {w0:eP} {g:Nat->Nat} {a:Act} {w:World} (hM:MG n S0 w0 g s a w) {x:Operand} {j p m q:Nat} {cs:List AV} (hx:s.ev x= .vw j p m q) (hb:s.bx j=some cs):nS (Own S0 g s) w (a.eval x) m q ((cs.drop (p*q)).take (m*q)):=by
 have hm:=hM.ev x;rw[hx]at hm;obtain⟨c,e1,e2,e3,e4⟩:=hm.2 cs hb;obtain⟨_,arr,e,e5,e6,_⟩:=hM.bm j cs hb;have hl:=e6.1;have hsz:(p+m)*q=p*q+m*q:=Nat.add_mul _ _ _;refine⟨_,c,(arr.toList.drop (p*q)).take (m*q),e1,by simp at hl ⊢;omega,fun i u hi=>?_,e6.sub (by omega)⟩;exact LC
theorem wV {S0:Nat->Prop} {w0:eP} {g:Nat->Nat} {a:Act} {w:World} (hM:MG n S0 w0 g s a w) {x:Operand} {j m q e2:Nat} {cs:List AV} (hx:s.ev x= .own j m q e2) (hb:s.bx j=some cs):nS (Own S0 g s) w (a.eval x) m q (cs.take (m*q)):=by
 have hm:=hM.ev x;rw[hx]at hm;obtain⟨c,e1,e2,e3,e4,_⟩:=hm.2 cs hb;obtain⟨_,arr,e,e5,e6,_⟩:=hM.bm j cs hb;have hl:=e6.1;have h0:=e6.sub (off:=0) (k:=m*q) (by omega);rw[List.drop_zero,List.drop_zero]at h0;refine⟨_,c,arr.toList.take (m*q),e1,by simp at hl ⊢;omega,fun i u hi=>?_,h0⟩;exact LC
theorem Pe (j':Nat) {d:Nat} {x y:Operand} {t et q m1 m2 j2 p:Nat} {ty te:Ty} {dead:Option Nat} {cs cs2:List AV} (hT:∀t d,T t=some d->aU P t d) (hm:0<m2) (hb:(m1+m2)*te.bytes<=140737488355328) (hlen:(p+m2)*q<=cs2.length) (h1:gd ops s o=some true) (ho:o.op= .call ⟨.builtin .append,#[x,y],#[t,t]⟩) (hd:o.dst=some d) (h3:aF n o.dst=true) (ht:T t=some ty) (hel:ty.elem=some (et,q)) (hte:T et=some te) (hq:te.size=q) (hq0:(Nat.ble 1 q && Nat.ble 1 te.bytes)=true)
 (hbase:fE s x m1 q et dead cs) (hy:s.ev y= .vw j2 p m2 q) (hj2:s.bx j2=some cs2) (hnew:fB s j'=true) (hcl:(a8 te.zero && a8 ((cs2.drop (p*q)).take (m2*q)) && lX dead)=true)
 (h4:eT draw ops (ar ops o ⟨.own j' (m1+m2) q et,some ((j',some (cs.take (m1*q)++(cs2.drop (p*q)).take (m2*q)))::ga dead [])⟩ (j'::j2::r9 dead)) k fps=true)
 (h:am P T n ops id draw K (k+1) os (s.eff o.dst ⟨.own j' (m1+m2) q et,some ((j',some (cs.take (m1*q)++(cs2.drop (p*q)).take (m2*q)))::ga dead [])⟩) (ar ops o ⟨.own j' (m1+m2) q et,some ((j',some (cs.take (m1*q)++(cs2.drop (p*q)).take (m2*q)))::ga dead [])⟩ (j'::j2::r9 dead)::fps)):am P T n ops id draw K k (o::os) s fps:=by
 rw[Bool.and_eq_true]at hq0
 have h63:m1+m2<=9223372036854775807:=by
  exact uk
 refine .run h1 (.gen fun s2 ht2 hrb=>?_) h3 h4 h;have hx2:s2.ev x=s.ev x:=an ht2 (by rw[ho];simp[Op.operands,Call.operands]);have hy2:s2.ev y=s.ev y:=an ht2 (by rw[ho];simp[Op.operands,Call.operands]);have hb2:s2.bx j2=some cs2:=(aN (hrb j2 (by simp))).trans hj2
 have hbase2:fE s2 x m1 q et dead cs:=by
  exact Dr
 have hnew2:fB s2 j'=true:=(dY (hrb j' (by simp))).trans hnew;have hsz:(p+m2)*q=p*q+m2*q:=Nat.add_mul _ _ _;intro n S0 w0 g a w K Q hM hdn hK;refine jU (hT _ _ ht) (hT _ _ hte) ho hd hel hq (Nat.le_of_ble_eq_true hq0.1) hbase2 (by simp;omega) hm hb h63 (bg hnew2) (kL hnew2) (.inr hcl) hM (Ct hM (hy2.trans hy) hb2) (hdn d hd) fun g' a' w' hM'=>hK g' a' w' ?_
 rw[hd];cases dead<;>exact hM'
theorem q7 (j':Nat) {d:Nat} {x y:Operand} {t et q m1 m2 j2 e2:Nat} {ty te:Ty} {dead:Option Nat} {cs cs2:List AV} (hT:∀t d,T t=some d->aU P t d) (hm:0<m2) (hb:(m1+m2)*te.bytes<=140737488355328) (hlen:m2*q<=cs2.length) (h1:gd ops s o=some true) (ho:o.op= .call ⟨.builtin .append,#[x,y],#[t,t]⟩) (hd:o.dst=some d) (h3:aF n o.dst=true) (ht:T t=some ty) (hel:ty.elem=some (et,q)) (hte:T et=some te) (hq:te.size=q) (hq0:(Nat.ble 1 q && Nat.ble 1 te.bytes)=true)
 (hbase:fE s x m1 q et dead cs) (hy:s.ev y= .own j2 m2 q e2) (hj2:s.bx j2=some cs2) (hnew:fB s j'=true) (hcl:(a8 te.zero && a8 (cs2.take (m2*q)) && lX dead)=true)
 (h4:eT draw ops (ar ops o ⟨.own j' (m1+m2) q et,some ((j',some (cs.take (m1*q)++cs2.take (m2*q)))::ga dead [])⟩ (j'::j2::r9 dead)) k fps=true)
 (h:am P T n ops id draw K (k+1) os (s.eff o.dst ⟨.own j' (m1+m2) q et,some ((j',some (cs.take (m1*q)++cs2.take (m2*q)))::ga dead [])⟩) (ar ops o ⟨.own j' (m1+m2) q et,some ((j',some (cs.take (m1*q)++cs2.take (m2*q)))::ga dead [])⟩ (j'::j2::r9 dead)::fps)):am P T n ops id draw K k (o::os) s fps:=by
 rw[Bool.and_eq_true]at hq0
 have h63:m1+m2<=9223372036854775807:=by
  exact uk
 refine .run h1 (.gen fun s2 ht2 hrb=>?_) h3 h4 h;have hx2:s2.ev x=s.ev x:=an ht2 (by rw[ho];simp[Op.operands,Call.operands]);have hy2:s2.ev y=s.ev y:=an ht2 (by rw[ho];simp[Op.operands,Call.operands]);have hb2:s2.bx j2=some cs2:=(aN (hrb j2 (by simp))).trans hj2
 have hbase2:fE s2 x m1 q et dead cs:=by
  exact Dr
 have hnew2:fB s2 j'=true:=(dY (hrb j' (by simp))).trans hnew;intro n S0 w0 g a w K Q hM hdn hK;refine jU (hT _ _ ht) (hT _ _ hte) ho hd hel hq (Nat.le_of_ble_eq_true hq0.1) hbase2 (by rw[List.length_take];omega) hm hb h63 (bg hnew2) (kL hnew2) (.inr hcl) hM (wV hM (hy2.trans hy) hb2) (hdn d hd) fun g' a' w' hM'=>hK g' a' w' ?_
 rw[hd];cases dead<;>exact hM'
theorem ri {s2:AS} {x y:Operand} {t et q m1 j:Nat} {ty:Ty} {ts:List AV} {cs:List AV} (hT:aU P t ty) (ho:o.op= .call ⟨.builtin .append,#[x,y],#[t,t]⟩) (hel:ty.elem=some (et,q)) (hx2:s2.ev x= .own j m1 q et) (hbj:s2.bx j=some cs) (hy2:s2.ev y= .d (.leaf (.sl 0 ts))):bA P o s2 ⟨.own j m1 q et,none⟩:=by
 obtain⟨u,hu,_,hel',_⟩:=hT.und;obtain⟨rfl,hks⟩:=hel' et q hel;refine af fun n S0 w0 g a w hM=>?_
 have hm:=hM.ev x;rw[hx2]at hm;obtain⟨c,e1,e2,e3,e4,arr,e5,e6⟩:=hm.2 cs hbj;have hm0:=hm;rw[e1]at hm0;have hyv:=hM.ev y;rw[hy2]at hyv;have hyv:AV.M (Own S0 g s2) w (.sl 0 ts) (a.eval y):=hyv
 have hA:∃A c2,a.eval y= .slice A 0 c2:=by
  exact Ja
 obtain⟨A,c2,hv⟩:=hA
 have hr:(Builtin.append_ #[t,t] o.type #[.slice (some ⟨g j,0,none⟩) m1 c, .slice A 0 c2]).run P w= .ok (.slice (some ⟨g j,0,none⟩) m1 c) w:=by
  exact At
 refine⟨.slice (some ⟨g j,0,none⟩) m1 c,w,?_,Below.refl _ _,hm0⟩;unfold execOp
 simp only[ho,resolve,invoke,builtin,Sem.run_bind,Sem.run_pure,Result.andThen_ok,List.map_toArray,List.map_cons,List.map_nil,e1,hv,hr]
theorem N9 {x y:Operand} {t et q m1 j:Nat} {ty:Ty} {ts:List AV} {cs:List AV} (hT:∀t d,T t=some d->aU P t d) (h1:gd ops s o=some true) (ho:o.op= .call ⟨.builtin .append,#[x,y],#[t,t]⟩) (ht:T t=some ty) (hel:ty.elem=some (et,q)) (h7:s.ev x= .own j m1 q et) (hb:s.bx j=some cs) (hy:s.ev y= .d (.leaf (.sl 0 ts)))
 (h3:aF n o.dst=true) (h4:eT draw ops (ar ops o ⟨.own j m1 q et,none⟩ [j]) k fps=true) (h:am P T n ops id draw K (k+1) os (s.eff o.dst ⟨.own j m1 q et,none⟩) (ar ops o ⟨.own j m1 q et,none⟩ [j]::fps)):am P T n ops id draw K k (o::os) s fps:=
 .run h1 (.gen fun _ ht2 hrb=>ri (hT _ _ ht) ho hel ((an ht2 (x:=x) (by rw[ho];simp[Op.operands,Call.operands])).trans h7) ((aN (hrb j (by simp))).trans hb) ((an ht2 (x:=y) (by rw[ho];simp[Op.operands,Call.operands])).trans hy)) h3 h4 h
theorem oX {s2:AS} {x y:Operand} {t et q:Nat} {ty:Ty} {ts:List AV} (hT:aU P t ty) (ho:o.op= .call ⟨.builtin .append,#[x,y],#[t,t]⟩) (hel:ty.elem=some (et,q)) (hx2:s2.ev x= .nil) (hy2:s2.ev y= .d (.leaf (.sl 0 ts))):bA P o s2 ⟨.nil,none⟩:=by
 obtain⟨u,hu,_,hel',_⟩:=hT.und;obtain⟨rfl,hks⟩:=hel' et q hel;refine af fun n S0 w0 g a w hM=>?_
 have hm:=hM.ev x;rw[hx2]at hm;have hm:a.eval x= .slice none 0 0:=hm;have hyv:=hM.ev y;rw[hy2]at hyv;have hyv:AV.M (Own S0 g s2) w (.sl 0 ts) (a.eval y):=hyv
 have hA:∃A c2,a.eval y= .slice A 0 c2:=by
  exact Ja
 obtain⟨A,c2,hv⟩:=hA
 have hr:(Builtin.append_ #[t,t] o.type #[.slice none 0 0, .slice A 0 c2]).run P w= .ok (.slice none 0 0) w:=by
  have hz:∀ad:Addr,(loadCells ad 0).run P w= .ok #[] w:=fun ad=>by
   simpa using run_loadCells_list (P:=P) w ad [] (fun j v hj=>by simp at hj)
  cases A with
  |none=>simp[Builtin.append_,run_underlying hu,bB hks w,Builtin.lenOf,Builtin.firstCells,storeCells]
  |some ad=>simp[Builtin.append_,run_underlying hu,bB hks w,Builtin.lenOf,Builtin.firstCells,storeCells,hz]
 refine⟨.slice none 0 0,w,?_,Below.refl _ _,rfl⟩;unfold execOp
 simp only[ho,resolve,invoke,builtin,Sem.run_bind,Sem.run_pure,Result.andThen_ok,List.map_toArray,List.map_cons,List.map_nil,hm,hv,hr]
theorem BS {x y:Operand} {t et q:Nat} {ty:Ty} {ts:List AV} (hT:∀t d,T t=some d->aU P t d) (h1:gd ops s o=some true) (ho:o.op= .call ⟨.builtin .append,#[x,y],#[t,t]⟩) (ht:T t=some ty) (hel:ty.elem=some (et,q)) (h7:s.ev x= .nil) (hy:s.ev y= .d (.leaf (.sl 0 ts)))
 (h3:aF n o.dst=true) (h4:eT draw ops (ar ops o ⟨.nil,none⟩ []) k fps=true) (h:am P T n ops id draw K (k+1) os (s.eff o.dst ⟨.nil,none⟩) (ar ops o ⟨.nil,none⟩ []::fps)):am P T n ops id draw K k (o::os) s fps:=
 .run h1 (.gen fun _ ht2 _=>oX (hT _ _ ht) ho hel ((an ht2 (x:=x) (by rw[ho];simp[Op.operands,Call.operands])).trans h7) ((an ht2 (x:=y) (by rw[ho];simp[Op.operands,Call.operands])).trans hy)) h3 h4 h
theorem wZ (j':Nat) {d t et q len:Nat} {ty te:Ty} {parts:Array (Nat × Operand)} {l:List (Nat × DV)} {cs:List AV} (hT:∀t d,T t=some d->aU P t d) (h1:gd ops s o=some true) (ho:o.op= .buildSlice t len parts) (hd:o.dst=some d) (h3:aF n o.dst=true) (ht:T t=some ty) (hel:ty.elem=some (et,q)) (hte:T et=some te)
 (hk:(Nat.ble 1 q && (Nat.ble 1 len && (Nat.beq te.zero.length q && (Nat.ble (len*q) 16777216 && Nat.beq cs.length (len*q)))))=true) (hp:fN s parts.toList=some l) (hf:pj (fun i=>some (i*q,q)) (cZ te.zero len) l=some cs) (hB:a8 cs=true) (hnew:fB s j'=true)
 (h4:eT draw ops (ar ops o ⟨.own j' len q et,some [(j',some cs)]⟩ [j']) k fps=true) (h:am P T n ops id draw K (k+1) os (s.eff o.dst ⟨.own j' len q et,some [(j',some cs)]⟩) (ar ops o ⟨.own j' len q et,some [(j',some cs)]⟩ [j']::fps)):am P T n ops id draw K k (o::os) s fps:=by
 simp only[Bool.and_eq_true]at hk
 obtain⟨k1,k2,k3,k4,k5⟩:=hk;have k1:=Nat.le_of_ble_eq_true k1;have k2:=Nat.le_of_ble_eq_true k2;have k3:=Nat.eq_of_beq_eq_true k3;have k4:=Nat.le_of_ble_eq_true k4;have k5:=Nat.eq_of_beq_eq_true k5;refine .run h1 (.gen fun s2 ht2 hrb=>?_) h3 h4 h;have hnew2:fB s2 j'=true:=(dY (hrb j' (by simp))).trans hnew
 have hp2:fN s2 parts.toList=some l:=by
  rw[<- hp];have:∀x∈parts.toList,s2.ev x.2=s.ev x.2:=fun x hx=>an ht2 (by rw[ho];simp only[Op.operands];simp;exact⟨x.1,by simpa using hx⟩)
  generalize parts.toList=ps at this;clear hp hf
  induction ps with
  |nil=>rfl
  |cons p ps ih=>
   simp only[fN]
   rw[ih (fun x hx=>this x (by simp[hx])),this p (by simp)]
 intro n S0 w0 g a w K' Q hM hdn hK;obtain⟨u,hu,_,hel',_⟩:=(hT _ _ ht).und;obtain⟨rfl,hks⟩:=hel' et q hel;obtain⟨z,hz,hzm⟩:=(hT _ _ hte).zero;have hpos:0<len*q:=Nat.mul_pos k2 k1
 have hzl':z.cells.size=q:=by have:=(hzm (Own S0 g s2) w).1;simp at this;omega
 have hini:CM (Own S0 g s2) w (cZ te.zero len) ((Array.range (len*q)).map (fun i=>z.cells[i%z.cells.size]!)).toList:=by
  refine⟨by rw[cP,k3];simp,fun i b v h1 h2=>?_⟩;rw[gN _ (by omega)]at h1
  split at h1
  ·rename_i hi
   rw[k3]at h1 hi;have hm:i%q<q:=Nat.mod_lt _ k1
   have hv:v=z.cells[i%q]'(by omega):=by
    simp[hi,hzl']at h2
    rw[<- h2]
    simp[hzl',hm]
   exact(hzm _ w).2 (i%q) b v h1 (by rw[hv];simp[hzl',hm])
  ·cases h1
 obtain⟨arr,g1,g2⟩:=pR l _ _ _ cs hini (nv hM parts.toList l hp2) hf;have e:(parts.map fun x=>match x with|(i,y)=>(i,a.eval y)).toList=parts.toList.map fun(p:Nat × Operand)=>(p.1,a.eval p.2):=by simp
 have hr:(execOp a.eval o).run P w= .ok (.value (.slice (some ⟨w.heap.size,0,none⟩) len len)) (w.alloc (.cells arr et)):=by
  unfold execOp;rw[ho]
  simp only[Instr.buildSlice,Sem.run_bind,run_underlying hu w,Result.andThen_ok,bB hks w]
  rw[if_neg (by omega),if_neg (by omega)]
  simp only[Sem.run_bind,nJ hz w,Result.andThen_ok,Sem.run_pure,e,g1]
  rfl
 unfold Oper.wp;rw[hr];show K' (a.put o.dst _) _;rw[hd]at hK ⊢;have hsz:arr.size=len*q:=by have:=g2.1;simp at this;omega
 have hl1:len<=9223372036854775807:=by
  have:=Nat.le_mul_of_pos_right len k1;omega
 refine hK _ _ _ (hM.alloc (hdn d hd) (bg hnew2).1 (bg hnew2).2 g2.cp (fun _=>gg g2 hB) (ir hB) (fun h=>by rw[jp hnew2]at h;cases h) fun g' s' hg hb=>?_);refine⟨AS.kn_of hb,fun cs' hc=>⟨len,by rw[hg],Nat.le_refl _,hl1,?_,arr,?_,hsz⟩⟩
 ·rw[hb]at hc;cases hc;exact Nat.le_of_eq k5.symm
 ·rw[hg];exact heap_alloc_new w _
theorem xJ {q:Nat} (hq:s.tv q= .nil):bi s ⟨(q, .d (.leaf (.sl 0 [])))::s.t,s.b⟩:=by
 rintro n S0 w0 a w ⟨g,h⟩;have hm:=h.tm q;rw[hq]at hm;exact⟨g,h.reslot (Jj (tv:= .nil) rfl hm) rfl (by show og (s.tv q)=true;rw[hq];rfl)⟩
theorem yu {q m:Nat} {cs:List AV} (i:Nat) (hq:s.tv q= .d (.leaf (.sl m cs))):bi s ⟨(q, .d (.leaf (.sl m (cs.take i))))::s.t,s.b⟩:=by
 rintro n S0 w0 a w ⟨g,h⟩;have hm:=h.tm q;rw[hq]at hm;have hm:AV.M (Own S0 g s) w (.sl m cs) (a.tmps.getD q Go.undef):=hm
 have key:AV.M (Own S0 g s) w (.sl m (cs.take i)) (a.tmps.getD q Go.undef):=by
  generalize a.tmps.getD q Go.undef=v at hm
  have hc:∀(p:Nat) (b:AV),(cs.take i)[p]? =some b->cs[p]? =some b:=fun p b hb=>by
   rw[List.getElem?_take]at hb
   split at hb
   ·exact hb
   ·cases hb
  cases hm with
  |emp h1 h2 h3=>rw[List.take_nil];exact .emp h1 h2 h3
  |sl f h1 h2 h3 h4 h5 h6=>exact .sl f h1 h2 h3 h4 (fun p b hb=>h5 p b (hc p b hb)) (fun p b hb=>h6 p b (hc p b hb))
 exact⟨g,h.reslot key rfl (by show og (s.tv q)=true;rw[hq];rfl)⟩
end
def Sg:AV->Bool
 | .val _=>true
 |_=>false
def Sn:DV->Bool
 | .leaf a=>Sg a
 | .agg cs=>cs.all Sg
def SV:RV->Bool
 | .one d=>Sn d
 | .tup l=>l.all Sn
theorem Nx {S S':Nat->Prop} {w w':World} {a:AV} {v:Value} (h:Sg a=true) (hm:AV.M S w a v):AV.M S' w' a v:=by
 cases hm with
 |val h0=>exact .val h0
 |_=>cases h
theorem LY {S S':Nat->Prop} {w w':World} {d:DV} {v:Value} (h:Sn d=true) (hm:DV.M S w d v):DV.M S' w' d v:=by
 cases d with
 |leaf a=>exact Nx h hm
 |agg cs=>
  obtain⟨vs,e,hl,hc⟩:=hm;exact⟨vs,e,hl,fun i a v h1 h2=>Nx (List.all_eq_true.1 h a (List.mem_of_getElem? h1)) (hc i a v h1 h2)⟩
theorem RU {S S':Nat->Prop} {g:Nat->Nat} {s:AS} {w w':World} {r:RV} {v:Value} (h:SV r=true) (hm:RV.M S w r v):TV.M S' g s w' r.tv v:=by
 cases r with
 |one d=>exact LY (S:=S) (w:=w) h hm
 |tup l=>
  obtain⟨vs,e,hl,hc⟩:=hm;exact⟨vs,e,hl,fun i a v h1 h2=>LY (List.all_eq_true.1 h a (List.mem_of_getElem? h1)) (hc i a v h1 h2)⟩
def RC (b:BL):TV->Option DV
 | .d x=>some x
 | .own j n _ _=>match ai b j with
  |some cs=>some (.leaf (.sl n cs))
  |none=>none
 | .vw j o n k=>match ai b j with
  |some cs=>some (.leaf (.sl n (cs.drop (o*k))))
  |none=>none
 | .vs j o n _ k _=>match ai b j with
  |some cs=>some (.leaf (.sl n (cs.drop (o*k))))
  |none=>none
 | .nil=>some (.leaf (.sl 0 []))
 |_=>none
def Hp (b:BL):List TV->Option (List DV)
 | []=>some []
 |t::r=>match RC b t,Hp b r with
  |some d,some l=>some (d::l)
  |_,_=>none
theorem j5:∀{b:BL} {j:Nat} {cs:List AV},ai b j=some cs->ai (aw b) j=some (some cs)
 | [],_,_,h=>by cases h
 |(i,c)::r,j,cs,h=>by
  by_cases e:i=j
  ·subst e;rw[ah]at h;cases h;exact ah _ _ _
  ·rw[aq _ _ e]at h;simp only[aw,aq _ _ e];exact j5 h
theorem AC {S:Nat->Prop} {g:Nat->Nat} {w:World} {b:BL} (hP:Fi S g w b) {j n o c:Nat} {cs:List AV} (hj:ai b j=some cs) (h1:n<=c) (h2:c<=9223372036854775807):AV.M S w (.sl n (cs.drop o)) (.slice (some ⟨g j,o,none⟩) n c):=by
 have hb:(sB b).bx j=some cs:=cw.2 (j5 hj);obtain⟨arr,e,h7,h8,_⟩:=hP.bm j cs hb;have hn:¬S (g j):=fun h=>(hP.blk _ h).2.1 ⟨j,cs,hb,rfl⟩
 have hl:=h8.1
 simp only[Array.length_toList]at hl
 have hlt:∀i (x:AV),(cs.drop o)[i]? =some x->cs[o+i]? =some x/\o+i<arr.size:=fun i x hi=>by
  rw[List.getElem?_drop]at hi;exact⟨hi,Nat.lt_of_lt_of_le (List.getElem?_eq_some_iff.1 hi).1 hl⟩
 refine AV.M.sl (fun i=>arr.getD (o+i) undef) h1 h2 hn (Array.getElem?_eq_some_iff.1 h7).1 (fun i x hi=>?_) (fun i x hi=>?_)
 ·have:=(hlt i x hi).2
  simp[World.cell?,h7,this]
 ·have:=(hlt i x hi).2
  exact(h8.2 (o+i) x _ (hlt i x hi).1 (by simp[this])).agree (bJ.refl _ _) (fun _ _ h=> .inl h)
theorem OZ {S:Nat->Prop} {g:Nat->Nat} {w:World} {b:BL} (hP:Fi S g w b) {t:TV} {d:DV} {v:Value} (hd:RC b t=some d) (hm:TV.M (Own S g (sB b)) g (sB b) w t v):DV.M S w d v:=by
 cases t with
 |d x=>
  cases hd;exact DV.M.agree hm (bJ.refl _ _) (fun _ _ h=> .inl h)
 |own j n k e=>
  simp only[RC]at hd
  split at hd
  ·rename_i cs hj
   cases hd;obtain⟨c,e1,e2,e3,_⟩:=hm.2 cs (cw.2 (j5 hj));rw[e1];exact AC hP (o:=0) hj e2 e3
  ·cases hd
 |vw j o n k=>
  simp only[RC]at hd
  split at hd
  ·rename_i cs hj
   cases hd;obtain⟨c,e1,e2,e3,_⟩:=hm.2 cs (cw.2 (j5 hj));rw[e1];exact AC hP hj e2 e3
  ·cases hd
 |vs j o n c0 k e=>
  simp only[RC]at hd
  split at hd
  ·rename_i cs hj
   cases hd;obtain⟨e1,e2,e3,_⟩:=hm.2 cs (cw.2 (j5 hj));rw[e1];exact AC hP hj e2 e3
  ·cases hd
 |nil=>
  cases hd;have:v= .slice none 0 0:=hm;rw[this];exact AV.M.emp (Nat.le_refl _) (by omega) (fun _=>rfl)
 |_=>cases hd
theorem u3 {S:Nat->Prop} {g:Nat->Nat} {w:World} {b:BL} (hP:Fi S g w b):∀{ts:List TV} {ds:List DV} {vs:List Value},Hp b ts=some ds->nP (Own S g (sB b)) g (sB b) w ts vs->VM S w ds vs
 | [],ds,[],hd,_=>by cases hd;trivial
 |t::ts,ds,v::vs,hd,hm=>by
  simp only[Hp]at hd
  split at hd
  ·rename_i d l h1 h2
   cases hd;exact⟨OZ hP h1 hm.1,u3 hP h2 hm.2⟩
  ·cases hd
 | [],_,_::_,_,h=>h.elim
 |_::_,_,[],_,h=>h.elim
theorem aa.rd {P:Program} {f:FuncId} {ds:List DV} {r:RV} (h:aa P f ds r) {ts:List TV} {b:BL} (hts:Hp b ts=some ds) (hr:SV r=true):bw P f ts b (.v r) b:=by
 refine⟨h.enter,fun S g w vs hP hv=>?_⟩;refine(h.calls S w vs ⟨fun w' hb=>hP.tab w' ⟨hb.os,hb.tape,hb.output,hb.size,fun k hk _=>hb.block k hk,fun k hk _ arr e fz he=>⟨arr,fz,(hb.block k hk).trans he,rfl⟩⟩,fun q hq=>⟨(hP.blk q hq).1,(hP.blk q hq).2.2⟩,fun k cs hk=>?_⟩ (u3 hP hts hv)).mono ?_
 ·exact GD
 ·rintro e w' ⟨v,rfl,hm,hb⟩
  refine⟨v,g,rfl,fun j cs cs' h1 h2=>?_,fun j cs' h1=>⟨.inr ⟨j,cs',h1,rfl⟩,?_⟩,hP.inj,RU hr hm,⟨hb.os,hb.tape,hb.output,hb.size,fun k hk _=>hb.block k hk,fun k hk _ arr e fz he=>⟨arr,fz,(hb.block k hk).trans he,rfl⟩⟩⟩
  ·rw[h1]at h2;cases h2;exact⟨rfl,Nat.le_refl _⟩
  ·exact MZ
section
variable {P:Program} {T:TypeId->Option Ty} {n:Nat} {ops:Array Oper} {id:Nat} {draw:Bool} {K:AS->Prop} {s:AS} {k:Nat} {o:Oper} {os:List Oper} {fps:List FP}
theorem zM {s:AS} {d t et q m c j':Nat} {ty te:Ty} {x y:Operand} {ik ik':IntKind} (hT:aU P t ty) (hE:aU P et te) (ho:o.op= .makeSlice t x y) (hd:o.dst=some d) (hel:ty.elem=some (et,q)) (hq:te.size=q) (hq0:0<q) (hx:s.ev x= .d (.leaf (.val (.int ik (m:Nat))))) (hy:s.ev y= .d (.leaf (.val (.int ik' (c:Nat))))) (hmc:m<=c) (hb:te.bytes*c<=281474976710656) (h63:c<=9223372036854775807)
 (hnew:fB s j'=true) (hwb:(bR j' || a8 te.zero)=true) (hno:∀a∈te.zero,E7 a=true):bA P o s ⟨.own j' m q et,some [(j',some (cZ te.zero c))]⟩:=by
 intro n S0 w0 g a w K' Q hM hdn hK;obtain⟨u,hu,_,hel',_⟩:=hT.und;obtain⟨rfl,hks⟩:=hel' et q hel;obtain⟨z,hz,hzm⟩:=hE.zero;have hzl:=hE.zlen;rw[hq]at hzl;cases hi:P.info? et with
 |none=>rw[hi]at hz;cases hz
 |some i=>
  rw[hi]at hz hks;have hz:i.zero=some z:=hz;have hks:i.size=q:=by simpa using hks
  have hbt:i.bytes=te.bytes:=by have:=hE.bytes;rw[hi]at this;simpa using this
  have hzs:z.cells.size=q:=by have:=(hzm (Own S0 g s) w).1;simp at this;omega
  have hbi:(i.bytes:Int)*(c:Nat)<=281474976710656:=by
   rw[hbt];have:((te.bytes*c:Nat):Int)<=281474976710656:=by omega
   rwa[Int.natCast_mul]at this
  have hr:=run_make (P:=P) w t et i z hu hi hz ik ik' m c (by omega) (by omega) hbi (by omega)
  simp only[Int.toNat_natCast]at hr
  have hini:CM (Own S0 g s) w (cZ te.zero c) (madeCells z.cells (c*i.size)).toList:=by
   unfold madeCells;rw[hks];refine⟨by rw[cP,hzl];simp,fun p b v h1 h2=>?_⟩;rw[gN _ (by omega)]at h1
   split at h1
   ·rename_i hp
    rw[hzl]at h1 hp;have hm:p%q<q:=Nat.mod_lt _ hq0
    have hv:v=z.cells[p%q]'(by omega):=by
     simp[hp,hzs]at h2
     rw[<- h2]
     simp[hzs,hm]
    exact(hzm _ w).2 (p%q) b v h1 (by rw[hv];simp[hzs,hm])
   ·cases h1
  have hall:∀b∈cZ te.zero c,b∈te.zero:=fun b hb=>by
   obtain⟨p,hp⟩:=List.getElem?_of_mem hb;rw[gN _ (by omega)]at hp
   split at hp
   ·exact List.mem_of_getElem? hp
   ·cases hp
  have hsz:(madeCells z.cells (c*i.size)).size=c*q:=by unfold madeCells;rw[hks];simp
  unfold Oper.wp
  have e:(execOp a.eval o).run P w= .ok (.value (.slice (some ⟨w.heap.size,0,none⟩) m c)) (w.alloc (.cells (madeCells z.cells (c*i.size)) et)):=by
   unfold execOp;rw[ho]
   simp only[aY hM hx,aY hM hy,Sem.run_bind,hr,Result.andThen_ok]
   rfl
  rw[e];show K' (a.put o.dst _) _;rw[hd]at hK ⊢;refine hK _ _ _ (hM.alloc (hdn d hd) (bg hnew).1 (bg hnew).2 hini.cp (fun hw v hv=>?_) (fun b hb=>hno b (hall b hb)) (fun h=>by rw[jp hnew]at h;cases h) fun g' s' hg hb=>?_)
  ·rw[hw,Bool.false_or]at hwb
   obtain⟨p,hp⟩:=List.getElem?_of_mem hv;have hlt:=(List.getElem?_eq_some_iff.1 hp).1;have hlt2:p<(cZ te.zero c).length:=by rw[hini.1];exact hlt
   have hbz:=hall _ (List.getElem_mem hlt2);obtain⟨r,hr⟩:=List.getElem?_of_mem hbz
   have hok:EN (cZ te.zero c)[p]=true:=by
    have:∀(l:List AV),a8 l=true-> ∀b∈l,EN b=true:=by
     intro l
     induction l with
     |nil=>intro _ b hb;cases hb
     |cons b l ih=>
      intro h c hc
      simp only[a8]at h
      cases h1:EN b with
      |false=>rw[h1]at h;cases h
      |true=>
       rw[h1]at h;rcases List.mem_cons.1 hc with rfl|hc
       ·exact h1
       ·exact ih h c hc
    exact this _ hwb _ hbz
   exact M4 (hini.2 p _ v (List.getElem?_eq_getElem hlt2) hp) hok
  ·refine⟨AS.kn_of hb,fun cs' hc=>⟨c,by rw[hg],hmc,h63,?_,_,?_,hsz⟩⟩
   ·rw[hb]at hc;cases hc;rw[cP,hzl];exact Nat.mul_le_mul_right _ hmc
   ·rw[hg];exact heap_alloc_new w _
theorem BI (j':Nat) {d t et q m c:Nat} {ty te:Ty} {x y:Operand} {ik ik':IntKind} (hT:∀t d,T t=some d->aU P t d) (hmc:m<=c) (hb:te.bytes*c<=281474976710656) (h63:c<=9223372036854775807) (h1:gd ops s o=some true) (ho:o.op= .makeSlice t x y) (hd:o.dst=some d) (h3:aF n o.dst=true) (ht:T t=some ty) (hel:ty.elem=some (et,q)) (hte:T et=some te) (hq:te.size=q) (hq0:Nat.ble 1 q=true) (hx:s.ev x= .d (.leaf (.val (.int ik (m:Nat))))) (hy:s.ev y= .d (.leaf (.val (.int ik' (c:Nat)))))
 (hnew:fB s j'=true) (hwb:(bR j' || a8 te.zero)=true) (hno:te.zero.all E7=true)
 (h4:eT draw ops (ar ops o ⟨.own j' m q et,some [(j',some (cZ te.zero c))]⟩ [j']) k fps=true) (h:am P T n ops id draw K (k+1) os (s.eff o.dst ⟨.own j' m q et,some [(j',some (cZ te.zero c))]⟩) (ar ops o ⟨.own j' m q et,some [(j',some (cZ te.zero c))]⟩ [j']::fps)):am P T n ops id draw K k (o::os) s fps:=
 .run h1 (.gen fun _ ht2 hrb=>zM (hT _ _ ht) (hT _ _ hte) ho hd hel hq (Nat.le_of_ble_eq_true hq0) ((an ht2 (x:=x) (by rw[ho];simp[Op.operands])).trans hx) ((an ht2 (x:=y) (by rw[ho];simp[Op.operands])).trans hy) hmc hb h63 ((dY (hrb j' (by simp))).trans hnew) hwb (fun b hb=>List.all_eq_true.1 hno b hb)) h3 h4 h
def gV (J q e:Nat):Nat->TV
 |0=> .nil
 |m+1=> .own J (m+1) q e
def gX (cs:List AV):Nat->Option (List AV)
 |0=>none
 |_+1=>some cs
theorem mP.weak {s1 s2:AS} (h:mP P n o s s1) (hw:bi s1 s2):mP P n o s s2:=fun S0 w0 g a w K Q hM hK=>h S0 w0 g a w K Q hM fun g' a' w' hm=>by
 obtain⟨g2,hm2⟩:=hw _ _ _ _ _ ⟨g',hm⟩;exact hK g2 a' w' hm2
theorem bA.to {e:re} (h:bA P o s e) (h3:aF n o.dst=true):mP P n o s (s.eff o.dst e):=fun S0 w0 g a w K Q hM hK=>h n S0 w0 g a w K Q hM (dH h3) hK
theorem gB (j:Nat):bi s ⟨s.t,(j,none)::s.b⟩:=fun _ _ _ _ _ ⟨g,h⟩=>⟨g,h.kill j⟩
theorem bi.tr {a b c:AS} (h:bi a b) (h':bi b c):bi a c:=fun n S0 w0 x w m=>h' n S0 w0 x w (h n S0 w0 x w m)
theorem xo {d:Nat} {x y:TV} {t:List (Nat × TV)} {b:List (Nat × Option (List AV))}:bi ⟨(d,x)::(d,y)::t,b⟩ ⟨(d,x)::t,b⟩:=fun _ _ _ _ _ ⟨g,h⟩=>⟨g,h.ext (fun k=>by
 by_cases e:d=k
 ·subst e;simp only[AS.tv,ah]
 ·simp only[AS.tv,aq _ _ e]) (fun _=>rfl)⟩
theorem OE (J':Nat) {d J:Nat} {x y:Operand} {t et q m1 m2:Nat} {ty te:Ty} {cs xs:List AV} (hT:∀t d,T t=some d->aU P t d) (hb:(m1+m2)*te.bytes<=140737488355328) (hcs:cs.length=m1*q) (hxs:xs.length=m2*q) (hxB:a8 xs=true) (h0:draw=false) (h1:gd ops s o=some true) (ho:o.op= .call ⟨.builtin .append,#[x,y],#[t,t]⟩) (hd:o.dst=some d) (h3:aF n o.dst=true) (ht:T t=some ty) (hel:ty.elem=some (et,q)) (hte:T et=some te) (hq:te.size=q) (hq0:(Nat.ble 1 q && Nat.ble 1 te.bytes)=true)
 (hx:s.ev x=gV J q et m1) (hJ:ai s.b J=some (gX cs m1)) (hy:s.ev y= .d (.leaf (.sl m2 xs))) (hnew:fB s J'=true) (hcl:(a8 te.zero && (!(bR J') && (!(bR J) && !(fO J'))))=true)
 (h:am P T n ops id draw K (k+1) os ⟨(d,gV J' q et (m1+m2))::s.t,(J',gX (cs++xs) (m1+m2))::(J,none)::s.b⟩ (ar ops o ⟨.junk,none⟩ []::fps)):am P T n ops id draw K k (o::os) s fps:=by
 refine .snd h0 h1 ?_ h
 simp only[Bool.and_eq_true,Bool.not_eq_true']at hcl
 obtain⟨c1,c2,c3,c4⟩:=hcl;rw[Bool.and_eq_true]at hq0
 have h63:m1+m2<=9223372036854775807:=by
  exact uk
 have hkill:∀(v:TV),bi (s.eff o.dst ⟨v,none⟩) ⟨(d,v)::s.t,(J',none)::(J,none)::s.b⟩:=fun v=>by
  rw[hd];exact(gB (s:=⟨(d,v)::s.t,s.b⟩) J).tr (gB J')
 cases m2 with
 |zero=>
  have hxe:xs=[]:=List.eq_nil_of_length_eq_zero (by rw[hxs,Nat.zero_mul]);subst hxe;rw[List.append_nil];cases m1 with
  |zero=>exact((oX (hT _ _ ht) ho hel hx hy).to h3).weak (hkill .nil)
  |succ m=>
   refine((ri (hT _ _ ht) ho hel hx (cs:=cs) (by unfold AS.bx;rw[hJ];rfl) hy).to h3).weak ?_;rw[hd];have hl:ai s.b J'=none:=(bg hnew).1;exact bi.tr (aA (s:=⟨(d, .own J (m+1) q et)::s.t,s.b⟩) (q:=d) (j:=J) (m:=m+1) (k:=q) (e:=et) (by simp[AS.tv,ah]) (by show(AS.mk _ s.b).bx J=some cs;unfold AS.bx;rw[hJ];rfl) hl (by rw[c2,c3]) (bg hnew).2 c4) xo
 |succ m2=>
  cases m1 with
  |zero=>
   intro S0 w0 g a w K' Q hM hK;refine fD (hT _ _ ht) (hT _ _ hte) ho hd hel hq (Nat.le_of_ble_eq_true hq0.1) (.nil hx rfl) hy hxs (Nat.zero_lt_succ _) hb h63 (bg hnew) c4 (.inr (by rw[c1,hxB];rfl)) hM (dH h3 d hd) fun g' a' w' hm=>?_
   have hce:cs=[]:=List.eq_nil_of_length_eq_zero (by rw[hcs,Nat.zero_mul]);subst hce;rw[show 0+(m2+1)=m2+1 by omega]at hm hK;have hm:MG n S0 w0 g' ⟨(d, .own J' (m2+1) q et)::s.t,(J',some xs)::s.b⟩ a' w':=by rw[List.take_nil,List.nil_append]at hm;exact hm
   obtain⟨g2,hm2⟩:=(gB (s:=⟨(d, .own J' (m2+1) q et)::s.t,(J',some xs)::s.b⟩) J) _ _ _ _ _ ⟨g',hm⟩;have hJJ:J≠J':=fun e=>by subst e;have:=(bg hnew).1;rw[hJ]at this;cases this
   refine hK g2 a' w' (hm2.ext (fun _=>rfl) fun i=>?_);show ai ((J',some ([]++xs))::(J,none)::s.b) i=ai ((J,none)::(J',some xs)::s.b) i
   by_cases e1:J'=i
   ·subst e1;rw[ah,aq _ _ hJJ,ah];rfl
   ·rw[aq _ _ e1]
    by_cases e2:J=i
    ·subst e2;rw[ah,ah]
    ·rw[aq _ _ e2,aq _ _ e2,aq _ _ e1]
  |succ m1=>
   intro S0 w0 g a w K' Q hM hK;refine fD (dead:=some J) (cs:=cs) (hT _ _ ht) (hT _ _ hte) ho hd hel hq (Nat.le_of_ble_eq_true hq0.1) (.own hx (by unfold AS.bx;rw[hJ];rfl)) hy hxs (Nat.zero_lt_succ _) hb h63 (bg hnew) c4 (.inr (by rw[c1,hxB];show(true && true && !(bR J))=true;rw[c3];rfl)) hM (dH h3 d hd) fun g' a' w' hm=>?_
   rw[<- hcs,List.take_length]at hm;exact hK g' a' w' hm
theorem i8 {q J k e m:Nat} {cs:List AV} (hcs:m=0->cs=[]) (hq:s.tv q=gV J k e m) (hJ:ai s.b J=some (gX cs m)):bi s ⟨(q, .d (.leaf (.sl m cs)))::s.t,(J,none)::s.b⟩:=by
 cases m with
 |zero=>rw[hcs rfl];exact(xJ hq).tr (gB J)
 |succ m=>exact a7 hq (by unfold AS.bx;rw[hJ];rfl)
theorem AZ {q J J' k e m:Nat} {cs:List AV} (hq:s.tv q=gV J k e m) (hJ:ai s.b J=some (gX cs m)) (hn:ai s.b J'=none) (hw:bR J'=bR J:=by rfl) (hrv:iJ J'=false:=by rfl) (hlb:fO J'=false:=by rfl):bi s ⟨(q,gV J' k e m)::s.t,(J',gX cs m)::(J,none)::s.b⟩:=by
 cases m with
 |zero=>
  rintro n S0 w0 a w ⟨g,h⟩;have hm:=h.tm q;rw[hq]at hm;obtain⟨g2,h2⟩:=((gB (s:=⟨(q, .nil)::s.t,s.b⟩) J).tr (gB J')) n S0 w0 a w ⟨g,h.reslot (x:= .nil) hm rfl (by show og (s.tv q)=true;rw[hq];rfl)⟩;exact⟨g2,h2⟩
 |succ m=>exact aA hq (by unfold AS.bx;rw[hJ];rfl) hn hw hrv hlb
end
def Ng:AV->Bool
 | .val _=>true
 | .sl _ cs=>cs.all fun c=>match c with
  | .val (.int .u32 _)=>true
  |_=>false
 |_=>false
def PC:DV->Bool
 | .leaf a=>Ng a
 | .agg cs=>cs.all Ng
def SP:RV->Bool
 | .one d=>PC d
 | .tup l=>l.all PC
theorem MN {S S':Nat->Prop} {w:World} {a:AV} {v:Value} (h:Ng a=true) (hm:AV.M S w a v) (hS:∀b,S' b->S b∨ ∀off v,w.cell? ⟨b,off,none⟩=some v->ge v=true):AV.M S' w a v:=by
 cases hm with
 |val h0=>exact .val h0
 |emp h1 h2 h3=>exact .emp h1 h2 h3
 |sl f h1 h2 h3 h4 h5 h6=>
  rename_i b off c n0 cs
  cases cs with
  |nil=>
   exact .emp h1 h2 (fun h=>by cases h)
  |cons x r=>
   have hx:∃i,x= .val (.int .u32 i):=by
    simp only[Ng,List.all_cons,Bool.and_eq_true]at h
    have:=h.1
    split at this
    ·exact⟨_,rfl⟩
    ·cases this
   obtain⟨i,rfl⟩:=hx;have h50:=h5 0 _ rfl;have h60:=dM (h6 0 _ rfl);rw[h60]at h50;refine .sl f h1 h2 (fun hb=>?_) h4 h5 fun i a hi=>?_
   ·rcases hS b hb with hb|hb
    ·exact h3 hb
    ·have:=hb _ _ h50;cases this
   ·have hw:∃z,a= .val (.int .u32 z):=by
     have h:=List.all_eq_true.1 h a (List.mem_of_getElem? hi)
     split at h
     ·exact⟨_,rfl⟩
     ·cases h
    obtain⟨z,rfl⟩:=hw;rw[dM (h6 i _ hi)];exact .val rfl
 |ow=>cases h
 |bp=>cases h
 |nl=>cases h
theorem Lu {S S':Nat->Prop} {w:World} {d:DV} {v:Value} (h:PC d=true) (hm:DV.M S w d v) (hS:∀b,S' b->S b∨ ∀off v,w.cell? ⟨b,off,none⟩=some v->ge v=true):DV.M S' w d v:=by
 cases d with
 |leaf a=>exact MN h hm hS
 |agg cs=>
  obtain⟨vs,e,hl,hc⟩:=hm;exact⟨vs,e,hl,fun i a v h1 h2=>MN (List.all_eq_true.1 h a (List.mem_of_getElem? h1)) (hc i a v h1 h2) hS⟩
theorem RQ {S S':Nat->Prop} {g:Nat->Nat} {s:AS} {w:World} {r:RV} {v:Value} (h:SP r=true) (hm:RV.M S w r v) (hS:∀b,S' b->S b∨ ∀off v,w.cell? ⟨b,off,none⟩=some v->ge v=true):TV.M S' g s w r.tv v:=by
 cases r with
 |one d=>exact Lu (S:=S) (w:=w) h hm hS
 |tup l=>
  obtain⟨vs,e,hl,hc⟩:=hm;exact⟨vs,e,hl,fun i a v h1 h2=>Lu (List.all_eq_true.1 h a (List.mem_of_getElem? h1)) (hc i a v h1 h2) hS⟩
theorem aa.rdW {P:Program} {f:FuncId} {ds:List DV} {r:RV} (h:aa P f ds r) {ts:List TV} {b:BL} (hts:Hp b ts=some ds) (hr:SP r=true) (hwb:∀j cs,(sB b).bx j=some cs->bR j=false):bw P f ts b (.v r) b:=by
 refine⟨h.enter,fun S g w vs hP hv=>?_⟩;refine(h.calls S w vs ⟨fun w' hb=>hP.tab w' ⟨hb.os,hb.tape,hb.output,hb.size,fun k hk _=>hb.block k hk,fun k hk _ arr e fz he=>⟨arr,fz,(hb.block k hk).trans he,rfl⟩⟩,fun q hq=>⟨(hP.blk q hq).1,(hP.blk q hq).2.2⟩,fun k cs hk=>?_⟩ (u3 hP hts hv)).mono ?_
 ·exact GD
 ·rintro e w' ⟨v,rfl,hm,hb⟩
  refine⟨v,g,rfl,fun j cs cs' h1 h2=>?_,fun j cs' h1=>⟨.inr ⟨j,cs',h1,rfl⟩,?_⟩,hP.inj,RQ hr hm (fun q hq=>?_),⟨hb.os,hb.tape,hb.output,hb.size,fun k hk _=>hb.block k hk,fun k hk _ arr e fz he=>⟨arr,fz,(hb.block k hk).trans he,rfl⟩⟩⟩
  ·rw[h1]at h2;cases h2;exact⟨rfl,Nat.le_refl _⟩
  ·exact MZ
  ·rcases hq with hq| ⟨j,cs',h1,rfl⟩
   ·exact .inl hq
   ·refine .inr fun off v hv=>?_
    obtain⟨arr,e,h7,_,h9,_⟩:=hP.bm j cs' h1;have h7':w'.heap[g j]? =some (.cells arr e (0,0)):=(hb.block _ (Array.getElem?_eq_some_iff.1 h7).1).trans h7;rw[eN h7']at hv;exact h9 (hwb j cs' h1) v (List.mem_of_getElem? (by simpa using hv))
end Go.Proofs.YtmkggcjajcdlcaaGreatDoor
