/- Parts of a proof: contracts of the functions that the laws reach. -/
import Derived.Test.YtnchbpoopnjghaaGreatDoorHZ11
set_option maxHeartbeats 100000000
set_option linter.all false
open Go.Proofs.Tryz
namespace Go.Proofs.YtnchbpoopnjghaaGreatDoor
open Go.RowKit
section
variable {P:Program} {T:TypeId->Option Ty} {n:Nat} {ops:Array Oper} {id:Nat} {draw:Bool} {K:AS->Prop} {s:AS} {k:Nat} {o:Oper} {os:List Oper} {fps:List FP}
theorem nh {P:Program} {w:World} {t et q:Nat} (hu:P.underlying t=some (.slice et)) (hks:(P.info? et).map (·.size)=some q) (A:Option Addr) {m i c:Nat} (ik:IntKind) (hi:i<=m):
 (Instr.sliceAt t (.slice A m c) (some (.int ik (i:Nat))) none none).run P w= .ok (.slice (if c=i then A else A.map (·.add (i*q))) (m-i) (c-i)) w:=by
 have hib:(0:Int)<=(i:Int)/\(i:Int)<=(m:Nat):=⟨by omega,by omega⟩;unfold Instr.sliceAt
 simp only[Sem.run_bind,run_underlying hu w,Result.andThen_ok]
 unfold Instr.slice
 simp only[Sem.run_bind,run_underlying hu w,Result.andThen_ok,Instr.sliceBounds,Instr.sliceBound,Sem.run_pure,asIntOf]
 rw[if_pos hib]
 simp only[Sem.run_pure,Result.andThen_ok,Int.toNat_natCast]
 rw[bE hks w];rfl
theorem q9 {P:Program} {w:World} {t et q:Nat} (hu:P.underlying t=some (.slice et)) (hks:(P.info? et).map (·.size)=some q) (A:Option Addr) {m i c:Nat} (ik:IntKind) (hi:i<=c):
 (Instr.sliceAt t (.slice A m c) none (some (.int ik (i:Nat))) none).run P w= .ok (.slice (if c=0 then A else A.map (·.add (0*q))) i c) w:=by
 have hib:(0:Int)<=(i:Int)/\(i:Int)<=(c:Nat):=⟨by omega,by omega⟩;unfold Instr.sliceAt
 simp only[Sem.run_bind,run_underlying hu w,Result.andThen_ok]
 unfold Instr.slice
 simp only[Sem.run_bind,run_underlying hu w,Result.andThen_ok,Instr.sliceBounds,Instr.sliceBound,Sem.run_pure,asIntOf]
 simp only[Bool.false_eq_true,if_false,if_true]
 rw[if_pos hib]
 simp only[Sem.run_pure,Result.andThen_ok,Int.toNat_natCast]
 rw[bE hks w];rfl
theorem Fs (hT:∀t d,T t=some d->a8 P t d) {t:TypeId} {ty:Ty} {x y:Operand} {et q:Nat} {ik:IntKind} (h1:gd ops s o=some true) (h2:o.op= .slice t x (some y) none none) (h5:T t=some ty) (h6:ty.elem=some (et,q)) (h7:s.ev x= .nil) (h8:s.ev y= .d (.leaf (.val (.int ik (0:Nat)))))
 (h3:aL n o.dst=true) (h4:fh draw ops (aB ops o ⟨.d (.leaf (.sl 0 [])),none⟩ []) k fps=true) (h:au P T n ops id draw K (k+1) os (s.eff o.dst ⟨.d (.leaf (.sl 0 [])),none⟩) (aB ops o ⟨.d (.leaf (.sl 0 [])),none⟩ []::fps)):au P T n ops id draw K k (o::os) s fps:=by
 refine .run h1 (.gen fun s2 ht hrb=>?_) h3 h4 h;have hx:=(ax ht (x:=x) (by simp[h2,Op.operands])).trans h7;have hy:=(ax ht (x:=y) (by simp[h2,Op.operands])).trans h8;obtain⟨u,hu,_,hel,_⟩:=(hT _ _ h5).und;obtain⟨rfl,hks⟩:=hel et q h6;refine am fun n S0 w0 g a w hM=>?_
 have hm:=hM.ev x;rw[hx]at hm;have hm:a.eval x= .slice none 0 0:=hm;have hr:=nh (w:=w) hu hks none (m:=0) (i:=0) (c:=0) ik (Nat.le_refl _);rw[if_pos rfl]at hr;refine⟨.slice none 0 0,w,?_,Below.refl _ _,AV.M.emp (Nat.le_refl _) (by decide) (fun _=>rfl)⟩;unfold execOp;rw[h2]
 simp only[hm,bg hM hy,Option.map_some,Option.map_none,Sem.run_bind,hr,Result.andThen_ok]
 rfl
theorem yz {S0:Nat->Prop} {w0:eu} {g:Nat->Nat} {a:Act} {w:World} (hM:MG n S0 w0 g s a w) {x:Operand} {j m q e2:Nat} {cs:List AV} (hx:s.ev x= .own j m q e2) (hb:s.bx j=some cs):nZ (Own S0 g s) w (a.eval x) m q (cs.take (m*q)):=by
 have hm:=hM.ev x;rw[hx]at hm;obtain⟨c,e1,e2,e3,e4,_⟩:=hm.2 cs hb;obtain⟨_,arr,e,e5,e6,_⟩:=hM.bm j cs hb;have hl:=e6.1;have h0:=e6.sub (off:=0) (k:=m*q) (by omega);rw[List.drop_zero,List.drop_zero]at h0;refine⟨_,c,arr.toList.take (m*q),e1,by simp at hl ⊢;omega,fun i u hi=>?_,h0⟩;rw[b7,dm e5];rw[List.getElem?_take]at hi
 split at hi
 ·simpa using hi
 ·cases hi
theorem Ke (j':Nat) {d:Nat} {x y:Operand} {t et q m1 m2 j2 e2:Nat} {ty te:Ty} {dead:Option Nat} {cs cs2:List AV} (hT:∀t d,T t=some d->a8 P t d) (hm:0<m2) (hb:(m1+m2)*te.bytes<=140737488355328) (hlen:m2*q<=cs2.length) (h1:gd ops s o=some true) (ho:o.op= .call ⟨.builtin .append,#[x,y],#[t,t]⟩) (hd:o.dst=some d) (h3:aL n o.dst=true) (ht:T t=some ty) (hel:ty.elem=some (et,q)) (hte:T et=some te) (hq:te.size=q) (hq0:(Nat.ble 1 q && Nat.ble 1 te.bytes)=true)
 (hbase:eU s x m1 q et dead cs) (hy:s.ev y= .own j2 m2 q e2) (hj2:s.bx j2=some cs2) (hnew:ge s j'=true) (hcl:(bF te.zero && bF (cs2.take (m2*q)) && kd dead)=true)
 (h4:fh draw ops (aB ops o ⟨.own j' (m1+m2) q et,some ((j',some (cs.take (m1*q)++cs2.take (m2*q)))::f3 dead [])⟩ (j'::j2::yh dead)) k fps=true)
 (h:au P T n ops id draw K (k+1) os (s.eff o.dst ⟨.own j' (m1+m2) q et,some ((j',some (cs.take (m1*q)++cs2.take (m2*q)))::f3 dead [])⟩) (aB ops o ⟨.own j' (m1+m2) q et,some ((j',some (cs.take (m1*q)++cs2.take (m2*q)))::f3 dead [])⟩ (j'::j2::yh dead)::fps)):au P T n ops id draw K k (o::os) s fps:=by
 rw[Bool.and_eq_true]at hq0
 have h63:m1+m2<=9223372036854775807:=by
  exact JR
 refine .run h1 (.gen fun s2 ht2 hrb=>?_) h3 h4 h;have hx2:s2.ev x=s.ev x:=ax ht2 (by rw[ho];simp[Op.operands,Call.operands]);have hy2:s2.ev y=s.ev y:=ax ht2 (by rw[ho];simp[Op.operands,Call.operands]);have hb2:s2.bx j2=some cs2:=(bh (hrb j2 (by simp))).trans hj2
 have hbase2:eU s2 x m1 q et dead cs:=by
  exact Ef
 have hnew2:ge s2 j'=true:=(fo (hrb j' (by simp))).trans hnew;intro n S0 w0 g a w K Q hM hdn hK;refine pp (hT _ _ ht) (hT _ _ hte) ho hd hel hq (Nat.le_of_ble_eq_true hq0.1) hbase2 (by rw[List.length_take];omega) hm hb h63 (bD hnew2) (kL hnew2) (.inr hcl) hM (yz hM (hy2.trans hy) hb2) (hdn d hd) fun g' a' w' hM'=>hK g' a' w' ?_
 rw[hd];cases dead<;>exact hM'
theorem rS {s2:AS} {x y:Operand} {t et q m1 j:Nat} {ty:Ty} {ts:List AV} {cs:List AV} (hT:a8 P t ty) (ho:o.op= .call ⟨.builtin .append,#[x,y],#[t,t]⟩) (hel:ty.elem=some (et,q)) (hx2:s2.ev x= .own j m1 q et) (hbj:s2.bx j=some cs) (hy2:s2.ev y= .d (.leaf (.sl 0 ts))):bB P o s2 ⟨.own j m1 q et,none⟩:=by
 obtain⟨u,hu,_,hel',_⟩:=hT.und;obtain⟨rfl,hks⟩:=hel' et q hel;refine am fun n S0 w0 g a w hM=>?_
 have hm:=hM.ev x;rw[hx2]at hm;obtain⟨c,e1,e2,e3,e4,arr,e5,e6⟩:=hm.2 cs hbj;have hm0:=hm;rw[e1]at hm0;have hyv:=hM.ev y;rw[hy2]at hyv;have hyv:AV.M (Own S0 g s2) w (.sl 0 ts) (a.eval y):=hyv
 have hA:∃A c2,a.eval y= .slice A 0 c2:=by
  exact Pr
 obtain⟨A,c2,hv⟩:=hA
 have hr:(Builtin.append_ #[t,t] o.type #[.slice (some ⟨g j,0,none⟩) m1 c, .slice A 0 c2]).run P w= .ok (.slice (some ⟨g j,0,none⟩) m1 c) w:=by
  have hz:∀ad:Addr,(loadCells ad 0).run P w= .ok #[] w:=fun ad=>by
   simpa using run_loadCells_list (P:=P) w ad [] (fun j v hj=>by simp at hj)
  cases A with
  |none=>simp[Builtin.append_,run_underlying hu,bE hks w,Builtin.lenOf,Builtin.firstCells,e2,storeCells]
  |some ad=>simp[Builtin.append_,run_underlying hu,bE hks w,Builtin.lenOf,Builtin.firstCells,e2,storeCells,hz]
 refine⟨.slice (some ⟨g j,0,none⟩) m1 c,w,?_,Below.refl _ _,hm0⟩;unfold execOp
 simp only[ho,resolve,invoke,builtin,Sem.run_bind,Sem.run_pure,Result.andThen_ok,List.map_toArray,List.map_cons,List.map_nil,e1,hv,hr]
theorem QG {x y:Operand} {t et q m1 j:Nat} {ty:Ty} {ts:List AV} {cs:List AV} (hT:∀t d,T t=some d->a8 P t d) (h1:gd ops s o=some true) (ho:o.op= .call ⟨.builtin .append,#[x,y],#[t,t]⟩) (ht:T t=some ty) (hel:ty.elem=some (et,q)) (h7:s.ev x= .own j m1 q et) (hb:s.bx j=some cs) (hy:s.ev y= .d (.leaf (.sl 0 ts)))
 (h3:aL n o.dst=true) (h4:fh draw ops (aB ops o ⟨.own j m1 q et,none⟩ [j]) k fps=true) (h:au P T n ops id draw K (k+1) os (s.eff o.dst ⟨.own j m1 q et,none⟩) (aB ops o ⟨.own j m1 q et,none⟩ [j]::fps)):au P T n ops id draw K k (o::os) s fps:=
 .run h1 (.gen fun _ ht2 hrb=>rS (hT _ _ ht) ho hel ((ax ht2 (x:=x) (by rw[ho];simp[Op.operands,Call.operands])).trans h7) ((bh (hrb j (by simp))).trans hb) ((ax ht2 (x:=y) (by rw[ho];simp[Op.operands,Call.operands])).trans hy)) h3 h4 h
theorem oS {s2:AS} {x y:Operand} {t et q:Nat} {ty:Ty} {ts:List AV} (hT:a8 P t ty) (ho:o.op= .call ⟨.builtin .append,#[x,y],#[t,t]⟩) (hel:ty.elem=some (et,q)) (hx2:s2.ev x= .nil) (hy2:s2.ev y= .d (.leaf (.sl 0 ts))):bB P o s2 ⟨.nil,none⟩:=by
 obtain⟨u,hu,_,hel',_⟩:=hT.und;obtain⟨rfl,hks⟩:=hel' et q hel;refine am fun n S0 w0 g a w hM=>?_
 have hm:=hM.ev x;rw[hx2]at hm;have hm:a.eval x= .slice none 0 0:=hm;have hyv:=hM.ev y;rw[hy2]at hyv;have hyv:AV.M (Own S0 g s2) w (.sl 0 ts) (a.eval y):=hyv
 have hA:∃A c2,a.eval y= .slice A 0 c2:=by
  exact Pr
 obtain⟨A,c2,hv⟩:=hA
 have hr:(Builtin.append_ #[t,t] o.type #[.slice none 0 0, .slice A 0 c2]).run P w= .ok (.slice none 0 0) w:=by
  have hz:∀ad:Addr,(loadCells ad 0).run P w= .ok #[] w:=fun ad=>by
   simpa using run_loadCells_list (P:=P) w ad [] (fun j v hj=>by simp at hj)
  cases A with
  |none=>simp[Builtin.append_,run_underlying hu,bE hks w,Builtin.lenOf,Builtin.firstCells,storeCells]
  |some ad=>simp[Builtin.append_,run_underlying hu,bE hks w,Builtin.lenOf,Builtin.firstCells,storeCells,hz]
 refine⟨.slice none 0 0,w,?_,Below.refl _ _,rfl⟩;unfold execOp
 simp only[ho,resolve,invoke,builtin,Sem.run_bind,Sem.run_pure,Result.andThen_ok,List.map_toArray,List.map_cons,List.map_nil,hm,hv,hr]
theorem La {x y:Operand} {t et q:Nat} {ty:Ty} {ts:List AV} (hT:∀t d,T t=some d->a8 P t d) (h1:gd ops s o=some true) (ho:o.op= .call ⟨.builtin .append,#[x,y],#[t,t]⟩) (ht:T t=some ty) (hel:ty.elem=some (et,q)) (h7:s.ev x= .nil) (hy:s.ev y= .d (.leaf (.sl 0 ts)))
 (h3:aL n o.dst=true) (h4:fh draw ops (aB ops o ⟨.nil,none⟩ []) k fps=true) (h:au P T n ops id draw K (k+1) os (s.eff o.dst ⟨.nil,none⟩) (aB ops o ⟨.nil,none⟩ []::fps)):au P T n ops id draw K k (o::os) s fps:=
 .run h1 (.gen fun _ ht2 _=>oS (hT _ _ ht) ho hel ((ax ht2 (x:=x) (by rw[ho];simp[Op.operands,Call.operands])).trans h7) ((ax ht2 (x:=y) (by rw[ho];simp[Op.operands,Call.operands])).trans hy)) h3 h4 h
theorem CH (j':Nat) {d t et q len:Nat} {ty te:Ty} {parts:Array (Nat × Operand)} {l:List (Nat × DV)} {cs:List AV} (hT:∀t d,T t=some d->a8 P t d) (h1:gd ops s o=some true) (ho:o.op= .buildSlice t len parts) (hd:o.dst=some d) (h3:aL n o.dst=true) (ht:T t=some ty) (hel:ty.elem=some (et,q)) (hte:T et=some te)
 (hk:(Nat.ble 1 q && (Nat.ble 1 len && (Nat.beq te.zero.length q && (Nat.ble (len*q) 16777216 && Nat.beq cs.length (len*q)))))=true) (hp:ej s parts.toList=some l) (hf:mK (fun i=>some (i*q,q)) (iE te.zero len) l=some cs) (hB:bF cs=true) (hnew:ge s j'=true)
 (h4:fh draw ops (aB ops o ⟨.own j' len q et,some [(j',some cs)]⟩ [j']) k fps=true) (h:au P T n ops id draw K (k+1) os (s.eff o.dst ⟨.own j' len q et,some [(j',some cs)]⟩) (aB ops o ⟨.own j' len q et,some [(j',some cs)]⟩ [j']::fps)):au P T n ops id draw K k (o::os) s fps:=by
 simp only[Bool.and_eq_true]at hk
 obtain⟨k1,k2,k3,k4,k5⟩:=hk;have k1:=Nat.le_of_ble_eq_true k1;have k2:=Nat.le_of_ble_eq_true k2;have k3:=Nat.eq_of_beq_eq_true k3;have k4:=Nat.le_of_ble_eq_true k4;have k5:=Nat.eq_of_beq_eq_true k5;refine .run h1 (.gen fun s2 ht2 hrb=>?_) h3 h4 h;have hnew2:ge s2 j'=true:=(fo (hrb j' (by simp))).trans hnew
 have hp2:ej s2 parts.toList=some l:=by
  rw[<- hp];have:∀x∈parts.toList,s2.ev x.2=s.ev x.2:=fun x hx=>ax ht2 (by rw[ho];simp only[Op.operands];simp;exact⟨x.1,by simpa using hx⟩)
  generalize parts.toList=ps at this;clear hp hf
  induction ps with
  |nil=>rfl
  |cons p ps ih=>
   simp only[ej]
   rw[ih (fun x hx=>this x (by simp[hx])),this p (by simp)]
 intro n S0 w0 g a w K' Q hM hdn hK;obtain⟨u,hu,_,hel',_⟩:=(hT _ _ ht).und;obtain⟨rfl,hks⟩:=hel' et q hel;obtain⟨z,hz,hzm⟩:=(hT _ _ hte).zero;have hpos:0<len*q:=Nat.mul_pos k2 k1
 have hzl':z.cells.size=q:=by have:=(hzm (Own S0 g s2) w).1;simp at this;omega
 have hini:CM (Own S0 g s2) w (iE te.zero len) ((Array.range (len*q)).map (fun i=>z.cells[i%z.cells.size]!)).toList:=by
  refine⟨by rw[dx,k3];simp,fun i b v h1 h2=>?_⟩;rw[ka _ (by omega)]at h1
  split at h1
  ·rename_i hi
   rw[k3]at h1 hi;have hm:i%q<q:=Nat.mod_lt _ k1
   have hv:v=z.cells[i%q]'(by omega):=by
    simp[hi,hzl']at h2
    rw[<- h2]
    simp[hzl',hm]
   exact(hzm _ w).2 (i%q) b v h1 (by rw[hv];simp[hzl',hm])
  ·cases h1
 obtain⟨arr,g1,g2⟩:=pY l _ _ _ cs hini (nt hM parts.toList l hp2) hf;have e:(parts.map fun x=>match x with|(i,y)=>(i,a.eval y)).toList=parts.toList.map fun(p:Nat × Operand)=>(p.1,a.eval p.2):=by simp
 have hr:(execOp a.eval o).run P w= .ok (.value (.slice (some ⟨w.heap.size,0,none⟩) len len)) (w.alloc (.cells arr et)):=by
  unfold execOp;rw[ho]
  simp only[Instr.buildSlice,Sem.run_bind,run_underlying hu w,Result.andThen_ok,bE hks w]
  rw[if_neg (by omega),if_neg (by omega)]
  simp only[Sem.run_bind,jN hz w,Result.andThen_ok,Sem.run_pure,e,g1]
  rfl
 unfold Oper.wp;rw[hr];show K' (a.put o.dst _) _;rw[hd]at hK ⊢;have hsz:arr.size=len*q:=by have:=g2.1;simp at this;omega
 have hl1:len<=9223372036854775807:=by
  have:=Nat.le_mul_of_pos_right len k1;omega
 refine hK _ _ _ (hM.alloc (hdn d hd) (bD hnew2).1 (bD hnew2).2 g2.cp (fun _=>jp g2 hB) (kP hB) (fun h=>by rw[qt hnew2]at h;cases h) fun g' s' hg hb=>?_);refine⟨AS.kn_of hb,fun cs' hc=>⟨len,by rw[hg],Nat.le_refl _,hl1,?_,arr,?_,hsz⟩⟩
 ·rw[hb]at hc;cases hc;exact Nat.le_of_eq k5.symm
 ·rw[hg];exact heap_alloc_new w _
theorem H4 {q:Nat} (hq:s.tv q= .nil):aJ s ⟨(q, .d (.leaf (.sl 0 [])))::s.t,s.b⟩:=by
 rintro n S0 w0 a w ⟨g,h⟩;have hm:=h.tm q;rw[hq]at hm;exact⟨g,h.reslot (Gt (tv:= .nil) rfl hm) rfl (by show oE (s.tv q)=true;rw[hq];rfl)⟩
theorem HQ {q m:Nat} {cs:List AV} (i:Nat) (hq:s.tv q= .d (.leaf (.sl m cs))):aJ s ⟨(q, .d (.leaf (.sl m (cs.take i))))::s.t,s.b⟩:=by
 rintro n S0 w0 a w ⟨g,h⟩;have hm:=h.tm q;rw[hq]at hm;have hm:AV.M (Own S0 g s) w (.sl m cs) (a.tmps.getD q Go.undef):=hm
 have key:AV.M (Own S0 g s) w (.sl m (cs.take i)) (a.tmps.getD q Go.undef):=by
  generalize a.tmps.getD q Go.undef=v at hm
  have hc:∀(p:Nat) (b:AV),(cs.take i)[p]? =some b->cs[p]? =some b:=fun p b hb=>by
   rw[List.getElem?_take]at hb
   split at hb
   ·exact hb
   ·cases hb
  cases hm with
  |emp h1 h2 h3=>rw[List.take_nil];exact .emp h1 h2 h3
  |sl f h1 h2 h3 h4 h5 h6=>exact .sl f h1 h2 h3 h4 (fun p b hb=>h5 p b (hc p b hb)) (fun p b hb=>h6 p b (hc p b hb))
 exact⟨g,h.reslot key rfl (by show oE (s.tv q)=true;rw[hq];rfl)⟩
end
def Cb (J:Nat):List L8->TV
 | []=> .nil
 |a::r=> .own J (a::r).length 1 9
def IU:List L8->Option (List AV)
 | []=>none
 |a::r=>some (aO (a::r))
theorem iB (l:List L8):(aO l).length=l.length:=by simp[aO]
theorem mr (a b:List L8):aO (a++b)=aO a++aO b:=by simp[aO]
theorem KV {l:List L8} {i:Nat} {x:L8} (h:l[i]? =some x):(aO l)[i*1]? =some (.val (vL x)):=by simp[aO,h]
theorem eX {l:List L8} {i:Nat} {x:L8} (h:l[i]? =some x):∀(j:Nat) (a:AV),[AV.val (vL x)][j]? =some a->(aO l)[i*1+j]? =some a:=fun j a hj=>by
 cases j with
 |zero=>cases hj;exact KV h
 |succ j=>cases hj
theorem C1:∀{cs:List AV},(∀a∈cs,∃l,a= .val (vL l))->bF cs=true
 | [],_=>rfl
 |a::r,h=>by
  obtain⟨l,rfl⟩:=h a (by simp);have ih:=C1 (cs:=r) (fun b hb=>h b (by simp[hb]))
  simp only[bF,ih]
  rfl
theorem Kg {l:List L8} {a:AV} (h:a∈aO l):∃x,a= .val (vL x):=by
 obtain⟨x,_,rfl⟩:=List.mem_map.1 h;exact⟨x,rfl⟩
theorem uL (l:List L8):bF (aO l)=true:=C1 fun _ h=>Kg h
theorem DG (t:List (Nat × TV)) (b:List (Nat × Option (List AV))) (q J:Nat) (l:List L8) (y:L8) (r:List L8):(⟨(q,Cb J (l++y::r))::t,(J,IU (l++y::r))::b⟩:AS)=⟨(q, .own J (l.length+(y::r).length) 1 9)::t,(J,some ((aO l).take (l.length*1)++aO (y::r)))::b⟩:=by
 have e1:Cb J (l++y::r)= .own J (l.length+(y::r).length) 1 9:=by
  cases l with
  |nil=>simp[Cb]
  |cons a l=>simp[Cb];omega
 have e2:IU (l++y::r)=some ((aO l).take (l.length*1)++aO (y::r)):=by
  rw[Nat.mul_one,List.take_of_length_le (Nat.le_of_eq (iB l)),<- mr];cases l<;>rfl
 rw[e1,e2]
theorem FG {args:List Rx} {i:Nat} (h:i<args.length):fZ (args.take (i+1))=fZ (args.take i)++oY args[i]:=by
 have app:∀a b:List Rx,fZ (a++b)=fZ a++fZ b:=by
  intro a b
  induction a with
  |nil=>simp[fZ]
  |cons x r ih=>simp[fZ,ih]
 rw[List.take_add_one,app]
 simp[h,fZ]
theorem y2:∀(l:List L8) (x:L8),(mc l x).length<=l.length+1
 | [],x=>by simp[mc]
 |y::r,x=>by
  have ih:=y2 r x;unfold mc
  split
  ·simp only[List.length_cons];omega
  ·split <;>simp
theorem As (l:List L8):(ke l).length<=l.length:=by
 have:∀(l acc:List L8),(l.foldl mc acc).length<=acc.length+l.length:=by
  intro l
  induction l with
  |nil=>intro acc;simp
  |cons x l ih=>
   intro acc;have h1:=ih (mc acc x);have h2:=y2 acc x;rw[List.foldl_cons,List.length_cons];omega
 have:=this l []
 simpa[ke]using this
theorem Dk:∀x,(oY x).length<=fi x:=by
 refine ef fun op na xs nb ys nm args ih=>?_
 have key:∀l:List Rx,(∀y∈l,(oY y).length<=fi y)->(fZ l).length<=dX l:=by
  intro l
  induction l with
  |nil=>intro _;simp[fZ]
  |cons y l ihl=>
   intro h;have h1:=h y (by simp);have h2:=ihl (fun z hz=>h z (by simp[hz]));rw[fZ,dX,List.length_append];omega
 have h1:=key args ih;rw[oY,fi];refine Nat.le_trans (As _) ?_;rw[List.length_append]
 split <;>simp <;>omega
theorem J1 (l:List Rx):(fZ l).length<=dX l:=by
 induction l with
 |nil=>simp[fZ]
 |cons y l ihl=>
  have h1:=Dk y;rw[fZ,dX,List.length_append];omega
theorem tZ (l:List Rx) (i:Nat):(fZ (l.take i)).length<=dX l:=by
 have h:dX (l.take i)<=dX l:=by
  induction l generalizing i with
  |nil=>simp
  |cons y l ih=>
   cases i with
   |zero=>simp[dX]
   |succ i=>have:=ih i;simp only[List.take_succ_cons,dX];omega
 exact Nat.le_trans (J1 _) h
theorem UG {t:TypeId} {p q:Operand} {a b:L8} {v:Bool} (h:Op.bytesLess a b=v):j6 .lss t p q (vL a) (vL b)=some (.bool v):=by rw[uM,h]
def UN:AV->Bool
 | .val _=>true
 |_=>false
def UP:DV->Bool
 | .leaf a=>UN a
 | .agg cs=>cs.all UN
def VN:RV->Bool
 | .one d=>UP d
 | .tup l=>l.all UP
theorem NY {S S':Nat->Prop} {w w':World} {a:AV} {v:Value} (h:UN a=true) (hm:AV.M S w a v):AV.M S' w' a v:=by
 cases hm with
 |val h0=>exact .val h0
 |_=>cases h
theorem Ny {S S':Nat->Prop} {w w':World} {d:DV} {v:Value} (h:UP d=true) (hm:DV.M S w d v):DV.M S' w' d v:=by
 cases d with
 |leaf a=>exact NY h hm
 |agg cs=>
  obtain⟨vs,e,hl,hc⟩:=hm;exact⟨vs,e,hl,fun i a v h1 h2=>NY (List.all_eq_true.1 h a (List.mem_of_getElem? h1)) (hc i a v h1 h2)⟩
theorem R4 {S S':Nat->Prop} {g:Nat->Nat} {s:AS} {w w':World} {r:RV} {v:Value} (h:VN r=true) (hm:RV.M S w r v):TV.M S' g s w' r.tv v:=by
 cases r with
 |one d=>exact Ny (S:=S) (w:=w) h hm
 |tup l=>
  obtain⟨vs,e,hl,hc⟩:=hm;exact⟨vs,e,hl,fun i a v h1 h2=>Ny (List.all_eq_true.1 h a (List.mem_of_getElem? h1)) (hc i a v h1 h2)⟩
def TK (b:BL):TV->Option DV
 | .d x=>some x
 | .own j n _ _=>match ak b j with
  |some cs=>some (.leaf (.sl n cs))
  |none=>none
 | .vw j o n k=>match ak b j with
  |some cs=>some (.leaf (.sl n (cs.drop (o*k))))
  |none=>none
 | .vs j o n _ k _=>match ak b j with
  |some cs=>some (.leaf (.sl n (cs.drop (o*k))))
  |none=>none
 | .nil=>some (.leaf (.sl 0 []))
 |_=>none
def KF (b:BL):List TV->Option (List DV)
 | []=>some []
 |t::r=>match TK b t,KF b r with
  |some d,some l=>some (d::l)
  |_,_=>none
theorem jU:∀{b:BL} {j:Nat} {cs:List AV},ak b j=some cs->ak (av b) j=some (some cs)
 | [],_,_,h=>by cases h
 |(i,c)::r,j,cs,h=>by
  by_cases e:i=j
  ·subst e;rw[ai]at h;cases h;exact ai _ _ _
  ·rw[ar _ _ e]at h;simp only[av,ar _ _ e];exact jU h
theorem Bz {S:Nat->Prop} {g:Nat->Nat} {w:World} {b:BL} (hP:EW S g w b) {j n o c:Nat} {cs:List AV} (hj:ak b j=some cs) (h1:n<=c) (h2:c<=9223372036854775807):AV.M S w (.sl n (cs.drop o)) (.slice (some ⟨g j,o,none⟩) n c):=by
 have hb:(sB b).bx j=some cs:=bM.2 (jU hj);obtain⟨arr,e,h7,h8,_⟩:=hP.bm j cs hb;have hn:¬S (g j):=fun h=>(hP.blk _ h).2.1 ⟨j,cs,hb,rfl⟩
 have hl:=h8.1
 simp only[Array.length_toList]at hl
 have hlt:∀i (x:AV),(cs.drop o)[i]? =some x->cs[o+i]? =some x/\o+i<arr.size:=fun i x hi=>by
  rw[List.getElem?_drop]at hi;exact⟨hi,Nat.lt_of_lt_of_le (List.getElem?_eq_some_iff.1 hi).1 hl⟩
 refine AV.M.sl (fun i=>arr.getD (o+i) undef) h1 h2 hn (Array.getElem?_eq_some_iff.1 h7).1 (fun i x hi=>?_) (fun i x hi=>?_)
 ·have:=(hlt i x hi).2
  simp[World.cell?,h7,this]
 ·have:=(hlt i x hi).2
  exact(h8.2 (o+i) x _ (hlt i x hi).1 (by simp[this])).agree (bT.refl _ _) (fun _ _ h=> .inl h)
theorem Qk {S:Nat->Prop} {g:Nat->Nat} {w:World} {b:BL} (hP:EW S g w b) {t:TV} {d:DV} {v:Value} (hd:TK b t=some d) (hm:TV.M (Own S g (sB b)) g (sB b) w t v):DV.M S w d v:=by
 cases t with
 |d x=>
  cases hd;exact DV.M.agree hm (bT.refl _ _) (fun _ _ h=> .inl h)
 |own j n k e=>
  simp only[TK]at hd
  split at hd
  ·rename_i cs hj
   cases hd;obtain⟨c,e1,e2,e3,_⟩:=hm.2 cs (bM.2 (jU hj));rw[e1];exact Bz hP (o:=0) hj e2 e3
  ·cases hd
 |vw j o n k=>
  simp only[TK]at hd
  split at hd
  ·rename_i cs hj
   cases hd;obtain⟨c,e1,e2,e3,_⟩:=hm.2 cs (bM.2 (jU hj));rw[e1];exact Bz hP hj e2 e3
  ·cases hd
 |vs j o n c0 k e=>
  simp only[TK]at hd
  split at hd
  ·rename_i cs hj
   cases hd;obtain⟨e1,e2,e3,_⟩:=hm.2 cs (bM.2 (jU hj));rw[e1];exact Bz hP hj e2 e3
  ·cases hd
 |nil=>
  cases hd;have:v= .slice none 0 0:=hm;rw[this];exact AV.M.emp (Nat.le_refl _) (by omega) (fun _=>rfl)
 |_=>cases hd
theorem xe {S:Nat->Prop} {g:Nat->Nat} {w:World} {b:BL} (hP:EW S g w b):∀{ts:List TV} {ds:List DV} {vs:List Value},KF b ts=some ds->nK (Own S g (sB b)) g (sB b) w ts vs->VM S w ds vs
 | [],ds,[],hd,_=>by cases hd;trivial
 |t::ts,ds,v::vs,hd,hm=>by
  simp only[KF]at hd
  split at hd
  ·rename_i d l h1 h2
   cases hd;exact⟨Qk hP h1 hm.1,xe hP h2 hm.2⟩
  ·cases hd
 | [],_,_::_,_,h=>h.elim
 |_::_,_,[],_,h=>h.elim
theorem aa.rd {P:Program} {f:FuncId} {ds:List DV} {r:RV} (h:aa P f ds r) {ts:List TV} {b:BL} (hts:KF b ts=some ds) (hr:VN r=true):aw P f ts b (.v r) b:=by
 refine⟨h.enter,fun S g w vs hP hv=>?_⟩;refine(h.calls S w vs ⟨fun w' hb=>hP.tab w' ⟨hb.os,hb.tape,hb.output,hb.size,fun k hk _=>hb.block k hk,fun k hk _ arr e fz he=>⟨arr,fz,(hb.block k hk).trans he,rfl⟩⟩,fun q hq=>⟨(hP.blk q hq).1,(hP.blk q hq).2.2⟩,fun k cs hk=>?_⟩ (xe hP hts hv)).mono ?_
 ·obtain⟨b,off,f,e,hn,hl,h1,h2⟩:=hP.gl k cs hk
  exact⟨b,off,f,e,fun h=>hn (.inl h),hl,h1,fun i a hi=>(h2 i a hi).agree (bT.refl _ _) (fun _ _ h=> .inl h)⟩
 ·rintro e w' ⟨v,rfl,hm,hb⟩
  refine⟨v,g,rfl,fun j cs cs' h1 h2=>?_,fun j cs' h1=>⟨.inr ⟨j,cs',h1,rfl⟩,?_⟩,hP.inj,R4 hr hm,⟨hb.os,hb.tape,hb.output,hb.size,fun k hk _=>hb.block k hk,fun k hk _ arr e fz he=>⟨arr,fz,(hb.block k hk).trans he,rfl⟩⟩⟩
  ·rw[h1]at h2;cases h2;exact⟨rfl,Nat.le_refl _⟩
  ·have:=hP.bm j cs' h1
   exact this.agree (hb.block _ this.lt) (.of_below hb) (fun _ _ h=>h) (iO.same hb rfl)
def S7 (p:Pm):List AV:= .val (vL p.1)::aR p.2
def Ga:Tb->List AV
 | []=>[]
 |p::r=>S7 p++Ga r
def Ma (p:Pm):DV:= .agg (S7 p)
def gP (l:Tb):DV:= .leaf (.sl l.length (Ga l))
def eE (n:L8) (o:Int) (na:Bool) (xs:List Nat) (nb:Bool) (ys:List Nat) (nm:List UInt8) (k:Nat) (cs:List AV):List AV:= .val (vL n)::ab o na xs nb ys nm k cs
theorem eS (p:Pm):∃o na xs nb ys nm k cs,aR p.2=ab o na xs nb ys nm k cs/\S7 p=eE p.1 o na xs nb ys nm k cs:=by
 obtain⟨o1,na1,xs1,nb1,ys1,nm1,n1,cs1,hA⟩:=aM p.2;exact⟨o1,na1,xs1,nb1,ys1,nm1,n1,cs1,hA,congrArg (AV.val (vL p.1):: ·) hA⟩
theorem CJ (p:Pm):(S7 p).length=8:=by
 show(aR p.2).length+1=8;rw[BW]
theorem jS:∀(l:Tb) (i:Nat) (p:Pm),l[i]? =some p-> ∀(j:Nat) (a:AV),(S7 p)[j]? =some a->(Ga l)[i*8+j]? =some a
 | [],i,p,h,_,_,_=>by simp at h
 |q::l,0,p,h,j,a,ha=>by
  simp at h
  subst h
  simp only[Ga,Nat.zero_mul,Nat.zero_add]
  exact Ot
 |q::l,i+1,p,h,j,a,ha=>by
  simp only[Ga]
  rw[List.getElem?_append_right (by rw[CJ];omega),CJ,show(i+1)*8+j-8=i*8+j by omega];exact jS l i p (by simpa using h) j a ha
theorem bn {α:Type} {o:List α} {k:Nat} {n:α} (hk:o[k]? =some n):o.take (k+1)=o.take k++[n]:=by
 obtain⟨h,e⟩:=List.getElem?_eq_some_iff.1 hk;rw[List.take_succ_eq_append_getElem h,e]
structure Fg (x:Rx):Prop where
 wd:ls x
 lt:qm x=true
 sz:fi x<=120
theorem Fg.lm {x:Rx} (h:Fg x):BG x:=BG.of_lt x h.lt
def KM (l:Tb):Prop:=∀p∈l,p.1.length<=60/\Fg p.2
def Ac (l:List L8):DV:= .leaf (.sl l.length (aO l))
theorem Qm {l:Tb} {i:Nat} {p:Pm} (h:l[i]? =some p):Il l i (l.drop i)=if kh p.1=true then(if iI p.2=0 then(if ml l p.1<i then 5 else Il l (i+1) (l.drop (i+1)))else iI p.2)else 1:=by
 obtain⟨hi,e⟩:=List.getElem?_eq_some_iff.1 h;rw[List.drop_eq_getElem_cons hi,e,Il]
theorem xt {l:Tb} {out:List L8} {i:Nat} {p:Pm} (h:l[i]? =some p) {nx:L8} (hn:(l.take i).foldl (sP out) []=nx):(l.take (i+1)).foldl (sP out) []=sP out nx p:=by rw[MQ h,hn]
def AD:Ex->List (List UInt8)
 | .num _ _=>[]
 | .nam s=>[s]
 | .neg a=>AD a
 | .bin _ a b=>AD a++AD b
theorem x8 {a b:Nat} (h:digs a=digs b):a=b:=by rw[<- af a,h,af]
theorem wa:∀{a b:Ex},rx a=rx b->a=b
 | .num v u, .num v' u',h=>by
  simp only[rx,Rx.mk.injEq,decide_eq_decide]at h
  obtain⟨_,h1,h2,_,h3,h4,_⟩:=h;have h2:=x8 h2;have h3:=x8 h3;have:v=v':=Rat.ext (by omega) (by omega);rw[this,h4]
 | .num _ _, .nam _,h=>by simp[rx]at h
 | .num _ _, .neg _,h=>by simp[rx]at h
 | .num _ _, .bin k _ _,h=>by cases k<;>simp[rx,B4.code]at h
 | .nam _, .num _ _,h=>by simp[rx]at h
 | .nam _, .nam _,h=>by simp[rx]at h;rw[h]
 | .nam _, .neg _,h=>by simp[rx]at h
 | .nam _, .bin k _ _,h=>by cases k<;>simp[rx,B4.code]at h
 | .neg _, .num _ _,h=>by simp[rx]at h
 | .neg _, .nam _,h=>by simp[rx]at h
 | .neg a, .neg b,h=>by simp[rx]at h;rw[wa h]
 | .neg _, .bin k _ _,h=>by cases k<;>simp[rx,B4.code]at h
 | .bin k _ _, .num _ _,h=>by cases k<;>simp[rx,B4.code]at h
 | .bin k _ _, .nam _,h=>by cases k<;>simp[rx,B4.code]at h
 | .bin k _ _, .neg _,h=>by cases k<;>simp[rx,B4.code]at h
 | .bin k a b, .bin k' a' b',h=>by
  simp only[rx,Rx.mk.injEq,List.cons.injEq,and_true,true_and]at h
  obtain⟨h1,h2,h3⟩:=h;have:k=k':=by cases k<;>cases k'<;>first|rfl|simp[B4.code]at h1
  rw[this,wa h2,wa h3]
noncomputable def lJ (x:Rx):Ex:= @dite _ (∃e,x=rx e/\f4 e) (Classical.propDecidable _) (fun h=>Classical.choose h) (fun _=> .nam [])
theorem wX {e:Ex} (h:f4 e):lJ (rx e)=e:=by
 have h0:∃e',rx e=rx e'/\f4 e':=⟨e,rfl,h⟩;unfold lJ;rw[dif_pos h0];exact(wa (Classical.choose_spec h0).1).symm
theorem A8 {x:Rx} (h:∃e,x=rx e/\f4 e):rx (lJ x)=x/\f4 (lJ x):=by
 obtain⟨e,rfl,hf⟩:=h;rw[wX hf];exact⟨rfl,hf⟩
theorem Ek:∀(e:Ex) (n:L8),n∈oY (rx e)↔n∈AD e
 | .num v u,n=>by simp[rx,oY,fZ,AD,gt]
 | .nam s,n=>by simp[rx,oY,fZ,AD,gt]
 | .neg a,n=>by simp[rx,oY,fZ,AD,gt,Ek a]
 | .bin k a b,n=>by
  have:¬k.code=2:=by cases k<;>decide
  simp[rx,oY,fZ,AD,gt,Ek a,Ek b,this]
theorem iJ {u v:L8->Option (Rat × Int)}:∀{e:Ex},(∀n∈AD e,u n=v n)->ct u e=ct v e
 | .num _ _,_=>rfl
 | .nam s,h=>by simp only[ct,h s (by simp[AD])]
 | .neg a,h=>by simp only[ct,iJ (e:=a) h]
 | .bin k a b,h=>by simp only[ct,iJ (e:=a) (fun n hn=>h n (List.mem_append_left _ hn)),iJ (e:=b) (fun n hn=>h n (List.mem_append_right _ hn))]
def pT:EL->L8->Nat
 | [],_=>0
 |y::r,n=>if Op.bytesLess y.1 n=true then pT r n+1 else 0
def jd (l:EL) (n:L8) (v:Rat × Int):EL:=l.take (pT l n)++(n,v)::l.drop (pT l n)
theorem wq:∀(l:EL) (n:L8),pT l n<=l.length
 | [],_=>Nat.le_refl _
 |y::r,n=>by
  unfold pT
  split
  ·have:=wq r n;simp;omega
  ·exact Nat.zero_le _
theorem H1:∀{l:EL} {n:L8} {i:Nat} {x:L8 × (Rat × Int)},i<pT l n->l[i]? =some x->Op.bytesLess x.1 n=true
 | [],n,i,x,_,h=>by simp at h
 |y::r,n,i,x,hi,h=>by
  unfold pT at hi
  split at hi
  ·rename_i hy
   cases i with
   |zero=>simp at h;subst h;exact hy
   |succ i=>exact H1 (l:=r) (n:=n) (i:=i) (by omega) (by simpa using h)
  ·omega
theorem G0:∀{l:EL} {n:L8} {x:L8 × (Rat × Int)},l[pT l n]? =some x->Op.bytesLess x.1 n=false
 | [],n,x,h=>by simp[pT]at h
 |y::r,n,x,h=>by
  unfold pT at h
  split at h
  ·exact G0 (l:=r) (by simpa using h)
  ·rename_i hy;simp at h;subst h;simpa using hy
theorem rK {l:EL} {n:L8} {v:Rat × Int} {x:L8 × (Rat × Int)}:x∈jd l n v↔x=(n,v)∨x∈l:=by
 unfold jd
 conv=>rhs;rw[<- List.take_append_drop (pT l n) l]
 simp only[List.mem_append,List.mem_cons]
 grind
theorem Gk (l:EL) (n:L8) (v:Rat × Int):(jd l n v).length=l.length+1:=by
 have:=wq l n
 simp[jd]
 omega
theorem Fr (y:L8 × (Rat × Int)) (r:EL) (n:L8) (v:Rat × Int):jd (y::r) n v=if Op.bytesLess y.1 n=true then y::jd r n v else(n,v)::y::r:=by
 unfold jd
 conv=>lhs;unfold pT
 split <;>simp
theorem fN {y:L8 × (Rat × Int)} {r:EL}:eD (y::r)↔(∀x∈r,Op.bytesLess y.1 x.1=true)/\eD r:=by
 constructor
 ·intro h
  refine⟨fun x hx=>?_,fun i j a b hij ha hb=>h (i+1) (j+1) a b (by omega) (by simpa using ha) (by simpa using hb)⟩;obtain⟨i,hi⟩:=List.getElem?_of_mem hx;exact h 0 (i+1) y x (by omega) rfl (by simpa using hi)
 ·rintro⟨h1,h2⟩ i j a b hij ha hb
  cases j with
  |zero=>omega
  |succ j=>
   cases i with
   |zero=>simp at ha;subst ha;exact h1 b (List.mem_of_getElem? (by simpa using hb))
   |succ i=>exact h2 i j a b (by omega) (by simpa using ha) (by simpa using hb)
theorem s9:eD []:=fun i j a b _ h=>by simp at h
theorem pi:∀{l:EL} {n:L8} {v:Rat × Int},eD l->(∀x∈l,x.1≠n)->eD (jd l n v)
 | [],n,v,_,_=>by
  rw[show jd [] n v=[(n,v)] from rfl,fN];exact⟨fun x hx=>absurd hx (by simp),s9⟩
 |y::r,n,v,h,hn=>by
  rw[Fr];rw[fN]at h
  split
  ·rename_i hy
   rw[fN];refine⟨fun x hx=>?_,pi h.2 (fun x hx=>hn x (by simp[hx]))⟩;rcases rK.1 hx with rfl|hx
   ·exact hy
   ·exact h.1 x hx
  ·rename_i hy
   have hy:Op.bytesLess y.1 n=false:=by simpa using hy
   have hny:Op.bytesLess n y.1=true:=by
    cases hb:Op.bytesLess n y.1
    ·exact absurd (oK hy hb) (hn y (by simp))
    ·rfl
   rw[fN,fN];refine⟨fun x hx=>?_,h⟩;rcases List.mem_cons.1 hx with rfl|hx
   ·exact hny
   ·exact fc hny (h.1 x hx)
theorem HT {l:EL} (hs:eD l) {n:L8} {v:Rat × Int}:bt l n=some v↔(n,v)∈l:=by
 constructor
 ·intro h
  clear hs
  induction l with
  |nil=>cases h
  |cons y r ih=>
   simp only[bt]at h
   split at h
   ·rename_i e;cases h;subst e;simp
   ·simp[ih h]
 ·intro h
  obtain⟨i,hi⟩:=List.getElem?_of_mem h;exact CQ hs hi
def RW (l:Tb) (n:L8):Rx:=match l[ml l n]? with
 |some p=>p.2
 |none=> .mk 0 false [] false [] [] []
theorem Aa.fx {l:Tb} (h:Aa l) {p:Pm} (hp:p∈l):RW l p.1=p.2:=by
 obtain⟨i,hi⟩:=List.getElem?_of_mem hp;unfold RW;rw[h.fd hi,hi]
noncomputable def pQ (l:Tb):List L8->EL->Except Int EL
 | [],env=> .ok env
 |n::r,env=>match ct (bt env) (lJ (RW l n))with
  | .ok x=>pQ l r (jd env n x)
  | .error e=> .error e
noncomputable def yQ (l:Tb):Except Int EL:=if(fJ l).2=0 then pQ l (fJ l).1 []else .error (fJ l).2
inductive Hv (l:Tb):L8->Rat × Int->Prop
 |mk {p:Pm} {x:Rat × Int} (f:L8->Rat × Int):p∈l->(∀n∈AD (lJ p.2),Hv l n (f n))->ct (fun n=>some (f n)) (lJ p.2)= .ok x->Hv l p.1 x
theorem Hv.fn {l:Tb} (hl:Aa l) {n:L8} {x:Rat × Int} (h:Hv l n x):∀{y:Rat × Int},Hv l n y->x=y:=by
 induction h with
 | @mk p x f hp hf hx ih=>
  intro y hy;generalize hn:p.1=n at hy;cases hy with
  | @mk q _ g hq hg hy=>
   obtain⟨i,hi⟩:=List.getElem?_of_mem hp;obtain⟨j,hj⟩:=List.getElem?_of_mem hq;have:=hl.nd _ _ _ _ hi hj hn;subst this;rw[hi]at hj;cases hj;have:ct (fun n=>some (f n)) (lJ p.2)=ct (fun n=>some (g n)) (lJ p.2):=iJ fun n hn=>by rw[ih n hn (hg n hn)]
   rw[this,hy]at hx;exact(Except.ok.inj hx).symm
structure wP (l:Tb) (done:List L8) (env:EL):Prop where
 so:eD env
 ky:∀n,n∈done ↔ ∃v,(n,v)∈env
 hv:∀x∈env,Hv l x.1 x.2
theorem wP.nil (l:Tb):wP l [] []:=⟨s9,fun n=>by simp,fun x h=>by cases h⟩
theorem wP.env {l:Tb} {done:List L8} {env:EL} (h:wP l done env) {n:L8} (hn:n∈done):∃v,bt env n=some v/\Hv l n v:=by
 obtain⟨v,hv⟩:=(h.ky n).1 hn;exact⟨v,(HT h.so).2 hv,h.hv _ hv⟩
theorem wP.ev {l:Tb} {done:List L8} {env:EL} (h:wP l done env) {e:Ex} (hn:∀n∈AD e,n∈done):ct (bt env) e=ct (fun n=>some ((bt env n).getD (0,0))) e:=iJ fun n hm=>by
 obtain⟨v,h1,_⟩:=h.env (hn n hm);rw[h1];rfl
theorem wP.has {l:Tb} {done:List L8} {env:EL} (h:wP l done env) {p:Pm} (hp:p∈l) {x:Rat × Int} (hn:∀n∈AD (lJ p.2),n∈done) (hx:ct (bt env) (lJ p.2)= .ok x):Hv l p.1 x:=by
 rw[h.ev hn]at hx;refine .mk _ hp (fun n hm=>?_) hx;obtain⟨v,h1,h2⟩:=h.env (hn n hm);rw[h1];exact h2
theorem wP.step {l:Tb} {done:List L8} {env:EL} (h:wP l done env) {p:Pm} (hd:p.1 ∉ done) {x:Rat × Int} (hx:Hv l p.1 x):wP l (done ++[p.1]) (jd env p.1 x):=by
 have hne:∀y∈env,y.1≠p.1:=fun y hy e=>hd ((h.ky _).2 ⟨y.2,by rw[<- e];exact hy⟩)
 refine⟨pi h.so hne,fun n=>?_,fun y hy=>?_⟩
 ·simp only[List.mem_append,List.mem_singleton,rK,Prod.mk.injEq,h.ky n]
  constructor
  ·rintro(⟨v,hv⟩|rfl)
   ·exact⟨v, .inr hv⟩
   ·exact⟨x, .inl ⟨rfl,rfl⟩⟩
  ·rintro⟨v,⟨rfl,rfl⟩|hv⟩
   ·exact .inr rfl
   ·exact .inl ⟨v,hv⟩
 ·rcases rK.1 hy with rfl|hy
  ·exact hx
  ·exact h.hv y hy
def RP (l:Tb):Prop:=∀p∈l,∃e,p.2=rx e/\f4 e
theorem RP.ns {l:Tb} (h:RP l) {p:Pm} (hp:p∈l) (n:L8):n∈AD (lJ p.2)↔n∈oY p.2:=by
 have:=(A8 (h p hp)).1
 conv=>rhs;rw[<- this]
 exact(Ek _ _).symm
theorem Sr {l:List L8} (h:l.Nodup) {i j:Nat} {a:L8} (hi:l[i]? =some a) (hj:l[j]? =some a):i=j:=by
 obtain⟨h1,e1⟩:=List.getElem?_eq_some_iff.1 hi;obtain⟨h2,e2⟩:=List.getElem?_eq_some_iff.1 hj;have hp:=List.pairwise_iff_getElem.1 (List.nodup_iff_pairwise_ne.1 h);rcases Nat.lt_trichotomy i j with h3|h3|h3
 ·exact absurd (e1.trans e2.symm) (hp i j h1 h2 h3)
 ·exact h3
 ·exact absurd (e2.trans e1.symm) (hp j i h2 h1 h3)
theorem od.at {l:Tb} (hl:Aa l) (hf:RP l) {o:List L8} (h:od l o) {k:Nat} {n:L8} (hk:o[k]? =some n):∃p∈l,p.1=n/\RW l n=p.2/\n ∉ o.take k/\ ∀m∈AD (lJ p.2),m∈o.take k:=by
 obtain⟨p,hp,rfl⟩:=h.mem n (List.mem_of_getElem? hk);refine⟨p,hp,rfl,hl.fx hp,fun hn=>?_,fun m hm=>h.up k _ p hk hp rfl m ((hf.ns hp m).1 hm)⟩;obtain⟨i,hi⟩:=List.getElem?_of_mem hn;rw[List.getElem?_take]at hi
 split at hi
 ·have:=Sr h.nd hi hk
  omega
 ·cases hi
theorem D4 {l:Tb} (hl:Aa l) (hf:RP l) {o:List L8} (h:od l o):∀(r:List L8) (k:Nat) (env env':EL),o.drop k=r->wP l (o.take k) env->pQ l r env= .ok env'->wP l o env'
 | [],k,env,env',hr,hI,he=>by
  cases he
  rwa[List.take_of_length_le (List.drop_eq_nil_iff.1 hr)]at hI
 |n::r,k,env,env',hr,hI,he=>by
  have hk:o[k]? =some n:=by have:=congrArg (·[0]?) hr;simpa using this
  obtain⟨p,hp,rfl,e1,e2,e3⟩:=h.at hl hf hk
  simp only[pQ,e1]at he
  split at he
  ·rename_i x hx
   refine D4 hl hf h r (k+1) _ env' (by rw[<- List.drop_drop,hr];rfl) ?_ he;rw[bn hk];exact hI.step e2 (hI.has hp e3 hx)
  ·cases he
theorem yC {l:Tb}:∀{r:List L8} {env:EL} {e:Int},pQ l r env= .error e->e≠0
 | [],env,e,h=>by cases h
 |n::r,env,e,h=>by
  simp only[pQ]at h
  split at h
  ·exact yC h
  ·rename_i e' h';cases h;exact eC h'
theorem BV {x:Rx} (hx:ls x) (hm:BG x) (h:iI x=0):∃e,x=rx e/\f4 e:=by
 refine Qy x hx hm ?_;unfold iI at h;cases hf:rF x
 ·rw[hf]at h;simp at h
 ·rfl
theorem Kf {l:Tb} (hf:Aa l->RP l) {env:EL} (h:yQ l= .ok env):Aa l/\(fJ l).2=0/\eD env/\(∀n,(∃v,(n,v)∈env)↔ ∃p∈l,p.1=n)/\(∀x∈env,Hv l x.1 x.2)/\env.length<=l.length:=by
 unfold yQ at h
 split at h
 ·rename_i h0
  obtain⟨o,ho⟩:∃o,(fJ l).1=o:=⟨_,rfl⟩;rw[ho]at h;obtain⟨hl,ht,hn⟩:=Cm (l:=l) (o:=o) (by rw[<- ho,<- h0]);have hI:=D4 hl (hf hl) ht o 0 [] env (by simp) (wP.nil l) h;refine⟨hl,h0,hI.so,fun n=>?_,hI.hv,?_⟩
  ·rw[<- hI.ky]
   constructor
   ·exact ht.mem n
   ·rintro⟨p,hp,rfl⟩;exact ht.all hn p hp
  ·have hnd:(env.map (·.1)).Nodup:=by
    refine List.nodup_iff_pairwise_ne.2 (List.pairwise_iff_getElem.2 fun i j hi hj hij e=>?_)
    simp only[List.length_map]at hi hj
    simp only[List.getElem_map]at e
    have:=hI.so i j _ _ hij (List.getElem?_eq_getElem hi) (List.getElem?_eq_getElem hj);rw[e,jk]at this;cases this
   have:=nN (b:=l.map (·.1)) hnd fun x hx=>by
    obtain⟨y,hy,rfl⟩:=List.mem_map.1 hx;obtain⟨p,hp,e⟩:=ht.mem _ ((hI.ky y.1).2 ⟨y.2,hy⟩);exact List.mem_map.2 ⟨p,hp,e⟩
   simpa using this
 ·cases h
theorem sY:∀(e:Ex),qm (rx e)=true->zT e
 | .num v u,h=>by
  simp only[rx,qm,nX,Bool.and_eq_true,decide_eq_true_eq]at h
  exact⟨Sz.of_digs h.2.1.1,Sz.of_digs h.2.1.2⟩
 | .nam s,_=>trivial
 | .neg a,h=>by
  simp only[rx,qm,nX,Bool.and_eq_true]at h
  exact sY a h.1.1
 | .bin k a b,h=>by
  simp only[rx,qm,nX,Bool.and_eq_true]at h
  exact⟨sY a h.1.1,sY b h.1.2.1⟩
theorem sO:∀(e:Ex),nI e<=400*fi (rx e)
 | .num v u=>by simp[nI,rx,fi,dX]
 | .nam s=>by simp[nI,rx,fi,dX]
 | .neg a=>by have:=sO a;simp only[nI,rx,fi,dX];omega
 | .bin k a b=>by have:=sO a;have:=sO b;simp only[nI,rx,fi,dX];omega
section
variable {P:Program} {T:TypeId->Option Ty} {n:Nat} {ops:Array Oper} {id:Nat} {draw:Bool} {K:AS->Prop} {s:AS} {k:Nat} {o:Oper} {os:List Oper} {fps:List FP}
def gV (J q e:Nat):Nat->TV
 |0=> .nil
 |m+1=> .own J (m+1) q e
def gX (cs:List AV):Nat->Option (List AV)
 |0=>none
 |_+1=>some cs
theorem ny.weak {s1 s2:AS} (h:ny P n o s s1) (hw:aJ s1 s2):ny P n o s s2:=fun S0 w0 g a w K Q hM hK=>h S0 w0 g a w K Q hM fun g' a' w' hm=>by
 obtain⟨g2,hm2⟩:=hw _ _ _ _ _ ⟨g',hm⟩;exact hK g2 a' w' hm2
theorem bB.to {e:rX} (h:bB P o s e) (h3:aL n o.dst=true):ny P n o s (s.eff o.dst e):=fun S0 w0 g a w K Q hM hK=>h n S0 w0 g a w K Q hM (dG h3) hK
theorem gi (j:Nat):aJ s ⟨s.t,(j,none)::s.b⟩:=fun _ _ _ _ _ ⟨g,h⟩=>⟨g,h.kill j⟩
theorem aJ.tr {a b c:AS} (h:aJ a b) (h':aJ b c):aJ a c:=fun n S0 w0 x w m=>h' n S0 w0 x w (h n S0 w0 x w m)
theorem Ju {d:Nat} {x y:TV} {t:List (Nat × TV)} {b:List (Nat × Option (List AV))}:aJ ⟨(d,x)::(d,y)::t,b⟩ ⟨(d,x)::t,b⟩:=fun _ _ _ _ _ ⟨g,h⟩=>⟨g,h.ext (fun k=>by
 by_cases e:d=k
 ·subst e;simp only[AS.tv,ai]
 ·simp only[AS.tv,ar _ _ e]) (fun _=>rfl)⟩
theorem Qw (J':Nat) {d J:Nat} {x y:Operand} {t et q m1 m2:Nat} {ty te:Ty} {cs xs:List AV} (hT:∀t d,T t=some d->a8 P t d) (hb:(m1+m2)*te.bytes<=140737488355328) (hcs:cs.length=m1*q) (hxs:xs.length=m2*q) (hxB:bF xs=true) (h0:draw=false) (h1:gd ops s o=some true) (ho:o.op= .call ⟨.builtin .append,#[x,y],#[t,t]⟩) (hd:o.dst=some d) (h3:aL n o.dst=true) (ht:T t=some ty) (hel:ty.elem=some (et,q)) (hte:T et=some te) (hq:te.size=q) (hq0:(Nat.ble 1 q && Nat.ble 1 te.bytes)=true)
 (hx:s.ev x=gV J q et m1) (hJ:ak s.b J=some (gX cs m1)) (hy:s.ev y= .d (.leaf (.sl m2 xs))) (hnew:ge s J'=true) (hcl:(bF te.zero && (!(bG J') && (!(bG J) && !(b5 J'))))=true)
 (h:au P T n ops id draw K (k+1) os ⟨(d,gV J' q et (m1+m2))::s.t,(J',gX (cs++xs) (m1+m2))::(J,none)::s.b⟩ (aB ops o ⟨.junk,none⟩ []::fps)):au P T n ops id draw K k (o::os) s fps:=by
 refine .snd h0 h1 ?_ h
 simp only[Bool.and_eq_true,Bool.not_eq_true']at hcl
 obtain⟨c1,c2,c3,c4⟩:=hcl;rw[Bool.and_eq_true]at hq0
 have h63:m1+m2<=9223372036854775807:=by
  exact JR
 have hkill:∀(v:TV),aJ (s.eff o.dst ⟨v,none⟩) ⟨(d,v)::s.t,(J',none)::(J,none)::s.b⟩:=fun v=>by
  rw[hd];exact(gi (s:=⟨(d,v)::s.t,s.b⟩) J).tr (gi J')
 cases m2 with
 |zero=>
  have hxe:xs=[]:=List.eq_nil_of_length_eq_zero (by rw[hxs,Nat.zero_mul]);subst hxe;rw[List.append_nil];cases m1 with
  |zero=>exact((oS (hT _ _ ht) ho hel hx hy).to h3).weak (hkill .nil)
  |succ m=>
   refine((rS (hT _ _ ht) ho hel hx (cs:=cs) (by unfold AS.bx;rw[hJ];rfl) hy).to h3).weak ?_;rw[hd];have hl:ak s.b J'=none:=(bD hnew).1;exact aJ.tr (aV (s:=⟨(d, .own J (m+1) q et)::s.t,s.b⟩) (q:=d) (j:=J) (m:=m+1) (k:=q) (e:=et) (by simp[AS.tv,ai]) (by show(AS.mk _ s.b).bx J=some cs;unfold AS.bx;rw[hJ];rfl) hl (by rw[c2,c3]) (bD hnew).2 c4) Ju
 |succ m2=>
  cases m1 with
  |zero=>
   intro S0 w0 g a w K' Q hM hK;refine eY (hT _ _ ht) (hT _ _ hte) ho hd hel hq (Nat.le_of_ble_eq_true hq0.1) (.nil hx rfl) hy hxs (Nat.zero_lt_succ _) hb h63 (bD hnew) c4 (.inr (by rw[c1,hxB];rfl)) hM (dG h3 d hd) fun g' a' w' hm=>?_
   have hce:cs=[]:=List.eq_nil_of_length_eq_zero (by rw[hcs,Nat.zero_mul]);subst hce;rw[show 0+(m2+1)=m2+1 by omega]at hm hK;have hm:MG n S0 w0 g' ⟨(d, .own J' (m2+1) q et)::s.t,(J',some xs)::s.b⟩ a' w':=by rw[List.take_nil,List.nil_append]at hm;exact hm
   obtain⟨g2,hm2⟩:=(gi (s:=⟨(d, .own J' (m2+1) q et)::s.t,(J',some xs)::s.b⟩) J) _ _ _ _ _ ⟨g',hm⟩;have hJJ:J≠J':=fun e=>by subst e;have:=(bD hnew).1;rw[hJ]at this;cases this
   refine hK g2 a' w' (hm2.ext (fun _=>rfl) fun i=>?_);show ak ((J',some ([]++xs))::(J,none)::s.b) i=ak ((J,none)::(J',some xs)::s.b) i
   by_cases e1:J'=i
   ·subst e1;rw[ai,ar _ _ hJJ,ai];rfl
   ·rw[ar _ _ e1]
    by_cases e2:J=i
    ·subst e2;rw[ai,ai]
    ·rw[ar _ _ e2,ar _ _ e2,ar _ _ e1]
  |succ m1=>
   intro S0 w0 g a w K' Q hM hK;refine eY (dead:=some J) (cs:=cs) (hT _ _ ht) (hT _ _ hte) ho hd hel hq (Nat.le_of_ble_eq_true hq0.1) (.own hx (by unfold AS.bx;rw[hJ];rfl)) hy hxs (Nat.zero_lt_succ _) hb h63 (bD hnew) c4 (.inr (by rw[c1,hxB];show(true && true && !(bG J))=true;rw[c3];rfl)) hM (dG h3 d hd) fun g' a' w' hm=>?_
   rw[<- hcs,List.take_length]at hm;exact hK g' a' w' hm
theorem je {q J k e m:Nat} {cs:List AV} (hcs:m=0->cs=[]) (hq:s.tv q=gV J k e m) (hJ:ak s.b J=some (gX cs m)):aJ s ⟨(q, .d (.leaf (.sl m cs)))::s.t,(J,none)::s.b⟩:=by
 cases m with
 |zero=>rw[hcs rfl];exact(H4 hq).tr (gi J)
 |succ m=>exact cu hq (by unfold AS.bx;rw[hJ];rfl)
theorem Ci {q J J' k e m:Nat} {cs:List AV} (hq:s.tv q=gV J k e m) (hJ:ak s.b J=some (gX cs m)) (hn:ak s.b J'=none) (hw:bG J'=bG J:=by rfl) (hrv:iq J'=false:=by rfl) (hlb:b5 J'=false:=by rfl):aJ s ⟨(q,gV J' k e m)::s.t,(J',gX cs m)::(J,none)::s.b⟩:=by
 cases m with
 |zero=>
  rintro n S0 w0 a w ⟨g,h⟩;have hm:=h.tm q;rw[hq]at hm;obtain⟨g2,h2⟩:=((gi (s:=⟨(q, .nil)::s.t,s.b⟩) J).tr (gi J')) n S0 w0 a w ⟨g,h.reslot (x:= .nil) hm rfl (by show oE (s.tv q)=true;rw[hq];rfl)⟩;exact⟨g2,h2⟩
 |succ m=>exact aV hq (by unfold AS.bx;rw[hJ];rfl) hn hw hrv hlb
end
def N1:AV->Bool
 | .val _=>true
 | .sl _ cs=>cs.all fun c=>match c with
  | .val (.int .u32 _)=>true
  |_=>false
 |_=>false
def RL:DV->Bool
 | .leaf a=>N1 a
 | .agg cs=>cs.all N1
def UY:RV->Bool
 | .one d=>RL d
 | .tup l=>l.all RL
section
variable {P:Program} {T:TypeId->Option Ty} {n:Nat} {ops:Array Oper} {id:Nat} {draw:Bool} {K:AS->Prop} {s:AS} {k:Nat} {o:Oper} {os:List Oper} {fps:List FP}
end
section
variable {P:Program} {T:TypeId->Option Ty} {n:Nat} {ops:Array Oper} {id:Nat} {draw:Bool} {K:AS->Prop} {s:AS} {k:Nat} {o:Oper} {os:List Oper} {fps:List FP}
theorem SD (hT:∀t d,T t=some d->a8 P t d) {t:TypeId} {ty:Ty} {x y:Operand} {et q m i:Nat} {ik:IntKind} {cs:List AV} (hi:i<=m) (h1:gd ops s o=some true) (h2:o.op= .slice t x none (some y) none) (h5:T t=some ty) (h6:ty.elem=some (et,q)) (h7:s.ev x= .d (.leaf (.sl m cs))) (h8:s.ev y= .d (.leaf (.val (.int ik (i:Nat)))))
 (h3:aL n o.dst=true) (h4:fh draw ops (aB ops o ⟨.d (.leaf (.sl i (cs.take (i*q)))),none⟩ []) k fps=true) (h:au P T n ops id draw K (k+1) os (s.eff o.dst ⟨.d (.leaf (.sl i (cs.take (i*q)))),none⟩) (aB ops o ⟨.d (.leaf (.sl i (cs.take (i*q)))),none⟩ []::fps)):au P T n ops id draw K k (o::os) s fps:=by
 refine .run h1 (.gen fun s2 ht _=>?_) h3 h4 h;have hx:=(ax ht (x:=x) (by simp[h2,Op.operands])).trans h7;have hy:=(ax ht (x:=y) (by simp[h2,Op.operands])).trans h8;obtain⟨u,hu,_,hel,_⟩:=(hT _ _ h5).und;obtain⟨rfl,hks⟩:=hel et q h6;refine am fun n S0 w0 g a w hM=>?_
 have hm:=hM.ev x;rw[hx]at hm;have hm:AV.M (Own S0 g s2) w (.sl m cs) (a.eval x):=hm;have hiv:=bg hM hy
 have key:∃v,(Instr.sliceAt t (a.eval x) none (some (.int ik (i:Nat))) none).run P w= .ok v w/\AV.M (Own S0 g s2) w (.sl i (cs.take (i*q))) v:=by
  generalize a.eval x=v at hm;cases hm with
  |emp e1 e2 e3=>
   rename_i A c
   refine⟨_,q9 hu hks A ik (by omega),?_⟩;rw[List.take_nil];refine .emp (by omega) (by omega) (fun hA=>?_)
   split at hA
   ·assumption
   ·exact e3 (by cases A<;>simp_all)
  |sl f e1 e2 e3 e4 e5 e6=>
   rename_i b off c
   have hA:(if c=0 then some (⟨b,off,none⟩:Addr)else(some (⟨b,off,none⟩:Addr)).map (·.add (0*q)))=some ⟨b,off,none⟩:=by
    split
    ·rfl
    ·show some ((⟨b,off,none⟩:Addr).add (0*q))=_
     rw[b7,Nat.zero_mul,Nat.add_zero]
   have hr:=q9 (P:=P) (w:=w) hu hks (some (⟨b,off,none⟩:Addr)) (m:=m) (i:=i) (c:=c) ik (by omega);rw[hA]at hr;refine⟨_,hr,?_⟩
   have hc:∀(p:Nat) (b:AV),(cs.take (i*q))[p]? =some b->cs[p]? =some b:=fun p b hb=>by
    rw[List.getElem?_take]at hb
    split at hb
    ·exact hb
    ·cases hb
   exact .sl f (by omega) (by omega) e3 e4 (fun j x hj=>e5 _ _ (hc j x hj)) (fun j x hj=>e6 _ _ (hc j x hj))
 obtain⟨v,hr,hv⟩:=key;refine⟨v,w,?_,Below.refl _ _,hv⟩;unfold execOp;rw[h2]
 simp only[hiv,Option.map_some,Option.map_none,Sem.run_bind,hr,Result.andThen_ok]
 rfl
theorem QV (hT:∀t d,T t=some d->a8 P t d) {t:TypeId} {ty:Ty} {x y:Operand} {et q m i d:Nat} {ik:IntKind} {cs:List AV} (hcs:cs.length<=m*q) (hi:i<=m) (hd:m-i=d) (h1:gd ops s o=some true) (h2:o.op= .slice t x (some y) none none) (h5:T t=some ty) (h6:ty.elem=some (et,q)) (h7:s.ev x= .d (.leaf (.sl m cs))) (h8:s.ev y= .d (.leaf (.val (.int ik (i:Nat)))))
 (h3:aL n o.dst=true) (h4:fh draw ops (aB ops o ⟨.d (.leaf (.sl d (cs.drop (i*q)))),none⟩ []) k fps=true) (h:au P T n ops id draw K (k+1) os (s.eff o.dst ⟨.d (.leaf (.sl d (cs.drop (i*q)))),none⟩) (aB ops o ⟨.d (.leaf (.sl d (cs.drop (i*q)))),none⟩ []::fps)):au P T n ops id draw K k (o::os) s fps:=by
 subst hd;exact OK hT hcs hi h1 h2 h5 h6 h7 h8 h3 h4 h
end
theorem mD:∀{cs:List AV},bF cs=true↔ ∀a∈cs,KN a=true
 | []=>by simp[bF]
 |a::cs=>by
  simp only[bF,List.mem_cons,forall_eq_or_imp]
  cases h:KN a
  ·simp
  ·simp[mD (cs:=cs)]
theorem Gh {a b:List AV} (h:bF a=true) (k:bF b=true):bF (a++b)=true:=mD.2 fun x hx=>by
 rcases List.mem_append.1 hx with hx|hx
 ·exact mD.1 h x hx
 ·exact mD.1 k x hx
section
variable {P:Program} {T:TypeId->Option Ty} {n:Nat} {ops:Array Oper} {id:Nat} {draw:Bool} {K:AS->Prop} {s:AS} {k:Nat} {o:Oper} {os:List Oper} {fps:List FP}
end
theorem KT.of:∀x,BG x->fi x<=1000000->KT x:=by
 refine ef fun op na xs nb ys nm args ih hm hs=>?_
 obtain⟨hx1,hy1,_,hm1⟩:xs.length<=510/\ys.length<=510/\nm.length<=65536/\ ∀x∈args,BG x:=by cases hm with|mk a b c d=>exact⟨a,b,c,d⟩
 rw[fi]at hs;have hge:=qq args
 have key:∀l:List Rx,∀x∈l,fi x<=dX l:=by
  intro l
  induction l with
  |nil=>intro x h;cases h
  |cons y r ihr=>
   intro x h;rcases List.mem_cons.1 h with rfl|h
   ·simp[dX]
   ·have:=ihr x h;simp only[dX];omega
 exact .mk (by omega) (by omega) (by omega) (fun x hx=>ih x hx (hm1 x hx) (by have:=key args x hx;omega))
theorem Fg.lw {x:Rx} (h:Fg x):KT x:=KT.of x h.lm (by have:=h.sz;omega)
theorem Qs (env:EL):iv env=Ac (env.map (·.1)):=by
 unfold iv Ac aO;rw[List.length_map,List.map_map];rfl
theorem Le (a b:EL):mb (a++b)=mb a++mb b:=by
 induction a with
 |nil=>rfl
 |cons x a ih=>simp only[List.cons_append,mb,ih,List.append_assoc]
theorem vA (q:Rat) (p:Int):(lY q p).length=5:=rfl
theorem CD:∀l:EL,(mb l).length=l.length*5
 | []=>rfl
 |x::r=>by rw[mb,List.length_append,vA,CD r,List.length_cons];omega
theorem zD:∀(l:EL) (i:Nat),(mb l).take (i*5)=mb (l.take i)
 | [],i=>by simp[mb]
 |x::r,0=>by simp[mb]
 |x::r,i+1=>by
  rw[List.take_succ_cons,mb,mb,show(i+1)*5=(lY x.2.1 x.2.2).length+i*5 by rw[vA];omega,List.take_length_add_append,zD r i]
theorem zU:∀(l:EL) (i:Nat),(mb l).drop (i*5)=mb (l.drop i)
 | [],i=>by simp[mb]
 |x::r,0=>by simp
 |x::r,i+1=>by
  rw[List.drop_succ_cons,mb,show(i+1)*5=(lY x.2.1 x.2.2).length+i*5 by rw[vA];omega,List.drop_length_add_append,zU r i]
theorem D9:∀l:EL,bF (mb l)=true
 | []=>rfl
 |x::r=>Gh (a:=lY x.2.1 x.2.2) rfl (D9 r)
def VD:Except Int EL->RV
 | .ok env=> .tup [iv env,jF env,dN .i64 0]
 | .error e=> .tup [.leaf (.sl 0 []), .leaf (.sl 0 []),dN .i64 e]
structure R2 (l:Tb):Prop where
 sm:KM l
 len:l.length<=500
 hv:∀n x,Hv l n x->dO 400 x.1/\pR x.2=true
theorem Aa.fx_of {l:Tb} (hs:KM l) (ho:Aa l):RP l:=fun p hp=>BV (hs p hp).2.wd (hs p hp).2.lm (ho.ex p hp)
theorem Ri {l:Tb} (hs:KM l) (ho:Aa l) {p:Pm} (hp:p∈l):zT (lJ p.2)/\nI (lJ p.2)<=1000000/\rx (lJ p.2)=p.2:=by
 have h1:=A8 (ho.fx_of hs p hp);refine⟨sY _ (by rw[h1.1];exact(hs p hp).2.lt),?_,h1.1⟩;have h2:=sO (lJ p.2);rw[h1.1]at h2;have:=(hs p hp).2.sz;omega
theorem I7 {l:Tb} (h:(fJ l).2≠0):yQ l= .error (fJ l).2:=by unfold yQ;rw[if_neg h]
noncomputable def Qb (l:Tb) (x:Rx):RV:=if iI x=0 then(match yQ l with
 | .ok env=>ew (ct (bt env) (lJ x))
 | .error e=> .tup [AU,dN .i64 e])else .tup [AU,dN .i64 (iI x)]
theorem Mh {l:Tb} (hs:KM l) (hV:(fJ l).2=0->R2 l) {env:EL} (h:yQ l= .ok env):eD env/\env.length<=1000000/\ ∀x∈env,dO 400 x.2.1/\pR x.2.2=true:=by
 obtain⟨h1,h2,h3,_,h5,h6⟩:=Kf (fun h=>h.fx_of hs) h;have hv:=hV h2;exact⟨h3,by have:=hv.len;omega,fun x hx=>hv.hv _ _ (h5 x hx)⟩
theorem Qr {x:Rx} (hx:Fg x) (h0:iI x=0):zT (lJ x)/\nI (lJ x)<=1000000/\rx (lJ x)=x:=by
 have h1:=A8 (BV hx.wd hx.lm h0);refine⟨sY _ (by rw[h1.1];exact hx.lt),?_,h1.1⟩;have h2:=sO (lJ x);rw[h1.1]at h2;have:=hx.sz;omega
theorem Qd {l:Tb} {e:Int} (h:yQ l= .error e):e≠0:=by
 unfold yQ at h
 split at h
 ·exact yC h
 ·rename_i h0;cases h;exact h0
section
variable {P:Program} {T:TypeId->Option Ty} {n:Nat} {ops:Array Oper} {id:Nat} {draw:Bool} {K:AS->Prop} {s:AS} {k:Nat} {o:Oper} {os:List Oper} {fps:List FP}
end
theorem C4 (F:List L8) (x:L8):(aO F).take (F.length*1)++[.val (vL x)]=aO (F++[x]):=by
 rw[Nat.mul_one,List.take_of_length_le (Nat.le_of_eq (iB F)),mr];rfl
abbrev MC (n:L8):List AV:=[.val (vL n)]
theorem Bg {n:L8}:dp [(900,MC n)] [(900,MC n)]:=dp.one (Nat.le_refl 1)
theorem EA (q:Pm) (n:L8):aw Tryz.prog 246 [.d (Ma q), .box 900 0] [(900,MC n)] (.v (.one (dB (decide (q.1=n))))) [(900,MC n)]:=by
 obtain⟨o1,na1,xs1,nb1,ys1,nm1,n1,cs1,hA,hB⟩:=eS q;rw[show Ma q= .agg (eE q.1 o1 na1 xs1 nb1 ys1 nm1 n1 cs1) from congrArg DV.agg hB]
 by_cases e:q.1=n
 ·rw[decide_eq_true e]
  refine aS ah dq func246 rfl rfl rfl rfl rfl (Bg) ?_;refine Ok ?_;refine aq rfl rfl rfl rfl rfl rfl rfl (bv (a:=q.1) (b:=n) e) ?_;exact ju
 ·rw[decide_eq_false e]
  refine aS ah dq func246 rfl rfl rfl rfl rfl (Bg) ?_;refine Ok ?_;refine aq rfl rfl rfl rfl rfl rfl rfl (bL (a:=q.1) (b:=n) e) ?_;exact ju
theorem wU {fid:FuncId} {p:Pm->Bool} {n:L8} (l:Tb) (hp:∀x∈l,aw Tryz.prog fid [.d (Ma x), .box 900 0] [(900,MC n)] (.v (.one (dB (p x)))) [(900,MC n)]) (hl:l.length<=1000000):aw Tryz.prog 245 [.d (gP l), .clo (.func fid) [] [.box 900 0]] [(900,MC n)] (.v (.one (dN .i64 (if l.findIdx p<l.length then((l.findIdx p:Nat):Int)else -1)))) [(900,MC n)]:=by
 have hf:=List.findIdx_le_length (p:=p) (xs:=l)
 have hn:∀(i:Nat) (hi:i<l.length),i<l.findIdx p->p l[i]=false:=fun i hi h=>by
  exact OD
 have hy:∀(h:l.findIdx p<l.length),p (l[l.findIdx p])=true:=fun h=>List.findIdx_getElem
 generalize l.findIdx p=f at *;refine aS ah dq func245 rfl rfl rfl rfl rfl (Bg) ?_;refine kW ?_
 refine ay Nat (fun i=>i<=f) (fun i=>⟨[(0, .d (gP l)),(1, .clo (.func fid) [] [.box 900 0]),(4, .d (dN .i64 0)),(7, .d (dN .i64 l.length)),(8, .d (dN .i64 i))],[(900,some (MC n))]⟩) (fun i=>l.length-i) 0 (Nat.zero_le _)
  kw ?_
 intro i hi;refine kI ?_
 by_cases hlt:i<l.length
 ·refine kT ?_
  have hx:l[i]? =some l[i]:=by simp[hlt]
  have c:=hp l[i] (List.getElem_mem hlt);have hni:=hn i hlt;have hyi:∀h:i=f,p l[i]=true:=fun h=>by subst h;exact hy hlt
  generalize l[i]=q at *;obtain⟨o1,na1,xs1,nb1,ys1,nm1,n1,cs1,hA,hB⟩:=eS q;have hat:∀(j:Nat) (a:AV),(eE q.1 o1 na1 xs1 nb1 ys1 nm1 n1 cs1)[j]? =some a->(Ga l)[i*8+j]? =some a:=fun j a h=>jS l i q hx j a (by rw[hB];exact h)
  rw[show Ma q= .agg (eE q.1 o1 na1 xs1 nb1 ys1 nm1 n1 cs1) from congrArg DV.agg hB]at c;refine kW ?_;refine aG (i:=i) (cs':=eE q.1 o1 na1 xs1 nb1 ys1 nm1 n1 cs1) hlt hat (Nat.zero_lt_succ 7) rfl rfl rfl rfl rfl rfl rfl rfl ?_;refine kO ?_;exact GE
 ·rw[if_neg (by omega)]
  refine kE ?_;exact ju
theorem xz:∀(l:Tb) (n:L8),ml l n=l.findIdx fun q=>decide (q.1=n)
 | [],_=>rfl
 |p::r,n=>by
  rw[ml,List.findIdx_cons,<- xz r n]
  by_cases e:p.1=n<;>simp[e]
theorem rE (l:Tb) (n:L8) (hl:l.length<=1000000):aa Tryz.prog 180 [gP l,dL n] (.one (dN .i64 (R1 l n))):=by
 have c:=(wU (fid:=246) (p:=fun q=>decide (q.1=n)) (n:=n) l (fun x _=>EA x n) hl).swap 900 0 rfl;rw[<- xz l n]at c;unfold R1;generalize(if ml l n<l.length then((ml l n:Nat):Int)else -1)=f at *;refine kV func180 ?_;refine kD (c) ?_;exact ap
end Go.Proofs.YtnchbpoopnjghaaGreatDoor
