/- Parts of a proof: contracts of the functions that the laws reach. -/
import Derived.Test.YtnchbpoopnjghaaGreatDoorDZ11
set_option maxHeartbeats 100000000
set_option linter.all false
open Go.Proofs.Tryz
namespace Go.Proofs.YtnchbpoopnjghaaGreatDoor
open Go.RowKit
section
variable {P:Program} {T:TypeId->Option Ty} {n:Nat} {ops:Array Oper} {id:Nat} {draw:Bool} {K:AS->Prop} {s:AS} {k:Nat} {o:Oper} {os:List Oper} {fps:List FP}
theorem Rj (hT:∀t d,T t=some d->aY P t d) {t:TypeId} {ty:Ty} {x y:Operand} {et q m i:Nat} {ik:IntKind} {cs:List AV} (hi:i<=m) (h1:gd ops s o=some true) (h2:o.op= .slice t x none (some y) none) (h5:T t=some ty) (h6:ty.elem=some (et,q)) (h7:s.ev x= .d (.leaf (.sl m cs))) (h8:s.ev y= .d (.leaf (.val (.int ik (i:Nat)))))
 (h3:aG n o.dst=true) (h4:eY draw ops (az ops o ⟨.d (.leaf (.sl i (cs.take (i*q)))),none⟩ []) k fps=true) (h:aq P T n ops id draw K (k+1) os (s.eff o.dst ⟨.d (.leaf (.sl i (cs.take (i*q)))),none⟩) (az ops o ⟨.d (.leaf (.sl i (cs.take (i*q)))),none⟩ []::fps)):aq P T n ops id draw K k (o::os) s fps:=by
 refine .run h1 (.gen fun s2 ht _=>?_) h3 h4 h;have hx:=(aw ht (x:=x) (by simp[h2,Op.operands])).trans h7;have hy:=(aw ht (x:=y) (by simp[h2,Op.operands])).trans h8;obtain⟨u,hu,_,hel,_⟩:=(hT _ _ h5).und;obtain⟨rfl,hks⟩:=hel et q h6;refine an fun n S0 w0 g a w hM=>?_
 have hm:=hM.ev x;rw[hx]at hm;have hm:AV.M (Own S0 g s2) w (.sl m cs) (a.eval x):=hm;have hiv:=bh hM hy
 have key:∃v,(Instr.sliceAt t (a.eval x) none (some (.int ik (i:Nat))) none).run P w= .ok v w/\AV.M (Own S0 g s2) w (.sl i (cs.take (i*q))) v:=by
  generalize a.eval x=v at hm;cases hm with
  |emp e1 e2 e3=>
   rename_i A c
   refine⟨_,qN hu hks A ik (by omega),?_⟩;rw[List.take_nil];refine .emp (by omega) (by omega) (fun hA=>?_)
   split at hA
   ·assumption
   ·exact e3 (by cases A<;>simp_all)
  |sl f e1 e2 e3 e4 e5 e6=>
   rename_i b off c
   have hA:(if c=0 then some (⟨b,off,none⟩:Addr)else(some (⟨b,off,none⟩:Addr)).map (·.add (0*q)))=some ⟨b,off,none⟩:=by
    split
    ·rfl
    ·show some ((⟨b,off,none⟩:Addr).add (0*q))=_
     rw[bX,Nat.zero_mul,Nat.add_zero]
   have hr:=qN (P:=P) (w:=w) hu hks (some (⟨b,off,none⟩:Addr)) (m:=m) (i:=i) (c:=c) ik (by omega);rw[hA]at hr;refine⟨_,hr,?_⟩
   have hc:∀(p:Nat) (b:AV),(cs.take (i*q))[p]? =some b->cs[p]? =some b:=fun p b hb=>by
    rw[List.getElem?_take]at hb
    split at hb
    ·exact hb
    ·cases hb
   exact .sl f (by omega) (by omega) e3 e4 (fun j x hj=>e5 _ _ (hc j x hj)) (fun j x hj=>e6 _ _ (hc j x hj))
 obtain⟨v,hr,hv⟩:=key;refine⟨v,w,?_,Below.refl _ _,hv⟩;unfold execOp;rw[h2]
 simp only[hiv,Option.map_some,Option.map_none,Sem.run_bind,hr,Result.andThen_ok]
 rfl
theorem Qm (hT:∀t d,T t=some d->aY P t d) {t:TypeId} {ty:Ty} {x y:Operand} {et q m i d:Nat} {ik:IntKind} {cs:List AV} (hcs:cs.length<=m*q) (hi:i<=m) (hd:m-i=d) (h1:gd ops s o=some true) (h2:o.op= .slice t x (some y) none none) (h5:T t=some ty) (h6:ty.elem=some (et,q)) (h7:s.ev x= .d (.leaf (.sl m cs))) (h8:s.ev y= .d (.leaf (.val (.int ik (i:Nat)))))
 (h3:aG n o.dst=true) (h4:eY draw ops (az ops o ⟨.d (.leaf (.sl d (cs.drop (i*q)))),none⟩ []) k fps=true) (h:aq P T n ops id draw K (k+1) os (s.eff o.dst ⟨.d (.leaf (.sl d (cs.drop (i*q)))),none⟩) (az ops o ⟨.d (.leaf (.sl d (cs.drop (i*q)))),none⟩ []::fps)):aq P T n ops id draw K k (o::os) s fps:=by
 subst hd;exact MJ hT hcs hi h1 h2 h5 h6 h7 h8 h3 h4 h
end
theorem m0:∀{cs:List AV},bz cs=true↔ ∀a∈cs,JN a=true
 | []=>by simp[bz]
 |a::cs=>by
  simp only[bz,List.mem_cons,forall_eq_or_imp]
  cases h:JN a
  ·simp
  ·simp[m0 (cs:=cs)]
theorem Gi {a b:List AV} (h:bz a=true) (k:bz b=true):bz (a++b)=true:=m0.2 fun x hx=>by
 rcases List.mem_append.1 hx with hx|hx
 ·exact m0.1 h x hx
 ·exact m0.1 k x hx
section
variable {P:Program} {T:TypeId->Option Ty} {n:Nat} {ops:Array Oper} {id:Nat} {draw:Bool} {K:AS->Prop} {s:AS} {k:Nat} {o:Oper} {os:List Oper} {fps:List FP}
end
theorem JO.of:∀x,CK x->fW x<=1000000->JO x:=by
 refine dK fun op na xs nb ys nm args ih hm hs=>?_
 obtain⟨hx1,hy1,_,hm1⟩:xs.length<=510/\ys.length<=510/\nm.length<=65536/\ ∀x∈args,CK x:=by cases hm with|mk a b c d=>exact⟨a,b,c,d⟩
 rw[fW]at hs;have hge:=pQ args
 have key:∀l:List Rx,∀x∈l,fW x<=eg l:=by
  intro l
  induction l with
  |nil=>intro x h;cases h
  |cons y r ihr=>
   intro x h;rcases List.mem_cons.1 h with rfl|h
   ·simp[eg]
   ·have:=ihr x h;simp only[eg];omega
 exact .mk (by omega) (by omega) (by omega) (fun x hx=>ih x hx (hm1 x hx) (by have:=key args x hx;omega))
theorem AF.lw {x:Rx} (h:AF x):JO x:=JO.of x h.lm (by have:=h.sz;omega)
theorem Qk (env:EL):il env=zd (env.map (·.1)):=by
 unfold il zd aJ;rw[List.length_map,List.map_map];rfl
theorem JT (a b:EL):lM (a++b)=lM a++lM b:=by
 induction a with
 |nil=>rfl
 |cons x a ih=>simp only[List.cons_append,lM,ih,List.append_assoc]
theorem wn (q:Rat) (p:Int):(lN q p).length=5:=rfl
theorem B7:∀l:EL,(lM l).length=l.length*5
 | []=>rfl
 |x::r=>by rw[lM,List.length_append,wn,B7 r,List.length_cons];omega
theorem ym:∀(l:EL) (i:Nat),(lM l).take (i*5)=lM (l.take i)
 | [],i=>by simp[lM]
 |x::r,0=>by simp[lM]
 |x::r,i+1=>by
  rw[List.take_succ_cons,lM,lM,show(i+1)*5=(lN x.2.1 x.2.2).length+i*5 by rw[wn];omega,List.take_length_add_append,ym r i]
theorem yA:∀(l:EL) (i:Nat),(lM l).drop (i*5)=lM (l.drop i)
 | [],i=>by simp[lM]
 |x::r,0=>by simp
 |x::r,i+1=>by
  rw[List.drop_succ_cons,lM,show(i+1)*5=(lN x.2.1 x.2.2).length+i*5 by rw[wn];omega,List.drop_length_add_append,yA r i]
theorem CR:∀l:EL,bz (lM l)=true
 | []=>rfl
 |x::r=>Gi (a:=lN x.2.1 x.2.2) rfl (CR r)
def T8:Except Int EL->RV
 | .ok env=> .tup [il env,jA env,dN .i64 0]
 | .error e=> .tup [.leaf (.sl 0 []), .leaf (.sl 0 []),dN .i64 e]
structure QJ (l:Tb):Prop where
 sm:JP l
 len:l.length<=500
 hv:∀n x,Hv l n x->dA 400 x.1/\py x.2=true
theorem ze.fx_of {l:Tb} (hs:JP l) (ho:ze l):Qy l:=fun p hp=>G0 (hs p hp).2.wd (hs p hp).2.lm (ho.ex p hp)
theorem PJ {l:Tb} (hs:JP l) (ho:ze l) {p:Pm} (hp:p∈l):x7 (lA p.2)/\mv (lA p.2)<=1000000/\rx (lA p.2)=p.2:=by
 have h1:=A5 (ho.fx_of hs p hp);refine⟨sh _ (by rw[h1.1];exact(hs p hp).2.lt),?_,h1.1⟩;have h2:=q8 (lA p.2);rw[h1.1]at h2;have:=(hs p hp).2.sz;omega
theorem IF {l:Tb} (h:(fK l).2≠0):yr l= .error (fK l).2:=by unfold yr;rw[if_neg h]
noncomputable def OV (l:Tb) (x:Rx):RV:=if jg x=0 then(match yr l with
 | .ok env=>ej (bZ (bi env) (lA x))
 | .error e=> .tup [Ac,dN .i64 e])else .tup [Ac,dN .i64 (jg x)]
theorem Ln {l:Tb} (hs:JP l) (hV:(fK l).2=0->QJ l) {env:EL} (h:yr l= .ok env):ew env/\env.length<=1000000/\ ∀x∈env,dA 400 x.2.1/\py x.2.2=true:=by
 obtain⟨h1,h2,h3,_,h5,h6⟩:=FW (fun h=>h.fx_of hs) h;have hv:=hV h2;exact⟨h3,by have:=hv.len;omega,fun x hx=>hv.hv _ _ (h5 x hx)⟩
theorem Qq {x:Rx} (hx:AF x) (h0:jg x=0):x7 (lA x)/\mv (lA x)<=1000000/\rx (lA x)=x:=by
 have h1:=A5 (G0 hx.wd hx.lm h0);refine⟨sh _ (by rw[h1.1];exact hx.lt),?_,h1.1⟩;have h2:=q8 (lA x);rw[h1.1]at h2;have:=hx.sz;omega
theorem Pb {l:Tb} {e:Int} (h:yr l= .error e):e≠0:=by
 unfold yr at h
 split at h
 ·exact yn h
 ·rename_i h0;cases h;exact h0
section
variable {P:Program} {T:TypeId->Option Ty} {n:Nat} {ops:Array Oper} {id:Nat} {draw:Bool} {K:AS->Prop} {s:AS} {k:Nat} {o:Oper} {os:List Oper} {fps:List FP}
end
theorem CQ (F:List L8) (x:L8):(aJ F).take (F.length*1)++[.val (vL x)]=aJ (F++[x]):=by
 rw[Nat.mul_one,List.take_of_length_le (Nat.le_of_eq (im F)),ni];rfl
abbrev LC (n:L8):List AV:=[.val (vL n)]
theorem Bb {n:L8}:di [(900,LC n)] [(900,LC n)]:=di.one (Nat.le_refl 1)
theorem EF (q:Pm) (n:L8):au Tryz.prog 246 [.d (KM q), .box 900 0] [(900,LC n)] (.v (.one (dB (decide (q.1=n))))) [(900,LC n)]:=by
 obtain⟨o1,na1,xs1,nb1,ys1,nm1,n1,cs1,hA,hB⟩:=eM q;rw[show KM q= .agg (eF q.1 o1 na1 xs1 nb1 ys1 nm1 n1 cs1) from congrArg DV.agg hB]
 by_cases e:q.1=n
 ·rw[decide_eq_true e]
  refine aM ah cX func246 rfl rfl rfl rfl rfl (Bb) ?_;refine qE ?_;refine aD rfl rfl rfl rfl rfl rfl rfl (bv (a:=q.1) (b:=n) e) ?_;exact jt
 ·rw[decide_eq_false e]
  refine aM ah cX func246 rfl rfl rfl rfl rfl (Bb) ?_;refine qE ?_;refine aD rfl rfl rfl rfl rfl rfl rfl (b7 (a:=q.1) (b:=n) e) ?_;exact jt
theorem vz {fid:FuncId} {p:Pm->Bool} {n:L8} (l:Tb) (hp:∀x∈l,au Tryz.prog fid [.d (KM x), .box 900 0] [(900,LC n)] (.v (.one (dB (p x)))) [(900,LC n)]) (hl:l.length<=1000000):au Tryz.prog 245 [.d (gO l), .clo (.func fid) [] [.box 900 0]] [(900,LC n)] (.v (.one (dN .i64 (if l.findIdx p<l.length then((l.findIdx p:Nat):Int)else -1)))) [(900,LC n)]:=by
 have hf:=List.findIdx_le_length (p:=p) (xs:=l)
 have hn:∀(i:Nat) (hi:i<l.length),i<l.findIdx p->p l[i]=false:=fun i hi h=>by
  exact tY
 have hy:∀(h:l.findIdx p<l.length),p (l[l.findIdx p])=true:=fun h=>List.findIdx_getElem
 generalize l.findIdx p=f at *;refine aM ah cX func245 rfl rfl rfl rfl rfl (Bb) ?_;refine kW ?_
 refine ax Nat (fun i=>i<=f) (fun i=>⟨[(0, .d (gO l)),(1, .clo (.func fid) [] [.box 900 0]),(4, .d (dN .i64 0)),(7, .d (dN .i64 l.length)),(8, .d (dN .i64 i))],[(900,some (LC n))]⟩) (fun i=>l.length-i) 0 (Nat.zero_le _)
  kw ?_
 intro i hi;refine kI ?_
 by_cases hlt:i<l.length
 ·refine kT ?_
  have hx:l[i]? =some l[i]:=by simp[hlt]
  have c:=hp l[i] (List.getElem_mem hlt);have hni:=hn i hlt;have hyi:∀h:i=f,p l[i]=true:=fun h=>by subst h;exact hy hlt
  generalize l[i]=q at *;obtain⟨o1,na1,xs1,nb1,ys1,nm1,n1,cs1,hA,hB⟩:=eM q;have hat:∀(j:Nat) (a:AV),(eF q.1 o1 na1 xs1 nb1 ys1 nm1 n1 cs1)[j]? =some a->(Fg l)[i*8+j]? =some a:=fun j a h=>j4 l i q hx j a (by rw[hB];exact h)
  rw[show KM q= .agg (eF q.1 o1 na1 xs1 nb1 ys1 nm1 n1 cs1) from congrArg DV.agg hB]at c;refine kW ?_;refine aH (i:=i) (cs':=eF q.1 o1 na1 xs1 nb1 ys1 nm1 n1 cs1) hlt hat (Nat.zero_lt_succ 7) rfl rfl rfl rfl rfl rfl rfl rfl ?_;refine kO ?_;exact HI
 ·rw[if_neg (by omega)]
  refine kE ?_;exact jt
theorem yD:∀(l:Tb) (n:L8),l9 l n=l.findIdx fun q=>decide (q.1=n)
 | [],_=>rfl
 |p::r,n=>by
  rw[l9,List.findIdx_cons,<- yD r n]
  by_cases e:p.1=n<;>simp[e]
theorem qP (l:Tb) (n:L8) (hl:l.length<=1000000):aa Tryz.prog 180 [gO l,dL n] (.one (dN .i64 (QF l n))):=by
 have c:=(vz (fid:=246) (p:=fun q=>decide (q.1=n)) (n:=n) l (fun x _=>EF x n) hl).swap 900 0 rfl;rw[<- yD l n]at c;unfold QF;generalize(if l9 l n<l.length then((l9 l n:Nat):Int)else -1)=f at *;refine kV func180 ?_;refine kD (c) ?_;exact am
def QG (r:Kd):List AV:=[.val (.int .i64 r.p), .val (.int .i64 r.c), .val (.int .i64 r.n), .val (.int .i64 r.q), .val (.bool r.s), .val (.bool (Nat.beq r.v 1 || Nat.beq r.v 2)), .val (.bool (Nat.beq r.v 2))]
def S7:List AV:=[.val (.int .i64 0), .val (.int .i64 0), .val (.int .i64 0), .val (.int .i64 0), .val (.bool false), .val (.bool false), .val (.bool false)]
def Us (o:Option Kd):RV:=match o with
 |some r=> .tup [.agg (QG r),dB true]
 |none=> .tup [.agg S7,dB false]
def Uz (o:Option Kd):List UInt8:=match o with
 |some r=>r.nm
 |none=>[]
theorem vE {α:Type} {f:α->List AV} {q:Nat} (hf:∀x,(f x).length=q):∀(l:List α) (i:Nat) (x:α),l[i]? =some x-> ∀(j:Nat) (a:AV),(f x)[j]? =some a->(l.flatMap f)[i*q+j]? =some a
 | [],i,x,h,_,_,_=>by simp at h
 |y::l,0,x,h,j,a,ha=>by
  simp at h
  subst h
  simp only[List.flatMap_cons,Nat.zero_mul,Nat.zero_add]
  exact Ck
 |y::l,i+1,x,h,j,a,ha=>by
  simp only[List.flatMap_cons]
  have e:(i+1)*q+j-q=i*q+j:=by rw[Nat.add_mul];omega
  rw[List.getElem?_append_right (by rw[hf,Nat.add_mul];omega),hf,e];exact vE hf l i x (by simpa using h) j a ha
theorem zh {k:Int} (h:k<1):oq k=none:=by unfold oq;rw[if_neg (by omega)]
theorem AK {k:Int} (h:17<k):oq k=none:=by unfold oq;rw[if_neg (by omega)]
theorem pR {i:Nat} (h1:1<=i) (h2:i<=17):∃r,oq (i:Int)=some r/\nJ[i-1]? =some r:=by
 have hl:i-1<nJ.length:=by rw[De];omega
 refine⟨nJ[i-1],?_,by simp[hl]⟩;unfold oq;rw[if_pos (by omega),Int.toNat_natCast]
 simp[hl]
theorem N9 {i:Nat} {r:Kd} (h1:1<=i) (h:nJ[i-1]? =some r):∀(j:Nat) (a:AV),(ON r)[j]? =some a->(ON ⟨[],0,0,0,0,0,false⟩++nJ.flatMap ON)[i*8+j]? =some a:=fun j a ha=>by
 have hf:=vE (f:=ON) (q:=8) (fun _=>rfl) nJ (i-1) r h j a ha;rw[List.getElem?_append_right (by show 8<=_;omega)];have e:i*8+j-(ON ⟨[],0,0,0,0,0,false⟩).length=(i-1)*8+j:=by show i*8+j-8=_;omega
 rw[e];exact hf
theorem gE:(Tryz.prog.info? 72).map (·.size)=some 8:=by kernel_rfl
theorem m8 (k:Int):aa Tryz.prog 30 [dN .i64 k] (Us (oq k)):=by
 by_cases h1:k<1
 ·rw[zh h1]
  refine kU func30 ?_;exact Fq
 ·by_cases h2:17<k
  ·rw[AK h2]
   refine kU func30 ?_;refine Ec ?_;refine kT ?_;exact am
  ·obtain⟨i,rfl⟩:=Int.eq_ofNat_of_zero_le (show 0<=k by omega)
   obtain⟨r,hr,hi⟩:=pR (i:=i) (by omega) (by omega);rw[hr];refine kU func30 ?_;refine Ec ?_;refine Mg ?_;exact am
theorem EI (k:Int):aa Tryz.prog 14 [dN .i64 k] (.one (dL (Uz (oq k)))):=by
 by_cases h1:k<1
 ·rw[zh h1]
  refine kU func14 ?_;exact Fq
 ·by_cases h2:17<k
  ·rw[AK h2]
   refine kU func14 ?_;refine Ec ?_;refine kT ?_;exact am
  ·obtain⟨i,rfl⟩:=Int.eq_ofNat_of_zero_le (show 0<=k by omega)
   obtain⟨r,hr,hi⟩:=pR (i:=i) (by omega) (by omega);rw[hr];refine kU func14 ?_;refine Ec ?_;refine Mg ?_;exact am
theorem Pw {s:List UInt8} {i:Nat} {r:Kd} (h1:1<=i) (hr:nJ[i-1]? =some r) (hi:i-1<=nJ.findIdx (fun r=>decide (r.nm=s))):(r.nm=s->Px s=i)/\(r.nm≠s->i<=nJ.findIdx (fun r=>decide (r.nm=s))):=by
 have hl:=(List.getElem?_eq_some_iff.1 hr).1;have hl':=hl;rw[De]at hl';refine⟨fun e=>?_,fun e=>?_⟩
 ·have h2:nJ.findIdx (fun r=>decide (r.nm=s))=i-1:=by
   refine Nat.le_antisymm (Nat.le_of_not_lt fun h=>?_) hi;have:=List.not_of_lt_findIdx h;have e2:=(List.getElem?_eq_some_iff.1 hr).2;rw[e2]at this
   simp[e]at this
  unfold Px;rw[h2,if_pos (by omega)];omega
 ·refine Nat.le_of_not_lt fun h=>?_
  have h2:nJ.findIdx (fun r=>decide (r.nm=s))=i-1:=by omega
  have h3:=List.findIdx_getElem (p:=fun r:Kd=>decide (r.nm=s)) (xs:=nJ) (w:=by rw[h2];exact hl)
  simp only[h2]at h3
  rw[(List.getElem?_eq_some_iff.1 hr).2]at h3;exact e (of_decide_eq_true h3)
theorem Qi {s:List UInt8} (h:17<=nJ.findIdx (fun r=>decide (r.nm=s))):Px s=0:=by
 unfold Px;rw[if_neg (by omega)]
def TK (k:Int):RV:= .tup [dN .i64 k,dB (decide (k≠0))]
theorem Dq (s:List UInt8):aa Tryz.prog 12 [dL s] (TK (Px s)):=by
 have hat:= @Pw s;have hno:= @Qi s;generalize nJ.findIdx (fun r=>decide (r.nm=s))=f at *;generalize Px s=z at *;refine kV func12 ?_;refine ax Nat (fun i=>1<=i/\i<=18/\i-1<=f) (fun i=>⟨[(0, .d (dL s)),(4, .d (dN .i64 i))],[]⟩) (fun i=>18-i) 1 ⟨Nat.le_refl _,by omega,Nat.zero_le _⟩ kw ?_;rintro i ⟨hi1,hi2,hif⟩;refine kI ?_;refine kO ?_
 by_cases hlt:i<=17
 ·refine kT ?_
  obtain⟨r,hr,hi⟩:=pR hi1 hlt;have hz:=hat hi1 hi hif;refine kG ?_;refine kO ?_;refine HH (i:=i) (N9 hi1 hi) underlying73 gE (by omega) rfl rfl rfl rfl rfl rfl ?_
  refine kO3 ?_
  by_cases e:r.nm=s
  ·refine aD rfl rfl rfl rfl rfl rfl rfl (bv (a:=r.nm) (b:=s) e) ?_
   refine fO ?_;rw[hz.1 e];unfold TK;rw[decide_eq_true (show(i:Int)≠0 by omega)];rfl
  ·refine aD rfl rfl rfl rfl rfl rfl rfl (b7 (a:=r.nm) (b:=s) e) ?_
   refine kW ?_;have:=hz.2 e;exact⟨i+1,⟨by omega,by omega,by omega⟩,by omega,weak ⟨rfl,aA (by omega) (by omega),trivial⟩ trivial rfl⟩
 ·refine kE ?_
  refine fO ?_;rw[hno (by omega)];rfl
abbrev DL (m:Int):List AV:=[.val (.int .i64 m)]
theorem uX {m:Int}:di [(900,DL m)] [(900,DL m)]:=di.one (Nat.le_refl 1)
theorem zp (z m:Int):au Tryz.prog 85 [.d (dN .i64 z), .box 900 0] [(900,DL m)] (.v (.one (dB (!kM m z)))) [(900,DL m)]:=by
 unfold kM
 by_cases h1:z<0
 ·rw[decide_eq_false (show ¬0<=z by omega)]
  refine He ?_;refine kT ?_;exact jt
 ·rw[decide_eq_true (show 0<=z by omega)]
  by_cases h2:z<m
  ·rw[decide_eq_true h2]
   refine He ?_;refine kE ?_
   refine kO3 ?_
   refine kE ?_;exact jt
  ·rw[decide_eq_false h2]
   refine He ?_;refine kE ?_
   refine kO3 ?_
   refine kT ?_;exact jt
theorem sR {fid:FuncId} {p:Int->Bool} {m:Int} (l:List Int) (hp:∀x∈l,au Tryz.prog fid [.d (dN .i64 x), .box 900 0] [(900,DL m)] (.v (.one (dB (p x)))) [(900,DL m)]) (hl:l.length<=1000000):au Tryz.prog 124 [.d (ma l), .clo (.func fid) [] [.box 900 0]] [(900,DL m)] (.v (.one (dN .i64 (if l.findIdx p<l.length then((l.findIdx p:Nat):Int)else -1)))) [(900,DL m)]:=by
 have hf:=List.findIdx_le_length (p:=p) (xs:=l)
 have hn:∀(i:Nat) (hi:i<l.length),i<l.findIdx p->p l[i]=false:=fun i hi h=>by
  exact tY
 have hy:∀(h:l.findIdx p<l.length),p (l[l.findIdx p])=true:=fun h=>List.findIdx_getElem
 generalize l.findIdx p=f at *;refine aM ah cX func124 rfl rfl rfl rfl rfl (uX) ?_;refine kW ?_
 refine ax Nat (fun i=>i<=f) (fun i=>⟨[(0, .d (ma l)),(1, .clo (.func fid) [] [.box 900 0]),(4, .d (dN .i64 0)),(7, .d (dN .i64 l.length)),(8, .d (dN .i64 i))],[(900,some (DL m))]⟩) (fun i=>l.length-i) 0 (Nat.zero_le _)
  kw ?_
 intro i hi;refine kI ?_
 by_cases hlt:i<l.length
 ·refine kT ?_
  have hx:l[i]? =some l[i]:=by simp[hlt]
  have c:=hp l[i] (List.getElem_mem hlt);have hni:=hn i hlt;have hyi:∀h:i=f,p l[i]=true:=fun h=>by subst h;exact hy hlt
  generalize l[i]=q at *;refine NM ?_;exact HI
 ·rw[if_neg (by omega)]
  refine kE ?_;exact jt
theorem nW {fid:FuncId} {p:Int->Bool} {m:Int} (l:List Int) (hp:∀x∈l,au Tryz.prog fid [.d (dN .i64 x), .box 900 0] [(900,DL m)] (.v (.one (dB (p x)))) [(900,DL m)]) (hl:l.length<=1000000):au Tryz.prog 84 [.d (ma l), .clo (.func fid) [] [.box 900 0]] [(900,DL m)] (.v (.one (dB (l.any p)))) [(900,DL m)]:=by
 have c:=sR l hp hl
 have hlt:(l.findIdx p<l.length)↔l.any p=true:=by
  rw[List.any_eq_true];exact List.findIdx_lt_length
 cases hb:l.any p with
 |true=>
  rw[if_pos (hlt.2 hb)]at c;refine aM ah cX func84 rfl rfl rfl rfl rfl (uX) ?_;refine kW ?_;refine kD (c) ?_;refine kT ?_;exact jt
 |false=>
  rw[if_neg (fun h=>by rw[hlt.1 h]at hb;cases hb)]at c;refine aM ah cX func84 rfl rfl rfl rfl rfl (uX) ?_;refine kW ?_;refine kD (c) ?_;exact jt
theorem oP (l:List Int) (n m:Int) (hl:l.length<=1000000):aa Tryz.prog 41 [ma l,dN .i64 n,dN .i64 m] (.one (dB (decide ((l.length:Int)=n) && l.all (kM m)))):=by
 have c:=(nW (fid:=85) (p:=fun z=>!kM m z) (m:=m) l (fun x _=>zp x m) hl).swap 900 0 rfl;rw[show l.any (fun z=>!kM m z)=!l.all (kM m) by rw[List.not_all_eq_any_not]]at c
 by_cases h:(l.length:Int)=n
 ·rw[decide_eq_true h]
  generalize l.all (kM m)=b at *;cases b
  all_goals(
   refine kU func41 ?_;refine kR ?_;refine kI ?_
   refine kO3 ?_
   refine kB true ?_ ?_
   ·exact(by simp[h])
   refine kO3 ?_
   refine kD (c) ?_;exact kF)
 ·rw[decide_eq_false h]
  refine kU func41 ?_;refine qE ?_;exact IT
theorem EC (l:List Int) (n:Int) (hl:l.length<=1000000):∃i:Int,(0<=i↔n∈l)/\aa Tryz.prog 128 [ma l,dN .i64 n] (.one (dN .i64 i)):=by
 refine⟨if l.findIdx (fun x=>decide (x=n))<l.length then((l.findIdx (fun x=>decide (x=n)):Nat):Int)else -1,?_,?_⟩
 ·have:=List.findIdx_lt_length (p:=fun x=>decide (x=n)) (xs:=l)
  exact OB
 ·have hf:=List.findIdx_le_length (p:=fun x=>decide (x=n)) (xs:=l)
  have hn:∀(i:Nat) (hi:i<l.length),i<l.findIdx (fun x=>decide (x=n))->l[i]≠n:=fun i hi h=>by
   exact tY
  have hy:∀(h:l.findIdx (fun x=>decide (x=n))<l.length),l[l.findIdx (fun x=>decide (x=n))]=n:=fun h=>by
   have:=List.findIdx_getElem (p:=fun x=>decide (x=n)) (xs:=l) (w:=h);exact of_decide_eq_true this
  generalize l.findIdx (fun x=>decide (x=n))=f at *;refine kV func128 ?_
  refine ax Nat (fun i=>i<=f) (fun i=>⟨[(0, .d (ma l)),(1, .d (dN .i64 n)),(4, .d (dN .i64 0)),(7, .d (dN .i64 l.length)),(8, .d (dN .i64 i))],[]⟩) (fun i=>l.length-i) 0 (Nat.zero_le _)
   kw ?_
  intro i hi;refine kI ?_
  by_cases hlt:i<l.length
  ·refine kT ?_
   have hx:l[i]? =some l[i]:=by simp[hlt]
   have hni:=hn i hlt;have hyi:∀h:i=f,l[i]=n:=fun h=>by subst h;exact hy hlt
   generalize l[i]=q at *;refine NM ?_
   by_cases e:n=q
   ·have e2:i=f:=by
     by_cases h:i<f
     ·exact absurd e.symm (hni h)
     ·omega
    subst e2;rw[if_pos hlt];refine kB true ?_ ?_
    ·exact(by simp[e])
    exact am
   ·refine kB false ?_ ?_
    ·exact(by simp[e])
    refine Ig ?_
    by_cases h:i=f
    ·exact absurd (hyi h).symm e
    ·omega
  ·rw[if_neg (by omega)]
   refine kE ?_;exact am
theorem ww (l:List Int) (n:Int) (hl:l.length<=1000000):aa Tryz.prog 88 [ma l,dN .i64 n] (.one (dB (decide (n∈l)))):=by
 obtain⟨i,h1,c⟩:=EC l n hl
 by_cases h:n∈l
 ·rw[decide_eq_true h]
  have:=h1.2 h;refine kV func88 ?_;refine kC (c) ?_;refine kT ?_;exact am
 ·rw[decide_eq_false h]
  have:=fun h2=>h (h1.1 h2)
  refine kV func88 ?_;refine kC (c) ?_;refine kE ?_;exact am
theorem DQ (l:List Int) (i:Nat):dr (l.take i)=(dr l).take i:=by simp[dr,List.map_take]
theorem ry {l:List Int} {i:Nat} {z:Int} (hn:(l.take i).Nodup) (hz:l[i]? =some z):(z ∉ l.take i->(l.take (i+1)).Nodup)/\(z∈l.take i-> ¬l.Nodup):=by
 have e:=bJ hz;refine⟨fun h=>?_,fun h hd=>?_⟩
 ·rw[e,List.nodup_append]
  exact⟨hn,(by simp),fun a ha b hb=>by rw[List.mem_singleton.1 hb];exact fun e=>h (e ▸ ha)⟩
 ·have h2:(l.take (i+1)).Nodup:=hd.sublist (List.take_sublist _ _)
  rw[e,List.nodup_append]at h2;exact h2.2.2 z h z (by simp) rfl
theorem j8 (l:List Int) (hl:l.length<=1000000):aa Tryz.prog 46 [ma l] (.one (dB (decide l.Nodup))):=by
 refine kV func46 ?_;refine ax Nat (fun i=>i<=l.length/\(l.take i).Nodup) (fun i=>⟨[(0, .d (ma l)),(5, .d (ma l)),(6, .d (dN .i64 l.length)),(7, .d (dN .i64 i))],[]⟩) (fun i=>l.length-i) 0 ⟨Nat.zero_le _,by simp⟩ kw ?_;rintro i ⟨hi,hn⟩;refine kI ?_
 by_cases hlt:i<l.length
 ·refine kT ?_
  obtain⟨z,hz⟩:∃z,l[i]? =some z:=⟨l[i],by simp[hlt]⟩;have hd:=ry hn hz;have c:=ww (l.take i) z (by simp;omega);rw[show ma (l.take i)= .leaf (.sl i ((dr l).take (i*1))) from by unfold ma;rw[DQ,Nat.mul_one,List.length_take,Nat.min_eq_left hi]]at c;refine kW ?_;refine Ku ?_;refine kG ?_
  refine kO2 ?_
  refine Rj ah (i:=i) hi rfl rfl rfl rfl rfl rfl rfl rfl ?_;refine kO ?_
  by_cases e:z∈l.take i
  ·rw[decide_eq_true e]at c
   refine kC (c) ?_;refine fO ?_;exact congrArg (fun b=>RV.one (dB b)) (decide_eq_false (hd.2 e)).symm
  ·rw[decide_eq_false e]at c
   refine kQ (c) ?_;exact⟨i+1,⟨hlt,hd.1 e⟩,by omega,weak ⟨rfl,rfl,rfl,aA (by omega) (by omega),trivial⟩ trivial rfl⟩
 ·refine kE ?_
  refine fO ?_;exact Mt
theorem zG (p q r s:Int):aa Tryz.prog 45 [ma [p,q,r,s]] (.one (dB (Ih [p,q,r,s]))):=by
 obtain⟨b,hb⟩:∃b,Ih [p,q,r,s]=b:=⟨_,rfl⟩;rw[hb];unfold Ih at hb;refine kU func45 ?_
 iterate 2 refine kG ?_
 refine kO ?_;refine aH (i:=0) (cs':=[.val (.int .i64 p)]) (by simp) (bn (l:=[p,q,r,s]) (i:=0) rfl) (Nat.zero_lt_succ 0) rfl rfl rfl rfl rfl rfl rfl rfl ?_
 refine kO2 ?_
 refine aH (i:=1) (cs':=[.val (.int .i64 q)]) (by simp) (bn (l:=[p,q,r,s]) (i:=1) rfl) (Nat.zero_lt_succ 0) rfl rfl rfl rfl rfl rfl rfl rfl ?_
 refine kO2 ?_
 refine aH (i:=2) (cs':=[.val (.int .i64 r)]) (by simp) (bn (l:=[p,q,r,s]) (i:=2) rfl) (Nat.zero_lt_succ 0) rfl rfl rfl rfl rfl rfl rfl rfl ?_
 refine kO2 ?_
 refine aH (i:=3) (cs':=[.val (.int .i64 s)]) (by simp) (bn (l:=[p,q,r,s]) (i:=3) rfl) (Nat.zero_lt_succ 0) rfl rfl rfl rfl rfl rfl rfl rfl ?_;refine kG ?_
 refine kO2 ?_
 by_cases h1:p=q
 ·refine kB false ?_ ?_
  ·exact(by simp[h1])
  refine fO ?_;exact congrArg (fun b=>RV.one (dB b)) (by rw[<- hb];simp[h1])
 refine kB true ?_ ?_
 ·exact(by simp[h1])
 refine kO3 ?_
 by_cases h2:r=s
 ·refine kB false ?_ ?_
  ·exact(by simp[h2])
  refine fO ?_;exact congrArg (fun b=>RV.one (dB b)) (by rw[<- hb];simp[h2])
 refine kB true ?_ ?_
 ·exact(by simp[h2])
 refine kO4 ?_
 by_cases h3:p=r
 ·refine kB true ?_ ?_
  ·exact(by simp[h3])
  refine kO3 ?_
  have h5:p≠s:=fun e=>h2 (h3.symm.trans e)
  by_cases h4:q=s
  ·refine kB true ?_ ?_
   ·exact(by simp[h4])
   refine fO ?_;exact congrArg (fun b=>RV.one (dB b)) (by rw[<- hb];simp[h3,h4])
  ·refine kB false ?_ ?_
   ·exact(by simp[h4])
   iterate 6 refine kO ?_
   refine kB false ?_ ?_
   ·exact(by simp[h5])
   refine fO ?_;exact congrArg (fun b=>RV.one (dB b)) (by rw[<- hb];simp[h1,h2,h4,h5])
 ·refine kB false ?_ ?_
  ·exact(by simp[h3])
  iterate 10 refine kO ?_
  by_cases h5:p=s
  ·refine kB true ?_ ?_
   ·exact(by simp[h5])
   refine kO3 ?_
   by_cases h6:q=r
   ·refine kB true ?_ ?_
    ·exact(by simp[h6])
    refine fO ?_;exact congrArg (fun b=>RV.one (dB b)) (by rw[<- hb];simp[h5,h6])
   ·refine kB false ?_ ?_
    ·exact(by simp[h6])
    refine fO ?_;exact congrArg (fun b=>RV.one (dB b)) (by rw[<- hb];simp[h1,h2,h3,h6])
  ·refine kB false ?_ ?_
   ·exact(by simp[h5])
   refine fO ?_;exact congrArg (fun b=>RV.one (dB b)) (by rw[<- hb];simp[h1,h2,h3,h5])
theorem xZ {x:Rx} (c:aa Tryz.prog 44 [dR x] (.one (dN .i64 (jg x)))):aa Tryz.prog 43 [dR x] (.one (dB (!decide (jg x=0)))):=by
 obtain⟨o1,na1,xs1,nb1,ys1,nm1,n1,cs1,hA⟩:=aN x;rw[show dR x= .agg (ab o1 na1 xs1 nb1 ys1 nm1 n1 cs1) from congrArg DV.agg hA]at c ⊢
 by_cases h:jg x=0
 ·rw[decide_eq_true h]
  refine kV func43 ?_;refine kC (c) ?_;exact IT
 ·rw[decide_eq_false h]
  refine kV func43 ?_;refine kC (c) ?_;refine kB true ?_ ?_
  ·exact(by simp[h])
  exact am
theorem JW:((List.range 4).all fun i=>decide (((nJ[i+4]?).map fun r=>r.p)=some 4))=true:=by decide
theorem yN {k:Int} {r:Kd} (h:oq k=some r) (h1:5<=k) (h2:k<=8):r.p=4:=by
 obtain⟨_,_,h3⟩:=qD h;have:=List.all_eq_true.1 JW (k.toNat-5) (List.mem_range.2 (by omega));rw[show k.toNat-5+4=k.toNat-1 by omega,h3]at this
 simpa using this
theorem CN {l:List Int} (h:l.length=4):∃p q r s,l=[p,q,r,s]:=by
 match l,h with
 | [p,q,r,s],_=>exact⟨p,q,r,s,rfl⟩
theorem LU (vs:List Rx):vs.any (fun x=>!decide (jg x=0))=!vs.all (fun x=>decide (jg x=0)):=by rw[List.not_all_eq_any_not]
def cC (k:Int) (ps cs:List Int) (vs:List Rx) (s:Int):List AV:=[.val (.int .i64 k), .sl ps.length (dr ps), .sl cs.length (dr cs), .sl vs.length (d7 vs), .val (.int .i64 s)]
theorem lI (c:Cn) (P Q:Int) (h1:c.ps.length<=1000000) (h2:c.cs.length<=1000000) (h3:c.vs.length<=1000000) (hv:∀x∈c.vs,aa Tryz.prog 44 [dR x] (.one (dN .i64 (jg x)))):aa Tryz.prog 17 [dC c,dN .i64 P,dN .i64 Q] (.one (dB (vA c P Q))):=by
 have cS:=m8 c.k;have cE:=ek (fid:=43) (p:=fun x=>!decide (jg x=0)) c.vs (fun x hx=>xZ (hv x hx)) h3 rfl;rw[LU]at cE;cases hk:oq c.k with
 |none=>
  rw[hk]at cS;rw[iI hk];obtain⟨k,ps,cs,vs,s⟩:=c;have cS:aa Tryz.prog 30 [dN .i64 k] (.tup [.agg S7,dB false]):=cS;refine Cq ?_;refine kV func17 ?_;refine kC (cS) ?_;exact am
 |some r=>
  rw[hk]at cS;rw[fF hk];have h58:5<=c.k->c.k<=8->r.p=4:=yN hk;obtain⟨k,ps,cs,vs,s⟩:=c;obtain⟨nm,rp,rc,rn,rv,rq,rs⟩:=r;dsimp only at *;have cS:aa Tryz.prog 30 [dN .i64 k] (.tup [.agg (QG ⟨nm,rp,rc,rn,rv,rq,rs⟩),dB true]):=cS;have cA:=oP ps rp P h1;have cB:=oP cs rc Q h2;have cF:=j8 ps h1;have cG:=j8 cs h2;obtain⟨E,hE⟩:∃E,vs.all (fun x=>decide (jg x=0))=E:=⟨_,rfl⟩;rw[hE]at cE ⊢;obtain⟨A,hA⟩:∃A,(decide ((ps.length:Int)=rp) && ps.all (kM P))=A:=⟨_,rfl⟩;rw[hA]at cA ⊢;obtain⟨B,hB⟩:∃B,(decide ((cs.length:Int)=rc) && cs.all (kM Q))=B:=⟨_,rfl⟩;rw[hB]at cB ⊢;show aa Tryz.prog _ [.agg (cC k ps cs vs s),_,_] _;cases A
  ·refine kV func17 ?_;refine kQ (cS) ?_;refine kC (cA) ?_;exact am
  cases B
  ·refine Pl ?_
   refine kC (cB) ?_;exact am
  by_cases hn:(vs.length:Int)=rn
  rotate_left
  ·rw[decide_eq_false hn]
   refine Pl ?_;refine kC (cB) ?_
   iterate 8 refine kO ?_
   refine kB true ?_ ?_
   ·exact(by simp[hn])
   exact am
  rw[decide_eq_true hn]
  have hp4:5<=k/\k<=8-> ∃p q r t,ps=[p,q,r,t]:=fun h=>by
   have h4:=h58 h.1 h.2
   simp only[Bool.and_eq_true,decide_eq_true_eq]at hA
   exact CN (by omega)
  clear h58 hA hB hE hv;cases E
  ·refine GC ?_
   exact am
  have side:(rs=false/\s=0)∨(rs=true/\s=1)∨(rs=true/\s= -1)∨(rs=false/\s≠0)∨(rs=true/\s≠1/\s≠ -1):=by cases rs<;>simp <;>omega
  rcases side with side|side|side| ⟨rfl,hs⟩| ⟨rfl,hs,hs'⟩
  rotate_left 3
  ·rw[show y7 false s=false from decide_eq_false hs]
   refine GC ?_;refine kG ?_
   iterate 19 refine kO ?_
   refine kB true ?_ ?_
   ·exact(by simp[hs])
   exact am
  ·rw[show y7 true s=false by simp[y7,hs,hs']]
   refine GC ?_;refine kG ?_
   refine kO5 ?_
   refine kB true ?_ ?_
   ·exact(by simp[hs])
   refine kO4 ?_
   refine kB true ?_ ?_
   ·exact(by simp[hs'])
   exact am
  all_goals
   obtain⟨rfl,rfl⟩:=side
   by_cases h58:5<=k/\k<=8
   ·rw[if_pos h58]
    obtain⟨p,q,r,t,rfl⟩:=hp4 h58;have cP:=zG p q r t;generalize Ih [p,q,r,t]=D at *;rcases(show k=5∨k=6∨k=7∨k=8 by omega)with rfl|rfl|rfl|rfl
    all_goals
     refine kV func17 ?_;refine kQ (cS) ?_;refine kQ (cA) ?_;refine kC (cB) ?_
     iterate 8 refine kO ?_
     refine kB false ?_ ?_
     ·exact(by simp[hn])
     refine kW ?_;refine kQ (cE) ?_;refine kC (cP) ?_;exact kF
   ·rw[if_neg h58]
    clear hp4;obtain⟨F,hF⟩:∃F,decide ps.Nodup=F:=⟨_,rfl⟩;obtain⟨G,hG⟩:∃G,decide cs.Nodup=G:=⟨_,rfl⟩;rw[hF]at cF ⊢;rw[hG]at cG ⊢;clear hF hG;cases F
    all_goals
     refine kV func17 ?_;refine kQ (cS) ?_;refine kQ (cA) ?_;refine kC (cB) ?_
     iterate 8 refine kO ?_
     refine kB false ?_ ?_
     ·exact(by simp[hn])
     refine kW ?_;refine kC (cE) ?_
     iterate 3 refine kG ?_
     refine kB false ?_ ?_
     ·exact(by simp;omega)
     refine kG ?_;refine kB false ?_ ?_
     ·exact(by simp;omega)
     refine kG ?_;refine kB false ?_ ?_
     ·exact(by simp;omega)
     refine kG ?_;refine kB false ?_ ?_
     ·exact(by simp;omega)
     refine kW ?_;refine kQ (cF) ?_
     try refine kC (cG) ?_
     try exact kF
section
attribute [local go_sem ↓] Go.wp_at_zero Go.wp_at_succ
def QM (l:List (List UInt8)):DV:= .leaf (.sl l.length (aJ l))
theorem KK (s b:List UInt8) (hl:s.length<4294967281):aa Tryz.prog 64 [dL s,dL b] (.tup [dL (Lib.cut s b).1,dL (Lib.cut s b).2.1,dB (Lib.cut s b).2.2]):=
 ⟨av func64 rfl rfl,fun S w vs hS hv=>by
  match vs,hv with
  | [v,u],⟨h1,h2,_⟩=>
   obtain rfl:=aV h1;obtain rfl:=aV h2;obtain⟨m,hm⟩:=hS.1.vars.1;refine(Tryz.strings_Cut (Bs s) (Bs b) m w (by rw[aB];exact hl) hm).mono ?_;rintro e w' ⟨rfl,n,rfl⟩;refine⟨_,rfl,⟨[.string (Bs (Lib.cut s b).1), .string (Bs (Lib.cut s b).2.1), .bool (Lib.cut s b).2.2],rfl,rfl,fun i x u h1 h2=>?_⟩,Below.drewN (Below.refl _ _) n⟩
   match i with
   |0=>simp at h1 h2;subst h1 h2;exact AV.M.val rfl
   |1=>simp at h1 h2;subst h1 h2;exact AV.M.val rfl
   |2=>simp at h1 h2;subst h1 h2;exact AV.M.val rfl
   |i+3=>simp at h1⟩
theorem D2 {s b:List UInt8} (hb:b≠[]):(Lib.split s b).length=Lib.count s b+1:=by
 have key:∀n s,s.length<=n->(Lib.split s b).length=Lib.count s b+1:=by
  intro n
  induction n with
  |zero=>
   intro s hs;rcases Lib.index_spec s b with⟨h,_⟩| ⟨i,h,_⟩
   ·rw[lF h,Lib.count_miss h];rfl
   ·have hr:=Lib.index_room s b (by omega)
    have:=List.length_pos_iff.2 hb;omega
  |succ n ih=>
   intro s hs;rcases Lib.index_spec s b with⟨h,_⟩| ⟨i,h,_⟩
   ·rw[lF h,Lib.count_miss h];rfl
   ·have hr:=Lib.index_room s b (by omega)
    have:=List.length_pos_iff.2 hb;rw[uq hb h,Lib.count_hit hb h,List.length_cons,ih _ (by rw[List.length_drop];omega)];omega
 exact key _ s (Nat.le_refl _)
theorem vi (s b:List UInt8):(Lib.splitB (Bs b) 0 (Lib.countB (Bs s) (Bs b)) (Bs s)).map Value.string=(Lib.split s b).map vL:=by
 have h:=Lib.splitB_data (Bs b) 0 (Lib.countB (Bs s) (Bs b)) (Bs s);have e:Lib.splitK (Bs b).data.toList 0 (Lib.countB (Bs s) (Bs b)) (Bs s).data.toList=Lib.split s b:=rfl;rw[e]at h;rw[<- h,List.map_map];refine List.map_congr_left fun x _=>?_
 show Value.string x=Value.string (Bs x.data.toList);rw[Mi]
theorem Jl (s b:List UInt8) (hl:s.length<4294967281) (hb:b≠[]):aa Tryz.prog 65 [dL s,dL b] (.one (QM (Lib.split s b))):=
 ⟨av func65 rfl rfl,fun S w vs hS hv=>by
  match vs,hv with
  | [v,u],⟨h1,h2,_⟩=>
   obtain rfl:=aV h1;obtain rfl:=aV h2;obtain⟨m,hm⟩:=hS.1.vars.1;have hb1:=List.length_pos_iff.2 hb;have hcn:Lib.countB (Bs s) (Bs b)=Lib.count s b:=rfl;have hln:=D2 (s:=s) hb;have hcl:=Lib.count_le s b;refine(Tryz.strings_Split (Bs s) (Bs b) m w (by rw[aB];exact hl) hm (by rw[aB];exact hb1)).mono ?_;rintro e w' ⟨rfl,rfl⟩;refine⟨_,rfl,?_,(Below.refl _ _).alloc (Nat.le_refl _) _⟩;rw[vi,hcn,<- hln];refine AV.M.sl (fun i=>((Lib.split s b).map vL).getD i (.bool false)) (Nat.le_refl _) (by omega) (fun h=>Nat.lt_irrefl _ (hS.blk _ h).1) (by show w.heap.size<(w.heap.push _).size;simp) (fun i a hi=>?_) (fun i a hi=>?_)
   ·rw[Nat.zero_add,World.cell?_alloc_new]
    have:=(List.getElem?_eq_some_iff.1 hi).1
    simp only[aJ,List.length_map]at this
    simp[this]
   ·have:=(List.getElem?_eq_some_iff.1 hi).1
    simp only[aJ,List.length_map]at this
    simp[aJ,this]at hi
    subst hi
    simp[this]
    exact AV.M.val rfl⟩
theorem Kj (l:List (List UInt8)) (b:List UInt8) (h0:l≠[]) (hN:l.length<=1000000) (hj:(Lib.join l b).length<=1000000000):aa Tryz.prog 62 [QM l,dL b] (.one (dL (Lib.join l b))):=
 ⟨av func62 rfl rfl,fun S w vs hS hv=>by
  match vs,hv with
  | [v,u],⟨h1,h2,_⟩=>
   obtain rfl:=aV h2;have h1:AV.M S w (.sl l.length (aJ l)) v:=h1;generalize hr:aJ l=rr at h1;cases h1 with
   |emp=>cases l with
    |nil=>exact absurd rfl h0
    |cons a r=>simp[aJ]at hr
   |sl f e1 e2 e3 e4 hc hm=>
    subst hr
    rename_i bk off c
    have hml:(l.map Bs).map (·.data.toList)=l:=by rw[List.map_map];exact List.map_id _
    have hcell:∀(j:Nat) x,(l.map Bs)[j]? =some x->w.cell? ⟨bk,off+j,none⟩=some (.string x):=fun j x hx=>by
     have hj:=(List.getElem?_eq_some_iff.1 hx).1;rw[List.length_map]at hj;have hrow:(aJ l)[j]? =some (.val (vL l[j])):=by simp[aJ,hj]
     rw[hc j _ hrow,aV (hm j _ hrow)]
     simp[hj]at hx
     rw[<- hx];rfl
    have:=Tryz.strings_Join bk off c (l.map Bs) (Bs b) w hcell e4 (by rw[List.length_map];omega) (by rw[List.length_map];exact e1) (by rw[hml];exact Nat.le_trans hj (by decide));rw[List.length_map,hml]at this;refine this.mono ?_;rintro e w' ⟨rfl,hb⟩;exact⟨_,rfl,AV.M.val rfl,hb⟩⟩
def Fa (x:UInt8) (s:List UInt8):Int:=match Lib.atoiAll (Lib.trimPrefix s [x])with
 | .ok v=>v
 | .syntax=>0
 | .range=>Lib.atoiSat (Lib.trimPrefix s [x])
theorem Qr {x:UInt8} {s:List UInt8} (h:Lib.hasPrefix s [x]=false):Ob x s=none:=by
 cases s with
 |nil=>rfl
 |cons c r=>
  unfold Ob;dsimp only;rw[if_neg];intro e;subst e
  simp[Lib.hasPrefix,List.isPrefixOf]at h
theorem JU {x:UInt8} {s:List UInt8} (h:Lib.hasPrefix s [x]=true):Ob x s=match Lib.atoiAll (Lib.trimPrefix s [x])with
 | .ok v=>some v
 |_=>none:=by
 cases s with
 |nil=>cases h
 |cons c r=>
  have e:x=c:=by simpa[Lib.hasPrefix,List.isPrefixOf]using h
  subst e;unfold Lib.trimPrefix;rw[if_pos h];unfold Ob;dsimp only;rw[if_pos rfl];rfl
theorem wQ (w:World) (e:TypeId) (t:ByteArray):Below w.heap.size w (Lib.bytesWorld w e t):=Lib.bytesWorld_below w e t
theorem KJ (S:Nat->Prop) (x:UInt8) (s t:List UInt8) (b:Bool) (w:World) (hw:cH S w) (hl:s.length<=1000000) (hp:Lib.hasPrefix s [x]=b) (ht:Lib.trimPrefix s [x]=t) {v:Int}(ha:Lib.atoiAll t= .ok v):
 Calls Tryz.prog 66 #[.string (Bs s), .string (Bs [x])] w fun e w'=>e= .returned (.tuple #[.int .i64 v, .bool (b && true)])/\Below w.heap.size w w':=by
 have htl:(Lib.trimPrefix s [x]).length<=s.length:=by unfold Lib.trimPrefix;split <;>simp
 have h1:=Tryz.strings_CutPrefix (Bs s) (Bs [x]) w;rw[show(Bs s).data.toList=s from rfl,show(Bs [x]).data.toList=[x] from rfl,hp,ht]at h1;rw[ht]at htl;clear ht hp;obtain⟨_,⟨ev,hev,hev2⟩,ev2,hev3,hev4⟩:=hw.tab.vars;have h2:=Tryz.strconv_Atoi_ok (Bs t) (by rw[aB];omega) v ha w;cases b
 all_goals
  go_enter func66,ntmps66
  go_wp2_with first|(go_at_call 109;refine h1.mono ?_;rintro e w' ⟨rfl,rfl⟩)|(go_at_call 110;refine h2.mono ?_;rintro e w' ⟨rfl,hw'⟩)
  go_quiet (fail)
  go_wp2_with fail
  go_ret2
  exact⟨rfl,Below.drewN ((by rcases hw' with rfl| ⟨tb,rfl⟩;exact Below.refl _ _;exact wQ _ _ _)) _⟩
theorem K4 (S:Nat->Prop) (x:UInt8) (s t:List UInt8) (b:Bool) (w:World) (hw:cH S w) (hl:s.length<=1000000) (hp:Lib.hasPrefix s [x]=b) (ht:Lib.trimPrefix s [x]=t) (ha:Lib.atoiAll t= .syntax):
 Calls Tryz.prog 66 #[.string (Bs s), .string (Bs [x])] w fun e w'=>e= .returned (.tuple #[.int .i64 0, .bool (b && false)])/\Below w.heap.size w w':=by
 have htl:(Lib.trimPrefix s [x]).length<=s.length:=by unfold Lib.trimPrefix;split <;>simp
 have h1:=Tryz.strings_CutPrefix (Bs s) (Bs [x]) w;rw[show(Bs s).data.toList=s from rfl,show(Bs [x]).data.toList=[x] from rfl,hp,ht]at h1;rw[ht]at htl;clear ht hp;obtain⟨_,⟨ev,hev,hev2⟩,ev2,hev3,hev4⟩:=hw.tab.vars;have h2:=Tryz.strconv_Atoi_syntax (Bs t) (by rw[aB];omega) ha ev w hev hev2;cases b
 all_goals
  go_enter func66,ntmps66
  go_wp2_with first|(go_at_call 109;refine h1.mono ?_;rintro e w' ⟨rfl,rfl⟩)|(go_at_call 110;refine h2.mono ?_;rintro e w' ⟨N,rfl,_,_,hw'⟩)
  go_quiet (fail)
  go_wp2_with fail
  go_ret2
  exact⟨rfl,Below.drewN (hw') _⟩
theorem KR (S:Nat->Prop) (x:UInt8) (s t:List UInt8) (b:Bool) (w:World) (hw:cH S w) (hl:s.length<=1000000) (hp:Lib.hasPrefix s [x]=b) (ht:Lib.trimPrefix s [x]=t) (ha:Lib.atoiAll t= .range):
 Calls Tryz.prog 66 #[.string (Bs s), .string (Bs [x])] w fun e w'=>e= .returned (.tuple #[.int .i64 (Lib.atoiSat t), .bool (b && false)])/\Below w.heap.size w w':=by
 have htl:(Lib.trimPrefix s [x]).length<=s.length:=by unfold Lib.trimPrefix;split <;>simp
 have h1:=Tryz.strings_CutPrefix (Bs s) (Bs [x]) w;rw[show(Bs s).data.toList=s from rfl,show(Bs [x]).data.toList=[x] from rfl,hp,ht]at h1;rw[ht]at htl;clear ht hp;obtain⟨_,⟨ev,hev,hev2⟩,ev2,hev3,hev4⟩:=hw.tab.vars;have h2:=Tryz.strconv_Atoi_range (Bs t) (by rw[aB];omega) ha ev2 w hev3 hev4;cases b
 all_goals
  go_enter func66,ntmps66
  go_wp2_with first|(go_at_call 109;refine h1.mono ?_;rintro e w' ⟨rfl,rfl⟩)|(go_at_call 110;refine h2.mono ?_;rintro e w' ⟨N,rfl,_,_,hw'⟩)
  go_quiet (fail)
  go_wp2_with fail
  go_ret2
  exact⟨rfl,Below.drewN (hw') _⟩
theorem gg (x:UInt8) (s:List UInt8) (hl:s.length<=1000000):aa Tryz.prog 66 [dL s,dL [x]] (.tup [dN .i64 (Fa x s),dB (Ob x s).isSome]):=
 ⟨av func66 rfl rfl,fun S w vs hS hv=>by
  match vs,hv with
  | [v,u],⟨h1,h2,_⟩=>
   obtain rfl:=aV h1;obtain rfl:=aV h2
   have key:Calls Tryz.prog 66 #[.string (Bs s), .string (Bs [x])] w fun e w'=>e= .returned (.tuple #[.int .i64 (Fa x s), .bool (Ob x s).isSome])/\Below w.heap.size w w':=by
    obtain⟨b,hp⟩:∃b,Lib.hasPrefix s [x]=b:=⟨_,rfl⟩
    have hi:(Ob x s).isSome=(b && match Lib.atoiAll (Lib.trimPrefix s [x])with
     | .ok _=>true
     |_=>false):=by
     cases b with
     |false=>rw[Qr hp];rfl
     |true=>rw[JU hp];cases Lib.atoiAll (Lib.trimPrefix s [x])<;>rfl
    rw[hi];unfold Fa;cases ha:Lib.atoiAll (Lib.trimPrefix s [x])with
    |ok v=>exact KJ S x s _ b w hS hl hp rfl ha
    | «syntax» =>exact K4 S x s _ b w hS hl hp rfl ha
    |range=>exact KR S x s _ b w hS hl hp rfl ha
   refine key.mono ?_;rintro e w' ⟨rfl,hb⟩;refine⟨_,rfl,⟨[.int .i64 (Fa x s), .bool (Ob x s).isSome],rfl,rfl,fun i x u h1 h2=>?_⟩,hb⟩
   match i with
   |0=>simp at h1 h2;subst h1 h2;exact AV.M.val rfl
   |1=>simp at h1 h2;subst h1 h2;exact AV.M.val rfl
   |i+2=>simp at h1⟩
theorem qK (k:Int):aa Tryz.prog 61 [dN .i64 k] (.tup [dL (Qx k),dL (QE k)]):=by
 by_cases h:k=17
 ·subst h
  refine kU func61 ?_;exact am
 ·unfold Qx QE
  rw[if_neg h,if_neg h];refine kU func61 ?_;refine gI ?_;exact IT
end
theorem Qn:(nJ.all fun r=>decide (r.p<=4) && (decide (r.c<=2) && (decide (r.n<=2) && decide (r.nm.length<=20))))=true:=by decide
theorem JR {k:Int} {r:Kd} (h:oq k=some r):r.p<=4/\r.c<=2/\r.n<=2/\r.nm.length<=20:=by
 obtain⟨_,_,h3⟩:=qD h;have:=List.all_eq_true.1 Qn r (List.mem_of_getElem? h3)
 simpa using this
theorem wK (ts:List L8) (t:L8):Ie (ts++[t])=Ie ts++((if ts=[]then [32,61,32]else [44,32])++t):=by
 have hj:∀ts:List L8,ts≠[]->Lib.join (ts++[t]) [44,32]=Lib.join ts [44,32]++([44,32]++t):=by
  intro ts
  induction ts with
  |nil=>exact fun h=>absurd rfl h
  |cons a r ih=>
   intro _;cases r with
   |nil=>rw[List.cons_append,List.nil_append,mQ,Lib.join_one,Lib.join_one]
   |cons b r=>rw[List.cons_append,List.cons_append,mQ,mQ,<- List.cons_append,ih (by simp)];simp
 unfold Ie;rw[if_neg (by simp)]
 by_cases h:ts=[]
 ·subst h;rw[if_pos rfl,if_pos rfl,List.nil_append,Lib.join_one];rfl
 ·rw[if_neg h,if_neg h,hj ts h];simp
theorem IJ (ts:List L8):∀us,(Ie ts).length<=(Ie (ts++us)).length
 | []=>by rw[List.append_nil];exact Nat.le_refl _
 |u::us=>by
  have:=IJ (ts++[u]) us;rw[wK,List.length_append,List.append_assoc]at this;exact Nat.le_trans (Nat.le_add_right _ _) this
theorem wO (ts:List L8) (i:Nat):(Ie (ts.take i)).length<=(Ie ts).length:=by
 have:=IJ (ts.take i) (ts.drop i)
 rwa[List.take_append_drop]at this
theorem Nu (t:List (Nat × TV)) (b:List (Nat × Option (List AV))) (G:List L8) (x:L8):(⟨(4, .d (QM (G++[x])))::t,b⟩:AS)=⟨(4, .d (.leaf (.sl (G.length+1) ((aJ G).take (G.length*1)++[.val (vL x)]))))::t,b⟩:=by
 unfold QM;rw[CQ,List.length_append];rfl
theorem BE {z:Int} (h0:0<=z) (h1:z<200):(fmt z).length<=3:=by
 obtain⟨n,rfl⟩:=Int.eq_ofNat_of_zero_le h0;rw[KW];unfold AY
 split
 ·decide
 ·exact pE 3 n (by omega)
theorem N7 (t:List (Nat × TV)) (b:List (Nat × Option (List AV))) (G:List L8) (x:L8):(⟨(4, .own 7001 (G++[x]).length 1 9)::t,(7001,some (aJ (G++[x])))::b⟩:AS)=⟨(4, .own 7001 (G.length+1) 1 9)::t,(7001,some ((aJ G).take (G.length*1)++[.val (vL x)]))::b⟩:=by
 rw[CQ,List.length_append];rfl
theorem mU {c:Cn} {r:Kd} (h:Tq c r 200 200) (tx:Rx->L8) (cV:aa Tryz.prog 17 [dC c,dN .i64 200,dN .i64 200] (.one (dB true))) (cF:∀x∈c.vs,aa Tryz.prog 63 [dR x] (.tup [dL (tx x),dN .i64 0])) (hlen:(Ff r c (c.vs.map tx)).length<=65536) (h3:c.vs.length<=1000000):
 aa Tryz.prog 25 [dC c] (.tup [dL (Ff r c (c.vs.map tx)),dN .i64 0]):=by
 have hd:=JR h.k;have hpl:=h.pl;have hcl:=h.cl;have cN:=EI c.k;rw[h.k]at cN;have cN:aa Tryz.prog 14 [dN .i64 c.k] (.one (dL r.nm)):=cN;have cS:=qK c.k;have hs:=EE h.s;have hp:=h.p;have hq:=h.c;clear h;obtain⟨k,ps,cs,vs,s⟩:=c;dsimp only at *;show aa Tryz.prog _ [.agg (cC k ps cs vs s)] _;have cV:aa Tryz.prog 17 [.agg (cC k ps cs vs s),dN .i64 200,dN .i64 200] (.one (dB true)):=cV;refine kV func25 ?_;refine kQ (cV) ?_;refine kC (cN) ?_;refine Cj 7001 (cs:=[.val (vL r.nm)]) ah rfl rfl rfl rfl rfl rfl rfl rfl rfl rfl rfl rfl rfl ?_;refine kW ?_
 refine ax (Nat × List L8) (fun x=>x.1<=ps.length/\x.2=r.nm::(ps.take x.1).map LA) (fun x=>⟨[(4, .own 7001 x.2.length 1 9),(1, .box 0 0),(24, .d (ma ps)),(25, .d (dN .i64 ps.length)),(26, .d (dN .i64 x.1))],[(7001,some (aJ x.2)),(0,some (cC k ps cs vs s))]⟩) (fun x=>ps.length-x.1) (0,[r.nm]) ⟨Nat.zero_le _,rfl⟩ kw ?_;rintro⟨i,G⟩ ⟨hi,hG⟩;dsimp only at hi hG ⊢;refine kI ?_
 by_cases hlt:i<ps.length
 ·refine kT ?_
  have hz:=hp _ (List.getElem_mem hlt);have hat:=bn (List.getElem?_eq_getElem hlt);have hG2:G++[LA ps[i]]=r.nm::(ps.take (i+1)).map LA:=by rw[hG,bJ (List.getElem?_eq_getElem hlt),List.map_append];rfl
  have hGl:G.length=i+1:=by rw[hG];simp;omega
  generalize ps[i]=z at *;have cI:=Bi (p:=z) (by omega) (by omega);refine My ?_;refine aD rfl rfl rfl rfl rfl rfl rfl (db (a:=[112]) (b:=fmt z) (by have:=BE hz.1 hz.2;simp;omega)) ?_;refine Oc ?_;refine⟨(i+1,G++[LA z]),⟨hlt,hG2⟩,by dsimp only;omega,Eq.mpr (congrArg (aU _) (N7 _ _ G (LA z))) ?_⟩;exact aU.trans (b:=⟨[(4, .own 7003 (G.length+1) 1 9),(1, .box 0 0),(24, .d (ma ps)),(25, .d (dN .i64 ps.length)),(26, .d (dN .i64 (i+1:Nat)))],[(7003,some ((aJ G).take (G.length*1)++[.val (vL (LA z))])),(0,some (cC k ps cs vs s))]⟩) (weak ⟨rfl,rfl,rfl,rfl,aA (by omega) (by omega),trivial⟩ ⟨rfl,rfl,trivial⟩ rfl) ((aT (q:=4) (j:=7003) (j':=7001) rfl rfl rfl rfl).trans kw)
 refine kE ?_;rw[List.take_of_length_le (by omega)]at hG;refine kW ?_;refine ax (Nat × List L8) (fun x=>x.1<=cs.length/\x.2=r.nm::(ps.map LA++(cs.take x.1).map Pn)) (fun x=>⟨[(4, .own 7001 x.2.length 1 9),(1, .box 0 0),(38, .d (ma cs)),(39, .d (dN .i64 cs.length)),(40, .d (dN .i64 x.1))],[(7001,some (aJ x.2)),(0,some (cC k ps cs vs s))]⟩) (fun x=>cs.length-x.1) (0,G) ⟨Nat.zero_le _,by rw[hG];simp⟩ kw ?_;clear hlt hi hG i G;rintro⟨i,G⟩ ⟨hi,hG⟩;dsimp only at hi hG ⊢;refine kI ?_
 by_cases hlt:i<cs.length
 ·refine kT ?_
  have hz:=hq _ (List.getElem_mem hlt);have hat:=bn (List.getElem?_eq_getElem hlt);have hG2:G++[Pn cs[i]]=r.nm::(ps.map LA++(cs.take (i+1)).map Pn):=by rw[hG,bJ (List.getElem?_eq_getElem hlt),List.map_append,<- List.append_assoc];rfl
  have hGl:G.length=i+ps.length+1:=by rw[hG];simp;omega
  generalize cs[i]=z at *;have cI:=Bi (p:=z) (by omega) (by omega);refine My ?_;refine aD rfl rfl rfl rfl rfl rfl rfl (db (a:=[99]) (b:=fmt z) (by have:=BE hz.1 hz.2;simp;omega)) ?_;refine Oc ?_;refine⟨(i+1,G++[Pn z]),⟨hlt,hG2⟩,by dsimp only;omega,Eq.mpr (congrArg (aU _) (N7 _ _ G (Pn z))) ?_⟩;exact aU.trans (b:=⟨[(4, .own 7003 (G.length+1) 1 9),(1, .box 0 0),(38, .d (ma cs)),(39, .d (dN .i64 cs.length)),(40, .d (dN .i64 (i+1:Nat)))],[(7003,some ((aJ G).take (G.length*1)++[.val (vL (Pn z))])),(0,some (cC k ps cs vs s))]⟩) (weak ⟨rfl,rfl,rfl,rfl,aA (by omega) (by omega),trivial⟩ ⟨rfl,rfl,trivial⟩ rfl) ((aT (q:=4) (j:=7003) (j':=7001) rfl rfl rfl rfl).trans kw)
 refine kE ?_;rw[List.take_of_length_le (by omega)]at hG;have hGl:G.length=cs.length+ps.length+1:=by rw[hG];simp;omega
 have hW:RF r ⟨k,ps,cs,vs,s⟩=G++LT ⟨k,ps,cs,vs,s⟩:=by rw[hG];unfold RF;simp
 have hwl:(LT ⟨k,ps,cs,vs,s⟩).length<=1:=by unfold LT;split;exact Nat.le_refl _;split;exact Nat.le_refl _;exact Nat.zero_le _
 have hjl:(Lib.join (G++LT ⟨k,ps,cs,vs,s⟩) [32]).length<=65536:=by rw[<- hW];unfold Ff at hlen;rw[List.length_append]at hlen;omega
 have cJ:=Kj (G++LT ⟨k,ps,cs,vs,s⟩) [32] (by intro e;rw[List.append_eq_nil_iff]at e;rw[e.1]at hGl;simp at hGl) (by rw[List.length_append];omega) (by omega);unfold Ff at hlen ⊢;rw[hW]at hlen ⊢;refine kW ?_;refine kC (cS) ?_;refine kN ?_;refine oS ⟨[(4, .d (QM (G++LT ⟨k,ps,cs,vs,s⟩))),(1, .box 0 0)],[(0,some (cC k ps cs vs s))]⟩ (fun s' hw=>?_) (fun R hR hret=>?_)
 ·generalize G++LT ⟨k,ps,cs,vs,s⟩=W at *
  refine bu ?_;refine ez hw rfl ?_;refine kO ?_;refine kQ (cJ) ?_;refine ax (Nat × L8) (fun x=>x.1<=vs.length/\x.2=Lib.join W [32]++Ie ((vs.take x.1).map tx)) (fun x=>⟨[(11, .d (dL x.2)),(74, .d (.leaf (.sl vs.length (d7 vs)))),(75, .d (dN .i64 vs.length)),(76, .d (dN .i64 x.1))],[]⟩) (fun x=>vs.length-x.1) (0,Lib.join W [32]) ⟨Nat.zero_le _,by simp[Ie]⟩ kw ?_;clear hlt hi hG hGl hW i G;rintro⟨i,u⟩ ⟨hi,hu⟩;dsimp only at hi hu ⊢;refine kI ?_
  have hul:u.length<=65536:=by
   have:=wO (vs.map tx) i;rw[List.length_append]at hlen;rw[hu,List.length_append,List.map_take];omega
  by_cases hlt:i<vs.length
  ·refine kT ?_
   obtain⟨x,hx⟩:∃x,vs[i]? =some x:=⟨vs[i],by simp[hlt]⟩;have c1:=cF x (List.mem_of_getElem? hx);have hat:=dz vs i x hx
   have hu2:u++((if i=0 then [32,61,32]else [44,32])++tx x)=Lib.join W [32]++Ie ((vs.take (i+1)).map tx):=by
    rw[bJ hx,List.map_append,List.map_cons,List.map_nil,wK,hu,List.append_assoc]
    congr 3
    by_cases h0:i=0
    ·subst h0;rfl
    ·rw[if_neg h0,if_neg (by simp;exact⟨h0,fun e=>by rw[e]at hlt;simp at hlt⟩)]
   have hul2:u.length+(tx x).length<=65536:=by
    have h1:=congrArg List.length hu2;have:=wO (vs.map tx) (i+1);rw[List.length_append]at hlen;rw[List.length_append,List.length_append,List.length_append,List.map_take]at h1;omega
   obtain⟨o1,na1,xs1,nb1,ys1,nm1,n1',cs1,hX⟩:=aN x;rw[show dR x= .agg (ab o1 na1 xs1 nb1 ys1 nm1 n1' cs1) from congrArg DV.agg hX]at c1;rw[hX]at hat;generalize tx x=t at *;refine kW ?_;refine GF ?_;refine kW ?_;refine kC (c1) ?_
   iterate 2 refine kG ?_
   refine kO ?_
   by_cases h0:i=0
   ·rw[if_pos h0]at hu2
    refine kB true ?_ ?_
    ·exact(by simp[h0])
    refine kG ?_
    refine kO2 ?_
    refine aD rfl rfl rfl rfl rfl rfl rfl (db (a:=[32,61,32]) (b:=t) (by simp;omega)) ?_;refine aD rfl rfl rfl rfl rfl rfl rfl (db (a:=u) (b:=[32,61,32]++t) (by simp;omega)) ?_;refine kW ?_;exact⟨(i+1,u++([32,61,32]++t)),⟨hlt,hu2⟩,by dsimp only;omega,weak ⟨rfl,rfl,rfl,aA (by omega) (by omega),trivial⟩ trivial rfl⟩
   ·rw[if_neg h0]at hu2
    refine kB false ?_ ?_
    ·exact(by simp[h0])
    refine kG ?_
    refine kO2 ?_
    refine aD rfl rfl rfl rfl rfl rfl rfl (db (a:=[44,32]) (b:=t) (by simp;omega)) ?_;refine aD rfl rfl rfl rfl rfl rfl rfl (db (a:=u) (b:=[44,32]++t) (by simp;omega)) ?_;refine kW ?_;exact⟨(i+1,u++([44,32]++t)),⟨hlt,hu2⟩,by dsimp only;omega,weak ⟨rfl,rfl,rfl,aA (by omega) (by omega),trivial⟩ trivial rfl⟩
  ·have hsz:=aB u
   refine kE ?_;rw[List.take_of_length_le (by omega)]at hu;refine kG ?_
   refine kO2 ?_
   refine kE ?_;refine fO ?_;rw[hu];rfl
 ·clear hret cJ cF hlen hjl hwl
  rcases hs with rfl|rfl|rfl
  ·refine Ni ?_
   refine hR _ (Eq.mpr (congrArg (aU _) (Nu _ _ G (Qx k))) ?_);exact aU.trans (b5 (q:=4) rfl rfl) kw
  ·refine Ni ?_
   refine hR _ (Eq.mpr (congrArg (aU _) (Nu _ _ G (QE k))) ?_);exact aU.trans (b5 (q:=4) rfl rfl) kw
  ·refine kW ?_
   rw[show G++LT ⟨k,ps,cs,vs,0⟩=G from List.append_nil G]at hR;exact hR _ (aU.trans (b5 (q:=4) rfl rfl) kw)
section
variable {P:Program} {T:TypeId->Option Ty} {n:Nat} {ops:Array Oper} {id:Nat} {draw:Bool} {K:AS->Prop} {s:AS} {k:Nat} {o:Oper} {os:List Oper} {fps:List FP}
theorem Hp {t:TypeId} {ty:Ty} {parts:Array (Nat × Operand)} {l:List (Nat × DV)} {cs:List AV} (hT:aY P t ty) (hag:ty.flds≠[]) (h1:gd ops s o=some true) (ho:o.op= .build t parts) (hp:d8 s parts.toList=some l) (hf:mq (vu ty) ty.zero l=some cs)
 (h3:aG n o.dst=true) (h4:eY draw ops (az ops o ⟨.d (.agg cs),none⟩ []) k fps=true) (h:aq P T n ops id draw K (k+1) os (s.eff o.dst ⟨.d (.agg cs),none⟩) (az ops o ⟨.d (.agg cs),none⟩ []::fps)):aq P T n ops id draw K k (o::os) s fps:=by
 refine .run h1 (.gen fun s2 ht2 _=>?_) h3 h4 h
 have hp2:d8 s2 parts.toList=some l:=by
  rw[<- hp];have:∀x∈parts.toList,s2.ev x.2=s.ev x.2:=fun x hx=>aw ht2 (by rw[ho];simp only[Op.operands];simp;exact⟨x.1,by simpa using hx⟩)
  generalize parts.toList=ps at this;clear hp hf
  induction ps with
  |nil=>rfl
  |cons x r ih=>
   simp only[d8]
   rw[this x (by simp),ih fun y hy=>this y (by simp[hy])]
 exact oH hT ho hag hp2 hf
end
def Ue:Ty:=⟨true,5,88,[.val (.int .i64 0), .nl, .nl, .nl, .val (.int .i64 0)],[(0,1,false),(1,1,false),(2,1,false),(3,1,false),(4,1,false)],none,false,false,none⟩
theorem Pf:aY Tryz.prog 30 Ue:=by
 have h:=ah 30 _ rfl;refine⟨h.size,h.bytes,h.und,⟨.agg #[.int .i64 0, .slice none 0 0, .slice none 0 0, .slice none 0 0, .int .i64 0],by kernel_rfl,fun S w=>?_⟩,rfl⟩;exact CM.cons (.val rfl) (CM.cons .nl (CM.cons .nl (CM.cons .nl (CM.cons (.val rfl) (CM.nil _ _)))))
end Go.Proofs.YtnchbpoopnjghaaGreatDoor
