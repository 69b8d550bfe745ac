/- Parts of a proof: contracts of the functions that the laws reach. -/
import Derived.Test.YtikbnnljjeefgaaGreatDoorWZ13
set_option maxHeartbeats 100000000
set_option linter.all false
open Go.Proofs.Tryz
namespace Go.Proofs.YtikbnnljjeefgaaGreatDoor
open Go.RowKit
def o8 (J:Nat):List L8→TV
 | []=> .nil
 |a::r=> .own J (a::r).length 1 9
def rV:List L8→Option (List AV)
 | []=>none
 |a::r=>some (aY (a::r))
theorem iz (l:List L8):(aY l).length=l.length:=by simp[aY]
theorem vE (a b:List L8):aY (a++b)=aY a++aY b:=by simp[aY]
theorem t6 {l:List L8} {i:Nat} {x:L8} (h:l[i]? =some x):(aY l)[i*1]? =some (.val (vL x)):=by simp[aY,h]
theorem gD {l:List L8} {i:Nat} {x:L8} (h:l[i]? =some x):∀(j:Nat) (a:AV),[AV.val (vL x)][j]? =some a→(aY l)[i*1+j]? =some a:=fun j a hj=>by
 cases j with
 |zero=>cases hj;exact t6 h
 |succ j=>cases hj
theorem pd:∀{cs:List AV},(∀a∈cs,∃l,a= .val (vL l))→gC cs=true
 | [],_=>rfl
 |a::r,h=>by
  obtain⟨l,rfl⟩:=h a (by simp);have ih:=pd (cs:=r) (fun b hb=>h b (by simp[hb]))
  simp only[gC,ih]
  rfl
theorem qe {l:List L8} {a:AV} (h:a∈aY l):∃x,a= .val (vL x):=by
 obtain⟨x,_,rfl⟩:=List.mem_map.1 h;exact⟨x,rfl⟩
theorem lf (l:List L8):gC (aY l)=true:=pd fun _ h=>qe h
theorem zQ (t:List (Nat × TV)) (b:List (Nat × Option (List AV))) (q J:Nat) (l:List L8) (y:L8) (r:List L8):(⟨(q,o8 J (l++y::r))::t,(J,rV (l++y::r))::b⟩:AS)=⟨(q, .own J (l.length+(y::r).length) 1 9)::t,(J,some ((aY l).take (l.length*1)++aY (y::r)))::b⟩:=by
 have e1:o8 J (l++y::r)= .own J (l.length+(y::r).length) 1 9:=by
  cases l with
  |nil=>simp[o8]
  |cons a l=>simp[o8];omega
 have e2:rV (l++y::r)=some ((aY l).take (l.length*1)++aY (y::r)):=by
  rw[Nat.mul_one,List.take_of_length_le (Nat.le_of_eq (iz l)),← vE];cases l<;>rfl
 rw[e1,e2]
theorem sv {args:List Rx} {i:Nat} (h:i<args.length):gL (args.take (i+1))=gL (args.take i)++ry args[i]:=by
 have app:∀a b:List Rx,gL (a++b)=gL a++gL b:=by
  intro a b
  induction a with
  |nil=>simp[gL]
  |cons x r ih=>simp[gL,ih]
 rw[List.take_add_one,app]
 simp[h,gL]
theorem vp:∀(l:List L8) (x:L8),(iE l x).length≤l.length+1
 | [],x=>by simp[iE]
 |y::r,x=>by
  have ih:=vp r x;unfold iE
  split
  ·simp only[List.length_cons];omega
  ·split <;>simp
theorem qq (l:List L8):(jM l).length≤l.length:=by
 have:∀(l acc:List L8),(l.foldl iE acc).length≤acc.length+l.length:=by
  intro l
  induction l with
  |nil=>intro acc;simp
  |cons x l ih=>
   intro acc;have h1:=ih (iE acc x);have h2:=vp acc x;rw[List.foldl_cons,List.length_cons];omega
 have:=this l []
 simpa[jM]using this
theorem uI:∀x,(ry x).length≤jm x:=by
 refine dx fun op na xs nb ys nm args ih=>?_
 have key:∀l:List Rx,(∀y∈l,(ry y).length≤jm y)→(gL l).length≤iw l:=by
  intro l
  induction l with
  |nil=>intro _;simp[gL]
  |cons y l ihl=>
   intro h;have h1:=h y (by simp);have h2:=ihl (fun z hz=>h z (by simp[hz]));rw[gL,iw,List.length_append];omega
 have h1:=key args ih;rw[ry,jm];refine Nat.le_trans (qq _) ?_;rw[List.length_append]
 split <;>simp <;>omega
theorem ET (l:List Rx):(gL l).length≤iw l:=by
 induction l with
 |nil=>simp[gL]
 |cons y l ihl=>
  have h1:=uI y;rw[gL,iw,List.length_append];omega
theorem lQ (l:List Rx) (i:Nat):(gL (l.take i)).length≤iw l:=by
 have h:iw (l.take i)≤iw l:=by
  induction l generalizing i with
  |nil=>simp
  |cons y l ih=>
   cases i with
   |zero=>simp[iw]
   |succ i=>have:=ih i;simp only[List.take_succ_cons,iw];omega
 exact Nat.le_trans (ET _) h
theorem FD {O:List L8} {x:L8} {k:Nat} (hk:k<O.length):(aY O).take (k*1)++(([AV.val (vL x)].take (1*1)++((aY O).drop (k*1)).take ((O.length-k)*1)).take ((1+(O.length-k))*1))=aY (O.take k++x::O.drop k):=by
 simp only[Nat.mul_one]
 have h1:((aY O).drop k).take (O.length-k)=(aY O).drop k:=List.take_of_length_le (by rw[List.length_drop,iz];exact Nat.le_refl _);rw[h1,List.take_of_length_le (l:=_++_)]
 ·simp[aY]
 ·simp[iz];omega
theorem DG (t:List (Nat × TV)) (b:List (Nat × Option (List AV))) (q J:Nat) (l:List L8) (h:l≠[]):(⟨(q,o8 J l)::t,(J,rV l)::b⟩:AS)=⟨(q, .own J l.length 1 9)::t,(J,some (aY l))::b⟩:=by
 cases l with
 |nil=>exact absurd rfl h
 |cons a r=>rfl
theorem Ji {t:TypeId} {p q:Operand} {a b:L8} {v:Bool} (h:Op.bytesLess a b=v):me .lss t p q (vL a) (vL b)=some (.bool v):=by rw[Ba,h]
theorem Gp {O:List L8} {x:L8}:(aY O).take (O.length*1)++([AV.val (vL x)].take (1*1))=aY (O.take O.length++x::O.drop O.length):=by
 rw[Nat.mul_one,List.take_of_length_le (Nat.le_of_eq (iz O)),List.take_length,List.drop_length]
 simp[aY]
theorem mC:∀x,nu x→jm x≤1000000→aa Tryz.prog 22 [dR x] (.one (.leaf (.sl (ry x).length (aY (ry x))))):=by
 refine dx fun op na xs nb ys nm args ih hx hs=>?_
 obtain⟨_,_,_,_,_,_,hargs⟩:=hx;rw[jm]at hs;have hge:=pu args;rw[ry]
 have hz:(if op=2 then [nm]else [])=cond (decide (op=2)) [nm] []:=by
  by_cases h:op=2
  ·rw[if_pos h,decide_eq_true h];rfl
  ·rw[if_neg h,decide_eq_false h];rfl
 rw[hz];clear hz;have hbl:(cond (decide (op=2)) [nm] []).length≤1:=by cases decide (op=2)<;>simp
 generalize hb:decide (op=2)=b at *;obtain⟨al,hal⟩:∃al:Nat→List L8,∀i,al i=cond b [nm] []++gL (args.take i):=⟨_,fun _=>rfl⟩;have hal0:al 0=cond b [nm] []:=by rw[hal];simp[gL]
 have hall:∀i,(al i).length≤1000000:=fun i=>by
  have:=lQ args i;rw[hal,List.length_append];omega
 have hsn:∀i (h:i<args.length),al (i+1)=al i++ry args[i]:=fun i h=>by rw[hal,hal,sv h,List.append_assoc]
 have hend:cond b [nm] []++gL args=al args.length:=by rw[hal,List.take_length]
 rw[hend];have hlenA:=hall args.length;obtain⟨A,hA0⟩:∃A,al args.length=A:=⟨_,rfl⟩;rw[hA0]at hlenA ⊢;obtain⟨ou,hou⟩:∃ou:Nat→List L8,∀i,ou i=(A.take i).foldl iE []:=⟨_,fun _=>rfl⟩;have hou0:ou 0=[]:=by rw[hou];rfl
 have hos:∀i (h:i<A.length),ou (i+1)=iE (ou i) A[i]:=fun i h=>by
  rw[hou,hou,List.take_add_one,List.foldl_append]
  simp[h]
 have hol:∀i,(ou i).length≤1000000:=fun i=>by
  have:=qq (A.take i);have h2:=List.length_take_le i A;rw[hou];unfold jM at this;have h3:(A.take i).length≤A.length:=by rw[List.length_take];omega
  omega
 have hoe:jM A=ou A.length:=by rw[hou,List.take_length];rfl
 rw[hoe];show aa Tryz.prog _ [.agg (ac op na xs nb ys nm args.length (cZ args))] _;refine kU func22 ?_;refine kR ?_;refine kR ?_;refine mq ⟨[(3,o8 5001 (al 0)),(1, .box 0 0),(2, .nil)],[(5001,rV (al 0)),(0,some (ac op na xs nb ys nm args.length (cZ args)))]⟩ (fun s' hw2=>?_) (fun R hR _=>?_)
 ·clear hb hal hal0 hend
  refine mq ⟨[(3, .d (.leaf (.sl A.length (aY A)))),(2, .nil)],[]⟩ (fun s' hw3=>?_) (fun R hR _=>?_)
  ·refine ee hw3 rfl ?_
   refine kW ?_
   refine aS Nat (fun i=>i≤A.length) (fun i=>⟨[(5,o8 16001 (ou i)),(3, .d (.leaf (.sl A.length (aY A)))),(2, .nil),(6, .d (dN .i64 i))],[(16001,rV (ou i))]⟩) (fun i=>A.length-i) 0 (Nat.zero_le _)
    (by dsimp only;rw[hou0];exact weak ⟨rfl,rfl,rfl,rfl,trivial⟩ trivial rfl) ?_
   intro i hi;have hO1:=hol i
   by_cases hlt:i<A.length
   ·have hsi:=hos i hlt
    have hxx:A[i]? =some A[i]:=by simp[hlt]
    generalize A[i]=x at *;generalize ou i=O at *;cases O with
    |nil=>
     refine kI ?_
     refine kO3 ?_
     refine kX ?_;refine aS Nat (fun k=>k=0) (fun k=>⟨[(7, .d (dN .i64 0)),(5, .nil),(3, .d (.leaf (.sl A.length (aY A)))),(2, .nil),(6, .d (dN .i64 i))],[]⟩) (fun k=>k) 0 rfl (weak ⟨rfl,rfl,rfl,rfl,rfl,trivial⟩ trivial rfl) ?_;rintro k rfl;refine kW ?_;refine Fr ab rfl rfl rfl rfl rfl rfl rfl rfl ?_
     refine kO2 ?_
     refine bl (i:=i) (cs':=[.val (vL x)]) hlt (gD hxx) (Nat.lt_succ_self 0) rfl rfl rfl rfl rfl rfl rfl rfl ?_;refine kO ?_;refine DR 16002 (cs:=[.val (vL x)]) ab rfl rfl rfl rfl rfl rfl rfl rfl rfl rfl rfl rfl rfl ?_
     refine kO2 ?_
     refine Bm ab rfl rfl rfl rfl rfl rfl rfl rfl ?_;refine uv ab rfl rfl rfl rfl rfl rfl rfl rfl rfl ?_;refine yK 16004 (m1:=0) (m2:=1) ab (by decide) (by decide) (Nat.le_of_ble_eq_true rfl) rfl rfl rfl rfl rfl rfl rfl rfl rfl (.nil rfl rfl) rfl rfl rfl rfl rfl ?_;refine kW ?_;refine⟨i+1,hlt,by omega,?_⟩;rw[hsi];exact aV.trans (b:=⟨[(5, .own 16004 1 1 9),(3, .d (.leaf (.sl A.length (aY A)))),(2, .nil),(6, .d (dN .i64 (i+1:Nat)))],[(16004,some [.val (vL x)])]⟩) (weak ⟨rfl,rfl,rfl,aG (by omega) (by omega),trivial⟩ ⟨rfl,trivial⟩ rfl) ((ax (q:=5) (j:=16004) (j':=16001) rfl rfl rfl rfl).trans (weak ⟨rfl,rfl,rfl,rfl,trivial⟩ ⟨rfl,trivial⟩ rfl))
    |cons a r=>
     refine kI ?_
     refine kO3 ?_
     refine kX ?_;refine aS Nat (fun k=>k≤(a::r).length∧ ∀(q:Nat) y,q<k→(a::r)[q]? =some y→Op.bytesLess y x=true) (fun k=>⟨[(7, .d (dN .i64 k)),(5, .own 16001 (a::r).length 1 9),(3, .d (.leaf (.sl A.length (aY A)))),(2, .nil),(6, .d (dN .i64 i))],[(16001,some (aY (a::r)))]⟩) (fun k=>(a::r).length-k) 0 ⟨Nat.zero_le _,fun q y h=>absurd h (Nat.not_lt_zero _)⟩ (weak ⟨rfl,rfl,rfl,rfl,rfl,trivial⟩ ⟨rfl,trivial⟩ rfl) ?_;rintro k ⟨hk,hq⟩;have hat0:=Ad (l:=a::r) (x:=x) hk hq
     by_cases hko:k<(a::r).length
     ·have hy:(a::r)[k]? =some (a::r)[k]:=by simp[hko]
      generalize(a::r)[k]=y at *;refine kI ?_
      refine kO3 ?_
      refine kT ?_
      refine kO3 ?_
      refine ub (i:=k) hko rfl rfl rfl rfl rfl rfl rfl rfl rfl ?_;refine tY (t6 hy) rfl rfl rfl rfl rfl rfl rfl rfl rfl ?_
      refine kO2 ?_
      refine bl (i:=i) (cs':=[.val (vL x)]) hlt (gD hxx) (Nat.lt_succ_self 0) rfl rfl rfl rfl rfl rfl rfl rfl ?_;refine kO ?_;cases hbx:Op.bytesLess y x
      ·have hat0:=hat0 (fun z hz=>by rw[hy]at hz;cases hz;exact hbx)
       refine aP rfl rfl rfl rfl rfl rfl rfl (Ji (a:=y) (b:=x) hbx) ?_;refine kN ?_;refine av (T:=TT) ?_;refine bK (T:=TT) rfl ?_;refine cV ?_;refine kI ?_
       refine kO3 ?_
       refine kT ?_
       refine kO3 ?_
       refine ub (i:=k) hko rfl rfl rfl rfl rfl rfl rfl rfl rfl ?_;refine tY (t6 hy) rfl rfl rfl rfl rfl rfl rfl rfl rfl ?_
       refine kO2 ?_
       refine bl (i:=i) (cs':=[.val (vL x)]) hlt (gD hxx) (Nat.lt_succ_self 0) rfl rfl rfl rfl rfl rfl rfl rfl ?_;refine kO ?_
       by_cases e:y=x
       ·refine aP rfl rfl rfl rfl rfl rfl rfl (cP (a:=y) (b:=x) e) ?_
        refine kW ?_;refine⟨i+1,hlt,by omega,?_⟩;rw[hsi,hat0,if_pos (by rw[hy,e])];exact weak ⟨rfl,rfl,rfl,aG (by omega) (by omega),trivial⟩ ⟨rfl,trivial⟩ rfl
       ·have hnew:iE (a::r) x=(a::r).take k++x::(a::r).drop k:=by rw[hat0,if_neg (fun h=>e (by rw[hy]at h;cases h;rfl))]
        have hne:(a::r).take k++x::(a::r).drop k≠[]:=by simp
        have hcont:=FD (O:=a::r) (x:=x) hko;have hlenE:k+(1+((a::r).length-k))=((a::r).take k++x::(a::r).drop k).length:=by simp at hk ⊢;omega
        have hst:(⟨[(5,o8 16001 (ou (i+1))),(3, .d (.leaf (.sl A.length (aY A)))),(2, .nil),(6, .d (dN .i64 (i+1:Nat)))],[(16001,rV (ou (i+1)))]⟩:AS)=⟨[(5, .own 16001 (k+(1+((a::r).length-k))) 1 9),(3, .d (.leaf (.sl A.length (aY A)))),(2, .nil),(6, .d (dN .i64 (i+1:Nat)))],[(16001,some ((aY (a::r)).take (k*1)++(([AV.val (vL x)].take (1*1)++((aY (a::r)).drop (k*1)).take (((a::r).length-k)*1)).take ((1+((a::r).length-k))*1))))]⟩:=by rw[hsi,hnew,DG _ _ _ _ _ hne,hcont,hlenE]
        refine aP rfl rfl rfl rfl rfl rfl rfl (gF (a:=y) (b:=x) e) ?_;refine kN ?_;refine av (T:=TT) ?_;refine bK (T:=TT) rfl ?_;refine bM (show fU _ _ _ _ _ _ from ?_);refine kI ?_
        refine kO2 ?_
        refine zT ab (i:=k) (Nat.le_of_lt hko) rfl rfl rfl rfl rfl rfl rfl rfl rfl ?_
        refine kO2 ?_
        refine bl (i:=i) (cs':=[.val (vL x)]) hlt (gD hxx) (Nat.lt_succ_self 0) rfl rfl rfl rfl rfl rfl rfl rfl ?_;refine kO ?_;refine DR 16002 (cs:=[.val (vL x)]) ab rfl rfl rfl rfl rfl rfl rfl rfl rfl rfl rfl rfl rfl ?_
        refine kO2 ?_
        refine Bl ab (i:=k) hko rfl rfl rfl rfl rfl rfl rfl rfl rfl ?_;refine Hn 16003 (m1:=1) (m2:=(a::r).length-k) (p:=k) ab (Nat.sub_pos_of_lt hko) (Nat.le_trans (Nat.mul_le_mul_right _ (show 1+((a::r).length-k)≤1000001 by omega)) (by decide)) (by rw[iz];omega) rfl rfl rfl rfl rfl rfl rfl rfl rfl (.own rfl rfl) rfl rfl rfl (by rw[pd (fun b hb=>qe (List.mem_of_mem_drop (List.mem_of_mem_take hb)))];rfl) rfl ?_
        refine yK 16004 (m1:=k) (m2:=1+((a::r).length-k)) ab (by omega) (Nat.le_trans (Nat.mul_le_mul_right _ (show k+(1+((a::r).length-k))≤1000001 by omega)) (by decide)) (by simp[iz];omega) rfl rfl rfl rfl rfl rfl rfl rfl rfl (.own rfl rfl) rfl rfl rfl (by rw[pd (fun b hb=>(List.mem_append.1 (List.mem_of_mem_take hb)).elim (fun h=>⟨x,by simpa using h⟩) fun h=>qe (List.mem_of_mem_drop (List.mem_of_mem_take h)))];rfl) rfl ?_;refine kW ?_;refine⟨i+1,hlt,by omega,?_⟩
        exact Eq.mpr (congrArg (aV _) hst) (aV.trans (b:=⟨[(5, .own 16004 (k+(1+((a::r).length-k))) 1 9),(3, .d (.leaf (.sl A.length (aY A)))),(2, .nil),(6, .d (dN .i64 (i+1:Nat)))],[(16004,some ((aY (a::r)).take (k*1)++(([AV.val (vL x)].take (1*1)++((aY (a::r)).drop (k*1)).take (((a::r).length-k)*1)).take ((1+((a::r).length-k))*1))))]⟩) (weak ⟨rfl,rfl,rfl,aG (by omega) (by omega),trivial⟩ ⟨rfl,trivial⟩ rfl) ((ax (q:=5) (j:=16004) (j':=16001) rfl rfl rfl rfl).trans (weak ⟨rfl,rfl,rfl,rfl,trivial⟩ ⟨rfl,trivial⟩ rfl)))
      ·refine aP rfl rfl rfl rfl rfl rfl rfl (Ji (a:=y) (b:=x) hbx) ?_
       refine kW ?_
       exact⟨k+1,⟨hko,fun q z h1 h2=>by
        by_cases e:q=k
        ·subst e;rw[hy]at h2;cases h2;exact hbx
        ·exact hq q z (by omega) h2⟩,by omega,weak ⟨aG (by omega) (by omega),rfl,rfl,rfl,rfl,trivial⟩ ⟨rfl,trivial⟩ rfl⟩
     ·obtain rfl:k=(a::r).length:=by omega
      have hno:(a::r)[(a::r).length]? =none:=List.getElem?_eq_none (Nat.le_refl _);have hat0:=hat0 (fun z hz=>by rw[hno]at hz;cases hz);have hnew:iE (a::r) x=(a::r).take (a::r).length++x::(a::r).drop (a::r).length:=by rw[hat0,if_neg (fun h=>by rw[hno]at h;cases h)]
      have hne:(a::r).take (a::r).length++x::(a::r).drop (a::r).length≠[]:=by simp
      have hcont:=Gp (O:=a::r) (x:=x);have hlenE:(a::r).length+1=((a::r).take (a::r).length++x::(a::r).drop (a::r).length).length:=by simp
      have hst:(⟨[(5,o8 16001 (ou (i+1))),(3, .d (.leaf (.sl A.length (aY A)))),(2, .nil),(6, .d (dN .i64 (i+1:Nat)))],[(16001,rV (ou (i+1)))]⟩:AS)=⟨[(5, .own 16001 ((a::r).length+1) 1 9),(3, .d (.leaf (.sl A.length (aY A)))),(2, .nil),(6, .d (dN .i64 (i+1:Nat)))],[(16001,some ((aY (a::r)).take ((a::r).length*1)++([AV.val (vL x)].take (1*1))))]⟩:=by rw[hsi,hnew,DG _ _ _ _ _ hne,hcont,hlenE]
      refine kI ?_
      refine kO3 ?_
      refine kE ?_;refine kN ?_;refine av (T:=TT) ?_;refine bK (T:=TT) rfl ?_;refine cV ?_;refine kI ?_
      refine kO3 ?_
      refine kE ?_;refine kN ?_;refine av (T:=TT) ?_;refine bK (T:=TT) rfl ?_;refine bM (show fU _ _ _ _ _ _ from ?_);refine kI ?_
      refine kO2 ?_
      refine zT ab (i:=(a::r).length) (Nat.le_refl _) rfl rfl rfl rfl rfl rfl rfl rfl rfl ?_
      refine kO2 ?_
      refine bl (i:=i) (cs':=[.val (vL x)]) hlt (gD hxx) (Nat.lt_succ_self 0) rfl rfl rfl rfl rfl rfl rfl rfl ?_;refine kO ?_;refine DR 16002 (cs:=[.val (vL x)]) ab rfl rfl rfl rfl rfl rfl rfl rfl rfl rfl rfl rfl rfl ?_
      refine kO2 ?_
      refine C6 ab rfl rfl rfl rfl rfl rfl rfl rfl rfl ?_;refine uv ab rfl rfl rfl rfl rfl rfl rfl rfl rfl ?_;refine yK 16004 (m1:=(a::r).length) (m2:=1) ab (by decide) (Nat.le_trans (Nat.mul_le_mul_right _ (show(a::r).length+1≤1000001 by omega)) (by decide)) (Nat.le_of_ble_eq_true rfl) rfl rfl rfl rfl rfl rfl rfl rfl rfl (.own rfl rfl) rfl rfl rfl rfl rfl ?_;refine kW ?_;refine⟨i+1,hlt,by omega,?_⟩
      exact Eq.mpr (congrArg (aV _) hst) (aV.trans (b:=⟨[(5, .own 16004 ((a::r).length+1) 1 9),(3, .d (.leaf (.sl A.length (aY A)))),(2, .nil),(6, .d (dN .i64 (i+1:Nat)))],[(16004,some ((aY (a::r)).take ((a::r).length*1)++([AV.val (vL x)].take (1*1))))]⟩) (weak ⟨rfl,rfl,rfl,aG (by omega) (by omega),trivial⟩ ⟨rfl,trivial⟩ rfl) ((ax (q:=5) (j:=16004) (j':=16001) rfl rfl rfl rfl).trans (weak ⟨rfl,rfl,rfl,rfl,trivial⟩ ⟨rfl,trivial⟩ rfl)))
   ·have hO:ou A.length=ou i:=by rw[show i=A.length by omega]
    generalize ou i=O at *;refine kI ?_
    refine kO3 ?_
    refine kE ?_;refine kN ?_;refine av (T:=TT) ?_;refine bK (T:=TT) rfl ?_;refine cV ?_;cases O with
    |nil=>
     refine kW ?_;refine bu (T:=TT) rfl ?_;rw[hO];rfl
    |cons a r=>
     refine av (T:=TT) ?_;refine ee (cG (q:=5) rfl rfl) rfl ?_;refine kW ?_;refine bu (T:=TT) rfl ?_;rw[hO];rfl
  ·refine av (T:=TT) ?_
   refine ee hw2 rfl ?_;refine kW ?_
   refine aS Nat (fun i=>i≤args.length) (fun i=>⟨[(3,o8 5001 (al i)),(1, .box 0 0),(2, .nil),(4, .d (dN .i64 i))],[(5001,rV (al i)),(0,some (ac op na xs nb ys nm args.length (cZ args)))]⟩) (fun i=>args.length-i) 0 (Nat.zero_le _)
    (by dsimp only;generalize al 0=B;cases B<;>first|exact weak ⟨rfl,rfl,rfl,rfl,trivial⟩ ⟨rfl,trivial⟩ rfl|exact weak ⟨rfl,rfl,rfl,rfl,trivial⟩ ⟨rfl,rfl,trivial⟩ rfl) ?_
   intro i hi
   by_cases hlt:i<args.length
   ·obtain⟨o1,na1,xs1,nb1,ys1,nm1,n1,cs1,hA⟩:=au args[i]
    have hx:args[i]? =some args[i]:=by simp[hlt]
    have hat:∀(j:Nat) (a:AV),(ac o1 na1 xs1 nb1 ys1 nm1 n1 cs1)[j]? =some a→(cZ args)[i*7+j]? =some a:=fun j a h=>fR args i args[i] hx j a (by rw[hA];exact h)
    have c:=ih args[i] (List.getElem_mem hlt) (hargs _ (List.getElem_mem hlt)) (by have:=lz (List.getElem_mem hlt);omega);rw[show dR args[i]= .agg (ac o1 na1 xs1 nb1 ys1 nm1 n1 cs1) from congrArg DV.agg hA]at c;have hsi:=hsn i hlt;have hl2:=hall (i+1);rw[hsi]at hl2;generalize ry args[i]=Y at *;generalize al i=B at *;cases B with
    |nil=>
     cases Y with
     |nil=>
      refine kI ?_
      refine kO4 ?_
      refine kX ?_;refine bl (i:=i) (cs':=ac o1 na1 xs1 nb1 ys1 nm1 n1 cs1) hlt hat (Nat.zero_lt_succ 6) rfl rfl rfl rfl rfl rfl rfl rfl ?_;refine kW ?_;refine kC (c) ?_;refine AA ab rfl rfl rfl rfl rfl rfl rfl rfl ?_;refine kW ?_;refine⟨i+1,hlt,by omega,?_⟩;rw[hsi];exact weak ⟨rfl,rfl,rfl,aG (by omega) (by omega),trivial⟩ ⟨rfl,trivial⟩ rfl
     |cons y r=>
      refine kI ?_
      refine kO4 ?_
      refine kX ?_;refine bl (i:=i) (cs':=ac o1 na1 xs1 nb1 ys1 nm1 n1 cs1) hlt hat (Nat.zero_lt_succ 6) rfl rfl rfl rfl rfl rfl rfl rfl ?_;refine kW ?_;refine kC (c) ?_;refine bI 5002 (m1:=0) (m2:=(y::r).length) ab (Nat.succ_pos _) (Nat.le_trans (Nat.mul_le_mul_right _ (show 0+(y::r).length≤1000000 by simp at hl2 ⊢;omega)) (by decide)) (by simp[aY]) rfl rfl rfl rfl rfl rfl rfl rfl rfl rfl (.nil rfl rfl) rfl rfl (by rw[lf];rfl) ?_;refine kW ?_;refine⟨i+1,hlt,by omega,?_⟩;rw[hsi]
      refine Eq.mpr (congrArg (aV _) (zQ [(1, .box 0 0),(2, .nil),(4, .d (dN .i64 (i+1:Nat)))] [(0,some (ac op na xs nb ys nm args.length (cZ args)))] 3 5001 ([]:List L8) y r)) (aV.trans (b:=⟨[(3, .own 5002 (0+(y::r).length) 1 9),(1, .box 0 0),(2, .nil),(4, .d (dN .i64 (i+1:Nat)))],[(5002,some ((aY ([]:List L8)).take (0*1)++aY (y::r))),(0,some (ac op na xs nb ys nm args.length (cZ args)))]⟩) (weak ⟨rfl,rfl,rfl,aG (by omega) (by omega),trivial⟩ ⟨rfl,rfl,trivial⟩ rfl) ((ax (q:=3) (j:=5002) (j':=5001) rfl rfl rfl rfl).trans (weak ⟨rfl,rfl,rfl,rfl,trivial⟩ ⟨rfl,rfl,trivial⟩ rfl)))
    |cons a B=>
     cases Y with
     |nil=>
      refine kI ?_
      refine kO4 ?_
      refine kX ?_;refine bl (i:=i) (cs':=ac o1 na1 xs1 nb1 ys1 nm1 n1 cs1) hlt hat (Nat.zero_lt_succ 6) rfl rfl rfl rfl rfl rfl rfl rfl ?_;refine kW ?_;refine kC (c) ?_;refine uv ab rfl rfl rfl rfl rfl rfl rfl rfl rfl ?_;refine kW ?_;refine⟨i+1,hlt,by omega,?_⟩;rw[hsi,List.append_nil];exact weak ⟨rfl,rfl,rfl,aG (by omega) (by omega),trivial⟩ ⟨rfl,rfl,trivial⟩ rfl
     |cons y r=>
      refine kI ?_
      refine kO4 ?_
      refine kX ?_;refine bl (i:=i) (cs':=ac o1 na1 xs1 nb1 ys1 nm1 n1 cs1) hlt hat (Nat.zero_lt_succ 6) rfl rfl rfl rfl rfl rfl rfl rfl ?_;refine kW ?_;refine kC (c) ?_;refine bI 5002 (m1:=(a::B).length) (m2:=(y::r).length) ab (Nat.succ_pos _) (Nat.le_trans (Nat.mul_le_mul_right _ (show(a::B).length+(y::r).length≤1000000 by simp at hl2 ⊢;omega)) (by decide)) (by simp[aY]) rfl rfl rfl rfl rfl rfl rfl rfl rfl rfl (.own rfl rfl) rfl rfl (by rw[lf];rfl) ?_;refine kW ?_;refine⟨i+1,hlt,by omega,?_⟩;rw[hsi]
      refine Eq.mpr (congrArg (aV _) (zQ [(1, .box 0 0),(2, .nil),(4, .d (dN .i64 (i+1:Nat)))] [(0,some (ac op na xs nb ys nm args.length (cZ args)))] 3 5001 (a::B) y r)) (aV.trans (b:=⟨[(3, .own 5002 ((a::B).length+(y::r).length) 1 9),(1, .box 0 0),(2, .nil),(4, .d (dN .i64 (i+1:Nat)))],[(5002,some ((aY (a::B)).take ((a::B).length*1)++aY (y::r))),(0,some (ac op na xs nb ys nm args.length (cZ args)))]⟩) (weak ⟨rfl,rfl,rfl,aG (by omega) (by omega),trivial⟩ ⟨rfl,rfl,trivial⟩ rfl) ((ax (q:=3) (j:=5002) (j':=5001) rfl rfl rfl rfl).trans (weak ⟨rfl,rfl,rfl,rfl,trivial⟩ ⟨rfl,rfl,trivial⟩ rfl)))
   ·have hO:A=al i:=by rw[show i=args.length by omega,hA0]
    rw[hO]at hR;generalize al i=B at *;cases B with
    |nil=>
     refine kI ?_
     refine kO4 ?_
     refine kE ?_;refine kN ?_;refine av (T:=TT) ?_;refine bK (T:=TT) rfl ?_;refine cV ?_;exact hR _ (aV.trans (b:=⟨[(3, .nil),(2, .nil)],[]⟩) (weak ⟨rfl,rfl,trivial⟩ trivial rfl) ((CZ (q:=3) rfl).trans (weak ⟨rfl,rfl,trivial⟩ trivial rfl)))
    |cons a r=>
     refine kI ?_
     refine kO4 ?_
     refine kE ?_;refine kN ?_;refine av (T:=TT) ?_;refine bK (T:=TT) rfl ?_;refine cV ?_;exact hR _ (aV.trans (b:=⟨[(3, .own 5001 (a::r).length 1 9),(2, .nil)],[(5001,some (aY (a::r)))]⟩) (weak ⟨rfl,rfl,trivial⟩ ⟨rfl,trivial⟩ rfl) ((cG (q:=3) rfl rfl).trans (weak ⟨rfl,rfl,trivial⟩ trivial rfl)))
 ·cases b
  ·refine kI ?_
   refine kO2 ?_
   refine kB false ?_ ?_
   ·exact hb
   refine kW ?_;refine hR _ ?_;rw[hal0];exact weak ⟨rfl,rfl,rfl,trivial⟩ ⟨rfl,trivial⟩ rfl
  ·refine kI ?_
   refine kO2 ?_
   refine kB true ?_ ?_
   ·exact hb
   refine kG ?_
   refine kO4 ?_
   refine bI 5001 (m1:=0) (m2:=1) ab (by decide) (by decide) rfl rfl rfl rfl rfl rfl rfl rfl rfl rfl rfl (.nil rfl rfl) rfl rfl rfl ?_;refine kW ?_;refine hR _ ?_;rw[hal0];exact weak ⟨rfl,rfl,rfl,trivial⟩ ⟨rfl,rfl,trivial⟩ rfl
section
open Go.RowKit Go.Lib
theorem zJ {S:Nat→Prop} {w:World} {v:Value} (h:AV.M S w (.sl 0 []) v):∃A c,v= .slice A 0 c:=by
 cases h with
 |emp=>exact⟨_,_,rfl⟩
 |sl=>exact⟨_,_,rfl⟩
theorem DA:aa Tryz.prog 50 [.leaf (.sl 0 [])] (.tup []):=
 ⟨ay func50 rfl rfl,fun S w vs hS hv=>by
  match vs,hv with
  | [v],⟨h1,_⟩=>
   obtain⟨A,c,rfl⟩:=zJ (show AV.M S w (.sl 0 []) v from h1);refine(Tryz.slices_Sort_string_none A c w).mono ?_;rintro e w' ⟨rfl,rfl⟩;exact⟨_,rfl,⟨[],rfl,rfl,fun i x u h=>by simp at h⟩,Below.refl _ _⟩⟩
theorem xD:aa Tryz.prog 51 [.leaf (.sl 0 [])] (.one (.leaf (.sl 0 []))):=
 ⟨ay func51 rfl rfl,fun S w vs hS hv=>by
  match vs,hv with
  | [v],⟨h1,_⟩=>
   have h1:AV.M S w (.sl 0 []) v:=h1;obtain⟨A,c,rfl⟩:=zJ h1;refine(Tryz.slices_Compact_string_empty A c w).mono ?_;rintro e w' ⟨rfl,rfl⟩;exact⟨_,rfl,h1,Below.refl _ _⟩⟩
theorem zr:∀x,nu x→jm x≤1000000→aa Tryz.prog 26 [dR x] (.one (.leaf (.sl (ry x).length (aY (ry x))))):=by
 refine dx fun op na xs nb ys nm args ih hx hs=>?_
 obtain⟨_,_,_,_,_,_,hargs⟩:=hx;rw[jm]at hs;have hge:=pu args;rw[ry]
 have hz:(if op=2 then [nm]else [])=cond (decide (op=2)) [nm] []:=by
  by_cases h:op=2
  ·rw[if_pos h,decide_eq_true h];rfl
  ·rw[if_neg h,decide_eq_false h];rfl
 rw[hz];clear hz;have hbl:(cond (decide (op=2)) [nm] []).length≤1:=by cases decide (op=2)<;>simp
 generalize hb:decide (op=2)=b at *;obtain⟨al,hal⟩:∃al:Nat→List L8,∀i,al i=cond b [nm] []++gL (args.take i):=⟨_,fun _=>rfl⟩;have hal0:al 0=cond b [nm] []:=by rw[hal];simp[gL]
 have hall:∀i,(al i).length≤1000000:=fun i=>by
  have:=lQ args i;rw[hal,List.length_append];omega
 have hsn:∀i (h:i<args.length),al (i+1)=al i++ry args[i]:=fun i h=>by rw[hal,hal,sv h,List.append_assoc]
 have hend:cond b [nm] []++gL args=al args.length:=by rw[hal,List.take_length]
 rw[hend];have hlenA:=hall args.length;obtain⟨A,hA0⟩:∃A,al args.length=A:=⟨_,rfl⟩;rw[hA0]at hlenA ⊢;rw[← mZ];show aa Tryz.prog _ [.agg (ac op na xs nb ys nm args.length (cZ args))] _;refine kU func26 ?_;refine kR ?_;refine kR ?_;refine mq ⟨[(3,o8 5001 (al 0)),(1, .box 0 0),(2, .nil)],[(5001,rV (al 0)),(0,some (ac op na xs nb ys nm args.length (cZ args)))]⟩ (fun s' hw2=>?_) (fun R hR _=>?_)
 ·clear hb hal hal0 hend
  refine av (T:=TT) ?_;refine ee hw2 rfl ?_;refine kW ?_
  refine aS Nat (fun i=>i≤args.length) (fun i=>⟨[(3,o8 5001 (al i)),(2, .nil),(15, .d (.leaf (.sl args.length (cZ args)))),(16, .d (dN .i64 args.length)),(17, .d (dN .i64 i))],[(5001,rV (al i))]⟩) (fun i=>args.length-i) 0 (Nat.zero_le _)
   (by dsimp only;generalize al 0=B;cases B<;>first|exact weak ⟨rfl,rfl,rfl,rfl,rfl,trivial⟩ trivial rfl|exact weak ⟨rfl,rfl,rfl,rfl,rfl,trivial⟩ ⟨rfl,trivial⟩ rfl) ?_
  intro i hi
  by_cases hlt:i<args.length
  ·obtain⟨o1,na1,xs1,nb1,ys1,nm1,n1,cs1,hA⟩:=au args[i]
   have hx:args[i]? =some args[i]:=by simp[hlt]
   have hat:∀(j:Nat) (a:AV),(ac o1 na1 xs1 nb1 ys1 nm1 n1 cs1)[j]? =some a→(cZ args)[i*7+j]? =some a:=fun j a h=>fR args i args[i] hx j a (by rw[hA];exact h)
   have c:=ih args[i] (List.getElem_mem hlt) (hargs _ (List.getElem_mem hlt)) (by have:=lz (List.getElem_mem hlt);omega);rw[show dR args[i]= .agg (ac o1 na1 xs1 nb1 ys1 nm1 n1 cs1) from congrArg DV.agg hA]at c;have hsi:=hsn i hlt;have hl2:=hall (i+1);rw[hsi]at hl2;generalize ry args[i]=Y at *;generalize al i=B at *;cases B with
   |nil=>
    cases Y with
    |nil=>
     refine kI ?_;refine kX ?_;refine bl (i:=i) (cs':=ac o1 na1 xs1 nb1 ys1 nm1 n1 cs1) hlt hat (Nat.zero_lt_succ 6) rfl rfl rfl rfl rfl rfl rfl rfl ?_;refine kW ?_;refine kC (c) ?_;refine AA ab rfl rfl rfl rfl rfl rfl rfl rfl ?_;refine kW ?_;refine⟨i+1,hlt,by omega,?_⟩;rw[hsi];exact weak ⟨rfl,rfl,rfl,rfl,aG (by omega) (by omega),trivial⟩ trivial rfl
    |cons y r=>
     refine kI ?_;refine kX ?_;refine bl (i:=i) (cs':=ac o1 na1 xs1 nb1 ys1 nm1 n1 cs1) hlt hat (Nat.zero_lt_succ 6) rfl rfl rfl rfl rfl rfl rfl rfl ?_;refine kW ?_;refine kC (c) ?_;refine bI 5002 (m1:=0) (m2:=(y::r).length) ab (Nat.succ_pos _) (Nat.le_trans (Nat.mul_le_mul_right _ (show 0+(y::r).length≤1000000 by simp at hl2 ⊢;omega)) (by decide)) (by simp[aY]) rfl rfl rfl rfl rfl rfl rfl rfl rfl rfl (.nil rfl rfl) rfl rfl (by rw[lf];rfl) ?_;refine kW ?_;refine⟨i+1,hlt,by omega,?_⟩;rw[hsi]
     refine Eq.mpr (congrArg (aV _) (zQ [(2, .nil),(15, .d (.leaf (.sl args.length (cZ args)))),(16, .d (dN .i64 args.length)),(17, .d (dN .i64 (i+1:Nat)))] [] 3 5001 ([]:List L8) y r)) (aV.trans (b:=⟨[(3, .own 5002 (0+(y::r).length) 1 9),(2, .nil),(15, .d (.leaf (.sl args.length (cZ args)))),(16, .d (dN .i64 args.length)),(17, .d (dN .i64 (i+1:Nat)))],[(5002,some ((aY ([]:List L8)).take (0*1)++aY (y::r)))]⟩) (weak ⟨rfl,rfl,rfl,rfl,aG (by omega) (by omega),trivial⟩ ⟨rfl,trivial⟩ rfl) ((ax (q:=3) (j:=5002) (j':=5001) rfl rfl rfl rfl).trans (weak ⟨rfl,rfl,rfl,rfl,rfl,trivial⟩ ⟨rfl,trivial⟩ rfl)))
   |cons a B=>
    cases Y with
    |nil=>
     refine kI ?_;refine kX ?_;refine bl (i:=i) (cs':=ac o1 na1 xs1 nb1 ys1 nm1 n1 cs1) hlt hat (Nat.zero_lt_succ 6) rfl rfl rfl rfl rfl rfl rfl rfl ?_;refine kW ?_;refine kC (c) ?_;refine uv ab rfl rfl rfl rfl rfl rfl rfl rfl rfl ?_;refine kW ?_;refine⟨i+1,hlt,by omega,?_⟩;rw[hsi,List.append_nil];exact weak ⟨rfl,rfl,rfl,rfl,aG (by omega) (by omega),trivial⟩ ⟨rfl,trivial⟩ rfl
    |cons y r=>
     refine kI ?_;refine kX ?_;refine bl (i:=i) (cs':=ac o1 na1 xs1 nb1 ys1 nm1 n1 cs1) hlt hat (Nat.zero_lt_succ 6) rfl rfl rfl rfl rfl rfl rfl rfl ?_;refine kW ?_;refine kC (c) ?_;refine bI 5002 (m1:=(a::B).length) (m2:=(y::r).length) ab (Nat.succ_pos _) (Nat.le_trans (Nat.mul_le_mul_right _ (show(a::B).length+(y::r).length≤1000000 by simp at hl2 ⊢;omega)) (by decide)) (by simp[aY]) rfl rfl rfl rfl rfl rfl rfl rfl rfl rfl (.own rfl rfl) rfl rfl (by rw[lf];rfl) ?_;refine kW ?_;refine⟨i+1,hlt,by omega,?_⟩;rw[hsi]
     refine Eq.mpr (congrArg (aV _) (zQ [(2, .nil),(15, .d (.leaf (.sl args.length (cZ args)))),(16, .d (dN .i64 args.length)),(17, .d (dN .i64 (i+1:Nat)))] [] 3 5001 (a::B) y r)) (aV.trans (b:=⟨[(3, .own 5002 ((a::B).length+(y::r).length) 1 9),(2, .nil),(15, .d (.leaf (.sl args.length (cZ args)))),(16, .d (dN .i64 args.length)),(17, .d (dN .i64 (i+1:Nat)))],[(5002,some ((aY (a::B)).take ((a::B).length*1)++aY (y::r)))]⟩) (weak ⟨rfl,rfl,rfl,rfl,aG (by omega) (by omega),trivial⟩ ⟨rfl,trivial⟩ rfl) ((ax (q:=3) (j:=5002) (j':=5001) rfl rfl rfl rfl).trans (weak ⟨rfl,rfl,rfl,rfl,rfl,trivial⟩ ⟨rfl,trivial⟩ rfl)))
  ·have hO:A=al i:=by rw[show i=args.length by omega,hA0]
   generalize al i=B at *;cases B with
   |nil=>
    refine kI ?_;refine kY ?_;refine kQ (DA) ?_;refine kQ (xD) ?_;refine bu (T:=TT) rfl ?_;rw[hO,mZ];rfl
   |cons a r=>
    have hlB:(a::r).length≤1000000:=by rw[← hO];exact hlenA
    have ct1:az Tryz.prog 50 [.own 5001 (a::r).length 1 9] [(5001,aY (a::r))] (.v (.tup [])) [(5001,aY ((a::r).mergeSort fun x y=>decide (x≤y)))]:=(Gq hlB).swap 901 5001 rfl;have hms:((a::r).mergeSort fun x y=>decide (x≤y)).length=(a::r).length:=List.length_mergeSort _;have ct2:az Tryz.prog 51 [.own 5001 ((a::r).mergeSort fun x y=>decide (x≤y)).length 1 9] [(5001,aY ((a::r).mergeSort fun x y=>decide (x≤y)))] (.own 5001 (Lib.compact ((a::r).mergeSort fun x y=>decide (x≤y))).length 1 9) [(5001,aY (Lib.compact ((a::r).mergeSort fun x y=>decide (x≤y))++List.replicate (((a::r).mergeSort fun x y=>decide (x≤y)).length-(Lib.compact ((a::r).mergeSort fun x y=>decide (x≤y))).length) []))]:=(yb (by omega)).swap 901 5001 rfl;rw[hms]at ct2
    have hcut:∀M:List L8,(aY (Lib.compact M++List.replicate ((a::r).length-(Lib.compact M).length) [])).take (Lib.compact M).length=aY (Lib.compact M):=fun M=>by
     rw[vE,List.take_left' (iz _)]
    generalize hM:((a::r).mergeSort fun x y=>decide (x≤y))=M at *;have hcM:=hcut M;refine kI ?_;refine kY ?_;refine kZ (ct1) ?_;refine kD (ct2) ?_;refine vn ab rfl rfl rfl rfl ((cG (q:=2) rfl rfl).trans (CC (q:=2) (Lib.compact M).length rfl)) ?_;refine kW ?_;refine bu (T:=TT) rfl ?_;rw[hO,hM,← hcM];rfl
 ·cases b
  ·refine kI ?_
   refine kO2 ?_
   refine kB false ?_ ?_
   ·exact hb
   refine kW ?_;refine hR _ ?_;rw[hal0];exact weak ⟨rfl,rfl,rfl,trivial⟩ ⟨rfl,trivial⟩ rfl
  ·refine kI ?_
   refine kO2 ?_
   refine kB true ?_ ?_
   ·exact hb
   refine kG ?_
   refine kO4 ?_
   refine bI 5001 (m1:=0) (m2:=1) ab (by decide) (by decide) rfl rfl rfl rfl rfl rfl rfl rfl rfl rfl rfl (.nil rfl rfl) rfl rfl rfl ?_;refine kW ?_;refine hR _ ?_;rw[hal0];exact weak ⟨rfl,rfl,rfl,trivial⟩ ⟨rfl,rfl,trivial⟩ rfl
theorem ul (l:List L8) (hl:l.length≤1000000):aa Tryz.prog 25 [.leaf (.sl l.length (aY l)), .leaf (.sl l.length (aY l))] (.one (dB true)):=by
 refine kU func25 ?_;refine kR ?_;refine kI ?_
 refine kO4 ?_
 refine kB false ?_ ?_
 ·exact(by simp)
 refine kW ?_;refine aS Nat (fun i=>i≤l.length) (fun i=>⟨[(0, .d (.leaf (.sl l.length (aY l)))),(1, .d (.leaf (.sl l.length (aY l)))),(4, .d (dB false)),(5, .d (dN .i64 i))],[]⟩) (fun i=>l.length-i) 0 (Nat.zero_le _) (weak ⟨rfl,rfl,rfl,rfl,trivial⟩ trivial rfl) ?_;intro i hi;refine kI ?_
 refine kO3 ?_
 by_cases hlt:i<l.length
 ·refine kT ?_
  have hx:l[i]? =some l[i]:=by simp[hlt]
  generalize l[i]=x at *;refine kW ?_;refine bl (i:=i) (cs':=[.val (vL x)]) hlt (gD hx) (Nat.lt_succ_self 0) rfl rfl rfl rfl rfl rfl rfl rfl ?_;refine kW ?_;refine bl (i:=i) (cs':=[.val (vL x)]) hlt (gD hx) (Nat.lt_succ_self 0) rfl rfl rfl rfl rfl rfl rfl rfl ?_;refine kO ?_;refine aP rfl rfl rfl rfl rfl rfl rfl (fq (a:=x) (b:=x) rfl) ?_;refine kW ?_;exact⟨i+1,hlt,by omega,weak ⟨rfl,rfl,rfl,aG (by omega) (by omega),trivial⟩ trivial rfl⟩
 ·refine kE ?_
  exact kF
end
end Go.Proofs.YtikbnnljjeefgaaGreatDoor
