/- Parts of a proof: contracts of the functions that the laws reach. -/
import Derived.Test.YtmkggcjajcdlcaaGreatDoorVZ9
set_option maxHeartbeats 100000000
set_option linter.all false
open Go.Proofs.Tryz
namespace Go.Proofs.YtmkggcjajcdlcaaGreatDoor
open Go.RowKit
def li (J:Nat):List L8->TV
 | []=> .nil
 |a::r=> .own J (a::r).length 1 9
def mq:List L8->Option (List AV)
 | []=>none
 |a::r=>some (au (a::r))
theorem dK (l:List L8):(au l).length=l.length:=by simp[au]
theorem jF (a b:List L8):au (a++b)=au a++au b:=by simp[au]
theorem DB {l:List L8} {i:Nat} {x:L8} (h:l[i]? =some x):(au l)[i*1]? =some (.val (vL x)):=by simp[au,h]
theorem ib {l:List L8} {i:Nat} {x:L8} (h:l[i]? =some x):∀(j:Nat) (a:AV),[AV.val (vL x)][j]? =some a->(au l)[i*1+j]? =some a:=fun j a hj=>by
 cases j with
 |zero=>cases hj;exact DB h
 |succ j=>cases hj
theorem pX:∀{cs:List AV},(∀a∈cs,∃l,a= .val (vL l))->a8 cs=true
 | [],_=>rfl
 |a::r,h=>by
  obtain⟨l,rfl⟩:=h a (by simp);have ih:=pX (cs:=r) (fun b hb=>h b (by simp[hb]))
  simp only[a8,ih]
  rfl
theorem si {l:List L8} {a:AV} (h:a∈au l):∃x,a= .val (vL x):=by
 obtain⟨x,_,rfl⟩:=List.mem_map.1 h;exact⟨x,rfl⟩
theorem km (l:List L8):a8 (au l)=true:=pX fun _ h=>si h
theorem ju (t:List (Nat × TV)) (b:List (Nat × Option (List AV))) (q J:Nat) (l:List L8) (y:L8) (r:List L8):(⟨(q,li J (l++y::r))::t,(J,mq (l++y::r))::b⟩:AS)=⟨(q, .own J (l.length+(y::r).length) 1 9)::t,(J,some ((au l).take (l.length*1)++au (y::r)))::b⟩:=by
 have e1:li J (l++y::r)= .own J (l.length+(y::r).length) 1 9:=by
  cases l with
  |nil=>simp[li]
  |cons a l=>simp[li];omega
 have e2:mq (l++y::r)=some ((au l).take (l.length*1)++au (y::r)):=by
  rw[Nat.mul_one,List.take_of_length_le (Nat.le_of_eq (dK l)),<- jF];cases l<;>rfl
 rw[e1,e2]
theorem uF {args:List Rx} {i:Nat} (h:i<args.length):fG (args.take (i+1))=fG (args.take i)++eu args[i]:=by
 have app:∀a b:List Rx,fG (a++b)=fG a++fG b:=by
  intro a b
  induction a with
  |nil=>simp[fG]
  |cons x r ih=>simp[fG,ih]
 rw[List.take_add_one,app]
 simp[h,fG]
theorem x4:∀(l:List L8) (x:L8),(fY l x).length<=l.length+1
 | [],x=>by simp[fY]
 |y::r,x=>by
  have ih:=x4 r x;unfold fY
  split
  ·simp only[List.length_cons];omega
  ·split <;>simp
theorem qy (l:List L8):(gh l).length<=l.length:=by
 have:∀(l acc:List L8),(l.foldl fY acc).length<=acc.length+l.length:=by
  intro l
  induction l with
  |nil=>intro acc;simp
  |cons x l ih=>
   intro acc;have h1:=ih (fY acc x);have h2:=x4 acc x;rw[List.foldl_cons,List.length_cons];omega
 have:=this l []
 simpa[gh]using this
theorem pK:∀x,(eu x).length<=gr x:=by
 refine du fun op na xs nb ys nm args ih=>?_
 have key:∀l:List Rx,(∀y∈l,(eu y).length<=gr y)->(fG l).length<=ej l:=by
  intro l
  induction l with
  |nil=>intro _;simp[fG]
  |cons y l ihl=>
   intro h;have h1:=h y (by simp);have h2:=ihl (fun z hz=>h z (by simp[hz]));rw[fG,ej,List.length_append];omega
 have h1:=key args ih;rw[eu,gr];refine Nat.le_trans (qy _) ?_;rw[List.length_append]
 split <;>simp <;>omega
theorem Gi (l:List Rx):(fG l).length<=ej l:=by
 induction l with
 |nil=>simp[fG]
 |cons y l ihl=>
  have h1:=pK y;rw[fG,ej,List.length_append];omega
theorem lx (l:List Rx) (i:Nat):(fG (l.take i)).length<=ej l:=by
 have h:ej (l.take i)<=ej l:=by
  induction l generalizing i with
  |nil=>simp
  |cons y l ih=>
   cases i with
   |zero=>simp[ej]
   |succ i=>have:=ih i;simp only[List.take_succ_cons,ej];omega
 exact Nat.le_trans (Gi _) h
theorem Lr {O:List L8} {x:L8} {k:Nat} (hk:k<O.length):(au O).take (k*1)++(([AV.val (vL x)].take (1*1)++((au O).drop (k*1)).take ((O.length-k)*1)).take ((1+(O.length-k))*1))=au (O.take k++x::O.drop k):=by
 simp only[Nat.mul_one]
 have h1:((au O).drop k).take (O.length-k)=(au O).drop k:=List.take_of_length_le (by rw[List.length_drop,dK];exact Nat.le_refl _);rw[h1,List.take_of_length_le (l:=_++_)]
 ·simp[au]
 ·simp[dK];omega
theorem Hf (t:List (Nat × TV)) (b:List (Nat × Option (List AV))) (q J:Nat) (l:List L8) (h:l≠[]):(⟨(q,li J l)::t,(J,mq l)::b⟩:AS)=⟨(q, .own J l.length 1 9)::t,(J,some (au l))::b⟩:=by
 cases l with
 |nil=>exact absurd rfl h
 |cons a r=>rfl
theorem G1 {t:TypeId} {p q:Operand} {a b:L8} {v:Bool} (h:Op.bytesLess a b=v):lQ .lss t p q (vL a) (vL b)=some (.bool v):=by rw[t6,h]
theorem JH {O:List L8} {x:L8}:(au O).take (O.length*1)++([AV.val (vL x)].take (1*1))=au (O.take O.length++x::O.drop O.length):=by
 rw[Nat.mul_one,List.take_of_length_le (Nat.le_of_eq (dK O)),List.take_length,List.drop_length]
 simp[au]
theorem jk:∀x,jN x->gr x<=1000000->aa Tryz.prog 55 [dR x] (.one (.leaf (.sl (eu x).length (au (eu x))))):=by
 refine du fun op na xs nb ys nm args ih hx hs=>?_
 obtain⟨_,_,_,_,_,_,hargs⟩:=hx;rw[gr]at hs;have hge:=jn args;rw[eu]
 have hz:(if op=2 then [nm]else [])=cond (decide (op=2)) [nm] []:=by
  exact xt
 rw[hz];clear hz;have hbl:(cond (decide (op=2)) [nm] []).length<=1:=by cases decide (op=2)<;>simp
 generalize hb:decide (op=2)=b at *;obtain⟨al,hal⟩:∃al:Nat->List L8,∀i,al i=cond b [nm] []++fG (args.take i):=⟨_,fun _=>rfl⟩;have hal0:al 0=cond b [nm] []:=by rw[hal];simp[fG]
 have hall:∀i,(al i).length<=1000000:=fun i=>by
  have:=lx args i;rw[hal,List.length_append];omega
 have hsn:∀i (h:i<args.length),al (i+1)=al i++eu args[i]:=fun i h=>by rw[hal,hal,uF h,List.append_assoc]
 have hend:cond b [nm] []++fG args=al args.length:=by rw[hal,List.take_length]
 rw[hend];have hlenA:=hall args.length;obtain⟨A,hA0⟩:∃A,al args.length=A:=⟨_,rfl⟩;rw[hA0]at hlenA ⊢;obtain⟨ou,hou⟩:∃ou:Nat->List L8,∀i,ou i=(A.take i).foldl fY []:=⟨_,fun _=>rfl⟩;have hou0:ou 0=[]:=by rw[hou];rfl
 have hos:∀i (h:i<A.length),ou (i+1)=fY (ou i) A[i]:=fun i h=>by
  rw[hou,hou,List.take_add_one,List.foldl_append]
  simp[h]
 have hol:∀i,(ou i).length<=1000000:=fun i=>by
  have:=qy (A.take i);have h2:=List.length_take_le i A;rw[hou];unfold gh at this;have h3:(A.take i).length<=A.length:=by rw[List.length_take];omega
  omega
 have hoe:gh A=ou A.length:=by rw[hou,List.take_length];rfl
 rw[hoe];refine OU ?_;refine kU func55 ?_;refine kR ?_;refine kR ?_;refine j4 ⟨[(3,li 5001 (al 0)),(1, .box 0 0),(2, .nil)],[(5001,mq (al 0)),(0,some (ab op na xs nb ys nm args.length (da args)))]⟩ (fun s' hw2=>?_) (fun R hR _=>?_)
 ·clear hb hal hal0 hend
  refine j4 ⟨[(3, .d (.leaf (.sl A.length (au A)))),(2, .nil)],[]⟩ (fun s' hw3=>?_) (fun R hR _=>?_)
  ·refine bV hw3 rfl ?_
   refine kW ?_
   refine ay Nat (fun i=>i<=A.length) (fun i=>⟨[(5,li 16001 (ou i)),(3, .d (.leaf (.sl A.length (au A)))),(2, .nil),(6, .d (dN .i64 i))],[(16001,mq (ou i))]⟩) (fun i=>A.length-i) 0 (Nat.zero_le _)
    (by dsimp only;rw[hou0];exact weak ⟨rfl,rfl,rfl,rfl,trivial⟩ trivial rfl) ?_
   intro i hi;have hO1:=hol i
   by_cases hlt:i<A.length
   ·have hsi:=hos i hlt
    have hxx:A[i]? =some A[i]:=by simp[hlt]
    generalize A[i]=x at *;generalize ou i=O at *;cases O with
    |nil=>
     refine OW ?_;refine kW ?_;refine ay Nat (fun k=>k=0) (fun k=>⟨[(7, .d (dN .i64 0)),(5, .nil),(3, .d (.leaf (.sl A.length (au A)))),(2, .nil),(6, .d (dN .i64 i))],[]⟩) (fun k=>k) 0 rfl kw ?_;rintro k rfl;refine kW ?_;refine J5 ac rfl rfl rfl rfl rfl rfl rfl rfl ?_;refine Ab ?_;refine Mu ?_;refine ui ac rfl rfl rfl rfl rfl rfl rfl rfl ?_;refine ST ?_;refine q7 16004 (m1:=0) (m2:=1) ac (by decide) (by decide) (Nat.le_of_ble_eq_true rfl) rfl rfl rfl rfl rfl rfl rfl rfl rfl (.nil rfl rfl) rfl rfl rfl rfl rfl ?_;refine SK ?_;rw[hsi]
     exact bi.trans (b:=⟨[(5, .own 16004 1 1 9),(3, .d (.leaf (.sl A.length (au A)))),(2, .nil),(6, .d (dN .i64 (i+1:Nat)))],[(16004,some [.val (vL x)])]⟩) (weak ⟨rfl,rfl,rfl,ak (by omega) (by omega),trivial⟩ ⟨rfl,trivial⟩ rfl) ((aA (q:=5) (j:=16004) (j':=16001) rfl rfl rfl rfl).trans kw)
    |cons a r=>
     refine OW ?_;refine kW ?_;refine ay Nat (fun k=>k<=(a::r).length/\ ∀(q:Nat) y,q<k->(a::r)[q]? =some y->Op.bytesLess y x=true) (fun k=>⟨[(7, .d (dN .i64 k)),(5, .own 16001 (a::r).length 1 9),(3, .d (.leaf (.sl A.length (au A)))),(2, .nil),(6, .d (dN .i64 i))],[(16001,some (au (a::r)))]⟩) (fun k=>(a::r).length-k) 0 ⟨Nat.zero_le _,fun q y h=>absurd h (Nat.not_lt_zero _)⟩ kw ?_;rintro k ⟨hk,hq⟩;have hat0:=CB (l:=a::r) (x:=x) hk hq
     by_cases hko:k<(a::r).length
     ·have hy:(a::r)[k]? =some (a::r)[k]:=by simp[hko]
      generalize(a::r)[k]=y at *;refine OW ?_;refine LJ ?_;refine Ab ?_;cases hbx:Op.bytesLess y x
      ·have hat0:=hat0 (fun z hz=>by rw[hy]at hz;cases hz;exact hbx)
       refine aO rfl rfl rfl rfl rfl rfl rfl (G1 (a:=y) (b:=x) hbx) ?_;refine jw ?_;refine OW ?_;refine LJ ?_;refine Ab ?_
       by_cases e:y=x
       ·refine aO rfl rfl rfl rfl rfl rfl rfl (bO (a:=y) (b:=x) e) ?_
        refine SK ?_;rw[hsi,hat0,if_pos (by rw[hy,e])];exact weak ⟨rfl,rfl,rfl,ak (by omega) (by omega),trivial⟩ ⟨rfl,trivial⟩ rfl
       ·have hnew:fY (a::r) x=(a::r).take k++x::(a::r).drop k:=by rw[hat0,if_neg (fun h=>e (by rw[hy]at h;cases h;rfl))]
        have hne:(a::r).take k++x::(a::r).drop k≠[]:=by simp
        have hcont:=Lr (O:=a::r) (x:=x) hko;have hlenE:k+(1+((a::r).length-k))=((a::r).take k++x::(a::r).drop k).length:=by simp at hk ⊢;omega
        have hst:(⟨[(5,li 16001 (ou (i+1))),(3, .d (.leaf (.sl A.length (au A)))),(2, .nil),(6, .d (dN .i64 (i+1:Nat)))],[(16001,mq (ou (i+1)))]⟩:AS)=⟨[(5, .own 16001 (k+(1+((a::r).length-k))) 1 9),(3, .d (.leaf (.sl A.length (au A)))),(2, .nil),(6, .d (dN .i64 (i+1:Nat)))],[(16001,some ((au (a::r)).take (k*1)++(([AV.val (vL x)].take (1*1)++((au (a::r)).drop (k*1)).take (((a::r).length-k)*1)).take ((1+((a::r).length-k))*1))))]⟩:=by rw[hsi,hnew,Hf _ _ _ _ _ hne,hcont,hlenE]
        refine aO rfl rfl rfl rfl rfl rfl rfl (b6 (a:=y) (b:=x) e) ?_;refine Nc ?_;refine Co ac (i:=k) (Nat.le_of_lt hko) rfl rfl rfl rfl rfl rfl rfl rfl rfl ?_;refine Ab ?_;refine Mu ?_;refine kA ac (i:=k) hko rfl rfl rfl rfl rfl rfl rfl rfl rfl ?_;refine Pe 16003 (m1:=1) (m2:=(a::r).length-k) (p:=k) ac (Nat.sub_pos_of_lt hko) (Nat.le_trans (Nat.mul_le_mul_right _ (show 1+((a::r).length-k)<=1000001 by omega)) (by decide)) (by rw[dK];omega) rfl rfl rfl rfl rfl rfl rfl rfl rfl (.own rfl rfl) rfl rfl rfl (by rw[pX (fun b hb=>si (List.mem_of_mem_drop (List.mem_of_mem_take hb)))];rfl) rfl ?_
        refine q7 16004 (m1:=k) (m2:=1+((a::r).length-k)) ac (by omega) (Nat.le_trans (Nat.mul_le_mul_right _ (show k+(1+((a::r).length-k))<=1000001 by omega)) (by decide)) (by simp[dK];omega) rfl rfl rfl rfl rfl rfl rfl rfl rfl (.own rfl rfl) rfl rfl rfl (by rw[pX (fun b hb=>(List.mem_append.1 (List.mem_of_mem_take hb)).elim (fun h=>⟨x,by simpa using h⟩) fun h=>si (List.mem_of_mem_drop (List.mem_of_mem_take h)))];rfl) rfl ?_;refine SK ?_
        exact Eq.mpr (congrArg (bi _) hst) (bi.trans (b:=⟨[(5, .own 16004 (k+(1+((a::r).length-k))) 1 9),(3, .d (.leaf (.sl A.length (au A)))),(2, .nil),(6, .d (dN .i64 (i+1:Nat)))],[(16004,some ((au (a::r)).take (k*1)++(([AV.val (vL x)].take (1*1)++((au (a::r)).drop (k*1)).take (((a::r).length-k)*1)).take ((1+((a::r).length-k))*1))))]⟩) (weak ⟨rfl,rfl,rfl,ak (by omega) (by omega),trivial⟩ ⟨rfl,trivial⟩ rfl) ((aA (q:=5) (j:=16004) (j':=16001) rfl rfl rfl rfl).trans kw))
      ·refine aO rfl rfl rfl rfl rfl rfl rfl (G1 (a:=y) (b:=x) hbx) ?_
       refine kW ?_
       exact⟨k+1,⟨hko,fun q z h1 h2=>by
        by_cases e:q=k
        ·subst e;rw[hy]at h2;cases h2;exact hbx
        ·exact hq q z (by omega) h2⟩,by omega,weak ⟨ak (by omega) (by omega),rfl,rfl,rfl,rfl,trivial⟩ ⟨rfl,trivial⟩ rfl⟩
     ·obtain rfl:k=(a::r).length:=by omega
      have hno:(a::r)[(a::r).length]? =none:=List.getElem?_eq_none (Nat.le_refl _);have hat0:=hat0 (fun z hz=>by rw[hno]at hz;cases hz);have hnew:fY (a::r) x=(a::r).take (a::r).length++x::(a::r).drop (a::r).length:=by rw[hat0,if_neg (fun h=>by rw[hno]at h;cases h)]
      have hne:(a::r).take (a::r).length++x::(a::r).drop (a::r).length≠[]:=by simp
      have hcont:=JH (O:=a::r) (x:=x);have hlenE:(a::r).length+1=((a::r).take (a::r).length++x::(a::r).drop (a::r).length).length:=by simp
      have hst:(⟨[(5,li 16001 (ou (i+1))),(3, .d (.leaf (.sl A.length (au A)))),(2, .nil),(6, .d (dN .i64 (i+1:Nat)))],[(16001,mq (ou (i+1)))]⟩:AS)=⟨[(5, .own 16001 ((a::r).length+1) 1 9),(3, .d (.leaf (.sl A.length (au A)))),(2, .nil),(6, .d (dN .i64 (i+1:Nat)))],[(16001,some ((au (a::r)).take ((a::r).length*1)++([AV.val (vL x)].take (1*1))))]⟩:=by rw[hsi,hnew,Hf _ _ _ _ _ hne,hcont,hlenE]
      refine GU ?_;refine jw ?_;refine GU ?_;refine Nc ?_;refine Co ac (i:=(a::r).length) (Nat.le_refl _) rfl rfl rfl rfl rfl rfl rfl rfl rfl ?_;refine Ab ?_;refine Mu ?_;refine xW ac rfl rfl rfl rfl rfl rfl rfl rfl rfl ?_;refine ST ?_;refine q7 16004 (m1:=(a::r).length) (m2:=1) ac (by decide) (Nat.le_trans (Nat.mul_le_mul_right _ (show(a::r).length+1<=1000001 by omega)) (by decide)) (Nat.le_of_ble_eq_true rfl) rfl rfl rfl rfl rfl rfl rfl rfl rfl (.own rfl rfl) rfl rfl rfl rfl rfl ?_;refine SK ?_
      exact Eq.mpr (congrArg (bi _) hst) (bi.trans (b:=⟨[(5, .own 16004 ((a::r).length+1) 1 9),(3, .d (.leaf (.sl A.length (au A)))),(2, .nil),(6, .d (dN .i64 (i+1:Nat)))],[(16004,some ((au (a::r)).take ((a::r).length*1)++([AV.val (vL x)].take (1*1))))]⟩) (weak ⟨rfl,rfl,rfl,ak (by omega) (by omega),trivial⟩ ⟨rfl,trivial⟩ rfl) ((aA (q:=5) (j:=16004) (j':=16001) rfl rfl rfl rfl).trans kw))
   ·have hO:ou A.length=ou i:=by rw[show i=A.length by omega]
    generalize ou i=O at *;refine GU ?_;refine jw ?_;cases O with
    |nil=>
     refine N0 ?_;rw[hO];rfl
    |cons a r=>
     refine bG (T:=TT) ?_;refine bV (a7 (q:=5) rfl rfl) rfl ?_;refine N0 ?_;rw[hO];rfl
  ·refine bG (T:=TT) ?_
   refine bV hw2 rfl ?_;refine kW ?_
   refine ay Nat (fun i=>i<=args.length) (fun i=>⟨[(3,li 5001 (al i)),(1, .box 0 0),(2, .nil),(4, .d (dN .i64 i))],[(5001,mq (al i)),(0,some (ab op na xs nb ys nm args.length (da args)))]⟩) (fun i=>args.length-i) 0 (Nat.zero_le _)
    (by dsimp only;generalize al 0=B;cases B<;>first|exact weak ⟨rfl,rfl,rfl,rfl,trivial⟩ ⟨rfl,trivial⟩ rfl|exact weak ⟨rfl,rfl,rfl,rfl,trivial⟩ ⟨rfl,rfl,trivial⟩ rfl) ?_
   intro i hi
   by_cases hlt:i<args.length
   ·obtain⟨o1,na1,xs1,nb1,ys1,nm1,n1,cs1,hA⟩:=bv args[i]
    have hx:args[i]? =some args[i]:=by simp[hlt]
    have hat:∀(j:Nat) (a:AV),(ab o1 na1 xs1 nb1 ys1 nm1 n1 cs1)[j]? =some a->(da args)[i*7+j]? =some a:=fun j a h=>fw args i args[i] hx j a (by rw[hA];exact h)
    have c:=ih args[i] (List.getElem_mem hlt) (hargs _ (List.getElem_mem hlt)) (by have:=jg (List.getElem_mem hlt);omega);rw[show dR args[i]= .agg (ab o1 na1 xs1 nb1 ys1 nm1 n1 cs1) from congrArg DV.agg hA]at c;have hsi:=hsn i hlt;have hl2:=hall (i+1);rw[hsi]at hl2;generalize eu args[i]=Y at *;generalize al i=B at *;cases B with
    |nil=>
     cases Y with
     |nil=>
      refine Jn ?_;refine ue ?_;refine NF ?_;refine SK ?_;rw[hsi];exact weak ⟨rfl,rfl,rfl,ak (by omega) (by omega),trivial⟩ ⟨rfl,trivial⟩ rfl
     |cons y r=>
      refine Jn ?_;refine ue ?_;refine cK 5002 (m1:=0) (m2:=(y::r).length) ac (Nat.succ_pos _) (Nat.le_trans (Nat.mul_le_mul_right _ (show 0+(y::r).length<=1000000 by simp at hl2 ⊢;omega)) (by decide)) (by simp[au]) rfl rfl rfl rfl rfl rfl rfl rfl rfl rfl (.nil rfl rfl) rfl rfl (by rw[km];rfl) ?_;refine SK ?_;rw[hsi]
      refine Eq.mpr (congrArg (bi _) (ju [(1, .box 0 0),(2, .nil),(4, .d (dN .i64 (i+1:Nat)))] [(0,some (ab op na xs nb ys nm args.length (da args)))] 3 5001 ([]:List L8) y r)) (bi.trans (b:=⟨[(3, .own 5002 (0+(y::r).length) 1 9),(1, .box 0 0),(2, .nil),(4, .d (dN .i64 (i+1:Nat)))],[(5002,some ((au ([]:List L8)).take (0*1)++au (y::r))),(0,some (ab op na xs nb ys nm args.length (da args)))]⟩) (weak ⟨rfl,rfl,rfl,ak (by omega) (by omega),trivial⟩ ⟨rfl,rfl,trivial⟩ rfl) ((aA (q:=3) (j:=5002) (j':=5001) rfl rfl rfl rfl).trans kw))
    |cons a B=>
     cases Y with
     |nil=>
      refine Jn ?_;refine ue ?_;refine ST ?_;refine SK ?_;rw[hsi,List.append_nil];exact weak ⟨rfl,rfl,rfl,ak (by omega) (by omega),trivial⟩ ⟨rfl,rfl,trivial⟩ rfl
     |cons y r=>
      refine Jn ?_;refine ue ?_;refine cK 5002 (m1:=(a::B).length) (m2:=(y::r).length) ac (Nat.succ_pos _) (Nat.le_trans (Nat.mul_le_mul_right _ (show(a::B).length+(y::r).length<=1000000 by simp at hl2 ⊢;omega)) (by decide)) (by simp[au]) rfl rfl rfl rfl rfl rfl rfl rfl rfl rfl (.own rfl rfl) rfl rfl (by rw[km];rfl) ?_;refine SK ?_;rw[hsi]
      refine Eq.mpr (congrArg (bi _) (ju [(1, .box 0 0),(2, .nil),(4, .d (dN .i64 (i+1:Nat)))] [(0,some (ab op na xs nb ys nm args.length (da args)))] 3 5001 (a::B) y r)) (bi.trans (b:=⟨[(3, .own 5002 ((a::B).length+(y::r).length) 1 9),(1, .box 0 0),(2, .nil),(4, .d (dN .i64 (i+1:Nat)))],[(5002,some ((au (a::B)).take ((a::B).length*1)++au (y::r))),(0,some (ab op na xs nb ys nm args.length (da args)))]⟩) (weak ⟨rfl,rfl,rfl,ak (by omega) (by omega),trivial⟩ ⟨rfl,rfl,trivial⟩ rfl) ((aA (q:=3) (j:=5002) (j':=5001) rfl rfl rfl rfl).trans kw))
   ·have hO:A=al i:=by rw[show i=args.length by omega,hA0]
    rw[hO]at hR;generalize al i=B at *;cases B with
    |nil=>
     refine kI ?_
     refine kO4 ?_
     refine kE ?_;refine jw ?_;exact hR _ (bi.trans (b:=⟨[(3, .nil),(2, .nil)],[]⟩) kw ((xJ (q:=3) rfl).trans kw))
    |cons a r=>
     refine kI ?_
     refine kO4 ?_
     refine kE ?_;refine jw ?_;exact hR _ (bi.trans (b:=⟨[(3, .own 5001 (a::r).length 1 9),(2, .nil)],[(5001,some (au (a::r)))]⟩) kw ((a7 (q:=3) rfl rfl).trans kw))
 ·exact Nw
def ve (p:Pm):List AV:= .val (vL p.1)::aR p.2
def bY:Tb->List AV
 | []=>[]
 |p::r=>ve p++bY r
def sv (p:Pm):DV:= .agg (ve p)
def bX (l:Tb):DV:= .leaf (.sl l.length (bY l))
def bl (n:L8) (o:Int) (na:Bool) (xs:List Nat) (nb:Bool) (ys:List Nat) (nm:List UInt8) (k:Nat) (cs:List AV):List AV:= .val (vL n)::ab o na xs nb ys nm k cs
theorem aX (p:Pm):∃o na xs nb ys nm k cs,aR p.2=ab o na xs nb ys nm k cs/\ve p=bl p.1 o na xs nb ys nm k cs:=by
 obtain⟨o1,na1,xs1,nb1,ys1,nm1,n1,cs1,hA⟩:=bv p.2;exact⟨o1,na1,xs1,nb1,ys1,nm1,n1,cs1,hA,congrArg (AV.val (vL p.1):: ·) hA⟩
theorem fy (p:Pm):(ve p).length=8:=by
 show(aR p.2).length+1=8;rw[oE]
theorem d9:∀l:Tb,(bY l).length=l.length*8
 | []=>rfl
 |p::r=>by rw[bY,List.length_append,fy,d9 r,List.length_cons];omega
theorem cY:∀(l:Tb) (i:Nat) (p:Pm),l[i]? =some p-> ∀(j:Nat) (a:AV),(ve p)[j]? =some a->(bY l)[i*8+j]? =some a
 | [],i,p,h,_,_,_=>by simp at h
 |q::l,0,p,h,j,a,ha=>by
  simp at h
  subst h
  simp only[bY,Nat.zero_mul,Nat.zero_add]
  exact LD
 |q::l,i+1,p,h,j,a,ha=>by
  simp only[bY]
  rw[List.getElem?_append_right (by rw[fy];omega),fy,show(i+1)*8+j-8=i*8+j by omega];exact cY l i p (by simpa using h) j a ha
theorem bE {α:Type} {o:List α} {k:Nat} {n:α} (hk:o[k]? =some n):o.take (k+1)=o.take k++[n]:=by
 obtain⟨h,e⟩:=List.getElem?_eq_some_iff.1 hk;rw[List.take_succ_eq_append_getElem h,e]
structure pA (x:Rx):Prop where
 wd:jN x
 lt:mD x=true
 sz:gr x<=120
theorem pA.lm {x:Rx} (h:pA x):yi x:=yi.of_lt x h.lt
def mg (l:Tb):Prop:=∀p∈l,p.1.length<=60/\pA p.2
def iZ (l:List L8):DV:= .leaf (.sl l.length (au l))
theorem mG (l:Tb) (n:L8) (hl:l.length<=1000000):aa Tryz.prog 29 [bX l,dL n] (.one (dN .i64 (gH l n))):=by
 have hf:=od l n;refine kV func29 ?_
 refine ay Nat (fun i=>i<=b5 l n) (fun i=>⟨[(0, .d (bX l)),(1, .d (dL n)),(5, .d (dN .i64 i))],[]⟩) (fun i=>l.length-i) 0 (Nat.zero_le _)
  kw ?_
 intro i hi;refine kI ?_
 refine kO3 ?_
 by_cases hlt:i<l.length
 ·refine kT ?_
  have hx:l[i]? =some l[i]:=by simp[hlt]
  obtain⟨o1,na1,xs1,nb1,ys1,nm1,n1,cs1,hA,hB⟩:=aX l[i];have hat:∀(j:Nat) (a:AV),(bl l[i].1 o1 na1 xs1 nb1 ys1 nm1 n1 cs1)[j]? =some a->(bY l)[i*8+j]? =some a:=fun j a h=>cY l i l[i] hx j a (by rw[hB];exact h)
  refine kW ?_;refine bP (i:=i) (cs':=bl l[i].1 o1 na1 xs1 nb1 ys1 nm1 n1 cs1) hlt hat (Nat.zero_lt_succ 7) rfl rfl rfl rfl rfl rfl rfl rfl ?_
  refine kO3 ?_
  by_cases e:l[i].1=n
  ·refine aO rfl rfl rfl rfl rfl rfl rfl (bO (a:=l[i].1) (b:=n) e) ?_
   refine N0 ?_;have h1:b5 l n=i:=Nat.le_antisymm (Nat.le_of_not_lt fun h=>fS h hx e) hi;exact congrArg (fun z=>RV.one (dN .i64 z)) (show(i:Int)=gH l n by unfold gH;rw[h1,if_pos hlt])
  ·refine aO rfl rfl rfl rfl rfl rfl rfl (b6 (a:=l[i].1) (b:=n) e) ?_
   refine kW ?_;refine⟨i+1,?_,by omega,weak ⟨rfl,rfl,ak (by omega) (by omega),trivial⟩ trivial rfl⟩;rcases Nat.lt_or_ge i (b5 l n)with h|h
   ·exact h
   ·obtain⟨p,h1,h2⟩:=n6 (l:=l) (n:=n) (by omega)
    rw[show b5 l n=i by omega,hx]at h1;cases h1;exact absurd h2 e
 ·refine kE ?_
  refine N0 ?_;exact congrArg (fun z=>RV.one (dN .i64 z)) (show(-1:Int)=gH l n by unfold gH;rw[if_neg (by omega)])
theorem Bv (l:List L8) (n:L8) (hl:l.length<=1000000):aa Tryz.prog 56 [iZ l,dL n] (.one (dB (decide (n∈l)))):=by
 refine kV func56 ?_;refine ay Nat (fun i=>i<=l.length/\n ∉ l.take i) (fun i=>⟨[(0, .d (iZ l)),(1, .d (dL n)),(5, .d (dN .i64 i))],[]⟩) (fun i=>l.length-i) 0 ⟨Nat.zero_le _,by simp⟩ kw ?_;rintro i ⟨hi,hn⟩;refine kI ?_
 refine kO3 ?_
 by_cases hlt:i<l.length
 ·refine kT ?_
  obtain⟨x,hx⟩:∃x,l[i]? =some x:=⟨l[i],by simp[hlt]⟩;refine Mn ?_
  refine kO2 ?_
  by_cases e:x=n
  ·refine aO rfl rfl rfl rfl rfl rfl rfl (bO (a:=x) (b:=n) e) ?_
   refine N0 ?_;exact congrArg (fun b=>RV.one (dB b)) (decide_eq_true (show n∈l by rw[<- e];exact List.mem_of_getElem? hx)).symm
  ·refine aO rfl rfl rfl rfl rfl rfl rfl (b6 (a:=x) (b:=n) e) ?_
   refine kW ?_;refine⟨i+1,⟨hlt,?_⟩,by omega,weak ⟨rfl,rfl,ak (by omega) (by omega),trivial⟩ trivial rfl⟩;rw[bE hx,List.mem_append,not_or];exact⟨hn,fun h=>e (List.mem_singleton.1 h).symm⟩
 ·refine kE ?_
  refine N0 ?_;rw[List.take_of_length_le (by omega)]at hn;exact congrArg (fun b=>RV.one (dB b)) (decide_eq_false hn).symm
theorem Il (l m:List L8) (hl:l.length<=1000000) (hm:m.length<=1000000):aa Tryz.prog 57 [iZ l,iZ m] (.one (dB (m.all fun n=>decide (n∈l)))):=by
 refine kV func57 ?_;refine ay Nat (fun i=>i<=m.length/\ ∀n∈m.take i,n∈l) (fun i=>⟨[(0, .d (iZ l)),(1, .d (iZ m)),(5, .d (dN .i64 i))],[]⟩) (fun i=>m.length-i) 0 ⟨Nat.zero_le _,by simp⟩ kw ?_;rintro i ⟨hi,hn⟩;refine kI ?_
 refine kO3 ?_
 by_cases hlt:i<m.length
 ·refine kT ?_
  obtain⟨x,hx⟩:∃x,m[i]? =some x:=⟨m[i],by simp[hlt]⟩;refine Mn ?_;refine kO ?_;have c:=Bv l x hl
  by_cases e:x∈l
  ·rw[decide_eq_true e]at c
   refine kQ (c) ?_;refine⟨i+1,⟨hlt,?_⟩,by omega,weak ⟨rfl,rfl,ak (by omega) (by omega),trivial⟩ trivial rfl⟩;rw[bE hx];intro n hn';rcases List.mem_append.1 hn' with h|h
   ·exact hn n h
   ·rw[List.mem_singleton.1 h];exact e
  ·rw[decide_eq_false e]at c
   refine kC (c) ?_;refine N0 ?_;refine congrArg (fun b=>RV.one (dB b)) (Bool.eq_false_iff.2 fun h=>e ?_).symm;have:=List.all_eq_true.1 h x (List.mem_of_getElem? hx)
   simpa using this
 ·refine kE ?_
  refine N0 ?_;rw[List.take_of_length_le (by omega)]at hn;exact congrArg (fun b=>RV.one (dB b)) (List.all_eq_true.2 fun x hx=>decide_eq_true (hn x hx)).symm
theorem Jo {l:Tb} {i:Nat} {p:Pm} (h:l[i]? =some p):xH l i (l.drop i)=if mh p.1=true then(if pT p.2=0 then(if b5 l p.1<i then 5 else xH l (i+1) (l.drop (i+1)))else pT p.2)else 1:=by
 obtain⟨hi,e⟩:=List.getElem?_eq_some_iff.1 h;rw[List.drop_eq_getElem_cons hi,e,xH]
theorem uL (l:Tb) (hs:mg l) (hl:l.length<=1000000):aa Tryz.prog 18 [bX l] (.one (dN .i64 (ie l))):=by
 by_cases h200:200<l.length
 ·refine kU func18 ?_
  refine MV ?_;refine N0 ?_;exact oY
 have hv:ie l=xH l 0 (l.drop 0):=by unfold ie;rw[if_neg h200];rfl
 rw[hv];clear hv;refine kV func18 ?_;refine Ki ?_;refine kW ?_;refine ay Nat (fun i=>i<=l.length/\xH l 0 (l.drop 0)=xH l i (l.drop i)) (fun i=>⟨[(0, .d (bX l)),(3, .d (dN .i64 i))],[]⟩) (fun i=>l.length-i) 0 ⟨Nat.zero_le _,rfl⟩ kw ?_;rintro i ⟨hi,hv⟩;refine kI ?_
 refine kO3 ?_
 by_cases hlt:i<l.length
 ·refine kT ?_
  obtain⟨p,hx⟩:∃p,l[i]? =some p:=⟨l[i],by simp[hlt]⟩;rw[Jo hx]at hv;have hp:=List.mem_of_getElem? hx;obtain⟨hn,hsx⟩:=hs p hp;obtain⟨o1,na1,xs1,nb1,ys1,nm1,n1,cs1,hA,hB⟩:=aX p;have hat:∀(j:Nat) (a:AV),(bl p.1 o1 na1 xs1 nb1 ys1 nm1 n1 cs1)[j]? =some a->(bY l)[i*8+j]? =some a:=fun j a h=>cY l i p hx j a (by rw[hB];exact h)
  have c1:=lC p.1 (by omega);have c2:=wC p.2 hsx.wd hsx.lm (by have:=hsx.sz;omega);rw[show dR p.2= .agg (ab o1 na1 xs1 nb1 ys1 nm1 n1 cs1) from congrArg DV.agg hA]at c2;have c3:=mG l p.1 hl;have hf:=jS.2 ⟨p,hp,rfl⟩;rw[show gH l p.1=(b5 l p.1:Nat) by unfold gH;rw[if_pos hf]]at c3;refine kW ?_;refine vr ?_
  refine kO2 ?_
  cases hb:mh p.1
  ·rw[hb]at c1 hv
   refine kC (c1) ?_;refine N0 ?_;exact Pv
  ·rw[hb,if_pos rfl]at hv
   rw[hb]at c1;refine kQ (c1) ?_;refine vr ?_
   refine kO2 ?_
   refine kC (c2) ?_;refine Ru ?_
   by_cases h0:pT p.2=0
   ·rw[if_pos h0]at hv
    refine RE ?_;refine kW ?_;refine vr ?_
    refine kO2 ?_
    refine kC (c3) ?_;refine kO ?_
    by_cases h5:b5 l p.1<i
    ·rw[if_pos h5]at hv
     refine kT ?_;refine N0 ?_;exact Pv
    ·rw[if_neg h5]at hv
     refine kY ?_;exact⟨i+1,⟨hlt,hv⟩,by omega,weak ⟨rfl,ak (by omega) (by omega),trivial⟩ trivial rfl⟩
   ·rw[if_neg h0]at hv
    refine Q2 ?_;refine N0 ?_;exact Pv
 ·exact Tw
theorem Ko {l:Tb} {n:L8}:gH l n<0↔n ∉ l.map (·.1):=by
 unfold gH;have h:=jS (l:=l) (n:=n)
 split
 ·rename_i h1
  obtain⟨p,hp,e⟩:=h.1 h1;exact⟨fun h=>by omega,fun h=>absurd (List.mem_map.2 ⟨p,hp,e⟩) h⟩
 ·rename_i h1
  refine⟨fun _ hn=>h1 (h.2 ?_),fun _=>by decide⟩;obtain⟨p,hp,e⟩:=List.mem_map.1 hn;exact⟨p,hp,e⟩
theorem mg.ns {l:Tb} (hs:mg l) {p:Pm} (hp:p∈l):(eu p.2).length<=120:=Nat.le_trans (pK _) (hs p hp).2.sz
theorem nB {l:Tb} {out:List L8} {i:Nat} {p:Pm} (h:l[i]? =some p) {nx:L8} (hn:(l.take i).foldl (jr out) []=nx):(l.take (i+1)).foldl (jr out) []=jr out nx p:=by rw[K3 h,hn]
theorem ni (l:Tb) (hs:mg l) (hl:l.length<=1000):aa Tryz.prog 16 [bX l] (.tup [iZ (bI l).1,dN .i64 (bI l).2]):=by
 have cv:=uL l hs (by omega)
 by_cases hv:ie l=0
 case neg=>
  rw[show bI l=([],ie l) by unfold bI;rw[if_neg hv]];generalize ie l=z at *;refine kU func16 ?_;exact BQ
 have ho:=nW hv;rw[hv]at cv;have hord:bI l=if l.all (fun p=>pC p.2 (l.map (·.1)))=true then((match f7 l l.length []with|some o=>(o,0)|none=>([],9)):List L8 × Int)else([],4):=by unfold bI;rw[if_pos hv];rfl
 obtain⟨RS,hRS⟩:∃RS,bI l=RS:=⟨_,rfl⟩;rw[hRS]at hord ⊢;clear hRS hv;refine kU func16 ?_;refine NG ?_;refine ay Nat (fun i=>i<=l.length/\ ∀p∈l.take i,pC p.2 (l.map (·.1))=true) (fun i=>⟨[(0, .d (bX l)),(5, .d (dN .i64 i))],[]⟩) (fun i=>l.length-i) 0 ⟨Nat.zero_le _,by simp⟩ kw ?_;rintro i ⟨hi,hall⟩;refine kI ?_
 refine kO3 ?_
 by_cases hlt:i<l.length
 ·refine kT ?_
  obtain⟨p,hx⟩:∃p,l[i]? =some p:=⟨l[i],by simp[hlt]⟩;have hp:=List.mem_of_getElem? hx;have hsx:=(hs p hp).2;have hnl:=hs.ns hp;have cn:=jk p.2 hsx.wd (by have:=hsx.sz;omega);obtain⟨o1,na1,xs1,nb1,ys1,nm1,n1,cs1,hA,hB⟩:=aX p;have hat:∀(j:Nat) (a:AV),(bl p.1 o1 na1 xs1 nb1 ys1 nm1 n1 cs1)[j]? =some a->(bY l)[i*8+j]? =some a:=fun j a h=>cY l i p hx j a (by rw[hB];exact h)
  rw[show dR p.2= .agg (ab o1 na1 xs1 nb1 ys1 nm1 n1 cs1) from congrArg DV.agg hA]at cn
  have hstep:(∀n∈eu p.2,n∈l.map (·.1))-> ∀q∈l.take (i+1),pC q.2 (l.map (·.1))=true:=fun h q hq=>by
   rw[bE hx]at hq;rcases List.mem_append.1 hq with hq|hq
   ·exact hall q hq
   ·rw[List.mem_singleton.1 hq];exact vT.2 h
  have hbad:(∃n∈eu p.2,n ∉ l.map (·.1))->RS=([],4):=fun⟨n,h1,h2⟩=>by
   rw[hord,if_neg];intro h;exact h2 (vT.1 (List.all_eq_true.1 h p hp) n h1)
  generalize eu p.2=ns at *;refine kW ?_;refine vr ?_;refine Pb ?_;refine kW ?_;refine ay Nat (fun k=>k<=ns.length/\ ∀n∈ns.take k,n∈l.map (·.1)) (fun k=>⟨[(0, .d (bX l)),(5, .d (dN .i64 i)),(6, .d (iZ ns)),(7, .d (dN .i64 k))],[]⟩) (fun k=>ns.length-k) 0 ⟨Nat.zero_le _,by simp⟩ kw ?_;rintro k ⟨hk,hkn⟩;refine kI ?_
  refine kO3 ?_
  by_cases hkl:k<ns.length
  ·refine kT ?_
   obtain⟨x,hxx⟩:∃x,ns[k]? =some x:=⟨ns[k],by simp[hkl]⟩;have cf:=mG l x (by omega);have hfn:=Ko (l:=l) (n:=x);generalize gH l x=f at *;refine kW ?_;refine bP (i:=k) (cs':=[.val (vL x)]) hkl (ib hxx) (Nat.zero_lt_succ 0) rfl rfl rfl rfl rfl rfl rfl rfl ?_;refine kO ?_;refine kC (cf) ?_
   by_cases hneg:f<0
   ·refine kB true ?_ ?_
    ·exact decide_eq_true hneg
    refine N0 ?_;rw[hbad ⟨x,List.mem_of_getElem? hxx,hfn.1 hneg⟩];rfl
   ·refine kB false ?_ ?_
    ·exact decide_eq_false hneg
    refine kW ?_;refine⟨k+1,⟨hkl,?_⟩,by omega,weak ⟨rfl,rfl,rfl,ak (by omega) (by omega),trivial⟩ trivial rfl⟩;rw[bE hxx];intro n hn;rcases List.mem_append.1 hn with h|h
    ·exact hkn n h
    ·rw[List.mem_singleton.1 h];exact Classical.byContradiction fun h=>hneg (hfn.2 h)
  ·refine kE ?_
   refine kW ?_;rw[List.take_of_length_le (by omega)]at hkn;exact⟨i+1,⟨hlt,hstep hkn⟩,by omega,weak ⟨rfl,ak (by omega) (by omega),trivial⟩ trivial rfl⟩
 ·refine kE ?_
  rw[List.take_of_length_le (by omega)]at hall;have hord:RS=(match f7 l l.length []with|some o=>(o,0)|none=>([],9)):=by rw[hord,if_pos (List.all_eq_true.2 hall)]
  clear hall hlt hi cv;refine kW ?_;refine ay (List L8) (fun o=>o.length<=l.length/\f7 l (l.length-o.length) o=f7 l l.length []) (fun o=>⟨[(8,li 5001 o),(0, .d (bX l))],[(5001,mq o)]⟩) (fun o=>l.length-o.length) [] ⟨Nat.zero_le _,rfl⟩ kw ?_;rintro o ⟨hol,hog⟩;have ho1:o.length<=1000000:=by omega
  by_cases hlo:o.length<l.length
  case neg=>
   have hend:RS=(o,0):=by rw[hord,<- hog,show l.length-o.length=0 by omega];rfl
   cases o with
   |nil=>
    refine Ms ?_;refine N0 ?_;rw[hend];rfl
   |cons a r=>
    refine kI ?_
    refine kO4 ?_
    refine kE ?_;refine jw ?_;refine bG (T:=TT) ?_;refine bV (a7 (q:=8) rfl rfl) rfl ?_;refine N0 ?_;rw[hend];rfl
  obtain⟨kk,hkk⟩:∃kk,l.length-o.length=kk+1:=⟨l.length-o.length-1,by omega⟩;rw[hkk,f7]at hog
  have hcont:∀(k:Nat) (p:Pm),l[k]? =some p->sA l o=p.1->f7 l (l.length-(o++[p.1]).length) (o++[p.1])=f7 l l.length []:=fun k p hk hn=>by
   rw[hn,if_neg (ho.ne (List.mem_of_getElem? hk))]at hog;exact yP
  have hcyc:sA l o=[]->RS=([],9):=fun h=>by rw[if_pos h]at hog;rw[hord,<- hog]
  have hbest0:mW l (-1) ((l.take 0).foldl (jr o) []):= .inl ⟨rfl,by simp⟩;cases o with
  |nil=>
   refine Mj ?_;refine ay (Nat × Int) (fun x=>x.1<=l.length/\mW l x.2 ((l.take x.1).foldl (jr ([])) [])) (fun x=>⟨[(8, .nil),(0, .d (bX l)),(9, .d (dN .i64 x.2)),(10, .d (dN .i64 x.1))],[]⟩) (fun x=>l.length-x.1) (0,-1) ⟨Nat.zero_le _,hbest0⟩ kw ?_;rintro⟨i,b⟩ ⟨hi,hbst⟩;dsimp only at hi hbst ⊢;obtain⟨nx,hnx⟩:∃nx,(l.take i).foldl (jr ([])) []=nx:=⟨_,rfl⟩;rw[hnx]at hbst;refine kI ?_
   refine kO3 ?_
   by_cases hlt:i<l.length
   ·refine kT ?_
    obtain⟨p,hx⟩:∃p,l[i]? =some p:=⟨l[i],by simp[hlt]⟩;have hnext:=nB hx hnx;have hp:=List.mem_of_getElem? hx;have hsx:=(hs p hp).2;have hnl:=hs.ns hp;have cn:=jk p.2 hsx.wd (by have:=hsx.sz;omega);obtain⟨o1,na1,xs1,nb1,ys1,nm1,n1,cs1,hA,hB⟩:=aX p;have hat:∀(j:Nat) (a:AV),(bl p.1 o1 na1 xs1 nb1 ys1 nm1 n1 cs1)[j]? =some a->(bY l)[i*8+j]? =some a:=fun j a h=>cY l i p hx j a (by rw[hB];exact h)
    rw[show dR p.2= .agg (ab o1 na1 xs1 nb1 ys1 nm1 n1 cs1) from congrArg DV.agg hA]at cn;have hcd:pH ([]) p=(!(decide (p.1∈([]:List L8))) && (eu p.2).all fun n=>decide (n∈([]:List L8))):=rfl;generalize eu p.2=ns at *;have c1:=Bv ([]) p.1 ho1;have c2:=Il ([]) ns ho1 (by omega)
    have keep:pH ([]) p=false->mW l b ((l.take (i+1)).foldl (jr ([])) []):=fun h=>by
     exact y4
    have take:pH ([]) p=true->(nx=[]∨Op.bytesLess p.1 nx=true)->mW l (i:Nat) ((l.take (i+1)).foldl (jr ([])) []):=fun h1 h2=>by
     rw[hnext,jr,if_pos ⟨h1,h2⟩];exact .inr ⟨i,p,rfl,hx,rfl⟩
    have hall:decide (p.1∈([]:List L8))=true∨(decide (p.1∈([]:List L8))=false/\(ns.all fun n=>decide (n∈([]:List L8)))=false) ∨
     (decide (p.1∈([]:List L8))=false/\(ns.all fun n=>decide (n∈([]:List L8)))=true/\b= -1/\nx=[]) ∨
     (∃(k:Nat) (q:Pm),decide (p.1∈([]:List L8))=false/\(ns.all fun n=>decide (n∈([]:List L8)))=true/\b=k/\l[k]? =some q/\q.1=nx/\Op.bytesLess p.1 q.1=false) ∨
     (∃(k:Nat) (q:Pm),decide (p.1∈([]:List L8))=false/\(ns.all fun n=>decide (n∈([]:List L8)))=true/\b=k/\l[k]? =some q/\q.1=nx/\Op.bytesLess p.1 q.1=true):=by
     rcases Bool.eq_false_or_eq_true (decide (p.1∈([]:List L8)))with h|h
     ·exact .inl h
     rcases Bool.eq_false_or_eq_true (ns.all fun n=>decide (n∈([]:List L8)))with h2|h2
     ·exact Np
     ·exact .inr (.inl ⟨h,h2⟩)
    rcases hall with hb1| ⟨hb1,hb2⟩| ⟨hb1,hb2,rfl,hnx0⟩| ⟨k,q,hb1,hb2,rfl,hk,hq,hls⟩| ⟨k,q,hb1,hb2,rfl,hk,hq,hls⟩
    ·clear c2 take
     rw[hb1]at c1;refine kW ?_;refine vr ?_
     refine kO2 ?_
     refine kQ (c1) ?_;exact⟨(i+1,b),⟨hlt,keep (by rw[hcd,hb1];rfl)⟩,by dsimp only;omega,weak ⟨rfl,rfl,rfl,ak (by dsimp only;omega) (by omega),trivial⟩ trivial rfl⟩
    ·clear take
     rw[hb2]at c2;rw[hb1]at c1;refine Mi ?_;refine kW ?_;exact⟨(i+1,b),⟨hlt,keep (by rw[hcd,hb1,hb2];rfl)⟩,by dsimp only;omega,weak ⟨rfl,rfl,rfl,ak (by dsimp only;omega) (by omega),trivial⟩ trivial rfl⟩
    ·clear keep
     have hcdt:pH ([]) p=true:=by rw[hcd,hb1,hb2];rfl
     rw[hb2]at c2;rw[hb1]at c1;refine Mi ?_;refine kW ?_;exact⟨(i+1,(i:Nat)),⟨hlt,take hcdt (.inl hnx0)⟩,by dsimp only;omega,weak ⟨rfl,rfl,rfl,ak (by dsimp only;omega) (by omega),trivial⟩ trivial rfl⟩
    ·clear take
     have hkl:=(List.getElem?_eq_some_iff.1 hk).1;obtain⟨o2,na2,xs2,nb2,ys2,nm2,n2,cs2,hA2,hB2⟩:=aX q;have hat2:∀(j:Nat) (a:AV),(bl q.1 o2 na2 xs2 nb2 ys2 nm2 n2 cs2)[j]? =some a->(bY l)[k*8+j]? =some a:=fun j a h=>cY l k q hk j a (by rw[hB2];exact h)
     rw[hb2]at c2;rw[hb1]at c1;refine Mi ?_;refine M9 ?_;refine Mx ?_;refine⟨(i+1,(k:Nat)),⟨hlt,?_⟩,by dsimp only;omega,weak ⟨rfl,rfl,rfl,ak (by dsimp only;omega) (by omega),trivial⟩ trivial rfl⟩;exact Nt
    ·clear keep
     have hcdt:pH ([]) p=true:=by rw[hcd,hb1,hb2];rfl
     have hkl:=(List.getElem?_eq_some_iff.1 hk).1;obtain⟨o2,na2,xs2,nb2,ys2,nm2,n2,cs2,hA2,hB2⟩:=aX q;have hat2:∀(j:Nat) (a:AV),(bl q.1 o2 na2 xs2 nb2 ys2 nm2 n2 cs2)[j]? =some a->(bY l)[k*8+j]? =some a:=fun j a h=>cY l k q hk j a (by rw[hB2];exact h)
     rw[hb2]at c2;rw[hb1]at c1;refine Mi ?_;refine M9 ?_;refine Nu ?_;exact⟨(i+1,(i:Nat)),⟨hlt,take hcdt (.inr (by rw[<- hq];exact hls))⟩,by dsimp only;omega,weak ⟨rfl,rfl,rfl,ak (by dsimp only;omega) (by omega),trivial⟩ trivial rfl⟩
   ·refine kE ?_
    rw[List.take_of_length_le (by omega)]at hnx;have hnN:sA l ([])=nx:=hnx;refine kW ?_;rcases hbst with⟨rfl,hnx0⟩| ⟨k,q,rfl,hk,hq⟩
    ·refine N0 ?_
     rw[hcyc (hnN.trans hnx0)];rfl
    ·have hkl:=(List.getElem?_eq_some_iff.1 hk).1
     obtain⟨o2,na2,xs2,nb2,ys2,nm2,n2,cs2,hA2,hB2⟩:=aX q;have hat2:∀(j:Nat) (a:AV),(bl q.1 o2 na2 xs2 nb2 ys2 nm2 n2 cs2)[j]? =some a->(bY l)[k*8+j]? =some a:=fun j a h=>cY l k q hk j a (by rw[hB2];exact h)
     refine Ki ?_;refine kW ?_;refine La ?_
     refine kO3 ?_
     refine cK 5002 (m1:=([]:List L8).length) (m2:=1) ac (by decide) (Nat.le_trans (Nat.mul_le_mul_right _ (show([]:List L8).length+1<=1000001 by omega)) (by decide)) rfl rfl rfl rfl rfl rfl rfl rfl rfl rfl rfl (.nil rfl rfl) rfl rfl rfl ?_;refine kW ?_;refine⟨([])++[q.1],⟨by simp only[List.length_append,List.length_cons,List.length_nil]at hlo ⊢;omega,hcont k q hk (hnN.trans hq.symm)⟩,by simp only[List.length_append,List.length_cons,List.length_nil]at hlo ⊢;omega,Eq.mpr (congrArg (bi _) (ju [(0, .d (bX l))] [] 8 5001 ([]) q.1 [])) ?_⟩;exact bi.trans (b:=⟨[(8, .own 5002 (([]:List L8).length+1) 1 9),(0, .d (bX l))],[(5002,some ((au ([])).take (([]:List L8).length*1)++[.val (vL q.1)]))]⟩) kw ((aA (q:=8) (j:=5002) (j':=5001) rfl rfl rfl rfl).trans kw)
  |cons a r=>
   refine Jn ?_;refine kW ?_;refine ay (Nat × Int) (fun x=>x.1<=l.length/\mW l x.2 ((l.take x.1).foldl (jr (List.cons a r)) [])) (fun x=>⟨[(8, .own 5001 (List.cons a r).length 1 9),(0, .d (bX l)),(9, .d (dN .i64 x.2)),(10, .d (dN .i64 x.1))],[(5001,some (au (List.cons a r)))]⟩) (fun x=>l.length-x.1) (0,-1) ⟨Nat.zero_le _,hbest0⟩ kw ?_;rintro⟨i,b⟩ ⟨hi,hbst⟩;dsimp only at hi hbst ⊢;obtain⟨nx,hnx⟩:∃nx,(l.take i).foldl (jr (List.cons a r)) []=nx:=⟨_,rfl⟩;rw[hnx]at hbst;refine kI ?_
   refine kO3 ?_
   by_cases hlt:i<l.length
   ·refine kT ?_
    obtain⟨p,hx⟩:∃p,l[i]? =some p:=⟨l[i],by simp[hlt]⟩;have hnext:=nB hx hnx;have hp:=List.mem_of_getElem? hx;have hsx:=(hs p hp).2;have hnl:=hs.ns hp;have cn:=jk p.2 hsx.wd (by have:=hsx.sz;omega);obtain⟨o1,na1,xs1,nb1,ys1,nm1,n1,cs1,hA,hB⟩:=aX p;have hat:∀(j:Nat) (a:AV),(bl p.1 o1 na1 xs1 nb1 ys1 nm1 n1 cs1)[j]? =some a->(bY l)[i*8+j]? =some a:=fun j a h=>cY l i p hx j a (by rw[hB];exact h)
    rw[show dR p.2= .agg (ab o1 na1 xs1 nb1 ys1 nm1 n1 cs1) from congrArg DV.agg hA]at cn;have hcd:pH (List.cons a r) p=(!(decide (p.1∈(List.cons a r:List L8))) && (eu p.2).all fun n=>decide (n∈(List.cons a r:List L8))):=rfl;generalize eu p.2=ns at *;have c1:=Bv (List.cons a r) p.1 ho1;have c2:=Il (List.cons a r) ns ho1 (by omega)
    have keep:pH (List.cons a r) p=false->mW l b ((l.take (i+1)).foldl (jr (List.cons a r)) []):=fun h=>by
     exact y4
    have take:pH (List.cons a r) p=true->(nx=[]∨Op.bytesLess p.1 nx=true)->mW l (i:Nat) ((l.take (i+1)).foldl (jr (List.cons a r)) []):=fun h1 h2=>by
     rw[hnext,jr,if_pos ⟨h1,h2⟩];exact .inr ⟨i,p,rfl,hx,rfl⟩
    have hall:decide (p.1∈(List.cons a r:List L8))=true∨(decide (p.1∈(List.cons a r:List L8))=false/\(ns.all fun n=>decide (n∈(List.cons a r:List L8)))=false) ∨
     (decide (p.1∈(List.cons a r:List L8))=false/\(ns.all fun n=>decide (n∈(List.cons a r:List L8)))=true/\b= -1/\nx=[]) ∨
     (∃(k:Nat) (q:Pm),decide (p.1∈(List.cons a r:List L8))=false/\(ns.all fun n=>decide (n∈(List.cons a r:List L8)))=true/\b=k/\l[k]? =some q/\q.1=nx/\Op.bytesLess p.1 q.1=false) ∨
     (∃(k:Nat) (q:Pm),decide (p.1∈(List.cons a r:List L8))=false/\(ns.all fun n=>decide (n∈(List.cons a r:List L8)))=true/\b=k/\l[k]? =some q/\q.1=nx/\Op.bytesLess p.1 q.1=true):=by
     rcases Bool.eq_false_or_eq_true (decide (p.1∈(List.cons a r:List L8)))with h|h
     ·exact .inl h
     rcases Bool.eq_false_or_eq_true (ns.all fun n=>decide (n∈(List.cons a r:List L8)))with h2|h2
     ·exact Np
     ·exact .inr (.inl ⟨h,h2⟩)
    rcases hall with hb1| ⟨hb1,hb2⟩| ⟨hb1,hb2,rfl,hnx0⟩| ⟨k,q,hb1,hb2,rfl,hk,hq,hls⟩| ⟨k,q,hb1,hb2,rfl,hk,hq,hls⟩
    ·clear c2 take
     rw[hb1]at c1;refine kW ?_;refine vr ?_;refine Ai ?_;refine kW ?_;exact⟨(i+1,b),⟨hlt,keep (by rw[hcd,hb1];rfl)⟩,by dsimp only;omega,weak ⟨rfl,rfl,rfl,ak (by dsimp only;omega) (by omega),trivial⟩ ⟨rfl,trivial⟩ rfl⟩
    ·clear take
     rw[hb2]at c2;rw[hb1]at c1;refine MD ?_;refine kW ?_;exact⟨(i+1,b),⟨hlt,keep (by rw[hcd,hb1,hb2];rfl)⟩,by dsimp only;omega,weak ⟨rfl,rfl,rfl,ak (by dsimp only;omega) (by omega),trivial⟩ ⟨rfl,trivial⟩ rfl⟩
    ·clear keep
     have hcdt:pH (List.cons a r) p=true:=by rw[hcd,hb1,hb2];rfl
     rw[hb2]at c2;rw[hb1]at c1;refine MD ?_;refine kW ?_;exact⟨(i+1,(i:Nat)),⟨hlt,take hcdt (.inl hnx0)⟩,by dsimp only;omega,weak ⟨rfl,rfl,rfl,ak (by dsimp only;omega) (by omega),trivial⟩ ⟨rfl,trivial⟩ rfl⟩
    ·clear take
     have hkl:=(List.getElem?_eq_some_iff.1 hk).1;obtain⟨o2,na2,xs2,nb2,ys2,nm2,n2,cs2,hA2,hB2⟩:=aX q;have hat2:∀(j:Nat) (a:AV),(bl q.1 o2 na2 xs2 nb2 ys2 nm2 n2 cs2)[j]? =some a->(bY l)[k*8+j]? =some a:=fun j a h=>cY l k q hk j a (by rw[hB2];exact h)
     rw[hb2]at c2;rw[hb1]at c1;refine MD ?_;refine M9 ?_;refine Mx ?_;refine⟨(i+1,(k:Nat)),⟨hlt,?_⟩,by dsimp only;omega,weak ⟨rfl,rfl,rfl,ak (by dsimp only;omega) (by omega),trivial⟩ ⟨rfl,trivial⟩ rfl⟩;exact Nt
    ·clear keep
     have hcdt:pH (List.cons a r) p=true:=by rw[hcd,hb1,hb2];rfl
     have hkl:=(List.getElem?_eq_some_iff.1 hk).1;obtain⟨o2,na2,xs2,nb2,ys2,nm2,n2,cs2,hA2,hB2⟩:=aX q;have hat2:∀(j:Nat) (a:AV),(bl q.1 o2 na2 xs2 nb2 ys2 nm2 n2 cs2)[j]? =some a->(bY l)[k*8+j]? =some a:=fun j a h=>cY l k q hk j a (by rw[hB2];exact h)
     rw[hb2]at c2;rw[hb1]at c1;refine MD ?_;refine M9 ?_;refine Nu ?_;exact⟨(i+1,(i:Nat)),⟨hlt,take hcdt (.inr (by rw[<- hq];exact hls))⟩,by dsimp only;omega,weak ⟨rfl,rfl,rfl,ak (by dsimp only;omega) (by omega),trivial⟩ ⟨rfl,trivial⟩ rfl⟩
   ·refine kE ?_
    rw[List.take_of_length_le (by omega)]at hnx;have hnN:sA l (List.cons a r)=nx:=hnx;refine kW ?_;rcases hbst with⟨rfl,hnx0⟩| ⟨k,q,rfl,hk,hq⟩
    ·refine N0 ?_
     rw[hcyc (hnN.trans hnx0)];rfl
    ·have hkl:=(List.getElem?_eq_some_iff.1 hk).1
     obtain⟨o2,na2,xs2,nb2,ys2,nm2,n2,cs2,hA2,hB2⟩:=aX q;have hat2:∀(j:Nat) (a:AV),(bl q.1 o2 na2 xs2 nb2 ys2 nm2 n2 cs2)[j]? =some a->(bY l)[k*8+j]? =some a:=fun j a h=>cY l k q hk j a (by rw[hB2];exact h)
     refine Ki ?_;refine kW ?_;refine La ?_
     refine kO3 ?_
     refine cK 5002 (m1:=(List.cons a r:List L8).length) (m2:=1) ac (by decide) (Nat.le_trans (Nat.mul_le_mul_right _ (show(List.cons a r:List L8).length+1<=1000001 by omega)) (by decide)) rfl rfl rfl rfl rfl rfl rfl rfl rfl rfl rfl (.own rfl rfl) rfl rfl rfl ?_;refine kW ?_;refine⟨(List.cons a r)++[q.1],⟨by simp only[List.length_append,List.length_cons,List.length_nil]at hlo ⊢;omega,hcont k q hk (hnN.trans hq.symm)⟩,by simp only[List.length_append,List.length_cons,List.length_nil]at hlo ⊢;omega,Eq.mpr (congrArg (bi _) (ju [(0, .d (bX l))] [] 8 5001 (List.cons a r) q.1 [])) ?_⟩
     exact bi.trans (b:=⟨[(8, .own 5002 ((List.cons a r:List L8).length+1) 1 9),(0, .d (bX l))],[(5002,some ((au (List.cons a r)).take ((List.cons a r:List L8).length*1)++[.val (vL q.1)]))]⟩) kw ((aA (q:=8) (j:=5002) (j':=5001) rfl rfl rfl rfl).trans kw)
def Bd (q:Rat) (n:Nat):Prop:=q.num.natAbs<2^n/\(q.den:Int).natAbs<2^n
theorem jV {x m n:Nat} (h:x<2^m) (hm:m<=n):x<2^n:=Nat.lt_of_lt_of_le h (Nat.pow_le_pow_right (by decide) hm)
theorem Bd.mono {q:Rat} {m n:Nat} (h:Bd q m) (hm:m<=n):Bd q n:=⟨jV h.1 hm,jV h.2 hm⟩
theorem Bd.divInt {k:Nat} {n d:Int} (h:n.natAbs<2^k) (h':d.natAbs<2^k) (hd:d≠0):Bd (Rat.divInt n d) k:=by
 obtain⟨_,_,h1,h2⟩:=ml (n:=n) (d:=d) hd;have hg:0<(gz n d).natAbs:=by have:=zh (n:=n) hd;omega
 refine⟨Nat.lt_of_le_of_lt ?_ h,Nat.lt_of_le_of_lt ?_ h'⟩
 ·conv=>rhs;rw[h1,Int.natAbs_mul]
  exact Nat.le_mul_of_pos_left _ hg
 ·conv=>rhs;rw[h2,Int.natAbs_mul]
  exact Nat.le_mul_of_pos_left _ hg
theorem gW {x y:Int} {a c:Nat} (h:x.natAbs<2^a) (h':y.natAbs<2^c):(x*y).natAbs<2^(a+c):=by
 rw[Int.natAbs_mul,Nat.pow_add];exact Nat.mul_lt_mul'' h h'
theorem Bd.mul {x y:Rat} {m n:Nat} (h:Bd x m) (k:Bd y n):Bd (x*y) (m+n):=by
 rw[<- lM];exact .divInt (gW h.1 k.1) (gW h.2 k.2) (by have:=Int.mul_pos (cG x) (cG y);omega)
theorem Bd.div {x y:Rat} {m n:Nat} (h:Bd x m) (k:Bd y n) (hy:y≠0):Bd (x/y) (m+n):=by
 rw[<- me];have h0:y.num≠0:=fun e=>hy (Rat.num_eq_zero.1 e)
 exact .divInt (gW h.1 k.2) (gW h.2 k.1) (Int.mul_ne_zero (by have:=cG x;omega) h0)
theorem Bd.add {x y:Rat} {m n:Nat} (h:Bd x m) (k:Bd y n):Bd (x+y) (m+n+1):=by
 rw[<- ma];refine .divInt ?_ (jV (gW h.2 k.2) (by omega)) (by have:=Int.mul_pos (cG x) (cG y);omega);have h1:=gW h.1 k.2;have h2:=gW k.1 h.2;rw[Nat.add_comm n m]at h2;have h3:=Int.natAbs_add_le (x.num*y.den) (y.num*x.den);rw[Nat.pow_succ];omega
theorem Bd.neg {x:Rat} {n:Nat} (h:Bd x n):Bd (-x) n:=⟨by rw[Rat.neg_num,Int.natAbs_neg];exact h.1,h.2⟩
theorem Bd.szQ {x:Rat} {n:Nat} (h:Bd x n) {k:Nat} (hk:n<=32*k):dy k x:=by
 have e:(4294967296:Nat)^k=2^(32*k):=by rw[show(4294967296:Nat)=2^32 from rfl,<- Nat.pow_mul]
 exact⟨by unfold Sz;rw[e];exact jV h.1 hk,by unfold Sz;rw[e];exact jV h.2 hk⟩
theorem dy.bd {x:Rat} {k:Nat} (h:dy k x):Bd x (32*k):=by
 have e:(4294967296:Nat)^k=2^(32*k):=by rw[show(4294967296:Nat)=2^32 from rfl,<- Nat.pow_mul]
 exact⟨by have:=h.1;unfold Sz at this;rwa[e]at this,by have:=h.2;unfold Sz at this;rwa[e]at this⟩
theorem Ph {k:B4} {m n:Nat} {a b:Rat} {p p':Int} {x:Rat × Int} (h1:Bd a m) (h2:Bd b n) (h:Fh k a p b p'= .ok x):Bd x.1 (m+n+1):=by
 cases k<;>simp only[Fh,q6,vd,yG]at h
 ·split at h<;>cases h;exact h1.add h2
 ·split at h<;>cases h;exact h1.add h2.neg
 ·split at h<;>cases h;exact(h1.mul h2).mono (by omega)
 ·split at h
  ·cases h
  ·split at h<;>cases h
   exact(h1.div h2 (by assumption)).mono (by omega)
mutual
def lS (b:List UInt8->Nat):Rx->Nat
 | .mk _ _ xs _ ys nm args=>min (1+32*(xs.length+ys.length)+(if nm=[]then 0 else 32)+b nm+jC b args) 1048576
def jC (b:List UInt8->Nat):List Rx->Nat
 | []=>0
 |x::r=>lS b x+jC b r
end
def vl:Ex->List (List UInt8)
 | .num _ _=>[]
 | .nam s=>[s]
 | .neg a=>vl a
 | .bin _ a b=>vl a++vl b
def Py (q:Rat) (n:Nat):Prop:=n<1048576->Bd q n
theorem C2 {env:List UInt8->Option (Rat × Int)} {b:List UInt8->Nat}:∀{e:Ex} {x:Rat × Int},b7 env e= .ok x->(∀s∈vl e,∀y,env s=some y->Py y.1 (b s))->Py x.1 (lS b (rx e))
 | .num v u,x,h,_=>by
  intro hw
  have hv:Bd v (32*((digs v.num.natAbs).length+(digs (v.den:Int).natAbs).length)):=by
   have h1:Sz (digs v.num.natAbs).length v.num:=Sz.of_digs (Nat.le_refl _);have h2:Sz (digs (v.den:Int).natAbs).length (v.den:Int):=Sz.of_digs (Nat.le_refl _);exact dy.bd ⟨h1.mono (by omega),h2.mono (by omega)⟩
  simp only[rx,lS,jC]at hw ⊢
  simp only[b7]at h
  split at h
  ·rename_i hu
   cases h;rw[if_pos hu]at hw ⊢;exact hv.mono (by omega)
  ·rename_i hu
   split at h
   ·rename_i q hq
    cases h;rw[if_neg hu]at hw ⊢;have h1:=hv.mul (dy.bd (A6 hq).1);exact h1.mono (by omega)
   ·cases h
 | .nam s,x,h,hb=>by
  intro hw
  simp only[b7]at h
  split at h
  ·rename_i y hy
   cases h
   simp only[rx,lS,jC]at hw ⊢
   exact(hb s (by simp[vl]) _ hy (by omega)).mono (by omega)
  ·cases h
 | .neg a,x,h,hb=>by
  intro hw
  simp only[b7]at h
  split at h
  ·rename_i y hy
   cases h
   simp only[rx,lS,jC]at hw ⊢
   exact(C2 (e:=a) hy hb (by omega)).neg.mono (by omega)
  ·cases h
 | .bin k a c,x,h,hb=>by
  intro hw
  simp only[b7]at h
  split at h
  ·cases h
  ·rename_i y hy
   split at h
   ·cases h
   ·rename_i z hz
    simp only[rx,lS,jC]at hw ⊢
    have h1:=C2 (e:=a) hy (fun s hs=>hb s (List.mem_append_left _ hs)) (by omega);have h2:=C2 (e:=c) hz (fun s hs=>hb s (List.mem_append_right _ hs)) (by omega);exact(Ph h1 h2 h).mono (by omega)
theorem xh {a b:Nat} (h:digs a=digs b):a=b:=by rw[<- ae a,h,ae]
theorem wM:∀{a b:Ex},rx a=rx b->a=b
 | .num v u, .num v' u',h=>by
  simp only[rx,Rx.mk.injEq,decide_eq_decide]at h
  obtain⟨_,h1,h2,_,h3,h4,_⟩:=h;have h2:=xh h2;have h3:=xh h3;have:v=v':=Rat.ext (by omega) (by omega);rw[this,h4]
 | .num _ _, .nam _,h=>by simp[rx]at h
 | .num _ _, .neg _,h=>by simp[rx]at h
 | .num _ _, .bin k _ _,h=>by cases k<;>simp[rx,B4.code]at h
 | .nam _, .num _ _,h=>by simp[rx]at h
 | .nam _, .nam _,h=>by simp[rx]at h;rw[h]
 | .nam _, .neg _,h=>by simp[rx]at h
 | .nam _, .bin k _ _,h=>by cases k<;>simp[rx,B4.code]at h
 | .neg _, .num _ _,h=>by simp[rx]at h
 | .neg _, .nam _,h=>by simp[rx]at h
 | .neg a, .neg b,h=>by simp[rx]at h;rw[wM h]
 | .neg _, .bin k _ _,h=>by cases k<;>simp[rx,B4.code]at h
 | .bin k _ _, .num _ _,h=>by cases k<;>simp[rx,B4.code]at h
 | .bin k _ _, .nam _,h=>by cases k<;>simp[rx,B4.code]at h
 | .bin k _ _, .neg _,h=>by cases k<;>simp[rx,B4.code]at h
 | .bin k a b, .bin k' a' b',h=>by
  simp only[rx,Rx.mk.injEq,List.cons.injEq,and_true,true_and]at h
  obtain⟨h1,h2,h3⟩:=h;have:k=k':=by cases k<;>cases k'<;>first|rfl|simp[B4.code]at h1
  rw[this,wM h2,wM h3]
noncomputable def jD (x:Rx):Ex:= @dite _ (∃e,x=rx e/\lz e) (Classical.propDecidable _) (fun h=>Classical.choose h) (fun _=> .nam [])
theorem vW {e:Ex} (h:lz e):jD (rx e)=e:=by
 have h0:∃e',rx e=rx e'/\lz e':=⟨e,rfl,h⟩;unfold jD;rw[dif_pos h0];exact(wM (Classical.choose_spec h0).1).symm
theorem qW {x:Rx} (h:∃e,x=rx e/\lz e):rx (jD x)=x/\lz (jD x):=by
 obtain⟨e,rfl,hf⟩:=h;rw[vW hf];exact⟨rfl,hf⟩
theorem Dp:∀(e:Ex) (n:L8),n∈eu (rx e)↔n∈vl e
 | .num v u,n=>by simp[rx,eu,fG,vl,eY]
 | .nam s,n=>by simp[rx,eu,fG,vl,eY]
 | .neg a,n=>by simp[rx,eu,fG,vl,eY,Dp a]
 | .bin k a b,n=>by
  have:¬k.code=2:=by cases k<;>decide
  simp[rx,eu,fG,vl,eY,Dp a,Dp b,this]
theorem gC {u v:L8->Option (Rat × Int)}:∀{e:Ex},(∀n∈vl e,u n=v n)->b7 u e=b7 v e
 | .num _ _,_=>rfl
 | .nam s,h=>by simp only[b7,h s (by simp[vl])]
 | .neg a,h=>by simp only[b7,gC (e:=a) h]
 | .bin k a b,h=>by simp only[b7,gC (e:=a) (fun n hn=>h n (List.mem_append_left _ hn)),gC (e:=b) (fun n hn=>h n (List.mem_append_right _ hn))]
def pG:EL->L8->Nat
 | [],_=>0
 |y::r,n=>if Op.bytesLess y.1 n=true then pG r n+1 else 0
def iN (l:EL) (n:L8) (v:Rat × Int):EL:=l.take (pG l n)++(n,v)::l.drop (pG l n)
theorem uX:∀(l:EL) (n:L8),pG l n<=l.length
 | [],_=>Nat.le_refl _
 |y::r,n=>by
  unfold pG
  split
  ·have:=uX r n;simp;omega
  ·exact Nat.zero_le _
theorem It:∀{l:EL} {n:L8} {i:Nat} {x:L8 × (Rat × Int)},i<pG l n->l[i]? =some x->Op.bytesLess x.1 n=true
 | [],n,i,x,_,h=>by simp at h
 |y::r,n,i,x,hi,h=>by
  unfold pG at hi
  split at hi
  ·rename_i hy
   cases i with
   |zero=>simp at h;subst h;exact hy
   |succ i=>exact It (l:=r) (n:=n) (i:=i) (by omega) (by simpa using h)
  ·omega
theorem If:∀{l:EL} {n:L8} {x:L8 × (Rat × Int)},l[pG l n]? =some x->Op.bytesLess x.1 n=false
 | [],n,x,h=>by simp[pG]at h
 |y::r,n,x,h=>by
  unfold pG at h
  split at h
  ·exact If (l:=r) (by simpa using h)
  ·rename_i hy;simp at h;subst h;simpa using hy
theorem qc {l:EL} {n:L8} {v:Rat × Int} {x:L8 × (Rat × Int)}:x∈iN l n v↔x=(n,v)∨x∈l:=by
 unfold iN
 conv=>rhs;rw[<- List.take_append_drop (pG l n) l]
 simp only[List.mem_append,List.mem_cons]
 grind
theorem FI (l:EL) (n:L8) (v:Rat × Int):(iN l n v).length=l.length+1:=by
 have:=uX l n
 simp[iN]
 omega
theorem DJ (y:L8 × (Rat × Int)) (r:EL) (n:L8) (v:Rat × Int):iN (y::r) n v=if Op.bytesLess y.1 n=true then y::iN r n v else(n,v)::y::r:=by
 unfold iN
 conv=>lhs;unfold pG
 split <;>simp
theorem f9 {y:L8 × (Rat × Int)} {r:EL}:fb (y::r)↔(∀x∈r,Op.bytesLess y.1 x.1=true)/\fb r:=by
 constructor
 ·intro h
  refine⟨fun x hx=>?_,fun i j a b hij ha hb=>h (i+1) (j+1) a b (by omega) (by simpa using ha) (by simpa using hb)⟩;obtain⟨i,hi⟩:=List.getElem?_of_mem hx;exact h 0 (i+1) y x (by omega) rfl (by simpa using hi)
 ·rintro⟨h1,h2⟩ i j a b hij ha hb
  cases j with
  |zero=>omega
  |succ j=>
   cases i with
   |zero=>simp at ha;subst ha;exact h1 b (List.mem_of_getElem? (by simpa using hb))
   |succ i=>exact h2 i j a b (by omega) (by simpa using ha) (by simpa using hb)
theorem rc:fb []:=fun i j a b _ h=>by simp at h
theorem oO:∀{l:EL} {n:L8} {v:Rat × Int},fb l->(∀x∈l,x.1≠n)->fb (iN l n v)
 | [],n,v,_,_=>by
  rw[show iN [] n v=[(n,v)] from rfl,f9];exact⟨fun x hx=>absurd hx (by simp),rc⟩
 |y::r,n,v,h,hn=>by
  rw[DJ];rw[f9]at h
  split
  ·rename_i hy
   rw[f9];refine⟨fun x hx=>?_,oO h.2 (fun x hx=>hn x (by simp[hx]))⟩;rcases qc.1 hx with rfl|hx
   ·exact hy
   ·exact h.1 x hx
  ·rename_i hy
   have hy:Op.bytesLess y.1 n=false:=by simpa using hy
   have hny:Op.bytesLess n y.1=true:=by
    cases hb:Op.bytesLess n y.1
    ·exact absurd (j3 hy hb) (hn y (by simp))
    ·rfl
   rw[f9,f9];refine⟨fun x hx=>?_,h⟩;rcases List.mem_cons.1 hx with rfl|hx
   ·exact hny
   ·exact eE hny (h.1 x hx)
theorem H7 {l:EL} (hs:fb l) {n:L8} {v:Rat × Int}:bu l n=some v↔(n,v)∈l:=by
 constructor
 ·intro h
  clear hs
  induction l with
  |nil=>cases h
  |cons y r ih=>
   simp only[bu]at h
   split at h
   ·rename_i e;cases h;subst e;simp
   ·simp[ih h]
 ·intro h
  obtain⟨i,hi⟩:=List.getElem?_of_mem h;exact CK hs hi
def Jr (l:Tb) (n:L8):Rx:=match l[b5 l n]? with
 |some p=>p.2
 |none=> .mk 0 false [] false [] [] []
theorem oS.fx {l:Tb} (h:oS l) {p:Pm} (hp:p∈l):Jr l p.1=p.2:=by
 obtain⟨i,hi⟩:=List.getElem?_of_mem hp;unfold Jr;rw[h.fd hi,hi]
noncomputable def pE (l:Tb):List L8->EL->Except Int EL
 | [],env=> .ok env
 |n::r,env=>match b7 (bu env) (jD (Jr l n))with
  | .ok x=>pE l r (iN env n x)
  | .error e=> .error e
noncomputable def wQ (l:Tb):Except Int EL:=if(bI l).2=0 then pE l (bI l).1 []else .error (bI l).2
inductive Hv (l:Tb):L8->Rat × Int->Prop
 |mk {p:Pm} {x:Rat × Int} (f:L8->Rat × Int):p∈l->(∀n∈vl (jD p.2),Hv l n (f n))->b7 (fun n=>some (f n)) (jD p.2)= .ok x->Hv l p.1 x
theorem Hv.fn {l:Tb} (hl:oS l) {n:L8} {x:Rat × Int} (h:Hv l n x):∀{y:Rat × Int},Hv l n y->x=y:=by
 induction h with
 | @mk p x f hp hf hx ih=>
  intro y hy;generalize hn:p.1=n at hy;cases hy with
  | @mk q _ g hq hg hy=>
   obtain⟨i,hi⟩:=List.getElem?_of_mem hp;obtain⟨j,hj⟩:=List.getElem?_of_mem hq;have:=hl.nd _ _ _ _ hi hj hn;subst this;rw[hi]at hj;cases hj;have:b7 (fun n=>some (f n)) (jD p.2)=b7 (fun n=>some (g n)) (jD p.2):=gC fun n hn=>by rw[ih n hn (hg n hn)]
   rw[this,hy]at hx;exact(Except.ok.inj hx).symm
structure u6 (l:Tb) (done:List L8) (env:EL):Prop where
 so:fb env
 ky:∀n,n∈done ↔ ∃v,(n,v)∈env
 hv:∀x∈env,Hv l x.1 x.2
theorem u6.nil (l:Tb):u6 l [] []:=⟨rc,fun n=>by simp,fun x h=>by cases h⟩
theorem u6.env {l:Tb} {done:List L8} {env:EL} (h:u6 l done env) {n:L8} (hn:n∈done):∃v,bu env n=some v/\Hv l n v:=by
 obtain⟨v,hv⟩:=(h.ky n).1 hn;exact⟨v,(H7 h.so).2 hv,h.hv _ hv⟩
theorem u6.ev {l:Tb} {done:List L8} {env:EL} (h:u6 l done env) {e:Ex} (hn:∀n∈vl e,n∈done):b7 (bu env) e=b7 (fun n=>some ((bu env n).getD (0,0))) e:=gC fun n hm=>by
 obtain⟨v,h1,_⟩:=h.env (hn n hm);rw[h1];rfl
theorem u6.has {l:Tb} {done:List L8} {env:EL} (h:u6 l done env) {p:Pm} (hp:p∈l) {x:Rat × Int} (hn:∀n∈vl (jD p.2),n∈done) (hx:b7 (bu env) (jD p.2)= .ok x):Hv l p.1 x:=by
 rw[h.ev hn]at hx;refine .mk _ hp (fun n hm=>?_) hx;obtain⟨v,h1,h2⟩:=h.env (hn n hm);rw[h1];exact h2
theorem u6.step {l:Tb} {done:List L8} {env:EL} (h:u6 l done env) {p:Pm} (hd:p.1 ∉ done) {x:Rat × Int} (hx:Hv l p.1 x):u6 l (done ++[p.1]) (iN env p.1 x):=by
 have hne:∀y∈env,y.1≠p.1:=fun y hy e=>hd ((h.ky _).2 ⟨y.2,by rw[<- e];exact hy⟩)
 refine⟨oO h.so hne,fun n=>?_,fun y hy=>?_⟩
 ·simp only[List.mem_append,List.mem_singleton,qc,Prod.mk.injEq,h.ky n]
  constructor
  ·rintro(⟨v,hv⟩|rfl)
   ·exact⟨v, .inr hv⟩
   ·exact⟨x, .inl ⟨rfl,rfl⟩⟩
  ·rintro⟨v,⟨rfl,rfl⟩|hv⟩
   ·exact .inr rfl
   ·exact .inl ⟨v,hv⟩
 ·rcases qc.1 hy with rfl|hy
  ·exact hx
  ·exact h.hv y hy
def Ju (l:Tb):Prop:=∀p∈l,∃e,p.2=rx e/\lz e
theorem Ju.ns {l:Tb} (h:Ju l) {p:Pm} (hp:p∈l) (n:L8):n∈vl (jD p.2)↔n∈eu p.2:=by
 have:=(qW (h p hp)).1
 conv=>rhs;rw[<- this]
 exact(Dp _ _).symm
theorem RZ {l:List L8} (h:l.Nodup) {i j:Nat} {a:L8} (hi:l[i]? =some a) (hj:l[j]? =some a):i=j:=by
 obtain⟨h1,e1⟩:=List.getElem?_eq_some_iff.1 hi;obtain⟨h2,e2⟩:=List.getElem?_eq_some_iff.1 hj;have hp:=List.pairwise_iff_getElem.1 (List.nodup_iff_pairwise_ne.1 h);rcases Nat.lt_trichotomy i j with h3|h3|h3
 ·exact absurd (e1.trans e2.symm) (hp i j h1 h2 h3)
 ·exact h3
 ·exact absurd (e2.trans e1.symm) (hp j i h2 h1 h3)
theorem mY.at {l:Tb} (hl:oS l) (hf:Ju l) {o:List L8} (h:mY l o) {k:Nat} {n:L8} (hk:o[k]? =some n):∃p∈l,p.1=n/\Jr l n=p.2/\n ∉ o.take k/\ ∀m∈vl (jD p.2),m∈o.take k:=by
 obtain⟨p,hp,rfl⟩:=h.mem n (List.mem_of_getElem? hk);refine⟨p,hp,rfl,hl.fx hp,fun hn=>?_,fun m hm=>h.up k _ p hk hp rfl m ((hf.ns hp m).1 hm)⟩;obtain⟨i,hi⟩:=List.getElem?_of_mem hn;rw[List.getElem?_take]at hi
 split at hi
 ·have:=RZ h.nd hi hk
  omega
 ·cases hi
theorem CU {l:Tb} (hl:oS l) (hf:Ju l) {o:List L8} (h:mY l o):∀(r:List L8) (k:Nat) (env env':EL),o.drop k=r->u6 l (o.take k) env->pE l r env= .ok env'->u6 l o env'
 | [],k,env,env',hr,hI,he=>by
  cases he
  rwa[List.take_of_length_le (List.drop_eq_nil_iff.1 hr)]at hI
 |n::r,k,env,env',hr,hI,he=>by
  have hk:o[k]? =some n:=by have:=congrArg (·[0]?) hr;simpa using this
  obtain⟨p,hp,rfl,e1,e2,e3⟩:=h.at hl hf hk
  simp only[pE,e1]at he
  split at he
  ·rename_i x hx
   refine CU hl hf h r (k+1) _ env' (by rw[<- List.drop_drop,hr];rfl) ?_ he;rw[bE hk];exact hI.step e2 (hI.has hp e3 hx)
  ·cases he
theorem xf {l:Tb}:∀{r:List L8} {env:EL} {e:Int},pE l r env= .error e->e≠0
 | [],env,e,h=>by cases h
 |n::r,env,e,h=>by
  simp only[pE]at h
  split at h
  ·exact xf h
  ·rename_i e' h';cases h;exact fa h'
theorem Jq {x:Rx} (hx:jN x) (hm:yi x) (h:pT x=0):∃e,x=rx e/\lz e:=by
 refine Pl x hx hm ?_;unfold pT at h;cases hf:qI x
 ·rw[hf]at h;simp at h
 ·rfl
theorem AO {l:Tb} (hf:oS l->Ju l) {env:EL} (h:wQ l= .ok env):oS l/\(bI l).2=0/\fb env/\(∀n,(∃v,(n,v)∈env)↔ ∃p∈l,p.1=n)/\(∀x∈env,Hv l x.1 x.2)/\env.length<=l.length:=by
 unfold wQ at h
 split at h
 ·rename_i h0
  obtain⟨o,ho⟩:∃o,(bI l).1=o:=⟨_,rfl⟩;rw[ho]at h;obtain⟨hl,ht,hn⟩:=mE (l:=l) (o:=o) (by rw[<- ho,<- h0]);have hI:=CU hl (hf hl) ht o 0 [] env (by simp) (u6.nil l) h;refine⟨hl,h0,hI.so,fun n=>?_,hI.hv,?_⟩
  ·rw[<- hI.ky]
   constructor
   ·exact ht.mem n
   ·rintro⟨p,hp,rfl⟩;exact ht.all hn p hp
  ·have hnd:(env.map (·.1)).Nodup:=by
    refine List.nodup_iff_pairwise_ne.2 (List.pairwise_iff_getElem.2 fun i j hi hj hij e=>?_)
    simp only[List.length_map]at hi hj
    simp only[List.getElem_map]at e
    have:=hI.so i j _ _ hij (List.getElem?_eq_getElem hi) (List.getElem?_eq_getElem hj);rw[e,gQ]at this;cases this
   have:=gD (b:=l.map (·.1)) hnd fun x hx=>by
    obtain⟨y,hy,rfl⟩:=List.mem_map.1 hx;obtain⟨p,hp,e⟩:=ht.mem _ ((hI.ky y.1).2 ⟨y.2,hy⟩);exact List.mem_map.2 ⟨p,hp,e⟩
   simpa using this
 ·cases h
end Go.Proofs.YtmkggcjajcdlcaaGreatDoor
