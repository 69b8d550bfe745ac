/- Parts of a proof: contracts of the functions that the laws reach. -/
import Derived.Test.YtnchbpoopnjghaaGreatDoorCZ12
import Derived.Test.YtnchbpoopnjghaaGreatDoorCZ11
set_option maxHeartbeats 100000000
set_option linter.all false
open Go.Proofs.Tryz
namespace Go.Proofs.YtnchbpoopnjghaaGreatDoor
open Go.RowKit
theorem KT {l:Tb} {i:Nat} {p:Pm} (h:l[i]? =some p):aF ((l.take (i+1)).map (·.1))=aF ((l.take i).map (·.1))++[.val (vL p.1)]:=by
 rw[b8 h,List.map_append,mh];rfl
theorem H5 {a:L8}:((Bs a).toList == (ByteArray.mk #[]).toList)=true↔a=[]:=by
 rw[show(ByteArray.mk #[]).toList=[] from ByteArray.toList_mk [],ff]
 simp
theorem Cf {a:L8} (h:¬a=[]):((Bs a).toList == (ByteArray.mk #[]).toList)=false:=by
 cases e:((Bs a).toList == (ByteArray.mk #[]).toList)
 ·rfl
 ·exact absurd (H5.1 e) h
theorem zy (l:Tb) (hs:I4 l) (hl:l.length<=1000):aa Tryz.prog 179 [gK l] (.tup [yO (fE l).1,dN .i64 (fE l).2]):=by
 have cv:=At l hs (by omega)
 by_cases hv:BF l=0
 case neg=>
  rw[show fE l=([],BF l) by unfold fE;rw[if_neg hv]];generalize BF l=z at *;refine kV func179 ?_;refine kC (cv) ?_;refine yH ?_;refine kB true ?_ ?_
  ·exact bne_iff_ne.2 hv
  exact ar
 have ho:=uA hv;rw[hv]at cv;have hord:fE l=if l.all (fun p=>vf p.2 (l.map (·.1)))=true then((match mV l l.length []with|some o=>(o,0)|none=>([],9)):List L8 × Int)else([],4):=by unfold fE;rw[if_pos hv];rfl
 obtain⟨RS,hRS⟩:∃RS,fE l=RS:=⟨_,rfl⟩;rw[hRS]at hord ⊢;clear hRS hv;have hby:∀k,k<=1001->k*16<=140737488355328:=fun k hk=>by omega
 refine kV func179 ?_;refine kQ (cv) ?_;refine ax Nat (fun i=>i<=l.length) (fun i=>⟨[(5,gV 5001 1 9 i),(0, .d (gK l)),(19, .d (gK l)),(20, .d (dN .i64 l.length)),(21, .d (dN .i64 i))],[(5001,gX (aF ((l.take i).map (·.1))) i)]⟩) (fun i=>l.length-i) 0 (Nat.zero_le _) kw ?_;intro i hi;refine kI ?_
 by_cases hil:i<l.length
 ·refine kT ?_
  obtain⟨p,hx⟩:∃p,l[i]? =some p:=⟨l[i],by simp[hil]⟩;obtain⟨o1,na1,xs1,nb1,ys1,nm1,n1,cs1,hA,hB⟩:=eT p;have hat:∀(j:Nat) (a:AV),(eC p.1 o1 na1 xs1 nb1 ys1 nm1 n1 cs1)[j]? =some a->(Ev l)[i*8+j]? =some a:=fun j a h=>j4 l i p hx j a (by rw[hB];exact h)
  have hsn:=KT hx;have hpl:(aF ((l.take i).map (·.1))).length=i*1:=by rw[im,List.length_map,List.length_take];omega
  generalize aF ((l.take i).map (·.1))=O at *;have hst:(⟨[(5,gV 5001 1 9 (i+1)),(0, .d (gK l)),(19, .d (gK l)),(20, .d (dN .i64 l.length)),(21, .d (dN .i64 (i+1:Nat)))],[(5001,gX (aF ((l.take (i+1)).map (·.1))) (i+1))]⟩:AS)=⟨[(5,gV 5001 1 9 (i+1)),(0, .d (gK l)),(19, .d (gK l)),(20, .d (dN .i64 l.length)),(21, .d (dN .i64 (i+1:Nat)))],[(5001,gX (O++[.val (vL p.1)]) (i+1))]⟩:=by rw[hsn]
  refine OM ?_;refine Pk 5002 (J:=5001) (m1:=i) (m2:=1) (cs:=O) (xs:=[.val (vL p.1)]) ac (hby _ (by omega)) hpl rfl rfl rfl rfl rfl rfl rfl rfl rfl rfl rfl rfl rfl rfl rfl rfl rfl ?_;refine kW ?_;refine⟨i+1,hil,by omega,?_⟩;refine Eq.mpr (congrArg (aL _) hst) ?_;exact aL.tr (b:=⟨[(5,gV 5002 1 9 (i+1)),(0, .d (gK l)),(19, .d (gK l)),(20, .d (dN .i64 l.length)),(21, .d (dN .i64 (i+1:Nat)))],[(5002,gX (O++[.val (vL p.1)]) (i+1))]⟩) (weak ⟨rfl,rfl,rfl,rfl,aA (by omega) (by omega),trivial⟩ ⟨rfl,trivial⟩ rfl) ((zI (q:=5) (J:=5002) (J':=5001) rfl rfl rfl).tr kw)
 obtain rfl:i=l.length:=by omega
 rw[List.take_length];clear hi hil;have hAl:l.length=(l.map (·.1)).length:=(List.length_map ..).symm;have hA0:(l.map (·.1)).length<=1000:=by omega
 refine kE ?_;refine uU ?_
 repeat refine bl (T:=TT) ?_
 refine eW (iQ (q:=5) (J:=5001) (m:=l.length) (cs:=aF (l.map (·.1))) (fun h=>by rw[List.eq_nil_of_length_eq_zero h];rfl) rfl rfl) rfl ?_;refine kW ?_;refine ax Nat (fun i=>i<=l.length/\ ∀p∈l.take i,vf p.2 (l.map (·.1))=true) (fun i=>⟨[(5, .d (yO (l.map (·.1)))),(0, .d (gK l)),(31, .d (gK l)),(32, .d (dN .i64 l.length)),(33, .d (dN .i64 i))],[]⟩) (fun i=>l.length-i) 0 ⟨Nat.zero_le _,by simp⟩ (weak ⟨congrArg (fun k=>TV.d (.leaf (.sl k (aF (l.map fun x:Pm=>x.1))))) hAl,rfl,rfl,rfl,rfl,trivial⟩ trivial rfl) ?_;rintro i ⟨hi,hall⟩
 by_cases hil:i<l.length
 ·obtain⟨p,hx⟩:∃p,l[i]? =some p:=⟨l[i],by simp[hil]⟩
  have hp:=List.mem_of_getElem? hx;have cr:=lT p (l.map (·.1)) (hs p hp).2 (by omega);obtain⟨o1,na1,xs1,nb1,ys1,nm1,n1,cs1,hA,hB⟩:=eT p;have hat:∀(j:Nat) (a:AV),(eC p.1 o1 na1 xs1 nb1 ys1 nm1 n1 cs1)[j]? =some a->(Ev l)[i*8+j]? =some a:=fun j a h=>j4 l i p hx j a (by rw[hB];exact h)
  rw[show Ky p= .agg (eC p.1 o1 na1 xs1 nb1 ys1 nm1 n1 cs1) from congrArg DV.agg hB]at cr
  have hstep:vf p.2 (l.map (·.1))=true-> ∀q∈l.take (i+1),vf q.2 (l.map (·.1))=true:=fun h q hq=>by
   rw[b8 hx]at hq;rcases List.mem_append.1 hq with hq|hq
   ·exact hall q hq
   ·rw[List.mem_singleton.1 hq];exact h
  have hbad:vf p.2 (l.map (·.1))=false->RS=([],4):=fun h=>by
   rw[hord,if_neg];intro h2;have:=List.all_eq_true.1 h2 p hp;rw[h]at this;cases this
  generalize vf p.2 (l.map (·.1))=rb at *;generalize l.map (·.1)=A at *;cases rb with
  |true=>
   refine kI ?_;refine kT ?_;refine OM ?_;refine kQ (cr) ?_;exact⟨i+1,⟨hil,hstep rfl⟩,by omega,weak ⟨rfl,rfl,rfl,rfl,aA (by omega) (by omega),trivial⟩ trivial rfl⟩
  |false=>
   refine kI ?_;refine kT ?_;refine OM ?_;refine kC (cr) ?_;refine SW ?_;rw[hbad rfl];rfl
 rw[List.take_of_length_le (by omega)]at hall;have hord:RS=(match mV l l.length []with|some o=>(o,0)|none=>([],9)):=by rw[hord,if_pos (List.all_eq_true.2 hall)]
 clear hall hAl hA0;refine GE ?_;clear hil hi;refine ax (List L8) (fun o=>o.length<=l.length/\mV l (l.length-o.length) o=mV l l.length []) (fun o=>⟨[(10,Ao 6001 o),(0, .d (gK l))],[(6001,EG o)]⟩) (fun o=>l.length-o.length) [] ⟨Nat.zero_le _,rfl⟩ kw ?_;rintro o ⟨hol,hog⟩;have ho1:o.length<=1000000:=by omega
 by_cases hlo:o.length<l.length
 case neg=>
  have hend:RS=(o,0):=by rw[hord,<- hog,show l.length-o.length=0 by omega];rfl
  cases o with
  |nil=>
   refine kI ?_
   refine kO4 ?_
   refine kB false ?_ ?_
   ·exact decide_eq_false (by have:([]:List L8).length=0:=rfl;omega)
   refine SW ?_;rw[hend];rfl
  |cons a r=>
   refine kI ?_
   refine kO4 ?_
   refine kE ?_;refine uU ?_
   repeat refine bl (T:=TT) ?_
   refine eW (bR (q:=10) rfl rfl) rfl ?_;refine SW ?_;rw[hend];rfl
 obtain⟨kk,hkk⟩:∃kk,l.length-o.length=kk+1:=⟨l.length-o.length-1,by omega⟩;rw[hkk,mV]at hog
 have hcont:Eu l o≠[]->mV l (l.length-(o++[Eu l o]).length) (o++[Eu l o])=mV l l.length []:=fun hn=>by
  rw[if_neg hn]at hog;rw[List.length_append,List.length_singleton,show l.length-(o.length+1)=kk by omega];exact hog
 have hcyc:Eu l o=[]->RS=([],9):=fun h=>by rw[if_pos h]at hog;rw[hord,<- hog]
 cases o with
 |nil=>
  refine kI ?_
  refine kO4 ?_
  refine kB true ?_ ?_
  ·exact decide_eq_true (by have:([]:List L8).length=0:=rfl;omega)
  refine kW ?_;refine ax Nat (fun i=>i<=l.length) (fun i=>⟨[(10, .nil),(0, .d (gK l)),(47, .d (gK l)),(48, .d (dN .i64 l.length)),(49, .d (dN .i64 i)),(11, .d (dL ((l.take i).foldl (qM ([])) [])))],[]⟩) (fun i=>l.length-i) 0 (Nat.zero_le _) kw ?_;intro i hi;obtain⟨nx,hnx⟩:∃nx,(l.take i).foldl (qM ([])) []=nx:=⟨_,rfl⟩;rw[hnx]
  by_cases hlt:i<l.length
  ·obtain⟨p,hx⟩:∃p,l[i]? =some p:=⟨l[i],by simp[hlt]⟩
   have hnext:=wa hx hnx;have hp:=List.mem_of_getElem? hx;have hsx:=(hs p hp).2;obtain⟨o1,na1,xs1,nb1,ys1,nm1,n1,cs1,hA,hB⟩:=eT p;have hat:∀(j:Nat) (a:AV),(eC p.1 o1 na1 xs1 nb1 ys1 nm1 n1 cs1)[j]? =some a->(Ev l)[i*8+j]? =some a:=fun j a h=>j4 l i p hx j a (by rw[hB];exact h)
   have c1:=jg ([]) p.1 ho1;have c2:=lT p ([]) hsx ho1;rw[show Ky p= .agg (eC p.1 o1 na1 xs1 nb1 ys1 nm1 n1 cs1) from congrArg DV.agg hB]at c2;have hcd:Dx ([]) p=(!(decide (p.1∈([]:List L8))) && vf p.2 ([])):=rfl
   have keep:Dx ([]) p=false∨(nx≠[]/\Op.bytesLess p.1 nx=false)->nx=(l.take (i+1)).foldl (qM ([])) []:=fun h=>by
    exact NG
   have take:Dx ([]) p=true->(nx=[]∨Op.bytesLess p.1 nx=true)->p.1=(l.take (i+1)).foldl (qM ([])) []:=fun h1 h2=>by
    rw[hnext,qM,if_pos ⟨h1,h2⟩]
   generalize vf p.2 ([])=rb at *
   have hall:decide (p.1∈([]:List L8))=true∨(decide (p.1∈([]:List L8))=false/\rb=false)∨(decide (p.1∈([]:List L8))=false/\rb=true/\nx=[]) ∨
    (decide (p.1∈([]:List L8))=false/\rb=true/\nx≠[]/\Op.bytesLess p.1 nx=false)∨(decide (p.1∈([]:List L8))=false/\rb=true/\nx≠[]/\Op.bytesLess p.1 nx=true):=by
    cases decide (p.1∈([]:List L8))<;>cases rb<;>cases Op.bytesLess p.1 nx<;>by_cases h:nx=[]<;>simp[h]
   rcases hall with hb1| ⟨hb1,rfl⟩| ⟨hb1,rfl,h0⟩| ⟨hb1,rfl,h0,hls⟩| ⟨hb1,rfl,h0,hls⟩
   ·rw[hb1]at c1
    refine kI ?_;refine kT ?_;refine ji ?_;refine kC (c1) ?_;exact MH
   ·rw[hb1]at c1
    refine kI ?_;refine kT ?_;refine ji ?_;refine P4 ?_;exact MH
   ·rw[hb1]at c1
    refine kI ?_;refine kT ?_;refine ji ?_;refine P4 ?_
    refine kO3 ?_
    refine aD rfl rfl rfl rfl rfl rfl rfl (bf (a:=nx) (b:=[]) h0) ?_;refine kW ?_;exact⟨i+1,hlt,by omega,weak ⟨rfl,rfl,rfl,rfl,aA (by omega) (by omega),congrArg (fun z=>TV.d (dL z)) (take (by rw[hcd,hb1];rfl) (.inl h0)),trivial⟩ trivial rfl⟩
   ·rw[hb1]at c1
    refine kI ?_;refine kT ?_;refine ji ?_;refine P4 ?_;refine Kk ?_;exact⟨i+1,hlt,by omega,weak ⟨rfl,rfl,rfl,rfl,aA (by omega) (by omega),congrArg (fun z=>TV.d (dL z)) (keep (.inr ⟨h0,hls⟩)),trivial⟩ trivial rfl⟩
   ·rw[hb1]at c1
    refine kI ?_;refine kT ?_;refine ji ?_;refine P4 ?_;refine Kk ?_;exact⟨i+1,hlt,by omega,weak ⟨rfl,rfl,rfl,rfl,aA (by omega) (by omega),congrArg (fun z=>TV.d (dL z)) (take (by rw[hcd,hb1];rfl) (.inr hls)),trivial⟩ trivial rfl⟩
  ·rw[List.take_of_length_le (by omega)]at hnx
   have hnN:Eu l ([])=nx:=hnx
   by_cases h0:nx=[]
   ·exact G3
   ·rw[hnN]at hcont
    refine GE ?_;refine iR (T:=TT) rfl ?_ ?_
    ·exact(Cf h0)
    refine kW ?_;refine eU 6002 (m1:=([]:List L8).length) (m2:=1) ac (by decide) (Nat.le_trans (Nat.mul_le_mul_right _ (show([]:List L8).length+1<=1000001 by omega)) (by decide)) rfl rfl rfl rfl rfl rfl rfl rfl rfl rfl rfl (.nil rfl rfl) rfl rfl rfl ?_;refine kW ?_;refine⟨([])++[nx],⟨by simp only[List.length_append,List.length_cons,List.length_nil]at hlo ⊢;omega,hcont h0⟩,by simp only[List.length_append,List.length_cons,List.length_nil]at hlo ⊢;omega,Eq.mpr (congrArg (aL _) (AT [(0, .d (gK l))] [] 10 6001 ([]) nx [])) ?_⟩;exact aL.trans (b:=⟨[(10, .own 6002 (([]:List L8).length+1) 1 9),(0, .d (gK l))],[(6002,some ((aF ([])).take (([]:List L8).length*1)++[.val (vL nx)]))]⟩) kw ((aK (q:=10) (j:=6002) (j':=6001) rfl rfl rfl rfl).trans kw)
 |cons a r=>
  refine kI ?_
  refine kO4 ?_
  refine kX ?_;refine ax Nat (fun i=>i<=l.length) (fun i=>⟨[(10, .own 6001 (List.cons a r).length 1 9),(0, .d (gK l)),(47, .d (gK l)),(48, .d (dN .i64 l.length)),(49, .d (dN .i64 i)),(11, .d (dL ((l.take i).foldl (qM (List.cons a r)) [])))],[(6001,some (aF (List.cons a r)))]⟩) (fun i=>l.length-i) 0 (Nat.zero_le _) kw ?_;intro i hi;obtain⟨nx,hnx⟩:∃nx,(l.take i).foldl (qM (List.cons a r)) []=nx:=⟨_,rfl⟩;rw[hnx]
  by_cases hlt:i<l.length
  ·obtain⟨p,hx⟩:∃p,l[i]? =some p:=⟨l[i],by simp[hlt]⟩
   have hnext:=wa hx hnx;have hp:=List.mem_of_getElem? hx;have hsx:=(hs p hp).2;obtain⟨o1,na1,xs1,nb1,ys1,nm1,n1,cs1,hA,hB⟩:=eT p;have hat:∀(j:Nat) (a:AV),(eC p.1 o1 na1 xs1 nb1 ys1 nm1 n1 cs1)[j]? =some a->(Ev l)[i*8+j]? =some a:=fun j a h=>j4 l i p hx j a (by rw[hB];exact h)
   have c1:=jg (List.cons a r) p.1 ho1;have c2:=lT p (List.cons a r) hsx ho1;rw[show Ky p= .agg (eC p.1 o1 na1 xs1 nb1 ys1 nm1 n1 cs1) from congrArg DV.agg hB]at c2;have hcd:Dx (List.cons a r) p=(!(decide (p.1∈(List.cons a r:List L8))) && vf p.2 (List.cons a r)):=rfl
   have keep:Dx (List.cons a r) p=false∨(nx≠[]/\Op.bytesLess p.1 nx=false)->nx=(l.take (i+1)).foldl (qM (List.cons a r)) []:=fun h=>by
    exact NG
   have take:Dx (List.cons a r) p=true->(nx=[]∨Op.bytesLess p.1 nx=true)->p.1=(l.take (i+1)).foldl (qM (List.cons a r)) []:=fun h1 h2=>by
    rw[hnext,qM,if_pos ⟨h1,h2⟩]
   generalize vf p.2 (List.cons a r)=rb at *
   have hall:decide (p.1∈(List.cons a r:List L8))=true∨(decide (p.1∈(List.cons a r:List L8))=false/\rb=false)∨(decide (p.1∈(List.cons a r:List L8))=false/\rb=true/\nx=[]) ∨
    (decide (p.1∈(List.cons a r:List L8))=false/\rb=true/\nx≠[]/\Op.bytesLess p.1 nx=false)∨(decide (p.1∈(List.cons a r:List L8))=false/\rb=true/\nx≠[]/\Op.bytesLess p.1 nx=true):=by
    cases decide (p.1∈(List.cons a r:List L8))<;>cases rb<;>cases Op.bytesLess p.1 nx<;>by_cases h:nx=[]<;>simp[h]
   rcases hall with hb1| ⟨hb1,rfl⟩| ⟨hb1,rfl,h0⟩| ⟨hb1,rfl,h0,hls⟩| ⟨hb1,rfl,h0,hls⟩
   ·rw[hb1]at c1
    refine kI ?_;refine kT ?_;refine ji ?_;refine yj ?_;exact LE
   ·rw[hb1]at c1
    refine yA ?_;exact LE
   ·rw[hb1]at c1
    refine yA ?_
    refine kO3 ?_
    refine aD rfl rfl rfl rfl rfl rfl rfl (bf (a:=nx) (b:=[]) h0) ?_;refine kW ?_;exact⟨i+1,hlt,by omega,weak ⟨rfl,rfl,rfl,rfl,aA (by omega) (by omega),congrArg (fun z=>TV.d (dL z)) (take (by rw[hcd,hb1];rfl) (.inl h0)),trivial⟩ ⟨rfl,trivial⟩ rfl⟩
   ·rw[hb1]at c1
    refine yA ?_;refine Kk ?_;exact⟨i+1,hlt,by omega,weak ⟨rfl,rfl,rfl,rfl,aA (by omega) (by omega),congrArg (fun z=>TV.d (dL z)) (keep (.inr ⟨h0,hls⟩)),trivial⟩ ⟨rfl,trivial⟩ rfl⟩
   ·rw[hb1]at c1
    refine yA ?_;refine Kk ?_;exact⟨i+1,hlt,by omega,weak ⟨rfl,rfl,rfl,rfl,aA (by omega) (by omega),congrArg (fun z=>TV.d (dL z)) (take (by rw[hcd,hb1];rfl) (.inr hls)),trivial⟩ ⟨rfl,trivial⟩ rfl⟩
  ·rw[List.take_of_length_le (by omega)]at hnx
   have hnN:Eu l (List.cons a r)=nx:=hnx
   by_cases h0:nx=[]
   ·exact G3
   ·rw[hnN]at hcont
    refine GE ?_;refine iR (T:=TT) rfl ?_ ?_
    ·exact(Cf h0)
    refine kW ?_;refine eU 6002 (m1:=(List.cons a r:List L8).length) (m2:=1) ac (by decide) (Nat.le_trans (Nat.mul_le_mul_right _ (show(List.cons a r:List L8).length+1<=1000001 by omega)) (by decide)) rfl rfl rfl rfl rfl rfl rfl rfl rfl rfl rfl (.own rfl rfl) rfl rfl rfl ?_;refine kW ?_;refine⟨(List.cons a r)++[nx],⟨by simp only[List.length_append,List.length_cons,List.length_nil]at hlo ⊢;omega,hcont h0⟩,by simp only[List.length_append,List.length_cons,List.length_nil]at hlo ⊢;omega,Eq.mpr (congrArg (aL _) (AT [(0, .d (gK l))] [] 10 6001 (List.cons a r) nx [])) ?_⟩
    exact aL.trans (b:=⟨[(10, .own 6002 ((List.cons a r:List L8).length+1) 1 9),(0, .d (gK l))],[(6002,some ((aF (List.cons a r)).take ((List.cons a r:List L8).length*1)++[.val (vL nx)]))]⟩) kw ((aK (q:=10) (j:=6002) (j':=6001) rfl rfl rfl rfl).trans kw)
theorem vq (l:Tb) (x:Rx) (c2:aa Tryz.prog 132 [gK l] (Ta (xO l))) (hs:I4 l) (hx:DW x) (hvs:(fE l).2=0->PQ l):aa Tryz.prog 95 [gK l,dR x] (Od l x):=by
 have c1:=jA x hx.wd hx.lm (by have:=hx.sz;omega);have he:= @Ln l hs hvs;have hee:= @OT l;have hxo:=Om hx;unfold Od;generalize lZ x=vx at *;generalize xO l=vv at *
 have c3:vx=0-> ∀env,vv= .ok env->aa Tryz.prog 133 [dR x,ig env,jv env] (d9 (bQ (a6 env) (lg x))):=fun h0 env henv=>by
  obtain⟨h1,h2,h3⟩:=he henv;obtain⟨h4,h5,h6⟩:=hxo h0;have:=cu (l:=env) h1 h2 h3 (lg x) h4 h5
  rwa[show dE (lg x)=dR x from congrArg dR h6]at this
 clear he hxo;generalize lg x=ex at *;obtain⟨o1,na1,xs1,nb1,ys1,nm1,n1,cs1,hA⟩:=aM x;rw[show dR x= .agg (ab o1 na1 xs1 nb1 ys1 nm1 n1 cs1) from congrArg DV.agg hA]at *
 by_cases h0:vx=0
 case neg=>
  rw[if_neg h0];refine kV func95 ?_;refine kC (c1) ?_;refine yH ?_;refine kB true ?_ ?_
  ·exact bne_iff_ne.2 h0
  exact ar
 rw[if_pos h0];rw[h0]at c1;cases vv with
 |error e=>
  have hne:=hee rfl;refine kU func95 ?_;refine dm ?_;refine kC (c2) ?_;refine yH ?_;refine kB true ?_ ?_
  ·exact bne_iff_ne.2 hne
  exact ar
 |ok env=>
  have c3:=c3 h0 env rfl;dsimp only;cases hev:bQ (a6 env) ex with
  |error z=>
   exact LZ
  |ok y=>
   exact LZ
theorem Rq (xs:List Nat):LQ (aW xs)=true:=by
 unfold aW LQ
 simp[bU]
theorem K7 (x:QR):St (d9 x)=true:=by
 cases x with
 |error e=>rfl
 |ok y=>
  have h:∀q:Rat,(lB q y.2).all LQ=true:=fun q=>by
   show([AV.val _,aW _,AV.val _,aW _,AV.val _].all LQ)=true
   simp only[List.all_cons,List.all_nil,Rq]
   rfl
  show(PI (.agg (lB y.1 y.2)) && (PI (dN .i64 0) && true))=true;rw[show PI (.agg (lB y.1 y.2))=true from h y.1];rfl
theorem Ol {a b:Nat} {ca cb:List AV} (ha:bC a=false) (hb:bC b=false):∀j cs,(sB [(a,ca),(b,cb)]).bx j=some cs->bC j=false:=fun j cs h=>by
 have e:=bE.1 h
 by_cases h1:j=a
 ·rw[h1];exact ha
 ·by_cases h2:j=b
  ·rw[h2];exact hb
  ·rw[show an [(a,ca),(b,cb)]=[(a,some ca),(b,some cb)] from rfl,aj _ _ (fun h=>h1 h.symm),aj _ _ (fun h=>h2 h.symm)]at e;cases e
theorem OO (env:EL) (n:L8) (v:Rat × Int):nE 1 (aF (env.map (·.1))) (oY env n) [.val (vL n)]=aF ((iH env n v).map (·.1)):=by
 unfold nE iH;rw[Nat.mul_one]
 simp[aF,List.map_take,List.map_drop]
theorem Oy (env:EL) (n:L8) (v:Rat × Int):nE 5 (lO env) (oY env n) (lB v.1 v.2)=lO (iH env n v):=by
 unfold nE iH;rw[wP,x4,Lo,lO,List.append_assoc]
theorem Gv (l:List L8):bt (aF l)=true:=iw fun b hb=>by
 unfold aF at hb;obtain⟨x,_,rfl⟩:=List.mem_map.1 hb;rfl
theorem Pu {env:EL} {i:Nat} (h:env.length=i):ig env= .leaf (.sl i (aF (env.map (·.1)))):=by
 rw[Ps];unfold yO;rw[List.length_map,h]
abbrev Qy (l:Tb) (o:List L8) (i:Nat) (RN RV:List AV):AS:=⟨[(0, .d (gK l)),(23, .d (yO o)),(24, .d (dN .i64 o.length)),(25, .d (dN .i64 i)),(7,gV 5001 1 9 i),(8,gV 5002 5 92 i)],[(5001,gX RN i),(5002,gX RV i)]⟩
theorem Fi {l:Tb} {o:List L8} {i:Nat} {a a' b b':List AV} (h1:a=a') (h2:b=b'):Qy l o i a b=Qy l o i a' b':=by rw[h1,h2]
theorem wK (l:Tb) (hs:I4 l) (hl:l.length<=500) (hvs:(fE l).2=0->PQ l):aa Tryz.prog 132 [gK l] (Ta (xO l)):=by
 have co:=zy l hs (by omega)
 by_cases h0:(fE l).2=0
 case neg=>
  rw[Ir h0];generalize(fE l).2=z at *;generalize(fE l).1=o at *;refine kV func132 ?_;refine kC (co) ?_;refine yH ?_;refine kB true ?_ ?_
  ·exact bne_iff_ne.2 h0
  exact ar
 have hV:=hvs h0;obtain⟨o,ho⟩:∃o,(fE l).1=o:=⟨_,rfl⟩;obtain⟨hok,ht,hn⟩:=Cz (l:=l) (o:=o) (by rw[<- ho,<- h0]);have hf:=hok.fx_of hs;have hvv:xO l=ph l o []:=by unfold xO;rw[if_pos h0,ho]
 rw[hvv];rw[h0,ho]at co;obtain⟨R,hR⟩:∃R,ph l o []=R:=⟨_,rfl⟩;rw[hR];clear hvv hvs h0 ho;refine kV func132 ?_;refine kQ (co) ?_;refine ax (Nat × EL) (fun x=>x.1<=o.length/\vH l (o.take x.1) x.2/\x.2.length=x.1/\ph l (o.drop x.1) x.2=R) (fun x=>Qy l o x.1 (aF (x.2.map (·.1))) (lO x.2)) (fun x=>o.length-x.1) (0,[]) ⟨Nat.zero_le _,by simpa using vH.nil l,rfl,hR⟩ kw ?_;rintro⟨i,env⟩ ⟨hi,hI,hel,hg⟩;dsimp only at hi hI hel hg ⊢;have hnm:=Pu hel;have hvl:jv env= .leaf (.sl i (lO env)):=by unfold jv;rw[hel]
 have hlN:(aF (env.map (·.1))).length=i*1:=by rw[im,List.length_map,hel,Nat.mul_one]
 have hlV:(lO env).length=i*5:=by rw[Bx,hel]
 have hoN:=Gv (env.map (·.1));have hoV:=CI env
 by_cases hil:i<o.length
 case neg=>
  rw[List.drop_of_length_le (by omega),ph]at hg;subst hg;unfold Qy;refine kI ?_;refine kE ?_;refine uU ?_
  repeat refine bl (T:=TT) ?_
  refine eW ((iQ (q:=7) (J:=5001) (m:=i) (cs:=aF (env.map (·.1))) (fun h=>by rw[List.eq_nil_of_length_eq_zero (hel.trans h)];rfl) rfl rfl).tr (iQ (q:=8) (J:=5002) (m:=i) (cs:=lO env) (fun h=>by rw[List.eq_nil_of_length_eq_zero (hel.trans h)];rfl) rfl rfl)) rfl ?_;refine SW ?_;show RV.tup _=RV.tup [ig env,jv env,_];rw[hnm,hvl];rfl
 obtain⟨nm,hx⟩:∃x,o[i]? =some x:=⟨o[i],by simp[hil]⟩;obtain⟨p,hp,hpn,hfx,hnd,hdep⟩:=ht.at hok hf hx;obtain⟨k,hk⟩:=List.getElem?_of_mem hp;have hkl:=(List.getElem?_eq_some_iff.1 hk).1;have cf:=rC l nm (by omega);rw[show PA l nm=(k:Nat) by unfold PA;rw[<- hpn,hok.fd hk,if_pos hkl]]at cf;obtain⟨e1,e2,e3⟩:=Pf hs hok hp;have ce:=cu hI.so (l:=env) (by omega) (fun x hx=>hV.hv _ _ (hI.hv x hx)) (lg p.2) e1 e2;rw[show dE (lg p.2)=dR p.2 from congrArg dR e3]at ce;rw[show o.drop i=nm::o.drop (i+1) by obtain⟨h,e⟩:=List.getElem?_eq_some_iff.1 hx;rw[List.drop_eq_getElem_cons h,e],ph,hfx]at hg;have hne:∀y∈env,y.1≠nm:=fun y hy e=>hnd ((hI.ky nm).2 ⟨y.2,by rw[<- e];exact hy⟩)
 have cb:=R3 env hI.so (by omega) nm hne;have hps:=uo env nm;have hIs:= @vH.step l (o.take i) env hI p (by rw[hpn];exact hnd);have hIh:=fun x=> @vH.has l (o.take i) env hI p hp x hdep
 obtain⟨o1,na1,xs1,nb1,ys1,nm1,n1,cs1,hA,hB⟩:=eT p;have hat:∀(j:Nat) (a:AV),(eC p.1 o1 na1 xs1 nb1 ys1 nm1 n1 cs1)[j]? =some a->(Ev l)[k*8+j]? =some a:=fun j a h=>j4 l k p hk j a (by rw[hB];exact h)
 rw[show dR p.2= .agg (ab o1 na1 xs1 nb1 ys1 nm1 n1 cs1) from congrArg DV.agg hA]at ce;have hwd:=K7 (bQ (a6 env) (lg p.2));have hins:=OO env nm;have hivs:=Oy env nm
 have hnext:∀x:Rat × Int,bQ (a6 env) (lg p.2)= .ok x->vH l (o.take (i+1)) (iH env nm x):=fun x hev=>by
  have hI':=hIs (hIh x hev);rw[hpn,<- b8 hx]at hI';exact hI'
 have hnl:∀x:Rat × Int,(iH env nm x).length=i+1:=fun x=>by rw[EQ,hel]
 clear hIs hIh hI hdep hnd hne;rw[hnm]at ce cb;rw[hvl]at ce;rw[hel]at hps;cases i with
 |zero=>
  rw[show aF (env.map (·.1))=[] by rw[List.eq_nil_of_length_eq_zero hel];rfl]at ce cb hins;rw[show lO env=[] by rw[List.eq_nil_of_length_eq_zero hel];rfl]at ce hivs
  refine Lk ?_;cases hev:bQ (a6 env) (lg p.2)with
  |error z=>
   have hz:=eq hev;rw[hev]at ce hg hwd;dsimp only at hg;subst hg;refine kQ (ce) ?_;refine gL (T:=TT) rfl ?_ ?_
   ·exact bne_iff_ne.2 hz
   exact ar
  |ok x=>
   rw[hev]at ce hg hwd;dsimp only at hg;have hI':=hnext x hev;have hins:=hins x;have hivs:=hivs x;have hnl:=hnl x;rw[show oY env nm=0 by omega]at cb hins hivs;refine kQ (ce) ?_;refine kC (cb) ?_;refine Nj ?_;refine pI ((IY [.val (vL nm)] rfl rfl).swap 902 13003 rfl) rfl rfl rfl rfl rfl ⟨rfl,trivial⟩ rfl rfl rfl rfl ?_
   refine kO3 ?_
   refine Bo 13008 (cs:=lB x.1 x.2) ac rfl rfl rfl rfl rfl rfl rfl rfl rfl rfl rfl rfl rfl ?_;refine pI (((Ij (lB x.1 x.2) rfl rfl).swap 902 13008 rfl).swap 1003 1013 rfl) rfl rfl rfl rfl rfl ⟨rfl,trivial⟩ rfl rfl rfl rfl ?_;refine kW ?_;refine⟨(0+1,iH env nm x),⟨hil,hI',hnl,hg⟩,by dsimp only;omega,Eq.mpr (congrArg (aL _) (Fi (i:=0+1) hins.symm hivs.symm)) ?_⟩;exact aL.tr (b:=⟨[(7, .own 1003 (0+1) 1 9),(8, .own 1013 (0+1) 5 92),(0, .d (gK l)),(23, .d (yO o)),(24, .d (dN .i64 o.length)),(25, .d (dN .i64 (0+1:Nat)))],[(1003,some _),(1013,some _)]⟩) (weak ⟨rfl,rfl,rfl,rfl,rfl,aA (by omega) (by omega),trivial⟩ ⟨rfl,rfl,trivial⟩ rfl) (((aK (q:=7) (j:=1003) (j':=5001) rfl rfl rfl rfl).tr (aK (q:=8) (j:=1013) (j':=5002) rfl rfl rfl rfl)).tr kw)
 |succ i=>
  skip
  refine Lk ?_;cases hev:bQ (a6 env) (lg p.2)with
  |error z=>
   have hz:=eq hev;rw[hev]at ce hg hwd;dsimp only at hg;subst hg;refine P9 ?_;refine gL (T:=TT) rfl ?_ ?_
   ·exact bne_iff_ne.2 hz
   exact ar
  |ok x=>
   rw[hev]at ce hg hwd;dsimp only at hg;have hI':=hnext x hev;have hins:=hins x;have hivs:=hivs x;have hnl:=hnl x
   skip
   refine P9 ?_;refine mE ((cb.rd (ts:=[.own 5001 (i+1) 1 9, .d (dL nm)]) (b:=[(5001,aF (env.map (·.1)))]) rfl rfl)) rfl rfl rfl rfl rfl ⟨rfl,trivial⟩ rfl rfl rfl rfl ?_;refine Nj ?_;refine pI (((JH (m:=i+1) (i:=oY env nm) (x:=[.val (vL nm)]) hps (by omega) (by omega) hlN rfl hoN rfl).swap 901 5001 rfl).swap 902 13003 rfl) rfl rfl rfl rfl rfl ⟨rfl,rfl,trivial⟩ rfl rfl rfl rfl ?_
   refine kO3 ?_
   refine Bo 13008 (cs:=lB x.1 x.2) ac rfl rfl rfl rfl rfl rfl rfl rfl rfl rfl rfl rfl rfl ?_;refine pI ((((Ji (m:=i+1) (i:=oY env nm) (x:=lB x.1 x.2) hps (by omega) (by omega) hlV rfl hoV rfl).swap 901 5002 rfl).swap 902 13008 rfl).swap 1003 1013 rfl) rfl rfl rfl rfl rfl ⟨rfl,rfl,trivial⟩ rfl rfl rfl rfl ?_;refine kW ?_;refine⟨(i+1+1,iH env nm x),⟨hil,hI',hnl,hg⟩,by dsimp only;omega,Eq.mpr (congrArg (aL _) (Fi (i:=i+1+1) hins.symm hivs.symm)) ?_⟩
   exact aL.tr (b:=⟨[(7, .own 1003 (i+1+1) 1 9),(8, .own 1013 (i+1+1) 5 92),(0, .d (gK l)),(23, .d (yO o)),(24, .d (dN .i64 o.length)),(25, .d (dN .i64 (i+1+1:Nat)))],[(1003,some _),(1013,some _)]⟩) (weak ⟨rfl,rfl,rfl,rfl,rfl,aA (by omega) (by omega),trivial⟩ ⟨rfl,rfl,trivial⟩ rfl) (((aK (q:=7) (j:=1003) (j':=5001) rfl rfl rfl rfl).tr (aK (q:=8) (j:=1013) (j':=5002) rfl rfl rfl rfl)).tr kw)
def Rc (v:Nat):QR->Except Int Rat
 | .error e=> .error e
 | .ok y=>if v=3 then(if y.2=0 then .ok y.1 else .error 8)else if y.2=0∨y.2=1 then(if v=2/\PR y.1<=0 then .error 6 else .ok y.1)else .error 8
def PF:Except Int Rat->RV
 | .error e=> .tup [F9,dN .i64 e]
 | .ok q=> .tup [dQ q,dN .i64 0]
theorem KA (q:Rat) (p:Int):d9 (.ok (q,p))= .tup [uw q p,dN .i64 0]:=rfl
theorem JD (e:Int):d9 (.error e)= .tup [Ar,dN .i64 e]:=rfl
theorem qO {r:Kd} {l:Tb} {x:Rx} {E:QR} (cE:aa Tryz.prog 95 [gK l,dR x] (d9 E)) (hE:∀e,E= .error e->e≠0) (hk:∀y,E= .ok y-> ∃k,k<=2147483640/\dJ k y.1) (hv:r.v=1∨r.v=2∨r.v=3):
 aa Tryz.prog 56 [.agg (PJ r),gK l,dR x] (PF (Rc r.v E)):=by
 obtain⟨o1,na1,xs1,nb1,ys1,nm1,n1,cs1,hX⟩:=aM x;rw[show dR x= .agg (ab o1 na1 xs1 nb1 ys1 nm1 n1 cs1) from congrArg DV.agg hX]at cE ⊢;obtain⟨rn,rp,rc,rm,v,rq,rs⟩:=r;dsimp only at hv ⊢;cases E with
 |error e=>
  have he:=hE e rfl;rw[JD]at cE;unfold Rc PF;dsimp only;rcases hv with rfl|rfl|rfl
  all_goals
   refine kV func56 ?_;refine kC (cE) ?_;refine kG ?_;refine kO ?_;refine kB true ?_ ?_
   ·exact bne_iff_ne.2 he
   exact kF
 |ok y=>
  obtain⟨k,hk1,hk2⟩:=hk y rfl;obtain⟨q,p⟩:=y;rw[KA]at cE;have cS:=np q;unfold Rc PF;dsimp only;rcases hv with rfl|rfl|rfl
  rotate_left 2
  ·rw[if_pos rfl]
   by_cases h0:p=0
   ·rw[if_pos h0]
    refine kV func56 ?_;refine kC (cE) ?_
    iterate 3 refine kG ?_
    refine kO2 ?_
    refine kB false ?_ ?_
    ·exact(by simp[h0])
    exact ar
   ·rw[if_neg h0]
    refine kV func56 ?_;refine kC (cE) ?_
    iterate 3 refine kG ?_
    refine kO2 ?_
    refine kB true ?_ ?_
    ·exact(by simp[h0])
    exact ar
  ·rw[if_neg (by decide)]
   by_cases hp1:p=0∨p=1
   ·rw[if_pos hp1,if_neg (fun h=>by cases h.1)]
    have cL:=ls hk2 hk1 hp1;refine GN ?_;exact ar
   ·rw[if_neg hp1]
    have cL:=mA (a:=q) hp1;refine GN ?_;exact ar
  ·rw[if_neg (by decide)]
   by_cases hp1:p=0∨p=1
   ·have cL:=ls hk2 hk1 hp1
    rw[if_pos hp1]
    by_cases hs:PR q<=0
    ·rw[if_pos ⟨rfl,hs⟩]
     refine GN ?_;refine kW ?_;refine kC (cS) ?_;refine kB true ?_ ?_
     ·exact decide_eq_true hs
     exact ar
    ·rw[if_neg (fun h=>hs h.2)]
     refine GN ?_;refine kW ?_;refine kC (cS) ?_;refine kB false ?_ ?_
     ·exact decide_eq_false hs
     exact ar
   ·rw[if_neg hp1]
    have cL:=mA (a:=q) hp1;refine GN ?_;exact ar
def I2 (l:List Rat):List AV:=l.flatMap aQ
theorem Kl (l:List Rat):(I2 l).length=l.length*4:=by
 induction l with
 |nil=>rfl
 |cons a r ih=>
  show(aQ a++I2 r).length=_;rw[List.length_append,ih,List.length_cons];show 4+_=_;omega
def qV (l:List Rat):TV:=match l with
 | []=> .nil
 |a::r=> .own 7001 (a::r).length 4 38
def qX (l:List Rat):Option (List AV):=match l with
 | []=>none
 |a::r=>some (I2 (a::r))
theorem Fu (l:List Rat) (x:Rat):qV (l++[x])= .own 7001 (l.length+1) 4 38:=by cases l<;>simp[qV]
theorem FI (l:List Rat) (x:Rat):qX (l++[x])=some ((I2 l).take (l.length*4)++aQ x):=by
 have h:(I2 l).take (l.length*4)=I2 l:=List.take_of_length_le (Nat.le_of_eq (Kl l));rw[h];cases l<;>simp[qX,I2]
def vW (f:Rx->Except Int Rat):List Rx->Except Int (List Rat)
 | []=> .ok []
 |x::r=>match f x with
  | .error e=> .error e
  | .ok q=>match vW f r with
   | .error e=> .error e
   | .ok qs=> .ok (q::qs)
def S4:Except Int (List Rat)->RV
 | .error e=> .tup [.leaf (.sl 0 []),dN .i64 e]
 | .ok qs=> .tup [.leaf (.sl qs.length (I2 qs)),dN .i64 0]
theorem BQ {f:Rx->Except Int Rat} {x:Rx} {e:Int} (hf:f x= .error e):∀(pre post:List Rx) (qs:List Rat),vW f pre= .ok qs->vW f (pre++x::post)= .error e
 | [],post,qs,_=>by rw[List.nil_append,vW,hf]
 |a::r,post,qs,h=>by
  rw[vW]at h;rw[List.cons_append,vW];cases ha:f a with
  |error e=>rw[ha]at h;cases h
  |ok q=>
   rw[ha]at h;dsimp only at h ⊢;cases hr:vW f r with
   |error e=>rw[hr]at h;cases h
   |ok qs'=>rw[BQ hf r post qs' hr]
theorem yy {f:Rx->Except Int Rat} {x:Rx} {q:Rat} (hf:f x= .ok q):∀(pre:List Rx) (qs:List Rat),vW f pre= .ok qs->vW f (pre++[x])= .ok (qs++[q])
 | [],qs,h=>by
  cases h;rw[List.nil_append,vW,hf];rfl
 |a::r,qs,h=>by
  rw[vW]at h;rw[List.cons_append,vW];cases ha:f a with
  |error e=>rw[ha]at h;cases h
  |ok q'=>
   rw[ha]at h;dsimp only at h ⊢;cases hr:vW f r with
   |error e=>rw[hr]at h;cases h
   |ok qs'=>
    rw[hr]at h;cases h;rw[yy hf r qs' hr];rfl
theorem oS {c:Cn} {r:Kd} {l:Tb} (hr:nh c.k=some r) (cV:aa Tryz.prog 17 [dC c,dN .i64 200,dN .i64 200] (.one (dB true))) (h3:c.vs.length<=1000000) (f:Rx->Except Int Rat)
 (cE:∀x∈c.vs,aa Tryz.prog 56 [.agg (PJ r),gK l,dR x] (PF (f x))) (hE:∀x∈c.vs,∀e,f x= .error e->e≠0):aa Tryz.prog 22 [dC c,gK l] (S4 (vW f c.vs)):=by
 have cS:=mP c.k;rw[hr]at cS;obtain⟨k,ps,cs,vs,s⟩:=c;dsimp only at *;show aa Tryz.prog _ [.agg (cC k ps cs vs s),gK l] _;have cV:aa Tryz.prog 17 [.agg (cC k ps cs vs s),dN .i64 200,dN .i64 200] (.one (dB true)):=cV;have cS:aa Tryz.prog 30 [dN .i64 k] (.tup [.agg (PJ r),dB true]):=cS;obtain⟨nm,rp,rc,rn,rv,rq,rs⟩:=r;generalize hA:(Nat.beq rv 1 || Nat.beq rv 2)=b1;generalize hB:Nat.beq rv 2=b2;have hsh:PJ ⟨nm,rp,rc,rn,rv,rq,rs⟩=[.val (.int .i64 rp), .val (.int .i64 rc), .val (.int .i64 rn), .val (.int .i64 rq), .val (.bool rs), .val (.bool b1), .val (.bool b2)]:=by rw[<- hA,<- hB];rfl
 rw[hsh]at cS cE;refine kV func22 ?_;refine kQ (cV) ?_;refine kQ (cS) ?_;refine ax (Nat × List Rat) (fun x=>x.1<=vs.length/\vW f (vs.take x.1)= .ok x.2/\x.2.length<=x.1) (fun x=>⟨[(8,qV x.2),(1, .d (gK l)),(6, .box 3006 0),(23, .d (.leaf (.sl vs.length (eE vs)))),(24, .d (dN .i64 vs.length)),(25, .d (dN .i64 x.1))],[(7001,qX x.2),(3006,some [.val (.int .i64 rp), .val (.int .i64 rc), .val (.int .i64 rn), .val (.int .i64 rq), .val (.bool rs), .val (.bool b1), .val (.bool b2)])]⟩) (fun x=>vs.length-x.1) (0,[]) ⟨Nat.zero_le _,rfl,Nat.le_refl _⟩ kw ?_;rintro⟨i,qs⟩ ⟨hi,hq,hql⟩;dsimp only at hi hq hql ⊢
 by_cases hlt:i<vs.length
 ·obtain⟨x,hx⟩:∃x,vs[i]? =some x:=⟨vs[i],by simp[hlt]⟩
  have hm:=List.mem_of_getElem? hx;have c1:=cE x hm;have hat:=eu vs i x hx;have hne:=hE x hm
  have hsp:vs=vs.take i++x::vs.drop (i+1):=by
   have:=(List.take_append_drop i vs).symm
   rwa[List.drop_eq_getElem_cons hlt,show vs[i]=x by rw[List.getElem?_eq_getElem hlt]at hx;exact Option.some.inj hx]at this
  obtain⟨o1,na1,xs1,nb1,ys1,nm1,n1,cs1,hX⟩:=aM x;rw[show dR x= .agg (ab o1 na1 xs1 nb1 ys1 nm1 n1 cs1) from congrArg DV.agg hX]at c1;rw[hX]at hat;cases hf:f x with
  |error e=>
   have he:=hne e hf;have hv:vW f vs= .error e:=by rw[hsp];exact BQ hf _ _ qs hq
   rw[hv];rw[hf]at c1;unfold PF at c1;dsimp only at c1;cases qs
   all_goals
    refine kI ?_;refine kX ?_;refine aP (i:=i) (cs':=ab o1 na1 xs1 nb1 ys1 nm1 n1 cs1) hlt hat (Nat.zero_lt_succ 6) rfl rfl rfl rfl rfl rfl rfl rfl ?_;refine kW ?_;refine kC (c1) ?_;refine kG ?_;refine kO ?_;refine kB true ?_ ?_
    ·exact bne_iff_ne.2 he
    exact kF
  |ok q=>
   have hs2:vW f (vs.take (i+1))= .ok (qs++[q]):=by rw[b8 hx];exact yy hf _ qs hq
   rw[hf]at c1;unfold PF at c1;dsimp only at c1;cases qs with
   |nil=>
    refine kI ?_;refine kT ?_;refine uX ?_;refine dm ?_;refine eU 7003 (m1:=0) (m2:=1) ac (by decide) (by show(0+1)*64<=_;omega) rfl rfl rfl rfl rfl rfl rfl rfl rfl rfl rfl (.nil rfl rfl) rfl rfl rfl ?_;refine kW ?_;refine⟨(i+1,([]:List Rat)++[q]),⟨hlt,hs2,by rw[List.length_append];exact Nat.succ_le_succ hql⟩,by dsimp only;omega,?_⟩;show aL _ ⟨[(8,qV (([]:List Rat)++[q])),(1, .d (gK l)),(6, .box 3006 0),(23, .d (.leaf (.sl vs.length (eE vs)))),(24, .d (dN .i64 vs.length)),(25, .d (dN .i64 (i+1:Nat)))],[(7001,qX (([]:List Rat)++[q])),(3006,some [.val (.int .i64 rp), .val (.int .i64 rc), .val (.int .i64 rn), .val (.int .i64 rq), .val (.bool rs), .val (.bool b1), .val (.bool b2)])]⟩;rw[Fu,FI]
    exact aL.trans (b:=⟨[(8, .own 7003 (([]:List Rat).length+1) 4 38),(1, .d (gK l)),(6, .box 3006 0),(23, .d (.leaf (.sl vs.length (eE vs)))),(24, .d (dN .i64 vs.length)),(25, .d (dN .i64 (i+1:Nat)))],[(7003,some ((I2 ([]:List Rat)).take (([]:List Rat).length*4)++aQ q)),(3006,some [.val (.int .i64 rp), .val (.int .i64 rc), .val (.int .i64 rn), .val (.int .i64 rq), .val (.bool rs), .val (.bool b1), .val (.bool b2)])]⟩) (weak ⟨rfl,rfl,rfl,rfl,rfl,aA (by omega) (by omega),trivial⟩ ⟨rfl,rfl,trivial⟩ rfl) ((aK (q:=8) (j:=7003) (j':=7001) (m:=([]:List Rat).length+1) (k:=4) (e:=38) rfl rfl rfl rfl).trans kw)
   |cons q0 qr=>
    have hml:(q0::qr).length<=1000000:=by omega
    refine kI ?_;refine kT ?_;refine uX ?_;refine dm ?_;refine eU 7003 (m1:=(q0::qr).length) (m2:=1) ac (by decide) (by show((q0::qr).length+1)*64<=_;omega) rfl rfl rfl rfl rfl rfl rfl rfl rfl rfl rfl (.own rfl rfl) rfl rfl rfl ?_;refine kW ?_;refine⟨(i+1,(q0::qr)++[q]),⟨hlt,hs2,by rw[List.length_append];exact Nat.succ_le_succ hql⟩,by dsimp only;omega,?_⟩;show aL _ ⟨[(8,qV ((q0::qr)++[q])),(1, .d (gK l)),(6, .box 3006 0),(23, .d (.leaf (.sl vs.length (eE vs)))),(24, .d (dN .i64 vs.length)),(25, .d (dN .i64 (i+1:Nat)))],[(7001,qX ((q0::qr)++[q])),(3006,some [.val (.int .i64 rp), .val (.int .i64 rc), .val (.int .i64 rn), .val (.int .i64 rq), .val (.bool rs), .val (.bool b1), .val (.bool b2)])]⟩;rw[Fu,FI]
    exact aL.trans (b:=⟨[(8, .own 7003 ((q0::qr:List Rat).length+1) 4 38),(1, .d (gK l)),(6, .box 3006 0),(23, .d (.leaf (.sl vs.length (eE vs)))),(24, .d (dN .i64 vs.length)),(25, .d (dN .i64 (i+1:Nat)))],[(7003,some ((I2 (q0::qr)).take ((q0::qr:List Rat).length*4)++aQ q)),(3006,some [.val (.int .i64 rp), .val (.int .i64 rc), .val (.int .i64 rn), .val (.int .i64 rq), .val (.bool rs), .val (.bool b1), .val (.bool b2)])]⟩) (weak ⟨rfl,rfl,rfl,rfl,rfl,aA (by omega) (by omega),trivial⟩ ⟨rfl,rfl,trivial⟩ rfl) ((aK (q:=8) (j:=7003) (j':=7001) (m:=(q0::qr:List Rat).length+1) (k:=4) (e:=38) rfl rfl rfl rfl).trans kw)
 ·rw[List.take_of_length_le (by omega)]at hq
  rw[hq];cases qs with
  |nil=>
   refine kI ?_;refine kE ?_;exact ar
  |cons q0 qr=>
   refine kI ?_;refine kE ?_;refine uU ?_;refine kI ?_;refine Cy ac rfl rfl rfl rfl (bR (q:=44) rfl rfl) ?_;exact ar
theorem SU:fmt 5=[53]:=by
 unfold fmt;rw[if_neg (by decide),if_neg (by decide)];show []++nH 5=_;rw[fy (by decide)];show []++(nH 0++[dg 5])=_;rw[eV];rfl
theorem Q5:fmt 0=[48]:=rfl
theorem Te:g8 ((5:Int):Rat)=some [53]:=by
 unfold g8;rw[if_neg (by decide),li,if_pos (by rfl),show(pw ((5:Int):Rat) 0).num=5 from rfl,SU];rfl
def sX:Ex:= .bin .div (.nam [119]) (.num ((2:Int):Rat) [])
def uO:Ex:= .num ((5:Int):Rat) [99,109]
theorem Qt:bK sX 0=[119,32,47,32,50]:=by
 show bK (.nam [119]) 2++ni .div++xC 4 3 (KE ((2:Int):Rat)++qY [])=_;unfold KE;rw[Sm];rfl
theorem QV (z:Int) (h:z.natAbs<4294967296):dJ 1 (z:Rat):=⟨Sz.small h,Sz.small (by show(1:Int).natAbs<_;decide)⟩
theorem J9:pg sX:=⟨show o0 [119]=true by decide,by rw[Sm];rfl,(QV 2 (by decide)).mono (by decide), .inl rfl⟩
theorem QC:pg uO:=⟨by rw[Te];rfl,(QV 5 (by decide)).mono (by decide), .inr (by decide)⟩
theorem qH {n:Nat} (h:n<4294967296):(digs n).length<=8:=Nat.le_trans (a8 (k:=1) (by simpa using h)) (by decide)
theorem Bp (v:Rat) (u:List UInt8) (hu:u.length<=60):nj (rx (.num v u)):= .mk (by decide) (by decide) (aH _) (aH _) (by omega) (by simp) (fun x hx=>by cases hx)
theorem Jk (u:List UInt8) (hu:u.length<=60):nj (rx (.nam u)):= .mk (by decide) (by decide) gW gW (by omega) (by simp) (fun x hx=>by cases hx)
theorem Pg:nj (rx sX):= .mk (by decide) (by decide) gW gW (by decide) (by decide) (fun x hx=>by
 rcases List.mem_cons.1 hx with rfl|hx
 ·exact Jk _ (by decide)
 ·cases List.mem_singleton.1 hx;exact Bp _ _ (by decide))
theorem Sx:nj (rx uO):=Bp _ _ (by decide)
theorem E2 {e:Ex} (h1:pg e) (h2:nj (rx e)) (h4:yJ (rx e)<=40) (hlt:pJ (rx e)=true) (hsz:ib (rx e)<=120):DW (rx e)/\lZ (rx e)=0:=by
 refine⟨⟨h2,hlt,hsz⟩,?_⟩;unfold lZ;rw[if_pos (uz e h1),if_pos h4]
theorem wW:DW (rx sX)/\lZ (rx sX)=0:=E2 J9 Pg (by decide) (by
 have h1:(digs 2).length<=8:=qH (by decide);have h2:(digs 1).length<=8:=qH (by decide);have h0:(digs 0).length<=8:=qH (by decide)
 simp[sX,rx,pJ,nC]
 exact⟨h1,h2⟩) (by simp[sX,rx,ib,eR])
theorem QO:DW (rx uO)/\lZ (rx uO)=0:=E2 QC Sx (by decide) (by
 have h1:(digs 5).length<=8:=qH (by decide);have h2:(digs 1).length<=8:=qH (by decide)
 simp[uO,rx,pJ,nC]
 exact⟨h1,h2⟩) (by simp[uO,rx,ib,eR])
def c5:Cn:=⟨2,[0,1],[],[rx sX],0⟩
def d5:Cn:=⟨17,[],[0,2],[],-1⟩
def s5:L8:=[116,97,110,103,101,110,116,99,105,114,99,108,101,32,99,48,32,99,50,32,105,110,115,105,100,101]
theorem QI:yZ c5 200 200=true:=by
 rw[gn (r:=⟨[100,105,115,116,97,110,99,101],2,0,1,2,1,false⟩) (by rfl)]
 simp[c5,wW.2]
 decide
theorem QS:yZ d5 200 200=true:=by decide
def r5:Kd:=⟨[100,105,115,116,97,110,99,101],2,0,1,2,1,false⟩
def Nw:Kd:=⟨[116,97,110,103,101,110,116,99,105,114,99,108,101],0,2,0,0,1,true⟩
theorem Kq5:nh c5.k=some r5:=by rfl
theorem SM:nh d5.k=some Nw:=by rfl
theorem V5:Sb c5 r5 200 200:=by
 obtain⟨r,h⟩:=Ck.1 QI;have:=h.k;rw[Kq5]at this;cases this;exact h
theorem Tl:Sb d5 Nw 200 200:=by
 obtain⟨r,h⟩:=Ck.1 QS;have:=h.k;rw[SM]at this;cases this;exact h
def t5:L8:=[100,105,115,116,97,110,99,101,32,112,48,32,112,49,32,61,32,119,32,47,32,50]
theorem SY:Ez r5 c5 [[119,32,47,32,50]]=t5:=by
 have h:R5 r5 c5=[r5.nm,[112,48],[112,49]]:=by
  show [r5.nm,112::fmt 0,112::fmt 1]=_;rw[Q5,SF]
 unfold Ez;rw[h];rfl
theorem P3:Ez Nw d5 []=s5:=by
 have h:R5 Nw d5=[Nw.nm,[99,48],[99,50],[105,110,115,105,100,101]]:=by
  show [Nw.nm,99::fmt 0,99::fmt 2,[105,110,115,105,100,101]]=_;rw[Q5,QB]
 unfold Ez;rw[h];rfl
def T5:Tb:=[([119],rx uO)]
theorem Gi:I4 T5:=fun p hp=>by
 cases List.mem_singleton.1 hp;exact⟨by decide,QO.1⟩
theorem Mz:BF T5=0:=by
 have hn:o0 [119]=true:=by decide
 simp[BF,GW,T5,QO.2,hn]
theorem Rw:oo (rx uO)=[]:=by simp[uO,rx,oo,fH,jD]
theorem OI:fE T5=([[119]],0):=by
 have h1:Eu T5 []=[119]:=by simp[Eu,T5,qM,Dx,vf,Rw]
 have h3:mV T5 T5.length []=some [[119]]:=by
  show mV T5 1 []=_;rw[mV,h1,if_neg (by decide)];rfl
 unfold fE;rw[if_pos Mz,if_pos (by simp[T5,vf,Rw]),h3]
theorem O4:PK [99,109]=some ((10:Int):Rat):=by rfl
def E5:EL:=[([119],(((5:Int):Rat)*((10:Int):Rat),1))]
theorem LD:xO T5= .ok E5:=by
 unfold xO;rw[OI,if_pos rfl];have f1:PP T5 [119]=rx uO:=by simp[PP,T5,l0]
 have e1:bQ (a6 []) uO= .ok (((5:Int):Rat)*((10:Int):Rat),1):=by
  rw[uO,bQ,if_neg (by decide),O4]
 simp only[ph,f1,uh QC,e1]
 rfl
theorem So:PQ T5:=by
 refine⟨Gi,by decide,fun n x h=>?_⟩;obtain⟨_,_,_,hk,hv,_⟩:=GG (fun h=>h.fx_of Gi) LD;obtain⟨u,hu⟩:=(hk n).2 (by cases h with|mk f hp _ _=>exact⟨_,hp,rfl⟩);have:x=u:=h.fn (uA Mz) (hv _ hu);subst this;cases List.mem_singleton.1 hu;exact⟨((QV 5 (by decide)).mul (QV 10 (by decide))).mono (by decide),rfl⟩
theorem Tz:Od T5 (rx sX)=d9 (.ok (((25:Int):Rat),1)):=by
 unfold Od;rw[if_pos wW.2,LD];dsimp only;have h2:((5:Int):Rat)*((10:Int):Rat)/((2:Int):Rat)=((25:Int):Rat):=by kernel_rfl
 have h:bQ (a6 E5) sX= .ok (((25:Int):Rat),1):=by
  rw[<- h2];rfl
 rw[uh J9,h]
theorem SL:Od [] (rx sX)=d9 (.error 4):=by
 unfold Od
 have hv:xO []= .ok []:=by
  unfold xO;rfl
 rw[if_pos wW.2,hv];dsimp only;rw[uh J9];rfl
def n5:L8:=[116,97,110,103,101,110,116,99,105,114,99,108,101]
def W5:List L8:=[[99,48],[99,50],[105,110,115,105,100,101]]
theorem Pc:Lib.cut s5 [32,61,32]=(s5,[],false):=I7 (by decide)
theorem IJ:Lib.split s5 [32]=n5::W5:=by
 have h:Lib.join (n5::W5) [32]=s5:=rfl;rw[<- h];exact qZ _ (by simp) (by decide)
def Th:Nat->AV
 |0=> .nl
 |1=> .ow 703 1 1 3
 |_=> .ow 703 2 1 3
def Tw:Nat->Option (List AV)
 |0=>none
 |1=>some [.val (.int .i64 0)]
 |_=>some [.val (.int .i64 0), .val (.int .i64 2)]
def TC:Nat->Int
 |3=> -1
 |_=>0
abbrev SA (i:Nat):List (Nat × TV):=[(0, .d (dL s5)),(5, .d (dL [])),(10, .box 801 0),(11, .d (dL (PN 17))),(12, .d (dL (PC 17))),(53, .d (PE W5)),(54, .d (dN .i64 3)),(55, .d (dN .i64 i)),(2, .box 0 0)]
def SO (i:Nat):AS:=
 ⟨SA i,
  [(0,some (cC 0 [] [] [] 0)),(801,some [.val (.int .i64 17), .nl,Th i, .nl, .val (.int .i64 (TC i))]),(703,Tw i)]⟩
theorem xY (cF:aa Tryz.prog 25 [dC d5] (.tup [dL s5,dN .i64 0])):aa Tryz.prog 26 [dL s5] (.tup [dC d5,dN .i64 0]):=by
 have cCut:=Kp s5 [32,61,32] (by decide);rw[Pc]at cCut;have cW:=Is s5 [32] (by decide) (by simp);rw[IJ]at cW;have cK:=tO n5;unfold PG at cK;rw[show yU n5=17 by decide]at cK;have cD:=pZ 17;have p1:aa Tryz.prog 66 [dL [99,48],dL [112]] (.tup [dN .i64 (Ey 112 [99,48]),dB false]):=gb 112 [99,48] (by decide);have p2:aa Tryz.prog 66 [dL [99,50],dL [112]] (.tup [dN .i64 (Ey 112 [99,50]),dB false]):=gb 112 [99,50] (by decide);have p3:aa Tryz.prog 66 [dL [105,110,115,105,100,101],dL [112]] (.tup [dN .i64 (Ey 112 [105,110,115,105,100,101]),dB false]):=gb 112 [105,110,115,105,100,101] (by decide);have q1:aa Tryz.prog 66 [dL [99,48],dL [99]] (.tup [dN .i64 0,dB true]):=gb 99 [99,48] (by decide)
 have q2:aa Tryz.prog 66 [dL [99,50],dL [99]] (.tup [dN .i64 2,dB true]):=gb 99 [99,50] (by decide);have q3:aa Tryz.prog 66 [dL [105,110,115,105,100,101],dL [99]] (.tup [dN .i64 (Ey 99 [105,110,115,105,100,101]),dB false]):=gb 99 [105,110,115,105,100,101] (by decide);generalize Ey 112 [99,48]=z1 at *;generalize Ey 112 [99,50]=z2 at *;generalize Ey 112 [105,110,115,105,100,101]=z3 at *;generalize Ey 99 [105,110,115,105,100,101]=z4 at *;have cF:aa Tryz.prog 25 [.agg (cC 17 [] [0,2] [] (-1))] (.tup [dL s5,dN .i64 0]):=cF;have hsz:=aw s5;have hl:s5.length=26:=rfl;have hn0:= @ii (n5::W5) 0 n5 rfl;have hx0:= @ii W5 0 [99,48] rfl;have hx1:= @ii W5 1 [99,50] rfl;have hx2:= @ii W5 2 [105,110,115,105,100,101] rfl;refine kV func26 ?_
 refine kQ (cCut) ?_;refine kQ (cW) ?_;refine aP (i:=0) (cs':=[.val (vL n5)]) (Nat.zero_lt_succ _) hn0 (Nat.zero_lt_succ 0) rfl rfl rfl rfl rfl rfl rfl rfl ?_;refine kO ?_;refine kC (cK) ?_;refine yH ?_;refine IU OE (by simp[S9]) rfl rfl rfl rfl rfl rfl ?_;refine CA 801 ac rfl rfl rfl rfl rfl rfl rfl rfl rfl rfl ?_;refine kW ?_;refine kC (cD) ?_;refine kN ?_;refine pO ⟨[(0, .d (dL s5)),(5, .d (dL [])),(10, .box 801 0),(2, .box 0 0)],[(0,some (cC 0 [] [] [] 0)),(801,some (cC 17 [] [0,2] [] (-1)))]⟩ (fun s' hw=>?_) (fun R hR hret=>?_)
 ·refine bl ?_
  refine eW hw rfl ?_;refine kO ?_;refine x8 ?_;refine kW ?_;refine kC (cF) ?_;refine kG ?_;refine kO ?_;refine kB false ?_ ?_
  ·exact(by rfl)
  refine kO3 ?_
  refine aD rfl rfl rfl rfl rfl rfl rfl (jH (a:=s5) (b:=s5) rfl) ?_;exact ar
 ·refine kW ?_
  refine OJ (m:=4) (i:=1) (d:=3) ac (by show(aF (n5::W5)).length<=_;rw[im];decide) (by omega) (by omega) rfl rfl rfl rfl rfl rfl rfl rfl ?_;refine kW ?_;refine ax Nat (fun i=>i<=3) SO (fun i=>3-i) 0 (by decide) kw ?_;intro i hi;obtain rfl|rfl|rfl|rfl:i=0∨i=1∨i=2∨i=3:=by omega
  ·refine Gz ?_
   refine aP (i:=0) (cs':=[.val (vL [99,48])]) (by decide) hx0 (Nat.zero_lt_succ 0) rfl rfl rfl rfl rfl rfl rfl rfl ?_;refine kW ?_;refine kQ (p1) ?_;refine kQ (q1) ?_;refine AH 704 (m1:=0) (m2:=1) ac (by decide) (by show(0+1)*8<=_;omega) rfl rfl rfl rfl rfl rfl rfl rfl rfl rfl (.nil rfl rfl) rfl rfl rfl rfl ?_;refine kW ?_;refine⟨1,by decide,by decide,?_⟩;exact aL.trans (b:=⟨SA 1,[(0,some (cC 0 [] [] [] 0)),(801,some [.val (.int .i64 17), .nl, .ow 704 1 1 3, .nl, .val (.int .i64 0)]),(704,some [.val (.int .i64 0)])]⟩) kw (aL.trans (mG (i:=801) (off:=2) (j:=704) (j':=703) (m:=1) (k:=1) (e:=3) rfl rfl rfl rfl rfl rfl rfl) kw)
  ·refine Gz ?_
   refine aP (i:=1) (cs':=[.val (vL [99,50])]) (by decide) hx1 (Nat.zero_lt_succ 0) rfl rfl rfl rfl rfl rfl rfl rfl ?_;refine kW ?_;refine kQ (p2) ?_;refine kQ (q2) ?_;refine AH 704 (m1:=1) (m2:=1) ac (by decide) (by show(1+1)*8<=_;omega) rfl rfl rfl rfl rfl rfl rfl rfl rfl rfl (.own rfl rfl) rfl rfl rfl rfl ?_;refine kW ?_;refine⟨2,by decide,by decide,?_⟩;exact aL.trans (b:=⟨SA 2,[(0,some (cC 0 [] [] [] 0)),(801,some [.val (.int .i64 17), .nl, .ow 704 2 1 3, .nl, .val (.int .i64 0)]),(704,some [.val (.int .i64 0), .val (.int .i64 2)])]⟩) kw (aL.trans (mG (i:=801) (off:=2) (j:=704) (j':=703) (m:=2) (k:=1) (e:=3) rfl rfl rfl rfl rfl rfl rfl) kw)
  ·refine Gz ?_
   refine aP (i:=2) (cs':=[.val (vL [105,110,115,105,100,101])]) (by decide) hx2 (Nat.zero_lt_succ 0) rfl rfl rfl rfl rfl rfl rfl rfl ?_;refine kW ?_;refine kQ (p3) ?_;refine kC (q3) ?_
   iterate 2 refine kG ?_
   refine kO2 ?_
   refine aD rfl rfl rfl rfl rfl rfl rfl (bT (a:=[105,110,115,105,100,101]) (b:=PN 17) (by decide)) ?_;refine kG ?_
   refine kO2 ?_
   refine aD rfl rfl rfl rfl rfl rfl rfl (bf (a:=[105,110,115,105,100,101]) (b:=PC 17) (by decide)) ?_;refine kW ?_;exact⟨3,by decide,by decide,weak ⟨rfl,rfl,rfl,rfl,rfl,rfl,rfl,rfl,rfl,trivial⟩ ⟨rfl,rfl,rfl,trivial⟩ rfl⟩
  ·unfold SO
   refine kI ?_;refine kB false ?_ ?_
   ·exact decide_eq_false (by decide)
   refine kW ?_;exact hR _ (aL.trans (BW (i:=801) (off:=1) rfl rfl) (aL.trans (iW (i:=801) (off:=2) (j:=703) rfl rfl rfl rfl rfl) (aL.trans (BW (i:=801) (off:=3) rfl rfl) kw)))
def O5:L8:=[119,32,47,32,50]
def Jc:List Tk:=[(1,[119],0),(4,[47],2),(2,[50],4),(0,[],5)]
theorem Ti:sK (O5.length+1) O5 0 []= .ok Jc:=by rfl
theorem TA:gY (2,[50],4) [(0,[],5)]= .ok (.num ((2:Int):Rat) [],[(0,[],5)]):=by
 unfold gY;rw[Ts];dsimp only;rw[Sm];rfl
theorem Tu:pP 25 .sum Jc=some (.ok (sX,[(0,[],5)])):=by
 simp[i8,f5,mw,fO,eG,cx,ij,Ep,iN,TA,Jc,sX]
def Oq:L8:=[53,32,99,109]
def JA:List Tk:=[(2,[53],0),(1,[99,109],2),(0,[],4)]
theorem Tq:sK (Oq.length+1) Oq 0 []= .ok JA:=by rfl
theorem Tv:fG [53]=some ((5:Int):Rat):=wQ 53 (by decide) (by decide) (by decide) (by decide)
theorem Tt:gY (2,[53],0) [(1,[99,109],2),(0,[],4)]= .ok (.num ((5:Int):Rat) [99,109],[(0,[],4)]):=by
 unfold gY;rw[Tv];dsimp only;rw[Te];rfl
theorem To:pP 20 .sum JA=some (.ok (uO,[(0,[],4)])):=by
 simp[i8,f5,mw,fO,eG,cx,ij,Ep,iN,Tt,JA,uO]
theorem Ke:aa Tryz.prog 35 [dL O5] (.tup [dE sX,dN .i64 0,dN .i64 0]):=by
 have cT:=oG O5 (by decide);rw[Ti]at cT;have h:=oh O5 Jc cT ⟨by simp[fc,Jc],by simp[Pl,Jc,O5],by simp[Jc],by decide⟩
 have e:Ea Jc 0 O5.length= .ok sX:=by
  unfold Ea;rw[show 5*Jc.length+5=25 from rfl,Tu];rfl
 rw[e]at h;exact h
theorem J3:aa Tryz.prog 35 [dL Oq] (.tup [dE uO,dN .i64 0,dN .i64 0]):=by
 have cT:=oG Oq (by decide);rw[Tq]at cT;have h:=oh Oq JA cT ⟨by simp[fc,JA],by simp[Pl,JA,Oq],by simp[JA],by decide⟩
 have e:Ea JA 0 Oq.length= .ok uO:=by
  unfold Ea;rw[show 5*JA.length+5=20 from rfl,To];rfl
 rw[e]at h;exact h
theorem rO (l:Tb) (x:Rx) (hs:I4 l) (hx:DW x) (hl:l.length<=500) (hvs:(fE l).2=0->PQ l):aa Tryz.prog 95 [gK l,dR x] (Od l x):=vq l x (wK l hs hl hvs) hs hx hvs
theorem Tr:PQ ([]:Tb):=by
 refine⟨fun p hp=>(by cases hp),(by decide),fun n x h=>?_⟩;cases h with
 |mk f hp _ _=>cases hp
theorem Ld (q:Rat):∃na xs nb ys,aQ q=[.val (.bool na),aW xs, .val (.bool nb),aW ys]:=⟨_,_,_,_,rfl⟩
theorem fX:aa Tryz.prog 11 [] (.one (dB true)):=by
 have fa:=yw J9 Pg (by have:=wW.1.sz;omega) (by decide) (by rw[Qt];decide);have pa:=Ke;have pb:=J3;rw[Qt]at fa
 have cV:=qW c5 200 200 (by decide) (by decide) (by decide) (fun x hx=>by
  cases List.mem_singleton.1 hx;exact jA _ Pg wW.1.lm (by have:=wW.1.sz;omega))
 have cVd:=qW d5 200 200 (by decide) (by decide) (by decide) (fun x hx=>by cases hx);rw[QI]at cV;rw[QS]at cVd
 have cF:=l9 V5 (fun _=>[119,32,47,32,50]) cV (fun x hx=>by
  cases List.mem_singleton.1 hx;exact fa) (by show(Ez r5 c5 [[119,32,47,32,50]]).length<=_;rw[SY];decide) (by decide)
 have cF:aa Tryz.prog 25 [dC c5] (.tup [dL (Ez r5 c5 [[119,32,47,32,50]]),dN .i64 0]):=cF;rw[SY]at cF;have cFd:=l9 Tl (fun _=>[]) cVd (fun x hx=>by cases hx) (by show(Ez Nw d5 []).length<=_;rw[P3];decide) (by decide);have cFd:aa Tryz.prog 25 [dC d5] (.tup [dL (Ez Nw d5 []),dN .i64 0]):=cFd;rw[P3]at cFd;have cP:=xY cFd;have hk5:dJ 1 ((25:Int):Rat):=QV 25 (by decide);have cE:=rO T5 (rx sX) Gi wW.1 (by decide) (fun _=>So);have cEn:=rO [] (rx sX) (fun p hp=>by cases hp) wW.1 (by decide) (fun _=>Tr);rw[Tz]at cE;rw[SL]at cEn;have cv1:=qO (r:=r5) cE (fun e h=>by cases h) (fun y h=>by cases h;exact⟨1,by decide,hk5⟩) (.inr (.inl rfl));have cv2:=qO (r:=r5) cEn (fun e h=>by cases h;decide) (fun y h=>by cases h) (.inr (.inl rfl))
 have h1:Rc 2 (.ok (((25:Int):Rat),1))= .ok ((25:Int):Rat):=by rfl
 have h2:Rc 2 (.error 4)= .error 4:=rfl
 have cW:=oS (c:=c5) (l:=T5) Kq5 cV (by decide) (fun _=> .ok ((25:Int):Rat)) (fun x hx=>by
  cases List.mem_singleton.1 hx;rw[<- h1];exact cv1) (fun x hx e h=>by cases h)
 have cWn:=oS (c:=c5) (l:=[]) Kq5 cV (by decide) (fun _=> .error 4) (fun x hx=>by
  cases List.mem_singleton.1 hx;exact cv2) (fun x hx e h=>by cases h;decide)
 have cI:=eD [100,105,115,116,97,110,99,101] (by decide);rw[show o0 [100,105,115,116,97,110,99,101]=true by decide]at cI;have cQ:=r8 25 (by decide) (by decide) (q:=((25:Int):Rat)) rfl;have cS:aa Tryz.prog 24 [dQ ((25:Int):Rat),dQ ((25:Int):Rat)] (.one (dB true)):=x5 (Nat.le_trans hk5.1.digs (by decide)) (Nat.le_trans hk5.2.digs (by decide));clear cFd cv1 cv2 cE cEn fa cV cVd h1 h2;obtain⟨o1,na1,xs1,nb1,ys1,nm1,n1,cs1,hX⟩:=aM (rx sX);obtain⟨o2,na2,xs2,nb2,ys2,nm2,n2,cs2,hY⟩:=aM (rx uO);obtain⟨na3,xs3,nb3,ys3,hZ⟩:=Ld ((25:Int):Rat)
 have hC:dC c5= .agg [.val (.int .i64 2), .sl 2 [.val (.int .i64 0), .val (.int .i64 1)], .sl 0 [], .sl 1 (ab o1 na1 xs1 nb1 ys1 nm1 n1 cs1), .val (.int .i64 0)]:=by
  show DV.agg [.val (.int .i64 2), .sl 2 [.val (.int .i64 0), .val (.int .i64 1)], .sl 0 [], .sl 1 (aR (rx sX)++[]), .val (.int .i64 0)]=_;rw[hX,List.append_nil]
 have hT:gK T5= .leaf (.sl 1 (eC [119] o2 na2 xs2 nb2 ys2 nm2 n2 cs2)):=by
  show DV.leaf (.sl 1 ((.val (vL [119])::aR (rx uO))++[]))=_;rw[hY,List.append_nil];rfl
 have hW:S4 (vW (fun _=> .ok ((25:Int):Rat)) c5.vs)= .tup [.leaf (.sl 1 [.val (.bool na3),aW xs3, .val (.bool nb3),aW ys3]),dN .i64 0]:=by
  show RV.tup [.leaf (.sl 1 (aQ ((25:Int):Rat)++[])),dN .i64 0]=_;rw[hZ,List.append_nil]
 have hQ:dQ ((25:Int):Rat)= .agg [.val (.bool na3),aW xs3, .val (.bool nb3),aW ys3]:=congrArg DV.agg hZ;rw[hC,hT,hW]at cW;rw[hC]at cWn;have cWn:aa Tryz.prog 22 [_, .leaf (.sl 0 [])] (.tup [.leaf (.sl 0 []),dN .i64 4]):=cWn;rw[hQ]at cQ cS;rw[hC]at cF;have pa:aa Tryz.prog 35 [dL [119,32,47,32,50]] (.tup [.agg (aR (rx sX)),dN .i64 0,dN .i64 0]):=pa;have pb:aa Tryz.prog 35 [dL [53,32,99,109]] (.tup [.agg (aR (rx uO)),dN .i64 0,dN .i64 0]):=pb;rw[hX]at pa;rw[hY]at pb;have cP:aa Tryz.prog 26 [dL s5] (.tup [.agg [.val (.int .i64 17), .sl 0 [], .sl 2 [.val (.int .i64 0), .val (.int .i64 2)], .sl 0 [], .val (.int .i64 (-1))],dN .i64 0]):=cP;clear hX hY hZ hC hT hW hQ;refine kV func11 ?_;refine kQ (pa) ?_;refine kQ (pb) ?_;refine kQ (cF) ?_
 refine kQ (cW) ?_;refine kQ (cWn) ?_;refine kC (cP) ?_;refine kG ?_
 iterate 20 refine kO ?_
 refine aD rfl rfl rfl rfl rfl rfl rfl (bf (a:=t5) (b:=t5) rfl) ?_;refine kW ?_;refine aP (i:=0) (cs':=[.val (.bool na3),aW xs3, .val (.bool nb3),aW ys3]) Nat.zero_lt_one (fun j a h=>by rw[Nat.zero_mul,Nat.zero_add];exact h) (Nat.zero_lt_succ 3) rfl rfl rfl rfl rfl rfl rfl rfl ?_;refine kO ?_;refine kC (cQ) ?_;refine kQ (cS) ?_;refine kC (cI) ?_;exact ar
def QT (r:Kd):List AV:=[.val (.string ⟨r.nm.toArray⟩), .val (.int .i64 r.p), .val (.int .i64 r.c), .val (.int .i64 r.n), .val (.int .i64 r.v), .val (.int .i64 r.q), .val (.bool r.s)]
def T9:List AV:=[.val (.string ByteArray.empty), .val (.int .i64 0), .val (.int .i64 0), .val (.int .i64 0), .val (.int .i64 0), .val (.int .i64 0), .val (.bool false)]
def MX:DV:= .leaf (.sl 17 (ko.flatMap QT))
def Ub (o:Option Kd):RV:=match o with
 |some r=> .tup [.agg (QT r),dB true]
 |none=> .tup [.agg T9,dB false]
theorem JR {i:Nat} {r:Kd} (h:ko[i]? =some r):∀(j:Nat) (a:AV),(QT r)[j]? =some a->(ko.flatMap QT)[i*7+j]? =some a:=vB (f:=QT) (q:=7) (fun _=>rfl) ko i r h
set_option maxRecDepth 100000 in
theorem wh:aa Tryz.prog 37 [] (.one MX):=by
 refine kU func37 ?_;exact ar
theorem TL (k:Int):aa Tryz.prog 31 [dN .i64 k] (Ub (nh k)):=by
 by_cases h1:k<1
 ·rw[Fg h1]
  refine kU func31 ?_;exact Lu
 ·by_cases h2:17<k
  ·rw[EZ h2]
   refine kU func31 ?_;refine PU ?_;refine kC (wh) ?_;refine kO ?_;refine kT ?_;exact ar
  ·obtain⟨i,rfl⟩:=Int.eq_ofNat_of_zero_le (show 0<=k by omega)
   obtain⟨r,hr,hi⟩:=pB (i:=i) (by omega) (by omega);rw[hr];refine kU func31 ?_;refine PU ?_;refine kC (wh) ?_;refine kO ?_;refine kY ?_;refine kC (wh) ?_;refine kO ?_;refine kJ ((i-1:Nat)) ?_;refine aP (i:=i-1) (cs':=QT r) (by omega) (JR hi) (Nat.zero_lt_succ 6) rfl rfl rfl rfl rfl rfl rfl rfl ?_;exact ar
theorem wO (s:List UInt8):aa Tryz.prog 13 [dL s] (PG (yU s)):=by
 have hat:= @GM s;have hno:= @E8 s;generalize ko.findIdx (fun r=>decide (r.nm=s))=f at *;generalize yU s=z at *;refine kV func13 ?_;refine kQ (wh) ?_;refine ax Nat (fun i=>i<=17/\i<=f) (fun i=>⟨[(0, .d (dL s)),(4, .d MX),(5, .d (dN .i64 i))],[]⟩) (fun i=>17-i) 0 ⟨by omega,Nat.zero_le _⟩ kw ?_;rintro i ⟨hi2,hif⟩;refine kI ?_
 refine kO3 ?_
 by_cases hlt:i<17
 ·refine kT ?_
  obtain⟨r,hr,hi⟩:=pB (i:=i+1) (by omega) (by omega);have hi:ko[i]? =some r:=hi;have hz:=hat (i:=i+1) (by omega) hi hif;refine kG ?_
  refine kO2 ?_
  refine aP (i:=i) (cs':=QT r) (by omega) (JR hi) (Nat.zero_lt_succ 6) rfl rfl rfl rfl rfl rfl rfl rfl ?_
  refine kO3 ?_
  by_cases e:r.nm=s
  ·refine aD rfl rfl rfl rfl rfl rfl rfl (bf (a:=r.nm) (b:=s) e) ?_
   refine kG ?_;refine kO ?_;refine kJ ((i+1:Nat)) ?_;refine SW ?_;rw[hz.1 e];unfold PG;rw[decide_eq_true (show(((i+1:Nat):Int))≠0 by omega)];rfl
  ·refine aD rfl rfl rfl rfl rfl rfl rfl (bT (a:=r.nm) (b:=s) e) ?_
   refine kW ?_;exact⟨i+1,⟨by omega,hz.2 e⟩,by omega,weak ⟨rfl,rfl,aA (by omega) (by omega),trivial⟩ trivial rfl⟩
 ·refine kE ?_
  refine SW ?_;rw[hno (by omega)];rfl
theorem Pj:Tryz.prog.globalNamed "strconv.ErrSyntax" =some 6:=by kernel_rfl
theorem Pd:(Tryz.prog.globals[6]?).map (·.type)=some 142:=by kernel_rfl
theorem N8:Tryz.prog.globalNamed "strconv.ErrRange" =some 7:=by kernel_rfl
theorem OG:(Tryz.prog.globals[7]?).map (·.type)=some 142:=by kernel_rfl
theorem xW {laid:List (String × DataW Unit)} {ps:List MemPlace} {W:World} {name nm:String} {d:DataW Unit} {g:Nat} (hv:DataW.LaidVars Tryz.prog W laid ps) (hm:(name, .iface nm d)∈laid) (hg:Tryz.prog.globalNamed name=some g) (ht:(Tryz.prog.globals[g]?).map (·.type)=some 142):
 ∃ev,W.cell? ⟨g,0,none⟩=some ev/\(ev= .nilIface∨ ∃te pe,ev= .iface te pe):=by
 obtain⟨g',t,cs,fuel,p,h1,h2,h3,h4⟩:=fY hv hm;obtain rfl:=Option.some.inj (hg.symm.trans h1);obtain rfl:=Option.some.inj (ht.symm.trans h2);obtain⟨_,u,v,e,_⟩:=iface_of_trod underlying142 h4;refine⟨.iface u v,?_, .inr ⟨u,v,rfl⟩⟩;have h:=World.var?_cell hg h3 0;obtain⟨l⟩:=cs;dsimp only at e;subst e
 simpa using h
set_option maxRecDepth 100000 in
theorem xU {W:World} (h:W.ShapedOpen Tryz.prog):∃m,W.cell? ⟨3,0,none⟩=some (.int .i64 m):=
 Go.Proofs.cell_of_shapedOpen_int (zero:= #[.int .i64 0]) (t:=3) h (of_decide_eq_true (by kernel_rfl)) (by kernel_rfl) rfl (by kernel_rfl) (by kernel_rfl) underlying3
theorem ka {laid:List (String × DataW Unit)} (hp:(laid.all fun x=>x.2.handleName?.isNone)=true) (hm5:("strconv.ErrSyntax",Rows.laid_strconv_ErrSyntax)∈laid) (hm6:("strconv.ErrRange",Rows.laid_strconv_ErrRange)∈laid) {W:World} (hs:W.ShapedOpen Tryz.prog) (h:laidMetH Tryz.prog laid W):nX W:=by
 rw[MakeChecks.laidMetH_plain _ _ _ hp]at h;obtain⟨ps,hv,_⟩:=h;exact⟨xU hs,xW hv hm5 Pj Pd,xW hv hm6 N8 OG⟩
section
variable {H:Type} {enc:TypeId × Value->H}
theorem dw {a:Assume} {C:Checked} {os:Os} {f:FuncId} {fn:Func} {s:ChangeSpec} {conds:List PathCond} {apart fresh handsOn again:Bool} {X:World->Array Value->Prop}
 (hX:∀(w w':World) (args:Array Value),w.heap=w'.heap->X w args->X w' args)
 (own:ownKnob C.prog.godebug=none) (started:os.Started) (noInit:C.prog.inits.idxOf? f=none) (hfn:C.prog.funcs[f]? =some fn)
 (witness:∃(w:World) (tape:Tape) (i:Input),w.os=os/\(w.forCall tape i).Shaped C.prog/\i.vars=[]/\Input.okWide C.prog (w.forCall tape i) .any w.heap.size f i /\
  ((s.pre enc C.prog fn conds apart (w.forCall tape i).memory i.args/\X (w.forCall tape i).memory i.args)/\sizedMet enc C.prog fn (OpenSpec.ofChange s) apart (w.forCall tape i).memory i.args)/\a.holds C.prog (lone (Frame.enter C.prog f i.args .normal) [] (w.forCall tape i)))
 (contract:∀(W:World) (base:Nat) (args:Array Value) (ds gs:List (DataW H)) (before:List MemPlace),
  (∀(j:Nat) t v,fn.params[j]? =some t->args[j]? =some v->Value.okWide C.prog W .any base t v) ->
  DataW.Whole enc C.prog fn.params.toList s.vars apart W args.toList ds gs before ->
  conds.all (PathCond.test C.prog ⟨fn.params.toList,ds,s.plain.varTypes C.prog,gs⟩)=true ->
  W.ShapedOpen C.prog->X W args ->
  a.holds C.prog (lone (Frame.enter C.prog f args .normal) [] W) ->
  Calls C.prog f args W fun e W'=>∃v,e= .returned v/\s.post enc C.prog fn apart fresh handsOn again W args v W'):
 ReturnsInHanded a C os f .any (fun w args=>(s.pre enc C.prog fn conds apart w args/\X w args)/\sizedMet enc C.prog fn (OpenSpec.ofChange s) apart w args) (s.post enc C.prog fn apart fresh handsOn again):=by
 refine returnsInHanded_of_calls own started noInit witness ?_;intro w tape i _ hsh _ hok hpre hholds;obtain⟨_,_,_,fn',hfn',_,_,_,_,hval⟩:=hok;obtain rfl:fn'=fn:=Option.some.inj (hfn'.symm.trans hfn);obtain⟨⟨⟨ds,gs,before,hw,hc⟩,hx⟩,hz⟩:=hpre;refine(contract (w.forCall tape i) w.heap.size i.args ds gs before hval (DataW.Whole.of_heap (w':=w.forCall tape i) (by rfl) hw) hc hsh (hX _ _ _ (by rfl) hx) hholds).mono fun e W' ⟨v,he,hp⟩=>?_
 subst he;exact ChangeSpec.post_blind hp
end
end Go.Proofs.YtnchbpoopnjghaaGreatDoor
