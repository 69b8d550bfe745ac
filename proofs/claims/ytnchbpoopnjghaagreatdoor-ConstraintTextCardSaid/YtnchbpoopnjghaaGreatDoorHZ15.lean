/- Parts of a proof: contracts of the functions that the laws reach. -/
import Derived.Test.YtnchbpoopnjghaaGreatDoorHZ14
set_option maxHeartbeats 100000000
set_option linter.all false
open Go.Proofs.Tryz
namespace Go.Proofs.YtnchbpoopnjghaaGreatDoor
open Go.RowKit
theorem MV {l:Tb} {i:Nat} {p:Pm} (h:l[i]? =some p):aO ((l.take (i+1)).map (·.1))=aO ((l.take i).map (·.1))++[.val (vL p.1)]:=by
 rw[bn h,List.map_append,mr];rfl
theorem Iy {a:L8}:((Bs a).toList == (ByteArray.mk #[]).toList)=true↔a=[]:=by
 rw[show(ByteArray.mk #[]).toList=[] from ByteArray.toList_mk [],fB]
 simp
theorem Ei {a:L8} (h:¬a=[]):((Bs a).toList == (ByteArray.mk #[]).toList)=false:=by
 cases e:((Bs a).toList == (ByteArray.mk #[]).toList)
 ·rfl
 ·exact absurd (Iy.1 e) h
theorem Bp (l:Tb) (hs:KM l) (hl:l.length<=1000):aa Tryz.prog 179 [gP l] (.tup [Ac (fJ l).1,dN .i64 (fJ l).2]):=by
 have cv:=BF l hs (by omega)
 by_cases hv:Eg l=0
 case neg=>
  rw[show fJ l=([],Eg l) by unfold fJ;rw[if_neg hv]];generalize Eg l=z at *;refine kV func179 ?_;refine kC (cv) ?_;refine AC ?_;refine kB true ?_ ?_
  ·exact bne_iff_ne.2 hv
  exact ap
 have ho:=wz hv;rw[hv]at cv;have hord:fJ l=if l.all (fun p=>xa p.2 (l.map (·.1)))=true then((match mY l l.length []with|some o=>(o,0)|none=>([],9)):List L8 × Int)else([],4):=by unfold fJ;rw[if_pos hv];rfl
 obtain⟨RS,hRS⟩:∃RS,fJ l=RS:=⟨_,rfl⟩;rw[hRS]at hord ⊢;clear hRS hv;have hby:∀k,k<=1001->k*16<=140737488355328:=fun k hk=>by omega
 refine kV func179 ?_;refine kQ (cv) ?_;refine ay Nat (fun i=>i<=l.length) (fun i=>⟨[(5,gV 5001 1 9 i),(0, .d (gP l)),(19, .d (gP l)),(20, .d (dN .i64 l.length)),(21, .d (dN .i64 i))],[(5001,gX (aO ((l.take i).map (·.1))) i)]⟩) (fun i=>l.length-i) 0 (Nat.zero_le _) kw ?_;intro i hi;refine kI ?_
 by_cases hil:i<l.length
 ·refine kT ?_
  obtain⟨p,hx⟩:∃p,l[i]? =some p:=⟨l[i],by simp[hil]⟩;obtain⟨o1,na1,xs1,nb1,ys1,nm1,n1,cs1,hA,hB⟩:=eS p;have hat:∀(j:Nat) (a:AV),(eE p.1 o1 na1 xs1 nb1 ys1 nm1 n1 cs1)[j]? =some a->(Ga l)[i*8+j]? =some a:=fun j a h=>jS l i p hx j a (by rw[hB];exact h)
  have hsn:=MV hx;have hpl:(aO ((l.take i).map (·.1))).length=i*1:=by rw[iB,List.length_map,List.length_take];omega
  generalize aO ((l.take i).map (·.1))=O at *;have hst:(⟨[(5,gV 5001 1 9 (i+1)),(0, .d (gP l)),(19, .d (gP l)),(20, .d (dN .i64 l.length)),(21, .d (dN .i64 (i+1:Nat)))],[(5001,gX (aO ((l.take (i+1)).map (·.1))) (i+1))]⟩:AS)=⟨[(5,gV 5001 1 9 (i+1)),(0, .d (gP l)),(19, .d (gP l)),(20, .d (dN .i64 l.length)),(21, .d (dN .i64 (i+1:Nat)))],[(5001,gX (O++[.val (vL p.1)]) (i+1))]⟩:=by rw[hsn]
  refine kW ?_;refine NB ?_;refine Qw 5002 (J:=5001) (m1:=i) (m2:=1) (cs:=O) (xs:=[.val (vL p.1)]) ah (hby _ (by omega)) hpl rfl rfl rfl rfl rfl rfl rfl rfl rfl rfl rfl rfl rfl rfl rfl rfl rfl ?_;refine kW ?_;refine⟨i+1,hil,by omega,?_⟩;refine Eq.mpr (congrArg (aJ _) hst) ?_;exact aJ.tr (b:=⟨[(5,gV 5002 1 9 (i+1)),(0, .d (gP l)),(19, .d (gP l)),(20, .d (dN .i64 l.length)),(21, .d (dN .i64 (i+1:Nat)))],[(5002,gX (O++[.val (vL p.1)]) (i+1))]⟩) (weak ⟨rfl,rfl,rfl,rfl,an (by omega) (by omega),trivial⟩ ⟨rfl,trivial⟩ rfl) ((Ci (q:=5) (J:=5002) (J':=5001) rfl rfl rfl).tr kw)
 obtain rfl:i=l.length:=by omega
 rw[List.take_length];clear hi hil;have hAl:l.length=(l.map (·.1)).length:=(List.length_map ..).symm;have hA0:(l.map (·.1)).length<=1000:=by omega
 refine kE ?_;refine At ?_
 repeat refine bu (T:=TT) ?_
 refine eT (je (q:=5) (J:=5001) (m:=l.length) (cs:=aO (l.map (·.1))) (fun h=>by rw[List.eq_nil_of_length_eq_zero h];rfl) rfl rfl) rfl ?_;refine kW ?_;refine ay Nat (fun i=>i<=l.length/\ ∀p∈l.take i,xa p.2 (l.map (·.1))=true) (fun i=>⟨[(5, .d (Ac (l.map (·.1)))),(0, .d (gP l)),(31, .d (gP l)),(32, .d (dN .i64 l.length)),(33, .d (dN .i64 i))],[]⟩) (fun i=>l.length-i) 0 ⟨Nat.zero_le _,by simp⟩ (weak ⟨congrArg (fun k=>TV.d (.leaf (.sl k (aO (l.map fun x:Pm=>x.1))))) hAl,rfl,rfl,rfl,rfl,trivial⟩ trivial rfl) ?_;rintro i ⟨hi,hall⟩
 by_cases hil:i<l.length
 ·obtain⟨p,hx⟩:∃p,l[i]? =some p:=⟨l[i],by simp[hil]⟩
  have hp:=List.mem_of_getElem? hx;have cr:=lW p (l.map (·.1)) (hs p hp).2 (by omega);obtain⟨o1,na1,xs1,nb1,ys1,nm1,n1,cs1,hA,hB⟩:=eS p;have hat:∀(j:Nat) (a:AV),(eE p.1 o1 na1 xs1 nb1 ys1 nm1 n1 cs1)[j]? =some a->(Ga l)[i*8+j]? =some a:=fun j a h=>jS l i p hx j a (by rw[hB];exact h)
  rw[show Ma p= .agg (eE p.1 o1 na1 xs1 nb1 ys1 nm1 n1 cs1) from congrArg DV.agg hB]at cr
  have hstep:xa p.2 (l.map (·.1))=true-> ∀q∈l.take (i+1),xa q.2 (l.map (·.1))=true:=fun h q hq=>by
   rw[bn hx]at hq;rcases List.mem_append.1 hq with hq|hq
   ·exact hall q hq
   ·rw[List.mem_singleton.1 hq];exact h
  have hbad:xa p.2 (l.map (·.1))=false->RS=([],4):=fun h=>by
   rw[hord,if_neg];intro h2;have:=List.all_eq_true.1 h2 p hp;rw[h]at this;cases this
  generalize xa p.2 (l.map (·.1))=rb at *;generalize l.map (·.1)=A at *;cases rb with
  |true=>
   refine Qh ?_;refine NB ?_;refine kQ (cr) ?_;exact⟨i+1,⟨hil,hstep rfl⟩,by omega,weak ⟨rfl,rfl,rfl,rfl,an (by omega) (by omega),trivial⟩ trivial rfl⟩
  |false=>
   refine Qh ?_;refine NB ?_;refine kC (cr) ?_;refine fR ?_;rw[hbad rfl];rfl
 rw[List.take_of_length_le (by omega)]at hall;have hord:RS=(match mY l l.length []with|some o=>(o,0)|none=>([],9)):=by rw[hord,if_pos (List.all_eq_true.2 hall)]
 clear hall hAl hA0;refine HZ ?_;clear hil hi;refine ay (List L8) (fun o=>o.length<=l.length/\mY l (l.length-o.length) o=mY l l.length []) (fun o=>⟨[(10,Cb 6001 o),(0, .d (gP l))],[(6001,IU o)]⟩) (fun o=>l.length-o.length) [] ⟨Nat.zero_le _,rfl⟩ kw ?_;rintro o ⟨hol,hog⟩;have ho1:o.length<=1000000:=by omega
 by_cases hlo:o.length<l.length
 case neg=>
  have hend:RS=(o,0):=by rw[hord,<- hog,show l.length-o.length=0 by omega];rfl
  cases o with
  |nil=>
   refine kI ?_
   refine kO4 ?_
   refine kB false ?_ ?_
   ·exact decide_eq_false (by have:([]:List L8).length=0:=rfl;omega)
   refine fR ?_;rw[hend];rfl
  |cons a r=>
   refine kI ?_
   refine kO4 ?_
   refine kE ?_;refine At ?_
   repeat refine bu (T:=TT) ?_
   refine eT (cu (q:=10) rfl rfl) rfl ?_;refine fR ?_;rw[hend];rfl
 obtain⟨kk,hkk⟩:∃kk,l.length-o.length=kk+1:=⟨l.length-o.length-1,by omega⟩;rw[hkk,mY]at hog
 have hcont:Gc l o≠[]->mY l (l.length-(o++[Gc l o]).length) (o++[Gc l o])=mY l l.length []:=fun hn=>by
  rw[if_neg hn]at hog;rw[List.length_append,List.length_singleton,show l.length-(o.length+1)=kk by omega];exact hog
 have hcyc:Gc l o=[]->RS=([],9):=fun h=>by rw[if_pos h]at hog;rw[hord,<- hog]
 cases o with
 |nil=>
  refine kI ?_
  refine kO4 ?_
  refine kB true ?_ ?_
  ·exact decide_eq_true (by have:([]:List L8).length=0:=rfl;omega)
  refine kW ?_;refine ay Nat (fun i=>i<=l.length) (fun i=>⟨[(10, .nil),(0, .d (gP l)),(47, .d (gP l)),(48, .d (dN .i64 l.length)),(49, .d (dN .i64 i)),(11, .d (dL ((l.take i).foldl (sP ([])) [])))],[]⟩) (fun i=>l.length-i) 0 (Nat.zero_le _) kw ?_;intro i hi;obtain⟨nx,hnx⟩:∃nx,(l.take i).foldl (sP ([])) []=nx:=⟨_,rfl⟩;rw[hnx]
  by_cases hlt:i<l.length
  ·obtain⟨p,hx⟩:∃p,l[i]? =some p:=⟨l[i],by simp[hlt]⟩
   have hnext:=xt hx hnx;have hp:=List.mem_of_getElem? hx;have hsx:=(hs p hp).2;obtain⟨o1,na1,xs1,nb1,ys1,nm1,n1,cs1,hA,hB⟩:=eS p;have hat:∀(j:Nat) (a:AV),(eE p.1 o1 na1 xs1 nb1 ys1 nm1 n1 cs1)[j]? =some a->(Ga l)[i*8+j]? =some a:=fun j a h=>jS l i p hx j a (by rw[hB];exact h)
   have c1:=jq ([]) p.1 ho1;have c2:=lW p ([]) hsx ho1;rw[show Ma p= .agg (eE p.1 o1 na1 xs1 nb1 ys1 nm1 n1 cs1) from congrArg DV.agg hB]at c2;have hcd:Fp ([]) p=(!(decide (p.1∈([]:List L8))) && xa p.2 ([])):=rfl
   have keep:Fp ([]) p=false∨(nx≠[]/\Op.bytesLess p.1 nx=false)->nx=(l.take (i+1)).foldl (sP ([])) []:=fun h=>by
    exact Og
   have take:Fp ([]) p=true->(nx=[]∨Op.bytesLess p.1 nx=true)->p.1=(l.take (i+1)).foldl (sP ([])) []:=fun h1 h2=>by
    rw[hnext,sP,if_pos ⟨h1,h2⟩]
   generalize xa p.2 ([])=rb at *
   have hall:decide (p.1∈([]:List L8))=true∨(decide (p.1∈([]:List L8))=false/\rb=false)∨(decide (p.1∈([]:List L8))=false/\rb=true/\nx=[]) ∨
    (decide (p.1∈([]:List L8))=false/\rb=true/\nx≠[]/\Op.bytesLess p.1 nx=false)∨(decide (p.1∈([]:List L8))=false/\rb=true/\nx≠[]/\Op.bytesLess p.1 nx=true):=by
    cases decide (p.1∈([]:List L8))<;>cases rb<;>cases Op.bytesLess p.1 nx<;>by_cases h:nx=[]<;>simp[h]
   rcases hall with hb1| ⟨hb1,rfl⟩| ⟨hb1,rfl,h0⟩| ⟨hb1,rfl,h0,hls⟩| ⟨hb1,rfl,h0,hls⟩
   ·rw[hb1]at c1
    refine kI ?_;refine kT ?_;refine Sb ?_;refine io ?_;exact JZ
   ·rw[hb1]at c1
    refine kI ?_;refine kT ?_;refine Fq ?_;refine I4 ?_;refine kW ?_;exact JZ
   ·rw[hb1]at c1
    refine kI ?_;refine kT ?_;refine Fq ?_;refine I4 ?_
    refine kO3 ?_
    refine aq rfl rfl rfl rfl rfl rfl rfl (bv (a:=nx) (b:=[]) h0) ?_;refine kW ?_;exact⟨i+1,hlt,by omega,weak ⟨rfl,rfl,rfl,rfl,an (by omega) (by omega),congrArg (fun z=>TV.d (dL z)) (take (by rw[hcd,hb1];rfl) (.inl h0)),trivial⟩ trivial rfl⟩
   ·rw[hb1]at c1
    refine kI ?_;refine kT ?_;refine Fq ?_;refine I4 ?_;refine M9 ?_;exact⟨i+1,hlt,by omega,weak ⟨rfl,rfl,rfl,rfl,an (by omega) (by omega),congrArg (fun z=>TV.d (dL z)) (keep (.inr ⟨h0,hls⟩)),trivial⟩ trivial rfl⟩
   ·rw[hb1]at c1
    refine kI ?_;refine kT ?_;refine Fq ?_;refine I4 ?_;refine M9 ?_;exact⟨i+1,hlt,by omega,weak ⟨rfl,rfl,rfl,rfl,an (by omega) (by omega),congrArg (fun z=>TV.d (dL z)) (take (by rw[hcd,hb1];rfl) (.inr hls)),trivial⟩ trivial rfl⟩
  ·rw[List.take_of_length_le (by omega)]at hnx
   have hnN:Gc l ([])=nx:=hnx
   by_cases h0:nx=[]
   ·exact y6
   ·rw[hnN]at hcont
    refine HZ ?_;refine gU (T:=TT) rfl ?_ ?_
    ·exact(Ei h0)
    refine kW ?_;refine eV 6002 (m1:=([]:List L8).length) (m2:=1) ah (by decide) (Nat.le_trans (Nat.mul_le_mul_right _ (show([]:List L8).length+1<=1000001 by omega)) (by decide)) rfl rfl rfl rfl rfl rfl rfl rfl rfl rfl rfl (.nil rfl rfl) rfl rfl rfl ?_;refine kW ?_;refine⟨([])++[nx],⟨by simp only[List.length_append,List.length_cons,List.length_nil]at hlo ⊢;omega,hcont h0⟩,by simp only[List.length_append,List.length_cons,List.length_nil]at hlo ⊢;omega,Eq.mpr (congrArg (aJ _) (DG [(0, .d (gP l))] [] 10 6001 ([]) nx [])) ?_⟩;exact aJ.trans (b:=⟨[(10, .own 6002 (([]:List L8).length+1) 1 9),(0, .d (gP l))],[(6002,some ((aO ([])).take (([]:List L8).length*1)++[.val (vL nx)]))]⟩) kw ((aV (q:=10) (j:=6002) (j':=6001) rfl rfl rfl rfl).trans kw)
 |cons a r=>
  refine kI ?_
  refine kO4 ?_
  refine kX ?_;refine ay Nat (fun i=>i<=l.length) (fun i=>⟨[(10, .own 6001 (List.cons a r).length 1 9),(0, .d (gP l)),(47, .d (gP l)),(48, .d (dN .i64 l.length)),(49, .d (dN .i64 i)),(11, .d (dL ((l.take i).foldl (sP (List.cons a r)) [])))],[(6001,some (aO (List.cons a r)))]⟩) (fun i=>l.length-i) 0 (Nat.zero_le _) kw ?_;intro i hi;obtain⟨nx,hnx⟩:∃nx,(l.take i).foldl (sP (List.cons a r)) []=nx:=⟨_,rfl⟩;rw[hnx]
  by_cases hlt:i<l.length
  ·obtain⟨p,hx⟩:∃p,l[i]? =some p:=⟨l[i],by simp[hlt]⟩
   have hnext:=xt hx hnx;have hp:=List.mem_of_getElem? hx;have hsx:=(hs p hp).2;obtain⟨o1,na1,xs1,nb1,ys1,nm1,n1,cs1,hA,hB⟩:=eS p;have hat:∀(j:Nat) (a:AV),(eE p.1 o1 na1 xs1 nb1 ys1 nm1 n1 cs1)[j]? =some a->(Ga l)[i*8+j]? =some a:=fun j a h=>jS l i p hx j a (by rw[hB];exact h)
   have c1:=jq (List.cons a r) p.1 ho1;have c2:=lW p (List.cons a r) hsx ho1;rw[show Ma p= .agg (eE p.1 o1 na1 xs1 nb1 ys1 nm1 n1 cs1) from congrArg DV.agg hB]at c2;have hcd:Fp (List.cons a r) p=(!(decide (p.1∈(List.cons a r:List L8))) && xa p.2 (List.cons a r)):=rfl
   have keep:Fp (List.cons a r) p=false∨(nx≠[]/\Op.bytesLess p.1 nx=false)->nx=(l.take (i+1)).foldl (sP (List.cons a r)) []:=fun h=>by
    exact Og
   have take:Fp (List.cons a r) p=true->(nx=[]∨Op.bytesLess p.1 nx=true)->p.1=(l.take (i+1)).foldl (sP (List.cons a r)) []:=fun h1 h2=>by
    rw[hnext,sP,if_pos ⟨h1,h2⟩]
   generalize xa p.2 (List.cons a r)=rb at *
   have hall:decide (p.1∈(List.cons a r:List L8))=true∨(decide (p.1∈(List.cons a r:List L8))=false/\rb=false)∨(decide (p.1∈(List.cons a r:List L8))=false/\rb=true/\nx=[]) ∨
    (decide (p.1∈(List.cons a r:List L8))=false/\rb=true/\nx≠[]/\Op.bytesLess p.1 nx=false)∨(decide (p.1∈(List.cons a r:List L8))=false/\rb=true/\nx≠[]/\Op.bytesLess p.1 nx=true):=by
    cases decide (p.1∈(List.cons a r:List L8))<;>cases rb<;>cases Op.bytesLess p.1 nx<;>by_cases h:nx=[]<;>simp[h]
   rcases hall with hb1| ⟨hb1,rfl⟩| ⟨hb1,rfl,h0⟩| ⟨hb1,rfl,h0,hls⟩| ⟨hb1,rfl,h0,hls⟩
   ·rw[hb1]at c1
    refine kI ?_;refine kT ?_;refine Fq ?_;refine Nm ?_;exact Pe
   ·rw[hb1]at c1
    refine Lq ?_;exact Pe
   ·rw[hb1]at c1
    refine Lq ?_
    refine kO3 ?_
    refine aq rfl rfl rfl rfl rfl rfl rfl (bv (a:=nx) (b:=[]) h0) ?_;refine kW ?_;exact⟨i+1,hlt,by omega,weak ⟨rfl,rfl,rfl,rfl,an (by omega) (by omega),congrArg (fun z=>TV.d (dL z)) (take (by rw[hcd,hb1];rfl) (.inl h0)),trivial⟩ ⟨rfl,trivial⟩ rfl⟩
   ·rw[hb1]at c1
    refine Lq ?_;refine M9 ?_;exact⟨i+1,hlt,by omega,weak ⟨rfl,rfl,rfl,rfl,an (by omega) (by omega),congrArg (fun z=>TV.d (dL z)) (keep (.inr ⟨h0,hls⟩)),trivial⟩ ⟨rfl,trivial⟩ rfl⟩
   ·rw[hb1]at c1
    refine Lq ?_;refine M9 ?_;exact⟨i+1,hlt,by omega,weak ⟨rfl,rfl,rfl,rfl,an (by omega) (by omega),congrArg (fun z=>TV.d (dL z)) (take (by rw[hcd,hb1];rfl) (.inr hls)),trivial⟩ ⟨rfl,trivial⟩ rfl⟩
  ·rw[List.take_of_length_le (by omega)]at hnx
   have hnN:Gc l (List.cons a r)=nx:=hnx
   by_cases h0:nx=[]
   ·exact y6
   ·rw[hnN]at hcont
    refine HZ ?_;refine gU (T:=TT) rfl ?_ ?_
    ·exact(Ei h0)
    refine kW ?_;refine eV 6002 (m1:=(List.cons a r:List L8).length) (m2:=1) ah (by decide) (Nat.le_trans (Nat.mul_le_mul_right _ (show(List.cons a r:List L8).length+1<=1000001 by omega)) (by decide)) rfl rfl rfl rfl rfl rfl rfl rfl rfl rfl rfl (.own rfl rfl) rfl rfl rfl ?_;refine kW ?_;refine⟨(List.cons a r)++[nx],⟨by simp only[List.length_append,List.length_cons,List.length_nil]at hlo ⊢;omega,hcont h0⟩,by simp only[List.length_append,List.length_cons,List.length_nil]at hlo ⊢;omega,Eq.mpr (congrArg (aJ _) (DG [(0, .d (gP l))] [] 10 6001 (List.cons a r) nx [])) ?_⟩
    exact aJ.trans (b:=⟨[(10, .own 6002 ((List.cons a r:List L8).length+1) 1 9),(0, .d (gP l))],[(6002,some ((aO (List.cons a r)).take ((List.cons a r:List L8).length*1)++[.val (vL nx)]))]⟩) kw ((aV (q:=10) (j:=6002) (j':=6001) rfl rfl rfl rfl).trans kw)
theorem vE (l:Tb) (x:Rx) (c2:aa Tryz.prog 132 [gP l] (VD (yQ l))) (hs:KM l) (hx:Fg x) (hvs:(fJ l).2=0->R2 l):aa Tryz.prog 95 [gP l,dR x] (Qb l x):=by
 have c1:=gW x hx.wd hx.lm (by have:=hx.sz;omega);have he:= @Mh l hs hvs;have hee:= @Qd l;have hxo:=Qr hx;unfold Qb;generalize iI x=vx at *;generalize yQ l=vv at *
 have c3:vx=0-> ∀env,vv= .ok env->aa Tryz.prog 133 [dR x,iv env,jF env] (ew (ct (bt env) (lJ x))):=fun h0 env henv=>by
  obtain⟨h1,h2,h3⟩:=he henv;obtain⟨h4,h5,h6⟩:=hxo h0;have:=dr (l:=env) h1 h2 h3 (lJ x) h4 h5
  rwa[show dE (lJ x)=dR x from congrArg dR h6]at this
 clear he hxo;generalize lJ x=ex at *;obtain⟨o1,na1,xs1,nb1,ys1,nm1,n1,cs1,hA⟩:=aM x;rw[show dR x= .agg (ab o1 na1 xs1 nb1 ys1 nm1 n1 cs1) from congrArg DV.agg hA]at *
 by_cases h0:vx=0
 case neg=>
  rw[if_neg h0];refine kV func95 ?_;refine kC (c1) ?_;refine AC ?_;refine kB true ?_ ?_
  ·exact bne_iff_ne.2 h0
  exact ap
 rw[if_pos h0];rw[h0]at c1;cases vv with
 |error e=>
  have hne:=hee rfl;refine kU func95 ?_;refine io ?_;refine kC (c2) ?_;refine AC ?_;refine kB true ?_ ?_
  ·exact bne_iff_ne.2 hne
  exact ap
 |ok env=>
  have c3:=c3 h0 env rfl;dsimp only;cases hev:ct (bt env) ex with
  |error z=>
   exact OM
  |ok y=>
   exact OM
theorem TW (xs:List Nat):N1 (aW xs)=true:=by
 unfold aW N1
 simp[bR]
theorem Ms (x:QR):UY (ew x)=true:=by
 cases x with
 |error e=>rfl
 |ok y=>
  have h:∀q:Rat,(lY q y.2).all N1=true:=fun q=>by
   show([AV.val _,aW _,AV.val _,aW _,AV.val _].all N1)=true
   simp only[List.all_cons,List.all_nil,TW]
   rfl
  show(RL (.agg (lY y.1 y.2)) && (RL (dN .i64 0) && true))=true;rw[show RL (.agg (lY y.1 y.2))=true from h y.1];rfl
theorem RA (env:EL) (n:L8) (v:Rat × Int):nO 1 (aO (env.map (·.1))) (pT env n) [.val (vL n)]=aO ((jd env n v).map (·.1)):=by
 unfold nO jd;rw[Nat.mul_one]
 simp[aO,List.map_take,List.map_drop]
theorem Rk (env:EL) (n:L8) (v:Rat × Int):nO 5 (mb env) (pT env n) (lY v.1 v.2)=mb (jd env n v):=by
 unfold nO jd;rw[zD,zU,Le,mb,List.append_assoc]
theorem GW (l:List L8):bF (aO l)=true:=ki fun b hb=>by
 unfold aO at hb;obtain⟨x,_,rfl⟩:=List.mem_map.1 hb;rfl
theorem Rl {env:EL} {i:Nat} (h:env.length=i):iv env= .leaf (.sl i (aO (env.map (·.1)))):=by
 rw[Qs];unfold Ac;rw[List.length_map,h]
abbrev RX (l:Tb) (o:List L8) (i:Nat) (RN RV:List AV):AS:=⟨[(0, .d (gP l)),(23, .d (Ac o)),(24, .d (dN .i64 o.length)),(25, .d (dN .i64 i)),(7,gV 5001 1 9 i),(8,gV 5002 5 92 i)],[(5001,gX RN i),(5002,gX RV i)]⟩
theorem JB {l:Tb} {o:List L8} {i:Nat} {a a' b b':List AV} (h1:a=a') (h2:b=b'):RX l o i a b=RX l o i a' b':=by rw[h1,h2]
def S8 (v:Nat):QR->Except Int Rat
 | .error e=> .error e
 | .ok y=>if v=3 then(if y.2=0 then .ok y.1 else .error 8)else if y.2=0∨y.2=1 then(if v=2/\KQ y.1<=0 then .error 6 else .ok y.1)else .error 8
def RK:Except Int Rat->RV
 | .error e=> .tup [Jw,dN .i64 e]
 | .ok q=> .tup [dQ q,dN .i64 0]
theorem Lv (q:Rat) (p:Int):ew (.ok (q,p))= .tup [wO q p,dN .i64 0]:=rfl
theorem MR (e:Int):ew (.error e)= .tup [AU,dN .i64 e]:=rfl
theorem rV {r:Kd} {l:Tb} {x:Rx} {E:QR} (cE:aa Tryz.prog 95 [gP l,dR x] (ew E)) (hE:∀e,E= .error e->e≠0) (hk:∀y,E= .ok y-> ∃k,k<=2147483640/\dO k y.1) (hv:r.v=1∨r.v=2∨r.v=3):
 aa Tryz.prog 56 [.agg (RH r),gP l,dR x] (RK (S8 r.v E)):=by
 obtain⟨o1,na1,xs1,nb1,ys1,nm1,n1,cs1,hX⟩:=aM x;rw[show dR x= .agg (ab o1 na1 xs1 nb1 ys1 nm1 n1 cs1) from congrArg DV.agg hX]at cE ⊢;obtain⟨rn,rp,rc,rm,v,rq,rs⟩:=r;dsimp only at hv ⊢;cases E with
 |error e=>
  have he:=hE e rfl;rw[MR]at cE;unfold S8 RK;dsimp only;rcases hv with rfl|rfl|rfl
  all_goals
   refine kV func56 ?_;refine kC (cE) ?_;refine kG ?_;refine kO ?_;refine kB true ?_ ?_
   ·exact bne_iff_ne.2 he
   exact kF
 |ok y=>
  obtain⟨k,hk1,hk2⟩:=hk y rfl;obtain⟨q,p⟩:=y;rw[Lv]at cE;have cS:=nP q;unfold S8 RK;dsimp only;rcases hv with rfl|rfl|rfl
  rotate_left 2
  ·rw[if_pos rfl]
   by_cases h0:p=0
   ·rw[if_pos h0]
    refine kV func56 ?_;refine kC (cE) ?_
    iterate 3 refine kG ?_
    refine kO2 ?_
    refine kB false ?_ ?_
    ·exact(by simp[h0])
    exact ap
   ·rw[if_neg h0]
    refine kV func56 ?_;refine kC (cE) ?_
    iterate 3 refine kG ?_
    refine kO2 ?_
    refine kB true ?_ ?_
    ·exact(by simp[h0])
    exact ap
  ·rw[if_neg (by decide)]
   by_cases hp1:p=0∨p=1
   ·rw[if_pos hp1,if_neg (fun h=>by cases h.1)]
    have cL:=lI hk2 hk1 hp1;refine SZ ?_;exact ap
   ·rw[if_neg hp1]
    have cL:=nw (a:=q) hp1;refine SZ ?_;exact ap
  ·rw[if_neg (by decide)]
   by_cases hp1:p=0∨p=1
   ·have cL:=lI hk2 hk1 hp1
    rw[if_pos hp1]
    by_cases hs:KQ q<=0
    ·rw[if_pos ⟨rfl,hs⟩]
     refine SZ ?_;refine kW ?_;refine kC (cS) ?_;refine kB true ?_ ?_
     ·exact decide_eq_true hs
     exact ap
    ·rw[if_neg (fun h=>hs h.2)]
     refine SZ ?_;refine kW ?_;refine kC (cS) ?_;refine kB false ?_ ?_
     ·exact decide_eq_false hs
     exact ap
   ·rw[if_neg hp1]
    have cL:=nw (a:=q) hp1;refine SZ ?_;exact ap
def KP (l:List Rat):List AV:=l.flatMap aQ
theorem Lt (l:List Rat):(KP l).length=l.length*4:=by
 induction l with
 |nil=>rfl
 |cons a r ih=>
  show(aQ a++KP r).length=_;rw[List.length_append,ih,List.length_cons];show 4+_=_;omega
def qV (l:List Rat):TV:=match l with
 | []=> .nil
 |a::r=> .own 7001 (a::r).length 4 38
def qX (l:List Rat):Option (List AV):=match l with
 | []=>none
 |a::r=>some (KP (a::r))
theorem J4 (l:List Rat) (x:Rat):qV (l++[x])= .own 7001 (l.length+1) 4 38:=by cases l<;>simp[qV]
theorem Jf (l:List Rat) (x:Rat):qX (l++[x])=some ((KP l).take (l.length*4)++aQ x):=by
 have h:(KP l).take (l.length*4)=KP l:=List.take_of_length_le (Nat.le_of_eq (Lt l));rw[h];cases l<;>simp[qX,KP]
def xo (f:Rx->Except Int Rat):List Rx->Except Int (List Rat)
 | []=> .ok []
 |x::r=>match f x with
  | .error e=> .error e
  | .ok q=>match xo f r with
   | .error e=> .error e
   | .ok qs=> .ok (q::qs)
def VB:Except Int (List Rat)->RV
 | .error e=> .tup [.leaf (.sl 0 []),dN .i64 e]
 | .ok qs=> .tup [.leaf (.sl qs.length (KP qs)),dN .i64 0]
theorem Dg {f:Rx->Except Int Rat} {x:Rx} {e:Int} (hf:f x= .error e):∀(pre post:List Rx) (qs:List Rat),xo f pre= .ok qs->xo f (pre++x::post)= .error e
 | [],post,qs,_=>by rw[List.nil_append,xo,hf]
 |a::r,post,qs,h=>by
  rw[xo]at h;rw[List.cons_append,xo];cases ha:f a with
  |error e=>rw[ha]at h;cases h
  |ok q=>
   rw[ha]at h;dsimp only at h ⊢;cases hr:xo f r with
   |error e=>rw[hr]at h;cases h
   |ok qs'=>rw[Dg hf r post qs' hr]
theorem yA {f:Rx->Except Int Rat} {x:Rx} {q:Rat} (hf:f x= .ok q):∀(pre:List Rx) (qs:List Rat),xo f pre= .ok qs->xo f (pre++[x])= .ok (qs++[q])
 | [],qs,h=>by
  cases h;rw[List.nil_append,xo,hf];rfl
 |a::r,qs,h=>by
  rw[xo]at h;rw[List.cons_append,xo];cases ha:f a with
  |error e=>rw[ha]at h;cases h
  |ok q'=>
   rw[ha]at h;dsimp only at h ⊢;cases hr:xo f r with
   |error e=>rw[hr]at h;cases h
   |ok qs'=>
    rw[hr]at h;cases h;rw[yA hf r qs' hr];rfl
theorem pA {c:Cn} {r:Kd} {l:Tb} (hr:pL c.k=some r) (cV:aa Tryz.prog 17 [dC c,dN .i64 200,dN .i64 200] (.one (dB true))) (h3:c.vs.length<=1000000) (f:Rx->Except Int Rat)
 (cE:∀x∈c.vs,aa Tryz.prog 56 [.agg (RH r),gP l,dR x] (RK (f x))) (hE:∀x∈c.vs,∀e,f x= .error e->e≠0):aa Tryz.prog 22 [dC c,gP l] (VB (xo f c.vs)):=by
 have cS:=nr c.k;rw[hr]at cS;obtain⟨k,ps,cs,vs,s⟩:=c;dsimp only at *;show aa Tryz.prog _ [.agg (cC k ps cs vs s),gP l] _;have cV:aa Tryz.prog 17 [.agg (cC k ps cs vs s),dN .i64 200,dN .i64 200] (.one (dB true)):=cV;have cS:aa Tryz.prog 30 [dN .i64 k] (.tup [.agg (RH r),dB true]):=cS;obtain⟨nm,rp,rc,rn,rv,rq,rs⟩:=r;generalize hA:(Nat.beq rv 1 || Nat.beq rv 2)=b1;generalize hB:Nat.beq rv 2=b2;have hsh:RH ⟨nm,rp,rc,rn,rv,rq,rs⟩=[.val (.int .i64 rp), .val (.int .i64 rc), .val (.int .i64 rn), .val (.int .i64 rq), .val (.bool rs), .val (.bool b1), .val (.bool b2)]:=by rw[<- hA,<- hB];rfl
 rw[hsh]at cS cE;refine kV func22 ?_;refine kQ (cV) ?_;refine kQ (cS) ?_;refine ay (Nat × List Rat) (fun x=>x.1<=vs.length/\xo f (vs.take x.1)= .ok x.2/\x.2.length<=x.1) (fun x=>⟨[(8,qV x.2),(1, .d (gP l)),(6, .box 3006 0),(23, .d (.leaf (.sl vs.length (dY vs)))),(24, .d (dN .i64 vs.length)),(25, .d (dN .i64 x.1))],[(7001,qX x.2),(3006,some [.val (.int .i64 rp), .val (.int .i64 rc), .val (.int .i64 rn), .val (.int .i64 rq), .val (.bool rs), .val (.bool b1), .val (.bool b2)])]⟩) (fun x=>vs.length-x.1) (0,[]) ⟨Nat.zero_le _,rfl,Nat.le_refl _⟩ kw ?_;rintro⟨i,qs⟩ ⟨hi,hq,hql⟩;dsimp only at hi hq hql ⊢
 by_cases hlt:i<vs.length
 ·obtain⟨x,hx⟩:∃x,vs[i]? =some x:=⟨vs[i],by simp[hlt]⟩
  have hm:=List.mem_of_getElem? hx;have c1:=cE x hm;have hat:=dP vs i x hx;have hne:=hE x hm
  have hsp:vs=vs.take i++x::vs.drop (i+1):=by
   have:=(List.take_append_drop i vs).symm
   rwa[List.drop_eq_getElem_cons hlt,show vs[i]=x by rw[List.getElem?_eq_getElem hlt]at hx;exact Option.some.inj hx]at this
  obtain⟨o1,na1,xs1,nb1,ys1,nm1,n1,cs1,hX⟩:=aM x;rw[show dR x= .agg (ab o1 na1 xs1 nb1 ys1 nm1 n1 cs1) from congrArg DV.agg hX]at c1;rw[hX]at hat;cases hf:f x with
  |error e=>
   have he:=hne e hf;have hv:xo f vs= .error e:=by rw[hsp];exact Dg hf _ _ qs hq
   rw[hv];rw[hf]at c1;unfold RK at c1;dsimp only at c1;cases qs
   all_goals
    refine kI ?_;refine kX ?_;refine aG (i:=i) (cs':=ab o1 na1 xs1 nb1 ys1 nm1 n1 cs1) hlt hat (Nat.zero_lt_succ 6) rfl rfl rfl rfl rfl rfl rfl rfl ?_;refine kW ?_;refine kC (c1) ?_;refine kG ?_;refine kO ?_;refine kB true ?_ ?_
    ·exact bne_iff_ne.2 he
    exact kF
  |ok q=>
   have hs2:xo f (vs.take (i+1))= .ok (qs++[q]):=by rw[bn hx];exact yA hf _ qs hq
   rw[hf]at c1;unfold RK at c1;dsimp only at c1;cases qs with
   |nil=>
    refine kI ?_;refine kT ?_;refine KL ?_;refine io ?_;refine eV 7003 (m1:=0) (m2:=1) ah (by decide) (by show(0+1)*64<=_;omega) rfl rfl rfl rfl rfl rfl rfl rfl rfl rfl rfl (.nil rfl rfl) rfl rfl rfl ?_;refine kW ?_;refine⟨(i+1,([]:List Rat)++[q]),⟨hlt,hs2,by rw[List.length_append];exact Nat.succ_le_succ hql⟩,by dsimp only;omega,?_⟩;show aJ _ ⟨[(8,qV (([]:List Rat)++[q])),(1, .d (gP l)),(6, .box 3006 0),(23, .d (.leaf (.sl vs.length (dY vs)))),(24, .d (dN .i64 vs.length)),(25, .d (dN .i64 (i+1:Nat)))],[(7001,qX (([]:List Rat)++[q])),(3006,some [.val (.int .i64 rp), .val (.int .i64 rc), .val (.int .i64 rn), .val (.int .i64 rq), .val (.bool rs), .val (.bool b1), .val (.bool b2)])]⟩;rw[J4,Jf]
    exact aJ.trans (b:=⟨[(8, .own 7003 (([]:List Rat).length+1) 4 38),(1, .d (gP l)),(6, .box 3006 0),(23, .d (.leaf (.sl vs.length (dY vs)))),(24, .d (dN .i64 vs.length)),(25, .d (dN .i64 (i+1:Nat)))],[(7003,some ((KP ([]:List Rat)).take (([]:List Rat).length*4)++aQ q)),(3006,some [.val (.int .i64 rp), .val (.int .i64 rc), .val (.int .i64 rn), .val (.int .i64 rq), .val (.bool rs), .val (.bool b1), .val (.bool b2)])]⟩) (weak ⟨rfl,rfl,rfl,rfl,rfl,an (by omega) (by omega),trivial⟩ ⟨rfl,rfl,trivial⟩ rfl) ((aV (q:=8) (j:=7003) (j':=7001) (m:=([]:List Rat).length+1) (k:=4) (e:=38) rfl rfl rfl rfl).trans kw)
   |cons q0 qr=>
    have hml:(q0::qr).length<=1000000:=by omega
    refine kI ?_;refine kT ?_;refine KL ?_;refine io ?_;refine eV 7003 (m1:=(q0::qr).length) (m2:=1) ah (by decide) (by show((q0::qr).length+1)*64<=_;omega) rfl rfl rfl rfl rfl rfl rfl rfl rfl rfl rfl (.own rfl rfl) rfl rfl rfl ?_;refine kW ?_;refine⟨(i+1,(q0::qr)++[q]),⟨hlt,hs2,by rw[List.length_append];exact Nat.succ_le_succ hql⟩,by dsimp only;omega,?_⟩;show aJ _ ⟨[(8,qV ((q0::qr)++[q])),(1, .d (gP l)),(6, .box 3006 0),(23, .d (.leaf (.sl vs.length (dY vs)))),(24, .d (dN .i64 vs.length)),(25, .d (dN .i64 (i+1:Nat)))],[(7001,qX ((q0::qr)++[q])),(3006,some [.val (.int .i64 rp), .val (.int .i64 rc), .val (.int .i64 rn), .val (.int .i64 rq), .val (.bool rs), .val (.bool b1), .val (.bool b2)])]⟩;rw[J4,Jf]
    exact aJ.trans (b:=⟨[(8, .own 7003 ((q0::qr:List Rat).length+1) 4 38),(1, .d (gP l)),(6, .box 3006 0),(23, .d (.leaf (.sl vs.length (dY vs)))),(24, .d (dN .i64 vs.length)),(25, .d (dN .i64 (i+1:Nat)))],[(7003,some ((KP (q0::qr)).take ((q0::qr:List Rat).length*4)++aQ q)),(3006,some [.val (.int .i64 rp), .val (.int .i64 rc), .val (.int .i64 rn), .val (.int .i64 rq), .val (.bool rs), .val (.bool b1), .val (.bool b2)])]⟩) (weak ⟨rfl,rfl,rfl,rfl,rfl,an (by omega) (by omega),trivial⟩ ⟨rfl,rfl,trivial⟩ rfl) ((aV (q:=8) (j:=7003) (j':=7001) (m:=(q0::qr:List Rat).length+1) (k:=4) (e:=38) rfl rfl rfl rfl).trans kw)
 ·rw[List.take_of_length_le (by omega)]at hq
  rw[hq];cases qs with
  |nil=>
   refine kI ?_;refine kE ?_;exact ap
  |cons q0 qr=>
   refine kI ?_;refine kE ?_;refine At ?_;refine kI ?_;refine DX ah rfl rfl rfl rfl (cu (q:=44) rfl rfl) ?_;exact ap
theorem UM:fmt 5=[53]:=by
 unfold fmt;rw[if_neg (by decide),if_neg (by decide)];show []++i8 5=_;rw[de (by decide)];show []++(i8 0++[dg 5])=_;rw[cH];rfl
theorem Sk:fmt 0=[48]:=rfl
theorem VC:fg ((5:Int):Rat)=some [53]:=by
 unfold fg;rw[if_neg (by decide),lr,if_pos (by rfl),show(pw ((5:Int):Rat) 0).num=5 from rfl,UM];rfl
def z8:Ex:= .bin .div (.nam [119]) (.num ((2:Int):Rat) [])
def Ae:Ex:= .num ((5:Int):Rat) [99,109]
theorem Vn:aH z8 0=[119,32,47,32,50]:=by
 show aH (.nam [119]) 2++f8 .div++fS 4 3 (tW ((2:Int):Rat)++el [])=_;unfold tW;rw[VL];rfl
theorem U9:aH Ae 0=[53,32,99,109]:=by
 show fS 4 0 (tW ((5:Int):Rat)++el [99,109])=_;unfold tW;rw[VC];rfl
theorem R9 (z:Int) (h:z.natAbs<4294967296):dO 1 (z:Rat):=⟨Sz.small h,Sz.small (by show(1:Int).natAbs<_;decide)⟩
theorem LF:f4 z8:=⟨show kh [119]=true by decide,by rw[VL];rfl,(R9 2 (by decide)).mono (by decide), .inl rfl⟩
theorem PX:f4 Ae:=⟨by rw[VC];rfl,(R9 5 (by decide)).mono (by decide), .inr (by decide)⟩
theorem qP {n:Nat} (h:n<4294967296):(digs n).length<=8:=Nat.le_trans (aP (k:=1) (by simpa using h)) (by decide)
theorem C6 (v:Rat) (u:List UInt8) (hu:u.length<=60):ls (rx (.num v u)):= .mk (by decide) (by decide) (ac _) (ac _) (by omega) (by simp) (fun x hx=>by cases hx)
theorem MT (u:List UInt8) (hu:u.length<=60):ls (rx (.nam u)):= .mk (by decide) (by decide) ia ia (by omega) (by simp) (fun x hx=>by cases hx)
theorem Rj:ls (rx z8):= .mk (by decide) (by decide) ia ia (by decide) (by decide) (fun x hx=>by
 rcases List.mem_cons.1 hx with rfl|hx
 ·exact MT _ (by decide)
 ·cases List.mem_singleton.1 hx;exact C6 _ _ (by decide))
theorem TG:ls (rx Ae):=C6 _ _ (by decide)
theorem Hf {e:Ex} (h1:f4 e) (h2:ls (rx e)) (h4:pO (rx e)<=40) (hlt:qm (rx e)=true) (hsz:fi (rx e)<=120):Fg (rx e)/\iI (rx e)=0:=by
 refine⟨⟨h2,hlt,hsz⟩,?_⟩;unfold iI;rw[if_pos (rO e h1),if_pos h4]
theorem y5:Fg (rx z8)/\iI (rx z8)=0:=Hf LF Rj (by decide) (by
 have h1:(digs 2).length<=8:=qP (by decide);have h2:(digs 1).length<=8:=qP (by decide);have h0:(digs 0).length<=8:=qP (by decide)
 simp[z8,rx,qm,nX]
 exact⟨h1,h2⟩) (by simp[z8,rx,fi,dX])
theorem Rs:Fg (rx Ae)/\iI (rx Ae)=0:=Hf PX TG (by decide) (by
 have h1:(digs 5).length<=8:=qP (by decide);have h2:(digs 1).length<=8:=qP (by decide)
 simp[Ae,rx,qm,nX]
 exact⟨h1,h2⟩) (by simp[Ae,rx,fi,dX])
def c5:Cn:=⟨2,[0,1],[],[rx z8],0⟩
def d5:Cn:=⟨17,[],[0,2],[],-1⟩
def s5:L8:=[116,97,110,103,101,110,116,99,105,114,99,108,101,32,99,48,32,99,50,32,105,110,115,105,100,101]
theorem SV:De c5 200 200=true:=by
 rw[mn (r:=⟨[100,105,115,116,97,110,99,101],2,0,1,2,1,false⟩) (by rfl)]
 simp[c5,y5.2]
 decide
theorem Um:De d5 200 200=true:=by decide
def r5:Kd:=⟨[100,105,115,116,97,110,99,101],2,0,1,2,1,false⟩
def LR:Kd:=⟨[116,97,110,103,101,110,116,99,105,114,99,108,101],0,2,0,0,1,true⟩
theorem QY:pL c5.k=some r5:=by rfl
theorem U8:pL d5.k=some LR:=by rfl
theorem V5:IJ c5 r5 200 200:=by
 obtain⟨r,h⟩:=vZ.1 SV;have:=h.k;rw[QY]at this;cases this;exact h
theorem Vr:IJ d5 LR 200 200:=by
 obtain⟨r,h⟩:=vZ.1 Um;have:=h.k;rw[U8]at this;cases this;exact h
def t5:L8:=[100,105,115,116,97,110,99,101,32,112,48,32,112,49,32,61,32,119,32,47,32,50]
theorem Vy:pD r5 c5 [[119,32,47,32,50]]=t5:=by
 have h:xJ r5 c5=[r5.nm,[112,48],[112,49]]:=by
  show [r5.nm,112::fmt 0,112::fmt 1]=_;rw[Sk,Vd]
 unfold pD;rw[h];rfl
theorem Qq:pD LR d5 []=s5:=by
 have h:xJ LR d5=[LR.nm,[99,48],[99,50],[105,110,115,105,100,101]]:=by
  show [LR.nm,99::fmt 0,99::fmt 2,[105,110,115,105,100,101]]=_;rw[Sk,Sl]
 unfold pD;rw[h];rfl
def T5:Tb:=[([119],rx Ae)]
theorem Jq:KM T5:=fun p hp=>by
 cases List.mem_singleton.1 hp;exact⟨by decide,Rs.1⟩
theorem NN:Eg T5=0:=by
 have hn:kh [119]=true:=by decide
 simp[Eg,Il,T5,Rs.2,hn]
theorem Ux:oY (rx Ae)=[]:=by simp[Ae,rx,oY,fZ,ke]
theorem QF:fJ T5=([[119]],0):=by
 have h1:Gc T5 []=[119]:=by simp[Gc,T5,sP,Fp,xa,Ux]
 have h3:mY T5 T5.length []=some [[119]]:=by
  show mY T5 1 []=_;rw[mY,h1,if_neg (by decide)];rfl
 unfold fJ;rw[if_pos NN,if_pos (by simp[T5,xa,Ux]),h3]
theorem QI:RU [99,109]=some ((10:Int):Rat):=by rfl
def E5:EL:=[([119],(((5:Int):Rat)*((10:Int):Rat),1))]
theorem NI:yQ T5= .ok E5:=by
 unfold yQ;rw[QF,if_pos rfl];have f1:RW T5 [119]=rx Ae:=by simp[RW,T5,ml]
 have e1:ct (bt []) Ae= .ok (((5:Int):Rat)*((10:Int):Rat),1):=by
  rw[Ae,ct,if_neg (by decide),QI]
 simp only[pQ,f1,wX PX,e1]
 rfl
theorem U7:R2 T5:=by
 refine⟨Jq,by decide,fun n x h=>?_⟩;obtain⟨_,_,_,hk,hv,_⟩:=Kf (fun h=>h.fx_of Jq) NI;obtain⟨u,hu⟩:=(hk n).2 (by cases h with|mk f hp _ _=>exact⟨_,hp,rfl⟩);have:x=u:=h.fn (wz NN) (hv _ hu);subst this;cases List.mem_singleton.1 hu;exact⟨((R9 5 (by decide)).mul (R9 10 (by decide))).mono (by decide),rfl⟩
theorem VU:Qb T5 (rx z8)=ew (.ok (((25:Int):Rat),1)):=by
 unfold Qb;rw[if_pos y5.2,NI];dsimp only;have h2:((5:Int):Rat)*((10:Int):Rat)/((2:Int):Rat)=((25:Int):Rat):=by kernel_rfl
 have h:ct (bt E5) z8= .ok (((25:Int):Rat),1):=by
  rw[<- h2];rfl
 rw[wX LF,h]
theorem Vg:Qb [] (rx z8)=ew (.error 4):=by
 unfold Qb
 have hv:yQ []= .ok []:=by
  unfold yQ;rfl
 rw[if_pos y5.2,hv];dsimp only;rw[wX LF];rfl
theorem pk {c:Cn} {r:Kd} (h:IJ c r 200 200) {es:List Ex} (hv:c.vs=es.map rx) (hf:∀e∈es,f4 e) (pf:PF) (hp:∀e∈es,pf (aH e 0)= .ok e) (cP:∀e∈es,aa Tryz.prog 35 [dL (aH e 0)] (.tup [dE e,dN .i64 0,dN .i64 0]))
 (cF:aa Tryz.prog 25 [dC c] (.tup [dL (pD r c (es.map fun e=>aH e 0)),dN .i64 0])) (hlen:(pD r c (es.map fun e=>aH e 0)).length<=65536):aa Tryz.prog 26 [dL (pD r c (es.map fun e=>aH e 0))] (.tup [dC c,dN .i64 0]):=by
 have hc:=CL h (es.map fun e=>aH e 0);have hb:=(Fe (pf:=pf) h hv hf hp).1;have hk:=(AB h.k).1;unfold P0 at hb;rw[hc]at hb
 simp only at hb
 have hrc:=(DL h).1;rw[oF h,hrc]at hb;obtain⟨es',he,heq⟩:=Option.map_eq_some_iff.1 hb;have hes:es'=es:=congrArg Prod.snd heq;subst hes;clear hb heq;have hd:(c.ps.map lz++c.cs.map og++oN c).foldl (sS (tB r.nm)) (II (tB r.nm))={ c with vs:=[] }:=hrc
 have hsp:(es'.map fun e=>aH e 0)≠[]->Lib.split (Lib.join (es'.map fun e=>aH e 0) [44,32]) [44,32]=es'.map fun e=>aH e 0:=fun hne=>xu hne fun t ht=>by
  obtain⟨e,hm,rfl⟩:=List.mem_map.1 ht;exact se e (hf e hm) 0
 refine Aw _ hlen pf _ _ _ hc r.nm _ (oF h) (fun hva t ht=>?_) (fun hva t ht q v hq=>?_) _ hd (some c) (fun es2 h2=>?_) (fun h2=>?_)
 ·rw[hsp fun e=>hva (by rw[e];rfl)]at ht
  obtain⟨e,hm,rfl⟩:=List.mem_map.1 ht;rw[hp e hm];exact cP e hm
 ·rw[hsp fun e=>hva (by rw[e];rfl)]at ht
  obtain⟨e,hm,rfl⟩:=List.mem_map.1 ht;rw[hp e hm]at hq;cases hq
 ·rw[he]at h2
  cases h2;have e0:(⟨tB r.nm,c.ps,c.cs,es'.map rx,c.s⟩:Cn)=c:=by rw[hk,<- hv]
  refine⟨pD r c (es'.map fun e=>aH e 0),0,?_,?_⟩
  rotate_left
  ·rw[if_pos ⟨rfl,rfl⟩]
   exact congrArg some e0.symm
  ·have:DV.agg (cC (tB r.nm) c.ps c.cs (es'.map rx) c.s)=dC c:=congrArg dC e0
   rw[this];exact cF
 ·rw[he]at h2
  cases h2
theorem dT (l:Tb) (h1:(fJ l).1.length<=1) (hs:KM l) (hl:l.length<=500) (hvs:(fJ l).2=0->R2 l):aa Tryz.prog 132 [gP l] (VD (yQ l)):=by
 have co:=Bp l hs (by omega)
 by_cases h0:(fJ l).2=0
 case neg=>
  rw[I7 h0];generalize(fJ l).2=z at *;generalize(fJ l).1=o at *;refine kV func132 ?_;refine kC (co) ?_;refine AC ?_;refine kB true ?_ ?_
  ·exact bne_iff_ne.2 h0
  exact ap
 have hV:=hvs h0;obtain⟨o,ho⟩:∃o,(fJ l).1=o:=⟨_,rfl⟩;obtain⟨hok,ht,hn⟩:=Cm (l:=l) (o:=o) (by rw[<- ho,<- h0]);have hf:=hok.fx_of hs;have hvv:yQ l=pQ l o []:=by unfold yQ;rw[if_pos h0,ho]
 rw[hvv];rw[h0,ho]at co;obtain⟨R,hR⟩:∃R,pQ l o []=R:=⟨_,rfl⟩;rw[hR];rw[ho]at h1;clear hvv hvs h0 ho;refine kV func132 ?_;refine kQ (co) ?_;refine ay (Nat × EL) (fun x=>x.1<=o.length/\wP l (o.take x.1) x.2/\x.2.length=x.1/\pQ l (o.drop x.1) x.2=R) (fun x=>RX l o x.1 (aO (x.2.map (·.1))) (mb x.2)) (fun x=>o.length-x.1) (0,[]) ⟨Nat.zero_le _,by simpa using wP.nil l,rfl,hR⟩ kw ?_;rintro⟨i,env⟩ ⟨hi,hI,hel,hg⟩;dsimp only at hi hI hel hg ⊢;have hnm:=Rl hel;have hvl:jF env= .leaf (.sl i (mb env)):=by unfold jF;rw[hel]
 have hlN:(aO (env.map (·.1))).length=i*1:=by rw[iB,List.length_map,hel,Nat.mul_one]
 have hlV:(mb env).length=i*5:=by rw[CD,hel]
 have hoN:=GW (env.map (·.1));have hoV:=D9 env
 by_cases hil:i<o.length
 case neg=>
  rw[List.drop_of_length_le (by omega),pQ]at hg;subst hg;unfold RX;refine kI ?_;refine kE ?_;refine At ?_
  repeat refine bu (T:=TT) ?_
  refine eT ((je (q:=7) (J:=5001) (m:=i) (cs:=aO (env.map (·.1))) (fun h=>by rw[List.eq_nil_of_length_eq_zero (hel.trans h)];rfl) rfl rfl).tr (je (q:=8) (J:=5002) (m:=i) (cs:=mb env) (fun h=>by rw[List.eq_nil_of_length_eq_zero (hel.trans h)];rfl) rfl rfl)) rfl ?_;refine fR ?_;show RV.tup _=RV.tup [iv env,jF env,_];rw[hnm,hvl];rfl
 obtain⟨nm,hx⟩:∃x,o[i]? =some x:=⟨o[i],by simp[hil]⟩;obtain⟨p,hp,hpn,hfx,hnd,hdep⟩:=ht.at hok hf hx;obtain⟨k,hk⟩:=List.getElem?_of_mem hp;have hkl:=(List.getElem?_eq_some_iff.1 hk).1;have cf:=rE l nm (by omega);rw[show R1 l nm=(k:Nat) by unfold R1;rw[<- hpn,hok.fd hk,if_pos hkl]]at cf;obtain⟨e1,e2,e3⟩:=Ri hs hok hp;have ce:=dr hI.so (l:=env) (by omega) (fun x hx=>hV.hv _ _ (hI.hv x hx)) (lJ p.2) e1 e2;rw[show dE (lJ p.2)=dR p.2 from congrArg dR e3]at ce;rw[show o.drop i=nm::o.drop (i+1) by obtain⟨h,e⟩:=List.getElem?_eq_some_iff.1 hx;rw[List.drop_eq_getElem_cons h,e],pQ,hfx]at hg;have hne:∀y∈env,y.1≠nm:=fun y hy e=>hnd ((hI.ky nm).2 ⟨y.2,by rw[<- e];exact hy⟩)
 have cb:=Tz env hI.so (by omega) nm hne;have hps:=wq env nm;have hIs:= @wP.step l (o.take i) env hI p (by rw[hpn];exact hnd);have hIh:=fun x=> @wP.has l (o.take i) env hI p hp x hdep
 obtain⟨o1,na1,xs1,nb1,ys1,nm1,n1,cs1,hA,hB⟩:=eS p;have hat:∀(j:Nat) (a:AV),(eE p.1 o1 na1 xs1 nb1 ys1 nm1 n1 cs1)[j]? =some a->(Ga l)[k*8+j]? =some a:=fun j a h=>jS l k p hk j a (by rw[hB];exact h)
 rw[show dR p.2= .agg (ab o1 na1 xs1 nb1 ys1 nm1 n1 cs1) from congrArg DV.agg hA]at ce;have hwd:=Ms (ct (bt env) (lJ p.2));have hins:=RA env nm;have hivs:=Rk env nm
 have hnext:∀x:Rat × Int,ct (bt env) (lJ p.2)= .ok x->wP l (o.take (i+1)) (jd env nm x):=fun x hev=>by
  have hI':=hIs (hIh x hev);rw[hpn,<- bn hx]at hI';exact hI'
 have hnl:∀x:Rat × Int,(jd env nm x).length=i+1:=fun x=>by rw[Gk,hel]
 clear hIs hIh hI hdep hnd hne;rw[hnm]at ce cb;rw[hvl]at ce;rw[hel]at hps;cases i with
 |zero=>
  rw[show aO (env.map (·.1))=[] by rw[List.eq_nil_of_length_eq_zero hel];rfl]at ce cb hins;rw[show mb env=[] by rw[List.eq_nil_of_length_eq_zero hel];rfl]at ce hivs
  unfold RX;refine Qh ?_;refine aG (i:=_) (cs':=[.val (vL nm)]) hil (eX hx) (Nat.zero_lt_succ 0) rfl rfl rfl rfl rfl rfl rfl rfl ?_;refine kW ?_;refine kC (cf) ?_;refine aG (i:=k) (cs':=eE p.1 o1 na1 xs1 nb1 ys1 nm1 n1 cs1) hkl hat (Nat.zero_lt_succ 7) rfl rfl rfl rfl rfl rfl rfl rfl ?_
  refine kO4 ?_
  cases hev:ct (bt env) (lJ p.2)with
  |error z=>
   have hz:=eC hev;rw[hev]at ce hg hwd;dsimp only at hg;subst hg;refine kQ (ce) ?_;refine fD (T:=TT) rfl ?_ ?_
   ·exact bne_iff_ne.2 hz
   exact ap
  |ok x=>
   rw[hev]at ce hg hwd;dsimp only at hg;have hI':=hnext x hev;have hins:=hins x;have hivs:=hivs x;have hnl:=hnl x;rw[show pT env nm=0 by omega]at cb hins hivs;refine kQ (ce) ?_;refine kC (cb) ?_;refine kG ?_
   refine kO3 ?_
   refine CH 13003 (cs:=[.val (vL nm)]) ah rfl rfl rfl rfl rfl rfl rfl rfl rfl rfl rfl rfl rfl ?_;refine qg ((Hu [.val (vL nm)] rfl rfl).swap 902 13003 rfl) rfl rfl rfl rfl rfl ⟨rfl,trivial⟩ rfl rfl rfl rfl ?_
   refine kO3 ?_
   refine CH 13008 (cs:=lY x.1 x.2) ah rfl rfl rfl rfl rfl rfl rfl rfl rfl rfl rfl rfl rfl ?_;refine qg (((Ik (lY x.1 x.2) rfl rfl).swap 902 13008 rfl).swap 1003 1013 rfl) rfl rfl rfl rfl rfl ⟨rfl,trivial⟩ rfl rfl rfl rfl ?_;refine kW ?_;refine⟨(0+1,jd env nm x),⟨hil,hI',hnl,hg⟩,by dsimp only;omega,Eq.mpr (congrArg (aJ _) (JB (i:=0+1) hins.symm hivs.symm)) ?_⟩;exact aJ.tr (b:=⟨[(7, .own 1003 (0+1) 1 9),(8, .own 1013 (0+1) 5 92),(0, .d (gP l)),(23, .d (Ac o)),(24, .d (dN .i64 o.length)),(25, .d (dN .i64 (0+1:Nat)))],[(1003,some _),(1013,some _)]⟩) (weak ⟨rfl,rfl,rfl,rfl,rfl,an (by omega) (by omega),trivial⟩ ⟨rfl,rfl,trivial⟩ rfl) (((aV (q:=7) (j:=1003) (j':=5001) rfl rfl rfl rfl).tr (aV (q:=8) (j:=1013) (j':=5002) rfl rfl rfl rfl)).tr kw)
 |succ i=>exact absurd hil (by omega)
theorem rI (l:Tb) (x:Rx) (h1:(fJ l).1.length<=1) (hs:KM l) (hx:Fg x) (hl:l.length<=500) (hvs:(fJ l).2=0->R2 l):aa Tryz.prog 95 [gP l,dR x] (Qb l x):=vE l x (dT l h1 hs hl hvs) hs hx hvs
theorem VY:R2 ([]:Tb):=by
 refine⟨fun p hp=>(by cases hp),(by decide),fun n x h=>?_⟩;cases h with
 |mk f hp _ _=>cases hp
theorem MM (q:Rat):∃na xs nb ys,aQ q=[.val (.bool na),aW xs, .val (.bool nb),aW ys]:=⟨_,_,_,_,rfl⟩
theorem nJ:aa Tryz.prog 11 [] (.one (dB true)):=by
 obtain⟨fa,pa,_,_⟩:=vU LF Rj (by have:=y5.1.sz;omega) (by decide);obtain⟨_,pb,_,_⟩:=vU PX TG (by have:=Rs.1.sz;omega) (by decide);rw[Vn]at fa pa;rw[U9]at pb
 have cV:=lX c5 200 200 (by decide) (by decide) (by decide) (fun x hx=>by
  cases List.mem_singleton.1 hx;exact gW _ Rj y5.1.lm (by have:=y5.1.sz;omega))
 have cVd:=lX d5 200 200 (by decide) (by decide) (by decide) (fun x hx=>by cases hx);rw[SV]at cV;rw[Um]at cVd
 have cF:=iT V5 (fun _=>[119,32,47,32,50]) cV (fun x hx=>by
  cases List.mem_singleton.1 hx;exact fa) (by show(pD r5 c5 [[119,32,47,32,50]]).length<=_;rw[Vy];decide) (by decide)
 have cF:aa Tryz.prog 25 [dC c5] (.tup [dL (pD r5 c5 [[119,32,47,32,50]]),dN .i64 0]):=cF;rw[Vy]at cF;have cFd:=iT Vr (fun _=>[]) cVd (fun x hx=>by cases hx) (by show(pD LR d5 []).length<=_;rw[Qq];decide) (by decide);have cP:=pk Vr (es:=[]) rfl (fun e he=>by cases he) (fun _=> .error (0,2)) (fun e he=>by cases he) (fun e he=>by cases he) cFd (by show(pD LR d5 []).length<=_;rw[Qq];decide);have cP:aa Tryz.prog 26 [dL (pD LR d5 [])] (.tup [dC d5,dN .i64 0]):=cP;rw[Qq]at cP;have hk5:dO 1 ((25:Int):Rat):=R9 25 (by decide);have cE:=rI T5 (rx z8) (by rw[QF];decide) Jq y5.1 (by decide) (fun _=>U7);have cEn:=rI [] (rx z8) (by decide) (fun p hp=>by cases hp) y5.1 (by decide) (fun _=>VY);rw[VU]at cE;rw[Vg]at cEn
 have cv1:=rV (r:=r5) cE (fun e h=>by cases h) (fun y h=>by cases h;exact⟨1,by decide,hk5⟩) (.inr (.inl rfl));have cv2:=rV (r:=r5) cEn (fun e h=>by cases h;decide) (fun y h=>by cases h) (.inr (.inl rfl));have h1:S8 2 (.ok (((25:Int):Rat),1))= .ok ((25:Int):Rat):=by rfl
 have h2:S8 2 (.error 4)= .error 4:=rfl
 have cW:=pA (c:=c5) (l:=T5) QY cV (by decide) (fun _=> .ok ((25:Int):Rat)) (fun x hx=>by
  cases List.mem_singleton.1 hx;rw[<- h1];exact cv1) (fun x hx e h=>by cases h)
 have cWn:=pA (c:=c5) (l:=[]) QY cV (by decide) (fun _=> .error 4) (fun x hx=>by
  cases List.mem_singleton.1 hx;exact cv2) (fun x hx e h=>by cases h;decide)
 have cI:=fM [100,105,115,116,97,110,99,101] (by decide);rw[show kh [100,105,115,116,97,110,99,101]=true by decide]at cI;have cQ:=ij 25 (by decide) (by decide) (q:=((25:Int):Rat)) rfl;have cS:aa Tryz.prog 24 [dQ ((25:Int):Rat),dQ ((25:Int):Rat)] (.one (dB true)):=oL (Nat.le_trans hk5.1.digs (by decide)) (Nat.le_trans hk5.2.digs (by decide));clear cFd cv1 cv2 cE cEn fa cV cVd h1 h2;obtain⟨o1,na1,xs1,nb1,ys1,nm1,n1,cs1,hX⟩:=aM (rx z8);obtain⟨o2,na2,xs2,nb2,ys2,nm2,n2,cs2,hY⟩:=aM (rx Ae);obtain⟨na3,xs3,nb3,ys3,hZ⟩:=MM ((25:Int):Rat)
 have hC:dC c5= .agg [.val (.int .i64 2), .sl 2 [.val (.int .i64 0), .val (.int .i64 1)], .sl 0 [], .sl 1 (ab o1 na1 xs1 nb1 ys1 nm1 n1 cs1), .val (.int .i64 0)]:=by
  show DV.agg [.val (.int .i64 2), .sl 2 [.val (.int .i64 0), .val (.int .i64 1)], .sl 0 [], .sl 1 (aR (rx z8)++[]), .val (.int .i64 0)]=_;rw[hX,List.append_nil]
 have hT:gP T5= .leaf (.sl 1 (eE [119] o2 na2 xs2 nb2 ys2 nm2 n2 cs2)):=by
  show DV.leaf (.sl 1 ((.val (vL [119])::aR (rx Ae))++[]))=_;rw[hY,List.append_nil];rfl
 have hW:VB (xo (fun _=> .ok ((25:Int):Rat)) c5.vs)= .tup [.leaf (.sl 1 [.val (.bool na3),aW xs3, .val (.bool nb3),aW ys3]),dN .i64 0]:=by
  show RV.tup [.leaf (.sl 1 (aQ ((25:Int):Rat)++[])),dN .i64 0]=_;rw[hZ,List.append_nil]
 have hQ:dQ ((25:Int):Rat)= .agg [.val (.bool na3),aW xs3, .val (.bool nb3),aW ys3]:=congrArg DV.agg hZ;rw[hC,hT,hW]at cW;rw[hC]at cWn;have cWn:aa Tryz.prog 22 [_, .leaf (.sl 0 [])] (.tup [.leaf (.sl 0 []),dN .i64 4]):=cWn;rw[hQ]at cQ cS;rw[hC]at cF;have pa:aa Tryz.prog 35 [dL [119,32,47,32,50]] (.tup [.agg (aR (rx z8)),dN .i64 0,dN .i64 0]):=pa;have pb:aa Tryz.prog 35 [dL [53,32,99,109]] (.tup [.agg (aR (rx Ae)),dN .i64 0,dN .i64 0]):=pb;rw[hX]at pa;rw[hY]at pb;have cP:aa Tryz.prog 26 [dL s5] (.tup [.agg [.val (.int .i64 17), .sl 0 [], .sl 2 [.val (.int .i64 0), .val (.int .i64 2)], .sl 0 [], .val (.int .i64 (-1))],dN .i64 0]):=cP;clear hX hY hZ hC hT hW hQ;refine kV func11 ?_;refine kQ (pa) ?_;refine kQ (pb) ?_;refine kQ (cF) ?_
 refine kQ (cW) ?_;refine kQ (cWn) ?_;refine kC (cP) ?_;refine kG ?_
 iterate 20 refine kO ?_
 refine aq rfl rfl rfl rfl rfl rfl rfl (bv (a:=t5) (b:=t5) rfl) ?_;refine kW ?_;refine aG (i:=0) (cs':=[.val (.bool na3),aW xs3, .val (.bool nb3),aW ys3]) Nat.zero_lt_one (fun j a h=>by rw[Nat.zero_mul,Nat.zero_add];exact h) (Nat.zero_lt_succ 3) rfl rfl rfl rfl rfl rfl rfl rfl ?_;refine kO ?_;refine kC (cQ) ?_;refine kQ (cS) ?_;refine kC (cI) ?_;exact ap
def N0 (r:Kd):List AV:=[.val (.string ⟨r.nm.toArray⟩), .val (.int .i64 r.p), .val (.int .i64 r.c), .val (.int .i64 r.n), .val (.int .i64 r.v), .val (.int .i64 r.q), .val (.bool r.s)]
def TE:List AV:=[.val (.string ByteArray.empty), .val (.int .i64 0), .val (.int .i64 0), .val (.int .i64 0), .val (.int .i64 0), .val (.int .i64 0), .val (.bool false)]
def Uc:DV:= .leaf (.sl 17 (mZ.flatMap N0))
def VZ (o:Option Kd):RV:=match o with
 |some r=> .tup [.agg (N0 r),dB true]
 |none=> .tup [.agg TE,dB false]
theorem Mx {i:Nat} {r:Kd} (h:mZ[i]? =some r):∀(j:Nat) (a:AV),(N0 r)[j]? =some a->(mZ.flatMap N0)[i*7+j]? =some a:=xh (f:=N0) (q:=7) (fun _=>rfl) mZ i r h
set_option maxRecDepth 100000 in
theorem j9:aa Tryz.prog 37 [] (.one Uc):=by
 refine kU func37 ?_;exact ap
theorem uC (k:Int):aa Tryz.prog 31 [dN .i64 k] (VZ (pL k)):=by
 by_cases h1:k<1
 ·rw[Aj h1]
  refine kU func31 ?_;exact IM
 ·by_cases h2:17<k
  ·rw[BI h2]
   refine kU func31 ?_;refine zJ ?_;refine kC (j9) ?_;refine kO ?_;refine kT ?_;exact ap
  ·obtain⟨i,rfl⟩:=Int.eq_ofNat_of_zero_le (show 0<=k by omega)
   obtain⟨r,hr,hi⟩:=qp (i:=i) (by omega) (by omega);rw[hr];refine kU func31 ?_;refine zJ ?_;refine kC (j9) ?_;refine ug ?_;refine kC (j9) ?_;refine kO ?_;refine kJ ((i-1:Nat)) ?_;refine aG (i:=i-1) (cs':=N0 r) (by omega) (Mx hi) (Nat.zero_lt_succ 6) rfl rfl rfl rfl rfl rfl rfl rfl ?_;exact ap
theorem lG (l:List Int) (m:Int) (hl:l.length<=1000000):aa Tryz.prog 47 [pB l,dN .i64 m] (.one (dB (l.all (rT m)))):=by
 refine kV func47 ?_;refine ay Nat (fun i=>i<=l.length/\ ∀z∈l.take i,rT m z=true) (fun i=>⟨[(0, .d (pB l)),(1, .d (dN .i64 m)),(5, .d (dN .i64 i))],[]⟩) (fun i=>l.length-i) 0 ⟨Nat.zero_le _,by simp⟩ kw ?_;rintro i ⟨hi,hn⟩;refine kI ?_
 refine kO3 ?_
 by_cases hlt:i<l.length
 ·refine kT ?_
  obtain⟨z,hz⟩:∃z,l[i]? =some z:=⟨l[i],by simp[hlt]⟩
  have hbad:rT m z=false->l.all (rT m)=false:=fun h=>Bool.eq_false_iff.2 fun h2=>by
   have:=List.all_eq_true.1 h2 z (List.mem_of_getElem? hz);rw[h]at this;cases this
  refine kG ?_
  refine kO2 ?_
  refine wV ?_;refine kO ?_
  by_cases h0:z<0
  ·refine kT ?_
   refine fR ?_;exact congrArg (fun b=>RV.one (dB b)) (hbad (by unfold rT;rw[decide_eq_false (by omega)];rfl)).symm
  ·refine kE ?_
   refine kO3 ?_
   refine wV ?_
   refine kO2 ?_
   by_cases h1:m<=z
   ·refine kT ?_
    refine fR ?_;exact congrArg (fun b=>RV.one (dB b)) (hbad (by unfold rT;rw[decide_eq_false (show ¬z<m by omega),Bool.and_false])).symm
   ·refine kE ?_
    refine kW ?_;refine⟨i+1,⟨hlt,?_⟩,by omega,weak ⟨rfl,rfl,an (by omega) (by omega),trivial⟩ trivial rfl⟩;rw[bn hz];intro x hx;rcases List.mem_append.1 hx with hx|hx
    ·exact hn x hx
    ·rw[List.mem_singleton.1 hx]
     unfold rT;rw[decide_eq_true (by omega),decide_eq_true (by omega)];rfl
 ·refine kE ?_
  refine fR ?_;rw[List.take_of_length_le (by omega)]at hn;exact congrArg (fun b=>RV.one (dB b)) (List.all_eq_true.2 hn).symm
theorem iM (l:List Int) (hl:l.length<=1000000):aa Tryz.prog 49 [pB l] (.one (dB (decide l.Nodup))):=by
 refine kV func49 ?_;refine ay Nat (fun i=>i<=l.length/\(l.take i).Nodup) (fun i=>⟨[(0, .d (pB l)),(3, .d (dN .i64 i))],[]⟩) (fun i=>l.length-i) 0 ⟨Nat.zero_le _,by simp⟩ kw ?_;rintro i ⟨hi,hn⟩;refine kI ?_
 refine kO3 ?_
 by_cases hlt:i<l.length
 ·refine kT ?_
  obtain⟨z,hz⟩:∃z,l[i]? =some z:=⟨l[i],by simp[hlt]⟩;have hd:=s6 hn hz;refine kW ?_;refine ay Nat (fun k=>k<=i/\z ∉ l.take k) (fun k=>⟨[(0, .d (pB l)),(3, .d (dN .i64 i)),(4, .d (dN .i64 k))],[]⟩) (fun k=>i-k) 0 ⟨Nat.zero_le _,by simp⟩ kw ?_;rintro k ⟨hk,hm⟩;refine kI ?_
  refine kO2 ?_
  by_cases hki:k<i
  ·refine kT ?_
   obtain⟨x,hx⟩:∃x,l[k]? =some x:=⟨l[k],by simp[show k<l.length by omega]⟩;refine kG ?_
   refine kO2 ?_
   refine wV ?_
   refine kO3 ?_
   refine aG (i:=k) (cs':=[.val (.int .i64 x)]) (by omega) (bf hx) (Nat.zero_lt_succ 0) rfl rfl rfl rfl rfl rfl rfl rfl ?_;refine kO ?_
   by_cases e:z=x
   ·refine kB true ?_ ?_
    ·exact(by simp[e])
    refine fR ?_;refine congrArg (fun b=>RV.one (dB b)) (decide_eq_false (hd.2 ?_)).symm;rw[e];exact List.mem_of_getElem? (i:=k) (by rw[List.getElem?_take,if_pos hki];exact hx)
   ·refine kB false ?_ ?_
    ·exact(by simp[e])
    refine kW ?_;refine⟨k+1,⟨hki,?_⟩,by omega,weak ⟨rfl,rfl,an (by omega) (by omega),trivial⟩ trivial rfl⟩;rw[bn hx,List.mem_append,not_or];exact⟨hm,fun h=>e (List.mem_singleton.1 h)⟩
  ·refine kE ?_
   refine kW ?_;have hki:k=i:=by omega
   exact⟨i+1,⟨hlt,hd.1 (hki ▸ hm)⟩,by omega,weak ⟨rfl,an (by omega) (by omega),trivial⟩ trivial rfl⟩
 ·refine kE ?_
  refine fR ?_;exact Nn
end Go.Proofs.YtnchbpoopnjghaaGreatDoor
