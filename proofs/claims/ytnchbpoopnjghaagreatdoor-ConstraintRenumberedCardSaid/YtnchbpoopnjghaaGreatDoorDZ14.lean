/- Parts of a proof: contracts of the functions that the laws reach. -/
import Derived.Test.YtnchbpoopnjghaaGreatDoorDZ13
set_option maxHeartbeats 100000000
set_option linter.all false
open Go.Proofs.Tryz
namespace Go.Proofs.YtnchbpoopnjghaaGreatDoor
open Go.RowKit
theorem KU {l:Tb} {i:Nat} {p:Pm} (h:l[i]? =some p):aJ ((l.take (i+1)).map (·.1))=aJ ((l.take i).map (·.1))++[.val (vL p.1)]:=by
 rw[bJ h,List.map_append,ni];rfl
theorem G3 {a:L8}:((Bs a).toList == (ByteArray.mk #[]).toList)=true↔a=[]:=by
 rw[show(ByteArray.mk #[]).toList=[] from ByteArray.toList_mk [],fi]
 simp
theorem Cr {a:L8} (h:¬a=[]):((Bs a).toList == (ByteArray.mk #[]).toList)=false:=by
 cases e:((Bs a).toList == (ByteArray.mk #[]).toList)
 ·rfl
 ·exact absurd (G3.1 e) h
theorem Ba (l:Tb) (hs:JP l) (hl:l.length<=1000):aa Tryz.prog 179 [gO l] (.tup [zd (fK l).1,dN .i64 (fK l).2]):=by
 have cv:=AZ l hs (by omega)
 by_cases hv:Df l=0
 case neg=>
  rw[show fK l=([],Df l) by unfold fK;rw[if_neg hv]];generalize Df l=z at *;refine kV func179 ?_;refine kC (cv) ?_;refine xp ?_;refine kB true ?_ ?_
  ·exact bne_iff_ne.2 hv
  exact am
 have ho:=uT hv;rw[hv]at cv;have hord:fK l=if l.all (fun p=>wq p.2 (l.map (·.1)))=true then((match mw l l.length []with|some o=>(o,0)|none=>([],9)):List L8 × Int)else([],4):=by unfold fK;rw[if_pos hv];rfl
 obtain⟨RS,hRS⟩:∃RS,fK l=RS:=⟨_,rfl⟩;rw[hRS]at hord ⊢;clear hRS hv;have hby:∀k,k<=1001->k*16<=140737488355328:=fun k hk=>by omega
 refine kV func179 ?_;refine kQ (cv) ?_;refine ax Nat (fun i=>i<=l.length) (fun i=>⟨[(5,gV 5001 1 9 i),(0, .d (gO l)),(19, .d (gO l)),(20, .d (dN .i64 l.length)),(21, .d (dN .i64 i))],[(5001,gX (aJ ((l.take i).map (·.1))) i)]⟩) (fun i=>l.length-i) 0 (Nat.zero_le _) kw ?_;intro i hi;refine kI ?_
 by_cases hil:i<l.length
 ·refine kT ?_
  obtain⟨p,hx⟩:∃p,l[i]? =some p:=⟨l[i],by simp[hil]⟩;obtain⟨o1,na1,xs1,nb1,ys1,nm1,n1,cs1,hA,hB⟩:=eM p;have hat:∀(j:Nat) (a:AV),(eF p.1 o1 na1 xs1 nb1 ys1 nm1 n1 cs1)[j]? =some a->(Fg l)[i*8+j]? =some a:=fun j a h=>j4 l i p hx j a (by rw[hB];exact h)
  have hsn:=KU hx;have hpl:(aJ ((l.take i).map (·.1))).length=i*1:=by rw[im,List.length_map,List.length_take];omega
  generalize aJ ((l.take i).map (·.1))=O at *;have hst:(⟨[(5,gV 5001 1 9 (i+1)),(0, .d (gO l)),(19, .d (gO l)),(20, .d (dN .i64 l.length)),(21, .d (dN .i64 (i+1:Nat)))],[(5001,gX (aJ ((l.take (i+1)).map (·.1))) (i+1))]⟩:AS)=⟨[(5,gV 5001 1 9 (i+1)),(0, .d (gO l)),(19, .d (gO l)),(20, .d (dN .i64 l.length)),(21, .d (dN .i64 (i+1:Nat)))],[(5001,gX (O++[.val (vL p.1)]) (i+1))]⟩:=by rw[hsn]
  refine Ib ?_;refine Po 5002 (J:=5001) (m1:=i) (m2:=1) (cs:=O) (xs:=[.val (vL p.1)]) ah (hby _ (by omega)) hpl rfl rfl rfl rfl rfl rfl rfl rfl rfl rfl rfl rfl rfl rfl rfl rfl rfl ?_;refine kW ?_;refine⟨i+1,hil,by omega,?_⟩;refine Eq.mpr (congrArg (aU _) hst) ?_;exact aU.tr (b:=⟨[(5,gV 5002 1 9 (i+1)),(0, .d (gO l)),(19, .d (gO l)),(20, .d (dN .i64 l.length)),(21, .d (dN .i64 (i+1:Nat)))],[(5002,gX (O++[.val (vL p.1)]) (i+1))]⟩) (weak ⟨rfl,rfl,rfl,rfl,aA (by omega) (by omega),trivial⟩ ⟨rfl,trivial⟩ rfl) ((zS (q:=5) (J:=5002) (J':=5001) rfl rfl rfl).tr kw)
 obtain rfl:i=l.length:=by omega
 rw[List.take_length];clear hi hil;have hAl:l.length=(l.map (·.1)).length:=(List.length_map ..).symm;have hA0:(l.map (·.1)).length<=1000:=by omega
 refine kE ?_;refine tq ?_
 repeat refine bu (T:=TT) ?_
 refine ez (jb (q:=5) (J:=5001) (m:=l.length) (cs:=aJ (l.map (·.1))) (fun h=>by rw[List.eq_nil_of_length_eq_zero h];rfl) rfl rfl) rfl ?_;refine kW ?_;refine ax Nat (fun i=>i<=l.length/\ ∀p∈l.take i,wq p.2 (l.map (·.1))=true) (fun i=>⟨[(5, .d (zd (l.map (·.1)))),(0, .d (gO l)),(31, .d (gO l)),(32, .d (dN .i64 l.length)),(33, .d (dN .i64 i))],[]⟩) (fun i=>l.length-i) 0 ⟨Nat.zero_le _,by simp⟩ (weak ⟨congrArg (fun k=>TV.d (.leaf (.sl k (aJ (l.map fun x:Pm=>x.1))))) hAl,rfl,rfl,rfl,rfl,trivial⟩ trivial rfl) ?_;rintro i ⟨hi,hall⟩
 by_cases hil:i<l.length
 ·obtain⟨p,hx⟩:∃p,l[i]? =some p:=⟨l[i],by simp[hil]⟩
  have hp:=List.mem_of_getElem? hx;have cr:=lR p (l.map (·.1)) (hs p hp).2 (by omega);obtain⟨o1,na1,xs1,nb1,ys1,nm1,n1,cs1,hA,hB⟩:=eM p;have hat:∀(j:Nat) (a:AV),(eF p.1 o1 na1 xs1 nb1 ys1 nm1 n1 cs1)[j]? =some a->(Fg l)[i*8+j]? =some a:=fun j a h=>j4 l i p hx j a (by rw[hB];exact h)
  rw[show KM p= .agg (eF p.1 o1 na1 xs1 nb1 ys1 nm1 n1 cs1) from congrArg DV.agg hB]at cr
  have hstep:wq p.2 (l.map (·.1))=true-> ∀q∈l.take (i+1),wq q.2 (l.map (·.1))=true:=fun h q hq=>by
   rw[bJ hx]at hq;rcases List.mem_append.1 hq with hq|hq
   ·exact hall q hq
   ·rw[List.mem_singleton.1 hq];exact h
  have hbad:wq p.2 (l.map (·.1))=false->RS=([],4):=fun h=>by
   rw[hord,if_neg];intro h2;have:=List.all_eq_true.1 h2 p hp;rw[h]at this;cases this
  generalize wq p.2 (l.map (·.1))=rb at *;generalize l.map (·.1)=A at *;cases rb with
  |true=>
   refine kI ?_;refine kT ?_;refine Ib ?_;refine kQ (cr) ?_;exact⟨i+1,⟨hil,hstep rfl⟩,by omega,weak ⟨rfl,rfl,rfl,rfl,aA (by omega) (by omega),trivial⟩ trivial rfl⟩
  |false=>
   refine kI ?_;refine kT ?_;refine Ib ?_;refine kC (cr) ?_;refine fO ?_;rw[hbad rfl];rfl
 rw[List.take_of_length_le (by omega)]at hall;have hord:RS=(match mw l l.length []with|some o=>(o,0)|none=>([],9)):=by rw[hord,if_pos (List.all_eq_true.2 hall)]
 clear hall hAl hA0;refine ut ?_;clear hil hi;refine ax (List L8) (fun o=>o.length<=l.length/\mw l (l.length-o.length) o=mw l l.length []) (fun o=>⟨[(10,zP 6001 o),(0, .d (gO l))],[(6001,F1 o)]⟩) (fun o=>l.length-o.length) [] ⟨Nat.zero_le _,rfl⟩ kw ?_;rintro o ⟨hol,hog⟩;have ho1:o.length<=1000000:=by omega
 by_cases hlo:o.length<l.length
 case neg=>
  have hend:RS=(o,0):=by rw[hord,<- hog,show l.length-o.length=0 by omega];rfl
  cases o with
  |nil=>
   refine kI ?_
   refine kO4 ?_
   refine kB false ?_ ?_
   ·exact decide_eq_false (by have:([]:List L8).length=0:=rfl;omega)
   refine fO ?_;rw[hend];rfl
  |cons a r=>
   refine kI ?_
   refine kO4 ?_
   refine kE ?_;refine tq ?_
   repeat refine bu (T:=TT) ?_
   refine ez (b5 (q:=10) rfl rfl) rfl ?_;refine fO ?_;rw[hend];rfl
 obtain⟨kk,hkk⟩:∃kk,l.length-o.length=kk+1:=⟨l.length-o.length-1,by omega⟩;rw[hkk,mw]at hog
 have hcont:Fc l o≠[]->mw l (l.length-(o++[Fc l o]).length) (o++[Fc l o])=mw l l.length []:=fun hn=>by
  rw[if_neg hn]at hog;rw[List.length_append,List.length_singleton,show l.length-(o.length+1)=kk by omega];exact hog
 have hcyc:Fc l o=[]->RS=([],9):=fun h=>by rw[if_pos h]at hog;rw[hord,<- hog]
 cases o with
 |nil=>
  refine kI ?_
  refine kO4 ?_
  refine kB true ?_ ?_
  ·exact decide_eq_true (by have:([]:List L8).length=0:=rfl;omega)
  refine kW ?_;refine ax Nat (fun i=>i<=l.length) (fun i=>⟨[(10, .nil),(0, .d (gO l)),(47, .d (gO l)),(48, .d (dN .i64 l.length)),(49, .d (dN .i64 i)),(11, .d (dL ((l.take i).foldl (sx ([])) [])))],[]⟩) (fun i=>l.length-i) 0 (Nat.zero_le _) kw ?_;intro i hi;obtain⟨nx,hnx⟩:∃nx,(l.take i).foldl (sx ([])) []=nx:=⟨_,rfl⟩;rw[hnx]
  by_cases hlt:i<l.length
  ·obtain⟨p,hx⟩:∃p,l[i]? =some p:=⟨l[i],by simp[hlt]⟩
   have hnext:=yi hx hnx;have hp:=List.mem_of_getElem? hx;have hsx:=(hs p hp).2;obtain⟨o1,na1,xs1,nb1,ys1,nm1,n1,cs1,hA,hB⟩:=eM p;have hat:∀(j:Nat) (a:AV),(eF p.1 o1 na1 xs1 nb1 ys1 nm1 n1 cs1)[j]? =some a->(Fg l)[i*8+j]? =some a:=fun j a h=>j4 l i p hx j a (by rw[hB];exact h)
   have c1:=iY ([]) p.1 ho1;have c2:=lR p ([]) hsx ho1;rw[show KM p= .agg (eF p.1 o1 na1 xs1 nb1 ys1 nm1 n1 cs1) from congrArg DV.agg hB]at c2;have hcd:E3 ([]) p=(!(decide (p.1∈([]:List L8))) && wq p.2 ([])):=rfl
   have keep:E3 ([]) p=false∨(nx≠[]/\Op.bytesLess p.1 nx=false)->nx=(l.take (i+1)).foldl (sx ([])) []:=fun h=>by
    exact NU
   have take:E3 ([]) p=true->(nx=[]∨Op.bytesLess p.1 nx=true)->p.1=(l.take (i+1)).foldl (sx ([])) []:=fun h1 h2=>by
    rw[hnext,sx,if_pos ⟨h1,h2⟩]
   generalize wq p.2 ([])=rb at *
   have hall:decide (p.1∈([]:List L8))=true∨(decide (p.1∈([]:List L8))=false/\rb=false)∨(decide (p.1∈([]:List L8))=false/\rb=true/\nx=[]) ∨
    (decide (p.1∈([]:List L8))=false/\rb=true/\nx≠[]/\Op.bytesLess p.1 nx=false)∨(decide (p.1∈([]:List L8))=false/\rb=true/\nx≠[]/\Op.bytesLess p.1 nx=true):=by
    cases decide (p.1∈([]:List L8))<;>cases rb<;>cases Op.bytesLess p.1 nx<;>by_cases h:nx=[]<;>simp[h]
   rcases hall with hb1| ⟨hb1,rfl⟩| ⟨hb1,rfl,h0⟩| ⟨hb1,rfl,h0,hls⟩| ⟨hb1,rfl,h0,hls⟩
   ·rw[hb1]at c1
    refine kI ?_;refine kT ?_;refine Rq ?_;refine gG ?_;exact NR
   ·rw[hb1]at c1
    refine kI ?_;refine kT ?_;refine Ev ?_;refine BP ?_;refine kW ?_;exact NR
   ·rw[hb1]at c1
    refine kI ?_;refine kT ?_;refine Ev ?_;refine BP ?_
    refine kO3 ?_
    refine aD rfl rfl rfl rfl rfl rfl rfl (bv (a:=nx) (b:=[]) h0) ?_;refine kW ?_;exact⟨i+1,hlt,by omega,weak ⟨rfl,rfl,rfl,rfl,aA (by omega) (by omega),congrArg (fun z=>TV.d (dL z)) (take (by rw[hcd,hb1];rfl) (.inl h0)),trivial⟩ trivial rfl⟩
   ·rw[hb1]at c1
    refine kI ?_;refine kT ?_;refine Ev ?_;refine BP ?_;refine J2 ?_;exact⟨i+1,hlt,by omega,weak ⟨rfl,rfl,rfl,rfl,aA (by omega) (by omega),congrArg (fun z=>TV.d (dL z)) (keep (.inr ⟨h0,hls⟩)),trivial⟩ trivial rfl⟩
   ·rw[hb1]at c1
    refine kI ?_;refine kT ?_;refine Ev ?_;refine BP ?_;refine J2 ?_;exact⟨i+1,hlt,by omega,weak ⟨rfl,rfl,rfl,rfl,aA (by omega) (by omega),congrArg (fun z=>TV.d (dL z)) (take (by rw[hcd,hb1];rfl) (.inr hls)),trivial⟩ trivial rfl⟩
  ·rw[List.take_of_length_le (by omega)]at hnx
   have hnN:Fc l ([])=nx:=hnx
   by_cases h0:nx=[]
   ·exact Om
   ·rw[hnN]at hcont
    refine ut ?_;refine ji (T:=TT) rfl ?_ ?_
    ·exact(Cr h0)
    refine kW ?_;refine eT 6002 (m1:=([]:List L8).length) (m2:=1) ah (by decide) (Nat.le_trans (Nat.mul_le_mul_right _ (show([]:List L8).length+1<=1000001 by omega)) (by decide)) rfl rfl rfl rfl rfl rfl rfl rfl rfl rfl rfl (.nil rfl rfl) rfl rfl rfl ?_;refine kW ?_;refine⟨([])++[nx],⟨by simp only[List.length_append,List.length_cons,List.length_nil]at hlo ⊢;omega,hcont h0⟩,by simp only[List.length_append,List.length_cons,List.length_nil]at hlo ⊢;omega,Eq.mpr (congrArg (aU _) (Bk [(0, .d (gO l))] [] 10 6001 ([]) nx [])) ?_⟩;exact aU.trans (b:=⟨[(10, .own 6002 (([]:List L8).length+1) 1 9),(0, .d (gO l))],[(6002,some ((aJ ([])).take (([]:List L8).length*1)++[.val (vL nx)]))]⟩) kw ((aT (q:=10) (j:=6002) (j':=6001) rfl rfl rfl rfl).trans kw)
 |cons a r=>
  refine kI ?_
  refine kO4 ?_
  refine kX ?_;refine ax Nat (fun i=>i<=l.length) (fun i=>⟨[(10, .own 6001 (List.cons a r).length 1 9),(0, .d (gO l)),(47, .d (gO l)),(48, .d (dN .i64 l.length)),(49, .d (dN .i64 i)),(11, .d (dL ((l.take i).foldl (sx (List.cons a r)) [])))],[(6001,some (aJ (List.cons a r)))]⟩) (fun i=>l.length-i) 0 (Nat.zero_le _) kw ?_;intro i hi;obtain⟨nx,hnx⟩:∃nx,(l.take i).foldl (sx (List.cons a r)) []=nx:=⟨_,rfl⟩;rw[hnx]
  by_cases hlt:i<l.length
  ·obtain⟨p,hx⟩:∃p,l[i]? =some p:=⟨l[i],by simp[hlt]⟩
   have hnext:=yi hx hnx;have hp:=List.mem_of_getElem? hx;have hsx:=(hs p hp).2;obtain⟨o1,na1,xs1,nb1,ys1,nm1,n1,cs1,hA,hB⟩:=eM p;have hat:∀(j:Nat) (a:AV),(eF p.1 o1 na1 xs1 nb1 ys1 nm1 n1 cs1)[j]? =some a->(Fg l)[i*8+j]? =some a:=fun j a h=>j4 l i p hx j a (by rw[hB];exact h)
   have c1:=iY (List.cons a r) p.1 ho1;have c2:=lR p (List.cons a r) hsx ho1;rw[show KM p= .agg (eF p.1 o1 na1 xs1 nb1 ys1 nm1 n1 cs1) from congrArg DV.agg hB]at c2;have hcd:E3 (List.cons a r) p=(!(decide (p.1∈(List.cons a r:List L8))) && wq p.2 (List.cons a r)):=rfl
   have keep:E3 (List.cons a r) p=false∨(nx≠[]/\Op.bytesLess p.1 nx=false)->nx=(l.take (i+1)).foldl (sx (List.cons a r)) []:=fun h=>by
    exact NU
   have take:E3 (List.cons a r) p=true->(nx=[]∨Op.bytesLess p.1 nx=true)->p.1=(l.take (i+1)).foldl (sx (List.cons a r)) []:=fun h1 h2=>by
    rw[hnext,sx,if_pos ⟨h1,h2⟩]
   generalize wq p.2 (List.cons a r)=rb at *
   have hall:decide (p.1∈(List.cons a r:List L8))=true∨(decide (p.1∈(List.cons a r:List L8))=false/\rb=false)∨(decide (p.1∈(List.cons a r:List L8))=false/\rb=true/\nx=[]) ∨
    (decide (p.1∈(List.cons a r:List L8))=false/\rb=true/\nx≠[]/\Op.bytesLess p.1 nx=false)∨(decide (p.1∈(List.cons a r:List L8))=false/\rb=true/\nx≠[]/\Op.bytesLess p.1 nx=true):=by
    cases decide (p.1∈(List.cons a r:List L8))<;>cases rb<;>cases Op.bytesLess p.1 nx<;>by_cases h:nx=[]<;>simp[h]
   rcases hall with hb1| ⟨hb1,rfl⟩| ⟨hb1,rfl,h0⟩| ⟨hb1,rfl,h0,hls⟩| ⟨hb1,rfl,h0,hls⟩
   ·rw[hb1]at c1
    refine kI ?_;refine kT ?_;refine Ev ?_;refine Of ?_;exact Nk
   ·rw[hb1]at c1
    refine KP ?_;exact Nk
   ·rw[hb1]at c1
    refine KP ?_
    refine kO3 ?_
    refine aD rfl rfl rfl rfl rfl rfl rfl (bv (a:=nx) (b:=[]) h0) ?_;refine kW ?_;exact⟨i+1,hlt,by omega,weak ⟨rfl,rfl,rfl,rfl,aA (by omega) (by omega),congrArg (fun z=>TV.d (dL z)) (take (by rw[hcd,hb1];rfl) (.inl h0)),trivial⟩ ⟨rfl,trivial⟩ rfl⟩
   ·rw[hb1]at c1
    refine KP ?_;refine J2 ?_;exact⟨i+1,hlt,by omega,weak ⟨rfl,rfl,rfl,rfl,aA (by omega) (by omega),congrArg (fun z=>TV.d (dL z)) (keep (.inr ⟨h0,hls⟩)),trivial⟩ ⟨rfl,trivial⟩ rfl⟩
   ·rw[hb1]at c1
    refine KP ?_;refine J2 ?_;exact⟨i+1,hlt,by omega,weak ⟨rfl,rfl,rfl,rfl,aA (by omega) (by omega),congrArg (fun z=>TV.d (dL z)) (take (by rw[hcd,hb1];rfl) (.inr hls)),trivial⟩ ⟨rfl,trivial⟩ rfl⟩
  ·rw[List.take_of_length_le (by omega)]at hnx
   have hnN:Fc l (List.cons a r)=nx:=hnx
   by_cases h0:nx=[]
   ·exact Om
   ·rw[hnN]at hcont
    refine ut ?_;refine ji (T:=TT) rfl ?_ ?_
    ·exact(Cr h0)
    refine kW ?_;refine eT 6002 (m1:=(List.cons a r:List L8).length) (m2:=1) ah (by decide) (Nat.le_trans (Nat.mul_le_mul_right _ (show(List.cons a r:List L8).length+1<=1000001 by omega)) (by decide)) rfl rfl rfl rfl rfl rfl rfl rfl rfl rfl rfl (.own rfl rfl) rfl rfl rfl ?_;refine kW ?_;refine⟨(List.cons a r)++[nx],⟨by simp only[List.length_append,List.length_cons,List.length_nil]at hlo ⊢;omega,hcont h0⟩,by simp only[List.length_append,List.length_cons,List.length_nil]at hlo ⊢;omega,Eq.mpr (congrArg (aU _) (Bk [(0, .d (gO l))] [] 10 6001 (List.cons a r) nx [])) ?_⟩
    exact aU.trans (b:=⟨[(10, .own 6002 ((List.cons a r:List L8).length+1) 1 9),(0, .d (gO l))],[(6002,some ((aJ (List.cons a r)).take ((List.cons a r:List L8).length*1)++[.val (vL nx)]))]⟩) kw ((aT (q:=10) (j:=6002) (j':=6001) rfl rfl rfl rfl).trans kw)
theorem wa (l:Tb) (x:Rx) (c2:aa Tryz.prog 132 [gO l] (T8 (yr l))) (hs:JP l) (hx:AF x) (hvs:(fK l).2=0->QJ l):aa Tryz.prog 95 [gO l,dR x] (OV l x):=by
 have c1:=gP x hx.wd hx.lm (by have:=hx.sz;omega);have he:= @Ln l hs hvs;have hee:= @Pb l;have hxo:=Qq hx;unfold OV;generalize jg x=vx at *;generalize yr l=vv at *
 have c3:vx=0-> ∀env,vv= .ok env->aa Tryz.prog 133 [dR x,il env,jA env] (ej (bZ (bi env) (lA x))):=fun h0 env henv=>by
  obtain⟨h1,h2,h3⟩:=he henv;obtain⟨h4,h5,h6⟩:=hxo h0;have:=dl (l:=env) h1 h2 h3 (lA x) h4 h5
  rwa[show dE (lA x)=dR x from congrArg dR h6]at this
 clear he hxo;generalize lA x=ex at *;obtain⟨o1,na1,xs1,nb1,ys1,nm1,n1,cs1,hA⟩:=aN x;rw[show dR x= .agg (ab o1 na1 xs1 nb1 ys1 nm1 n1 cs1) from congrArg DV.agg hA]at *
 by_cases h0:vx=0
 case neg=>
  rw[if_neg h0];refine kV func95 ?_;refine kC (c1) ?_;refine xp ?_;refine kB true ?_ ?_
  ·exact bne_iff_ne.2 h0
  exact am
 rw[if_pos h0];rw[h0]at c1;cases vv with
 |error e=>
  have hne:=hee rfl;refine kU func95 ?_;refine gG ?_;refine kC (c2) ?_;refine xp ?_;refine kB true ?_ ?_
  ·exact bne_iff_ne.2 hne
  exact am
 |ok env=>
  have c3:=c3 h0 env rfl;dsimp only;cases hev:bZ (bi env) ex with
  |error z=>
   exact NQ
  |ok y=>
   exact NQ
theorem RO (xs:List Nat):Mj (aW xs)=true:=by
 unfold aW Mj
 simp[bH]
theorem Lv (x:QR):T0 (ej x)=true:=by
 cases x with
 |error e=>rfl
 |ok y=>
  have h:∀q:Rat,(lN q y.2).all Mj=true:=fun q=>by
   show([AV.val _,aW _,AV.val _,aW _,AV.val _].all Mj)=true
   simp only[List.all_cons,List.all_nil,RO]
   rfl
  show(QH (.agg (lN y.1 y.2)) && (QH (dN .i64 0) && true))=true;rw[show QH (.agg (lN y.1 y.2))=true from h y.1];rfl
theorem O2 {a b:Nat} {ca cb:List AV} (ha:bD a=false) (hb:bD b=false):∀j cs,(sB [(a,ca),(b,cb)]).bx j=some cs->bD j=false:=fun j cs h=>by
 have e:=bI.1 h
 by_cases h1:j=a
 ·rw[h1];exact ha
 ·by_cases h2:j=b
  ·rw[h2];exact hb
  ·rw[show ar [(a,ca),(b,cb)]=[(a,some ca),(b,some cb)] from rfl,ap _ _ (fun h=>h1 h.symm),ap _ _ (fun h=>h2 h.symm)]at e;cases e
theorem O1 (env:EL) (n:L8) (v:Rat × Int):nC 1 (aJ (env.map (·.1))) (pp env n) [.val (vL n)]=aJ ((iP env n v).map (·.1)):=by
 unfold nC iP;rw[Nat.mul_one]
 simp[aJ,List.map_take,List.map_drop]
theorem PU (env:EL) (n:L8) (v:Rat × Int):nC 5 (lM env) (pp env n) (lN v.1 v.2)=lM (iP env n v):=by
 unfold nC iP;rw[ym,yA,JT,lM,List.append_assoc]
theorem Fm (l:List L8):bz (aJ l)=true:=iA fun b hb=>by
 unfold aJ at hb;obtain⟨x,_,rfl⟩:=List.mem_map.1 hb;rfl
theorem Pg {env:EL} {i:Nat} (h:env.length=i):il env= .leaf (.sl i (aJ (env.map (·.1)))):=by
 rw[Qk];unfold zd;rw[List.length_map,h]
abbrev Sx (l:Tb) (o:List L8) (i:Nat) (RN RV:List AV):AS:=⟨[(0, .d (gO l)),(23, .d (zd o)),(24, .d (dN .i64 o.length)),(25, .d (dN .i64 i)),(7,gV 5001 1 9 i),(8,gV 5002 5 92 i)],[(5001,gX RN i),(5002,gX RV i)]⟩
theorem H2 {l:Tb} {o:List L8} {i:Nat} {a a' b b':List AV} (h1:a=a') (h2:b=b'):Sx l o i a b=Sx l o i a' b':=by rw[h1,h2]
theorem yl (l:Tb) (hs:JP l) (hl:l.length<=500) (hvs:(fK l).2=0->QJ l):aa Tryz.prog 132 [gO l] (T8 (yr l)):=by
 have co:=Ba l hs (by omega)
 by_cases h0:(fK l).2=0
 case neg=>
  rw[IF h0];generalize(fK l).2=z at *;generalize(fK l).1=o at *;refine kV func132 ?_;refine kC (co) ?_;refine xp ?_;refine kB true ?_ ?_
  ·exact bne_iff_ne.2 h0
  exact am
 have hV:=hvs h0;obtain⟨o,ho⟩:∃o,(fK l).1=o:=⟨_,rfl⟩;obtain⟨hok,ht,hn⟩:=BY (l:=l) (o:=o) (by rw[<- ho,<- h0]);have hf:=hok.fx_of hs;have hvv:yr l=po l o []:=by unfold yr;rw[if_pos h0,ho]
 rw[hvv];rw[h0,ho]at co;obtain⟨R,hR⟩:∃R,po l o []=R:=⟨_,rfl⟩;rw[hR];clear hvv hvs h0 ho;refine kV func132 ?_;refine kQ (co) ?_;refine ax (Nat × EL) (fun x=>x.1<=o.length/\vg l (o.take x.1) x.2/\x.2.length=x.1/\po l (o.drop x.1) x.2=R) (fun x=>Sx l o x.1 (aJ (x.2.map (·.1))) (lM x.2)) (fun x=>o.length-x.1) (0,[]) ⟨Nat.zero_le _,by simpa using vg.nil l,rfl,hR⟩ kw ?_;rintro⟨i,env⟩ ⟨hi,hI,hel,hg⟩;dsimp only at hi hI hel hg ⊢;have hnm:=Pg hel;have hvl:jA env= .leaf (.sl i (lM env)):=by unfold jA;rw[hel]
 have hlN:(aJ (env.map (·.1))).length=i*1:=by rw[im,List.length_map,hel,Nat.mul_one]
 have hlV:(lM env).length=i*5:=by rw[B7,hel]
 have hoN:=Fm (env.map (·.1));have hoV:=CR env
 by_cases hil:i<o.length
 case neg=>
  rw[List.drop_of_length_le (by omega),po]at hg;subst hg;unfold Sx;refine kI ?_;refine kE ?_;refine tq ?_
  repeat refine bu (T:=TT) ?_
  refine ez ((jb (q:=7) (J:=5001) (m:=i) (cs:=aJ (env.map (·.1))) (fun h=>by rw[List.eq_nil_of_length_eq_zero (hel.trans h)];rfl) rfl rfl).tr (jb (q:=8) (J:=5002) (m:=i) (cs:=lM env) (fun h=>by rw[List.eq_nil_of_length_eq_zero (hel.trans h)];rfl) rfl rfl)) rfl ?_;refine fO ?_;show RV.tup _=RV.tup [il env,jA env,_];rw[hnm,hvl];rfl
 obtain⟨nm,hx⟩:∃x,o[i]? =some x:=⟨o[i],by simp[hil]⟩;obtain⟨p,hp,hpn,hfx,hnd,hdep⟩:=ht.at hok hf hx;obtain⟨k,hk⟩:=List.getElem?_of_mem hp;have hkl:=(List.getElem?_eq_some_iff.1 hk).1;have cf:=qP l nm (by omega);rw[show QF l nm=(k:Nat) by unfold QF;rw[<- hpn,hok.fd hk,if_pos hkl]]at cf;obtain⟨e1,e2,e3⟩:=PJ hs hok hp;have ce:=dl hI.so (l:=env) (by omega) (fun x hx=>hV.hv _ _ (hI.hv x hx)) (lA p.2) e1 e2;rw[show dE (lA p.2)=dR p.2 from congrArg dR e3]at ce;rw[show o.drop i=nm::o.drop (i+1) by obtain⟨h,e⟩:=List.getElem?_eq_some_iff.1 hx;rw[List.drop_eq_getElem_cons h,e],po,hfx]at hg;have hne:∀y∈env,y.1≠nm:=fun y hy e=>hnd ((hI.ky nm).2 ⟨y.2,by rw[<- e];exact hy⟩)
 have cb:=QS env hI.so (by omega) nm hne;have hps:=wj env nm;have hIs:= @vg.step l (o.take i) env hI p (by rw[hpn];exact hnd);have hIh:=fun x=> @vg.has l (o.take i) env hI p hp x hdep
 obtain⟨o1,na1,xs1,nb1,ys1,nm1,n1,cs1,hA,hB⟩:=eM p;have hat:∀(j:Nat) (a:AV),(eF p.1 o1 na1 xs1 nb1 ys1 nm1 n1 cs1)[j]? =some a->(Fg l)[k*8+j]? =some a:=fun j a h=>j4 l k p hk j a (by rw[hB];exact h)
 rw[show dR p.2= .agg (ab o1 na1 xs1 nb1 ys1 nm1 n1 cs1) from congrArg DV.agg hA]at ce;have hwd:=Lv (bZ (bi env) (lA p.2));have hins:=O1 env nm;have hivs:=PU env nm
 have hnext:∀x:Rat × Int,bZ (bi env) (lA p.2)= .ok x->vg l (o.take (i+1)) (iP env nm x):=fun x hev=>by
  have hI':=hIs (hIh x hev);rw[hpn,<- bJ hx]at hI';exact hI'
 have hnl:∀x:Rat × Int,(iP env nm x).length=i+1:=fun x=>by rw[F6,hel]
 clear hIs hIh hI hdep hnd hne;rw[hnm]at ce cb;rw[hvl]at ce;rw[hel]at hps;cases i with
 |zero=>
  rw[show aJ (env.map (·.1))=[] by rw[List.eq_nil_of_length_eq_zero hel];rfl]at ce cb hins;rw[show lM env=[] by rw[List.eq_nil_of_length_eq_zero hel];rfl]at ce hivs
  refine SL ?_;cases hev:bZ (bi env) (lA p.2)with
  |error z=>
   have hz:=eA hev;rw[hev]at ce hg hwd;dsimp only at hg;subst hg;refine kQ (ce) ?_;refine fo (T:=TT) rfl ?_ ?_
   ·exact bne_iff_ne.2 hz
   exact am
  |ok x=>
   rw[hev]at ce hg hwd;dsimp only at hg;have hI':=hnext x hev;have hins:=hins x;have hivs:=hivs x;have hnl:=hnl x;rw[show pp env nm=0 by omega]at cb hins hivs;refine kQ (ce) ?_;refine kC (cb) ?_;refine NE ?_;refine pK ((FN [.val (vL nm)] rfl rfl).swap 902 13003 rfl) rfl rfl rfl rfl rfl ⟨rfl,trivial⟩ rfl rfl rfl rfl ?_
   refine kO3 ?_
   refine Cj 13008 (cs:=lN x.1 x.2) ah rfl rfl rfl rfl rfl rfl rfl rfl rfl rfl rfl rfl rfl ?_;refine pK (((I0 (lN x.1 x.2) rfl rfl).swap 902 13008 rfl).swap 1003 1013 rfl) rfl rfl rfl rfl rfl ⟨rfl,trivial⟩ rfl rfl rfl rfl ?_;refine kW ?_;refine⟨(0+1,iP env nm x),⟨hil,hI',hnl,hg⟩,by dsimp only;omega,Eq.mpr (congrArg (aU _) (H2 (i:=0+1) hins.symm hivs.symm)) ?_⟩;exact aU.tr (b:=⟨[(7, .own 1003 (0+1) 1 9),(8, .own 1013 (0+1) 5 92),(0, .d (gO l)),(23, .d (zd o)),(24, .d (dN .i64 o.length)),(25, .d (dN .i64 (0+1:Nat)))],[(1003,some _),(1013,some _)]⟩) (weak ⟨rfl,rfl,rfl,rfl,rfl,aA (by omega) (by omega),trivial⟩ ⟨rfl,rfl,trivial⟩ rfl) (((aT (q:=7) (j:=1003) (j':=5001) rfl rfl rfl rfl).tr (aT (q:=8) (j:=1013) (j':=5002) rfl rfl rfl rfl)).tr kw)
 |succ i=>
  skip
  refine SL ?_;cases hev:bZ (bi env) (lA p.2)with
  |error z=>
   have hz:=eA hev;rw[hev]at ce hg hwd;dsimp only at hg;subst hg;refine NH ?_;refine fo (T:=TT) rfl ?_ ?_
   ·exact bne_iff_ne.2 hz
   exact am
  |ok x=>
   rw[hev]at ce hg hwd;dsimp only at hg;have hI':=hnext x hev;have hins:=hins x;have hivs:=hivs x;have hnl:=hnl x
   skip
   refine NH ?_;refine me ((cb.rd (ts:=[.own 5001 (i+1) 1 9, .d (dL nm)]) (b:=[(5001,aJ (env.map (·.1)))]) rfl rfl)) rfl rfl rfl rfl rfl ⟨rfl,trivial⟩ rfl rfl rfl rfl ?_;refine NE ?_;refine pK (((JZ (m:=i+1) (i:=pp env nm) (x:=[.val (vL nm)]) hps (by omega) (by omega) hlN rfl hoN rfl).swap 901 5001 rfl).swap 902 13003 rfl) rfl rfl rfl rfl rfl ⟨rfl,rfl,trivial⟩ rfl rfl rfl rfl ?_
   refine kO3 ?_
   refine Cj 13008 (cs:=lN x.1 x.2) ah rfl rfl rfl rfl rfl rfl rfl rfl rfl rfl rfl rfl rfl ?_;refine pK ((((Lr (m:=i+1) (i:=pp env nm) (x:=lN x.1 x.2) hps (by omega) (by omega) hlV rfl hoV rfl).swap 901 5002 rfl).swap 902 13008 rfl).swap 1003 1013 rfl) rfl rfl rfl rfl rfl ⟨rfl,rfl,trivial⟩ rfl rfl rfl rfl ?_;refine kW ?_;refine⟨(i+1+1,iP env nm x),⟨hil,hI',hnl,hg⟩,by dsimp only;omega,Eq.mpr (congrArg (aU _) (H2 (i:=i+1+1) hins.symm hivs.symm)) ?_⟩
   exact aU.tr (b:=⟨[(7, .own 1003 (i+1+1) 1 9),(8, .own 1013 (i+1+1) 5 92),(0, .d (gO l)),(23, .d (zd o)),(24, .d (dN .i64 o.length)),(25, .d (dN .i64 (i+1+1:Nat)))],[(1003,some _),(1013,some _)]⟩) (weak ⟨rfl,rfl,rfl,rfl,rfl,aA (by omega) (by omega),trivial⟩ ⟨rfl,rfl,trivial⟩ rfl) (((aT (q:=7) (j:=1003) (j':=5001) rfl rfl rfl rfl).tr (aT (q:=8) (j:=1013) (j':=5002) rfl rfl rfl rfl)).tr kw)
def Rg (v:Nat):QR->Except Int Rat
 | .error e=> .error e
 | .ok y=>if v=3 then(if y.2=0 then .ok y.1 else .error 8)else if y.2=0∨y.2=1 then(if v=2/\MU y.1<=0 then .error 6 else .ok y.1)else .error 8
def QI:Except Int Rat->RV
 | .error e=> .tup [F0,dN .i64 e]
 | .ok q=> .tup [dQ q,dN .i64 0]
theorem LD (q:Rat) (p:Int):ej (.ok (q,p))= .tup [vO q p,dN .i64 0]:=rfl
theorem Lw (e:Int):ej (.error e)= .tup [Ac,dN .i64 e]:=rfl
theorem qj {r:Kd} {l:Tb} {x:Rx} {E:QR} (cE:aa Tryz.prog 95 [gO l,dR x] (ej E)) (hE:∀e,E= .error e->e≠0) (hk:∀y,E= .ok y-> ∃k,k<=2147483640/\dA k y.1) (hv:r.v=1∨r.v=2∨r.v=3):
 aa Tryz.prog 56 [.agg (QG r),gO l,dR x] (QI (Rg r.v E)):=by
 obtain⟨o1,na1,xs1,nb1,ys1,nm1,n1,cs1,hX⟩:=aN x;rw[show dR x= .agg (ab o1 na1 xs1 nb1 ys1 nm1 n1 cs1) from congrArg DV.agg hX]at cE ⊢;obtain⟨rn,rp,rc,rm,v,rq,rs⟩:=r;dsimp only at hv ⊢;cases E with
 |error e=>
  have he:=hE e rfl;rw[Lw]at cE;unfold Rg QI;dsimp only;rcases hv with rfl|rfl|rfl
  all_goals
   refine kV func56 ?_;refine kC (cE) ?_;refine kG ?_;refine kO ?_;refine kB true ?_ ?_
   ·exact bne_iff_ne.2 he
   exact kF
 |ok y=>
  obtain⟨k,hk1,hk2⟩:=hk y rfl;obtain⟨q,p⟩:=y;rw[LD]at cE;have cS:=nA q;unfold Rg QI;dsimp only;rcases hv with rfl|rfl|rfl
  rotate_left 2
  ·rw[if_pos rfl]
   by_cases h0:p=0
   ·rw[if_pos h0]
    refine kV func56 ?_;refine kC (cE) ?_
    iterate 3 refine kG ?_
    refine kO2 ?_
    refine kB false ?_ ?_
    ·exact(by simp[h0])
    exact am
   ·rw[if_neg h0]
    refine kV func56 ?_;refine kC (cE) ?_
    iterate 3 refine kG ?_
    refine kO2 ?_
    refine kB true ?_ ?_
    ·exact(by simp[h0])
    exact am
  ·rw[if_neg (by decide)]
   by_cases hp1:p=0∨p=1
   ·rw[if_pos hp1,if_neg (fun h=>by cases h.1)]
    have cL:=lB hk2 hk1 hp1;refine GO ?_;exact am
   ·rw[if_neg hp1]
    have cL:=nr (a:=q) hp1;refine GO ?_;exact am
  ·rw[if_neg (by decide)]
   by_cases hp1:p=0∨p=1
   ·have cL:=lB hk2 hk1 hp1
    rw[if_pos hp1]
    by_cases hs:MU q<=0
    ·rw[if_pos ⟨rfl,hs⟩]
     refine GO ?_;refine kW ?_;refine kC (cS) ?_;refine kB true ?_ ?_
     ·exact decide_eq_true hs
     exact am
    ·rw[if_neg (fun h=>hs h.2)]
     refine GO ?_;refine kW ?_;refine kC (cS) ?_;refine kB false ?_ ?_
     ·exact decide_eq_false hs
     exact am
   ·rw[if_neg hp1]
    have cL:=nr (a:=q) hp1;refine GO ?_;exact am
def JK (l:List Rat):List AV:=l.flatMap aQ
theorem Km (l:List Rat):(JK l).length=l.length*4:=by
 induction l with
 |nil=>rfl
 |cons a r ih=>
  show(aQ a++JK r).length=_;rw[List.length_append,ih,List.length_cons];show 4+_=_;omega
def qV (l:List Rat):TV:=match l with
 | []=> .nil
 |a::r=> .own 7001 (a::r).length 4 38
def qX (l:List Rat):Option (List AV):=match l with
 | []=>none
 |a::r=>some (JK (a::r))
theorem F8 (l:List Rat) (x:Rat):qV (l++[x])= .own 7001 (l.length+1) 4 38:=by cases l<;>simp[qV]
theorem If (l:List Rat) (x:Rat):qX (l++[x])=some ((JK l).take (l.length*4)++aQ x):=by
 have h:(JK l).take (l.length*4)=JK l:=List.take_of_length_le (Nat.le_of_eq (Km l));rw[h];cases l<;>simp[qX,JK]
def wz (f:Rx->Except Int Rat):List Rx->Except Int (List Rat)
 | []=> .ok []
 |x::r=>match f x with
  | .error e=> .error e
  | .ok q=>match wz f r with
   | .error e=> .error e
   | .ok qs=> .ok (q::qs)
def T9:Except Int (List Rat)->RV
 | .error e=> .tup [.leaf (.sl 0 []),dN .i64 e]
 | .ok qs=> .tup [.leaf (.sl qs.length (JK qs)),dN .i64 0]
theorem Cf {f:Rx->Except Int Rat} {x:Rx} {e:Int} (hf:f x= .error e):∀(pre post:List Rx) (qs:List Rat),wz f pre= .ok qs->wz f (pre++x::post)= .error e
 | [],post,qs,_=>by rw[List.nil_append,wz,hf]
 |a::r,post,qs,h=>by
  rw[wz]at h;rw[List.cons_append,wz];cases ha:f a with
  |error e=>rw[ha]at h;cases h
  |ok q=>
   rw[ha]at h;dsimp only at h ⊢;cases hr:wz f r with
   |error e=>rw[hr]at h;cases h
   |ok qs'=>rw[Cf hf r post qs' hr]
theorem yp {f:Rx->Except Int Rat} {x:Rx} {q:Rat} (hf:f x= .ok q):∀(pre:List Rx) (qs:List Rat),wz f pre= .ok qs->wz f (pre++[x])= .ok (qs++[q])
 | [],qs,h=>by
  cases h;rw[List.nil_append,wz,hf];rfl
 |a::r,qs,h=>by
  rw[wz]at h;rw[List.cons_append,wz];cases ha:f a with
  |error e=>rw[ha]at h;cases h
  |ok q'=>
   rw[ha]at h;dsimp only at h ⊢;cases hr:wz f r with
   |error e=>rw[hr]at h;cases h
   |ok qs'=>
    rw[hr]at h;cases h;rw[yp hf r qs' hr];rfl
theorem oM {c:Cn} {r:Kd} {l:Tb} (hr:oq c.k=some r) (cV:aa Tryz.prog 17 [dC c,dN .i64 200,dN .i64 200] (.one (dB true))) (h3:c.vs.length<=1000000) (f:Rx->Except Int Rat)
 (cE:∀x∈c.vs,aa Tryz.prog 56 [.agg (QG r),gO l,dR x] (QI (f x))) (hE:∀x∈c.vs,∀e,f x= .error e->e≠0):aa Tryz.prog 22 [dC c,gO l] (T9 (wz f c.vs)):=by
 have cS:=m8 c.k;rw[hr]at cS;obtain⟨k,ps,cs,vs,s⟩:=c;dsimp only at *;show aa Tryz.prog _ [.agg (cC k ps cs vs s),gO l] _;have cV:aa Tryz.prog 17 [.agg (cC k ps cs vs s),dN .i64 200,dN .i64 200] (.one (dB true)):=cV;have cS:aa Tryz.prog 30 [dN .i64 k] (.tup [.agg (QG r),dB true]):=cS;obtain⟨nm,rp,rc,rn,rv,rq,rs⟩:=r;generalize hA:(Nat.beq rv 1 || Nat.beq rv 2)=b1;generalize hB:Nat.beq rv 2=b2;have hsh:QG ⟨nm,rp,rc,rn,rv,rq,rs⟩=[.val (.int .i64 rp), .val (.int .i64 rc), .val (.int .i64 rn), .val (.int .i64 rq), .val (.bool rs), .val (.bool b1), .val (.bool b2)]:=by rw[<- hA,<- hB];rfl
 rw[hsh]at cS cE;refine kV func22 ?_;refine kQ (cV) ?_;refine kQ (cS) ?_;refine ax (Nat × List Rat) (fun x=>x.1<=vs.length/\wz f (vs.take x.1)= .ok x.2/\x.2.length<=x.1) (fun x=>⟨[(8,qV x.2),(1, .d (gO l)),(6, .box 3006 0),(23, .d (.leaf (.sl vs.length (d7 vs)))),(24, .d (dN .i64 vs.length)),(25, .d (dN .i64 x.1))],[(7001,qX x.2),(3006,some [.val (.int .i64 rp), .val (.int .i64 rc), .val (.int .i64 rn), .val (.int .i64 rq), .val (.bool rs), .val (.bool b1), .val (.bool b2)])]⟩) (fun x=>vs.length-x.1) (0,[]) ⟨Nat.zero_le _,rfl,Nat.le_refl _⟩ kw ?_;rintro⟨i,qs⟩ ⟨hi,hq,hql⟩;dsimp only at hi hq hql ⊢
 by_cases hlt:i<vs.length
 ·obtain⟨x,hx⟩:∃x,vs[i]? =some x:=⟨vs[i],by simp[hlt]⟩
  have hm:=List.mem_of_getElem? hx;have c1:=cE x hm;have hat:=dz vs i x hx;have hne:=hE x hm
  have hsp:vs=vs.take i++x::vs.drop (i+1):=by
   have:=(List.take_append_drop i vs).symm
   rwa[List.drop_eq_getElem_cons hlt,show vs[i]=x by rw[List.getElem?_eq_getElem hlt]at hx;exact Option.some.inj hx]at this
  obtain⟨o1,na1,xs1,nb1,ys1,nm1,n1,cs1,hX⟩:=aN x;rw[show dR x= .agg (ab o1 na1 xs1 nb1 ys1 nm1 n1 cs1) from congrArg DV.agg hX]at c1;rw[hX]at hat;cases hf:f x with
  |error e=>
   have he:=hne e hf;have hv:wz f vs= .error e:=by rw[hsp];exact Cf hf _ _ qs hq
   rw[hv];rw[hf]at c1;unfold QI at c1;dsimp only at c1;cases qs
   all_goals
    refine kI ?_;refine kX ?_;refine aH (i:=i) (cs':=ab o1 na1 xs1 nb1 ys1 nm1 n1 cs1) hlt hat (Nat.zero_lt_succ 6) rfl rfl rfl rfl rfl rfl rfl rfl ?_;refine kW ?_;refine kC (c1) ?_;refine kG ?_;refine kO ?_;refine kB true ?_ ?_
    ·exact bne_iff_ne.2 he
    exact kF
  |ok q=>
   have hs2:wz f (vs.take (i+1))= .ok (qs++[q]):=by rw[bJ hx];exact yp hf _ qs hq
   rw[hf]at c1;unfold QI at c1;dsimp only at c1;cases qs with
   |nil=>
    refine kI ?_;refine kT ?_;refine rS ?_;refine gG ?_;refine eT 7003 (m1:=0) (m2:=1) ah (by decide) (by show(0+1)*64<=_;omega) rfl rfl rfl rfl rfl rfl rfl rfl rfl rfl rfl (.nil rfl rfl) rfl rfl rfl ?_;refine kW ?_;refine⟨(i+1,([]:List Rat)++[q]),⟨hlt,hs2,by rw[List.length_append];exact Nat.succ_le_succ hql⟩,by dsimp only;omega,?_⟩;show aU _ ⟨[(8,qV (([]:List Rat)++[q])),(1, .d (gO l)),(6, .box 3006 0),(23, .d (.leaf (.sl vs.length (d7 vs)))),(24, .d (dN .i64 vs.length)),(25, .d (dN .i64 (i+1:Nat)))],[(7001,qX (([]:List Rat)++[q])),(3006,some [.val (.int .i64 rp), .val (.int .i64 rc), .val (.int .i64 rn), .val (.int .i64 rq), .val (.bool rs), .val (.bool b1), .val (.bool b2)])]⟩;rw[F8,If]
    exact aU.trans (b:=⟨[(8, .own 7003 (([]:List Rat).length+1) 4 38),(1, .d (gO l)),(6, .box 3006 0),(23, .d (.leaf (.sl vs.length (d7 vs)))),(24, .d (dN .i64 vs.length)),(25, .d (dN .i64 (i+1:Nat)))],[(7003,some ((JK ([]:List Rat)).take (([]:List Rat).length*4)++aQ q)),(3006,some [.val (.int .i64 rp), .val (.int .i64 rc), .val (.int .i64 rn), .val (.int .i64 rq), .val (.bool rs), .val (.bool b1), .val (.bool b2)])]⟩) (weak ⟨rfl,rfl,rfl,rfl,rfl,aA (by omega) (by omega),trivial⟩ ⟨rfl,rfl,trivial⟩ rfl) ((aT (q:=8) (j:=7003) (j':=7001) (m:=([]:List Rat).length+1) (k:=4) (e:=38) rfl rfl rfl rfl).trans kw)
   |cons q0 qr=>
    have hml:(q0::qr).length<=1000000:=by omega
    refine kI ?_;refine kT ?_;refine rS ?_;refine gG ?_;refine eT 7003 (m1:=(q0::qr).length) (m2:=1) ah (by decide) (by show((q0::qr).length+1)*64<=_;omega) rfl rfl rfl rfl rfl rfl rfl rfl rfl rfl rfl (.own rfl rfl) rfl rfl rfl ?_;refine kW ?_;refine⟨(i+1,(q0::qr)++[q]),⟨hlt,hs2,by rw[List.length_append];exact Nat.succ_le_succ hql⟩,by dsimp only;omega,?_⟩;show aU _ ⟨[(8,qV ((q0::qr)++[q])),(1, .d (gO l)),(6, .box 3006 0),(23, .d (.leaf (.sl vs.length (d7 vs)))),(24, .d (dN .i64 vs.length)),(25, .d (dN .i64 (i+1:Nat)))],[(7001,qX ((q0::qr)++[q])),(3006,some [.val (.int .i64 rp), .val (.int .i64 rc), .val (.int .i64 rn), .val (.int .i64 rq), .val (.bool rs), .val (.bool b1), .val (.bool b2)])]⟩;rw[F8,If]
    exact aU.trans (b:=⟨[(8, .own 7003 ((q0::qr:List Rat).length+1) 4 38),(1, .d (gO l)),(6, .box 3006 0),(23, .d (.leaf (.sl vs.length (d7 vs)))),(24, .d (dN .i64 vs.length)),(25, .d (dN .i64 (i+1:Nat)))],[(7003,some ((JK (q0::qr)).take ((q0::qr:List Rat).length*4)++aQ q)),(3006,some [.val (.int .i64 rp), .val (.int .i64 rc), .val (.int .i64 rn), .val (.int .i64 rq), .val (.bool rs), .val (.bool b1), .val (.bool b2)])]⟩) (weak ⟨rfl,rfl,rfl,rfl,rfl,aA (by omega) (by omega),trivial⟩ ⟨rfl,rfl,trivial⟩ rfl) ((aT (q:=8) (j:=7003) (j':=7001) (m:=(q0::qr:List Rat).length+1) (k:=4) (e:=38) rfl rfl rfl rfl).trans kw)
 ·rw[List.take_of_length_le (by omega)]at hq
  rw[hq];cases qs with
  |nil=>
   refine kI ?_;refine kE ?_;exact am
  |cons q0 qr=>
   refine kI ?_;refine kE ?_;refine tq ?_;refine kI ?_;refine Db ah rfl rfl rfl rfl (b5 (q:=44) rfl rfl) ?_;exact am
theorem Ts:fmt 5=[53]:=by
 unfold fmt;rw[if_neg (by decide),if_neg (by decide)];show []++l8 5=_;rw[dY (by decide)];show []++(l8 0++[dg 5])=_;rw[dM];rfl
theorem QX:fmt 0=[48]:=rfl
theorem Ua:fT ((5:Int):Rat)=some [53]:=by
 unfold fT;rw[if_neg (by decide),lj,if_pos (by rfl),show(pw ((5:Int):Rat) 0).num=5 from rfl,Ts];rfl
def tK:Ex:= .bin .div (.nam [119]) (.num ((2:Int):Rat) [])
def vk:Ex:= .num ((5:Int):Rat) [99,109]
theorem RP:bU tK 0=[119,32,47,32,50]:=by
 show bU (.nam [119]) 2++nw .div++xI 4 3 (K7 ((2:Int):Rat)++qy [])=_;unfold K7;rw[T3];rfl
theorem S4 (z:Int) (h:z.natAbs<4294967296):dA 1 (z:Rat):=⟨Sz.small h,Sz.small (by show(1:Int).natAbs<_;decide)⟩
theorem L4:pu tK:=⟨show pB [119]=true by decide,by rw[T3];rfl,(S4 2 (by decide)).mono (by decide), .inl rfl⟩
theorem St:pu vk:=⟨by rw[Ua];rfl,(S4 5 (by decide)).mono (by decide), .inr (by decide)⟩
theorem se {n:Nat} (h:n<4294967296):(digs n).length<=8:=Nat.le_trans (aL (k:=1) (by simpa using h)) (by decide)
theorem Cp (v:Rat) (u:List UInt8) (hu:u.length<=60):lV (rx (.num v u)):= .mk (by decide) (by decide) (ac _) (ac _) (by omega) (by simp) (fun x hx=>by cases hx)
theorem JV (u:List UInt8) (hu:u.length<=60):lV (rx (.nam u)):= .mk (by decide) (by decide) gW gW (by omega) (by simp) (fun x hx=>by cases hx)
theorem Qg:lV (rx tK):= .mk (by decide) (by decide) gW gW (by decide) (by decide) (fun x hx=>by
 rcases List.mem_cons.1 hx with rfl|hx
 ·exact JV _ (by decide)
 ·cases List.mem_singleton.1 hx;exact Cp _ _ (by decide))
theorem Tz:lV (rx vk):=Cp _ _ (by decide)
theorem FH {e:Ex} (h1:pu e) (h2:lV (rx e)) (h4:s7 (rx e)<=40) (hlt:pW (rx e)=true) (hsz:fW (rx e)<=120):AF (rx e)/\jg (rx e)=0:=by
 refine⟨⟨h2,hlt,hsz⟩,?_⟩;unfold jg;rw[if_pos (uN e h1),if_pos h4]
theorem yR:AF (rx tK)/\jg (rx tK)=0:=FH L4 Qg (by decide) (by
 have h1:(digs 2).length<=8:=se (by decide);have h2:(digs 1).length<=8:=se (by decide);have h0:(digs 0).length<=8:=se (by decide)
 simp[tK,rx,pW,nN]
 exact⟨h1,h2⟩) (by simp[tK,rx,fW,eg])
theorem Q0:AF (rx vk)/\jg (rx vk)=0:=FH St Tz (by decide) (by
 have h1:(digs 5).length<=8:=se (by decide);have h2:(digs 1).length<=8:=se (by decide)
 simp[vk,rx,pW,nN]
 exact⟨h1,h2⟩) (by simp[vk,rx,fW,eg])
def c5:Cn:=⟨2,[0,1],[],[rx tK],0⟩
def d5:Cn:=⟨17,[],[0,2],[],-1⟩
def s5:L8:=[116,97,110,103,101,110,116,99,105,114,99,108,101,32,99,48,32,99,50,32,105,110,115,105,100,101]
theorem Rm:vA c5 200 200=true:=by
 rw[fF (r:=⟨[100,105,115,116,97,110,99,101],2,0,1,2,1,false⟩) (by rfl)]
 simp[c5,yR.2]
 decide
theorem R5:vA d5 200 200=true:=by decide
def r5:Kd:=⟨[100,105,115,116,97,110,99,101],2,0,1,2,1,false⟩
def MI:Kd:=⟨[116,97,110,103,101,110,116,99,105,114,99,108,101],0,2,0,0,1,true⟩
theorem Ps:oq c5.k=some r5:=by rfl
theorem TL:oq d5.k=some MI:=by rfl
theorem V5:Tq c5 r5 200 200:=by
 obtain⟨r,h⟩:=Cb.1 Rm;have:=h.k;rw[Ps]at this;cases this;exact h
theorem UJ:Tq d5 MI 200 200:=by
 obtain⟨r,h⟩:=Cb.1 R5;have:=h.k;rw[TL]at this;cases this;exact h
def t5:L8:=[100,105,115,116,97,110,99,101,32,112,48,32,112,49,32,61,32,119,32,47,32,50]
theorem Ug:Ff r5 c5 [[119,32,47,32,50]]=t5:=by
 have h:RF r5 c5=[r5.nm,[112,48],[112,49]]:=by
  show [r5.nm,112::fmt 0,112::fmt 1]=_;rw[QX,T4]
 unfold Ff;rw[h];rfl
theorem Sy:Ff MI d5 []=s5:=by
 have h:RF MI d5=[MI.nm,[99,48],[99,50],[105,110,115,105,100,101]]:=by
  show [MI.nm,99::fmt 0,99::fmt 2,[105,110,115,105,100,101]]=_;rw[QX,Rs]
 unfold Ff;rw[h];rfl
def T5:Tb:=[([119],rx vk)]
theorem Gf:JP T5:=fun p hp=>by
 cases List.mem_singleton.1 hp;exact⟨by decide,Q0.1⟩
theorem Nb:Df T5=0:=by
 have hn:pB [119]=true:=by decide
 simp[Df,FB,T5,Q0.2,hn]
theorem Q3:ox (rx vk)=[]:=by simp[vk,rx,ox,fU,jT]
theorem PH:fK T5=([[119]],0):=by
 have h1:Fc T5 []=[119]:=by simp[Fc,T5,sx,E3,wq,Q3]
 have h3:mw T5 T5.length []=some [[119]]:=by
  show mw T5 1 []=_;rw[mw,h1,if_neg (by decide)];rfl
 unfold fK;rw[if_pos Nb,if_pos (by simp[T5,wq,Q3]),h3]
theorem PE:Qu [99,109]=some ((10:Int):Rat):=by rfl
def E5:EL:=[([119],(((5:Int):Rat)*((10:Int):Rat),1))]
theorem NP:yr T5= .ok E5:=by
 unfold yr;rw[PH,if_pos rfl];have f1:QB T5 [119]=rx vk:=by simp[QB,T5,l9]
 have e1:bZ (bi []) vk= .ok (((5:Int):Rat)*((10:Int):Rat),1):=by
  rw[vk,bZ,if_neg (by decide),PE]
 simp only[po,f1,vm St,e1]
 rfl
theorem T1:QJ T5:=by
 refine⟨Gf,by decide,fun n x h=>?_⟩;obtain⟨_,_,_,hk,hv,_⟩:=FW (fun h=>h.fx_of Gf) NP;obtain⟨u,hu⟩:=(hk n).2 (by cases h with|mk f hp _ _=>exact⟨_,hp,rfl⟩);have:x=u:=h.fn (uT Nb) (hv _ hu);subst this;cases List.mem_singleton.1 hu;exact⟨((S4 5 (by decide)).mul (S4 10 (by decide))).mono (by decide),rfl⟩
theorem UD:OV T5 (rx tK)=ej (.ok (((25:Int):Rat),1)):=by
 unfold OV;rw[if_pos yR.2,NP];dsimp only;have h2:((5:Int):Rat)*((10:Int):Rat)/((2:Int):Rat)=((25:Int):Rat):=by kernel_rfl
 have h:bZ (bi E5) tK= .ok (((25:Int):Rat),1):=by
  rw[<- h2];rfl
 rw[vm L4,h]
theorem TZ:OV [] (rx tK)=ej (.error 4):=by
 unfold OV
 have hv:yr []= .ok []:=by
  unfold yr;rfl
 rw[if_pos yR.2,hv];dsimp only;rw[vm L4];rfl
def n5:L8:=[116,97,110,103,101,110,116,99,105,114,99,108,101]
def W5:List L8:=[[99,48],[99,50],[105,110,115,105,100,101]]
theorem Ql:Lib.cut s5 [32,61,32]=(s5,[],false):=J1 (by decide)
theorem Gp:Lib.split s5 [32]=n5::W5:=by
 have h:Lib.join (n5::W5) [32]=s5:=rfl;rw[<- h];exact p9 _ (by simp) (by decide)
def UB:Nat->AV
 |0=> .nl
 |1=> .ow 703 1 1 3
 |_=> .ow 703 2 1 3
def UG:Nat->Option (List AV)
 |0=>none
 |1=>some [.val (.int .i64 0)]
 |_=>some [.val (.int .i64 0), .val (.int .i64 2)]
def Uw:Nat->Int
 |3=> -1
 |_=>0
abbrev Tw (i:Nat):List (Nat × TV):=[(0, .d (dL s5)),(5, .d (dL [])),(10, .box 801 0),(11, .d (dL (Qx 17))),(12, .d (dL (QE 17))),(53, .d (QM W5)),(54, .d (dN .i64 3)),(55, .d (dN .i64 i)),(2, .box 0 0)]
def TJ (i:Nat):AS:=
 ⟨Tw i,
  [(0,some (cC 0 [] [] [] 0)),(801,some [.val (.int .i64 17), .nl,UB i, .nl, .val (.int .i64 (Uw i))]),(703,UG i)]⟩
theorem xG (cF:aa Tryz.prog 25 [dC d5] (.tup [dL s5,dN .i64 0])):aa Tryz.prog 26 [dL s5] (.tup [dC d5,dN .i64 0]):=by
 have cCut:=KK s5 [32,61,32] (by decide);rw[Ql]at cCut;have cW:=Jl s5 [32] (by decide) (by simp);rw[Gp]at cW;have cK:=Dq n5;unfold TK at cK;rw[show Px n5=17 by decide]at cK;have cD:=qK 17;have p1:aa Tryz.prog 66 [dL [99,48],dL [112]] (.tup [dN .i64 (Fa 112 [99,48]),dB false]):=gg 112 [99,48] (by decide);have p2:aa Tryz.prog 66 [dL [99,50],dL [112]] (.tup [dN .i64 (Fa 112 [99,50]),dB false]):=gg 112 [99,50] (by decide);have p3:aa Tryz.prog 66 [dL [105,110,115,105,100,101],dL [112]] (.tup [dN .i64 (Fa 112 [105,110,115,105,100,101]),dB false]):=gg 112 [105,110,115,105,100,101] (by decide);have q1:aa Tryz.prog 66 [dL [99,48],dL [99]] (.tup [dN .i64 0,dB true]):=gg 99 [99,48] (by decide)
 have q2:aa Tryz.prog 66 [dL [99,50],dL [99]] (.tup [dN .i64 2,dB true]):=gg 99 [99,50] (by decide);have q3:aa Tryz.prog 66 [dL [105,110,115,105,100,101],dL [99]] (.tup [dN .i64 (Fa 99 [105,110,115,105,100,101]),dB false]):=gg 99 [105,110,115,105,100,101] (by decide);generalize Fa 112 [99,48]=z1 at *;generalize Fa 112 [99,50]=z2 at *;generalize Fa 112 [105,110,115,105,100,101]=z3 at *;generalize Fa 99 [105,110,115,105,100,101]=z4 at *;have cF:aa Tryz.prog 25 [.agg (cC 17 [] [0,2] [] (-1))] (.tup [dL s5,dN .i64 0]):=cF;have hsz:=aB s5;have hl:s5.length=26:=rfl;have hn0:= @iz (n5::W5) 0 n5 rfl;have hx0:= @iz W5 0 [99,48] rfl;have hx1:= @iz W5 1 [99,50] rfl;have hx2:= @iz W5 2 [105,110,115,105,100,101] rfl;refine kV func26 ?_
 refine kQ (cCut) ?_;refine kQ (cW) ?_;refine aH (i:=0) (cs':=[.val (vL n5)]) (Nat.zero_lt_succ _) hn0 (Nat.zero_lt_succ 0) rfl rfl rfl rfl rfl rfl rfl rfl ?_;refine kO ?_;refine kC (cK) ?_;refine xp ?_;refine Hp Pf (by simp[Ue]) rfl rfl rfl rfl rfl rfl ?_;refine Bh 801 ah rfl rfl rfl rfl rfl rfl rfl rfl rfl rfl ?_;refine kW ?_;refine kC (cD) ?_;refine kN ?_;refine oS ⟨[(0, .d (dL s5)),(5, .d (dL [])),(10, .box 801 0),(2, .box 0 0)],[(0,some (cC 0 [] [] [] 0)),(801,some (cC 17 [] [0,2] [] (-1)))]⟩ (fun s' hw=>?_) (fun R hR hret=>?_)
 ·refine bu ?_
  refine ez hw rfl ?_;refine kO ?_;refine xW ?_;refine kW ?_;refine kC (cF) ?_;refine kG ?_;refine kO ?_;refine kB false ?_ ?_
  ·exact(by rfl)
  refine kO3 ?_
  refine aD rfl rfl rfl rfl rfl rfl rfl (jJ (a:=s5) (b:=s5) rfl) ?_;exact am
 ·refine kW ?_
  refine Qm (m:=4) (i:=1) (d:=3) ah (by show(aJ (n5::W5)).length<=_;rw[im];decide) (by omega) (by omega) rfl rfl rfl rfl rfl rfl rfl rfl ?_;refine kW ?_;refine ax Nat (fun i=>i<=3) TJ (fun i=>3-i) 0 (by decide) kw ?_;intro i hi;obtain rfl|rfl|rfl|rfl:i=0∨i=1∨i=2∨i=3:=by omega
  ·refine FJ ?_
   refine aH (i:=0) (cs':=[.val (vL [99,48])]) (by decide) hx0 (Nat.zero_lt_succ 0) rfl rfl rfl rfl rfl rfl rfl rfl ?_;refine kW ?_;refine kQ (p1) ?_;refine kQ (q1) ?_;refine Ad 704 (m1:=0) (m2:=1) ah (by decide) (by show(0+1)*8<=_;omega) rfl rfl rfl rfl rfl rfl rfl rfl rfl rfl (.nil rfl rfl) rfl rfl rfl rfl ?_;refine kW ?_;refine⟨1,by decide,by decide,?_⟩;exact aU.trans (b:=⟨Tw 1,[(0,some (cC 0 [] [] [] 0)),(801,some [.val (.int .i64 17), .nl, .ow 704 1 1 3, .nl, .val (.int .i64 0)]),(704,some [.val (.int .i64 0)])]⟩) kw (aU.trans (mH (i:=801) (off:=2) (j:=704) (j':=703) (m:=1) (k:=1) (e:=3) rfl rfl rfl rfl rfl rfl rfl) kw)
  ·refine FJ ?_
   refine aH (i:=1) (cs':=[.val (vL [99,50])]) (by decide) hx1 (Nat.zero_lt_succ 0) rfl rfl rfl rfl rfl rfl rfl rfl ?_;refine kW ?_;refine kQ (p2) ?_;refine kQ (q2) ?_;refine Ad 704 (m1:=1) (m2:=1) ah (by decide) (by show(1+1)*8<=_;omega) rfl rfl rfl rfl rfl rfl rfl rfl rfl rfl (.own rfl rfl) rfl rfl rfl rfl ?_;refine kW ?_;refine⟨2,by decide,by decide,?_⟩;exact aU.trans (b:=⟨Tw 2,[(0,some (cC 0 [] [] [] 0)),(801,some [.val (.int .i64 17), .nl, .ow 704 2 1 3, .nl, .val (.int .i64 0)]),(704,some [.val (.int .i64 0), .val (.int .i64 2)])]⟩) kw (aU.trans (mH (i:=801) (off:=2) (j:=704) (j':=703) (m:=2) (k:=1) (e:=3) rfl rfl rfl rfl rfl rfl rfl) kw)
  ·refine FJ ?_
   refine aH (i:=2) (cs':=[.val (vL [105,110,115,105,100,101])]) (by decide) hx2 (Nat.zero_lt_succ 0) rfl rfl rfl rfl rfl rfl rfl rfl ?_;refine kW ?_;refine kQ (p3) ?_;refine kC (q3) ?_
   iterate 2 refine kG ?_
   refine kO2 ?_
   refine aD rfl rfl rfl rfl rfl rfl rfl (b7 (a:=[105,110,115,105,100,101]) (b:=Qx 17) (by decide)) ?_;refine kG ?_
   refine kO2 ?_
   refine aD rfl rfl rfl rfl rfl rfl rfl (bv (a:=[105,110,115,105,100,101]) (b:=QE 17) (by decide)) ?_;refine kW ?_;exact⟨3,by decide,by decide,weak ⟨rfl,rfl,rfl,rfl,rfl,rfl,rfl,rfl,rfl,trivial⟩ ⟨rfl,rfl,rfl,trivial⟩ rfl⟩
  ·unfold TJ
   refine kI ?_;refine kB false ?_ ?_
   ·exact decide_eq_false (by decide)
   refine kW ?_;exact hR _ (aU.trans (Dj (i:=801) (off:=1) rfl rfl) (aU.trans (iU (i:=801) (off:=2) (j:=703) rfl rfl rfl rfl rfl) (aU.trans (Dj (i:=801) (off:=3) rfl rfl) kw)))
def PS:L8:=[119,32,47,32,50]
def Kl:List Tk:=[(1,[119],0),(4,[47],2),(2,[50],4),(0,[],5)]
theorem Ut:tk (PS.length+1) PS 0 []= .ok Kl:=by rfl
theorem UH:ic (2,[50],4) [(0,[],5)]= .ok (.num ((2:Int):Rat) [],[(0,[],5)]):=by
 unfold ic;rw[UF];dsimp only;rw[T3];rfl
theorem UC:pP 25 .sum Kl=some (.ok (tK,[(0,[],5)])):=by
 simp[jf,gc,mD,fZ,eG,dj,iL,Ek,jl,UH,Kl,tK]
def Qp:L8:=[53,32,99,109]
def KE:List Tk:=[(2,[53],0),(1,[99,109],2),(0,[],4)]
theorem UK:tk (Qp.length+1) Qp 0 []= .ok KE:=by rfl
theorem Uq:fS [53]=some ((5:Int):Rat):=xK 53 (by decide) (by decide) (by decide) (by decide)
theorem Uv:ic (2,[53],0) [(1,[99,109],2),(0,[],4)]= .ok (.num ((5:Int):Rat) [99,109],[(0,[],4)]):=by
 unfold ic;rw[Uq];dsimp only;rw[Ua];rfl
theorem UE:pP 20 .sum KE=some (.ok (vk,[(0,[],4)])):=by
 simp[jf,gc,mD,fZ,eG,dj,iL,Ek,jl,Uv,KE,vk]
theorem Kz:aa Tryz.prog 35 [dL PS] (.tup [dE tK,dN .i64 0,dN .i64 0]):=by
 have cT:=oL PS (by decide);rw[Ut]at cT;have h:=oD PS Kl cT ⟨by simp[eZ,Kl],by simp[Pe,Kl,PS],by simp[Kl],by decide⟩
 have e:EG Kl 0 PS.length= .ok tK:=by
  unfold EG;rw[show 5*Kl.length+5=25 from rfl,UC];rfl
 rw[e]at h;exact h
theorem Lh:aa Tryz.prog 35 [dL Qp] (.tup [dE vk,dN .i64 0,dN .i64 0]):=by
 have cT:=oL Qp (by decide);rw[UK]at cT;have h:=oD Qp KE cT ⟨by simp[eZ,KE],by simp[Pe,KE,Qp],by simp[KE],by decide⟩
 have e:EG KE 0 Qp.length= .ok vk:=by
  unfold EG;rw[show 5*KE.length+5=20 from rfl,UE];rfl
 rw[e]at h;exact h
theorem qo (l:Tb) (x:Rx) (hs:JP l) (hx:AF x) (hl:l.length<=500) (hvs:(fK l).2=0->QJ l):aa Tryz.prog 95 [gO l,dR x] (OV l x):=wa l x (yl l hs hl hvs) hs hx hvs
theorem UA:QJ ([]:Tb):=by
 refine⟨fun p hp=>(by cases hp),(by decide),fun n x h=>?_⟩;cases h with
 |mk f hp _ _=>cases hp
theorem Ma (q:Rat):∃na xs nb ys,aQ q=[.val (.bool na),aW xs, .val (.bool nb),aW ys]:=⟨_,_,_,_,rfl⟩
theorem f6:aa Tryz.prog 11 [] (.one (dB true)):=by
 have fa:=yx L4 Qg (by have:=yR.1.sz;omega) (by decide) (by rw[RP];decide);have pa:=Kz;have pb:=Lh;rw[RP]at fa
 have cV:=lI c5 200 200 (by decide) (by decide) (by decide) (fun x hx=>by
  cases List.mem_singleton.1 hx;exact gP _ Qg yR.1.lm (by have:=yR.1.sz;omega))
 have cVd:=lI d5 200 200 (by decide) (by decide) (by decide) (fun x hx=>by cases hx);rw[Rm]at cV;rw[R5]at cVd
 have cF:=mU V5 (fun _=>[119,32,47,32,50]) cV (fun x hx=>by
  cases List.mem_singleton.1 hx;exact fa) (by show(Ff r5 c5 [[119,32,47,32,50]]).length<=_;rw[Ug];decide) (by decide)
 have cF:aa Tryz.prog 25 [dC c5] (.tup [dL (Ff r5 c5 [[119,32,47,32,50]]),dN .i64 0]):=cF;rw[Ug]at cF;have cFd:=mU UJ (fun _=>[]) cVd (fun x hx=>by cases hx) (by show(Ff MI d5 []).length<=_;rw[Sy];decide) (by decide);have cFd:aa Tryz.prog 25 [dC d5] (.tup [dL (Ff MI d5 []),dN .i64 0]):=cFd;rw[Sy]at cFd;have cP:=xG cFd;have hk5:dA 1 ((25:Int):Rat):=S4 25 (by decide);have cE:=qo T5 (rx tK) Gf yR.1 (by decide) (fun _=>T1);have cEn:=qo [] (rx tK) (fun p hp=>by cases hp) yR.1 (by decide) (fun _=>UA);rw[UD]at cE;rw[TZ]at cEn;have cv1:=qj (r:=r5) cE (fun e h=>by cases h) (fun y h=>by cases h;exact⟨1,by decide,hk5⟩) (.inr (.inl rfl));have cv2:=qj (r:=r5) cEn (fun e h=>by cases h;decide) (fun y h=>by cases h) (.inr (.inl rfl))
 have h1:Rg 2 (.ok (((25:Int):Rat),1))= .ok ((25:Int):Rat):=by rfl
 have h2:Rg 2 (.error 4)= .error 4:=rfl
 have cW:=oM (c:=c5) (l:=T5) Ps cV (by decide) (fun _=> .ok ((25:Int):Rat)) (fun x hx=>by
  cases List.mem_singleton.1 hx;rw[<- h1];exact cv1) (fun x hx e h=>by cases h)
 have cWn:=oM (c:=c5) (l:=[]) Ps cV (by decide) (fun _=> .error 4) (fun x hx=>by
  cases List.mem_singleton.1 hx;exact cv2) (fun x hx e h=>by cases h;decide)
 have cI:=fB [100,105,115,116,97,110,99,101] (by decide);rw[show pB [100,105,115,116,97,110,99,101]=true by decide]at cI;have cQ:=gR 25 (by decide) (by decide) (q:=((25:Int):Rat)) rfl;have cS:aa Tryz.prog 24 [dQ ((25:Int):Rat),dQ ((25:Int):Rat)] (.one (dB true)):=xB (Nat.le_trans hk5.1.digs (by decide)) (Nat.le_trans hk5.2.digs (by decide));clear cFd cv1 cv2 cE cEn fa cV cVd h1 h2;obtain⟨o1,na1,xs1,nb1,ys1,nm1,n1,cs1,hX⟩:=aN (rx tK);obtain⟨o2,na2,xs2,nb2,ys2,nm2,n2,cs2,hY⟩:=aN (rx vk);obtain⟨na3,xs3,nb3,ys3,hZ⟩:=Ma ((25:Int):Rat)
 have hC:dC c5= .agg [.val (.int .i64 2), .sl 2 [.val (.int .i64 0), .val (.int .i64 1)], .sl 0 [], .sl 1 (ab o1 na1 xs1 nb1 ys1 nm1 n1 cs1), .val (.int .i64 0)]:=by
  show DV.agg [.val (.int .i64 2), .sl 2 [.val (.int .i64 0), .val (.int .i64 1)], .sl 0 [], .sl 1 (aR (rx tK)++[]), .val (.int .i64 0)]=_;rw[hX,List.append_nil]
 have hT:gO T5= .leaf (.sl 1 (eF [119] o2 na2 xs2 nb2 ys2 nm2 n2 cs2)):=by
  show DV.leaf (.sl 1 ((.val (vL [119])::aR (rx vk))++[]))=_;rw[hY,List.append_nil];rfl
 have hW:T9 (wz (fun _=> .ok ((25:Int):Rat)) c5.vs)= .tup [.leaf (.sl 1 [.val (.bool na3),aW xs3, .val (.bool nb3),aW ys3]),dN .i64 0]:=by
  show RV.tup [.leaf (.sl 1 (aQ ((25:Int):Rat)++[])),dN .i64 0]=_;rw[hZ,List.append_nil]
 have hQ:dQ ((25:Int):Rat)= .agg [.val (.bool na3),aW xs3, .val (.bool nb3),aW ys3]:=congrArg DV.agg hZ;rw[hC,hT,hW]at cW;rw[hC]at cWn;have cWn:aa Tryz.prog 22 [_, .leaf (.sl 0 [])] (.tup [.leaf (.sl 0 []),dN .i64 4]):=cWn;rw[hQ]at cQ cS;rw[hC]at cF;have pa:aa Tryz.prog 35 [dL [119,32,47,32,50]] (.tup [.agg (aR (rx tK)),dN .i64 0,dN .i64 0]):=pa;have pb:aa Tryz.prog 35 [dL [53,32,99,109]] (.tup [.agg (aR (rx vk)),dN .i64 0,dN .i64 0]):=pb;rw[hX]at pa;rw[hY]at pb;have cP:aa Tryz.prog 26 [dL s5] (.tup [.agg [.val (.int .i64 17), .sl 0 [], .sl 2 [.val (.int .i64 0), .val (.int .i64 2)], .sl 0 [], .val (.int .i64 (-1))],dN .i64 0]):=cP;clear hX hY hZ hC hT hW hQ;refine kV func11 ?_;refine kQ (pa) ?_;refine kQ (pb) ?_;refine kQ (cF) ?_
 refine kQ (cW) ?_;refine kQ (cWn) ?_;refine kC (cP) ?_;refine kG ?_
 iterate 20 refine kO ?_
 refine aD rfl rfl rfl rfl rfl rfl rfl (bv (a:=t5) (b:=t5) rfl) ?_;refine kW ?_;refine aH (i:=0) (cs':=[.val (.bool na3),aW xs3, .val (.bool nb3),aW ys3]) Nat.zero_lt_one (fun j a h=>by rw[Nat.zero_mul,Nat.zero_add];exact h) (Nat.zero_lt_succ 3) rfl rfl rfl rfl rfl rfl rfl rfl ?_;refine kO ?_;refine kC (cQ) ?_;refine kQ (cS) ?_;refine kC (cI) ?_;exact am
def MT (r:Kd):List AV:=[.val (.string ⟨r.nm.toArray⟩), .val (.int .i64 r.p), .val (.int .i64 r.c), .val (.int .i64 r.n), .val (.int .i64 r.v), .val (.int .i64 r.q), .val (.bool r.s)]
def R2:List AV:=[.val (.string ByteArray.empty), .val (.int .i64 0), .val (.int .i64 0), .val (.int .i64 0), .val (.int .i64 0), .val (.int .i64 0), .val (.bool false)]
def SQ:DV:= .leaf (.sl 17 (nJ.flatMap MT))
def Uy (o:Option Kd):RV:=match o with
 |some r=> .tup [.agg (MT r),dB true]
 |none=> .tup [.agg R2,dB false]
theorem Kh {i:Nat} {r:Kd} (h:nJ[i]? =some r):∀(j:Nat) (a:AV),(MT r)[j]? =some a->(nJ.flatMap MT)[i*7+j]? =some a:=vE (f:=MT) (q:=7) (fun _=>rfl) nJ i r h
set_option maxRecDepth 100000 in
theorem jW:aa Tryz.prog 37 [] (.one SQ):=by
 refine kU func37 ?_;exact am
theorem Dw (k:Int):aa Tryz.prog 31 [dN .i64 k] (Uy (oq k)):=by
 by_cases h1:k<1
 ·rw[zh h1]
  refine kU func31 ?_;exact Fq
 ·by_cases h2:17<k
  ·rw[AK h2]
   refine kU func31 ?_;refine Ec ?_;refine kC (jW) ?_;refine kO ?_;refine kT ?_;exact am
  ·obtain⟨i,rfl⟩:=Int.eq_ofNat_of_zero_le (show 0<=k by omega)
   obtain⟨r,hr,hi⟩:=pR (i:=i) (by omega) (by omega);rw[hr];refine kU func31 ?_;refine Ec ?_;refine kC (jW) ?_;refine Af ?_;refine kC (jW) ?_;refine kO ?_;refine kJ ((i-1:Nat)) ?_;refine aH (i:=i-1) (cs':=MT r) (by omega) (Kh hi) (Nat.zero_lt_succ 6) rfl rfl rfl rfl rfl rfl rfl rfl ?_;exact am
theorem lr (l:List Int) (m:Int) (hl:l.length<=1000000):aa Tryz.prog 47 [ma l,dN .i64 m] (.one (dB (l.all (kM m)))):=by
 refine kV func47 ?_;refine ax Nat (fun i=>i<=l.length/\ ∀z∈l.take i,kM m z=true) (fun i=>⟨[(0, .d (ma l)),(1, .d (dN .i64 m)),(5, .d (dN .i64 i))],[]⟩) (fun i=>l.length-i) 0 ⟨Nat.zero_le _,by simp⟩ kw ?_;rintro i ⟨hi,hn⟩;refine kI ?_
 refine kO3 ?_
 by_cases hlt:i<l.length
 ·refine kT ?_
  obtain⟨z,hz⟩:∃z,l[i]? =some z:=⟨l[i],by simp[hlt]⟩
  have hbad:kM m z=false->l.all (kM m)=false:=fun h=>Bool.eq_false_iff.2 fun h2=>by
   have:=List.all_eq_true.1 h2 z (List.mem_of_getElem? hz);rw[h]at this;cases this
  refine kG ?_
  refine kO2 ?_
  refine Ku ?_;refine kO ?_
  by_cases h0:z<0
  ·refine kT ?_
   refine fO ?_;exact congrArg (fun b=>RV.one (dB b)) (hbad (by unfold kM;rw[decide_eq_false (by omega)];rfl)).symm
  ·refine kE ?_
   refine kO3 ?_
   refine Ku ?_
   refine kO2 ?_
   by_cases h1:m<=z
   ·refine kT ?_
    refine fO ?_;exact congrArg (fun b=>RV.one (dB b)) (hbad (by unfold kM;rw[decide_eq_false (show ¬z<m by omega),Bool.and_false])).symm
   ·refine kE ?_
    refine kW ?_;refine⟨i+1,⟨hlt,?_⟩,by omega,weak ⟨rfl,rfl,aA (by omega) (by omega),trivial⟩ trivial rfl⟩;rw[bJ hz];intro x hx;rcases List.mem_append.1 hx with hx|hx
    ·exact hn x hx
    ·rw[List.mem_singleton.1 hx]
     unfold kM;rw[decide_eq_true (by omega),decide_eq_true (by omega)];rfl
 ·refine kE ?_
  refine fO ?_;rw[List.take_of_length_le (by omega)]at hn;exact congrArg (fun b=>RV.one (dB b)) (List.all_eq_true.2 hn).symm
theorem iF (l:List Int) (hl:l.length<=1000000):aa Tryz.prog 49 [ma l] (.one (dB (decide l.Nodup))):=by
 refine kV func49 ?_;refine ax Nat (fun i=>i<=l.length/\(l.take i).Nodup) (fun i=>⟨[(0, .d (ma l)),(3, .d (dN .i64 i))],[]⟩) (fun i=>l.length-i) 0 ⟨Nat.zero_le _,by simp⟩ kw ?_;rintro i ⟨hi,hn⟩;refine kI ?_
 refine kO3 ?_
 by_cases hlt:i<l.length
 ·refine kT ?_
  obtain⟨z,hz⟩:∃z,l[i]? =some z:=⟨l[i],by simp[hlt]⟩;have hd:=ry hn hz;refine kW ?_;refine ax Nat (fun k=>k<=i/\z ∉ l.take k) (fun k=>⟨[(0, .d (ma l)),(3, .d (dN .i64 i)),(4, .d (dN .i64 k))],[]⟩) (fun k=>i-k) 0 ⟨Nat.zero_le _,by simp⟩ kw ?_;rintro k ⟨hk,hm⟩;refine kI ?_
  refine kO2 ?_
  by_cases hki:k<i
  ·refine kT ?_
   obtain⟨x,hx⟩:∃x,l[k]? =some x:=⟨l[k],by simp[show k<l.length by omega]⟩;refine kG ?_
   refine kO2 ?_
   refine Ku ?_
   refine kO3 ?_
   refine aH (i:=k) (cs':=[.val (.int .i64 x)]) (by omega) (bn hx) (Nat.zero_lt_succ 0) rfl rfl rfl rfl rfl rfl rfl rfl ?_;refine kO ?_
   by_cases e:z=x
   ·refine kB true ?_ ?_
    ·exact(by simp[e])
    refine fO ?_;refine congrArg (fun b=>RV.one (dB b)) (decide_eq_false (hd.2 ?_)).symm;rw[e];exact List.mem_of_getElem? (i:=k) (by rw[List.getElem?_take,if_pos hki];exact hx)
   ·refine kB false ?_ ?_
    ·exact(by simp[e])
    refine kW ?_;refine⟨k+1,⟨hki,?_⟩,by omega,weak ⟨rfl,rfl,aA (by omega) (by omega),trivial⟩ trivial rfl⟩;rw[bJ hx,List.mem_append,not_or];exact⟨hm,fun h=>e (List.mem_singleton.1 h)⟩
  ·refine kE ?_
   refine kW ?_;have hki:k=i:=by omega
   exact⟨i+1,⟨hlt,hd.1 (hki ▸ hm)⟩,by omega,weak ⟨rfl,aA (by omega) (by omega),trivial⟩ trivial rfl⟩
 ·refine kE ?_
  refine fO ?_;exact Mt
end Go.Proofs.YtnchbpoopnjghaaGreatDoor
