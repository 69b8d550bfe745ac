/- Parts of a proof: contracts of the functions that the laws reach. -/
import Derived.Test.YtnchbpoopnjghaaGreatDoorQZ11
set_option maxHeartbeats 100000000
set_option linter.all false
open Go.Proofs.Tryz
namespace Go.Proofs.YtnchbpoopnjghaaGreatDoor
open Go.RowKit
theorem ME {l:Tb} {n:L8}:uh l n<0↔n ∉ l.map (·.1):=by
 unfold uh;have h:=l9 (l:=l) (n:=n)
 split
 ·rename_i h1
  obtain⟨p,hp,e⟩:=h.1 h1;exact⟨fun h=>by omega,fun h=>absurd (List.mem_map.2 ⟨p,hp,e⟩) h⟩
 ·rename_i h1
  refine⟨fun _ hn=>h1 (h.2 ?_),fun _=>by decide⟩;obtain⟨p,hp,e⟩:=List.mem_map.1 hn;exact⟨p,hp,e⟩
theorem ul.ns {l:Tb} (hs:ul l) {p:Pm} (hp:p∈l):(ju p.2).length<=120:=V_ (xf _) (hs p hp).2.sz
theorem nu {l:Tb} {out:List L8} {i:Nat} {p:Pm} (h:l[i]? =some p) {nx:L8} (hn:(l.take i).foldl (jQ out) []=nx):(l.take (i+1)).foldl (jQ out) []=jQ out nx p:=by rw[L7 h,hn]
theorem n8 (l:Tb) (hs:ul l) (hl:l.length<=1000):aa Tryz.prog 55 [da l] (.tup [lS (bW l).1,dN .i64 (bW l).2]):=by
 have cv:=ni l hs O_
 by_cases hv:ur l=0
 case neg=>
  rw[show bW l=([],ur l) by unfold bW;rw[if_neg hv]];generalize ur l=z at *;refine kU func55 ?_;exact OU
 have ho:=tC hv;rw[hv]at cv;have hord:bW l=if l.all (fun p=>uj p.2 (l.map (·.1)))=true then((match iD l l.length []with|some o=>(o,0)|none=>([],9)):List L8 × Int)else([],4):=by unfold bW;rw[if_pos hv];rfl
 obtain⟨RS,hRS⟩:∃RS,bW l=RS:=⟨_,rfl⟩;rw[hRS]at hord ⊢;clear hRS hv;refine kU func55 ?_;refine vH ?_;refine aq Nat (fun i=>i<=l.length/\ ∀p∈l.take i,uj p.2 (l.map (·.1))=true) (fun i=>⟨[(0, .d (da l)),(5, .d (dN .i64 i))],[]⟩) (fun i=>l.length-i) 0 ⟨Nat.zero_le _,by simp⟩ kw ?_;rintro i ⟨hi,hall⟩;refine kI ?_
 refine kO3 ?_
 by_cases hlt:i<l.length
 ·refine kT ?_
  obtain⟨p,hx⟩:∃p,l[i]? =some p:=⟨l[i],by simp[hlt]⟩;have hp:=M_ hx;have hsx:=(hs p hp).2;have hnl:=hs.ns hp;have cn:=jo p.2 hsx.wd (by have:=hsx.sz;omega);obtain⟨o1,na1,xs1,nb1,ys1,nm1,n1,cs1,hA,hB⟩:=bD p;have hat:∀(j:Nat) (a:AV),(bV p.1 o1 na1 xs1 nb1 ys1 nm1 n1 cs1)[j]? =some a->(ot l)[i*8+j]? =some a:=fun j a h=>de l i p hx j a (by rw[hB];exact h)
  rw[show dR p.2= .agg (ab o1 na1 xs1 nb1 ys1 nm1 n1 cs1) from congrArg DV.agg hA]at cn
  have hstep:(∀n∈ju p.2,n∈l.map (·.1))-> ∀q∈l.take (i+1),uj q.2 (l.map (·.1))=true:=fun h q hq=>by
   rw[aT hx]at hq;rcases List.mem_append.1 hq with hq|hq
   ·exact hall q hq
   ·rw[d_.1 hq];exact xJ.2 h
  have hbad:(∃n∈ju p.2,n ∉ l.map (·.1))->RS=([],4):=fun⟨n,h1,h2⟩=>by
   rw[hord,if_neg];intro h;exact h2 (xJ.1 (I_.1 h p hp) n h1)
  generalize ju p.2=ns at *;refine Aw ?_;refine kQ (cn) ?_;refine aq Nat (fun k=>k<=ns.length/\ ∀n∈ns.take k,n∈l.map (·.1)) (fun k=>⟨[(0, .d (da l)),(5, .d (dN .i64 i)),(6, .d (lS ns)),(7, .d (dN .i64 k))],[]⟩) (fun k=>ns.length-k) 0 ⟨Nat.zero_le _,by simp⟩ kw ?_;rintro k ⟨hk,hkn⟩;refine kI ?_
  refine kO3 ?_
  by_cases hkl:k<ns.length
  ·refine kT ?_
   obtain⟨x,hxx⟩:∃x,ns[k]? =some x:=⟨ns[k],by simp[hkl]⟩;have cf:=qU l x O_;have hfn:=ME (l:=l) (n:=x);generalize uh l x=f at *;refine kW ?_;refine aH (i:=k) (cs':=[.val (vL x)]) hkl (ef hxx) (Z_ 0) rfl rfl rfl rfl rfl rfl rfl rfl ?_;refine kO ?_;refine kC (cf) ?_
   by_cases hneg:f<0
   ·refine kB true ?_ ?_
    ·exact T_ hneg
    refine eH ?_;rw[hbad ⟨x,M_ hxx,hfn.1 hneg⟩];rfl
   ·refine kB false ?_ ?_
    ·exact F_ hneg
    refine kW ?_;refine⟨k+1,⟨hkl,?_⟩,by omega,weak ⟨rfl,rfl,rfl,ai O_ O_,trivial⟩ trivial rfl⟩;rw[aT hxx];intro n hn;rcases List.mem_append.1 hn with h|h
    ·exact hkn n h
    ·rw[d_.1 h];exact Classical.byContradiction fun h=>hneg (hfn.2 h)
  ·refine kE ?_
   refine kW ?_;rw[K_ O_]at hkn;exact⟨i+1,⟨hlt,hstep hkn⟩,by omega,weak ⟨rfl,ai O_ O_,trivial⟩ trivial rfl⟩
 ·refine kE ?_
  rw[K_ O_]at hall;have hord:RS=(match iD l l.length []with|some o=>(o,0)|none=>([],9)):=by rw[hord,if_pos (I_.2 hall)]
  clear hall hlt hi cv;refine kW ?_;refine aq (List L8) (fun o=>o.length<=l.length/\iD l (l.length-o.length) o=iD l l.length []) (fun o=>⟨[(8,mX 5001 o),(0, .d (da l))],[(5001,qt o)]⟩) (fun o=>l.length-o.length) [] ⟨Nat.zero_le _,rfl⟩ kw ?_;rintro o ⟨hol,hog⟩;have ho1:o.length<=1000000:=O_
  by_cases hlo:o.length<l.length
  case neg=>
   have hend:RS=(o,0):=by rw[hord,<- hog,show l.length-o.length=0 by omega];rfl
   cases o with
   |nil=>
    refine PS ?_;refine eH ?_;rw[hend];rfl
   |cons a r=>
    refine vf ?_;refine jP ?_;refine bu (T:=TT) ?_;refine dh (bf (q:=8) rfl rfl) rfl ?_;refine eH ?_;rw[hend];rfl
  obtain⟨kk,hkk⟩:∃kk,l.length-o.length=kk+1:=⟨l.length-o.length-1,by omega⟩;rw[hkk,iD]at hog
  have hcont:∀(k:Nat) (p:Pm),l[k]? =some p->AJ l o=p.1->iD l (l.length-(o++[p.1]).length) (o++[p.1])=iD l l.length []:=fun k p hk hn=>by
   rw[hn,if_neg (ho.ne (M_ hk))]at hog;exact PH
  have hcyc:AJ l o=[]->RS=([],9):=fun h=>by rw[if_pos h]at hog;rw[hord,<- hog]
  have hbest0:tP l (-1) ((l.take 0).foldl (jQ o) []):= .inl ⟨rfl,by simp⟩;cases o with
  |nil=>
   refine Ov ?_;refine aq (Nat × Int) (fun x=>x.1<=l.length/\tP l x.2 ((l.take x.1).foldl (jQ ([])) [])) (fun x=>⟨[(8, .nil),(0, .d (da l)),(9, .d (dN .i64 x.2)),(10, .d (dN .i64 x.1))],[]⟩) (fun x=>l.length-x.1) (0,-1) ⟨Nat.zero_le _,hbest0⟩ kw ?_;rintro⟨i,b⟩ ⟨hi,hbst⟩;dsimp only at hi hbst ⊢;obtain⟨nx,hnx⟩:∃nx,(l.take i).foldl (jQ ([])) []=nx:=⟨_,rfl⟩;rw[hnx]at hbst;refine kI ?_
   refine kO3 ?_
   by_cases hlt:i<l.length
   ·refine kT ?_
    obtain⟨p,hx⟩:∃p,l[i]? =some p:=⟨l[i],by simp[hlt]⟩;have hnext:=nu hx hnx;have hp:=M_ hx;have hsx:=(hs p hp).2;have hnl:=hs.ns hp;have cn:=jo p.2 hsx.wd (by have:=hsx.sz;omega);obtain⟨o1,na1,xs1,nb1,ys1,nm1,n1,cs1,hA,hB⟩:=bD p;have hat:∀(j:Nat) (a:AV),(bV p.1 o1 na1 xs1 nb1 ys1 nm1 n1 cs1)[j]? =some a->(ot l)[i*8+j]? =some a:=fun j a h=>de l i p hx j a (by rw[hB];exact h)
    rw[show dR p.2= .agg (ab o1 na1 xs1 nb1 ys1 nm1 n1 cs1) from congrArg DV.agg hA]at cn;have hcd:tf ([]) p=(!(decide (p.1∈([]:List L8))) && (ju p.2).all fun n=>decide (n∈([]:List L8))):=rfl;generalize ju p.2=ns at *;have c1:=Bu ([]) p.1 ho1;have c2:=G7 ([]) ns ho1 O_
    have keep:tf ([]) p=false->tP l b ((l.take (i+1)).foldl (jQ ([])) []):=fun h=>by
     exact Qw
    have take:tf ([]) p=true->(nx=[]∨Op.bytesLess p.1 nx=true)->tP l (i:Nat) ((l.take (i+1)).foldl (jQ ([])) []):=fun h1 h2=>by
     rw[hnext,jQ,if_pos ⟨h1,h2⟩];exact .inr ⟨i,p,rfl,hx,rfl⟩
    have hall:decide (p.1∈([]:List L8))=true∨(decide (p.1∈([]:List L8))=false/\(ns.all fun n=>decide (n∈([]:List L8)))=false) ∨
     (decide (p.1∈([]:List L8))=false/\(ns.all fun n=>decide (n∈([]:List L8)))=true/\b= -1/\nx=[]) ∨
     (∃(k:Nat) (q:Pm),decide (p.1∈([]:List L8))=false/\(ns.all fun n=>decide (n∈([]:List L8)))=true/\b=k/\l[k]? =some q/\q.1=nx/\Op.bytesLess p.1 q.1=false) ∨
     (∃(k:Nat) (q:Pm),decide (p.1∈([]:List L8))=false/\(ns.all fun n=>decide (n∈([]:List L8)))=true/\b=k/\l[k]? =some q/\q.1=nx/\Op.bytesLess p.1 q.1=true):=by
     rcases Bool.eq_false_or_eq_true (decide (p.1∈([]:List L8)))with h|h
     ·exact .inl h
     rcases Bool.eq_false_or_eq_true (ns.all fun n=>decide (n∈([]:List L8)))with h2|h2
     ·exact Ob
     ·exact .inr (.inl ⟨h,h2⟩)
    rcases hall with hb1| ⟨hb1,hb2⟩| ⟨hb1,hb2,rfl,hnx0⟩| ⟨k,q,hb1,hb2,rfl,hk,hq,hls⟩| ⟨k,q,hb1,hb2,rfl,hk,hq,hls⟩
    ·clear c2 take
     rw[hb1]at c1;refine Aw ?_;refine kQ (c1) ?_;exact⟨(i+1,b),⟨hlt,keep (by rw[hcd,hb1];rfl)⟩,by dsimp only;omega,weak ⟨rfl,rfl,rfl,ai (by dsimp only;omega) O_,trivial⟩ trivial rfl⟩
    ·clear take
     rw[hb2]at c2;rw[hb1]at c1;refine Dd ?_;refine kW ?_;exact⟨(i+1,b),⟨hlt,keep (by rw[hcd,hb1,hb2];rfl)⟩,by dsimp only;omega,weak ⟨rfl,rfl,rfl,ai (by dsimp only;omega) O_,trivial⟩ trivial rfl⟩
    ·clear keep
     have hcdt:tf ([]) p=true:=by rw[hcd,hb1,hb2];rfl
     rw[hb2]at c2;rw[hb1]at c1;refine Dd ?_;refine kW ?_;exact⟨(i+1,(i:Nat)),⟨hlt,take hcdt (.inl hnx0)⟩,by dsimp only;omega,weak ⟨rfl,rfl,rfl,ai (by dsimp only;omega) O_,trivial⟩ trivial rfl⟩
    ·clear take
     have hkl:=(G_.1 hk).1;obtain⟨o2,na2,xs2,nb2,ys2,nm2,n2,cs2,hA2,hB2⟩:=bD q;have hat2:∀(j:Nat) (a:AV),(bV q.1 o2 na2 xs2 nb2 ys2 nm2 n2 cs2)[j]? =some a->(ot l)[k*8+j]? =some a:=fun j a h=>de l k q hk j a (by rw[hB2];exact h)
     rw[hb2]at c2;rw[hb1]at c1;refine Dd ?_;refine C9 ?_;refine P3 ?_;refine⟨(i+1,(k:Nat)),⟨hlt,?_⟩,by dsimp only;omega,weak ⟨rfl,rfl,rfl,ai (by dsimp only;omega) O_,trivial⟩ trivial rfl⟩;exact QC
    ·clear keep
     have hcdt:tf ([]) p=true:=by rw[hcd,hb1,hb2];rfl
     have hkl:=(G_.1 hk).1;obtain⟨o2,na2,xs2,nb2,ys2,nm2,n2,cs2,hA2,hB2⟩:=bD q;have hat2:∀(j:Nat) (a:AV),(bV q.1 o2 na2 xs2 nb2 ys2 nm2 n2 cs2)[j]? =some a->(ot l)[k*8+j]? =some a:=fun j a h=>de l k q hk j a (by rw[hB2];exact h)
     rw[hb2]at c2;rw[hb1]at c1;refine Dd ?_;refine C9 ?_;refine Qj ?_;exact⟨(i+1,(i:Nat)),⟨hlt,take hcdt (.inr (by rw[<- hq];exact hls))⟩,by dsimp only;omega,weak ⟨rfl,rfl,rfl,ai (by dsimp only;omega) O_,trivial⟩ trivial rfl⟩
   ·refine kE ?_
    rw[K_ O_]at hnx;have hnN:AJ l ([])=nx:=hnx;refine kW ?_;rcases hbst with⟨rfl,hnx0⟩| ⟨k,q,rfl,hk,hq⟩
    ·refine eH ?_
     rw[hcyc (hnN.trans hnx0)];rfl
    ·have hkl:=(G_.1 hk).1
     obtain⟨o2,na2,xs2,nb2,ys2,nm2,n2,cs2,hA2,hB2⟩:=bD q;have hat2:∀(j:Nat) (a:AV),(bV q.1 o2 na2 xs2 nb2 ys2 nm2 n2 cs2)[j]? =some a->(ot l)[k*8+j]? =some a:=fun j a h=>de l k q hk j a (by rw[hB2];exact h)
     refine d4 (T:=TT) rfl ?_ ?_
     ·exact F_ O_
     refine kW ?_;refine Sd ?_
     refine kO3 ?_
     refine ek 5002 (m1:=([]:List L8).length) (m2:=1) af D_ (V_ (P_ _ (show([]:List L8).length+1<=1000001 by omega)) D_) rfl rfl rfl rfl rfl rfl rfl rfl rfl rfl rfl (.nil rfl rfl) rfl rfl rfl ?_;refine kW ?_;refine⟨([])++[q.1],⟨by simp only[L_,List.length_cons,List.length_nil]at hlo ⊢;omega,hcont k q hk (hnN.trans hq.symm)⟩,by simp only[L_,List.length_cons,List.length_nil]at hlo ⊢;omega,Eq.mpr (congrArg (aM _) (pQ [(0, .d (da l))] [] 8 5001 ([]) q.1 [])) ?_⟩;exact aM.trans (b:=⟨[(8, .own 5002 (([]:List L8).length+1) 1 9),(0, .d (da l))],[(5002,some ((av ([])).take (([]:List L8).length*1)++[.val (vL q.1)]))]⟩) kw ((aD (q:=8) (j:=5002) (j':=5001) rfl rfl rfl rfl).trans kw)
  |cons a r=>
   refine qv ?_;refine kW ?_;refine aq (Nat × Int) (fun x=>x.1<=l.length/\tP l x.2 ((l.take x.1).foldl (jQ (List.cons a r)) [])) (fun x=>⟨[(8, .own 5001 (List.cons a r).length 1 9),(0, .d (da l)),(9, .d (dN .i64 x.2)),(10, .d (dN .i64 x.1))],[(5001,some (av (List.cons a r)))]⟩) (fun x=>l.length-x.1) (0,-1) ⟨Nat.zero_le _,hbest0⟩ kw ?_;rintro⟨i,b⟩ ⟨hi,hbst⟩;dsimp only at hi hbst ⊢;obtain⟨nx,hnx⟩:∃nx,(l.take i).foldl (jQ (List.cons a r)) []=nx:=⟨_,rfl⟩;rw[hnx]at hbst;refine kI ?_
   refine kO3 ?_
   by_cases hlt:i<l.length
   ·refine kT ?_
    obtain⟨p,hx⟩:∃p,l[i]? =some p:=⟨l[i],by simp[hlt]⟩;have hnext:=nu hx hnx;have hp:=M_ hx;have hsx:=(hs p hp).2;have hnl:=hs.ns hp;have cn:=jo p.2 hsx.wd (by have:=hsx.sz;omega);obtain⟨o1,na1,xs1,nb1,ys1,nm1,n1,cs1,hA,hB⟩:=bD p;have hat:∀(j:Nat) (a:AV),(bV p.1 o1 na1 xs1 nb1 ys1 nm1 n1 cs1)[j]? =some a->(ot l)[i*8+j]? =some a:=fun j a h=>de l i p hx j a (by rw[hB];exact h)
    rw[show dR p.2= .agg (ab o1 na1 xs1 nb1 ys1 nm1 n1 cs1) from congrArg DV.agg hA]at cn;have hcd:tf (List.cons a r) p=(!(decide (p.1∈(List.cons a r:List L8))) && (ju p.2).all fun n=>decide (n∈(List.cons a r:List L8))):=rfl;generalize ju p.2=ns at *;have c1:=Bu (List.cons a r) p.1 ho1;have c2:=G7 (List.cons a r) ns ho1 O_
    have keep:tf (List.cons a r) p=false->tP l b ((l.take (i+1)).foldl (jQ (List.cons a r)) []):=fun h=>by
     exact Qw
    have take:tf (List.cons a r) p=true->(nx=[]∨Op.bytesLess p.1 nx=true)->tP l (i:Nat) ((l.take (i+1)).foldl (jQ (List.cons a r)) []):=fun h1 h2=>by
     rw[hnext,jQ,if_pos ⟨h1,h2⟩];exact .inr ⟨i,p,rfl,hx,rfl⟩
    have hall:decide (p.1∈(List.cons a r:List L8))=true∨(decide (p.1∈(List.cons a r:List L8))=false/\(ns.all fun n=>decide (n∈(List.cons a r:List L8)))=false) ∨
     (decide (p.1∈(List.cons a r:List L8))=false/\(ns.all fun n=>decide (n∈(List.cons a r:List L8)))=true/\b= -1/\nx=[]) ∨
     (∃(k:Nat) (q:Pm),decide (p.1∈(List.cons a r:List L8))=false/\(ns.all fun n=>decide (n∈(List.cons a r:List L8)))=true/\b=k/\l[k]? =some q/\q.1=nx/\Op.bytesLess p.1 q.1=false) ∨
     (∃(k:Nat) (q:Pm),decide (p.1∈(List.cons a r:List L8))=false/\(ns.all fun n=>decide (n∈(List.cons a r:List L8)))=true/\b=k/\l[k]? =some q/\q.1=nx/\Op.bytesLess p.1 q.1=true):=by
     rcases Bool.eq_false_or_eq_true (decide (p.1∈(List.cons a r:List L8)))with h|h
     ·exact .inl h
     rcases Bool.eq_false_or_eq_true (ns.all fun n=>decide (n∈(List.cons a r:List L8)))with h2|h2
     ·exact Ob
     ·exact .inr (.inl ⟨h,h2⟩)
    rcases hall with hb1| ⟨hb1,hb2⟩| ⟨hb1,hb2,rfl,hnx0⟩| ⟨k,q,hb1,hb2,rfl,hk,hq,hls⟩| ⟨k,q,hb1,hb2,rfl,hk,hq,hls⟩
    ·clear c2 take
     rw[hb1]at c1;refine kW ?_;refine vi ?_;refine T8 ?_;refine kW ?_;exact⟨(i+1,b),⟨hlt,keep (by rw[hcd,hb1];rfl)⟩,by dsimp only;omega,weak ⟨rfl,rfl,rfl,ai (by dsimp only;omega) O_,trivial⟩ ⟨rfl,trivial⟩ rfl⟩
    ·clear take
     rw[hb2]at c2;rw[hb1]at c1;refine CU ?_;refine kW ?_;exact⟨(i+1,b),⟨hlt,keep (by rw[hcd,hb1,hb2];rfl)⟩,by dsimp only;omega,weak ⟨rfl,rfl,rfl,ai (by dsimp only;omega) O_,trivial⟩ ⟨rfl,trivial⟩ rfl⟩
    ·clear keep
     have hcdt:tf (List.cons a r) p=true:=by rw[hcd,hb1,hb2];rfl
     rw[hb2]at c2;rw[hb1]at c1;refine CU ?_;refine kW ?_;exact⟨(i+1,(i:Nat)),⟨hlt,take hcdt (.inl hnx0)⟩,by dsimp only;omega,weak ⟨rfl,rfl,rfl,ai (by dsimp only;omega) O_,trivial⟩ ⟨rfl,trivial⟩ rfl⟩
    ·clear take
     have hkl:=(G_.1 hk).1;obtain⟨o2,na2,xs2,nb2,ys2,nm2,n2,cs2,hA2,hB2⟩:=bD q;have hat2:∀(j:Nat) (a:AV),(bV q.1 o2 na2 xs2 nb2 ys2 nm2 n2 cs2)[j]? =some a->(ot l)[k*8+j]? =some a:=fun j a h=>de l k q hk j a (by rw[hB2];exact h)
     rw[hb2]at c2;rw[hb1]at c1;refine CU ?_;refine C9 ?_;refine P3 ?_;refine⟨(i+1,(k:Nat)),⟨hlt,?_⟩,by dsimp only;omega,weak ⟨rfl,rfl,rfl,ai (by dsimp only;omega) O_,trivial⟩ ⟨rfl,trivial⟩ rfl⟩;exact QC
    ·clear keep
     have hcdt:tf (List.cons a r) p=true:=by rw[hcd,hb1,hb2];rfl
     have hkl:=(G_.1 hk).1;obtain⟨o2,na2,xs2,nb2,ys2,nm2,n2,cs2,hA2,hB2⟩:=bD q;have hat2:∀(j:Nat) (a:AV),(bV q.1 o2 na2 xs2 nb2 ys2 nm2 n2 cs2)[j]? =some a->(ot l)[k*8+j]? =some a:=fun j a h=>de l k q hk j a (by rw[hB2];exact h)
     rw[hb2]at c2;rw[hb1]at c1;refine CU ?_;refine C9 ?_;refine Qj ?_;exact⟨(i+1,(i:Nat)),⟨hlt,take hcdt (.inr (by rw[<- hq];exact hls))⟩,by dsimp only;omega,weak ⟨rfl,rfl,rfl,ai (by dsimp only;omega) O_,trivial⟩ ⟨rfl,trivial⟩ rfl⟩
   ·refine kE ?_
    rw[K_ O_]at hnx;have hnN:AJ l (List.cons a r)=nx:=hnx;refine kW ?_;rcases hbst with⟨rfl,hnx0⟩| ⟨k,q,rfl,hk,hq⟩
    ·refine eH ?_
     rw[hcyc (hnN.trans hnx0)];rfl
    ·have hkl:=(G_.1 hk).1
     obtain⟨o2,na2,xs2,nb2,ys2,nm2,n2,cs2,hA2,hB2⟩:=bD q;have hat2:∀(j:Nat) (a:AV),(bV q.1 o2 na2 xs2 nb2 ys2 nm2 n2 cs2)[j]? =some a->(ot l)[k*8+j]? =some a:=fun j a h=>de l k q hk j a (by rw[hB2];exact h)
     refine d4 (T:=TT) rfl ?_ ?_
     ·exact F_ O_
     refine kW ?_;refine Sd ?_
     refine kO3 ?_
     refine ek 5002 (m1:=(List.cons a r:List L8).length) (m2:=1) af D_ (V_ (P_ _ (show(List.cons a r:List L8).length+1<=1000001 by omega)) D_) rfl rfl rfl rfl rfl rfl rfl rfl rfl rfl rfl (.own rfl rfl) rfl rfl rfl ?_;refine kW ?_;refine⟨(List.cons a r)++[q.1],⟨by simp only[L_,List.length_cons,List.length_nil]at hlo ⊢;omega,hcont k q hk (hnN.trans hq.symm)⟩,by simp only[L_,List.length_cons,List.length_nil]at hlo ⊢;omega,Eq.mpr (congrArg (aM _) (pQ [(0, .d (da l))] [] 8 5001 (List.cons a r) q.1 [])) ?_⟩
     exact aM.trans (b:=⟨[(8, .own 5002 ((List.cons a r:List L8).length+1) 1 9),(0, .d (da l))],[(5002,some ((av (List.cons a r)).take ((List.cons a r:List L8).length*1)++[.val (vL q.1)]))]⟩) kw ((aD (q:=8) (j:=5002) (j':=5001) rfl rfl rfl rfl).trans kw)
def Bd (q:Rat) (n:Nat):Prop:=q.num.natAbs<2^n/\(q.den:Int).natAbs<2^n
theorem kS {x m n:Nat} (h:x<2^m) (hm:m<=n):x<2^n:=k_ h (Nat.pow_le_pow_right D_ hm)
theorem Bd.mono {q:Rat} {m n:Nat} (h:Bd q m) (hm:m<=n):Bd q n:=⟨kS h.1 hm,kS h.2 hm⟩
theorem Bd.divInt {k:Nat} {n d:Int} (h:n.natAbs<2^k) (h':d.natAbs<2^k) (hd:d≠0):Bd (Rat.divInt n d) k:=by
 obtain⟨_,_,h1,h2⟩:=mM (n:=n) (d:=d) hd;have hg:0<(gz n d).natAbs:=by have:=zP (n:=n) hd;omega
 refine⟨Nat.lt_of_le_of_lt ?_ h,Nat.lt_of_le_of_lt ?_ h'⟩
 ·conv=>rhs;rw[h1,Int.natAbs_mul]
  exact Nat.le_mul_of_pos_left _ hg
 ·conv=>rhs;rw[h2,Int.natAbs_mul]
  exact Nat.le_mul_of_pos_left _ hg
theorem gY {x y:Int} {a c:Nat} (h:x.natAbs<2^a) (h':y.natAbs<2^c):(x*y).natAbs<2^(a+c):=by
 rw[Int.natAbs_mul,Nat.pow_add];exact Nat.mul_lt_mul'' h h'
theorem Bd.mul {x y:Rat} {m n:Nat} (h:Bd x m) (k:Bd y n):Bd (x*y) (m+n):=by
 rw[<- my];exact .divInt (gY h.1 k.1) (gY h.2 k.2) (by have:=Int.mul_pos (bT x) (bT y);omega)
theorem Bd.div {x y:Rat} {m n:Nat} (h:Bd x m) (k:Bd y n) (hy:y≠0):Bd (x/y) (m+n):=by
 rw[<- mA];have h0:y.num≠0:=fun e=>hy (Rat.num_eq_zero.1 e)
 exact .divInt (gY h.1 k.2) (gY h.2 k.1) (Int.mul_ne_zero (by have:=bT x;omega) h0)
theorem Bd.add {x y:Rat} {m n:Nat} (h:Bd x m) (k:Bd y n):Bd (x+y) (m+n+1):=by
 rw[<- mt];refine .divInt ?_ (kS (gY h.2 k.2) O_) (by have:=Int.mul_pos (bT x) (bT y);omega);have h1:=gY h.1 k.2;have h2:=gY k.1 h.2;rw[Nat.add_comm n m]at h2;have h3:=Int.natAbs_add_le (x.num*y.den) (y.num*x.den);rw[Nat.pow_succ];omega
theorem Bd.neg {x:Rat} {n:Nat} (h:Bd x n):Bd (-x) n:=⟨by rw[Rat.neg_num,Int.natAbs_neg];exact h.1,h.2⟩
theorem Bd.szQ {x:Rat} {n:Nat} (h:Bd x n) {k:Nat} (hk:n<=32*k):b8 k x:=by
 have e:(4294967296:Nat)^k=2^(32*k):=by rw[show(4294967296:Nat)=2^32 from rfl,<- Nat.pow_mul]
 exact⟨by unfold Sz;rw[e];exact kS h.1 hk,by unfold Sz;rw[e];exact kS h.2 hk⟩
theorem b8.bd {x:Rat} {k:Nat} (h:b8 k x):Bd x (32*k):=by
 have e:(4294967296:Nat)^k=2^(32*k):=by rw[show(4294967296:Nat)=2^32 from rfl,<- Nat.pow_mul]
 exact⟨by have:=h.1;unfold Sz at this;rwa[e]at this,by have:=h.2;unfold Sz at this;rwa[e]at this⟩
theorem Rz {k:B4} {m n:Nat} {a b:Rat} {p p':Int} {x:Rat × Int} (h1:Bd a m) (h2:Bd b n) (h:B5 k a p b p'= .ok x):Bd x.1 (m+n+1):=by
 cases k<;>simp only[B5,jV,oS,qu]at h
 ·split at h<;>cases h;exact h1.add h2
 ·split at h<;>cases h;exact h1.add h2.neg
 ·split at h<;>cases h;exact(h1.mul h2).mono O_
 ·split at h
  ·cases h
  ·split at h<;>cases h
   exact(h1.div h2 (by assumption)).mono O_
mutual
def l6 (b:List UInt8->Nat):Rx->Nat
 | .mk _ _ xs _ ys nm args=>min (1+32*(xs.length+ys.length)+(if nm=[]then 0 else 32)+b nm+jO b args) 1048576
def jO (b:List UInt8->Nat):List Rx->Nat
 | []=>0
 |x::r=>l6 b x+jO b r
end
def x3:Ex->List (List UInt8)
 | .num _ _=>[]
 | .nam s=>[s]
 | .neg a=>x3 a
 | .bin _ a b=>x3 a++x3 b
def SR (q:Rat) (n:Nat):Prop:=n<1048576->Bd q n
theorem Ei {env:List UInt8->Option (Rat × Int)} {b:List UInt8->Nat}:∀{e:Ex} {x:Rat × Int},ba env e= .ok x->(∀s∈x3 e,∀y,env s=some y->SR y.1 (b s))->SR x.1 (l6 b (rx e))
 | .num v u,x,h,_=>by
  intro hw
  have hv:Bd v (32*((digs v.num.natAbs).length+(digs (v.den:Int).natAbs).length)):=by
   have h1:Sz (digs v.num.natAbs).length v.num:=Sz.of_digs (l_ _);have h2:Sz (digs (v.den:Int).natAbs).length (v.den:Int):=Sz.of_digs (l_ _);exact b8.bd ⟨h1.mono O_,h2.mono O_⟩
  simp only[rx,l6,jO]at hw ⊢
  simp only[ba]at h
  split at h
  ·rename_i hu
   cases h;rw[if_pos hu]at hw ⊢;exact hv.mono O_
  ·rename_i hu
   split at h
   ·rename_i q hq
    cases h;rw[if_neg hu]at hw ⊢;have h1:=hv.mul (b8.bd (wL hq).1);exact h1.mono O_
   ·cases h
 | .nam s,x,h,hb=>by
  intro hw
  simp only[ba]at h
  split at h
  ·rename_i y hy
   cases h
   simp only[rx,l6,jO]at hw ⊢
   exact(hb s (by simp[x3]) _ hy O_).mono O_
  ·cases h
 | .neg a,x,h,hb=>by
  intro hw
  simp only[ba]at h
  split at h
  ·rename_i y hy
   cases h
   simp only[rx,l6,jO]at hw ⊢
   exact(Ei (e:=a) hy hb O_).neg.mono O_
  ·cases h
 | .bin k a c,x,h,hb=>by
  intro hw
  simp only[ba]at h
  split at h
  ·cases h
  ·rename_i y hy
   split at h
   ·cases h
   ·rename_i z hz
    simp only[rx,l6,jO]at hw ⊢
    have h1:=Ei (e:=a) hy (fun s hs=>hb s (List.mem_append_left _ hs)) O_;have h2:=Ei (e:=c) hz (fun s hs=>hb s (List.mem_append_right _ hs)) O_;exact(Rz h1 h2 h).mono O_
theorem ym {a b:Nat} (h:digs a=digs b):a=b:=by rw[<- ah a,h,ah]
theorem xE:∀{a b:Ex},rx a=rx b->a=b
 | .num v u, .num v' u',h=>by
  simp only[rx,Rx.mk.injEq,decide_eq_decide]at h
  obtain⟨_,h1,h2,_,h3,h4,_⟩:=h;have h2:=ym h2;have h3:=ym h3;have:v=v':=Rat.ext O_ O_;rw[this,h4]
 | .num _ _, .nam _,h=>by simp[rx]at h
 | .num _ _, .neg _,h=>by simp[rx]at h
 | .num _ _, .bin k _ _,h=>by cases k<;>simp[rx,B4.code]at h
 | .nam _, .num _ _,h=>by simp[rx]at h
 | .nam _, .nam _,h=>by simp[rx]at h;rw[h]
 | .nam _, .neg _,h=>by simp[rx]at h
 | .nam _, .bin k _ _,h=>by cases k<;>simp[rx,B4.code]at h
 | .neg _, .num _ _,h=>by simp[rx]at h
 | .neg _, .nam _,h=>by simp[rx]at h
 | .neg a, .neg b,h=>by simp[rx]at h;rw[xE h]
 | .neg _, .bin k _ _,h=>by cases k<;>simp[rx,B4.code]at h
 | .bin k _ _, .num _ _,h=>by cases k<;>simp[rx,B4.code]at h
 | .bin k _ _, .nam _,h=>by cases k<;>simp[rx,B4.code]at h
 | .bin k _ _, .neg _,h=>by cases k<;>simp[rx,B4.code]at h
 | .bin k a b, .bin k' a' b',h=>by
  simp only[rx,Rx.mk.injEq,List.cons.injEq,and_true,true_and]at h
  obtain⟨h1,h2,h3⟩:=h;have:k=k':=by cases k<;>cases k'<;>first|rfl|simp[B4.code]at h1
  rw[this,xE h2,xE h3]
noncomputable def iE (x:Rx):Ex:= @dite _ (∃e,x=rx e/\qB e) (Classical.propDecidable _) (fun h=>Classical.choose h) (fun _=> .nam [])
theorem xr {e:Ex} (h:qB e):iE (rx e)=e:=by
 have h0:∃e',rx e=rx e'/\qB e':=⟨e,rfl,h⟩;unfold iE;rw[dif_pos h0];exact(xE (Classical.choose_spec h0).1).symm
theorem sc {x:Rx} (h:∃e,x=rx e/\qB e):rx (iE x)=x/\qB (iE x):=by
 obtain⟨e,rfl,hf⟩:=h;rw[xr hf];exact⟨rfl,hf⟩
theorem Dl:∀(e:Ex) (n:L8),n∈ju (rx e)↔n∈x3 e
 | .num v u,n=>by simp[rx,ju,fH,x3,gW]
 | .nam s,n=>by simp[rx,ju,fH,x3,gW]
 | .neg a,n=>by simp[rx,ju,fH,x3,gW,Dl a]
 | .bin k a b,n=>by
  have:¬k.code=2:=by cases k<;>decide
  simp[rx,ju,fH,x3,gW,Dl a,Dl b,this]
theorem gJ {u v:L8->Option (Rat × Int)}:∀{e:Ex},(∀n∈x3 e,u n=v n)->ba u e=ba v e
 | .num _ _,_=>rfl
 | .nam s,h=>by simp only[ba,h s (by simp[x3])]
 | .neg a,h=>by simp only[ba,gJ (e:=a) h]
 | .bin k a b,h=>by simp only[ba,gJ (e:=a) (fun n hn=>h n (List.mem_append_left _ hn)),gJ (e:=b) (fun n hn=>h n (List.mem_append_right _ hn))]
def oG:EL->L8->Nat
 | [],_=>0
 |y::r,n=>if Op.bytesLess y.1 n=true then oG r n+1 else 0
def f6 (l:EL) (n:L8) (v:Rat × Int):EL:=l.take (oG l n)++(n,v)::l.drop (oG l n)
theorem xR:∀(l:EL) (n:L8),oG l n<=l.length
 | [],_=>l_ _
 |y::r,n=>by
  unfold oG
  split
  ·have:=xR r n;simp;omega
  ·exact Nat.zero_le _
theorem Ic:∀{l:EL} {n:L8} {i:Nat} {x:L8 × (Rat × Int)},i<oG l n->l[i]? =some x->Op.bytesLess x.1 n=true
 | [],n,i,x,_,h=>by simp at h
 |y::r,n,i,x,hi,h=>by
  unfold oG at hi
  split at hi
  ·rename_i hy
   cases i with
   |zero=>simp at h;subst h;exact hy
   |succ i=>exact Ic (l:=r) (n:=n) (i:=i) O_ (by simpa using h)
  ·omega
theorem Je:∀{l:EL} {n:L8} {x:L8 × (Rat × Int)},l[oG l n]? =some x->Op.bytesLess x.1 n=false
 | [],n,x,h=>by simp[oG]at h
 |y::r,n,x,h=>by
  unfold oG at h
  split at h
  ·exact Je (l:=r) (by simpa using h)
  ·rename_i hy;simp at h;subst h;simpa using hy
theorem tQ {l:EL} {n:L8} {v:Rat × Int} {x:L8 × (Rat × Int)}:x∈f6 l n v↔x=(n,v)∨x∈l:=by
 unfold f6
 conv=>rhs;rw[<- List.take_append_drop (oG l n) l]
 simp only[List.mem_append,f_]
 grind
theorem rY (l:EL) (n:L8) (v:Rat × Int):(f6 l n v).length=l.length+1:=by
 have:=xR l n
 simp[f6]
 omega
theorem E9 (y:L8 × (Rat × Int)) (r:EL) (n:L8) (v:Rat × Int):f6 (y::r) n v=if Op.bytesLess y.1 n=true then y::f6 r n v else(n,v)::y::r:=by
 unfold f6
 conv=>lhs;unfold oG
 split <;>simp
theorem fT {y:L8 × (Rat × Int)} {r:EL}:eW (y::r)↔(∀x∈r,Op.bytesLess y.1 x.1=true)/\eW r:=by
 constructor
 ·intro h
  refine⟨fun x hx=>?_,fun i j a b hij ha hb=>h (i+1) (j+1) a b O_ (by simpa using ha) (by simpa using hb)⟩;obtain⟨i,hi⟩:=W_ hx;exact h 0 (i+1) y x O_ rfl (by simpa using hi)
 ·rintro⟨h1,h2⟩ i j a b hij ha hb
  cases j with
  |zero=>omega
  |succ j=>
   cases i with
   |zero=>simp at ha;subst ha;exact h1 b (M_ (by simpa using hb))
   |succ i=>exact h2 i j a b O_ (by simpa using ha) (by simpa using hb)
theorem uf:eW []:=fun i j a b _ h=>by simp at h
theorem pT:∀{l:EL} {n:L8} {v:Rat × Int},eW l->(∀x∈l,x.1≠n)->eW (f6 l n v)
 | [],n,v,_,_=>by
  rw[show f6 [] n v=[(n,v)] from rfl,fT];exact⟨fun x hx=>absurd hx S_,uf⟩
 |y::r,n,v,h,hn=>by
  rw[E9];rw[fT]at h
  split
  ·rename_i hy
   rw[fT];refine⟨fun x hx=>?_,pT h.2 (fun x hx=>hn x (by simp[hx]))⟩;rcases tQ.1 hx with rfl|hx
   ·exact hy
   ·exact h.1 x hx
  ·rename_i hy
   have hy:Op.bytesLess y.1 n=false:=by simpa using hy
   have hny:Op.bytesLess n y.1=true:=by
    cases hb:Op.bytesLess n y.1
    ·exact absurd (oD hy hb) (hn y S_)
    ·rfl
   rw[fT,fT];refine⟨fun x hx=>?_,h⟩;rcases f_.1 hx with rfl|hx
   ·exact hny
   ·exact fk hny (h.1 x hx)
theorem yc {l:EL} (hs:eW l) {n:L8} {v:Rat × Int}:aB l n=some v↔(n,v)∈l:=by
 constructor
 ·intro h
  clear hs
  induction l with
  |nil=>cases h
  |cons y r ih=>
   simp only[aB]at h
   split at h
   ·rename_i e;cases h;subst e;simp
   ·simp[ih h]
 ·intro h
  obtain⟨i,hi⟩:=W_ h;exact D9 hs hi
def NR (l:Tb) (n:L8):Rx:=match l[il l n]? with
 |some p=>p.2
 |none=> .mk 0 false [] false [] [] []
theorem wQ.fx {l:Tb} (h:wQ l) {p:Pm} (hp:p∈l):NR l p.1=p.2:=by
 obtain⟨i,hi⟩:=W_ hp;unfold NR;rw[h.fd hi,hi]
noncomputable def lc (l:Tb):List L8->EL->Except Int EL
 | [],env=> .ok env
 |n::r,env=>match ba (aB env) (iE (NR l n))with
  | .ok x=>lc l r (f6 env n x)
  | .error e=> .error e
noncomputable def ug (l:Tb):Except Int EL:=if(bW l).2=0 then lc l (bW l).1 []else .error (bW l).2
inductive Hv (l:Tb):L8->Rat × Int->Prop
 |mk {p:Pm} {x:Rat × Int} (f:L8->Rat × Int):p∈l->(∀n∈x3 (iE p.2),Hv l n (f n))->ba (fun n=>some (f n)) (iE p.2)= .ok x->Hv l p.1 x
theorem Hv.fn {l:Tb} (hl:wQ l) {n:L8} {x:Rat × Int} (h:Hv l n x):∀{y:Rat × Int},Hv l n y->x=y:=by
 induction h with
 | @mk p x f hp hf hx ih=>
  intro y hy;generalize hn:p.1=n at hy;cases hy with
  | @mk q _ g hq hg hy=>
   obtain⟨i,hi⟩:=W_ hp;obtain⟨j,hj⟩:=W_ hq;have:=hl.nd _ _ _ _ hi hj hn;subst this;rw[hi]at hj;cases hj;have:ba (fun n=>some (f n)) (iE p.2)=ba (fun n=>some (g n)) (iE p.2):=gJ fun n hn=>by rw[ih n hn (hg n hn)]
   rw[this,hy]at hx;exact(Except.ok.inj hx).symm
structure se (l:Tb) (done:List L8) (env:EL):Prop where
 so:eW env
 ky:∀n,n∈done ↔ ∃v,(n,v)∈env
 hv:∀x∈env,Hv l x.1 x.2
theorem se.nil (l:Tb):se l [] []:=⟨uf,fun n=>by simp,fun x h=>by cases h⟩
theorem se.env {l:Tb} {done:List L8} {env:EL} (h:se l done env) {n:L8} (hn:n∈done):∃v,aB env n=some v/\Hv l n v:=by
 obtain⟨v,hv⟩:=(h.ky n).1 hn;exact⟨v,(yc h.so).2 hv,h.hv _ hv⟩
theorem se.ev {l:Tb} {done:List L8} {env:EL} (h:se l done env) {e:Ex} (hn:∀n∈x3 e,n∈done):ba (aB env) e=ba (fun n=>some ((aB env n).getD (0,0))) e:=gJ fun n hm=>by
 obtain⟨v,h1,_⟩:=h.env (hn n hm);rw[h1];rfl
theorem se.has {l:Tb} {done:List L8} {env:EL} (h:se l done env) {p:Pm} (hp:p∈l) {x:Rat × Int} (hn:∀n∈x3 (iE p.2),n∈done) (hx:ba (aB env) (iE p.2)= .ok x):Hv l p.1 x:=by
 rw[h.ev hn]at hx;refine .mk _ hp (fun n hm=>?_) hx;obtain⟨v,h1,h2⟩:=h.env (hn n hm);rw[h1];exact h2
theorem se.step {l:Tb} {done:List L8} {env:EL} (h:se l done env) {p:Pm} (hd:p.1 ∉ done) {x:Rat × Int} (hx:Hv l p.1 x):se l (done ++[p.1]) (f6 env p.1 x):=by
 have hne:∀y∈env,y.1≠p.1:=fun y hy e=>hd ((h.ky _).2 ⟨y.2,by rw[<- e];exact hy⟩)
 refine⟨pT h.so hne,fun n=>?_,fun y hy=>?_⟩
 ·simp only[List.mem_append,d_,tQ,Prod.mk.injEq,h.ky n]
  constructor
  ·rintro(⟨v,hv⟩|rfl)
   ·exact⟨v, .inr hv⟩
   ·exact⟨x, .inl ⟨rfl,rfl⟩⟩
  ·rintro⟨v,⟨rfl,rfl⟩|hv⟩
   ·exact .inr rfl
   ·exact .inl ⟨v,hv⟩
 ·rcases tQ.1 hy with rfl|hy
  ·exact hx
  ·exact h.hv y hy
def Nx (l:Tb):Prop:=∀p∈l,∃e,p.2=rx e/\qB e
theorem Nx.ns {l:Tb} (h:Nx l) {p:Pm} (hp:p∈l) (n:L8):n∈x3 (iE p.2)↔n∈ju p.2:=by
 have:=(sc (h p hp)).1
 conv=>rhs;rw[<- this]
 exact(Dl _ _).symm
theorem Uv {l:List L8} (h:l.Nodup) {i j:Nat} {a:L8} (hi:l[i]? =some a) (hj:l[j]? =some a):i=j:=by
 obtain⟨h1,e1⟩:=G_.1 hi;obtain⟨h2,e2⟩:=G_.1 hj;have hp:=List.pairwise_iff_getElem.1 (List.nodup_iff_pairwise_ne.1 h);rcases Nat.lt_trichotomy i j with h3|h3|h3
 ·exact absurd (e1.trans e2.symm) (hp i j h1 h2 h3)
 ·exact h3
 ·exact absurd (e2.trans e1.symm) (hp j i h2 h1 h3)
theorem nT.at {l:Tb} (hl:wQ l) (hf:Nx l) {o:List L8} (h:nT l o) {k:Nat} {n:L8} (hk:o[k]? =some n):∃p∈l,p.1=n/\NR l n=p.2/\n ∉ o.take k/\ ∀m∈x3 (iE p.2),m∈o.take k:=by
 obtain⟨p,hp,rfl⟩:=h.mem n (M_ hk);refine⟨p,hp,rfl,hl.fx hp,fun hn=>?_,fun m hm=>h.up k _ p hk hp rfl m ((hf.ns hp m).1 hm)⟩;obtain⟨i,hi⟩:=W_ hn;rw[List.getElem?_take]at hi
 split at hi
 ·have:=Uv h.nd hi hk
  omega
 ·cases hi
theorem DP {l:Tb} (hl:wQ l) (hf:Nx l) {o:List L8} (h:nT l o):∀(r:List L8) (k:Nat) (env env':EL),o.drop k=r->se l (o.take k) env->lc l r env= .ok env'->se l o env'
 | [],k,env,env',hr,hI,he=>by
  cases he
  rwa[K_ (List.drop_eq_nil_iff.1 hr)]at hI
 |n::r,k,env,env',hr,hI,he=>by
  have hk:o[k]? =some n:=by have:=congrArg (·[0]?) hr;simpa using this
  obtain⟨p,hp,rfl,e1,e2,e3⟩:=h.at hl hf hk
  simp only[lc,e1]at he
  split at he
  ·rename_i x hx
   refine DP hl hf h r (k+1) _ env' (by rw[<- List.drop_drop,hr];rfl) ?_ he;rw[aT hk];exact hI.step e2 (hI.has hp e3 hx)
  ·cases he
theorem Ak {l:Tb}:∀{r:List L8} {env:EL} {e:Int},lc l r env= .error e->e≠0
 | [],env,e,h=>by cases h
 |n::r,env,e,h=>by
  simp only[lc]at h
  split at h
  ·exact Ak h
  ·rename_i e' h';cases h;exact b6 h'
theorem GW {x:Rx} (hx:j3 x) (hm:Ds x) (h:iH x=0):∃e,x=rx e/\qB e:=by
 refine RA x hx hm ?_;unfold iH at h;cases hf:sQ x
 ·rw[hf]at h;simp at h
 ·rfl
theorem IZ {l:Tb} (hf:wQ l->Nx l) {env:EL} (h:ug l= .ok env):wQ l/\(bW l).2=0/\eW env/\(∀n,(∃v,(n,v)∈env)↔ ∃p∈l,p.1=n)/\(∀x∈env,Hv l x.1 x.2)/\env.length<=l.length:=by
 unfold ug at h
 split at h
 ·rename_i h0
  obtain⟨o,ho⟩:∃o,(bW l).1=o:=⟨_,rfl⟩;rw[ho]at h;obtain⟨hl,ht,hn⟩:=ly (l:=l) (o:=o) (by rw[<- ho,<- h0]);have hI:=DP hl (hf hl) ht o 0 [] env S_ (se.nil l) h;refine⟨hl,h0,hI.so,fun n=>?_,hI.hv,?_⟩
  ·rw[<- hI.ky]
   constructor
   ·exact ht.mem n
   ·rintro⟨p,hp,rfl⟩;exact ht.all hn p hp
  ·have hnd:(env.map (·.1)).Nodup:=by
    refine List.nodup_iff_pairwise_ne.2 (List.pairwise_iff_getElem.2 fun i j hi hj hij e=>?_)
    simp only[j_]at hi hj
    simp only[List.getElem_map]at e
    have:=hI.so i j _ _ hij (Q_ hi) (Q_ hj);rw[e,jE]at this;cases this
   have:=oF (b:=l.map (·.1)) hnd fun x hx=>by
    obtain⟨y,hy,rfl⟩:=List.mem_map.1 hx;obtain⟨p,hp,e⟩:=ht.mem _ ((hI.ky y.1).2 ⟨y.2,hy⟩);exact List.mem_map.2 ⟨p,hp,e⟩
   simpa using this
 ·cases h
theorem SR.mono {q:Rat} {m n:Nat} (h:SR q m) (hm:m<=n):SR q n:=fun hn=>(h O_).mono hm
def ri (l:Tb):Nat->L8->Nat
 |0,_=>0
 |k+1,n=>if il l n<l.length then l6 (ri l k) (NR l n)else 0
theorem IX {b c:L8->Nat} (h:∀n,b n<=c n):∀x,l6 b x<=l6 c x:=by
 refine eM fun op na xs nb ys nm args ih=>?_
 have key:∀l:List Rx,(∀y∈l,l6 b y<=l6 c y)->jO b l<=jO c l:=by
  intro l
  induction l with
  |nil=>intro _;exact l_ _
  |cons y r ihr=>intro hy;simp only[jO];exact Nat.add_le_add (hy y S_) (ihr fun z hz=>hy z (by simp[hz]))
 have h1:=key args ih;have h2:=h nm
 simp only[l6]
 omega
theorem zz (l:Tb):∀(k:Nat) (n:L8),ri l k n<=ri l (k+1) n
 |0,n=>Nat.zero_le _
 |k+1,n=>by
  rw[ri,ri]
  split
  ·exact IX (zz l k) _
  ·exact l_ _
theorem ya (l:Tb) {j k:Nat} (h:j<=k) (n:L8):ri l j n<=ri l k n:=by
 induction h with
 |refl=>exact l_ _
 |step _ ih=>exact V_ ih (zz l _ n)
theorem Hv.bd {l:Tb} (hl:wQ l) (hf:Nx l) {o:List L8} (h:nT l o):∀(k:Nat) (n:L8) (x:Rat × Int),o[k]? =some n->Hv l n x->SR x.1 (ri l (k+1) n):=by
 intro k
 induction k using Nat.strongRecOn with
 |_ k ih=>
  intro n x hk hx;obtain⟨p,hp,e0,e1,_,e3⟩:=h.at hl hf hk;cases hx with
  | @mk q _ f hq hg hy=>
   have hqp:q=p:=by
    obtain⟨i,hi⟩:=W_ hp;obtain⟨j,hj⟩:=W_ hq;have:=hl.nd _ _ _ _ hi hj e0;subst this;rw[hi]at hj;cases hj;rfl
   subst hqp
   have hb:=Ei (b:=ri l k) hy fun s hs y hys=>by
    cases hys;obtain⟨i,hi⟩:=W_ (e3 s hs);rw[List.getElem?_take]at hi
    split at hi
    ·rename_i hik
     exact(ih i hik s (f s) hi (hg s hs)).mono (ya l O_ s)
    ·cases hi
   rw[(sc (hf q hp)).1]at hb;rw[ri,if_pos (l9.2 ⟨q,hp,rfl⟩),e1];exact hb
theorem pq:∀(e:Ex),oB (rx e)=true->pH e
 | .num v u,h=>by
  simp only[rx,oB,oX,B_,decide_eq_true_eq]at h
  exact⟨Sz.of_digs h.2.1.1,Sz.of_digs h.2.1.2⟩
 | .nam s,_=>trivial
 | .neg a,h=>by
  simp only[rx,oB,oX,B_]at h
  exact pq a h.1.1
 | .bin k a b,h=>by
  simp only[rx,oB,oX,B_]at h
  exact⟨pq a h.1.1,pq b h.1.2.1⟩
theorem ue:∀(e:Ex),gO e<=400*f8 (rx e)
 | .num v u=>by simp[gO,rx,f8,eQ]
 | .nam s=>by simp[gO,rx,f8,eQ]
 | .neg a=>by have:=ue a;simp only[gO,rx,f8,eQ];omega
 | .bin k a b=>by have:=ue a;have:=ue b;simp only[gO,rx,f8,eQ];omega
theorem Hv.inR {l:Tb} (hf:Nx l) (hs:∀p∈l,AG p.2) (hb:∀n x,Hv l n x->b8 400 x.1) {n:L8} {x:Rat × Int} (h:Hv l n x):jH x.2=true:=by
 induction h with
 | @mk p x f hp hg hy ih=>
  have hx0:ba (fun n=>if n∈x3 (iE p.2)then some (f n)else none) (iE p.2)= .ok x:=by
   rw[<- hy];exact gJ fun n hn=>by simp[hn]
  refine(eI (fun s y hys=>?_) (pq _ (by rw[(sc (hf p hp)).1];exact(hs p hp).lt)) hx0).2
  split at hys
  ·rename_i hn;cases hys;exact⟨hb _ _ (hg s hn),ih s hn⟩
  ·cases hys
def V9 (l:Tb):Prop:=l.length<=8->(bW l).2=0-> ∀p∈l,l6 (ri l (l.length-1)) p.2<=2000
theorem Hv.ok {l:Tb} (hli:V9 l) (h8:l.length<=8) (h0:(bW l).2=0) (hf:Nx l) (hs:∀p∈l,AG p.2) {n:L8} {x:Rat × Int} (h:Hv l n x):b8 400 x.1/\jH x.2=true:=by
 obtain⟨o,ho⟩:∃o,(bW l).1=o:=⟨_,rfl⟩;obtain⟨hl,ht,hn⟩:=ly (l:=l) (o:=o) (by rw[<- ho,<- h0])
 have key:∀n x,Hv l n x->b8 400 x.1:=fun n x h=>by
  have hp:∃p∈l,p.1=n:=by cases h with|mk f hp=>exact⟨_,hp,rfl⟩
  obtain⟨p,hp,rfl⟩:=hp;obtain⟨k,hk⟩:=W_ (ht.all hn p hp);have hkl:=(G_.1 hk).1;have h1:=h.bd hl hf ht k _ _ hk
  have h2:ri l (k+1) p.1<=2000:=by
   refine V_ (ya l (show k+1<=(l.length-1)+1 by omega) p.1) ?_;rw[ri,if_pos (l9.2 ⟨p,hp,rfl⟩),hl.fx hp];exact hli h8 h0 p hp
  exact(h1 O_).szQ O_
 exact⟨key n x h,h.inR hf hs key⟩
section
variable {P:Program} {T:TypeId->Option Ty} {n:Nat} {ops:Array Oper} {id:Nat} {draw:Bool} {K:AS->Prop} {s:AS} {k:Nat} {o:Oper} {os:List Oper} {fps:List FP}
theorem BY {s:AS} {d t et q m c j':Nat} {ty te:Ty} {x y:Operand} {ik ik':IntKind} (hT:a8 P t ty) (hE:a8 P et te) (ho:o.op= .makeSlice t x y) (hd:o.dst=some d) (hel:ty.elem=some (et,q)) (hq:te.size=q) (hq0:0<q) (hx:s.ev x= .d (.leaf (.val (.int ik (m:Nat))))) (hy:s.ev y= .d (.leaf (.val (.int ik' (c:Nat))))) (hmc:m<=c) (hb:te.bytes*c<=281474976710656) (h63:c<=9223372036854775807)
 (hnew:fJ s j'=true) (hwb:(bL j' || bB te.zero)=true) (hno:∀a∈te.zero,Fq a=true):bE P o s ⟨.own j' m q et,some [(j',some (eL te.zero c))]⟩:=by
 intro n S0 w0 g a w K' Q hM hdn hK;obtain⟨u,hu,_,hel',_⟩:=hT.und;obtain⟨rfl,hks⟩:=hel' et q hel;obtain⟨z,hz,hzm⟩:=hE.zero;have hzl:=hE.zlen;rw[hq]at hzl;cases hi:P.info? et with
 |none=>rw[hi]at hz;cases hz
 |some i=>
  rw[hi]at hz hks;have hz:i.zero=some z:=hz;have hks:i.size=q:=by simpa using hks
  have hbt:i.bytes=te.bytes:=by have:=hE.bytes;rw[hi]at this;simpa using this
  have hzs:z.cells.size=q:=by have:=(hzm (Own S0 g s) w).1;simp at this;omega
  have hbi:(i.bytes:Int)*(c:Nat)<=281474976710656:=by
   rw[hbt];have:((te.bytes*c:Nat):Int)<=281474976710656:=O_
   rwa[Int.natCast_mul]at this
  have hr:=run_make (P:=P) w t et i z hu hi hz ik ik' m c O_ O_ hbi O_
  simp only[Int.toNat_natCast]at hr
  have hini:CM (Own S0 g s) w (eL te.zero c) (madeCells z.cells (c*i.size)).toList:=by
   unfold madeCells;rw[hks];refine⟨by rw[cY,hzl];simp,fun p b v h1 h2=>?_⟩;rw[gP _ O_]at h1
   split at h1
   ·rename_i hp
    rw[hzl]at h1 hp;have hm:p%q<q:=Nat.mod_lt _ hq0
    have hv:v=z.cells[p%q]'(by omega):=by
     simp[hp,hzs]at h2
     rw[<- h2]
     simp[hzs,hm]
    exact(hzm _ w).2 (p%q) b v h1 (by rw[hv];simp[hzs,hm])
   ·cases h1
  have hall:∀b∈eL te.zero c,b∈te.zero:=fun b hb=>by
   obtain⟨p,hp⟩:=W_ hb;rw[gP _ O_]at hp
   split at hp
   ·exact M_ hp
   ·cases hp
  have hsz:(madeCells z.cells (c*i.size)).size=c*q:=by unfold madeCells;rw[hks];simp
  unfold Oper.wp
  have e:(execOp a.eval o).run P w= .ok (.value (.slice (some ⟨w.heap.size,0,none⟩) m c)) (w.alloc (.cells (madeCells z.cells (c*i.size)) et)):=by
   unfold execOp;rw[ho]
   simp only[a7 hM hx,a7 hM hy,Y_,hr,R_]
   rfl
  rw[e];show K' (a.put o.dst _) _;rw[hd]at hK ⊢;refine hK _ _ _ (hM.alloc (hdn d hd) (bA hnew).1 (bA hnew).2 hini.cp (fun hw v hv=>?_) (fun b hb=>hno b (hall b hb)) (fun h=>by rw[nK hnew]at h;cases h) fun g' s' hg hb=>?_)
  ·rw[hw,Bool.false_or]at hwb
   obtain⟨p,hp⟩:=W_ hv;have hlt:=(G_.1 hp).1;have hlt2:p<(eL te.zero c).length:=by rw[hini.1];exact hlt
   have hbz:=hall _ (List.getElem_mem hlt2);obtain⟨r,hr⟩:=W_ hbz
   have hok:Fo (eL te.zero c)[p]=true:=by
    have:∀(l:List AV),bB l=true-> ∀b∈l,Fo b=true:=by
     intro l
     induction l with
     |nil=>intro _ b hb;cases hb
     |cons b l ih=>
      intro h c hc
      simp only[bB]at h
      cases h1:Fo b with
      |false=>rw[h1]at h;cases h
      |true=>
       rw[h1]at h;rcases f_.1 hc with rfl|hc
       ·exact h1
       ·exact ih h c hc
    exact this _ hwb _ hbz
   exact Ox (hini.2 p _ v (Q_ hlt2) hp) hok
  ·refine⟨AS.kn_of hb,fun cs' hc=>⟨c,by rw[hg],hmc,h63,?_,_,?_,hsz⟩⟩
   ·rw[hb]at hc;cases hc;rw[cY,hzl];exact P_ _ hmc
   ·rw[hg];exact heap_alloc_new w _
theorem Jm (j':Nat) {d t et q m c:Nat} {ty te:Ty} {x y:Operand} {ik ik':IntKind} (hT:∀t d,T t=some d->a8 P t d) (hmc:m<=c) (hb:te.bytes*c<=281474976710656) (h63:c<=9223372036854775807) (h1:gd ops s o=some true) (ho:o.op= .makeSlice t x y) (hd:o.dst=some d) (h3:aL n o.dst=true) (ht:T t=some ty) (hel:ty.elem=some (et,q)) (hte:T et=some te) (hq:te.size=q) (hq0:Nat.ble 1 q=true) (hx:s.ev x= .d (.leaf (.val (.int ik (m:Nat))))) (hy:s.ev y= .d (.leaf (.val (.int ik' (c:Nat)))))
 (hnew:fJ s j'=true) (hwb:(bL j' || bB te.zero)=true) (hno:te.zero.all Fq=true)
 (h4:fg draw ops (aA ops o ⟨.own j' m q et,some [(j',some (eL te.zero c))]⟩ [j']) k fps=true) (h:ar P T n ops id draw K (k+1) os (s.eff o.dst ⟨.own j' m q et,some [(j',some (eL te.zero c))]⟩) (aA ops o ⟨.own j' m q et,some [(j',some (eL te.zero c))]⟩ [j']::fps)):ar P T n ops id draw K k (o::os) s fps:=
 .run h1 (.gen fun _ ht2 hrb=>BY (hT _ _ ht) (hT _ _ hte) ho hd hel hq (N_ hq0) ((aw ht2 (x:=x) (by rw[ho];simp[Op.operands])).trans hx) ((aw ht2 (x:=y) (by rw[ho];simp[Op.operands])).trans hy) hmc hb h63 ((ew (hrb j' S_)).trans hnew) hwb (fun b hb=>I_.1 hno b hb)) h3 h4 h
def gV (J q e:Nat):Nat->TV
 |0=> .nil
 |m+1=> .own J (m+1) q e
def gX (cs:List AV):Nat->Option (List AV)
 |0=>none
 |_+1=>some cs
theorem nz.weak {s1 s2:AS} (h:nz P n o s s1) (hw:aM s1 s2):nz P n o s s2:=fun S0 w0 g a w K Q hM hK=>h S0 w0 g a w K Q hM fun g' a' w' hm=>by
 obtain⟨g2,hm2⟩:=hw _ _ _ _ _ ⟨g',hm⟩;exact hK g2 a' w' hm2
theorem bE.to {e:r6} (h:bE P o s e) (h3:aL n o.dst=true):nz P n o s (s.eff o.dst e):=fun S0 w0 g a w K Q hM hK=>h n S0 w0 g a w K Q hM (ee h3) hK
theorem gI (j:Nat):aM s ⟨s.t,(j,none)::s.b⟩:=fun _ _ _ _ _ ⟨g,h⟩=>⟨g,h.kill j⟩
theorem aM.tr {a b c:AS} (h:aM a b) (h':aM b c):aM a c:=fun n S0 w0 x w m=>h' n S0 w0 x w (h n S0 w0 x w m)
theorem G9 {d:Nat} {x y:TV} {t:List (Nat × TV)} {b:List (Nat × Option (List AV))}:aM ⟨(d,x)::(d,y)::t,b⟩ ⟨(d,x)::t,b⟩:=fun _ _ _ _ _ ⟨g,h⟩=>⟨g,h.ext (fun k=>by
 by_cases e:d=k
 ·subst e;simp only[AS.tv,am]
 ·simp only[AS.tv,au _ _ e]) (fun _=>rfl)⟩
theorem Rg (J':Nat) {d J:Nat} {x y:Operand} {t et q m1 m2:Nat} {ty te:Ty} {cs xs:List AV} (hT:∀t d,T t=some d->a8 P t d) (hb:(m1+m2)*te.bytes<=140737488355328) (hcs:cs.length=m1*q) (hxs:xs.length=m2*q) (hxB:bB xs=true) (h0:draw=false) (h1:gd ops s o=some true) (ho:o.op= .call ⟨.builtin .append,#[x,y],#[t,t]⟩) (hd:o.dst=some d) (h3:aL n o.dst=true) (ht:T t=some ty) (hel:ty.elem=some (et,q)) (hte:T et=some te) (hq:te.size=q) (hq0:(Nat.ble 1 q && Nat.ble 1 te.bytes)=true)
 (hx:s.ev x=gV J q et m1) (hJ:ap s.b J=some (gX cs m1)) (hy:s.ev y= .d (.leaf (.sl m2 xs))) (hnew:fJ s J'=true) (hcl:(bB te.zero && (!(bL J') && (!(bL J) && !(cM J'))))=true)
 (h:ar P T n ops id draw K (k+1) os ⟨(d,gV J' q et (m1+m2))::s.t,(J',gX (cs++xs) (m1+m2))::(J,none)::s.b⟩ (aA ops o ⟨.junk,none⟩ []::fps)):ar P T n ops id draw K k (o::os) s fps:=by
 refine .snd h0 h1 ?_ h
 simp only[B_,Bool.not_eq_true']at hcl
 obtain⟨c1,c2,c3,c4⟩:=hcl;rw[B_]at hq0
 have h63:m1+m2<=9223372036854775807:=by
  exact x8
 have hkill:∀(v:TV),aM (s.eff o.dst ⟨v,none⟩) ⟨(d,v)::s.t,(J',none)::(J,none)::s.b⟩:=fun v=>by
  rw[hd];exact(gI (s:=⟨(d,v)::s.t,s.b⟩) J).tr (gI J')
 cases m2 with
 |zero=>
  have hxe:xs=[]:=E_ (by rw[hxs,Nat.zero_mul]);subst hxe;rw[c_];cases m1 with
  |zero=>exact((pI (hT _ _ ht) ho hel hx hy).to h3).weak (hkill .nil)
  |succ m=>
   refine((t8 (hT _ _ ht) ho hel hx (cs:=cs) (by unfold AS.bx;rw[hJ];rfl) hy).to h3).weak ?_;rw[hd];have hl:ap s.b J'=none:=(bA hnew).1;exact aM.tr (aD (s:=⟨(d, .own J (m+1) q et)::s.t,s.b⟩) (q:=d) (j:=J) (m:=m+1) (k:=q) (e:=et) (by simp[AS.tv,am]) (by show(AS.mk _ s.b).bx J=some cs;unfold AS.bx;rw[hJ];rfl) hl (by rw[c2,c3]) (bA hnew).2 c4) G9
 |succ m2=>
  cases m1 with
  |zero=>
   intro S0 w0 g a w K' Q hM hK;refine fC (hT _ _ ht) (hT _ _ hte) ho hd hel hq (N_ hq0.1) (.nil hx rfl) hy hxs (Z_ _) hb h63 (bA hnew) c4 (.inr (by rw[c1,hxB];rfl)) hM (ee h3 d hd) fun g' a' w' hm=>?_
   have hce:cs=[]:=E_ (by rw[hcs,Nat.zero_mul]);subst hce;rw[show 0+(m2+1)=m2+1 by omega]at hm hK;have hm:MG n S0 w0 g' ⟨(d, .own J' (m2+1) q et)::s.t,(J',some xs)::s.b⟩ a' w':=by rw[List.take_nil,List.nil_append]at hm;exact hm
   obtain⟨g2,hm2⟩:=(gI (s:=⟨(d, .own J' (m2+1) q et)::s.t,(J',some xs)::s.b⟩) J) _ _ _ _ _ ⟨g',hm⟩;have hJJ:J≠J':=fun e=>by subst e;have:=(bA hnew).1;rw[hJ]at this;cases this
   refine hK g2 a' w' (hm2.ext (fun _=>rfl) fun i=>?_);show ap ((J',some ([]++xs))::(J,none)::s.b) i=ap ((J,none)::(J',some xs)::s.b) i
   by_cases e1:J'=i
   ·subst e1;rw[am,au _ _ hJJ,am];rfl
   ·rw[au _ _ e1]
    by_cases e2:J=i
    ·subst e2;rw[am,am]
    ·rw[au _ _ e2,au _ _ e2,au _ _ e1]
  |succ m1=>
   intro S0 w0 g a w K' Q hM hK;refine fC (dead:=some J) (cs:=cs) (hT _ _ ht) (hT _ _ hte) ho hd hel hq (N_ hq0.1) (.own hx (by unfold AS.bx;rw[hJ];rfl)) hy hxs (Z_ _) hb h63 (bA hnew) c4 (.inr (by rw[c1,hxB];show(true && true && !(bL J))=true;rw[c3];rfl)) hM (ee h3 d hd) fun g' a' w' hm=>?_
   rw[<- hcs,List.take_length]at hm;exact hK g' a' w' hm
theorem jj {q J k e m:Nat} {cs:List AV} (hcs:m=0->cs=[]) (hq:s.tv q=gV J k e m) (hJ:ap s.b J=some (gX cs m)):aM s ⟨(q, .d (.leaf (.sl m cs)))::s.t,(J,none)::s.b⟩:=by
 cases m with
 |zero=>rw[hcs rfl];exact(n7 hq).tr (gI J)
 |succ m=>exact bf hq (by unfold AS.bx;rw[hJ];rfl)
theorem A5 {q J J' k e m:Nat} {cs:List AV} (hq:s.tv q=gV J k e m) (hJ:ap s.b J=some (gX cs m)) (hn:ap s.b J'=none) (hw:bL J'=bL J:=by rfl) (hrv:iF J'=false:=by rfl) (hlb:cM J'=false:=by rfl):aM s ⟨(q,gV J' k e m)::s.t,(J',gX cs m)::(J,none)::s.b⟩:=by
 cases m with
 |zero=>
  rintro n S0 w0 a w ⟨g,h⟩;have hm:=h.tm q;rw[hq]at hm;obtain⟨g2,h2⟩:=((gI (s:=⟨(q, .nil)::s.t,s.b⟩) J).tr (gI J')) n S0 w0 a w ⟨g,h.reslot (x:= .nil) hm rfl (by show pf (s.tv q)=true;rw[hq];rfl)⟩;exact⟨g2,h2⟩
 |succ m=>exact aD hq (by unfold AS.bx;rw[hJ];rfl) hn hw hrv hlb
end
def N0:AV->Bool
 | .val _=>true
 | .sl _ cs=>cs.all fun c=>match c with
  | .val (.int .u32 _)=>true
  |_=>false
 |_=>false
def SO:DV->Bool
 | .leaf a=>N0 a
 | .agg cs=>cs.all N0
def VX:RV->Bool
 | .one d=>SO d
 | .tup l=>l.all SO
theorem O7 {S S':Nat->Prop} {w:World} {a:AV} {v:Value} (h:N0 a=true) (hm:AV.M S w a v) (hS:∀b,S' b->S b∨ ∀off v,w.cell? ⟨b,off,none⟩=some v->gb v=true):AV.M S' w a v:=by
 cases hm with
 |val h0=>exact .val h0
 |emp h1 h2 h3=>exact .emp h1 h2 h3
 |sl f h1 h2 h3 h4 h5 h6=>
  rename_i b off c n0 cs
  cases cs with
  |nil=>
   exact .emp h1 h2 (fun h=>by cases h)
  |cons x r=>
   have hx:∃i,x= .val (.int .u32 i):=by
    simp only[N0,List.all_cons,B_]at h
    have:=h.1
    split at this
    ·exact⟨_,rfl⟩
    ·cases this
   obtain⟨i,rfl⟩:=hx;have h50:=h5 0 _ rfl;have h60:=bc (h6 0 _ rfl);rw[h60]at h50;refine .sl f h1 h2 (fun hb=>?_) h4 h5 fun i a hi=>?_
   ·rcases hS b hb with hb|hb
    ·exact h3 hb
    ·have:=hb _ _ h50;cases this
   ·have hw:∃z,a= .val (.int .u32 z):=by
     have h:=I_.1 h a (M_ hi)
     split at h
     ·exact⟨_,rfl⟩
     ·cases h
    obtain⟨z,rfl⟩:=hw;rw[bc (h6 i _ hi)];exact .val rfl
 |ow=>cases h
 |bp=>cases h
 |nl=>cases h
theorem PO {S S':Nat->Prop} {w:World} {d:DV} {v:Value} (h:SO d=true) (hm:DV.M S w d v) (hS:∀b,S' b->S b∨ ∀off v,w.cell? ⟨b,off,none⟩=some v->gb v=true):DV.M S' w d v:=by
 cases d with
 |leaf a=>exact O7 h hm hS
 |agg cs=>
  obtain⟨vs,e,hl,hc⟩:=hm;exact⟨vs,e,hl,fun i a v h1 h2=>O7 (I_.1 h a (M_ h1)) (hc i a v h1 h2) hS⟩
theorem TQ {S S':Nat->Prop} {g:Nat->Nat} {s:AS} {w:World} {r:RV} {v:Value} (h:VX r=true) (hm:RV.M S w r v) (hS:∀b,S' b->S b∨ ∀off v,w.cell? ⟨b,off,none⟩=some v->gb v=true):TV.M S' g s w r.tv v:=by
 cases r with
 |one d=>exact PO (S:=S) (w:=w) h hm hS
 |tup l=>
  obtain⟨vs,e,hl,hc⟩:=hm;exact⟨vs,e,hl,fun i a v h1 h2=>PO (I_.1 h a (M_ h1)) (hc i a v h1 h2) hS⟩
theorem aa.rdW {P:Program} {f:FuncId} {ds:List DV} {r:RV} (h:aa P f ds r) {ts:List TV} {b:BL} (hts:Ky b ts=some ds) (hr:VX r=true) (hwb:∀j cs,(sB b).bx j=some cs->bL j=false):az P f ts b (.v r) b:=by
 refine⟨h.enter,fun S g w vs hP hv=>?_⟩;refine(h.calls S w vs ⟨fun w' hb=>hP.tab w' ⟨hb.os,hb.tape,hb.output,hb.size,fun k hk _=>hb.block k hk,fun k hk _ arr e fz he=>⟨arr,fz,(hb.block k hk).trans he,rfl⟩⟩,fun q hq=>⟨(hP.blk q hq).1,(hP.blk q hq).2.2⟩,fun k cs hk=>?_⟩ (xI hP hts hv)).mono ?_
 ·exact OL
 ·rintro e w' ⟨v,rfl,hm,hb⟩
  refine⟨v,g,rfl,fun j cs cs' h1 h2=>?_,fun j cs' h1=>⟨.inr ⟨j,cs',h1,rfl⟩,?_⟩,hP.inj,TQ hr hm (fun q hq=>?_),⟨hb.os,hb.tape,hb.output,hb.size,fun k hk _=>hb.block k hk,fun k hk _ arr e fz he=>⟨arr,fz,(hb.block k hk).trans he,rfl⟩⟩⟩
  ·rw[h1]at h2;cases h2;exact⟨rfl,l_ _⟩
  ·exact OK
  ·rcases hq with hq| ⟨j,cs',h1,rfl⟩
   ·exact .inl hq
   ·refine .inr fun off v hv=>?_
    obtain⟨arr,e,h7,_,h9,_⟩:=hP.bm j cs' h1;have h7':w'.heap[g j]? =some (.cells arr e (0,0)):=(hb.block _ (A_.1 h7).1).trans h7;rw[dK h7']at hv;exact h9 (hwb j cs' h1) v (M_ (by simpa using hv))
end Go.Proofs.YtnchbpoopnjghaaGreatDoor
