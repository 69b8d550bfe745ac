/- Parts of a proof: contracts of the functions that the laws reach. -/
import Derived.Test.YtmkggcjajcdlcaaGreatDoorVZ11
set_option maxHeartbeats 100000000
set_option linter.all false
open Go.Proofs.Tryz
namespace Go.Proofs.YtmkggcjajcdlcaaGreatDoor
open Go.RowKit
abbrev El (ns:List L8):List AV:=[.sl ns.length (au ns)]
theorem uY {ns:List L8}:em [(900,El ns)] [(900,El ns)]:=em.one (Nat.le_refl 1)
theorem EO (ns:List L8) (n:L8) (hl:ns.length<=1000000):bw Tryz.prog 108 [.d (dL n), .box 900 0] [(900,El ns)] (.v (.one (dB (!decide (n∈ns))))) [(900,El ns)]:=by
 have c:=dX ns n hl;generalize decide (n∈ns)=b at *;cases b
 all_goals(
  refine bf ac fo func108 rfl rfl rfl rfl rfl (uY) ?_;refine kR ?_;refine kI ?_
  refine kO2 ?_
  refine kQ (c) ?_;exact⟨⟨_,rfl,rfl⟩,⟨rfl,trivial⟩⟩)
theorem ti {fid:FuncId} {p:L8->Bool} {ns:List L8} (l:List L8) (hp:∀x∈l,bw Tryz.prog fid [.d (dL x), .box 900 0] [(900,El ns)] (.v (.one (dB (p x)))) [(900,El ns)]) (hl:l.length<=1000000):bw Tryz.prog 171 [.d (iZ l), .clo (.func fid) [] [.box 900 0]] [(900,El ns)] (.v (.one (dN .i64 (if l.findIdx p<l.length then((l.findIdx p:Nat):Int)else -1)))) [(900,El ns)]:=by
 have hf:=List.findIdx_le_length (p:=p) (xs:=l)
 have hn:∀(i:Nat) (hi:i<l.length),i<l.findIdx p->p l[i]=false:=fun i hi h=>by
  exact Na
 have hy:∀(h:l.findIdx p<l.length),p (l[l.findIdx p])=true:=fun h=>List.findIdx_getElem
 generalize l.findIdx p=f at *;refine bf ac fo func171 rfl rfl rfl rfl rfl (uY) ?_;refine kW ?_
 refine ay Nat (fun i=>i<=f) (fun i=>⟨[(0, .d (iZ l)),(1, .clo (.func fid) [] [.box 900 0]),(4, .d (dN .i64 0)),(7, .d (dN .i64 l.length)),(8, .d (dN .i64 i))],[(900,some (El ns))]⟩) (fun i=>l.length-i) 0 (Nat.zero_le _)
  kw ?_
 intro i hi;refine kI ?_
 by_cases hlt:i<l.length
 ·refine kT ?_
  have hx:l[i]? =some l[i]:=by simp[hlt]
  have c:=hp l[i] (List.getElem_mem hlt);have hni:=hn i hlt;have hyi:∀h:i=f,p l[i]=true:=fun h=>by subst h;exact hy hlt
  generalize l[i]=q at *;refine Cb ?_;exact Dj
 ·rw[if_neg (by omega)]
  refine kE ?_;exact Qn
theorem nQ {fid:FuncId} {p:L8->Bool} {ns:List L8} (l:List L8) (hp:∀x∈l,bw Tryz.prog fid [.d (dL x), .box 900 0] [(900,El ns)] (.v (.one (dB (p x)))) [(900,El ns)]) (hl:l.length<=1000000):bw Tryz.prog 106 [.d (iZ l), .clo (.func fid) [] [.box 900 0]] [(900,El ns)] (.v (.one (dB (l.any p)))) [(900,El ns)]:=by
 have c:=ti l hp hl
 have hlt:(l.findIdx p<l.length)↔l.any p=true:=by
  rw[List.any_eq_true];exact List.findIdx_lt_length
 cases hb:l.any p with
 |true=>
  rw[if_pos (hlt.2 hb)]at c;refine bf ac fo func106 rfl rfl rfl rfl rfl (uY) ?_;refine kW ?_;refine kD (c) ?_;refine kT ?_;exact Qn
 |false=>
  rw[if_neg (fun h=>by rw[hlt.1 h]at hb;cases hb)]at c;refine bf ac fo func106 rfl rfl rfl rfl rfl (uY) ?_;refine kW ?_;refine kD (c) ?_;exact Qn
theorem Lq (x:Rx) (ns:List L8):(!((eu x).any fun n=>!decide (n∈ns)))=pC x ns:=by
 unfold pC
 induction eu x with
 |nil=>rfl
 |cons a r ih=>rw[List.any_cons,List.all_cons,Bool.not_or,ih,Bool.not_not]
theorem lW (q:Pm) (ns:List L8) (hq:pA q.2) (hl:ns.length<=1000000):aa Tryz.prog 54 [sv q,iZ ns] (.one (dB (pC q.2 ns))):=by
 have cn:=qk q.2 hq.wd (by have:=hq.sz;omega);have cc:=(nQ (fid:=108) (p:=fun n=>!decide (n∈ns)) (ns:=ns) (eu q.2) (fun x _=>EO ns x hl) (Nat.le_trans (pK q.2) (by have:=hq.sz;omega))).swap 900 1 rfl;have hr:=Lq q.2 ns;obtain⟨o1,na1,xs1,nb1,ys1,nm1,n1,cs1,hA,hB⟩:=aX q;refine DD ?_;rw[show dR q.2= .agg (ab o1 na1 xs1 nb1 ys1 nm1 n1 cs1) from congrArg DV.agg hA]at cn;rw[<- hr];clear hr;generalize((eu q.2).any fun n=>!decide (n∈ns))=b at *;generalize eu q.2=ms at *;cases b
 all_goals(
  refine kV func54 ?_;refine kC (cn) ?_;refine kO ?_;refine kD (cc) ?_;exact kF)
theorem JP {l:Tb} {i:Nat} {p:Pm} (h:l[i]? =some p):au ((l.take (i+1)).map (·.1))=au ((l.take i).map (·.1))++[.val (vL p.1)]:=by
 rw[bE h,List.map_append,jF];rfl
theorem G7 {a:L8}:((Bs a).toList == (ByteArray.mk #[]).toList)=true↔a=[]:=by
 rw[show(ByteArray.mk #[]).toList=[] from ByteArray.toList_mk [],fL]
 simp
theorem Ca {a:L8} (h:¬a=[]):((Bs a).toList == (ByteArray.mk #[]).toList)=false:=by
 cases e:((Bs a).toList == (ByteArray.mk #[]).toList)
 ·rfl
 ·exact absurd (G7.1 e) h
theorem lP (l:Tb) (hs:mg l) (hl:l.length<=1000):aa Tryz.prog 14 [bX l] (.tup [iZ (bI l).1,dN .i64 (bI l).2]):=by
 have cv:=rn l hs (by omega)
 by_cases hv:ie l=0
 case neg=>
  rw[show bI l=([],ie l) by unfold bI;rw[if_neg hv]];generalize ie l=z at *;refine kU func14 ?_;exact BQ
 have ho:=nW hv;rw[hv]at cv;have hord:bI l=if l.all (fun p=>pC p.2 (l.map (·.1)))=true then((match f7 l l.length []with|some o=>(o,0)|none=>([],9)):List L8 × Int)else([],4):=by unfold bI;rw[if_pos hv];rfl
 obtain⟨RS,hRS⟩:∃RS,bI l=RS:=⟨_,rfl⟩;rw[hRS]at hord ⊢;clear hRS hv;have hby:∀k,k<=1001->k*16<=140737488355328:=fun k hk=>by omega
 refine kU func14 ?_;refine NG ?_;refine ay Nat (fun i=>i<=l.length) (fun i=>⟨[(5,gV 5001 1 9 i),(0, .d (bX l)),(19, .d (bX l)),(20, .d (dN .i64 l.length)),(21, .d (dN .i64 i))],[(5001,gX (au ((l.take i).map (·.1))) i)]⟩) (fun i=>l.length-i) 0 (Nat.zero_le _) kw ?_;intro i hi;refine kI ?_
 by_cases hil:i<l.length
 ·refine kT ?_
  obtain⟨p,hx⟩:∃p,l[i]? =some p:=⟨l[i],by simp[hil]⟩;obtain⟨o1,na1,xs1,nb1,ys1,nm1,n1,cs1,hA,hB⟩:=aX p;have hat:∀(j:Nat) (a:AV),(bl p.1 o1 na1 xs1 nb1 ys1 nm1 n1 cs1)[j]? =some a->(bY l)[i*8+j]? =some a:=fun j a h=>cY l i p hx j a (by rw[hB];exact h)
  have hsn:=JP hx;have hpl:(au ((l.take i).map (·.1))).length=i*1:=by rw[dK,List.length_map,List.length_take];omega
  generalize au ((l.take i).map (·.1))=O at *;have hst:(⟨[(5,gV 5001 1 9 (i+1)),(0, .d (bX l)),(19, .d (bX l)),(20, .d (dN .i64 l.length)),(21, .d (dN .i64 (i+1:Nat)))],[(5001,gX (au ((l.take (i+1)).map (·.1))) (i+1))]⟩:AS)=⟨[(5,gV 5001 1 9 (i+1)),(0, .d (bX l)),(19, .d (bX l)),(20, .d (dN .i64 l.length)),(21, .d (dN .i64 (i+1:Nat)))],[(5001,gX (O++[.val (vL p.1)]) (i+1))]⟩:=by rw[hsn]
  refine kW ?_;refine fZ ?_;refine kW ?_;refine OE 5002 (J:=5001) (m1:=i) (m2:=1) (cs:=O) (xs:=[.val (vL p.1)]) ac (hby _ (by omega)) hpl rfl rfl rfl rfl rfl rfl rfl rfl rfl rfl rfl rfl rfl rfl rfl rfl rfl ?_;refine kW ?_;refine⟨i+1,hil,by omega,?_⟩;refine Eq.mpr (congrArg (bi _) hst) ?_;exact bi.tr (b:=⟨[(5,gV 5002 1 9 (i+1)),(0, .d (bX l)),(19, .d (bX l)),(20, .d (dN .i64 l.length)),(21, .d (dN .i64 (i+1:Nat)))],[(5002,gX (O++[.val (vL p.1)]) (i+1))]⟩) (weak ⟨rfl,rfl,rfl,rfl,ak (by omega) (by omega),trivial⟩ ⟨rfl,trivial⟩ rfl) ((AZ (q:=5) (J:=5002) (J':=5001) rfl rfl rfl).tr kw)
 obtain rfl:i=l.length:=by omega
 rw[List.take_length];clear hi hil;have hAl:l.length=(l.map (·.1)).length:=(List.length_map ..).symm;have hA0:(l.map (·.1)).length<=1000:=by omega
 refine Cz ?_;refine bV (i8 (q:=5) (J:=5001) (m:=l.length) (cs:=au (l.map (·.1))) (fun h=>by rw[List.eq_nil_of_length_eq_zero h];rfl) rfl rfl) rfl ?_;refine kW ?_;refine ay Nat (fun i=>i<=l.length/\ ∀p∈l.take i,pC p.2 (l.map (·.1))=true) (fun i=>⟨[(5, .d (iZ (l.map (·.1)))),(0, .d (bX l)),(31, .d (bX l)),(32, .d (dN .i64 l.length)),(33, .d (dN .i64 i))],[]⟩) (fun i=>l.length-i) 0 ⟨Nat.zero_le _,by simp⟩ (weak ⟨congrArg (fun k=>TV.d (.leaf (.sl k (au (l.map fun x:Pm=>x.1))))) hAl,rfl,rfl,rfl,rfl,trivial⟩ trivial rfl) ?_;rintro i ⟨hi,hall⟩
 by_cases hil:i<l.length
 ·obtain⟨p,hx⟩:∃p,l[i]? =some p:=⟨l[i],by simp[hil]⟩
  have hp:=List.mem_of_getElem? hx;have cr:=lW p (l.map (·.1)) (hs p hp).2 (by omega);obtain⟨o1,na1,xs1,nb1,ys1,nm1,n1,cs1,hA,hB⟩:=aX p;have hat:∀(j:Nat) (a:AV),(bl p.1 o1 na1 xs1 nb1 ys1 nm1 n1 cs1)[j]? =some a->(bY l)[i*8+j]? =some a:=fun j a h=>cY l i p hx j a (by rw[hB];exact h)
  rw[show sv p= .agg (bl p.1 o1 na1 xs1 nb1 ys1 nm1 n1 cs1) from congrArg DV.agg hB]at cr
  have hstep:pC p.2 (l.map (·.1))=true-> ∀q∈l.take (i+1),pC q.2 (l.map (·.1))=true:=fun h q hq=>by
   rw[bE hx]at hq;rcases List.mem_append.1 hq with hq|hq
   ·exact hall q hq
   ·rw[List.mem_singleton.1 hq];exact h
  have hbad:pC p.2 (l.map (·.1))=false->RS=([],4):=fun h=>by
   rw[hord,if_neg];intro h2;have:=List.all_eq_true.1 h2 p hp;rw[h]at this;cases this
  generalize pC p.2 (l.map (·.1))=rb at *;generalize l.map (·.1)=A at *;cases rb with
  |true=>
   refine Qj ?_;refine fZ ?_;refine kW ?_;refine kQ (cr) ?_;exact⟨i+1,⟨hil,hstep rfl⟩,by omega,weak ⟨rfl,rfl,rfl,rfl,ak (by omega) (by omega),trivial⟩ trivial rfl⟩
  |false=>
   refine Qj ?_;refine fZ ?_;refine kW ?_;refine kC (cr) ?_;refine N0 ?_;rw[hbad rfl];rfl
 rw[List.take_of_length_le (by omega)]at hall;have hord:RS=(match f7 l l.length []with|some o=>(o,0)|none=>([],9)):=by rw[hord,if_pos (List.all_eq_true.2 hall)]
 clear hall hAl hA0;refine HE ?_;clear hil hi;refine ay (List L8) (fun o=>o.length<=l.length/\f7 l (l.length-o.length) o=f7 l l.length []) (fun o=>⟨[(10,li 6001 o),(0, .d (bX l))],[(6001,mq o)]⟩) (fun o=>l.length-o.length) [] ⟨Nat.zero_le _,rfl⟩ kw ?_;rintro o ⟨hol,hog⟩;have ho1:o.length<=1000000:=by omega
 by_cases hlo:o.length<l.length
 case neg=>
  have hend:RS=(o,0):=by rw[hord,<- hog,show l.length-o.length=0 by omega];rfl
  cases o with
  |nil=>
   refine Ms ?_;refine N0 ?_;rw[hend];rfl
  |cons a r=>
   refine kI ?_
   refine kO4 ?_
   refine Cz ?_;refine bV (a7 (q:=10) rfl rfl) rfl ?_;refine N0 ?_;rw[hend];rfl
 obtain⟨kk,hkk⟩:∃kk,l.length-o.length=kk+1:=⟨l.length-o.length-1,by omega⟩;rw[hkk,f7]at hog
 have hcont:sA l o≠[]->f7 l (l.length-(o++[sA l o]).length) (o++[sA l o])=f7 l l.length []:=fun hn=>by
  rw[if_neg hn]at hog;exact yP
 have hcyc:sA l o=[]->RS=([],9):=fun h=>by rw[if_pos h]at hog;rw[hord,<- hog]
 cases o with
 |nil=>
  refine Mj ?_;refine ay Nat (fun i=>i<=l.length) (fun i=>⟨[(10, .nil),(0, .d (bX l)),(47, .d (bX l)),(48, .d (dN .i64 l.length)),(49, .d (dN .i64 i)),(11, .d (dL ((l.take i).foldl (jr ([])) [])))],[]⟩) (fun i=>l.length-i) 0 (Nat.zero_le _) kw ?_;intro i hi;obtain⟨nx,hnx⟩:∃nx,(l.take i).foldl (jr ([])) []=nx:=⟨_,rfl⟩;rw[hnx]
  by_cases hlt:i<l.length
  ·obtain⟨p,hx⟩:∃p,l[i]? =some p:=⟨l[i],by simp[hlt]⟩
   have hnext:=nB hx hnx;have hp:=List.mem_of_getElem? hx;have hsx:=(hs p hp).2;obtain⟨o1,na1,xs1,nb1,ys1,nm1,n1,cs1,hA,hB⟩:=aX p;have hat:∀(j:Nat) (a:AV),(bl p.1 o1 na1 xs1 nb1 ys1 nm1 n1 cs1)[j]? =some a->(bY l)[i*8+j]? =some a:=fun j a h=>cY l i p hx j a (by rw[hB];exact h)
   have c1:=dX ([]) p.1 ho1;have c2:=lW p ([]) hsx ho1;rw[show sv p= .agg (bl p.1 o1 na1 xs1 nb1 ys1 nm1 n1 cs1) from congrArg DV.agg hB]at c2;have hcd:pH ([]) p=(!(decide (p.1∈([]:List L8))) && pC p.2 ([])):=rfl
   have keep:pH ([]) p=false∨(nx≠[]/\Op.bytesLess p.1 nx=false)->nx=(l.take (i+1)).foldl (jr ([])) []:=fun h=>by
    exact Mk
   have take:pH ([]) p=true->(nx=[]∨Op.bytesLess p.1 nx=true)->p.1=(l.take (i+1)).foldl (jr ([])) []:=fun h1 h2=>by
    rw[hnext,jr,if_pos ⟨h1,h2⟩]
   generalize pC p.2 ([])=rb at *
   have hall:decide (p.1∈([]:List L8))=true∨(decide (p.1∈([]:List L8))=false/\rb=false)∨(decide (p.1∈([]:List L8))=false/\rb=true/\nx=[]) ∨
    (decide (p.1∈([]:List L8))=false/\rb=true/\nx≠[]/\Op.bytesLess p.1 nx=false)∨(decide (p.1∈([]:List L8))=false/\rb=true/\nx≠[]/\Op.bytesLess p.1 nx=true):=by
    cases decide (p.1∈([]:List L8))<;>cases rb<;>cases Op.bytesLess p.1 nx<;>by_cases h:nx=[]<;>simp[h]
   rcases hall with hb1| ⟨hb1,rfl⟩| ⟨hb1,rfl,h0⟩| ⟨hb1,rfl,h0,hls⟩| ⟨hb1,rfl,h0,hls⟩
   ·rw[hb1]at c1
    refine Qj ?_;refine vr ?_;refine mb ?_;exact LW
   ·rw[hb1]at c1
    refine Qj ?_;refine vr ?_;refine MP ?_;refine kW ?_;exact LW
   ·rw[hb1]at c1
    refine Qj ?_;refine vr ?_;refine MP ?_
    refine kO3 ?_
    refine aO rfl rfl rfl rfl rfl rfl rfl (bO (a:=nx) (b:=[]) h0) ?_;refine kW ?_;exact⟨i+1,hlt,by omega,weak ⟨rfl,rfl,rfl,rfl,ak (by omega) (by omega),congrArg (fun z=>TV.d (dL z)) (take (by rw[hcd,hb1];rfl) (.inl h0)),trivial⟩ trivial rfl⟩
   ·rw[hb1]at c1
    refine Qj ?_;refine vr ?_;refine MP ?_;refine Ri ?_;exact⟨i+1,hlt,by omega,weak ⟨rfl,rfl,rfl,rfl,ak (by omega) (by omega),congrArg (fun z=>TV.d (dL z)) (keep (.inr ⟨h0,hls⟩)),trivial⟩ trivial rfl⟩
   ·rw[hb1]at c1
    refine Qj ?_;refine vr ?_;refine MP ?_;refine Ri ?_;exact⟨i+1,hlt,by omega,weak ⟨rfl,rfl,rfl,rfl,ak (by omega) (by omega),congrArg (fun z=>TV.d (dL z)) (take (by rw[hcd,hb1];rfl) (.inr hls)),trivial⟩ trivial rfl⟩
  ·rw[List.take_of_length_le (by omega)]at hnx
   have hnN:sA l ([])=nx:=hnx
   by_cases h0:nx=[]
   ·exact GW
   ·rw[hnN]at hcont
    refine HE ?_;refine im (T:=TT) rfl ?_ ?_
    ·exact(Ca h0)
    refine kW ?_;refine cK 6002 (m1:=([]:List L8).length) (m2:=1) ac (by decide) (Nat.le_trans (Nat.mul_le_mul_right _ (show([]:List L8).length+1<=1000001 by omega)) (by decide)) rfl rfl rfl rfl rfl rfl rfl rfl rfl rfl rfl (.nil rfl rfl) rfl rfl rfl ?_;refine kW ?_;refine⟨([])++[nx],⟨by simp only[List.length_append,List.length_cons,List.length_nil]at hlo ⊢;omega,hcont h0⟩,by simp only[List.length_append,List.length_cons,List.length_nil]at hlo ⊢;omega,Eq.mpr (congrArg (bi _) (ju [(0, .d (bX l))] [] 10 6001 ([]) nx [])) ?_⟩;exact bi.trans (b:=⟨[(10, .own 6002 (([]:List L8).length+1) 1 9),(0, .d (bX l))],[(6002,some ((au ([])).take (([]:List L8).length*1)++[.val (vL nx)]))]⟩) kw ((aA (q:=10) (j:=6002) (j':=6001) rfl rfl rfl rfl).trans kw)
 |cons a r=>
  refine Jn ?_;refine kW ?_;refine ay Nat (fun i=>i<=l.length) (fun i=>⟨[(10, .own 6001 (List.cons a r).length 1 9),(0, .d (bX l)),(47, .d (bX l)),(48, .d (dN .i64 l.length)),(49, .d (dN .i64 i)),(11, .d (dL ((l.take i).foldl (jr (List.cons a r)) [])))],[(6001,some (au (List.cons a r)))]⟩) (fun i=>l.length-i) 0 (Nat.zero_le _) kw ?_;intro i hi;obtain⟨nx,hnx⟩:∃nx,(l.take i).foldl (jr (List.cons a r)) []=nx:=⟨_,rfl⟩;rw[hnx]
  by_cases hlt:i<l.length
  ·obtain⟨p,hx⟩:∃p,l[i]? =some p:=⟨l[i],by simp[hlt]⟩
   have hnext:=nB hx hnx;have hp:=List.mem_of_getElem? hx;have hsx:=(hs p hp).2;obtain⟨o1,na1,xs1,nb1,ys1,nm1,n1,cs1,hA,hB⟩:=aX p;have hat:∀(j:Nat) (a:AV),(bl p.1 o1 na1 xs1 nb1 ys1 nm1 n1 cs1)[j]? =some a->(bY l)[i*8+j]? =some a:=fun j a h=>cY l i p hx j a (by rw[hB];exact h)
   have c1:=dX (List.cons a r) p.1 ho1;have c2:=lW p (List.cons a r) hsx ho1;rw[show sv p= .agg (bl p.1 o1 na1 xs1 nb1 ys1 nm1 n1 cs1) from congrArg DV.agg hB]at c2;have hcd:pH (List.cons a r) p=(!(decide (p.1∈(List.cons a r:List L8))) && pC p.2 (List.cons a r)):=rfl
   have keep:pH (List.cons a r) p=false∨(nx≠[]/\Op.bytesLess p.1 nx=false)->nx=(l.take (i+1)).foldl (jr (List.cons a r)) []:=fun h=>by
    exact Mk
   have take:pH (List.cons a r) p=true->(nx=[]∨Op.bytesLess p.1 nx=true)->p.1=(l.take (i+1)).foldl (jr (List.cons a r)) []:=fun h1 h2=>by
    rw[hnext,jr,if_pos ⟨h1,h2⟩]
   generalize pC p.2 (List.cons a r)=rb at *
   have hall:decide (p.1∈(List.cons a r:List L8))=true∨(decide (p.1∈(List.cons a r:List L8))=false/\rb=false)∨(decide (p.1∈(List.cons a r:List L8))=false/\rb=true/\nx=[]) ∨
    (decide (p.1∈(List.cons a r:List L8))=false/\rb=true/\nx≠[]/\Op.bytesLess p.1 nx=false)∨(decide (p.1∈(List.cons a r:List L8))=false/\rb=true/\nx≠[]/\Op.bytesLess p.1 nx=true):=by
    cases decide (p.1∈(List.cons a r:List L8))<;>cases rb<;>cases Op.bytesLess p.1 nx<;>by_cases h:nx=[]<;>simp[h]
   rcases hall with hb1| ⟨hb1,rfl⟩| ⟨hb1,rfl,h0⟩| ⟨hb1,rfl,h0,hls⟩| ⟨hb1,rfl,h0,hls⟩
   ·rw[hb1]at c1
    refine Qj ?_;refine vr ?_;refine Nv ?_;exact Nh
   ·rw[hb1]at c1
    refine Qj ?_;refine vr ?_;refine iK ?_;exact Nh
   ·rw[hb1]at c1
    refine Qj ?_;refine vr ?_;refine iK ?_
    refine kO3 ?_
    refine aO rfl rfl rfl rfl rfl rfl rfl (bO (a:=nx) (b:=[]) h0) ?_;refine kW ?_;exact⟨i+1,hlt,by omega,weak ⟨rfl,rfl,rfl,rfl,ak (by omega) (by omega),congrArg (fun z=>TV.d (dL z)) (take (by rw[hcd,hb1];rfl) (.inl h0)),trivial⟩ ⟨rfl,trivial⟩ rfl⟩
   ·rw[hb1]at c1
    refine Qj ?_;refine vr ?_;refine iK ?_;refine Ri ?_;exact⟨i+1,hlt,by omega,weak ⟨rfl,rfl,rfl,rfl,ak (by omega) (by omega),congrArg (fun z=>TV.d (dL z)) (keep (.inr ⟨h0,hls⟩)),trivial⟩ ⟨rfl,trivial⟩ rfl⟩
   ·rw[hb1]at c1
    refine Qj ?_;refine vr ?_;refine iK ?_;refine Ri ?_;exact⟨i+1,hlt,by omega,weak ⟨rfl,rfl,rfl,rfl,ak (by omega) (by omega),congrArg (fun z=>TV.d (dL z)) (take (by rw[hcd,hb1];rfl) (.inr hls)),trivial⟩ ⟨rfl,trivial⟩ rfl⟩
  ·rw[List.take_of_length_le (by omega)]at hnx
   have hnN:sA l (List.cons a r)=nx:=hnx
   by_cases h0:nx=[]
   ·exact GW
   ·rw[hnN]at hcont
    refine HE ?_;refine im (T:=TT) rfl ?_ ?_
    ·exact(Ca h0)
    refine kW ?_;refine cK 6002 (m1:=(List.cons a r:List L8).length) (m2:=1) ac (by decide) (Nat.le_trans (Nat.mul_le_mul_right _ (show(List.cons a r:List L8).length+1<=1000001 by omega)) (by decide)) rfl rfl rfl rfl rfl rfl rfl rfl rfl rfl rfl (.own rfl rfl) rfl rfl rfl ?_;refine kW ?_;refine⟨(List.cons a r)++[nx],⟨by simp only[List.length_append,List.length_cons,List.length_nil]at hlo ⊢;omega,hcont h0⟩,by simp only[List.length_append,List.length_cons,List.length_nil]at hlo ⊢;omega,Eq.mpr (congrArg (bi _) (ju [(0, .d (bX l))] [] 10 6001 (List.cons a r) nx [])) ?_⟩
    exact bi.trans (b:=⟨[(10, .own 6002 ((List.cons a r:List L8).length+1) 1 9),(0, .d (bX l))],[(6002,some ((au (List.cons a r)).take ((List.cons a r:List L8).length*1)++[.val (vL nx)]))]⟩) kw ((aA (q:=10) (j:=6002) (j':=6001) rfl rfl rfl rfl).trans kw)
theorem wH (l:Tb) (x:Rx) (c2:aa Tryz.prog 35 [bX l] (Nj (wQ l))) (hs:mg l) (hx:pA x) (hvs:(bI l).2=0->IF l):aa Tryz.prog 27 [bX l,dR x] (Qu l x):=by
 have c1:=oL x hx.wd hx.lm (by have:=hx.sz;omega);have he:= @CE l hs hvs;have hee:= @z6 l;have hxo:=Pf hx;unfold Qu;generalize pT x=vx at *;generalize wQ l=vv at *
 have c3:vx=0-> ∀env,vv= .ok env->aa Tryz.prog 69 [dR x,gt env,ip env] (fM (b7 (bu env) (jD x))):=fun h0 env henv=>by
  obtain⟨h1,h2,h3⟩:=he henv;obtain⟨h4,h5,h6⟩:=hxo h0;have:=dD (l:=env) h1 h2 h3 (jD x) h4 h5
  rwa[show dE (jD x)=dR x from congrArg dR h6]at this
 clear he hxo;generalize jD x=ex at *;obtain⟨o1,na1,xs1,nb1,ys1,nm1,n1,cs1,hA⟩:=bv x;rw[show dR x= .agg (ab o1 na1 xs1 nb1 ys1 nm1 n1 cs1) from congrArg DV.agg hA]at *
 by_cases h0:vx=0
 case neg=>
  rw[if_neg h0];refine kV func27 ?_;refine kC (c1) ?_;refine Ru ?_;refine Q2 ?_;exact aD
 rw[if_pos h0];rw[h0]at c1;cases vv with
 |error e=>
  have hne:=hee rfl;refine kU func27 ?_;refine mb ?_;refine kC (c2) ?_;refine Ru ?_;refine kB true ?_ ?_
  ·exact bne_iff_ne.2 hne
  exact aD
 |ok env=>
  have c3:=c3 h0 env rfl;dsimp only;cases hev:b7 (bu env) ex with
  |error z=>
   exact TA
  |ok y=>
   exact TA
theorem Az (q:Pm) (n:L8) (hq:pA q.2):bw Tryz.prog 86 [.d (sv q), .box 900 0] [(900,zB n)] (.v (.one (dB (decide (n∈eu q.2))))) [(900,zB n)]:=by
 have c:=tI q n hq;obtain⟨o1,na1,xs1,nb1,ys1,nm1,n1,cs1,hA,hB⟩:=aX q;rw[show sv q= .agg (bl q.1 o1 na1 xs1 nb1 ys1 nm1 n1 cs1) from congrArg DV.agg hB]at *;generalize decide (n∈eu q.2)=b at *;cases b
 all_goals(
  refine bf ac fo func86 rfl rfl rfl rfl rfl (nZ) ?_;refine kR ?_;refine kI ?_
  refine kO2 ?_
  refine kQ (c) ?_;exact⟨⟨_,rfl,rfl⟩,⟨rfl,trivial⟩⟩)
theorem oG {fid:FuncId} {p:Pm->Bool} {n:L8} (l:Tb) (hp:∀x∈l,bw Tryz.prog fid [.d (sv x), .box 900 0] [(900,zB n)] (.v (.one (dB (p x)))) [(900,zB n)]) (hl:l.length<=1000000):bw Tryz.prog 85 [.d (bX l), .clo (.func fid) [] [.box 900 0]] [(900,zB n)] (.v (.one (dB (l.any p)))) [(900,zB n)]:=by
 have c:=ny l hp hl
 have hlt:(l.findIdx p<l.length)↔l.any p=true:=by
  rw[List.any_eq_true];exact List.findIdx_lt_length
 cases hb:l.any p with
 |true=>
  rw[if_pos (hlt.2 hb)]at c;refine bf ac fo func85 rfl rfl rfl rfl rfl (nZ) ?_;refine kW ?_;refine kD (c) ?_;refine kT ?_;exact Qn
 |false=>
  rw[if_neg (fun h=>by rw[hlt.1 h]at hb;cases hb)]at c;refine bf ac fo func85 rfl rfl rfl rfl rfl (nZ) ?_;refine kW ?_;refine kD (c) ?_;exact Qn
theorem Bi (l:Tb) (hl:l.length<=1000):aa Tryz.prog 15 [bX l] (.one (bX l)):=by
 have hok:=mQ l;have hlc:=d9 l;have hby:∀k,k<=1001->k*128<=140737488355328:=fun k hk=>by omega
 cases l with
 |nil=>
  refine kV func15 ?_;refine qR 1001 ac rfl rfl rfl rfl rfl rfl rfl rfl ?_;refine kO ?_;refine ST ?_;refine OL ?_;exact aD
 |cons a r=>
  refine kV func15 ?_;refine qR 1001 ac rfl rfl rfl rfl rfl rfl rfl rfl ?_;refine kO ?_;refine cK 1002 (m1:=0) (m2:=(a::r).length) ac (Nat.zero_lt_succ _) (hby _ (by omega)) hlc rfl rfl rfl rfl rfl rfl rfl rfl rfl rfl (.own rfl rfl) rfl rfl (by rw[hok];rfl) ?_;rw[Nat.zero_add (a::r).length];refine OL ?_;exact aD
theorem nX (l:List L8) (hl:l.length<=1000000):aa Tryz.prog 19 [iZ l,iZ l] (.one (dB true)):=by
 refine kU func19 ?_;refine NW ?_;refine kB false ?_ ?_
 ·exact bne_eq_false_iff_eq.2 rfl
 refine kW ?_;refine ay Nat (fun i=>i<=l.length) (fun i=>⟨[(0, .d (iZ l)),(1, .d (iZ l)),(12, .d (dN .i64 l.length)),(13, .d (dN .i64 i))],[]⟩) (fun i=>l.length-i) 0 (Nat.zero_le _) kw ?_;intro i hi;refine kI ?_
 by_cases hil:i<l.length
 ·refine kT ?_
  obtain⟨x,hx⟩:∃x,l[i]? =some x:=⟨l[i],by simp[hil]⟩;refine kW ?_;refine bP (i:=i) (cs':=[.val (vL x)]) hil (ib hx) (Nat.zero_lt_succ 0) rfl rfl rfl rfl rfl rfl rfl rfl ?_
  refine kO3 ?_
  refine bP (i:=i) (cs':=[.val (vL x)]) hil (ib hx) (Nat.zero_lt_succ 0) rfl rfl rfl rfl rfl rfl rfl rfl ?_;refine kO ?_;refine aO rfl rfl rfl rfl rfl rfl rfl (gY (a:=x) (b:=x) rfl) ?_;refine kW ?_;exact⟨i+1,hil,by omega,weak ⟨rfl,rfl,rfl,ak (by omega) (by omega),trivial⟩ trivial rfl⟩
 ·refine kE ?_
  exact aD
theorem qi:∀(l:EL) (i:Nat) (x:L8 × (Rat × Int)),l[i]? =some x-> ∀(j:Nat) (a:AV),(j7 x.2.1 x.2.2)[j]? =some a->(kp l)[i*5+j]? =some a
 | [],i,x,h,_,_,_=>by simp at h
 |y::r,0,x,h,j,a,ha=>by
  simp at h
  subst h;rw[Nat.zero_mul,Nat.zero_add,kp,List.getElem?_append_left (List.getElem?_eq_some_iff.1 ha).1];exact ha
 |y::r,i+1,x,h,j,a,ha=>by
  rw[kp,show(i+1)*5+j=(j7 y.2.1 y.2.2).length+(i*5+j) by rw[pM];omega,List.getElem?_append_right (by omega),Nat.add_sub_cancel_left];exact qi r i x (by simpa using h) j a ha
abbrev Jw:List AV:=[.val (.string ByteArray.empty), .val (.int .i64 0), .val (.bool false), .sl 0 [], .val (.bool false), .sl 0 [], .val (.string ByteArray.empty), .sl 0 []]
def Ix (l:Tb) (i:Nat):List AV:=bY (l.take i)++(cZ Jw l.length).drop (i*8)
theorem Gn (l:Tb):Ix l 0=cZ Jw l.length:=by simp[Ix,bY]
theorem J3 {l:Tb} {i:Nat} (hi:i<=l.length):(Ix l i).length=l.length*8:=by
 unfold Ix;rw[List.length_append,d9,List.length_drop,uQ,List.length_take]
 simp only[List.length_cons,List.length_nil]
 omega
theorem KN (l:Tb):Ix l l.length=bY l:=by
 unfold Ix;rw[List.take_length,List.drop_eq_nil_of_le (by rw[uQ];simp),List.append_nil]
theorem Kx {l:Tb} {i:Nat} {p:Pm} (hx:l[i]? =some p):aB (Ix l i) (i*8) (ve p)=Ix l (i+1):=by
 have hi:=(List.getElem?_eq_some_iff.1 hx).1;have h1:(bY (l.take i)).length=i*8:=by rw[d9,List.length_take];omega
 unfold aB Ix;rw[fy,bE hx,kM,pU];rw[show i*8=(bY (l.take i)).length from h1.symm,List.take_left,List.drop_length_add_append,List.drop_drop,h1];rw[show i*8+8=(i+1)*8 by omega]
theorem rz (l:Tb) (hc:∀x∈l,aa Tryz.prog 65 [dR x.2] (.one (dR x.2))) (hl:l.length<=1000):bw Tryz.prog 64 [.d (bX l)] [] (.own 1003 l.length 8 43) [(1003,bY l)]:=by
 refine bf ac fo func64 rfl rfl rfl rfl rfl ((em.nil _)) ?_;refine kW ?_;refine BI 1003 ac (m:=l.length) (c:=l.length) (Nat.le_refl _) (Nat.le_trans (Nat.mul_le_mul_left _ hl) (by decide)) (by omega) rfl rfl rfl rfl rfl rfl rfl rfl rfl rfl rfl rfl rfl rfl rfl ?_;refine kW ?_;refine ay Nat (fun i=>i<=l.length) (fun i=>⟨[(3, .own 1003 l.length 8 43),(0, .d (bX l)),(9, .d (bX l)),(10, .d (dN .i64 l.length)),(11, .d (dN .i64 i))],[(1003,some (Ix l i))]⟩) (fun i=>l.length-i) 0 (Nat.zero_le _) (weak ⟨rfl,rfl,rfl,rfl,rfl,trivial⟩ ⟨congrArg some (Gn l).symm,trivial⟩ rfl) ?_;intro i hi;refine kI ?_
 by_cases hil:i<l.length
 ·refine kT ?_
  obtain⟨p,hx⟩:∃p,l[i]? =some p:=⟨l[i],by simp[hil]⟩;have c:=hc p (List.mem_of_getElem? hx);have hset:=Kx hx;have hrl:=J3 hi;obtain⟨o1,na1,xs1,nb1,ys1,nm1,n1,cs1,hA,hB⟩:=aX p;have hat:∀(j:Nat) (a:AV),(bl p.1 o1 na1 xs1 nb1 ys1 nm1 n1 cs1)[j]? =some a->(bY l)[i*8+j]? =some a:=fun j a h=>cY l i p hx j a (by rw[hB];exact h)
  rw[show dR p.2= .agg (ab o1 na1 xs1 nb1 ys1 nm1 n1 cs1) from congrArg DV.agg hA]at c;rw[hB]at hset;refine kW ?_;refine fZ ?_;refine kW ?_;refine kC (c) ?_;refine kO ?_;refine gn (i:=i) hil rfl rfl rfl rfl rfl rfl rfl rfl rfl ?_;refine iL (cs:=Ix l i) (show i*8+8<=_ by rw[hrl];omega) hset rfl rfl rfl rfl rfl rfl rfl rfl rfl rfl ?_;exact Mb
 ·obtain rfl:i=l.length:=by omega
  rw[KN];refine kE ?_;exact Sl
theorem yI (l:Tb) (p:Pm) (hs:mg l) (hp:p.1.length<=60/\pA p.2) (hl:l.length<=500) (hc:∀x∈l,aa Tryz.prog 65 [dR x.2] (.one (dR x.2))) (hcp:aa Tryz.prog 65 [dR p.2] (.one (dR p.2))):aa Tryz.prog 22 [bX l,sv p] (FT (zO l p)):=by
 have hml:=qj l p;have cf:=ia l p.1 (by omega);have co:=lP (dP l p) (hs.set hp) (by omega);have ct:=rz l hc (by omega);have hok:=mQ l;have hokp:a8 (ve p)=true:=vD p.2;have hpl:=fy p;have hlc:=d9 l;have hfl:=od l p.1;obtain⟨R,hR⟩:∃R,zO l p=R:=⟨_,rfl⟩;have hst:R=if(bI (dP l p)).2=0 then(dP l p,0)else([],(bI (dP l p)).2):=by rw[<- hR];rfl
 rw[hR];clear hR
 have hset:(b5 l p.1<l.length/\gH l p.1=(b5 l p.1:Nat)/\bX (dP l p)= .leaf (.sl l.length (aB (bY l) (b5 l p.1*8) (ve p))))∨(gH l p.1= -1/\bX (dP l p)= .leaf (.sl (l.length+1) (bY l++ve p))):=by
  exact Qk
 obtain⟨o1,na1,xs1,nb1,ys1,nm1,n1,cs1,hA,hB⟩:=aX p;rw[show sv p= .agg (bl p.1 o1 na1 xs1 nb1 ys1 nm1 n1 cs1) from congrArg DV.agg hB];rw[show dR p.2= .agg (ab o1 na1 xs1 nb1 ys1 nm1 n1 cs1) from congrArg DV.agg hA]at hcp;rw[hB]at hset hokp hpl;generalize gH l p.1=fi at *;generalize b5 l p.1=f at *;generalize dP l p=m at *;generalize(bI m).1=oo at *;generalize(bI m).2=oe at *
 have hfin:∀(c:List AV) (k:Nat),bX m= .leaf (.sl k c)->(oe=0->qC [.leaf (.sl k c),dN .i64 0]=FT R)/\(oe≠0->qC [.leaf (.sl 0 []),dN .i64 oe]=FT R):=fun c k e=>by
  exact LF
 have hby:∀k,k<=1001->k*128<=140737488355328:=fun k hk=>by omega
 rcases hset with⟨h,rfl,hm⟩| ⟨rfl,hm⟩
 ·have hfin:=hfin _ _ hm
  rw[hm]at co;refine BV ?_;refine NE ?_;refine iL (cs:=bY l) (show f*8+8<=_ by rw[hlc];omega) rfl rfl rfl rfl rfl rfl rfl rfl rfl rfl rfl ?_;refine P9 ?_;refine Ny ?_;exact BW
 ·have hfin:=hfin _ _ hm
  rw[hm]at co;refine BV ?_;refine Px ?_;refine cK 6003 (m1:=l.length) (m2:=1) ac (by decide) (hby _ (by omega)) rfl rfl rfl rfl rfl rfl rfl rfl rfl rfl rfl (.own rfl rfl) rfl rfl rfl ?_;have ht:(bY l).take (l.length*8)=bY l:=List.take_of_length_le (Nat.le_of_eq hlc);refine P9 ?_;refine bV ((a7 (q:=6) rfl rfl).tr (weak (s':=⟨[(6, .d (.leaf (.sl (l.length+1) (bY l++bl p.1 o1 na1 xs1 nb1 ys1 nm1 n1 cs1))))],[]⟩) ⟨congrArg (fun z=>TV.d (.leaf (.sl (l.length+1) (z++bl p.1 o1 na1 xs1 nb1 ys1 nm1 n1 cs1)))) ht,trivial⟩ trivial rfl)) rfl ?_;refine kO ?_;refine kC (co) ?_;exact BW
section
variable {P:Program} {T:TypeId->Option Ty} {n:Nat} {ops:Array Oper} {id:Nat} {draw:Bool} {K:AS->Prop} {s:AS} {k:Nat} {o:Oper} {os:List Oper} {fps:List FP}
theorem xV {t:TypeId} {ty:Ty} {x:Operand} {i off:Nat} {cs cs':List AV} (hl:off+ty.size<=cs.length) (hc:(cs.drop off).take ty.size=cs') (h1:gd ops s o=some true) (h2:o.op= .load t x) (h5:T t=some ty) (h6:R3 false ty.agg cs'=some (.d (.agg cs'))) (h8:s.ev x= .box i off) (h9:s.bx i=some cs)
 (h3:aF n o.dst=true) (h4:eT draw ops (ar ops o ⟨.d (.agg cs'),none⟩ [i]) k fps=true) (h:am P T n ops id draw K (k+1) os (s.eff o.dst ⟨.d (.agg cs'),none⟩) (ar ops o ⟨.d (.agg cs'),none⟩ [i]::fps)) (hlb:fO i=false:=by rfl):am P T n ops id draw K k (o::os) s fps:=by
 refine gi h1 ?_ h3 h4 h;have hb:Nat.ble (off+ty.size) cs.length=true:=Nat.ble_eq_true_of_le hl;unfold eK
 simp only[h2,h5,h8,h9,hb,hlb,hc,h6]
end
section
variable {P:Program} {T:TypeId->Option Ty} {n:Nat} {ops:Array Oper} {id:Nat} {draw:Bool} {K:AS->Prop} {s:AS} {k:Nat} {o:Oper} {os:List Oper} {fps:List FP}
theorem oj {a:Act} {w:World} {x:Operand} {t t' et:Nat} (ho:o.op= .binOp .eql t x (.const (.slice none 0 0)) t') (hu:P.underlying t=some (.slice et)) {A:Option Addr} {m c:Nat} (hv:a.eval x= .slice A m c):(execOp a.eval o).run P w= .ok (.value (.bool A.isNone)) w:=by
 have hr:=Lib.run_eql_slice_nil w t et A m c 0 0 hu;have hn:a.eval (.const (.slice none 0 0))= .slice none 0 0:=rfl;unfold execOp;rw[ho]
 simp[hv,hn,eqGuard,Sem.run_bind,Sem.run_pure,Result.andThen_ok,hr]
theorem GL (hT:∀t d,T t=some d->aU P t d) {x:Operand} {t t' et q m:Nat} {ty:Ty} {cs:List AV} (hpos:0<cs.length) (h1:gd ops s o=some true) (ho:o.op= .binOp .eql t x (.const (.slice none 0 0)) t') (ht:T t=some ty) (hel:ty.elem=some (et,q)) (hx:s.ev x= .d (.leaf (.sl m cs)))
 (h3:aF n o.dst=true) (h4:eT draw ops (ar ops o ⟨.d (.leaf (.val (.bool false))),none⟩ []) k fps=true) (h:am P T n ops id draw K (k+1) os (s.eff o.dst ⟨.d (.leaf (.val (.bool false))),none⟩) (ar ops o ⟨.d (.leaf (.val (.bool false))),none⟩ []::fps)):am P T n ops id draw K k (o::os) s fps:=by
 refine .run h1 (.gen fun s2 ht2 hrb=>?_) h3 h4 h;have hx2:=(an ht2 (x:=x) (by simp[ho,Op.operands])).trans hx;obtain⟨u,hu,_,hel',_⟩:=(hT _ _ ht).und;obtain⟨rfl,_⟩:=hel' et q hel;refine af fun n S0 w0 g a w hM=>⟨.bool false,w,?_,Below.refl _ _,AV.M.val rfl⟩
 have hv:=hM.ev x;rw[hx2]at hv;have hv:AV.M (Own S0 g s2) w (.sl m cs) (a.eval x):=hv;generalize hav:a.eval x=v at hv;cases hv with
 |emp=>simp at hpos
 |sl=>exact oj ho hu hav
theorem BA (hT:∀t d,T t=some d->aU P t d) {x:Operand} {t t' et q m:Nat} {ty:Ty} {cs:List AV} (h0:draw=false) (h1:gd ops s o=some true) (ho:o.op= .binOp .eql t x (.const (.slice none 0 0)) t') (ht:T t=some ty) (hel:ty.elem=some (et,q)) (hx:s.ev x= .d (.leaf (.sl m cs)))
 (h3:aF n o.dst=true) (h:∀b:Bool,am P T n ops id draw K (k+1) os (s.eff o.dst ⟨.d (.leaf (.val (.bool b))),none⟩) (ar ops o ⟨.junk,none⟩ []::fps)):am P T n ops id draw K k (o::os) s fps:=by
 refine .alt (fun s'=>∃b:Bool,s'=s.eff o.dst ⟨.d (.leaf (.val (.bool b))),none⟩) h0 h1 (fun S0 w0 g a w K Q hM hK=>?_) (by rintro s' ⟨b,rfl⟩;exact h b);obtain⟨u,hu,_,hel',_⟩:=(hT _ _ ht).und;obtain⟨rfl,_⟩:=hel' et q hel;have hv:=hM.ev x;rw[hx]at hv;have hv:AV.M (Own S0 g s) w (.sl m cs) (a.eval x):=hv
 have key:∃b:Bool,(execOp a.eval o).run P w= .ok (.value (.bool b)) w:=by
  generalize hav:a.eval x=v at hv;cases hv with
  |emp=>exact⟨_,oj ho hu hav⟩
  |sl=>exact⟨_,oj ho hu hav⟩
 obtain⟨b,hb⟩:=key;unfold Oper.wp;rw[hb];show K (a.put o.dst _) w;cases hd:o.dst with
 |none=>exact hK _ ⟨b,rfl⟩ g _ _ (by rw[hd];exact hM)
 |some d=>exact hK _ ⟨b,rfl⟩ g _ _ (by rw[hd];exact hM.put (dH h3 d hd) (Below.refl _ _) (AV.M.val rfl))
end
theorem AN:aa Tryz.prog 119 [.leaf (.sl 0 [])] (.one (.leaf (.sl 0 []))):=by
 refine kU func119 ?_;refine iD ?_;refine BA ac rfl rfl rfl rfl rfl rfl rfl fun b=>?_
 cases b
 ·refine kW ?_
  refine qR 3000 ac rfl rfl rfl rfl rfl rfl rfl rfl ?_;refine kO ?_;refine ST ?_;refine OL ?_;exact aD
 ·exact aD
theorem EV {m:Nat} {cs:List AV} (hm:0<m) (hl:m<=1000000) (hcs:cs.length=m*7) (hB:a8 cs=true):bw Tryz.prog 119 [.d (.leaf (.sl m cs))] [] (.own 1003 m 7 41) [(1003,cs)]:=by
 refine bf ac fo func119 rfl rfl rfl rfl rfl ((em.nil _)) ?_;refine iD ?_;refine GL ac (by omega) rfl rfl rfl rfl rfl rfl rfl ?_;refine kW ?_;refine qR 3000 ac rfl rfl rfl rfl rfl rfl rfl rfl ?_;refine kO ?_;refine cK 1003 (m1:=0) (m2:=m) ac hm (by show(0+m)*112<=_;omega) hcs rfl rfl rfl rfl rfl rfl rfl rfl rfl rfl (.own rfl rfl) rfl rfl ?_ ?_
 ·rw[hB];rfl
 rw[Nat.zero_add m];exact Sl
theorem DF:∀l:List Rx,a8 (da l)=true
 | []=>rfl
 |x::r=>sa (vD x) (DF r)
theorem zR {l:List Rx} {i:Nat} {x:Rx} (h:l[i]? =some x):aB (da l) (i*7) (aR x)=da l:=by
 have hi:=(List.getElem?_eq_some_iff.1 h).1
 have h1:l=l.take i++x::l.drop (i+1):=by
  obtain⟨h2,h3⟩:=List.getElem?_eq_some_iff.1 h;rw[<- h3,<- List.drop_eq_getElem_cons h2,List.take_append_drop]
 have app:∀a b:List Rx,da (a++b)=da a++da b:=fun a b=>by
  induction a with
  |nil=>rfl
  |cons y a ih=>simp only[List.cons_append,da,ih,List.append_assoc]
 have h4:da l=da (l.take i)++(aR x++da (l.drop (i+1))):=by
  conv=>lhs;rw[h1]
  rw[app,da]
 rw[h4,fK (by rw[mz,List.length_take];omega),List.drop_left,List.append_assoc]
theorem ov:∀x:Rx,jN x->gr x<=1000000->aa Tryz.prog 65 [dR x] (.one (dR x)):=by
 refine du fun op na xs nb ys nm args ih hx hsz=>?_
 obtain⟨_,_,hw,hw',_,hlen,hargs⟩:=hx;rw[gr]at hsz;have hal:=jn args;have hih:∀i (hi:i<args.length),aa Tryz.prog 65 [dR args[i]] (.one (dR args[i])):=fun i hi=>ih args[i] (List.getElem_mem hi) (hargs _ (List.getElem_mem hi)) (by have:=jg (List.getElem_mem hi);omega)
 show aa Tryz.prog _ [.agg (ab op na xs nb ys nm args.length (da args))] (.one (.agg (ab op na xs nb ys nm args.length (da args))))
 by_cases h0:args.length=0
 ·have e0:args=[]:=List.eq_nil_of_length_eq_zero h0
  subst e0;refine kU func65 ?_;refine kI ?_;refine MU 801 rfl rfl rfl rfl rfl rfl rfl rfl rfl rfl ?_;refine kW ?_;refine kQ (AN) ?_;refine ay Unit (fun _=>True) (fun _=>⟨[(1, .box 801 0),(2, .box 1 0),(11, .d (dN .i64 0)),(12, .d (dN .i64 0))],[(1,some (ab 0 false [] false [] [] 0 [])),(801,some (ab op na xs nb ys nm 0 []))]⟩) (fun _=>0) () trivial kw ?_;intro _ _;exact aD
 have c1:=EV (m:=args.length) (cs:=da args) (by omega) (by omega) (mz args) (DF args);refine kU func65 ?_;refine kI ?_;refine MU 801 rfl rfl rfl rfl rfl rfl rfl rfl rfl rfl ?_;refine kW ?_;refine gK c1 rfl rfl rfl rfl rfl trivial rfl rfl rfl rfl ?_;refine kW ?_;refine ay Nat (fun i=>i<=args.length) (fun i=>⟨[(1, .box 801 0),(2, .box 1 0),(10, .own 1003 args.length 7 41),(11, .d (dN .i64 args.length)),(12, .d (dN .i64 i))],[(1,some (ab 0 false [] false [] [] 0 [])),(801,some [.val (.int .i64 op), .val (.bool na),aW xs, .val (.bool nb),aW ys, .val (vL nm), .ow 1003 args.length 7 41]),(1003,some (da args))]⟩) (fun i=>args.length-i) 0 (Nat.zero_le _) kw ?_;intro i hi;refine kI ?_
 by_cases hlt:i<args.length
 ·obtain⟨o1,na1,xs1,nb1,ys1,nm1,n1,cs1,hA⟩:=bv args[i]
  have hxi:args[i]? =some args[i]:=by simp[hlt]
  have c:=hih i hlt;have hsp:=zR hxi
  have hld:((da args).drop (i*7)).take 7=ab o1 na1 xs1 nb1 ys1 nm1 n1 cs1:=by
   have hat:=fw args i args[i] hxi;rw[hA]at hat;refine List.ext_getElem? fun j=>?_
   by_cases hj:j<7
   ·have h7:(ab o1 na1 xs1 nb1 ys1 nm1 n1 cs1)[j]? =some ((ab o1 na1 xs1 nb1 ys1 nm1 n1 cs1)[j]'hj):=List.getElem?_eq_getElem hj
    rw[List.getElem?_take,if_pos hj,List.getElem?_drop,h7];exact hat j _ h7
   ·rw[List.getElem?_take,if_neg hj,List.getElem?_eq_none (by show 7<=j;omega)]
  have hl7:i*7+7<=(da args).length:=by rw[mz];omega
  rw[show dR args[i]= .agg (ab o1 na1 xs1 nb1 ys1 nm1 n1 cs1) from congrArg DV.agg hA]at c;rw[hA]at hsp;refine kX ?_;refine gn (i:=i) hlt rfl rfl rfl rfl rfl rfl rfl rfl rfl ?_;refine xV (cs':=ab o1 na1 xs1 nb1 ys1 nm1 n1 cs1) hl7 hld rfl rfl rfl rfl rfl rfl rfl rfl ?_;refine kW ?_;refine kC (c) ?_;refine gn (i:=i) hlt rfl rfl rfl rfl rfl rfl rfl rfl rfl ?_;refine iL (cs:=da args) hl7 hsp rfl rfl rfl rfl rfl rfl rfl rfl rfl rfl ?_;refine kW ?_;exact⟨i+1,hlt,by omega,weak ⟨rfl,rfl,rfl,rfl,ak (by omega) (by omega),trivial⟩ ⟨rfl,rfl,rfl,trivial⟩ rfl⟩
 ·refine Cz ?_
  refine bV (wj (i:=801) (off:=6) (j:=1003) rfl rfl rfl rfl rfl) rfl ?_;exact aD
section
variable {q m i:Nat} {cs:List AV}
theorem Q1 (hi:i<m) (hcs:cs.length=m*q):aB cs ((0+i)*q) ((cs.drop ((0+(i+1))*q)).take ((m-(i+1))*q))=(cs.take (i*q)++cs.drop ((i+1)*q))++cs.drop ((m-1)*q):=by
 have h1:(m-(i+1))*q=m*q-(i+1)*q:=Nat.sub_mul _ _ _;have h2:(i+1)*q=i*q+1*q:=Nat.add_mul _ _ _;have h3:(i+1)*q<=m*q:=Nat.mul_le_mul_right _ hi;have h4:(m-1)*q=m*q-1*q:=Nat.sub_mul _ _ _;rw[Nat.zero_add,Nat.zero_add,List.take_of_length_le (l:=cs.drop ((i+1)*q)) (by rw[List.length_drop];omega)];unfold aB;rw[List.length_drop,hcs,show i*q+(m*q-(i+1)*q)=(m-1)*q by omega]
theorem Qe (hi:i<m) (hcs:cs.length=m*q) (Z:List AV) (hZ:Z.length=1*q):aB ((cs.take (i*q)++cs.drop ((i+1)*q))++cs.drop ((m-1)*q)) ((0+(m-1))*q) Z=(cs.take (i*q)++cs.drop ((i+1)*q))++Z:=by
 have h2:(i+1)*q=i*q+1*q:=Nat.add_mul _ _ _;have h3:(i+1)*q<=m*q:=Nat.mul_le_mul_right _ hi;have h4:(m-1)*q=m*q-1*q:=Nat.sub_mul _ _ _;rw[Nat.zero_add,fK (a:=cs.take (i*q)++cs.drop ((i+1)*q)) (by rw[List.length_append,List.length_take,List.length_drop];omega),hZ,List.drop_drop,show cs.drop ((m-1)*q+1*q)=[] from List.drop_of_length_le (by rw[hcs];omega),List.append_nil]
theorem Ry (hi:i+1=m) (hcs:cs.length=m*q) (Z:List AV) (hZ:Z.length=1*q):aB cs ((0+(m-1))*q) Z=(cs.take (i*q)++cs.drop ((i+1)*q))++Z:=by
 subst hi;have h2:(i+1)*q=i*q+1*q:=Nat.add_mul _ _ _;rw[Nat.zero_add,Nat.add_sub_cancel];unfold aB;rw[hZ,<- h2,List.drop_of_length_le (Nat.le_of_eq hcs),List.append_nil,List.append_nil]
end
theorem Fc (l:Tb) (i:Nat):bY (l.eraseIdx i)=(bY l).take (i*8)++(bY l).drop ((i+1)*8):=by
 rw[List.eraseIdx_eq_take_drop_succ,kM]
 have h1:∀(l:Tb) (i:Nat),bY (l.take i)=(bY l).take (i*8):=by
  intro l
  induction l with
  |nil=>intro i;simp[bY]
  |cons p r ih=>
   intro i;cases i with
   |zero=>simp[bY]
   |succ i=>rw[List.take_succ_cons,bY,bY,ih,show(i+1)*8=(ve p).length+i*8 by rw[fy];omega,List.take_length_add_append]
 have h2:∀(l:Tb) (i:Nat),bY (l.drop i)=(bY l).drop (i*8):=by
  intro l
  induction l with
  |nil=>intro i;simp[bY]
  |cons p r ih=>
   intro i;cases i with
   |zero=>simp[bY]
   |succ i=>rw[List.drop_succ_cons,bY,ih,show(i+1)*8=(ve p).length+i*8 by rw[fy];omega,List.drop_length_add_append]
 rw[h1,h2]
theorem OJ {l:Tb} {i:Nat} (hi:i<l.length) (hl:l.length<=1000000):bw Tryz.prog 84 [.own 901 l.length 8 43, .d (dN .i64 i), .d (dN .i64 (i+1:Nat))] [(901,bY l)] (.own 901 (l.length-1) 8 43) [(901,bY (l.eraseIdx i)++cZ Jw 1)]:=by
 have hcs:=d9 l;have hB:=mQ l;have hik:(i+1)*8<=l.length*8:=Nat.mul_le_mul_right _ hi;have d1:=Q1 hi hcs;have d2:=Qe hi hcs (cZ Jw 1) rfl;have d3:=fun h=> @Ry 8 _ i _ h hcs (cZ Jw 1) rfl
 have hlen:(bY (l.eraseIdx i)++cZ Jw 1).length=l.length*8:=by
  rw[List.length_append,d9,List.length_eraseIdx,if_pos hi];show _+8=_;omega
 rw[<- Fc]at d1 d2 d3;generalize bY l=cs at *;have hld:(bY (l.eraseIdx i)).length+8=l.length*8:=by rw[<- hlen,List.length_append];rfl
 generalize bY (l.eraseIdx i)=ds at *;generalize l.length=m at *;refine bf ac fo func84 rfl rfl rfl rfl rfl ((em.one (by omega))) ?_;refine kR ?_
 repeat refine bG (T:=TT) ?_
 refine mJ 0 rfl rfl fun c hc1 hc2=>?_
 refine bz (T:=TT) rfl ?_
 refine kO5 ?_
 refine PH ac (i:=i) (i2:=i+1) (i3:=m) (by omega) (by omega) hc1 rfl rfl rfl rfl rfl rfl rfl rfl rfl rfl rfl ?_;refine kW ?_;refine Ki ?_;refine kW ?_;refine Af ac (show i<=c by omega) rfl rfl rfl rfl rfl rfl rfl rfl rfl ?_
 refine kO2 ?_
 by_cases he:i+1=m
 ·have d3:=d3 he
  refine Cy ac he rfl rfl rfl rfl rfl rfl rfl rfl rfl ?_;refine I2 ac rfl rfl rfl rfl rfl rfl rfl rfl rfl ?_;refine kW ?_;refine Dt ac (i:=i) (show i<=m by omega) (show i<c by omega) hc1 rfl rfl rfl rfl rfl rfl rfl rfl rfl rfl ?_;refine CZ ac (cs':=ds++cZ Jw 1) (m:=m-i) (p:=(0+i)*8) (by omega) (by rw[Nat.zero_add];omega) (by rw[show m-i=1 by omega,show 0+i=0+(m-1) by omega];exact d3) rfl rfl rfl rfl rfl rfl rfl rfl (.vs rfl rfl rfl) rfl rfl ?_;refine P9 ?_;refine bV ((rV (q:=0) rfl rfl (by omega)).tr (weak (s':=⟨[(0, .own 901 (m-1) 8 43)],[(901,some (ds++cZ Jw 1))]⟩) ⟨congrArg (fun z=>TV.own 901 z 8 43) (show i=m-1 by omega),trivial⟩ ⟨rfl,trivial⟩ rfl)) rfl ?_;exact Sl
 have hq1:(0+(i+1)+(m-(i+1)))*8<=cs.length:=by rw[hcs];exact Nat.mul_le_mul_right _ (by omega)
 refine jQ ac (show i+1<=m by omega) (show i+1<c by omega) rfl rfl rfl rfl rfl rfl rfl rfl rfl ?_;refine B3 ac (m1:=i) (m2:=m-(i+1)) (m3:=m-1) (p:=0) (by omega) (by omega) (by omega) d1 ?_ rfl rfl rfl rfl rfl rfl rfl rfl rfl rfl (.vs rfl rfl hq1 rfl) rfl rfl ?_
 ·rw[eU (kH hB _)];rfl
 refine kW ?_;refine Dt ac (show m-1<=m by omega) (show m-1<c by omega) hc1 rfl rfl rfl rfl rfl rfl rfl rfl rfl rfl ?_;refine CZ ac (cs':=ds++cZ Jw 1) (m:=m-(m-1)) (p:=(0+(m-1))*8) (by omega) (by rw[Nat.zero_add,List.length_append];omega) (by rw[show m-(m-1)=1 by omega];exact d2) rfl rfl rfl rfl rfl rfl rfl rfl (.vs rfl rfl rfl) rfl rfl ?_;refine P9 ?_;refine bV (rV (q:=0) rfl rfl (by omega)) rfl ?_;exact Sl
theorem zV (l:Tb) (n:L8):(ie l≠0/\K8 l n=(0,ie l)/\NT l n=([],ie l))∨(ie l=0/\K8 l n=(0,4)/\NT l n=([],4))∨(ie l=0/\b5 l n<l.length/\K8 l n=((b5 l n:Int),0)/\NT l n=(if(l.eraseIdx (b5 l n)).any (fun p=>decide (n∈eu p.2))=true then([],14)else(l.eraseIdx (b5 l n),0))):=by
 unfold K8 NT gH
 by_cases h:ie l=0
 ·by_cases hf:b5 l n<l.length
  ·rw[if_pos h,if_pos h,if_pos hf,if_pos hf,if_neg (by omega)]
   exact .inr (.inr ⟨h,hf,rfl,rfl⟩)
  ·rw[if_pos h,if_pos h,if_neg hf,if_neg hf,if_pos (by omega)]
   exact .inr (.inl ⟨h,rfl,rfl⟩)
 ·rw[if_neg h,if_neg h]
  exact .inl ⟨h,rfl,rfl⟩
theorem xP (l:Tb) (n:L8) (hs:mg l) (hl:l.length<=500):aa Tryz.prog 40 [bX l,dL n] (FT (NT l n)):=by
 have cf:=oz l n hs (by omega);have ct:=rz l (fun x hx=>ov x.2 (hs x hx).2.wd (by have:=(hs x hx).2.sz;omega)) (by omega);rcases zV l n with⟨h1,h2,h3⟩| ⟨h1,h2,h3⟩| ⟨h1,hf,h2,h3⟩
 ·rw[h2]at cf
  rw[h3];generalize ie l=z at *;refine kU func40 ?_;refine Px ?_;refine ft (T:=TT) rfl ?_ ?_
  ·exact bne_iff_ne.2 h1
  exact aD
 ·rw[h2]at cf
  rw[h3];refine kV func40 ?_;refine kC (cf) ?_;exact aD
 rw[h2]at cf;rw[h3];have cd:=(OJ hf (by omega)).swap 901 1003 rfl;have hsub:∀x∈l.eraseIdx (b5 l n),x∈l:=fun x hx=>List.mem_of_mem_eraseIdx hx
 have hel:(l.eraseIdx (b5 l n)).length=l.length-1:=by rw[List.length_eraseIdx,if_pos hf]
 have cc:=(oG (n:=n) (l.eraseIdx (b5 l n)) (fun x hx=>Az x n (hs x (hsub x hx)).2) (by omega)).swap 900 0 rfl
 have hcut:(bY (l.eraseIdx (b5 l n))++cZ Jw 1).take ((l.length-1)*8)=bY (l.eraseIdx (b5 l n)):=by
  rw[<- hel,<- d9,List.take_left]
 have hdp:bX (l.eraseIdx (b5 l n))= .leaf (.sl (l.length-1) (bY (l.eraseIdx (b5 l n)))):=by unfold bX;rw[hel]
 have hbig:=od l n;clear hsub hel h2 h3 h1;generalize(l.eraseIdx (b5 l n)).any (fun p=>decide (n∈eu p.2))=b at *;generalize hds:l.eraseIdx (b5 l n)=ds at *;clear hds;rw[hdp]at cc;generalize b5 l n=f at *;have hfin:(if b=true then(([]:Tb),(14:Int))else(ds,0))=if b=true then([],14)else(ds,0):=rfl
 refine kU func40 ?_;refine Px ?_;refine gK ct rfl rfl rfl rfl rfl trivial rfl rfl rfl rfl ?_
 refine kO2 ?_
 refine kJ ((f+1:Nat)) ?_;refine kD (cd) ?_;refine P9 ?_;refine bV (((a7 (q:=8) rfl rfl).tr (yu (q:=8) ((l.length-1)*8) rfl)).tr (weak (s':=⟨[(8, .d (.leaf (.sl (l.length-1) (bY ds)))),(3, .box 0 0)],[(0,some (zB n))]⟩) ⟨congrArg (fun z=>TV.d (.leaf (.sl (l.length-1) z))) hcut,rfl,trivial⟩ ⟨rfl,trivial⟩ rfl)) rfl ?_
 refine kO2 ?_
 refine kD (cc) ?_;cases b
 ·refine N0 ?_
  show RV.tup _=RV.tup [bX ds,_];rw[hdp];rfl
 ·exact aD
def E6 (f t:L8) (l:Tb) (k:Nat):Tb:=(l.take k).map (fun p=>(p.1,lG f t p.2))++l.drop k
theorem IS (f t:L8) (l:Tb):E6 f t l 0=l:=by simp[E6]
theorem Dx (f t:L8) (l:Tb) (k:Nat):(E6 f t l k).length=l.length:=by
 unfold E6;rw[List.length_append,List.length_map,<- List.length_append,List.take_append_drop]
theorem Ot {f t:L8} {l:Tb} {k:Nat} {p:Pm} (h:l[k]? =some p):E6 f t l k=(l.take k).map (fun p=>(p.1,lG f t p.2))++p::l.drop (k+1):=by
 obtain⟨h1,h2⟩:=List.getElem?_eq_some_iff.1 h;unfold E6;rw[List.drop_eq_getElem_cons h1,h2]
theorem HT {f t:L8} {l:Tb} {k:Nat} {p:Pm} (h:l[k]? =some p):E6 f t l (k+1)=(l.take k).map (fun p=>(p.1,lG f t p.2))++(p.1,lG f t p.2)::l.drop (k+1):=by
 unfold E6;rw[bE h,List.map_append,List.append_assoc];rfl
theorem mn (A:Tb) (p:Pm) (B:Tb):bY (A++p::B)=(bY A++[.val (vL p.1)])++(aR p.2++bY B):=by
 rw[kM,bY];show _++((.val (vL p.1)::aR p.2)++bY B)=_
 simp
theorem OX {A B:Tb} {p:Pm} {k:Nat} (hk:A.length=k):((bY (A++p::B)).drop (k*8+1)).take 7=aR p.2:=by
 subst hk;have h1:(bY A++[(.val (vL p.1):AV)]).length=A.length*8+1:=by rw[List.length_append,d9];rfl
 rw[mn,<- h1,List.drop_left,show 7=(aR p.2).length from(oE p.2).symm,List.take_left]
theorem Pw {A B:Tb} {p:Pm} {y:Rx} {k:Nat} (hk:A.length=k):aB (bY (A++p::B)) (k*8+1) (aR y)=bY (A++(p.1,y)::B):=by
 subst hk;have h1:(bY A++[(.val (vL p.1):AV)]).length=A.length*8+1:=by rw[List.length_append,d9];rfl
 rw[mn,fK h1,show(aR y).length=(aR p.2).length by rw[oE,oE],List.drop_left,mn,List.append_assoc]
theorem OQ {A B:Tb} {p:Pm} {t:L8} {k:Nat} (hk:A.length=k):aB (bY (A++p::B)) (k*8) [.val (vL t)]=bY (A++(t,p.2)::B):=by
 subst hk;have h1:bY (A++p::B)=bY A++([.val (vL p.1)]++(aR p.2++bY B)):=by rw[mn,List.append_assoc]
 rw[h1,fK (d9 A),mn];rfl
theorem Ky {l:Tb} {k:Nat} {p q:Pm} (h:l[k]? =some p):l=l.take k++p::l.drop (k+1)/\l.set k q=l.take k++q::l.drop (k+1):=by
 obtain⟨h1,h2⟩:=List.getElem?_eq_some_iff.1 h
 constructor
 ·conv=>lhs;rw[<- List.take_append_drop k l,List.drop_eq_getElem_cons h1,h2]
 ·rw[List.set_eq_take_append_cons_drop,if_pos h1]
theorem Pp {l:Tb} (hl:oS l) {f t:L8} {p:Pm} (h:l[b5 l f]? =some p) (hp:p.1=f):E6 f t (l.set (b5 l f) (t,p.2)) l.length=l.map (Oz f t):=by
 unfold E6;rw[List.take_of_length_le (by simp),List.drop_of_length_le (by simp),List.append_nil];refine List.ext_getElem? fun i=>?_
 rw[List.getElem?_map,List.getElem?_map]
 by_cases hi:b5 l f=i
 ·subst hi
  have h1:=(List.getElem?_eq_some_iff.1 h).1;rw[List.getElem?_set_self h1,h]
  simp[Oz,hp]
 ·rw[List.getElem?_set_ne hi]
  cases hx:l[i]? with
  |none=>rfl
  |some q=>
   have:q.1≠f:=fun e=>hi (hl.nd _ _ _ _ h hx (hp.trans e.symm))
   simp[Oz,this]
theorem y3 (l:Tb) (f t:L8) (hs:mg l) (ht:t.length<=60) (hl:l.length<=500):aa Tryz.prog 25 [bX l,dL f,dL t] (FT (Lg l f t)):=by
 have cf:=oz l f hs (by omega);have ci:=jE t (by omega);have cx:=ia l t (by omega);have cc:=rz l (fun x hx=>ov x.2 (hs x hx).2.wd (by have:=(hs x hx).2.sz;omega)) (by omega);rcases zV l f with⟨h1,h2,_⟩| ⟨h1,h2,_⟩| ⟨h1,hf,h2,_⟩
 ·rw[h2]at cf
  rw[show Lg l f t=([],ie l) by unfold Lg;rw[if_neg h1]];generalize ie l=z at *;refine kV func25 ?_;refine kC (cf) ?_;refine Ru ?_;exact Tx
 ·have hnf:¬b5 l f<l.length:=fun hf=>by
   unfold K8 gH at h2;rw[if_pos h1,if_pos hf,if_neg (by omega)]at h2
   injection h2 with _ h3
   cases h3
  rw[h2]at cf;rw[show Lg l f t=([],4) by unfold Lg;rw[if_pos h1,if_neg hnf]];refine kV func25 ?_;refine kC (cf) ?_;exact aD
 rw[h2]at cf
 have hr:Lg l f t=if mh t=true then(if f≠t/\b5 l t<l.length then([],5)else(l.map (Oz f t),0))else([],1):=by
  unfold Lg;rw[if_pos h1,if_pos hf]
 rw[hr];cases hb:mh t with
 |false=>
  rw[hb]at ci;rw[if_neg (by simp)];refine kU func25 ?_;refine Px ?_;refine kC (ci) ?_;exact aD
 |true=>
 rw[hb]at ci;rw[if_pos rfl];have hok:=nW h1;obtain⟨p,hp,hpf⟩:=n6 hf;have hx:gH l t=if b5 l t<l.length then(b5 l t:Int)else -1:=rfl
 by_cases hbad:f≠t/\b5 l t<l.length
 ·rw[if_pos hbad]
  rw[hx,if_pos hbad.2]at cx;generalize b5 l f=u at *;generalize b5 l t=v at *;refine kU func25 ?_;refine Px ?_;refine kC (ci) ?_;refine kG ?_
  refine kO2 ?_
  refine aO rfl rfl rfl rfl rfl rfl rfl (f6 (a:=f) (b:=t) hbad.1) ?_
  refine kO3 ?_
  refine kC (cx) ?_;refine kT ?_;exact aD
 rw[if_neg hbad];have hcx:f≠t->gH l t= -1:=fun h=>by rw[hx,if_neg (fun h2=>hbad ⟨h,h2⟩)]
 have hall:=Pp hok (t:=t) hp hpf;obtain⟨m1,m2⟩:= @Ky l (b5 l f) p (t,p.2) hp;have hst:= @OQ (l.take (b5 l f)) (l.drop (b5 l f+1)) p t (b5 l f) (by rw[List.length_take];omega);rw[<- m1,<- m2]at hst
 have hsl:∀x∈l.set (b5 l f) (t,p.2),pA x.2:=fun x hx=>by
  rcases List.mem_or_eq_of_mem_set hx with hx|rfl
  ·exact(hs x hx).2
  ·exact(hs p (List.mem_of_getElem? hp)).2
 have hlen:(l.set (b5 l f) (t,p.2)).length=l.length:=List.length_set;have hpl:=d9 l;clear hx hr h2 m1 m2 hbad hok hpf;generalize l.map (Oz f t)=R at *;generalize l.set (b5 l f) (t,p.2)=l1 at *;generalize gH l t=xi at *;generalize b5 l f=u at *;refine kV func25 ?_;refine kC (cf) ?_;refine kN ?_;refine j4 ⟨[(0, .d (bX l)),(1, .d (dL f)),(2, .d (dL t)),(8, .d (dN .i64 u))],[]⟩ (fun s' hw=>?_) (fun R0 hR _=>?_)
 ·repeat refine bG (T:=TT) ?_
  refine bV hw rfl ?_;refine kO ?_;refine gK cc rfl rfl rfl rfl rfl trivial rfl rfl rfl rfl ?_;refine kG ?_
  refine kO3 ?_
  refine gn (i:=u) hf rfl rfl rfl rfl rfl rfl rfl rfl rfl ?_;refine kO ?_;refine xm (show u*8<_ by rw[hpl];omega) hst rfl rfl rfl rfl rfl rfl rfl rfl rfl rfl ?_;refine kW ?_;refine ay Nat (fun k=>k<=l.length) (fun k=>⟨[(1, .d (dL f)),(2, .d (dL t)),(10, .own 1003 l.length 8 43),(44, .d (dN .i64 l.length)),(45, .d (dN .i64 k))],[(1003,some (bY (E6 f t l1 k)))]⟩) (fun k=>l.length-k) 0 (Nat.zero_le _) (weak ⟨rfl,rfl,rfl,rfl,rfl,trivial⟩ ⟨congrArg (fun z=>some (bY z)) (IS f t l1).symm,trivial⟩ rfl) ?_;intro k hk
  by_cases hlt:k<l.length
  ·obtain⟨q,hq⟩:∃q,l1[k]? =some q:=⟨l1[k]'(by omega),List.getElem?_eq_getElem _⟩
   have hsq:=hsl q (List.mem_of_getElem? hq);have c:=xE f t q.2 hsq.lw hsq.wd;have hA0:((l1.take k).map (fun p:Pm=>(p.1,lG f t p.2))).length=k:=by rw[List.length_map,List.length_take];omega
   have hld:=OX (B:=l1.drop (k+1)) (p:=q) hA0;have hst2:=Pw (B:=l1.drop (k+1)) (p:=q) (y:=lG f t q.2) hA0;rw[<- Ot hq]at hld hst2;rw[<- HT hq]at hst2;have hrl:k*8+1+7<=(bY (E6 f t l1 k)).length:=by rw[d9,Dx];omega
   obtain⟨o1,na1,xs1,nb1,ys1,nm1,n1,cs1,hA1⟩:=bv q.2;obtain⟨o2,na2,xs2,nb2,ys2,nm2,n2,cs2,hA2⟩:=bv (lG f t q.2);rw[show dR q.2= .agg (ab o1 na1 xs1 nb1 ys1 nm1 n1 cs1) from congrArg DV.agg hA1,show dR (lG f t q.2)= .agg (ab o2 na2 xs2 nb2 ys2 nm2 n2 cs2) from congrArg DV.agg hA2]at c;rw[hA1]at hld;rw[hA2]at hst2;generalize E6 f t l1 k=lk at *;refine Qj ?_;refine gn (i:=k) hlt rfl rfl rfl rfl rfl rfl rfl rfl rfl ?_;refine kO ?_;refine xV (cs':=ab o1 na1 xs1 nb1 ys1 nm1 n1 cs1) hrl hld rfl rfl rfl rfl rfl rfl rfl rfl ?_
   refine kO2 ?_
   refine kC (c) ?_;refine gn (i:=k) hlt rfl rfl rfl rfl rfl rfl rfl rfl rfl ?_;refine kO ?_;refine iL (cs:=bY lk) hrl hst2 rfl rfl rfl rfl rfl rfl rfl rfl rfl rfl ?_;refine kW ?_;exact⟨k+1,hlt,by omega,weak ⟨rfl,rfl,rfl,rfl,ak (by omega) (by omega),trivial⟩ ⟨rfl,trivial⟩ rfl⟩
  ·obtain rfl:k=l.length:=by omega
   have hRl:R.length=l.length:=by rw[<- hall,Dx,hlen]
   rw[hall];refine kI ?_;refine Cz ?_;refine bV (a7 (q:=10) rfl rfl) rfl ?_;refine N0 ?_;show RV.tup _=RV.tup [bX R,_];rw[show bX R= .leaf (.sl l.length (bY R)) by unfold bX;rw[hRl]];rfl
 ·by_cases hft:f=t
  ·refine kW ?_
   refine kC (ci) ?_;refine kG ?_
   refine kO2 ?_
   refine aO rfl rfl rfl rfl rfl rfl rfl (gY (a:=f) (b:=t) hft) ?_;refine kW ?_;exact hR _ kw
  ·rw[hcx hft]at cx
   refine kW ?_;refine kC (ci) ?_;refine kG ?_
   refine kO2 ?_
   refine aO rfl rfl rfl rfl rfl rfl rfl (f6 (a:=f) (b:=t) hft) ?_
   refine kO3 ?_
   refine kQ (cx) ?_;exact hR _ kw
theorem Hv.here {l:Tb} (hl:oS l) {p:Pm} {x:Rat × Int} (hp:p∈l) (h:Hv l p.1 x):∃f:L8->Rat × Int,(∀n∈vl (jD p.2),Hv l n (f n))/\b7 (fun n=>some (f n)) (jD p.2)= .ok x:=by
 generalize hn:p.1=n at h;cases h with
 | @mk q _ f hq hf hx=>
  obtain⟨i,hi⟩:=List.getElem?_of_mem hp;obtain⟨j,hj⟩:=List.getElem?_of_mem hq;have:=hl.nd _ _ _ _ hi hj hn;subst this;rw[hi]at hj;cases hj;exact⟨f,hf,hx⟩
theorem Hv.mem {l:Tb} {n:L8} {x:Rat × Int} (h:Hv l n x):∃p∈l,p.1=n:=by
 cases h with
 |mk f hp _ _=>exact⟨_,hp,rfl⟩
theorem Cf {l:Tb} {p q:Pm} (hq:q∈l) (hn:q.1≠p.1):q∈dP l p:=by
 obtain⟨i,hi⟩:=List.getElem?_of_mem hq;unfold dP
 split
 ·rename_i hf
  obtain⟨r,h1,h2⟩:=n6 hf;refine List.mem_of_getElem? (i:=i) ?_;rw[List.getElem?_set_ne,hi];intro e;subst e;rw[h1]at hi;cases hi;exact hn h2
 ·exact List.mem_append_left _ hq
theorem Hv.set {l:Tb} (hf:Ju l) {p:Pm} {n:L8} {x:Rat × Int} (h:Hv l n x):n≠p.1-> ¬wR l p.1 n->Hv (dP l p) n x:=by
 induction h with
 | @mk q y f hq _ hx ih=>
  intro hn hd;refine .mk f (Cf hq hn) (fun m hm=>ih m hm (fun e=>?_) (fun hd'=>?_)) hx
  ·subst e
   exact hd (.base hq ((hf.ns hq _).1 hm))
  ·exact hd (.step hq ((hf.ns hq _).1 hm) hd')
theorem EH {l:Tb} {p:Pm} (h:b5 l p.1<l.length) (n:L8):(∃q∈dP l p,q.1=n)↔ ∃q∈l,q.1=n:=by
 constructor
 ·rintro⟨q,hq,rfl⟩
  unfold dP at hq;rw[if_pos h]at hq;rcases List.mem_or_eq_of_mem_set hq with hq|rfl
  ·exact⟨q,hq,rfl⟩
  ·exact jS.1 h
 ·rintro⟨q,hq,rfl⟩
  by_cases e:q.1=p.1
  ·refine⟨p,?_,e.symm⟩
   unfold dP;rw[if_pos h];exact List.mem_of_getElem? (i:=b5 l p.1) (by simp[h])
  ·exact⟨q,Cf hq e,rfl⟩
theorem oM {a:EL} (h:fb a):rI (a.map (·.1)):=by
 refine List.pairwise_iff_getElem.2 fun i j hi hj hij=>?_
 simp only[List.length_map]at hi hj
 simp only[List.getElem_map]
 exact h i j _ _ hij (List.getElem?_eq_getElem hi) (List.getElem?_eq_getElem hj)
theorem Tu {a b:EL} (ha:fb a) (hb:fb b) (h:∀n,(∃v,(n,v)∈a)↔ ∃v,(n,v)∈b):a.map (·.1)=b.map (·.1):=by
 refine nh (oM ha) (oM hb) fun n=>?_
 have key:∀c:EL,n∈c.map (·.1)↔ ∃v,(n,v)∈c:=fun c=>by
  constructor
  ·intro hn
   obtain⟨x,hx,rfl⟩:=List.mem_map.1 hn;exact⟨x.2,hx⟩
  ·rintro⟨v,hv⟩
   exact List.mem_map.2 ⟨_,hv,rfl⟩
 rw[key,key,h n]
theorem Ou {l m:Tb} {p:Pm} (hl:oS l->Ju l) (hm:oS m->Ju m) (hp:b5 l p.1<l.length) (e:m=dP l p) {env env':EL} (h:wQ l= .ok env) (h':wQ m= .ok env'):env.map (·.1)=env'.map (·.1)/\ ∀(n:L8) (x y:Rat × Int),n≠p.1-> ¬wR l p.1 n->(n,x)∈env->(n,y)∈env'->x=y:=by
 obtain⟨h1,_,h3,h4,h5,_⟩:=AO hl h;obtain⟨k1,_,k3,k4,k5,_⟩:=AO hm h';subst e;refine⟨Tu h3 k3 fun n=>by rw[h4,k4,EH hp],fun n x y hn hd hx hy=>?_⟩;exact((h5 _ hx).set (hl h1) hn hd).fn k1 (k5 _ hy)
theorem JM {l:Tb} {n:L8} {out:List L8} (h:t7 l n out []) {d:List L8} (hd:rI d) (hm:∀x,x∈d↔wR l n x):(out.mergeSort fun x y=>decide (x<=y))=d:=
 nh (Bb h.nd) hd fun x=>by rw[H3,h.full,hm]
theorem Oe {l:EL} (hs:fb l) {n:L8} {q:Nat} {x:L8 × (Rat × Int)} (hq:pG l n<=q) (h:l[q]? =some x):Op.bytesLess x.1 n=false:=by
 have hl:=(List.getElem?_eq_some_iff.1 h).1;have hx:l[pG l n]? =some (l[pG l n]'(by omega)):=List.getElem?_eq_getElem _;have h1:=If hx
 by_cases e:pG l n=q
 ·subst e;rw[hx]at h;cases h;exact h1
 ·have h2:=hs _ q _ _ (by omega) hx h
  cases h3:Op.bytesLess x.1 n
  ·rfl
  ·rw[eE h2 h3]at h1;cases h1
theorem RY (l:EL) (hs:fb l) (hl:l.length<=1000000) (s:List UInt8) (hn:∀x∈l,x.1≠s):aa Tryz.prog 75 [gt l,dL s] (.tup [dN .i64 (pG l s:Nat),dB false]):=by
 have hp1:=uX l s;have hp2:∀(q:Nat) x,q<pG l s->l[q]? =some x->Op.bytesLess x.1 s=true:=fun q x=>It
 have hp3:∀(q:Nat) x,pG l s<=q->l[q]? =some x->Op.bytesLess x.1 s=false:=fun q x=>Oe hs
 generalize pG l s=p at *;refine kV func75 ?_
 refine ay (Nat × Nat) (fun x=>x.1<=p/\p<=x.2/\x.2<=l.length) (fun x=>⟨[(0, .d (gt l)),(1, .d (dL s)),(4, .d (dN .i64 0)),(5, .d (dB false)),(6, .d (dN .i64 l.length)),(7, .d (dN .i64 x.1)),(8, .d (dN .i64 x.2))],[]⟩) (fun x=>x.2-x.1) (0,l.length) ⟨Nat.zero_le _,hp1,Nat.le_refl _⟩
  kw ?_
 rintro⟨i,j⟩ ⟨h1,h2,h3⟩;dsimp only at h1 h2 h3 ⊢;refine kI ?_
 refine kO2 ?_
 by_cases hij:i<j
 ·exact EI
 ·have e1:i=p:=by omega
  have e2:j=p:=by omega
  subst e2;subst e1;refine kE ?_;refine jw ?_;refine kI ?_
  refine kO3 ?_
  by_cases hil:i<l.length
  ·have hx:l[i]? =some l[i]:=by simp[hil]
   have e:=hn _ (List.mem_of_getElem? hx);refine kT ?_;refine Bj ?_
   refine kO2 ?_
   exact Mg
  ·refine kE ?_
   exact aD
end Go.Proofs.YtmkggcjajcdlcaaGreatDoor
