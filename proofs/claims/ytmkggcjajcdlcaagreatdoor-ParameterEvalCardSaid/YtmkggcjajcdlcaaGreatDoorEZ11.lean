/- Parts of a proof: contracts of the functions that the laws reach. -/
import Derived.Test.YtmkggcjajcdlcaaGreatDoorEZ10
set_option maxHeartbeats 100000000
set_option linter.all false
open Go.Proofs.Tryz
namespace Go.Proofs.YtmkggcjajcdlcaaGreatDoor
open Go.RowKit
def wQ (p:Pm):List AV:= .val (vL p.1)::aR p.2
def bR:Tb->List AV
 | []=>[]
 |p::r=>wQ p++bR r
def sW (p:Pm):DV:= .agg (wQ p)
def bF (l:Tb):DV:= .leaf (.sl l.length (bR l))
def a6 (n:L8) (o:Int) (na:Bool) (xs:List Nat) (nb:Bool) (ys:List Nat) (nm:List UInt8) (k:Nat) (cs:List AV):List AV:= .val (vL n)::ab o na xs nb ys nm k cs
theorem aM (p:Pm):∃o na xs nb ys nm k cs,aR p.2=ab o na xs nb ys nm k cs/\wQ p=a6 p.1 o na xs nb ys nm k cs:=by
 obtain⟨o1,na1,xs1,nb1,ys1,nm1,n1,cs1,hA⟩:=bz p.2;exact⟨o1,na1,xs1,nb1,ys1,nm1,n1,cs1,hA,congrArg (AV.val (vL p.1):: ·) hA⟩
theorem fO (p:Pm):(wQ p).length=8:=by
 show(aR p.2).length+1=8;rw[pB]
theorem dO:∀l:Tb,(bR l).length=l.length*8
 | []=>rfl
 |p::r=>by rw[bR,List.length_append,fO,dO r,List.length_cons];omega
theorem b6:∀(l:Tb) (i:Nat) (p:Pm),l[i]? =some p-> ∀(j:Nat) (a:AV),(wQ p)[j]? =some a->(bR l)[i*8+j]? =some a
 | [],i,p,h,_,_,_=>by simp at h
 |q::l,0,p,h,j,a,ha=>by
  simp at h
  subst h
  simp only[bR,Nat.zero_mul,Nat.zero_add]
  exact Kk
 |q::l,i+1,p,h,j,a,ha=>by
  simp only[bR]
  rw[List.getElem?_append_right (by rw[fO];omega),fO,show(i+1)*8+j-8=i*8+j by omega];exact b6 l i p (by simpa using h) j a ha
theorem bi {α:Type} {o:List α} {k:Nat} {n:α} (hk:o[k]? =some n):o.take (k+1)=o.take k++[n]:=by
 obtain⟨h,e⟩:=List.getElem?_eq_some_iff.1 hk;rw[List.take_succ_eq_append_getElem h,e]
structure pe (x:Rx):Prop where
 wd:j0 x
 lt:mE x=true
 sz:gL x<=120
theorem pe.lm {x:Rx} (h:pe x):Bp x:=Bp.of_lt x h.lt
def jP (l:Tb):Prop:=∀p∈l,p.1.length<=60/\pe p.2
def gM (l:List L8):DV:= .leaf (.sl l.length (au l))
theorem gi (l:Tb) (n:L8) (hl:l.length<=1000000):aa Tryz.prog 29 [bF l,dL n] (.one (dN .i64 (gt l n))):=by
 have hf:=pm l n;refine kV func29 ?_
 refine aq Nat (fun i=>i<=bX l n) (fun i=>⟨[(0, .d (bF l)),(1, .d (dL n)),(5, .d (dN .i64 i))],[]⟩) (fun i=>l.length-i) 0 (Nat.zero_le _)
  kw ?_
 intro i hi;refine kI ?_
 refine kO3 ?_
 by_cases hlt:i<l.length
 ·refine kT ?_
  have hx:l[i]? =some l[i]:=by simp[hlt]
  obtain⟨o1,na1,xs1,nb1,ys1,nm1,n1,cs1,hA,hB⟩:=aM l[i];have hat:∀(j:Nat) (a:AV),(a6 l[i].1 o1 na1 xs1 nb1 ys1 nm1 n1 cs1)[j]? =some a->(bR l)[i*8+j]? =some a:=fun j a h=>b6 l i l[i] hx j a (by rw[hB];exact h)
  refine kW ?_;refine bB (i:=i) (cs':=a6 l[i].1 o1 na1 xs1 nb1 ys1 nm1 n1 cs1) hlt hat (Nat.zero_lt_succ 7) rfl rfl rfl rfl rfl rfl rfl rfl ?_
  refine kO3 ?_
  by_cases e:l[i].1=n
  ·refine aC rfl rfl rfl rfl rfl rfl rfl (bn (a:=l[i].1) (b:=n) e) ?_
   refine iT ?_;have h1:bX l n=i:=Nat.le_antisymm (Nat.le_of_not_lt fun h=>fX h hx e) hi;exact congrArg (fun z=>RV.one (dN .i64 z)) (show(i:Int)=gt l n by unfold gt;rw[h1,if_pos hlt])
  ·refine aC rfl rfl rfl rfl rfl rfl rfl (bH (a:=l[i].1) (b:=n) e) ?_
   refine kW ?_;refine⟨i+1,?_,by omega,weak ⟨rfl,rfl,ae (by omega) (by omega),trivial⟩ trivial rfl⟩;rcases Nat.lt_or_ge i (bX l n)with h|h
   ·exact h
   ·obtain⟨p,h1,h2⟩:=nh (l:=l) (n:=n) (by omega)
    rw[show bX l n=i by omega,hx]at h1;cases h1;exact absurd h2 e
 ·refine kE ?_
  refine iT ?_;exact congrArg (fun z=>RV.one (dN .i64 z)) (show(-1:Int)=gt l n by unfold gt;rw[if_neg (by omega)])
theorem mN (l:List L8) (n:L8) (hl:l.length<=1000000):aa Tryz.prog 56 [gM l,dL n] (.one (dB (decide (n∈l)))):=by
 refine kV func56 ?_;refine aq Nat (fun i=>i<=l.length/\n ∉ l.take i) (fun i=>⟨[(0, .d (gM l)),(1, .d (dL n)),(5, .d (dN .i64 i))],[]⟩) (fun i=>l.length-i) 0 ⟨Nat.zero_le _,by simp⟩ kw ?_;rintro i ⟨hi,hn⟩;refine kI ?_
 refine kO3 ?_
 by_cases hlt:i<l.length
 ·refine kT ?_
  obtain⟨x,hx⟩:∃x,l[i]? =some x:=⟨l[i],by simp[hlt]⟩;refine Ni ?_
  refine kO2 ?_
  by_cases e:x=n
  ·refine aC rfl rfl rfl rfl rfl rfl rfl (bn (a:=x) (b:=n) e) ?_
   refine iT ?_;exact congrArg (fun b=>RV.one (dB b)) (decide_eq_true (show n∈l by rw[<- e];exact List.mem_of_getElem? hx)).symm
  ·refine aC rfl rfl rfl rfl rfl rfl rfl (bH (a:=x) (b:=n) e) ?_
   refine kW ?_;refine⟨i+1,⟨hlt,?_⟩,by omega,weak ⟨rfl,rfl,ae (by omega) (by omega),trivial⟩ trivial rfl⟩;rw[bi hx,List.mem_append,not_or];exact⟨hn,fun h=>e (List.mem_singleton.1 h).symm⟩
 ·refine kE ?_
  refine iT ?_;rw[List.take_of_length_le (by omega)]at hn;exact congrArg (fun b=>RV.one (dB b)) (decide_eq_false hn).symm
theorem Jf (l m:List L8) (hl:l.length<=1000000) (hm:m.length<=1000000):aa Tryz.prog 57 [gM l,gM m] (.one (dB (m.all fun n=>decide (n∈l)))):=by
 refine kV func57 ?_;refine aq Nat (fun i=>i<=m.length/\ ∀n∈m.take i,n∈l) (fun i=>⟨[(0, .d (gM l)),(1, .d (gM m)),(5, .d (dN .i64 i))],[]⟩) (fun i=>m.length-i) 0 ⟨Nat.zero_le _,by simp⟩ kw ?_;rintro i ⟨hi,hn⟩;refine kI ?_
 refine kO3 ?_
 by_cases hlt:i<m.length
 ·refine kT ?_
  obtain⟨x,hx⟩:∃x,m[i]? =some x:=⟨m[i],by simp[hlt]⟩;refine Ni ?_;refine kO ?_;have c:=mN l x hl
  by_cases e:x∈l
  ·rw[decide_eq_true e]at c
   refine kQ (c) ?_;refine⟨i+1,⟨hlt,?_⟩,by omega,weak ⟨rfl,rfl,ae (by omega) (by omega),trivial⟩ trivial rfl⟩;rw[bi hx];intro n hn';rcases List.mem_append.1 hn' with h|h
   ·exact hn n h
   ·rw[List.mem_singleton.1 h];exact e
  ·rw[decide_eq_false e]at c
   refine kC (c) ?_;refine iT ?_;refine congrArg (fun b=>RV.one (dB b)) (Bool.eq_false_iff.2 fun h=>e ?_).symm;have:=List.all_eq_true.1 h x (List.mem_of_getElem? hx)
   simpa using this
 ·refine kE ?_
  refine iT ?_;rw[List.take_of_length_le (by omega)]at hn;exact congrArg (fun b=>RV.one (dB b)) (List.all_eq_true.2 fun x hx=>decide_eq_true (hn x hx)).symm
theorem ID {l:Tb} {i:Nat} {p:Pm} (h:l[i]? =some p):A7 l i (l.drop i)=if n6 p.1=true then(if qi p.2=0 then(if bX l p.1<i then 5 else A7 l (i+1) (l.drop (i+1)))else qi p.2)else 1:=by
 obtain⟨hi,e⟩:=List.getElem?_eq_some_iff.1 h;rw[List.drop_eq_getElem_cons hi,e,A7]
theorem eJ (l:Tb) (hs:jP l) (hl:l.length<=1000000):aa Tryz.prog 18 [bF l] (.one (dN .i64 (gC l))):=by
 by_cases h200:200<l.length
 ·refine kU func18 ?_
  refine D1 ?_;refine iT ?_;exact NS
 have hv:gC l=A7 l 0 (l.drop 0):=by unfold gC;rw[if_neg h200];rfl
 rw[hv];clear hv;refine kV func18 ?_;refine zy ?_;refine kW ?_;refine aq Nat (fun i=>i<=l.length/\A7 l 0 (l.drop 0)=A7 l i (l.drop i)) (fun i=>⟨[(0, .d (bF l)),(3, .d (dN .i64 i))],[]⟩) (fun i=>l.length-i) 0 ⟨Nat.zero_le _,rfl⟩ kw ?_;rintro i ⟨hi,hv⟩;refine kI ?_
 refine kO3 ?_
 by_cases hlt:i<l.length
 ·refine kT ?_
  obtain⟨p,hx⟩:∃p,l[i]? =some p:=⟨l[i],by simp[hlt]⟩;rw[ID hx]at hv;have hp:=List.mem_of_getElem? hx;obtain⟨hn,hsx⟩:=hs p hp;obtain⟨o1,na1,xs1,nb1,ys1,nm1,n1,cs1,hA,hB⟩:=aM p;have hat:∀(j:Nat) (a:AV),(a6 p.1 o1 na1 xs1 nb1 ys1 nm1 n1 cs1)[j]? =some a->(bR l)[i*8+j]? =some a:=fun j a h=>b6 l i p hx j a (by rw[hB];exact h)
  have c1:=mr p.1 (by omega);have c2:=nI p.2 hsx.wd hsx.lm (by have:=hsx.sz;omega);rw[show dR p.2= .agg (ab o1 na1 xs1 nb1 ys1 nm1 n1 cs1) from congrArg DV.agg hA]at c2;have c3:=gi l p.1 hl;have hf:=iC.2 ⟨p,hp,rfl⟩;rw[show gt l p.1=(bX l p.1:Nat) by unfold gt;rw[if_pos hf]]at c3;refine kW ?_;refine sO ?_
  refine kO2 ?_
  cases hb:n6 p.1
  ·rw[hb]at c1 hv
   refine kC (c1) ?_;refine iT ?_;exact B6
  ·rw[hb,if_pos rfl]at hv
   rw[hb]at c1;refine kQ (c1) ?_;refine sO ?_
   refine kO2 ?_
   refine kC (c2) ?_;refine iX ?_
   by_cases h0:qi p.2=0
   ·rw[if_pos h0]at hv
    refine Jq ?_;refine kW ?_;refine sO ?_
    refine kO2 ?_
    refine kC (c3) ?_;refine kO ?_
    by_cases h5:bX l p.1<i
    ·rw[if_pos h5]at hv
     refine kT ?_;refine iT ?_;exact B6
    ·rw[if_neg h5]at hv
     refine kY ?_;exact⟨i+1,⟨hlt,hv⟩,by omega,weak ⟨rfl,ae (by omega) (by omega),trivial⟩ trivial rfl⟩
   ·rw[if_neg h0]at hv
    refine xl ?_;refine iT ?_;exact B6
 ·exact M2
theorem Mg {l:Tb} {n:L8}:gt l n<0↔n ∉ l.map (·.1):=by
 unfold gt;have h:=iC (l:=l) (n:=n)
 split
 ·rename_i h1
  obtain⟨p,hp,e⟩:=h.1 h1;exact⟨fun h=>by omega,fun h=>absurd (List.mem_map.2 ⟨p,hp,e⟩) h⟩
 ·rename_i h1
  refine⟨fun _ hn=>h1 (h.2 ?_),fun _=>by decide⟩;obtain⟨p,hp,e⟩:=List.mem_map.1 hn;exact⟨p,hp,e⟩
theorem jP.ns {l:Tb} (hs:jP l) {p:Pm} (hp:p∈l):(ej p.2).length<=120:=Nat.le_trans (ru _) (hs p hp).2.sz
theorem ol {l:Tb} {out:List L8} {i:Nat} {p:Pm} (h:l[i]? =some p) {nx:L8} (hn:(l.take i).foldl (ij out) []=nx):(l.take (i+1)).foldl (ij out) []=ij out nx p:=by rw[LW h,hn]
theorem gP (l:Tb) (hs:jP l) (hl:l.length<=1000):aa Tryz.prog 16 [bF l] (.tup [gM (bf l).1,dN .i64 (bf l).2]):=by
 have cv:=eJ l hs (by omega)
 by_cases hv:gC l=0
 case neg=>
  rw[show bf l=([],gC l) by unfold bf;rw[if_neg hv]];generalize gC l=z at *;refine kU func16 ?_;exact Et
 have ho:=lz hv;rw[hv]at cv;have hord:bf l=if l.all (fun p=>pQ p.2 (l.map (·.1)))=true then((match fk l l.length []with|some o=>(o,0)|none=>([],9)):List L8 × Int)else([],4):=by unfold bf;rw[if_pos hv];rfl
 obtain⟨RS,hRS⟩:∃RS,bf l=RS:=⟨_,rfl⟩;rw[hRS]at hord ⊢;clear hRS hv;refine kU func16 ?_;refine uQ ?_;refine aq Nat (fun i=>i<=l.length/\ ∀p∈l.take i,pQ p.2 (l.map (·.1))=true) (fun i=>⟨[(0, .d (bF l)),(5, .d (dN .i64 i))],[]⟩) (fun i=>l.length-i) 0 ⟨Nat.zero_le _,by simp⟩ kw ?_;rintro i ⟨hi,hall⟩;refine kI ?_
 refine kO3 ?_
 by_cases hlt:i<l.length
 ·refine kT ?_
  obtain⟨p,hx⟩:∃p,l[i]? =some p:=⟨l[i],by simp[hlt]⟩;have hp:=List.mem_of_getElem? hx;have hsx:=(hs p hp).2;have hnl:=hs.ns hp;have cn:=fN p.2 hsx.wd (by have:=hsx.sz;omega);obtain⟨o1,na1,xs1,nb1,ys1,nm1,n1,cs1,hA,hB⟩:=aM p;have hat:∀(j:Nat) (a:AV),(a6 p.1 o1 na1 xs1 nb1 ys1 nm1 n1 cs1)[j]? =some a->(bR l)[i*8+j]? =some a:=fun j a h=>b6 l i p hx j a (by rw[hB];exact h)
  rw[show dR p.2= .agg (ab o1 na1 xs1 nb1 ys1 nm1 n1 cs1) from congrArg DV.agg hA]at cn
  have hstep:(∀n∈ej p.2,n∈l.map (·.1))-> ∀q∈l.take (i+1),pQ q.2 (l.map (·.1))=true:=fun h q hq=>by
   rw[bi hx]at hq;rcases List.mem_append.1 hq with hq|hq
   ·exact hall q hq
   ·rw[List.mem_singleton.1 hq];exact rB.2 h
  have hbad:(∃n∈ej p.2,n ∉ l.map (·.1))->RS=([],4):=fun⟨n,h1,h2⟩=>by
   rw[hord,if_neg];intro h;exact h2 (rB.1 (List.all_eq_true.1 h p hp) n h1)
  generalize ej p.2=ns at *;refine kW ?_;refine sO ?_;refine Kt ?_;refine kW ?_;refine aq Nat (fun k=>k<=ns.length/\ ∀n∈ns.take k,n∈l.map (·.1)) (fun k=>⟨[(0, .d (bF l)),(5, .d (dN .i64 i)),(6, .d (gM ns)),(7, .d (dN .i64 k))],[]⟩) (fun k=>ns.length-k) 0 ⟨Nat.zero_le _,by simp⟩ kw ?_;rintro k ⟨hk,hkn⟩;refine kI ?_
  refine kO3 ?_
  by_cases hkl:k<ns.length
  ·refine kT ?_
   obtain⟨x,hxx⟩:∃x,ns[k]? =some x:=⟨ns[k],by simp[hkl]⟩;have cf:=gi l x (by omega);have hfn:=Mg (l:=l) (n:=x);generalize gt l x=f at *;refine kW ?_;refine bB (i:=k) (cs':=[.val (vL x)]) hkl (d4 hxx) (Nat.zero_lt_succ 0) rfl rfl rfl rfl rfl rfl rfl rfl ?_;refine kO ?_;refine kC (cf) ?_
   by_cases hneg:f<0
   ·refine kB true ?_ ?_
    ·exact decide_eq_true hneg
    refine iT ?_;rw[hbad ⟨x,List.mem_of_getElem? hxx,hfn.1 hneg⟩];rfl
   ·refine kB false ?_ ?_
    ·exact decide_eq_false hneg
    refine kW ?_;refine⟨k+1,⟨hkl,?_⟩,by omega,weak ⟨rfl,rfl,rfl,ae (by omega) (by omega),trivial⟩ trivial rfl⟩;rw[bi hxx];intro n hn;rcases List.mem_append.1 hn with h|h
    ·exact hkn n h
    ·rw[List.mem_singleton.1 h];exact Classical.byContradiction fun h=>hneg (hfn.2 h)
  ·refine kE ?_
   refine kW ?_;rw[List.take_of_length_le (by omega)]at hkn;exact⟨i+1,⟨hlt,hstep hkn⟩,by omega,weak ⟨rfl,ae (by omega) (by omega),trivial⟩ trivial rfl⟩
 ·refine kE ?_
  rw[List.take_of_length_le (by omega)]at hall;have hord:RS=(match fk l l.length []with|some o=>(o,0)|none=>([],9)):=by rw[hord,if_pos (List.all_eq_true.2 hall)]
  clear hall hlt hi cv;refine kW ?_;refine aq (List L8) (fun o=>o.length<=l.length/\fk l (l.length-o.length) o=fk l l.length []) (fun o=>⟨[(8,mg 5001 o),(0, .d (bF l))],[(5001,nU o)]⟩) (fun o=>l.length-o.length) [] ⟨Nat.zero_le _,rfl⟩ kw ?_;rintro o ⟨hol,hog⟩;have ho1:o.length<=1000000:=by omega
  by_cases hlo:o.length<l.length
  case neg=>
   have hend:RS=(o,0):=by rw[hord,<- hog,show l.length-o.length=0 by omega];rfl
   cases o with
   |nil=>
    refine NU ?_;refine iT ?_;rw[hend];rfl
   |cons a r=>
    refine kI ?_
    refine kO4 ?_
    refine kE ?_;refine jR ?_;refine bM (T:=TT) ?_;refine bW (a7 (q:=8) rfl rfl) rfl ?_;refine iT ?_;rw[hend];rfl
  obtain⟨kk,hkk⟩:∃kk,l.length-o.length=kk+1:=⟨l.length-o.length-1,by omega⟩;rw[hkk,fk]at hog
  have hcont:∀(k:Nat) (p:Pm),l[k]? =some p->pd l o=p.1->fk l (l.length-(o++[p.1]).length) (o++[p.1])=fk l l.length []:=fun k p hk hn=>by
   rw[hn,if_neg (ho.ne (List.mem_of_getElem? hk))]at hog;exact O0
  have hcyc:pd l o=[]->RS=([],9):=fun h=>by rw[if_pos h]at hog;rw[hord,<- hog]
  have hbest0:tq l (-1) ((l.take 0).foldl (ij o) []):= .inl ⟨rfl,by simp⟩;cases o with
  |nil=>
   refine NH ?_;refine aq (Nat × Int) (fun x=>x.1<=l.length/\tq l x.2 ((l.take x.1).foldl (ij ([])) [])) (fun x=>⟨[(8, .nil),(0, .d (bF l)),(9, .d (dN .i64 x.2)),(10, .d (dN .i64 x.1))],[]⟩) (fun x=>l.length-x.1) (0,-1) ⟨Nat.zero_le _,hbest0⟩ kw ?_;rintro⟨i,b⟩ ⟨hi,hbst⟩;dsimp only at hi hbst ⊢;obtain⟨nx,hnx⟩:∃nx,(l.take i).foldl (ij ([])) []=nx:=⟨_,rfl⟩;rw[hnx]at hbst;refine kI ?_
   refine kO3 ?_
   by_cases hlt:i<l.length
   ·refine kT ?_
    obtain⟨p,hx⟩:∃p,l[i]? =some p:=⟨l[i],by simp[hlt]⟩;have hnext:=ol hx hnx;have hp:=List.mem_of_getElem? hx;have hsx:=(hs p hp).2;have hnl:=hs.ns hp;have cn:=fN p.2 hsx.wd (by have:=hsx.sz;omega);obtain⟨o1,na1,xs1,nb1,ys1,nm1,n1,cs1,hA,hB⟩:=aM p;have hat:∀(j:Nat) (a:AV),(a6 p.1 o1 na1 xs1 nb1 ys1 nm1 n1 cs1)[j]? =some a->(bR l)[i*8+j]? =some a:=fun j a h=>b6 l i p hx j a (by rw[hB];exact h)
    rw[show dR p.2= .agg (ab o1 na1 xs1 nb1 ys1 nm1 n1 cs1) from congrArg DV.agg hA]at cn;have hcd:pU ([]) p=(!(decide (p.1∈([]:List L8))) && (ej p.2).all fun n=>decide (n∈([]:List L8))):=rfl;generalize ej p.2=ns at *;have c1:=mN ([]) p.1 ho1;have c2:=Jf ([]) ns ho1 (by omega)
    have keep:pU ([]) p=false->tq l b ((l.take (i+1)).foldl (ij ([])) []):=fun h=>by
     exact Pe
    have take:pU ([]) p=true->(nx=[]∨Op.bytesLess p.1 nx=true)->tq l (i:Nat) ((l.take (i+1)).foldl (ij ([])) []):=fun h1 h2=>by
     rw[hnext,ij,if_pos ⟨h1,h2⟩];exact .inr ⟨i,p,rfl,hx,rfl⟩
    have hall:decide (p.1∈([]:List L8))=true∨(decide (p.1∈([]:List L8))=false/\(ns.all fun n=>decide (n∈([]:List L8)))=false) ∨
     (decide (p.1∈([]:List L8))=false/\(ns.all fun n=>decide (n∈([]:List L8)))=true/\b= -1/\nx=[]) ∨
     (∃(k:Nat) (q:Pm),decide (p.1∈([]:List L8))=false/\(ns.all fun n=>decide (n∈([]:List L8)))=true/\b=k/\l[k]? =some q/\q.1=nx/\Op.bytesLess p.1 q.1=false) ∨
     (∃(k:Nat) (q:Pm),decide (p.1∈([]:List L8))=false/\(ns.all fun n=>decide (n∈([]:List L8)))=true/\b=k/\l[k]? =some q/\q.1=nx/\Op.bytesLess p.1 q.1=true):=by
     rcases Bool.eq_false_or_eq_true (decide (p.1∈([]:List L8)))with h|h
     ·exact .inl h
     rcases Bool.eq_false_or_eq_true (ns.all fun n=>decide (n∈([]:List L8)))with h2|h2
     ·exact OG
     ·exact .inr (.inl ⟨h,h2⟩)
    rcases hall with hb1| ⟨hb1,hb2⟩| ⟨hb1,hb2,rfl,hnx0⟩| ⟨k,q,hb1,hb2,rfl,hk,hq,hls⟩| ⟨k,q,hb1,hb2,rfl,hk,hq,hls⟩
    ·clear c2 take
     rw[hb1]at c1;refine kW ?_;refine sO ?_
     refine kO2 ?_
     refine kQ (c1) ?_;exact⟨(i+1,b),⟨hlt,keep (by rw[hcd,hb1];rfl)⟩,by dsimp only;omega,weak ⟨rfl,rfl,rfl,ae (by dsimp only;omega) (by omega),trivial⟩ trivial rfl⟩
    ·clear take
     rw[hb2]at c2;rw[hb1]at c1;refine EC ?_;refine kW ?_;exact⟨(i+1,b),⟨hlt,keep (by rw[hcd,hb1,hb2];rfl)⟩,by dsimp only;omega,weak ⟨rfl,rfl,rfl,ae (by dsimp only;omega) (by omega),trivial⟩ trivial rfl⟩
    ·clear keep
     have hcdt:pU ([]) p=true:=by rw[hcd,hb1,hb2];rfl
     rw[hb2]at c2;rw[hb1]at c1;refine EC ?_;refine kW ?_;exact⟨(i+1,(i:Nat)),⟨hlt,take hcdt (.inl hnx0)⟩,by dsimp only;omega,weak ⟨rfl,rfl,rfl,ae (by dsimp only;omega) (by omega),trivial⟩ trivial rfl⟩
    ·clear take
     have hkl:=(List.getElem?_eq_some_iff.1 hk).1;obtain⟨o2,na2,xs2,nb2,ys2,nm2,n2,cs2,hA2,hB2⟩:=aM q;have hat2:∀(j:Nat) (a:AV),(a6 q.1 o2 na2 xs2 nb2 ys2 nm2 n2 cs2)[j]? =some a->(bR l)[k*8+j]? =some a:=fun j a h=>b6 l k q hk j a (by rw[hB2];exact h)
     rw[hb2]at c2;rw[hb1]at c1;refine EC ?_;refine EF ?_;refine Pn ?_;refine⟨(i+1,(k:Nat)),⟨hlt,?_⟩,by dsimp only;omega,weak ⟨rfl,rfl,rfl,ae (by dsimp only;omega) (by omega),trivial⟩ trivial rfl⟩;exact OS
    ·clear keep
     have hcdt:pU ([]) p=true:=by rw[hcd,hb1,hb2];rfl
     have hkl:=(List.getElem?_eq_some_iff.1 hk).1;obtain⟨o2,na2,xs2,nb2,ys2,nm2,n2,cs2,hA2,hB2⟩:=aM q;have hat2:∀(j:Nat) (a:AV),(a6 q.1 o2 na2 xs2 nb2 ys2 nm2 n2 cs2)[j]? =some a->(bR l)[k*8+j]? =some a:=fun j a h=>b6 l k q hk j a (by rw[hB2];exact h)
     rw[hb2]at c2;rw[hb1]at c1;refine EC ?_;refine EF ?_;refine M8 ?_;exact⟨(i+1,(i:Nat)),⟨hlt,take hcdt (.inr (by rw[<- hq];exact hls))⟩,by dsimp only;omega,weak ⟨rfl,rfl,rfl,ae (by dsimp only;omega) (by omega),trivial⟩ trivial rfl⟩
   ·refine kE ?_
    rw[List.take_of_length_le (by omega)]at hnx;have hnN:pd l ([])=nx:=hnx;refine kW ?_;rcases hbst with⟨rfl,hnx0⟩| ⟨k,q,rfl,hk,hq⟩
    ·refine iT ?_
     rw[hcyc (hnN.trans hnx0)];rfl
    ·have hkl:=(List.getElem?_eq_some_iff.1 hk).1
     obtain⟨o2,na2,xs2,nb2,ys2,nm2,n2,cs2,hA2,hB2⟩:=aM q;have hat2:∀(j:Nat) (a:AV),(a6 q.1 o2 na2 xs2 nb2 ys2 nm2 n2 cs2)[j]? =some a->(bR l)[k*8+j]? =some a:=fun j a h=>b6 l k q hk j a (by rw[hB2];exact h)
     refine zy ?_;refine kW ?_;refine PA ?_
     refine kO3 ?_
     refine cY 5002 (m1:=([]:List L8).length) (m2:=1) ac (by decide) (Nat.le_trans (Nat.mul_le_mul_right _ (show([]:List L8).length+1<=1000001 by omega)) (by decide)) rfl rfl rfl rfl rfl rfl rfl rfl rfl rfl rfl (.nil rfl rfl) rfl rfl rfl ?_;refine kW ?_;refine⟨([])++[q.1],⟨by simp only[List.length_append,List.length_cons,List.length_nil]at hlo ⊢;omega,hcont k q hk (hnN.trans hq.symm)⟩,by simp only[List.length_append,List.length_cons,List.length_nil]at hlo ⊢;omega,Eq.mpr (congrArg (bu _) (jY [(0, .d (bF l))] [] 8 5001 ([]) q.1 [])) ?_⟩;exact bu.trans (b:=⟨[(8, .own 5002 (([]:List L8).length+1) 1 9),(0, .d (bF l))],[(5002,some ((au ([])).take (([]:List L8).length*1)++[.val (vL q.1)]))]⟩) kw ((aD (q:=8) (j:=5002) (j':=5001) rfl rfl rfl rfl).trans kw)
  |cons a r=>
   refine vV ?_;refine kW ?_;refine aq (Nat × Int) (fun x=>x.1<=l.length/\tq l x.2 ((l.take x.1).foldl (ij (List.cons a r)) [])) (fun x=>⟨[(8, .own 5001 (List.cons a r).length 1 9),(0, .d (bF l)),(9, .d (dN .i64 x.2)),(10, .d (dN .i64 x.1))],[(5001,some (au (List.cons a r)))]⟩) (fun x=>l.length-x.1) (0,-1) ⟨Nat.zero_le _,hbest0⟩ kw ?_;rintro⟨i,b⟩ ⟨hi,hbst⟩;dsimp only at hi hbst ⊢;obtain⟨nx,hnx⟩:∃nx,(l.take i).foldl (ij (List.cons a r)) []=nx:=⟨_,rfl⟩;rw[hnx]at hbst;refine kI ?_
   refine kO3 ?_
   by_cases hlt:i<l.length
   ·refine kT ?_
    obtain⟨p,hx⟩:∃p,l[i]? =some p:=⟨l[i],by simp[hlt]⟩;have hnext:=ol hx hnx;have hp:=List.mem_of_getElem? hx;have hsx:=(hs p hp).2;have hnl:=hs.ns hp;have cn:=fN p.2 hsx.wd (by have:=hsx.sz;omega);obtain⟨o1,na1,xs1,nb1,ys1,nm1,n1,cs1,hA,hB⟩:=aM p;have hat:∀(j:Nat) (a:AV),(a6 p.1 o1 na1 xs1 nb1 ys1 nm1 n1 cs1)[j]? =some a->(bR l)[i*8+j]? =some a:=fun j a h=>b6 l i p hx j a (by rw[hB];exact h)
    rw[show dR p.2= .agg (ab o1 na1 xs1 nb1 ys1 nm1 n1 cs1) from congrArg DV.agg hA]at cn;have hcd:pU (List.cons a r) p=(!(decide (p.1∈(List.cons a r:List L8))) && (ej p.2).all fun n=>decide (n∈(List.cons a r:List L8))):=rfl;generalize ej p.2=ns at *;have c1:=mN (List.cons a r) p.1 ho1;have c2:=Jf (List.cons a r) ns ho1 (by omega)
    have keep:pU (List.cons a r) p=false->tq l b ((l.take (i+1)).foldl (ij (List.cons a r)) []):=fun h=>by
     exact Pe
    have take:pU (List.cons a r) p=true->(nx=[]∨Op.bytesLess p.1 nx=true)->tq l (i:Nat) ((l.take (i+1)).foldl (ij (List.cons a r)) []):=fun h1 h2=>by
     rw[hnext,ij,if_pos ⟨h1,h2⟩];exact .inr ⟨i,p,rfl,hx,rfl⟩
    have hall:decide (p.1∈(List.cons a r:List L8))=true∨(decide (p.1∈(List.cons a r:List L8))=false/\(ns.all fun n=>decide (n∈(List.cons a r:List L8)))=false) ∨
     (decide (p.1∈(List.cons a r:List L8))=false/\(ns.all fun n=>decide (n∈(List.cons a r:List L8)))=true/\b= -1/\nx=[]) ∨
     (∃(k:Nat) (q:Pm),decide (p.1∈(List.cons a r:List L8))=false/\(ns.all fun n=>decide (n∈(List.cons a r:List L8)))=true/\b=k/\l[k]? =some q/\q.1=nx/\Op.bytesLess p.1 q.1=false) ∨
     (∃(k:Nat) (q:Pm),decide (p.1∈(List.cons a r:List L8))=false/\(ns.all fun n=>decide (n∈(List.cons a r:List L8)))=true/\b=k/\l[k]? =some q/\q.1=nx/\Op.bytesLess p.1 q.1=true):=by
     rcases Bool.eq_false_or_eq_true (decide (p.1∈(List.cons a r:List L8)))with h|h
     ·exact .inl h
     rcases Bool.eq_false_or_eq_true (ns.all fun n=>decide (n∈(List.cons a r:List L8)))with h2|h2
     ·exact OG
     ·exact .inr (.inl ⟨h,h2⟩)
    rcases hall with hb1| ⟨hb1,hb2⟩| ⟨hb1,hb2,rfl,hnx0⟩| ⟨k,q,hb1,hb2,rfl,hk,hq,hls⟩| ⟨k,q,hb1,hb2,rfl,hk,hq,hls⟩
    ·clear c2 take
     rw[hb1]at c1;refine kW ?_;refine sO ?_;refine Tf ?_;refine kW ?_;exact⟨(i+1,b),⟨hlt,keep (by rw[hcd,hb1];rfl)⟩,by dsimp only;omega,weak ⟨rfl,rfl,rfl,ae (by dsimp only;omega) (by omega),trivial⟩ ⟨rfl,trivial⟩ rfl⟩
    ·clear take
     rw[hb2]at c2;rw[hb1]at c1;refine Es ?_;refine kW ?_;exact⟨(i+1,b),⟨hlt,keep (by rw[hcd,hb1,hb2];rfl)⟩,by dsimp only;omega,weak ⟨rfl,rfl,rfl,ae (by dsimp only;omega) (by omega),trivial⟩ ⟨rfl,trivial⟩ rfl⟩
    ·clear keep
     have hcdt:pU (List.cons a r) p=true:=by rw[hcd,hb1,hb2];rfl
     rw[hb2]at c2;rw[hb1]at c1;refine Es ?_;refine kW ?_;exact⟨(i+1,(i:Nat)),⟨hlt,take hcdt (.inl hnx0)⟩,by dsimp only;omega,weak ⟨rfl,rfl,rfl,ae (by dsimp only;omega) (by omega),trivial⟩ ⟨rfl,trivial⟩ rfl⟩
    ·clear take
     have hkl:=(List.getElem?_eq_some_iff.1 hk).1;obtain⟨o2,na2,xs2,nb2,ys2,nm2,n2,cs2,hA2,hB2⟩:=aM q;have hat2:∀(j:Nat) (a:AV),(a6 q.1 o2 na2 xs2 nb2 ys2 nm2 n2 cs2)[j]? =some a->(bR l)[k*8+j]? =some a:=fun j a h=>b6 l k q hk j a (by rw[hB2];exact h)
     rw[hb2]at c2;rw[hb1]at c1;refine Es ?_;refine EF ?_;refine Pn ?_;refine⟨(i+1,(k:Nat)),⟨hlt,?_⟩,by dsimp only;omega,weak ⟨rfl,rfl,rfl,ae (by dsimp only;omega) (by omega),trivial⟩ ⟨rfl,trivial⟩ rfl⟩;exact OS
    ·clear keep
     have hcdt:pU (List.cons a r) p=true:=by rw[hcd,hb1,hb2];rfl
     have hkl:=(List.getElem?_eq_some_iff.1 hk).1;obtain⟨o2,na2,xs2,nb2,ys2,nm2,n2,cs2,hA2,hB2⟩:=aM q;have hat2:∀(j:Nat) (a:AV),(a6 q.1 o2 na2 xs2 nb2 ys2 nm2 n2 cs2)[j]? =some a->(bR l)[k*8+j]? =some a:=fun j a h=>b6 l k q hk j a (by rw[hB2];exact h)
     rw[hb2]at c2;rw[hb1]at c1;refine Es ?_;refine EF ?_;refine M8 ?_;exact⟨(i+1,(i:Nat)),⟨hlt,take hcdt (.inr (by rw[<- hq];exact hls))⟩,by dsimp only;omega,weak ⟨rfl,rfl,rfl,ae (by dsimp only;omega) (by omega),trivial⟩ ⟨rfl,trivial⟩ rfl⟩
   ·refine kE ?_
    rw[List.take_of_length_le (by omega)]at hnx;have hnN:pd l (List.cons a r)=nx:=hnx;refine kW ?_;rcases hbst with⟨rfl,hnx0⟩| ⟨k,q,rfl,hk,hq⟩
    ·refine iT ?_
     rw[hcyc (hnN.trans hnx0)];rfl
    ·have hkl:=(List.getElem?_eq_some_iff.1 hk).1
     obtain⟨o2,na2,xs2,nb2,ys2,nm2,n2,cs2,hA2,hB2⟩:=aM q;have hat2:∀(j:Nat) (a:AV),(a6 q.1 o2 na2 xs2 nb2 ys2 nm2 n2 cs2)[j]? =some a->(bR l)[k*8+j]? =some a:=fun j a h=>b6 l k q hk j a (by rw[hB2];exact h)
     refine zy ?_;refine kW ?_;refine PA ?_
     refine kO3 ?_
     refine cY 5002 (m1:=(List.cons a r:List L8).length) (m2:=1) ac (by decide) (Nat.le_trans (Nat.mul_le_mul_right _ (show(List.cons a r:List L8).length+1<=1000001 by omega)) (by decide)) rfl rfl rfl rfl rfl rfl rfl rfl rfl rfl rfl (.own rfl rfl) rfl rfl rfl ?_;refine kW ?_;refine⟨(List.cons a r)++[q.1],⟨by simp only[List.length_append,List.length_cons,List.length_nil]at hlo ⊢;omega,hcont k q hk (hnN.trans hq.symm)⟩,by simp only[List.length_append,List.length_cons,List.length_nil]at hlo ⊢;omega,Eq.mpr (congrArg (bu _) (jY [(0, .d (bF l))] [] 8 5001 (List.cons a r) q.1 [])) ?_⟩
     exact bu.trans (b:=⟨[(8, .own 5002 ((List.cons a r:List L8).length+1) 1 9),(0, .d (bF l))],[(5002,some ((au (List.cons a r)).take ((List.cons a r:List L8).length*1)++[.val (vL q.1)]))]⟩) kw ((aD (q:=8) (j:=5002) (j':=5001) rfl rfl rfl rfl).trans kw)
def Bd (q:Rat) (n:Nat):Prop:=q.num.natAbs<2^n/\(q.den:Int).natAbs<2^n
theorem kt {x m n:Nat} (h:x<2^m) (hm:m<=n):x<2^n:=Nat.lt_of_lt_of_le h (Nat.pow_le_pow_right (by decide) hm)
theorem Bd.mono {q:Rat} {m n:Nat} (h:Bd q m) (hm:m<=n):Bd q n:=⟨kt h.1 hm,kt h.2 hm⟩
theorem Bd.divInt {k:Nat} {n d:Int} (h:n.natAbs<2^k) (h':d.natAbs<2^k) (hd:d≠0):Bd (Rat.divInt n d) k:=by
 obtain⟨_,_,h1,h2⟩:=oP (n:=n) (d:=d) hd;have hg:0<(gz n d).natAbs:=by have:=ze (n:=n) hd;omega
 refine⟨Nat.lt_of_le_of_lt ?_ h,Nat.lt_of_le_of_lt ?_ h'⟩
 ·conv=>rhs;rw[h1,Int.natAbs_mul]
  exact Nat.le_mul_of_pos_left _ hg
 ·conv=>rhs;rw[h2,Int.natAbs_mul]
  exact Nat.le_mul_of_pos_left _ hg
theorem iv {x y:Int} {a c:Nat} (h:x.natAbs<2^a) (h':y.natAbs<2^c):(x*y).natAbs<2^(a+c):=by
 rw[Int.natAbs_mul,Nat.pow_add];exact Nat.mul_lt_mul'' h h'
theorem Bd.mul {x y:Rat} {m n:Nat} (h:Bd x m) (k:Bd y n):Bd (x*y) (m+n):=by
 rw[<- mV];exact .divInt (iv h.1 k.1) (iv h.2 k.2) (by have:=Int.mul_pos (cK x) (cK y);omega)
theorem Bd.div {x y:Rat} {m n:Nat} (h:Bd x m) (k:Bd y n) (hy:y≠0):Bd (x/y) (m+n):=by
 rw[<- mA];have h0:y.num≠0:=fun e=>hy (Rat.num_eq_zero.1 e)
 exact .divInt (iv h.1 k.2) (iv h.2 k.1) (Int.mul_ne_zero (by have:=cK x;omega) h0)
theorem Bd.add {x y:Rat} {m n:Nat} (h:Bd x m) (k:Bd y n):Bd (x+y) (m+n+1):=by
 rw[<- mU];refine .divInt ?_ (kt (iv h.2 k.2) (by omega)) (by have:=Int.mul_pos (cK x) (cK y);omega);have h1:=iv h.1 k.2;have h2:=iv k.1 h.2;rw[Nat.add_comm n m]at h2;have h3:=Int.natAbs_add_le (x.num*y.den) (y.num*x.den);rw[Nat.pow_succ];omega
theorem Bd.neg {x:Rat} {n:Nat} (h:Bd x n):Bd (-x) n:=⟨by rw[Rat.neg_num,Int.natAbs_neg];exact h.1,h.2⟩
theorem Bd.szQ {x:Rat} {n:Nat} (h:Bd x n) {k:Nat} (hk:n<=32*k):cZ k x:=by
 have e:(4294967296:Nat)^k=2^(32*k):=by rw[show(4294967296:Nat)=2^32 from rfl,<- Nat.pow_mul]
 exact⟨by unfold Sz;rw[e];exact kt h.1 hk,by unfold Sz;rw[e];exact kt h.2 hk⟩
theorem cZ.bd {x:Rat} {k:Nat} (h:cZ k x):Bd x (32*k):=by
 have e:(4294967296:Nat)^k=2^(32*k):=by rw[show(4294967296:Nat)=2^32 from rfl,<- Nat.pow_mul]
 exact⟨by have:=h.1;unfold Sz at this;rwa[e]at this,by have:=h.2;unfold Sz at this;rwa[e]at this⟩
theorem QH {k:B4} {m n:Nat} {a b:Rat} {p p':Int} {x:Rat × Int} (h1:Bd a m) (h2:Bd b n) (h:Br k a p b p'= .ok x):Bd x.1 (m+n+1):=by
 cases k<;>simp only[Br,ln,nY,qQ]at h
 ·split at h<;>cases h;exact h1.add h2
 ·split at h<;>cases h;exact h1.add h2.neg
 ·split at h<;>cases h;exact(h1.mul h2).mono (by omega)
 ·split at h
  ·cases h
  ·split at h<;>cases h
   exact(h1.div h2 (by assumption)).mono (by omega)
mutual
def mP (b:List UInt8->Nat):Rx->Nat
 | .mk _ _ xs _ ys nm args=>min (1+32*(xs.length+ys.length)+(if nm=[]then 0 else 32)+b nm+kd b args) 1048576
def kd (b:List UInt8->Nat):List Rx->Nat
 | []=>0
 |x::r=>mP b x+kd b r
end
def xh:Ex->List (List UInt8)
 | .num _ _=>[]
 | .nam s=>[s]
 | .neg a=>xh a
 | .bin _ a b=>xh a++xh b
def Q9 (q:Rat) (n:Nat):Prop:=n<1048576->Bd q n
theorem Ej {env:List UInt8->Option (Rat × Int)} {b:List UInt8->Nat}:∀{e:Ex} {x:Rat × Int},bh env e= .ok x->(∀s∈xh e,∀y,env s=some y->Q9 y.1 (b s))->Q9 x.1 (mP b (rx e))
 | .num v u,x,h,_=>by
  intro hw
  have hv:Bd v (32*((digs v.num.natAbs).length+(digs (v.den:Int).natAbs).length)):=by
   have h1:Sz (digs v.num.natAbs).length v.num:=Sz.of_digs (Nat.le_refl _);have h2:Sz (digs (v.den:Int).natAbs).length (v.den:Int):=Sz.of_digs (Nat.le_refl _);exact cZ.bd ⟨h1.mono (by omega),h2.mono (by omega)⟩
  simp only[rx,mP,kd]at hw ⊢
  simp only[bh]at h
  split at h
  ·rename_i hu
   cases h;rw[if_pos hu]at hw ⊢;exact hv.mono (by omega)
  ·rename_i hu
   split at h
   ·rename_i q hq
    cases h;rw[if_neg hu]at hw ⊢;have h1:=hv.mul (cZ.bd (yp hq).1);exact h1.mono (by omega)
   ·cases h
 | .nam s,x,h,hb=>by
  intro hw
  simp only[bh]at h
  split at h
  ·rename_i y hy
   cases h
   simp only[rx,mP,kd]at hw ⊢
   exact(hb s (by simp[xh]) _ hy (by omega)).mono (by omega)
  ·cases h
 | .neg a,x,h,hb=>by
  intro hw
  simp only[bh]at h
  split at h
  ·rename_i y hy
   cases h
   simp only[rx,mP,kd]at hw ⊢
   exact(Ej (e:=a) hy hb (by omega)).neg.mono (by omega)
  ·cases h
 | .bin k a c,x,h,hb=>by
  intro hw
  simp only[bh]at h
  split at h
  ·cases h
  ·rename_i y hy
   split at h
   ·cases h
   ·rename_i z hz
    simp only[rx,mP,kd]at hw ⊢
    have h1:=Ej (e:=a) hy (fun s hs=>hb s (List.mem_append_left _ hs)) (by omega);have h2:=Ej (e:=c) hz (fun s hs=>hb s (List.mem_append_right _ hs)) (by omega);exact(QH h1 h2 h).mono (by omega)
theorem zr {a b:Nat} (h:digs a=digs b):a=b:=by rw[<- af a,h,af]
theorem yf:∀{a b:Ex},rx a=rx b->a=b
 | .num v u, .num v' u',h=>by
  simp only[rx,Rx.mk.injEq,decide_eq_decide]at h
  obtain⟨_,h1,h2,_,h3,h4,_⟩:=h;have h2:=zr h2;have h3:=zr h3;have:v=v':=Rat.ext (by omega) (by omega);rw[this,h4]
 | .num _ _, .nam _,h=>by simp[rx]at h
 | .num _ _, .neg _,h=>by simp[rx]at h
 | .num _ _, .bin k _ _,h=>by cases k<;>simp[rx,B4.code]at h
 | .nam _, .num _ _,h=>by simp[rx]at h
 | .nam _, .nam _,h=>by simp[rx]at h;rw[h]
 | .nam _, .neg _,h=>by simp[rx]at h
 | .nam _, .bin k _ _,h=>by cases k<;>simp[rx,B4.code]at h
 | .neg _, .num _ _,h=>by simp[rx]at h
 | .neg _, .nam _,h=>by simp[rx]at h
 | .neg a, .neg b,h=>by simp[rx]at h;rw[yf h]
 | .neg _, .bin k _ _,h=>by cases k<;>simp[rx,B4.code]at h
 | .bin k _ _, .num _ _,h=>by cases k<;>simp[rx,B4.code]at h
 | .bin k _ _, .nam _,h=>by cases k<;>simp[rx,B4.code]at h
 | .bin k _ _, .neg _,h=>by cases k<;>simp[rx,B4.code]at h
 | .bin k a b, .bin k' a' b',h=>by
  simp only[rx,Rx.mk.injEq,List.cons.injEq,and_true,true_and]at h
  obtain⟨h1,h2,h3⟩:=h;have:k=k':=by cases k<;>cases k'<;>first|rfl|simp[B4.code]at h1
  rw[this,yf h2,yf h3]
noncomputable def ia (x:Rx):Ex:= @dite _ (∃e,x=rx e/\uy e) (Classical.propDecidable _) (fun h=>Classical.choose h) (fun _=> .nam [])
theorem yg {e:Ex} (h:uy e):ia (rx e)=e:=by
 have h0:∃e',rx e=rx e'/\uy e':=⟨e,rfl,h⟩;unfold ia;rw[dif_pos h0];exact(yf (Classical.choose_spec h0).1).symm
theorem tK {x:Rx} (h:∃e,x=rx e/\uy e):rx (ia x)=x/\uy (ia x):=by
 obtain⟨e,rfl,hf⟩:=h;rw[yg hf];exact⟨rfl,hf⟩
theorem Ef:∀(e:Ex) (n:L8),n∈ej (rx e)↔n∈xh e
 | .num v u,n=>by simp[rx,ej,fR,xh,ft]
 | .nam s,n=>by simp[rx,ej,fR,xh,ft]
 | .neg a,n=>by simp[rx,ej,fR,xh,ft,Ef a]
 | .bin k a b,n=>by
  have:¬k.code=2:=by cases k<;>decide
  simp[rx,ej,fR,xh,ft,Ef a,Ef b,this]
theorem gc {u v:L8->Option (Rat × Int)}:∀{e:Ex},(∀n∈xh e,u n=v n)->bh u e=bh v e
 | .num _ _,_=>rfl
 | .nam s,h=>by simp only[bh,h s (by simp[xh])]
 | .neg a,h=>by simp only[bh,gc (e:=a) h]
 | .bin k a b,h=>by simp only[bh,gc (e:=a) (fun n hn=>h n (List.mem_append_left _ hn)),gc (e:=b) (fun n hn=>h n (List.mem_append_right _ hn))]
def pM:EL->L8->Nat
 | [],_=>0
 |y::r,n=>if Op.bytesLess y.1 n=true then pM r n+1 else 0
def f8 (l:EL) (n:L8) (v:Rat × Int):EL:=l.take (pM l n)++(n,v)::l.drop (pM l n)
theorem xL:∀(l:EL) (n:L8),pM l n<=l.length
 | [],_=>Nat.le_refl _
 |y::r,n=>by
  unfold pM
  split
  ·have:=xL r n;simp;omega
  ·exact Nat.zero_le _
theorem Ii:∀{l:EL} {n:L8} {i:Nat} {x:L8 × (Rat × Int)},i<pM l n->l[i]? =some x->Op.bytesLess x.1 n=true
 | [],n,i,x,_,h=>by simp at h
 |y::r,n,i,x,hi,h=>by
  unfold pM at hi
  split at hi
  ·rename_i hy
   cases i with
   |zero=>simp at h;subst h;exact hy
   |succ i=>exact Ii (l:=r) (n:=n) (i:=i) (by omega) (by simpa using h)
  ·omega
theorem Hp:∀{l:EL} {n:L8} {x:L8 × (Rat × Int)},l[pM l n]? =some x->Op.bytesLess x.1 n=false
 | [],n,x,h=>by simp[pM]at h
 |y::r,n,x,h=>by
  unfold pM at h
  split at h
  ·exact Hp (l:=r) (by simpa using h)
  ·rename_i hy;simp at h;subst h;simpa using hy
theorem tE {l:EL} {n:L8} {v:Rat × Int} {x:L8 × (Rat × Int)}:x∈f8 l n v↔x=(n,v)∨x∈l:=by
 unfold f8
 conv=>rhs;rw[<- List.take_append_drop (pM l n) l]
 simp only[List.mem_append,List.mem_cons]
 grind
theorem tw (l:EL) (n:L8) (v:Rat × Int):(f8 l n v).length=l.length+1:=by
 have:=xL l n
 simp[f8]
 omega
theorem Fr (y:L8 × (Rat × Int)) (r:EL) (n:L8) (v:Rat × Int):f8 (y::r) n v=if Op.bytesLess y.1 n=true then y::f8 r n v else(n,v)::y::r:=by
 unfold f8
 conv=>lhs;unfold pM
 split <;>simp
theorem gu {y:L8 × (Rat × Int)} {r:EL}:fo (y::r)↔(∀x∈r,Op.bytesLess y.1 x.1=true)/\fo r:=by
 constructor
 ·intro h
  refine⟨fun x hx=>?_,fun i j a b hij ha hb=>h (i+1) (j+1) a b (by omega) (by simpa using ha) (by simpa using hb)⟩;obtain⟨i,hi⟩:=List.getElem?_of_mem hx;exact h 0 (i+1) y x (by omega) rfl (by simpa using hi)
 ·rintro⟨h1,h2⟩ i j a b hij ha hb
  cases j with
  |zero=>omega
  |succ j=>
   cases i with
   |zero=>simp at ha;subst ha;exact h1 b (List.mem_of_getElem? (by simpa using hb))
   |succ i=>exact h2 i j a b (by omega) (by simpa using ha) (by simpa using hb)
theorem sH:fo []:=fun i j a b _ h=>by simp at h
theorem qv:∀{l:EL} {n:L8} {v:Rat × Int},fo l->(∀x∈l,x.1≠n)->fo (f8 l n v)
 | [],n,v,_,_=>by
  rw[show f8 [] n v=[(n,v)] from rfl,gu];exact⟨fun x hx=>absurd hx (by simp),sH⟩
 |y::r,n,v,h,hn=>by
  rw[Fr];rw[gu]at h
  split
  ·rename_i hy
   rw[gu];refine⟨fun x hx=>?_,qv h.2 (fun x hx=>hn x (by simp[hx]))⟩;rcases tE.1 hx with rfl|hx
   ·exact hy
   ·exact h.1 x hx
  ·rename_i hy
   have hy:Op.bytesLess y.1 n=false:=by simpa using hy
   have hny:Op.bytesLess n y.1=true:=by
    cases hb:Op.bytesLess n y.1
    ·exact absurd (i8 hy hb) (hn y (by simp))
    ·rfl
   rw[gu,gu];refine⟨fun x hx=>?_,h⟩;rcases List.mem_cons.1 hx with rfl|hx
   ·exact hny
   ·exact dX hny (h.1 x hx)
theorem tz {l:EL} (hs:fo l) {n:L8} {v:Rat × Int}:az l n=some v↔(n,v)∈l:=by
 constructor
 ·intro h
  clear hs
  induction l with
  |nil=>cases h
  |cons y r ih=>
   simp only[az]at h
   split at h
   ·rename_i e;cases h;subst e;simp
   ·simp[ih h]
 ·intro h
  obtain⟨i,hi⟩:=List.getElem?_of_mem h;exact D8 hs hi
def BM (l:Tb) (n:L8):Rx:=match l[bX l n]? with
 |some p=>p.2
 |none=> .mk 0 false [] false [] [] []
theorem lM.fx {l:Tb} (h:lM l) {p:Pm} (hp:p∈l):BM l p.1=p.2:=by
 obtain⟨i,hi⟩:=List.getElem?_of_mem hp;unfold BM;rw[h.fd hi,hi]
noncomputable def jk (l:Tb):List L8->EL->Except Int EL
 | [],env=> .ok env
 |n::r,env=>match bh (az env) (ia (BM l n))with
  | .ok x=>jk l r (f8 env n x)
  | .error e=> .error e
noncomputable def qc (l:Tb):Except Int EL:=if(bf l).2=0 then jk l (bf l).1 []else .error (bf l).2
inductive Hv (l:Tb):L8->Rat × Int->Prop
 |mk {p:Pm} {x:Rat × Int} (f:L8->Rat × Int):p∈l->(∀n∈xh (ia p.2),Hv l n (f n))->bh (fun n=>some (f n)) (ia p.2)= .ok x->Hv l p.1 x
theorem Hv.fn {l:Tb} (hl:lM l) {n:L8} {x:Rat × Int} (h:Hv l n x):∀{y:Rat × Int},Hv l n y->x=y:=by
 induction h with
 | @mk p x f hp hf hx ih=>
  intro y hy;generalize hn:p.1=n at hy;cases hy with
  | @mk q _ g hq hg hy=>
   obtain⟨i,hi⟩:=List.getElem?_of_mem hp;obtain⟨j,hj⟩:=List.getElem?_of_mem hq;have:=hl.nd _ _ _ _ hi hj hn;subst this;rw[hi]at hj;cases hj;have:bh (fun n=>some (f n)) (ia p.2)=bh (fun n=>some (g n)) (ia p.2):=gc fun n hn=>by rw[ih n hn (hg n hn)]
   rw[this,hy]at hx;exact(Except.ok.inj hx).symm
structure ta (l:Tb) (done:List L8) (env:EL):Prop where
 so:fo env
 ky:∀n,n∈done ↔ ∃v,(n,v)∈env
 hv:∀x∈env,Hv l x.1 x.2
theorem ta.nil (l:Tb):ta l [] []:=⟨sH,fun n=>by simp,fun x h=>by cases h⟩
theorem ta.env {l:Tb} {done:List L8} {env:EL} (h:ta l done env) {n:L8} (hn:n∈done):∃v,az env n=some v/\Hv l n v:=by
 obtain⟨v,hv⟩:=(h.ky n).1 hn;exact⟨v,(tz h.so).2 hv,h.hv _ hv⟩
theorem ta.ev {l:Tb} {done:List L8} {env:EL} (h:ta l done env) {e:Ex} (hn:∀n∈xh e,n∈done):bh (az env) e=bh (fun n=>some ((az env n).getD (0,0))) e:=gc fun n hm=>by
 obtain⟨v,h1,_⟩:=h.env (hn n hm);rw[h1];rfl
theorem ta.has {l:Tb} {done:List L8} {env:EL} (h:ta l done env) {p:Pm} (hp:p∈l) {x:Rat × Int} (hn:∀n∈xh (ia p.2),n∈done) (hx:bh (az env) (ia p.2)= .ok x):Hv l p.1 x:=by
 rw[h.ev hn]at hx;refine .mk _ hp (fun n hm=>?_) hx;obtain⟨v,h1,h2⟩:=h.env (hn n hm);rw[h1];exact h2
theorem ta.step {l:Tb} {done:List L8} {env:EL} (h:ta l done env) {p:Pm} (hd:p.1 ∉ done) {x:Rat × Int} (hx:Hv l p.1 x):ta l (done ++[p.1]) (f8 env p.1 x):=by
 have hne:∀y∈env,y.1≠p.1:=fun y hy e=>hd ((h.ky _).2 ⟨y.2,by rw[<- e];exact hy⟩)
 refine⟨qv h.so hne,fun n=>?_,fun y hy=>?_⟩
 ·simp only[List.mem_append,List.mem_singleton,tE,Prod.mk.injEq,h.ky n]
  constructor
  ·rintro(⟨v,hv⟩|rfl)
   ·exact⟨v, .inr hv⟩
   ·exact⟨x, .inl ⟨rfl,rfl⟩⟩
  ·rintro⟨v,⟨rfl,rfl⟩|hv⟩
   ·exact .inr rfl
   ·exact .inl ⟨v,hv⟩
 ·rcases tE.1 hy with rfl|hy
  ·exact hx
  ·exact h.hv y hy
def I6 (l:Tb):Prop:=∀p∈l,∃e,p.2=rx e/\uy e
theorem I6.ns {l:Tb} (h:I6 l) {p:Pm} (hp:p∈l) (n:L8):n∈xh (ia p.2)↔n∈ej p.2:=by
 have:=(tK (h p hp)).1
 conv=>rhs;rw[<- this]
 exact(Ef _ _).symm
theorem Oe {l:List L8} (h:l.Nodup) {i j:Nat} {a:L8} (hi:l[i]? =some a) (hj:l[j]? =some a):i=j:=by
 obtain⟨h1,e1⟩:=List.getElem?_eq_some_iff.1 hi;obtain⟨h2,e2⟩:=List.getElem?_eq_some_iff.1 hj;have hp:=List.pairwise_iff_getElem.1 (List.nodup_iff_pairwise_ne.1 h);rcases Nat.lt_trichotomy i j with h3|h3|h3
 ·exact absurd (e1.trans e2.symm) (hp i j h1 h2 h3)
 ·exact h3
 ·exact absurd (e2.trans e1.symm) (hp j i h2 h1 h3)
theorem oI.at {l:Tb} (hl:lM l) (hf:I6 l) {o:List L8} (h:oI l o) {k:Nat} {n:L8} (hk:o[k]? =some n):∃p∈l,p.1=n/\BM l n=p.2/\n ∉ o.take k/\ ∀m∈xh (ia p.2),m∈o.take k:=by
 obtain⟨p,hp,rfl⟩:=h.mem n (List.mem_of_getElem? hk);refine⟨p,hp,rfl,hl.fx hp,fun hn=>?_,fun m hm=>h.up k _ p hk hp rfl m ((hf.ns hp m).1 hm)⟩;obtain⟨i,hi⟩:=List.getElem?_of_mem hn;rw[List.getElem?_take]at hi
 split at hi
 ·have:=Oe h.nd hi hk
  omega
 ·cases hi
theorem DT {l:Tb} (hl:lM l) (hf:I6 l) {o:List L8} (h:oI l o):∀(r:List L8) (k:Nat) (env env':EL),o.drop k=r->ta l (o.take k) env->jk l r env= .ok env'->ta l o env'
 | [],k,env,env',hr,hI,he=>by
  cases he
  rwa[List.take_of_length_le (List.drop_eq_nil_iff.1 hr)]at hI
 |n::r,k,env,env',hr,hI,he=>by
  have hk:o[k]? =some n:=by have:=congrArg (·[0]?) hr;simpa using this
  obtain⟨p,hp,rfl,e1,e2,e3⟩:=h.at hl hf hk
  simp only[jk,e1]at he
  split at he
  ·rename_i x hx
   refine DT hl hf h r (k+1) _ env' (by rw[<- List.drop_drop,hr];rfl) ?_ he;rw[bi hk];exact hI.step e2 (hI.has hp e3 hx)
  ·cases he
theorem yL {l:Tb}:∀{r:List L8} {env:EL} {e:Int},jk l r env= .error e->e≠0
 | [],env,e,h=>by cases h
 |n::r,env,e,h=>by
  simp only[jk]at h
  split at h
  ·exact yL h
  ·rename_i e' h';cases h;exact cW h'
theorem Hn {x:Rx} (hx:j0 x) (hm:Bp x) (h:qi x=0):∃e,x=rx e/\uy e:=by
 refine PB x hx hm ?_;unfold qi at h;cases hf:tf x
 ·rw[hf]at h;simp at h
 ·rfl
theorem pV {l:Tb} (hf:lM l->I6 l) {env:EL} (h:qc l= .ok env):lM l/\(bf l).2=0/\fo env/\(∀n,(∃v,(n,v)∈env)↔ ∃p∈l,p.1=n)/\(∀x∈env,Hv l x.1 x.2)/\env.length<=l.length:=by
 unfold qc at h
 split at h
 ·rename_i h0
  obtain⟨o,ho⟩:∃o,(bf l).1=o:=⟨_,rfl⟩;rw[ho]at h;obtain⟨hl,ht,hn⟩:=iH (l:=l) (o:=o) (by rw[<- ho,<- h0]);have hI:=DT hl (hf hl) ht o 0 [] env (by simp) (ta.nil l) h;refine⟨hl,h0,hI.so,fun n=>?_,hI.hv,?_⟩
  ·rw[<- hI.ky]
   constructor
   ·exact ht.mem n
   ·rintro⟨p,hp,rfl⟩;exact ht.all hn p hp
  ·have hnd:(env.map (·.1)).Nodup:=by
    refine List.nodup_iff_pairwise_ne.2 (List.pairwise_iff_getElem.2 fun i j hi hj hij e=>?_)
    simp only[List.length_map]at hi hj
    simp only[List.getElem_map]at e
    have:=hI.so i j _ _ hij (List.getElem?_eq_getElem hi) (List.getElem?_eq_getElem hj);rw[e,gE]at this;cases this
   have:=gZ (b:=l.map (·.1)) hnd fun x hx=>by
    obtain⟨y,hy,rfl⟩:=List.mem_map.1 hx;obtain⟨p,hp,e⟩:=ht.mem _ ((hI.ky y.1).2 ⟨y.2,hy⟩);exact List.mem_map.2 ⟨p,hp,e⟩
   simpa using this
 ·cases h
theorem Q9.mono {q:Rat} {m n:Nat} (h:Q9 q m) (hm:m<=n):Q9 q n:=fun hn=>(h (by omega)).mono hm
def uv (l:Tb):Nat->L8->Nat
 |0,_=>0
 |k+1,n=>if bX l n<l.length then mP (uv l k) (BM l n)else 0
theorem KE {b c:L8->Nat} (h:∀n,b n<=c n):∀x,mP b x<=mP c x:=by
 refine dq fun op na xs nb ys nm args ih=>?_
 have key:∀l:List Rx,(∀y∈l,mP b y<=mP c y)->kd b l<=kd c l:=by
  intro l
  induction l with
  |nil=>intro _;exact Nat.le_refl _
  |cons y r ihr=>intro hy;simp only[kd];exact Nat.add_le_add (hy y (by simp)) (ihr fun z hz=>hy z (by simp[hz]))
 have h1:=key args ih;have h2:=h nm
 simp only[mP]
 omega
theorem Ab (l:Tb):∀(k:Nat) (n:L8),uv l k n<=uv l (k+1) n
 |0,n=>Nat.zero_le _
 |k+1,n=>by
  rw[uv,uv]
  split
  ·exact KE (Ab l k) _
  ·exact Nat.le_refl _
theorem Ao (l:Tb) {j k:Nat} (h:j<=k) (n:L8):uv l j n<=uv l k n:=by
 induction h with
 |refl=>exact Nat.le_refl _
 |step _ ih=>exact Nat.le_trans ih (Ab l _ n)
theorem Hv.bd {l:Tb} (hl:lM l) (hf:I6 l) {o:List L8} (h:oI l o):∀(k:Nat) (n:L8) (x:Rat × Int),o[k]? =some n->Hv l n x->Q9 x.1 (uv l (k+1) n):=by
 intro k
 induction k using Nat.strongRecOn with
 |_ k ih=>
  intro n x hk hx;obtain⟨p,hp,e0,e1,_,e3⟩:=h.at hl hf hk;cases hx with
  | @mk q _ f hq hg hy=>
   have hqp:q=p:=by
    obtain⟨i,hi⟩:=List.getElem?_of_mem hp;obtain⟨j,hj⟩:=List.getElem?_of_mem hq;have:=hl.nd _ _ _ _ hi hj e0;subst this;rw[hi]at hj;cases hj;rfl
   subst hqp
   have hb:=Ej (b:=uv l k) hy fun s hs y hys=>by
    cases hys;obtain⟨i,hi⟩:=List.getElem?_of_mem (e3 s hs);rw[List.getElem?_take]at hi
    split at hi
    ·rename_i hik
     exact(ih i hik s (f s) hi (hg s hs)).mono (Ao l (by omega) s)
    ·cases hi
   rw[(tK (hf q hp)).1]at hb;rw[uv,if_pos (iC.2 ⟨q,hp,rfl⟩),e1];exact hb
theorem pT:∀(e:Ex),mE (rx e)=true->qh e
 | .num v u,h=>by
  simp only[rx,mE,mO,Bool.and_eq_true,decide_eq_true_eq]at h
  exact⟨Sz.of_digs h.2.1.1,Sz.of_digs h.2.1.2⟩
 | .nam s,_=>trivial
 | .neg a,h=>by
  simp only[rx,mE,mO,Bool.and_eq_true]at h
  exact pT a h.1.1
 | .bin k a b,h=>by
  simp only[rx,mE,mO,Bool.and_eq_true]at h
  exact⟨pT a h.1.1,pT b h.1.2.1⟩
theorem rL:∀(e:Ex),iA e<=400*gL (rx e)
 | .num v u=>by simp[iA,rx,gL,eB]
 | .nam s=>by simp[iA,rx,gL,eB]
 | .neg a=>by have:=rL a;simp only[iA,rx,gL,eB];omega
 | .bin k a b=>by have:=rL a;have:=rL b;simp only[iA,rx,gL,eB];omega
theorem Hv.inR {l:Tb} (hf:I6 l) (hs:∀p∈l,pe p.2) (hb:∀n x,Hv l n x->cZ 400 x.1) {n:L8} {x:Rat × Int} (h:Hv l n x):jZ x.2=true:=by
 induction h with
 | @mk p x f hp hg hy ih=>
  have hx0:bh (fun n=>if n∈xh (ia p.2)then some (f n)else none) (ia p.2)= .ok x:=by
   rw[<- hy];exact gc fun n hn=>by simp[hn]
  refine(eL (fun s y hys=>?_) (pT _ (by rw[(tK (hf p hp)).1];exact(hs p hp).lt)) hx0).2
  split at hys
  ·rename_i hn;cases hys;exact⟨hb _ _ (hg s hn),ih s hn⟩
  ·cases hys
def Tu (l:Tb):Prop:=l.length<=8->(bf l).2=0-> ∀p∈l,mP (uv l (l.length-1)) p.2<=2000
theorem Hv.ok {l:Tb} (hli:Tu l) (h8:l.length<=8) (h0:(bf l).2=0) (hf:I6 l) (hs:∀p∈l,pe p.2) {n:L8} {x:Rat × Int} (h:Hv l n x):cZ 400 x.1/\jZ x.2=true:=by
 obtain⟨o,ho⟩:∃o,(bf l).1=o:=⟨_,rfl⟩;obtain⟨hl,ht,hn⟩:=iH (l:=l) (o:=o) (by rw[<- ho,<- h0])
 have key:∀n x,Hv l n x->cZ 400 x.1:=fun n x h=>by
  have hp:∃p∈l,p.1=n:=by cases h with|mk f hp=>exact⟨_,hp,rfl⟩
  obtain⟨p,hp,rfl⟩:=hp;obtain⟨k,hk⟩:=List.getElem?_of_mem (ht.all hn p hp);have hkl:=(List.getElem?_eq_some_iff.1 hk).1;have h1:=h.bd hl hf ht k _ _ hk
  have h2:uv l (k+1) p.1<=2000:=by
   refine Nat.le_trans (Ao l (show k+1<=(l.length-1)+1 by omega) p.1) ?_;rw[uv,if_pos (iC.2 ⟨p,hp,rfl⟩),hl.fx hp];exact hli h8 h0 p hp
  exact(h1 (by omega)).szQ (by omega)
 exact⟨key n x h,h.inR hf hs key⟩
end Go.Proofs.YtmkggcjajcdlcaaGreatDoor
