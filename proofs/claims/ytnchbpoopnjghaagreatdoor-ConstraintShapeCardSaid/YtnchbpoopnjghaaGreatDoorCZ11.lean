/- Parts of a proof: contracts of the functions that the laws reach. -/
import Derived.Test.YtnchbpoopnjghaaGreatDoorCZ10
set_option maxHeartbeats 100000000
set_option maxRecDepth 100000
set_option linter.all false
open Go.Proofs.Tryz
namespace Go.Proofs.YtnchbpoopnjghaaGreatDoor
open Go.RowKit
def PJ (r:Kd):List AV:=[.val (.int .i64 r.p), .val (.int .i64 r.c), .val (.int .i64 r.n), .val (.int .i64 r.q), .val (.bool r.s), .val (.bool (Nat.beq r.v 1 || Nat.beq r.v 2)), .val (.bool (Nat.beq r.v 2))]
def QN:List AV:=[.val (.int .i64 0), .val (.int .i64 0), .val (.int .i64 0), .val (.int .i64 0), .val (.bool false), .val (.bool false), .val (.bool false)]
def Tx (o:Option Kd):RV:=match o with
 |some r=> .tup [.agg (PJ r),dB true]
 |none=> .tup [.agg QN,dB false]
def SR (o:Option Kd):List UInt8:=match o with
 |some r=>r.nm
 |none=>[]
theorem vB {α:Type} {f:α->List AV} {q:Nat} (hf:∀x,(f x).length=q):∀(l:List α) (i:Nat) (x:α),l[i]? =some x-> ∀(j:Nat) (a:AV),(f x)[j]? =some a->(l.flatMap f)[i*q+j]? =some a
 | [],i,x,h,_,_,_=>by simp at h
 |y::l,0,x,h,j,a,ha=>by
  simp at h
  subst h
  simp only[List.flatMap_cons,Nat.zero_mul,Nat.zero_add]
  exact LL
 |y::l,i+1,x,h,j,a,ha=>by
  simp only[List.flatMap_cons]
  have e:(i+1)*q+j-q=i*q+j:=by rw[Nat.add_mul];omega
  rw[List.getElem?_append_right (by rw[hf,Nat.add_mul];omega),hf,e];exact vB hf l i x (by simpa using h) j a ha
theorem Fg {k:Int} (h:k<1):nh k=none:=by unfold nh;rw[if_neg (by omega)]
theorem EZ {k:Int} (h:17<k):nh k=none:=by unfold nh;rw[if_neg (by omega)]
theorem pB {i:Nat} (h1:1<=i) (h2:i<=17):∃r,nh (i:Int)=some r/\ko[i-1]? =some r:=by
 have hl:i-1<ko.length:=by rw[CK];omega
 refine⟨ko[i-1],?_,by simp[hl]⟩;unfold nh;rw[if_pos (by omega),Int.toNat_natCast]
 simp[hl]
theorem LO {i:Nat} {r:Kd} (h1:1<=i) (h:ko[i-1]? =some r):∀(j:Nat) (a:AV),(Ox r)[j]? =some a->(Ox ⟨[],0,0,0,0,0,false⟩++ko.flatMap Ox)[i*8+j]? =some a:=fun j a ha=>by
 have hf:=vB (f:=Ox) (q:=8) (fun _=>rfl) ko (i-1) r h j a ha;rw[List.getElem?_append_right (by show 8<=_;omega)];have e:i*8+j-(Ox ⟨[],0,0,0,0,0,false⟩).length=(i-1)*8+j:=by show i*8+j-8=_;omega
 rw[e];exact hf
theorem gE:(Tryz.prog.info? 72).map (·.size)=some 8:=by kernel_rfl
theorem mP (k:Int):aa Tryz.prog 30 [dN .i64 k] (Tx (nh k)):=by
 by_cases h1:k<1
 ·rw[Fg h1]
  refine kU func30 ?_;exact Lu
 ·by_cases h2:17<k
  ·rw[EZ h2]
   refine kU func30 ?_;refine PU ?_;refine kT ?_;exact ar
  ·obtain⟨i,rfl⟩:=Int.eq_ofNat_of_zero_le (show 0<=k by omega)
   obtain⟨r,hr,hi⟩:=pB (i:=i) (by omega) (by omega);rw[hr];refine kU func30 ?_;exact Lz
theorem tX (k:Int):aa Tryz.prog 14 [dN .i64 k] (.one (dL (SR (nh k)))):=by
 by_cases h1:k<1
 ·rw[Fg h1]
  refine kU func14 ?_;exact Lu
 ·by_cases h2:17<k
  ·rw[EZ h2]
   refine kU func14 ?_;refine PU ?_;refine kT ?_;exact ar
  ·obtain⟨i,rfl⟩:=Int.eq_ofNat_of_zero_le (show 0<=k by omega)
   obtain⟨r,hr,hi⟩:=pB (i:=i) (by omega) (by omega);rw[hr];refine kU func14 ?_;exact Lz
theorem GM {s:List UInt8} {i:Nat} {r:Kd} (h1:1<=i) (hr:ko[i-1]? =some r) (hi:i-1<=ko.findIdx (fun r=>decide (r.nm=s))):(r.nm=s->yU s=i)/\(r.nm≠s->i<=ko.findIdx (fun r=>decide (r.nm=s))):=by
 have hl:=(List.getElem?_eq_some_iff.1 hr).1;have hl':=hl;rw[CK]at hl';refine⟨fun e=>?_,fun e=>?_⟩
 ·have h2:ko.findIdx (fun r=>decide (r.nm=s))=i-1:=by
   refine Nat.le_antisymm (Nat.le_of_not_lt fun h=>?_) hi;have:=List.not_of_lt_findIdx h;have e2:=(List.getElem?_eq_some_iff.1 hr).2;rw[e2]at this
   simp[e]at this
  unfold yU;rw[h2,if_pos (by omega)];omega
 ·refine Nat.le_of_not_lt fun h=>?_
  have h2:ko.findIdx (fun r=>decide (r.nm=s))=i-1:=by omega
  have h3:=List.findIdx_getElem (p:=fun r:Kd=>decide (r.nm=s)) (xs:=ko) (w:=by rw[h2];exact hl)
  simp only[h2]at h3
  rw[(List.getElem?_eq_some_iff.1 hr).2]at h3;exact e (of_decide_eq_true h3)
theorem E8 {s:List UInt8} (h:17<=ko.findIdx (fun r=>decide (r.nm=s))):yU s=0:=by
 unfold yU;rw[if_neg (by omega)]
def PG (k:Int):RV:= .tup [dN .i64 k,dB (decide (k≠0))]
theorem tO (s:List UInt8):aa Tryz.prog 12 [dL s] (PG (yU s)):=by
 have hat:= @GM s;have hno:= @E8 s;generalize ko.findIdx (fun r=>decide (r.nm=s))=f at *;generalize yU s=z at *;refine kV func12 ?_;refine ax Nat (fun i=>1<=i/\i<=18/\i-1<=f) (fun i=>⟨[(0, .d (dL s)),(4, .d (dN .i64 i))],[]⟩) (fun i=>18-i) 1 ⟨Nat.le_refl _,by omega,Nat.zero_le _⟩ kw ?_;rintro i ⟨hi1,hi2,hif⟩;refine kI ?_;refine kO ?_
 by_cases hlt:i<=17
 ·refine kT ?_
  obtain⟨r,hr,hi⟩:=pB hi1 hlt;have hz:=hat hi1 hi hif;refine kG ?_;refine kO ?_;refine EO (i:=i) (LO hi1 hi) underlying73 gE (by omega) rfl rfl rfl rfl rfl rfl ?_
  refine kO3 ?_
  by_cases e:r.nm=s
  ·refine aD rfl rfl rfl rfl rfl rfl rfl (bf (a:=r.nm) (b:=s) e) ?_
   refine SW ?_;rw[hz.1 e];unfold PG;rw[decide_eq_true (show(i:Int)≠0 by omega)];rfl
  ·refine aD rfl rfl rfl rfl rfl rfl rfl (bT (a:=r.nm) (b:=s) e) ?_
   refine kW ?_;have:=hz.2 e;exact⟨i+1,⟨by omega,by omega,by omega⟩,by omega,weak ⟨rfl,aA (by omega) (by omega),trivial⟩ trivial rfl⟩
 ·refine kE ?_
  refine SW ?_;rw[hno (by omega)];rfl
abbrev Dt (m:Int):List AV:=[.val (.int .i64 m)]
theorem vR {m:Int}:cH [(900,Dt m)] [(900,Dt m)]:=cH.one (Nat.le_refl 1)
theorem zH (z m:Int):ap Tryz.prog 85 [.d (dN .i64 z), .box 900 0] [(900,Dt m)] (.v (.one (dB (!pE m z)))) [(900,Dt m)]:=by
 unfold pE
 by_cases h1:z<0
 ·rw[decide_eq_false (show ¬0<=z by omega)]
  refine GH ?_;refine kT ?_;exact jo
 ·rw[decide_eq_true (show 0<=z by omega)]
  by_cases h2:z<m
  ·rw[decide_eq_true h2]
   refine GH ?_;refine kE ?_
   refine kO3 ?_
   refine kE ?_;exact jo
  ·rw[decide_eq_false h2]
   refine GH ?_;refine kE ?_
   refine kO3 ?_
   refine kT ?_;exact jo
theorem sf {fid:FuncId} {p:Int->Bool} {m:Int} (l:List Int) (hp:∀x∈l,ap Tryz.prog fid [.d (dN .i64 x), .box 900 0] [(900,Dt m)] (.v (.one (dB (p x)))) [(900,Dt m)]) (hl:l.length<=1000000):ap Tryz.prog 124 [.d (oX l), .clo (.func fid) [] [.box 900 0]] [(900,Dt m)] (.v (.one (dN .i64 (if l.findIdx p<l.length then((l.findIdx p:Nat):Int)else -1)))) [(900,Dt m)]:=by
 have hf:=List.findIdx_le_length (p:=p) (xs:=l)
 have hn:∀(i:Nat) (hi:i<l.length),i<l.findIdx p->p l[i]=false:=fun i hi h=>by
  exact MQ
 have hy:∀(h:l.findIdx p<l.length),p (l[l.findIdx p])=true:=fun h=>List.findIdx_getElem
 generalize l.findIdx p=f at *;refine aG ac cg func124 rfl rfl rfl rfl rfl (vR) ?_;refine kW ?_
 refine ax Nat (fun i=>i<=f) (fun i=>⟨[(0, .d (oX l)),(1, .clo (.func fid) [] [.box 900 0]),(4, .d (dN .i64 0)),(7, .d (dN .i64 l.length)),(8, .d (dN .i64 i))],[(900,some (Dt m))]⟩) (fun i=>l.length-i) 0 (Nat.zero_le _)
  kw ?_
 intro i hi;refine kI ?_
 by_cases hlt:i<l.length
 ·refine kT ?_
  have hx:l[i]? =some l[i]:=by simp[hlt]
  have c:=hp l[i] (List.getElem_mem hlt);have hni:=hn i hlt;have hyi:∀h:i=f,p l[i]=true:=fun h=>by subst h;exact hy hlt
  generalize l[i]=q at *;refine Mu ?_;exact FY
 ·rw[if_neg (by omega)]
  refine kE ?_;exact jo
theorem nw {fid:FuncId} {p:Int->Bool} {m:Int} (l:List Int) (hp:∀x∈l,ap Tryz.prog fid [.d (dN .i64 x), .box 900 0] [(900,Dt m)] (.v (.one (dB (p x)))) [(900,Dt m)]) (hl:l.length<=1000000):ap Tryz.prog 84 [.d (oX l), .clo (.func fid) [] [.box 900 0]] [(900,Dt m)] (.v (.one (dB (l.any p)))) [(900,Dt m)]:=by
 have c:=sf l hp hl
 have hlt:(l.findIdx p<l.length)↔l.any p=true:=by
  rw[List.any_eq_true];exact List.findIdx_lt_length
 cases hb:l.any p with
 |true=>
  rw[if_pos (hlt.2 hb)]at c;refine aG ac cg func84 rfl rfl rfl rfl rfl (vR) ?_;refine kW ?_;refine kD (c) ?_;refine kT ?_;exact jo
 |false=>
  rw[if_neg (fun h=>by rw[hlt.1 h]at hb;cases hb)]at c;refine aG ac cg func84 rfl rfl rfl rfl rfl (vR) ?_;refine kW ?_;refine kD (c) ?_;exact jo
theorem oF (l:List Int) (n m:Int) (hl:l.length<=1000000):aa Tryz.prog 41 [oX l,dN .i64 n,dN .i64 m] (.one (dB (decide ((l.length:Int)=n) && l.all (pE m)))):=by
 have c:=(nw (fid:=85) (p:=fun z=>!pE m z) (m:=m) l (fun x _=>zH x m) hl).swap 900 0 rfl;rw[show l.any (fun z=>!pE m z)=!l.all (pE m) by rw[List.not_all_eq_any_not]]at c
 by_cases h:(l.length:Int)=n
 ·rw[decide_eq_true h]
  generalize l.all (pE m)=b at *;cases b
  all_goals(
   refine kU func41 ?_;refine kR ?_;refine kI ?_
   refine kO3 ?_
   refine kB true ?_ ?_
   ·exact(by simp[h])
   refine kO3 ?_
   refine kD (c) ?_;exact kF)
 ·rw[decide_eq_false h]
  refine kU func41 ?_;refine kR ?_;refine kI ?_
  refine kO3 ?_
  exact TP
theorem DF (l:List Int) (n:Int) (hl:l.length<=1000000):∃i:Int,(0<=i↔n∈l)/\aa Tryz.prog 128 [oX l,dN .i64 n] (.one (dN .i64 i)):=by
 refine⟨if l.findIdx (fun x=>decide (x=n))<l.length then((l.findIdx (fun x=>decide (x=n)):Nat):Int)else -1,?_,?_⟩
 ·have:=List.findIdx_lt_length (p:=fun x=>decide (x=n)) (xs:=l)
  exact Ca
 ·have hf:=List.findIdx_le_length (p:=fun x=>decide (x=n)) (xs:=l)
  have hn:∀(i:Nat) (hi:i<l.length),i<l.findIdx (fun x=>decide (x=n))->l[i]≠n:=fun i hi h=>by
   exact MQ
  have hy:∀(h:l.findIdx (fun x=>decide (x=n))<l.length),l[l.findIdx (fun x=>decide (x=n))]=n:=fun h=>by
   have:=List.findIdx_getElem (p:=fun x=>decide (x=n)) (xs:=l) (w:=h);exact of_decide_eq_true this
  generalize l.findIdx (fun x=>decide (x=n))=f at *;refine kV func128 ?_
  refine ax Nat (fun i=>i<=f) (fun i=>⟨[(0, .d (oX l)),(1, .d (dN .i64 n)),(4, .d (dN .i64 0)),(7, .d (dN .i64 l.length)),(8, .d (dN .i64 i))],[]⟩) (fun i=>l.length-i) 0 (Nat.zero_le _)
   kw ?_
  intro i hi;refine kI ?_
  by_cases hlt:i<l.length
  ·refine kT ?_
   have hx:l[i]? =some l[i]:=by simp[hlt]
   have hni:=hn i hlt;have hyi:∀h:i=f,l[i]=n:=fun h=>by subst h;exact hy hlt
   generalize l[i]=q at *;refine Mu ?_
   by_cases e:n=q
   ·have e2:i=f:=by
     by_cases h:i<f
     ·exact absurd e.symm (hni h)
     ·omega
    subst e2;rw[if_pos hlt];refine kB true ?_ ?_
    ·exact(by simp[e])
    exact ar
   ·refine kB false ?_ ?_
    ·exact(by simp[e])
    refine H4 ?_
    by_cases h:i=f
    ·exact absurd (hyi h).symm e
    ·omega
  ·rw[if_neg (by omega)]
   refine kE ?_;exact ar
theorem vj (l:List Int) (n:Int) (hl:l.length<=1000000):aa Tryz.prog 88 [oX l,dN .i64 n] (.one (dB (decide (n∈l)))):=by
 obtain⟨i,h1,c⟩:=DF l n hl
 by_cases h:n∈l
 ·rw[decide_eq_true h]
  have:=h1.2 h;refine kV func88 ?_;refine kC (c) ?_;refine kT ?_;exact ar
 ·rw[decide_eq_false h]
  have:=fun h2=>h (h1.1 h2)
  refine kV func88 ?_;refine kC (c) ?_;refine kE ?_;exact ar
theorem Ed (l:List Int) (i:Nat):de (l.take i)=(de l).take i:=by simp[de,List.map_take]
theorem Ag {l:List Int} {i:Nat} {z:Int} (hn:(l.take i).Nodup) (hz:l[i]? =some z):(z ∉ l.take i->(l.take (i+1)).Nodup)/\(z∈l.take i-> ¬l.Nodup):=by
 have e:=b8 hz;refine⟨fun h=>?_,fun h hd=>?_⟩
 ·rw[e,List.nodup_append]
  exact⟨hn,(by simp),fun a ha b hb=>by rw[List.mem_singleton.1 hb];exact fun e=>h (e ▸ ha)⟩
 ·have h2:(l.take (i+1)).Nodup:=hd.sublist (List.take_sublist _ _)
  rw[e,List.nodup_append]at h2;exact h2.2.2 z h z (by simp) rfl
theorem jR (l:List Int) (hl:l.length<=1000000):aa Tryz.prog 46 [oX l] (.one (dB (decide l.Nodup))):=by
 refine kV func46 ?_;refine ax Nat (fun i=>i<=l.length/\(l.take i).Nodup) (fun i=>⟨[(0, .d (oX l)),(5, .d (oX l)),(6, .d (dN .i64 l.length)),(7, .d (dN .i64 i))],[]⟩) (fun i=>l.length-i) 0 ⟨Nat.zero_le _,by simp⟩ kw ?_;rintro i ⟨hi,hn⟩;refine kI ?_
 by_cases hlt:i<l.length
 ·refine kT ?_
  obtain⟨z,hz⟩:∃z,l[i]? =some z:=⟨l[i],by simp[hlt]⟩;have hd:=Ag hn hz;have c:=vj (l.take i) z (by simp;omega);rw[show oX (l.take i)= .leaf (.sl i ((de l).take (i*1))) from by unfold oX;rw[Ed,Nat.mul_one,List.length_take,Nat.min_eq_left hi]]at c;refine kW ?_;refine aP (i:=i) (cs':=[.val (.int .i64 z)]) hlt (ef hz) (Nat.zero_lt_succ 0) rfl rfl rfl rfl rfl rfl rfl rfl ?_;refine kG ?_
  refine kO2 ?_
  refine PZ ac (i:=i) hi rfl rfl rfl rfl rfl rfl rfl rfl ?_;refine kO ?_
  by_cases e:z∈l.take i
  ·rw[decide_eq_true e]at c
   refine kC (c) ?_;refine SW ?_;exact congrArg (fun b=>RV.one (dB b)) (decide_eq_false (hd.2 e)).symm
  ·rw[decide_eq_false e]at c
   refine kQ (c) ?_;exact⟨i+1,⟨hlt,hd.1 e⟩,by omega,weak ⟨rfl,rfl,rfl,aA (by omega) (by omega),trivial⟩ trivial rfl⟩
 ·refine kE ?_
  refine SW ?_;rw[List.take_of_length_le (by omega)]at hn;exact congrArg (fun b=>RV.one (dB b)) (decide_eq_true hn).symm
theorem AM (p q r s:Int):aa Tryz.prog 45 [oX [p,q,r,s]] (.one (dB (G0 [p,q,r,s]))):=by
 obtain⟨b,hb⟩:∃b,G0 [p,q,r,s]=b:=⟨_,rfl⟩;rw[hb];unfold G0 at hb;refine kU func45 ?_
 iterate 2 refine kG ?_
 refine kO ?_;refine aP (i:=0) (cs':=[.val (.int .i64 p)]) (by simp) (ef (l:=[p,q,r,s]) (i:=0) rfl) (Nat.zero_lt_succ 0) rfl rfl rfl rfl rfl rfl rfl rfl ?_
 refine kO2 ?_
 refine aP (i:=1) (cs':=[.val (.int .i64 q)]) (by simp) (ef (l:=[p,q,r,s]) (i:=1) rfl) (Nat.zero_lt_succ 0) rfl rfl rfl rfl rfl rfl rfl rfl ?_
 refine kO2 ?_
 refine aP (i:=2) (cs':=[.val (.int .i64 r)]) (by simp) (ef (l:=[p,q,r,s]) (i:=2) rfl) (Nat.zero_lt_succ 0) rfl rfl rfl rfl rfl rfl rfl rfl ?_
 refine kO2 ?_
 refine aP (i:=3) (cs':=[.val (.int .i64 s)]) (by simp) (ef (l:=[p,q,r,s]) (i:=3) rfl) (Nat.zero_lt_succ 0) rfl rfl rfl rfl rfl rfl rfl rfl ?_;refine kG ?_
 refine kO2 ?_
 by_cases h1:p=q
 ·refine kB false ?_ ?_
  ·exact(by simp[h1])
  refine SW ?_;exact congrArg (fun b=>RV.one (dB b)) (by rw[<- hb];simp[h1])
 refine kB true ?_ ?_
 ·exact(by simp[h1])
 refine kO3 ?_
 by_cases h2:r=s
 ·refine kB false ?_ ?_
  ·exact(by simp[h2])
  refine SW ?_;exact congrArg (fun b=>RV.one (dB b)) (by rw[<- hb];simp[h2])
 refine kB true ?_ ?_
 ·exact(by simp[h2])
 refine kO4 ?_
 by_cases h3:p=r
 ·refine kB true ?_ ?_
  ·exact(by simp[h3])
  refine kO3 ?_
  have h5:p≠s:=fun e=>h2 (h3.symm.trans e)
  by_cases h4:q=s
  ·refine kB true ?_ ?_
   ·exact(by simp[h4])
   refine SW ?_;exact congrArg (fun b=>RV.one (dB b)) (by rw[<- hb];simp[h3,h4])
  ·refine kB false ?_ ?_
   ·exact(by simp[h4])
   iterate 6 refine kO ?_
   refine Nd ?_;exact congrArg (fun b=>RV.one (dB b)) (by rw[<- hb];simp[h1,h2,h4,h5])
 ·refine kB false ?_ ?_
  ·exact(by simp[h3])
  iterate 10 refine kO ?_
  by_cases h5:p=s
  ·refine kB true ?_ ?_
   ·exact(by simp[h5])
   refine kO3 ?_
   by_cases h6:q=r
   ·refine kB true ?_ ?_
    ·exact(by simp[h6])
    refine SW ?_;exact congrArg (fun b=>RV.one (dB b)) (by rw[<- hb];simp[h5,h6])
   ·refine kB false ?_ ?_
    ·exact(by simp[h6])
    refine SW ?_;exact congrArg (fun b=>RV.one (dB b)) (by rw[<- hb];simp[h1,h2,h3,h6])
  ·refine Nd ?_
   exact congrArg (fun b=>RV.one (dB b)) (by rw[<- hb];simp[h1,h2,h3,h5])
theorem wI {x:Rx} (c:aa Tryz.prog 44 [dR x] (.one (dN .i64 (lZ x)))):aa Tryz.prog 43 [dR x] (.one (dB (!decide (lZ x=0)))):=by
 obtain⟨o1,na1,xs1,nb1,ys1,nm1,n1,cs1,hA⟩:=aM x;rw[show dR x= .agg (ab o1 na1 xs1 nb1 ys1 nm1 n1 cs1) from congrArg DV.agg hA]at c ⊢
 by_cases h:lZ x=0
 ·rw[decide_eq_true h]
  refine kV func43 ?_;refine kC (c) ?_;exact TP
 ·rw[decide_eq_false h]
  refine kV func43 ?_;refine kC (c) ?_;refine kB true ?_ ?_
  ·exact(by simp[h])
  exact ar
theorem JC:((List.range 4).all fun i=>decide (((ko[i+4]?).map fun r=>r.p)=some 4))=true:=by decide
theorem Fh {k:Int} {r:Kd} (h:nh k=some r) (h1:5<=k) (h2:k<=8):r.p=4:=by
 obtain⟨_,_,h3⟩:=xn h;have:=List.all_eq_true.1 JC (k.toNat-5) (List.mem_range.2 (by omega));rw[show k.toNat-5+4=k.toNat-1 by omega,h3]at this
 simpa using this
theorem Jd {l:List Int} (h:l.length=4):∃p q r s,l=[p,q,r,s]:=by
 match l,h with
 | [p,q,r,s],_=>exact⟨p,q,r,s,rfl⟩
theorem Jj (vs:List Rx):vs.any (fun x=>!decide (lZ x=0))=!vs.all (fun x=>decide (lZ x=0)):=by rw[List.not_all_eq_any_not]
def cC (k:Int) (ps cs:List Int) (vs:List Rx) (s:Int):List AV:=[.val (.int .i64 k), .sl ps.length (de ps), .sl cs.length (de cs), .sl vs.length (eE vs), .val (.int .i64 s)]
theorem qW (c:Cn) (P Q:Int) (h1:c.ps.length<=1000000) (h2:c.cs.length<=1000000) (h3:c.vs.length<=1000000) (hv:∀x∈c.vs,aa Tryz.prog 44 [dR x] (.one (dN .i64 (lZ x)))):aa Tryz.prog 17 [dC c,dN .i64 P,dN .i64 Q] (.one (dB (yZ c P Q))):=by
 have cS:=mP c.k;have cE:=eh (fid:=43) (p:=fun x=>!decide (lZ x=0)) c.vs (fun x hx=>wI (hv x hx)) h3 rfl;rw[Jj]at cE;cases hk:nh c.k with
 |none=>
  rw[hk]at cS;rw[jB hk];obtain⟨k,ps,cs,vs,s⟩:=c;have cS:aa Tryz.prog 30 [dN .i64 k] (.tup [.agg QN,dB false]):=cS;show aa Tryz.prog _ [.agg (cC k ps cs vs s),_,_] _;refine kV func17 ?_;refine kC (cS) ?_;exact ar
 |some r=>
  rw[hk]at cS;rw[gn hk];have h58:5<=c.k->c.k<=8->r.p=4:=Fh hk;obtain⟨k,ps,cs,vs,s⟩:=c;obtain⟨nm,rp,rc,rn,rv,rq,rs⟩:=r;dsimp only at *;have cS:aa Tryz.prog 30 [dN .i64 k] (.tup [.agg (PJ ⟨nm,rp,rc,rn,rv,rq,rs⟩),dB true]):=cS;have cA:=oF ps rp P h1;have cB:=oF cs rc Q h2;have cF:=jR ps h1;have cG:=jR cs h2;obtain⟨E,hE⟩:∃E,vs.all (fun x=>decide (lZ x=0))=E:=⟨_,rfl⟩;rw[hE]at cE ⊢;obtain⟨A,hA⟩:∃A,(decide ((ps.length:Int)=rp) && ps.all (pE P))=A:=⟨_,rfl⟩;rw[hA]at cA ⊢;obtain⟨B,hB⟩:∃B,(decide ((cs.length:Int)=rc) && cs.all (pE Q))=B:=⟨_,rfl⟩;rw[hB]at cB ⊢;show aa Tryz.prog _ [.agg (cC k ps cs vs s),_,_] _;cases A
  ·refine kV func17 ?_;refine kQ (cS) ?_;refine kC (cA) ?_;exact ar
  cases B
  ·refine FN ?_
   refine kC (cB) ?_;exact ar
  by_cases hn:(vs.length:Int)=rn
  rotate_left
  ·rw[decide_eq_false hn]
   refine FN ?_;refine kC (cB) ?_
   iterate 8 refine kO ?_
   refine kB true ?_ ?_
   ·exact(by simp[hn])
   exact ar
  rw[decide_eq_true hn]
  have hp4:5<=k/\k<=8-> ∃p q r t,ps=[p,q,r,t]:=fun h=>by
   have h4:=h58 h.1 h.2
   simp only[Bool.and_eq_true,decide_eq_true_eq]at hA
   exact Jd (by omega)
  clear h58 hA hB hE hv;cases E
  ·refine FN ?_
   refine Mc ?_;exact ar
  have side:(rs=false/\s=0)∨(rs=true/\s=1)∨(rs=true/\s= -1)∨(rs=false/\s≠0)∨(rs=true/\s≠1/\s≠ -1):=by cases rs<;>simp <;>omega
  rcases side with side|side|side| ⟨rfl,hs⟩| ⟨rfl,hs,hs'⟩
  rotate_left 3
  ·rw[show M7 false s=false from decide_eq_false hs]
   refine FN ?_;refine Mc ?_;refine kG ?_
   iterate 19 refine kO ?_
   refine kB true ?_ ?_
   ·exact(by simp[hs])
   exact ar
  ·rw[show M7 true s=false by simp[M7,hs,hs']]
   refine FN ?_;refine Mc ?_;refine kG ?_
   refine kO5 ?_
   refine kB true ?_ ?_
   ·exact(by simp[hs])
   refine kO4 ?_
   refine kB true ?_ ?_
   ·exact(by simp[hs'])
   exact ar
  all_goals
   obtain⟨rfl,rfl⟩:=side
   by_cases h58:5<=k/\k<=8
   ·rw[if_pos h58]
    obtain⟨p,q,r,t,rfl⟩:=hp4 h58;have cP:=AM p q r t;generalize G0 [p,q,r,t]=D at *;rcases(show k=5∨k=6∨k=7∨k=8 by omega)with rfl|rfl|rfl|rfl
    all_goals
     refine kV func17 ?_;refine kQ (cS) ?_;refine kQ (cA) ?_;refine kC (cB) ?_
     iterate 8 refine kO ?_
     refine kB false ?_ ?_
     ·exact(by simp[hn])
     refine kW ?_;refine kQ (cE) ?_;refine kC (cP) ?_;exact kF
   ·rw[if_neg h58]
    clear hp4;obtain⟨F,hF⟩:∃F,decide ps.Nodup=F:=⟨_,rfl⟩;obtain⟨G,hG⟩:∃G,decide cs.Nodup=G:=⟨_,rfl⟩;rw[hF]at cF ⊢;rw[hG]at cG ⊢;clear hF hG;cases F
    all_goals
     refine kV func17 ?_;refine kQ (cS) ?_;refine kQ (cA) ?_;refine kC (cB) ?_
     iterate 8 refine kO ?_
     refine kB false ?_ ?_
     ·exact(by simp[hn])
     refine kW ?_;refine kC (cE) ?_
     iterate 3 refine kG ?_
     refine kB false ?_ ?_
     ·exact(by simp;omega)
     refine kG ?_;refine kB false ?_ ?_
     ·exact(by simp;omega)
     refine kG ?_;refine kB false ?_ ?_
     ·exact(by simp;omega)
     refine kG ?_;refine kB false ?_ ?_
     ·exact(by simp;omega)
     refine kW ?_;refine kQ (cF) ?_
     try refine kC (cG) ?_
     try exact kF
section
attribute [local go_sem ↓] Go.wp_at_zero Go.wp_at_succ
def PE (l:List (List UInt8)):DV:= .leaf (.sl l.length (aF l))
theorem Kp (s b:List UInt8) (hl:s.length<4294967281):aa Tryz.prog 64 [dL s,dL b] (.tup [dL (Lib.cut s b).1,dL (Lib.cut s b).2.1,dB (Lib.cut s b).2.2]):=
 ⟨av func64 rfl rfl,fun S w vs hS hv=>by
  match vs,hv with
  | [v,u],⟨h1,h2,_⟩=>
   obtain rfl:=aT h1;obtain rfl:=aT h2;obtain⟨m,hm⟩:=hS.1.vars.1;refine(Tryz.strings_Cut (Bs s) (Bs b) m w (by rw[aw];exact hl) hm).mono ?_;rintro e w' ⟨rfl,n,rfl⟩;refine⟨_,rfl,⟨[.string (Bs (Lib.cut s b).1), .string (Bs (Lib.cut s b).2.1), .bool (Lib.cut s b).2.2],rfl,rfl,fun i x u h1 h2=>?_⟩,Below.drewN (Below.refl _ _) n⟩
   match i with
   |0=>simp at h1 h2;subst h1 h2;exact AV.M.val rfl
   |1=>simp at h1 h2;subst h1 h2;exact AV.M.val rfl
   |2=>simp at h1 h2;subst h1 h2;exact AV.M.val rfl
   |i+3=>simp at h1⟩
theorem DP {s b:List UInt8} (hb:b≠[]):(Lib.split s b).length=Lib.count s b+1:=by
 have key:∀n s,s.length<=n->(Lib.split s b).length=Lib.count s b+1:=by
  intro n
  induction n with
  |zero=>
   intro s hs;rcases Lib.index_spec s b with⟨h,_⟩| ⟨i,h,_⟩
   ·rw[lM h,Lib.count_miss h];rfl
   ·have hr:=Lib.index_room s b (by omega)
    have:=List.length_pos_iff.2 hb;omega
  |succ n ih=>
   intro s hs;rcases Lib.index_spec s b with⟨h,_⟩| ⟨i,h,_⟩
   ·rw[lM h,Lib.count_miss h];rfl
   ·have hr:=Lib.index_room s b (by omega)
    have:=List.length_pos_iff.2 hb;rw[tN hb h,Lib.count_hit hb h,List.length_cons,ih _ (by rw[List.length_drop];omega)];omega
 exact key _ s (Nat.le_refl _)
theorem vc (s b:List UInt8):(Lib.splitB (Bs b) 0 (Lib.countB (Bs s) (Bs b)) (Bs s)).map Value.string=(Lib.split s b).map vL:=by
 have h:=Lib.splitB_data (Bs b) 0 (Lib.countB (Bs s) (Bs b)) (Bs s);have e:Lib.splitK (Bs b).data.toList 0 (Lib.countB (Bs s) (Bs b)) (Bs s).data.toList=Lib.split s b:=rfl;rw[e]at h;rw[<- h,List.map_map];refine List.map_congr_left fun x _=>?_
 show Value.string x=Value.string (Bs x.data.toList);rw[NK]
theorem Is (s b:List UInt8) (hl:s.length<4294967281) (hb:b≠[]):aa Tryz.prog 65 [dL s,dL b] (.one (PE (Lib.split s b))):=
 ⟨av func65 rfl rfl,fun S w vs hS hv=>by
  match vs,hv with
  | [v,u],⟨h1,h2,_⟩=>
   obtain rfl:=aT h1;obtain rfl:=aT h2;obtain⟨m,hm⟩:=hS.1.vars.1;have hb1:=List.length_pos_iff.2 hb;have hcn:Lib.countB (Bs s) (Bs b)=Lib.count s b:=rfl;have hln:=DP (s:=s) hb;have hcl:=Lib.count_le s b;refine(Tryz.strings_Split (Bs s) (Bs b) m w (by rw[aw];exact hl) hm (by rw[aw];exact hb1)).mono ?_;rintro e w' ⟨rfl,rfl⟩;refine⟨_,rfl,?_,(Below.refl _ _).alloc (Nat.le_refl _) _⟩;rw[vc,hcn,<- hln];refine AV.M.sl (fun i=>((Lib.split s b).map vL).getD i (.bool false)) (Nat.le_refl _) (by omega) (fun h=>Nat.lt_irrefl _ (hS.blk _ h).1) (by show w.heap.size<(w.heap.push _).size;simp) (fun i a hi=>?_) (fun i a hi=>?_)
   ·rw[Nat.zero_add,World.cell?_alloc_new]
    have:=(List.getElem?_eq_some_iff.1 hi).1
    simp only[aF,List.length_map]at this
    simp[this]
   ·have:=(List.getElem?_eq_some_iff.1 hi).1
    simp only[aF,List.length_map]at this
    simp[aF,this]at hi
    subst hi
    simp[this]
    exact AV.M.val rfl⟩
theorem Jw (l:List (List UInt8)) (b:List UInt8) (h0:l≠[]) (hN:l.length<=1000000) (hj:(Lib.join l b).length<=1000000000):aa Tryz.prog 62 [PE l,dL b] (.one (dL (Lib.join l b))):=
 ⟨av func62 rfl rfl,fun S w vs hS hv=>by
  match vs,hv with
  | [v,u],⟨h1,h2,_⟩=>
   obtain rfl:=aT h2;have h1:AV.M S w (.sl l.length (aF l)) v:=h1;generalize hr:aF l=rr at h1;cases h1 with
   |emp=>cases l with
    |nil=>exact absurd rfl h0
    |cons a r=>simp[aF]at hr
   |sl f e1 e2 e3 e4 hc hm=>
    subst hr
    rename_i bk off c
    have hml:(l.map Bs).map (·.data.toList)=l:=by rw[List.map_map];exact List.map_id _
    have hcell:∀(j:Nat) x,(l.map Bs)[j]? =some x->w.cell? ⟨bk,off+j,none⟩=some (.string x):=fun j x hx=>by
     have hj:=(List.getElem?_eq_some_iff.1 hx).1;rw[List.length_map]at hj;have hrow:(aF l)[j]? =some (.val (vL l[j])):=by simp[aF,hj]
     rw[hc j _ hrow,aT (hm j _ hrow)]
     simp[hj]at hx
     rw[<- hx];rfl
    have:=Tryz.strings_Join bk off c (l.map Bs) (Bs b) w hcell e4 (by rw[List.length_map];omega) (by rw[List.length_map];exact e1) (by rw[hml];exact Nat.le_trans hj (by decide));rw[List.length_map,hml]at this;refine this.mono ?_;rintro e w' ⟨rfl,hb⟩;exact⟨_,rfl,AV.M.val rfl,hb⟩⟩
def Ey (x:UInt8) (s:List UInt8):Int:=match Lib.atoiAll (Lib.trimPrefix s [x])with
 | .ok v=>v
 | .syntax=>0
 | .range=>Lib.atoiSat (Lib.trimPrefix s [x])
theorem NV {x:UInt8} {s:List UInt8} (h:Lib.hasPrefix s [x]=false):LK x s=none:=by
 cases s with
 |nil=>rfl
 |cons c r=>
  unfold LK;dsimp only;rw[if_neg];intro e;subst e
  simp[Lib.hasPrefix,List.isPrefixOf]at h
theorem Ks {x:UInt8} {s:List UInt8} (h:Lib.hasPrefix s [x]=true):LK x s=match Lib.atoiAll (Lib.trimPrefix s [x])with
 | .ok v=>some v
 |_=>none:=by
 cases s with
 |nil=>cases h
 |cons c r=>
  have e:x=c:=by simpa[Lib.hasPrefix,List.isPrefixOf]using h
  subst e;unfold Lib.trimPrefix;rw[if_pos h];unfold LK;dsimp only;rw[if_pos rfl];rfl
theorem wS (w:World) (e:TypeId) (t:ByteArray):Below w.heap.size w (Lib.bytesWorld w e t):=Lib.bytesWorld_below w e t
theorem Ki (S:Nat->Prop) (x:UInt8) (s t:List UInt8) (b:Bool) (w:World) (hw:bP S w) (hl:s.length<=1000000) (hp:Lib.hasPrefix s [x]=b) (ht:Lib.trimPrefix s [x]=t) {v:Int}(ha:Lib.atoiAll t= .ok v):
 Calls Tryz.prog 66 #[.string (Bs s), .string (Bs [x])] w fun e w'=>e= .returned (.tuple #[.int .i64 v, .bool (b && true)])/\Below w.heap.size w w':=by
 have htl:(Lib.trimPrefix s [x]).length<=s.length:=by unfold Lib.trimPrefix;split <;>simp
 have h1:=Tryz.strings_CutPrefix (Bs s) (Bs [x]) w;rw[show(Bs s).data.toList=s from rfl,show(Bs [x]).data.toList=[x] from rfl,hp,ht]at h1;rw[ht]at htl;clear ht hp;obtain⟨_,⟨ev,hev,hev2⟩,ev2,hev3,hev4⟩:=hw.tab.vars;have h2:=Tryz.strconv_Atoi_ok (Bs t) (by rw[aw];omega) v ha w;cases b
 all_goals
  go_enter func66,ntmps66
  go_wp2_with first|(go_at_call 109;refine h1.mono ?_;rintro e w' ⟨rfl,rfl⟩)|(go_at_call 110;refine h2.mono ?_;rintro e w' ⟨rfl,hw'⟩)
  go_quiet (fail)
  go_wp2_with fail
  go_ret2
  exact⟨rfl,Below.drewN ((by rcases hw' with rfl| ⟨tb,rfl⟩;exact Below.refl _ _;exact wS _ _ _)) _⟩
theorem JB (S:Nat->Prop) (x:UInt8) (s t:List UInt8) (b:Bool) (w:World) (hw:bP S w) (hl:s.length<=1000000) (hp:Lib.hasPrefix s [x]=b) (ht:Lib.trimPrefix s [x]=t) (ha:Lib.atoiAll t= .syntax):
 Calls Tryz.prog 66 #[.string (Bs s), .string (Bs [x])] w fun e w'=>e= .returned (.tuple #[.int .i64 0, .bool (b && false)])/\Below w.heap.size w w':=by
 have htl:(Lib.trimPrefix s [x]).length<=s.length:=by unfold Lib.trimPrefix;split <;>simp
 have h1:=Tryz.strings_CutPrefix (Bs s) (Bs [x]) w;rw[show(Bs s).data.toList=s from rfl,show(Bs [x]).data.toList=[x] from rfl,hp,ht]at h1;rw[ht]at htl;clear ht hp;obtain⟨_,⟨ev,hev,hev2⟩,ev2,hev3,hev4⟩:=hw.tab.vars;have h2:=Tryz.strconv_Atoi_syntax (Bs t) (by rw[aw];omega) ha ev w hev hev2;cases b
 all_goals
  go_enter func66,ntmps66
  go_wp2_with first|(go_at_call 109;refine h1.mono ?_;rintro e w' ⟨rfl,rfl⟩)|(go_at_call 110;refine h2.mono ?_;rintro e w' ⟨N,rfl,_,_,hw'⟩)
  go_quiet (fail)
  go_wp2_with fail
  go_ret2
  exact⟨rfl,Below.drewN (hw') _⟩
theorem J6 (S:Nat->Prop) (x:UInt8) (s t:List UInt8) (b:Bool) (w:World) (hw:bP S w) (hl:s.length<=1000000) (hp:Lib.hasPrefix s [x]=b) (ht:Lib.trimPrefix s [x]=t) (ha:Lib.atoiAll t= .range):
 Calls Tryz.prog 66 #[.string (Bs s), .string (Bs [x])] w fun e w'=>e= .returned (.tuple #[.int .i64 (Lib.atoiSat t), .bool (b && false)])/\Below w.heap.size w w':=by
 have htl:(Lib.trimPrefix s [x]).length<=s.length:=by unfold Lib.trimPrefix;split <;>simp
 have h1:=Tryz.strings_CutPrefix (Bs s) (Bs [x]) w;rw[show(Bs s).data.toList=s from rfl,show(Bs [x]).data.toList=[x] from rfl,hp,ht]at h1;rw[ht]at htl;clear ht hp;obtain⟨_,⟨ev,hev,hev2⟩,ev2,hev3,hev4⟩:=hw.tab.vars;have h2:=Tryz.strconv_Atoi_range (Bs t) (by rw[aw];omega) ha ev2 w hev3 hev4;cases b
 all_goals
  go_enter func66,ntmps66
  go_wp2_with first|(go_at_call 109;refine h1.mono ?_;rintro e w' ⟨rfl,rfl⟩)|(go_at_call 110;refine h2.mono ?_;rintro e w' ⟨N,rfl,_,_,hw'⟩)
  go_quiet (fail)
  go_wp2_with fail
  go_ret2
  exact⟨rfl,Below.drewN (hw') _⟩
theorem gb (x:UInt8) (s:List UInt8) (hl:s.length<=1000000):aa Tryz.prog 66 [dL s,dL [x]] (.tup [dN .i64 (Ey x s),dB (LK x s).isSome]):=
 ⟨av func66 rfl rfl,fun S w vs hS hv=>by
  match vs,hv with
  | [v,u],⟨h1,h2,_⟩=>
   obtain rfl:=aT h1;obtain rfl:=aT h2
   have key:Calls Tryz.prog 66 #[.string (Bs s), .string (Bs [x])] w fun e w'=>e= .returned (.tuple #[.int .i64 (Ey x s), .bool (LK x s).isSome])/\Below w.heap.size w w':=by
    obtain⟨b,hp⟩:∃b,Lib.hasPrefix s [x]=b:=⟨_,rfl⟩
    have hi:(LK x s).isSome=(b && match Lib.atoiAll (Lib.trimPrefix s [x])with
     | .ok _=>true
     |_=>false):=by
     cases b with
     |false=>rw[NV hp];rfl
     |true=>rw[Ks hp];cases Lib.atoiAll (Lib.trimPrefix s [x])<;>rfl
    rw[hi];unfold Ey;cases ha:Lib.atoiAll (Lib.trimPrefix s [x])with
    |ok v=>exact Ki S x s _ b w hS hl hp rfl ha
    | «syntax» =>exact JB S x s _ b w hS hl hp rfl ha
    |range=>exact J6 S x s _ b w hS hl hp rfl ha
   refine key.mono ?_;rintro e w' ⟨rfl,hb⟩;refine⟨_,rfl,⟨[.int .i64 (Ey x s), .bool (LK x s).isSome],rfl,rfl,fun i x u h1 h2=>?_⟩,hb⟩
   match i with
   |0=>simp at h1 h2;subst h1 h2;exact AV.M.val rfl
   |1=>simp at h1 h2;subst h1 h2;exact AV.M.val rfl
   |i+2=>simp at h1⟩
theorem pZ (k:Int):aa Tryz.prog 61 [dN .i64 k] (.tup [dL (PN k),dL (PC k)]):=by
 by_cases h:k=17
 ·subst h
  refine kU func61 ?_;exact ar
 ·unfold PN PC
  rw[if_neg h,if_neg h];refine kU func61 ?_;refine S8 ?_;exact TP
end
theorem Px:(ko.all fun r=>decide (r.p<=4) && (decide (r.c<=2) && (decide (r.n<=2) && decide (r.nm.length<=20))))=true:=by decide
theorem Lb {k:Int} {r:Kd} (h:nh k=some r):r.p<=4/\r.c<=2/\r.n<=2/\r.nm.length<=20:=by
 obtain⟨_,_,h3⟩:=xn h;have:=List.all_eq_true.1 Px r (List.mem_of_getElem? h3)
 simpa using this
theorem ws (ts:List L8) (t:L8):Fl (ts++[t])=Fl ts++((if ts=[]then [32,61,32]else [44,32])++t):=by
 have hj:∀ts:List L8,ts≠[]->Lib.join (ts++[t]) [44,32]=Lib.join ts [44,32]++([44,32]++t):=by
  intro ts
  induction ts with
  |nil=>exact fun h=>absurd rfl h
  |cons a r ih=>
   intro _;cases r with
   |nil=>rw[List.cons_append,List.nil_append,m7,Lib.join_one,Lib.join_one]
   |cons b r=>rw[List.cons_append,List.cons_append,m7,m7,<- List.cons_append,ih (by simp)];simp
 unfold Fl;rw[if_neg (by simp)]
 by_cases h:ts=[]
 ·subst h;rw[if_pos rfl,if_pos rfl,List.nil_append,Lib.join_one];rfl
 ·rw[if_neg h,if_neg h,hj ts h];simp
theorem GJ (ts:List L8):∀us,(Fl ts).length<=(Fl (ts++us)).length
 | []=>by rw[List.append_nil];exact Nat.le_refl _
 |u::us=>by
  have:=GJ (ts++[u]) us;rw[ws,List.length_append,List.append_assoc]at this;exact Nat.le_trans (Nat.le_add_right _ _) this
theorem yx (ts:List L8) (i:Nat):(Fl (ts.take i)).length<=(Fl ts).length:=by
 have:=GJ (ts.take i) (ts.drop i)
 rwa[List.take_append_drop]at this
theorem NB (t:List (Nat × TV)) (b:List (Nat × Option (List AV))) (G:List L8) (x:L8):(⟨(4, .d (PE (G++[x])))::t,b⟩:AS)=⟨(4, .d (.leaf (.sl (G.length+1) ((aF G).take (G.length*1)++[.val (vL x)]))))::t,b⟩:=by
 unfold PE;rw[BH,List.length_append];rfl
theorem B9 {z:Int} (h0:0<=z) (h1:z<200):(fmt z).length<=3:=by
 obtain⟨n,rfl⟩:=Int.eq_ofNat_of_zero_le h0;rw[KP];unfold An
 split
 ·decide
 ·exact uq 3 n (by omega)
theorem MP (t:List (Nat × TV)) (b:List (Nat × Option (List AV))) (G:List L8) (x:L8):(⟨(4, .own 7001 (G++[x]).length 1 9)::t,(7001,some (aF (G++[x])))::b⟩:AS)=⟨(4, .own 7001 (G.length+1) 1 9)::t,(7001,some ((aF G).take (G.length*1)++[.val (vL x)]))::b⟩:=by
 rw[BH,List.length_append];rfl
theorem l9 {c:Cn} {r:Kd} (h:Sb c r 200 200) (tx:Rx->L8) (cV:aa Tryz.prog 17 [dC c,dN .i64 200,dN .i64 200] (.one (dB true))) (cF:∀x∈c.vs,aa Tryz.prog 63 [dR x] (.tup [dL (tx x),dN .i64 0])) (hlen:(Ez r c (c.vs.map tx)).length<=65536) (h3:c.vs.length<=1000000):
 aa Tryz.prog 25 [dC c] (.tup [dL (Ez r c (c.vs.map tx)),dN .i64 0]):=by
 have hd:=Lb h.k;have hpl:=h.pl;have hcl:=h.cl;have cN:=tX c.k;rw[h.k]at cN;have cN:aa Tryz.prog 14 [dN .i64 c.k] (.one (dL r.nm)):=cN;have cS:=pZ c.k;have hs:=Es h.s;have hp:=h.p;have hq:=h.c;clear h;obtain⟨k,ps,cs,vs,s⟩:=c;dsimp only at *;show aa Tryz.prog _ [.agg (cC k ps cs vs s)] _;have cV:aa Tryz.prog 17 [.agg (cC k ps cs vs s),dN .i64 200,dN .i64 200] (.one (dB true)):=cV;refine kV func25 ?_;refine kQ (cV) ?_;refine kC (cN) ?_;refine Bo 7001 (cs:=[.val (vL r.nm)]) ac rfl rfl rfl rfl rfl rfl rfl rfl rfl rfl rfl rfl rfl ?_;refine kW ?_
 refine ax (Nat × List L8) (fun x=>x.1<=ps.length/\x.2=r.nm::(ps.take x.1).map KX) (fun x=>⟨[(4, .own 7001 x.2.length 1 9),(1, .box 0 0),(24, .d (oX ps)),(25, .d (dN .i64 ps.length)),(26, .d (dN .i64 x.1))],[(7001,some (aF x.2)),(0,some (cC k ps cs vs s))]⟩) (fun x=>ps.length-x.1) (0,[r.nm]) ⟨Nat.zero_le _,rfl⟩ kw ?_;rintro⟨i,G⟩ ⟨hi,hG⟩;dsimp only at hi hG ⊢;refine kI ?_
 by_cases hlt:i<ps.length
 ·refine kT ?_
  have hz:=hp _ (List.getElem_mem hlt);have hat:=ef (List.getElem?_eq_getElem hlt);have hG2:G++[KX ps[i]]=r.nm::(ps.take (i+1)).map KX:=by rw[hG,b8 (List.getElem?_eq_getElem hlt),List.map_append];rfl
  have hGl:G.length=i+1:=by rw[hG];simp;omega
  generalize ps[i]=z at *;have cI:=AZ (p:=z) (by omega) (by omega);refine NC ?_;refine aD rfl rfl rfl rfl rfl rfl rfl (eg (a:=[112]) (b:=fmt z) (by have:=B9 hz.1 hz.2;simp;omega)) ?_;refine Nh ?_;refine⟨(i+1,G++[KX z]),⟨hlt,hG2⟩,by dsimp only;omega,Eq.mpr (congrArg (aL _) (MP _ _ G (KX z))) ?_⟩;exact aL.trans (b:=⟨[(4, .own 7003 (G.length+1) 1 9),(1, .box 0 0),(24, .d (oX ps)),(25, .d (dN .i64 ps.length)),(26, .d (dN .i64 (i+1:Nat)))],[(7003,some ((aF G).take (G.length*1)++[.val (vL (KX z))])),(0,some (cC k ps cs vs s))]⟩) (weak ⟨rfl,rfl,rfl,rfl,aA (by omega) (by omega),trivial⟩ ⟨rfl,rfl,trivial⟩ rfl) ((aK (q:=4) (j:=7003) (j':=7001) rfl rfl rfl rfl).trans kw)
 refine kE ?_;rw[List.take_of_length_le (by omega)]at hG;refine kW ?_;refine ax (Nat × List L8) (fun x=>x.1<=cs.length/\x.2=r.nm::(ps.map KX++(cs.take x.1).map OV)) (fun x=>⟨[(4, .own 7001 x.2.length 1 9),(1, .box 0 0),(38, .d (oX cs)),(39, .d (dN .i64 cs.length)),(40, .d (dN .i64 x.1))],[(7001,some (aF x.2)),(0,some (cC k ps cs vs s))]⟩) (fun x=>cs.length-x.1) (0,G) ⟨Nat.zero_le _,by rw[hG];simp⟩ kw ?_;clear hlt hi hG i G;rintro⟨i,G⟩ ⟨hi,hG⟩;dsimp only at hi hG ⊢;refine kI ?_
 by_cases hlt:i<cs.length
 ·refine kT ?_
  have hz:=hq _ (List.getElem_mem hlt);have hat:=ef (List.getElem?_eq_getElem hlt);have hG2:G++[OV cs[i]]=r.nm::(ps.map KX++(cs.take (i+1)).map OV):=by rw[hG,b8 (List.getElem?_eq_getElem hlt),List.map_append,<- List.append_assoc];rfl
  have hGl:G.length=i+ps.length+1:=by rw[hG];simp;omega
  generalize cs[i]=z at *;have cI:=AZ (p:=z) (by omega) (by omega);refine NC ?_;refine aD rfl rfl rfl rfl rfl rfl rfl (eg (a:=[99]) (b:=fmt z) (by have:=B9 hz.1 hz.2;simp;omega)) ?_;refine Nh ?_;refine⟨(i+1,G++[OV z]),⟨hlt,hG2⟩,by dsimp only;omega,Eq.mpr (congrArg (aL _) (MP _ _ G (OV z))) ?_⟩;exact aL.trans (b:=⟨[(4, .own 7003 (G.length+1) 1 9),(1, .box 0 0),(38, .d (oX cs)),(39, .d (dN .i64 cs.length)),(40, .d (dN .i64 (i+1:Nat)))],[(7003,some ((aF G).take (G.length*1)++[.val (vL (OV z))])),(0,some (cC k ps cs vs s))]⟩) (weak ⟨rfl,rfl,rfl,rfl,aA (by omega) (by omega),trivial⟩ ⟨rfl,rfl,trivial⟩ rfl) ((aK (q:=4) (j:=7003) (j':=7001) rfl rfl rfl rfl).trans kw)
 refine kE ?_;rw[List.take_of_length_le (by omega)]at hG;have hGl:G.length=cs.length+ps.length+1:=by rw[hG];simp;omega
 have hW:R5 r ⟨k,ps,cs,vs,s⟩=G++JN ⟨k,ps,cs,vs,s⟩:=by rw[hG];unfold R5;simp
 have hwl:(JN ⟨k,ps,cs,vs,s⟩).length<=1:=by unfold JN;split;exact Nat.le_refl _;split;exact Nat.le_refl _;exact Nat.zero_le _
 have hjl:(Lib.join (G++JN ⟨k,ps,cs,vs,s⟩) [32]).length<=65536:=by rw[<- hW];unfold Ez at hlen;rw[List.length_append]at hlen;omega
 have cJ:=Jw (G++JN ⟨k,ps,cs,vs,s⟩) [32] (by intro e;rw[List.append_eq_nil_iff]at e;rw[e.1]at hGl;simp at hGl) (by rw[List.length_append];omega) (by omega);unfold Ez at hlen ⊢;rw[hW]at hlen ⊢;refine kW ?_;refine kC (cS) ?_;refine kN ?_;refine pO ⟨[(4, .d (PE (G++JN ⟨k,ps,cs,vs,s⟩))),(1, .box 0 0)],[(0,some (cC k ps cs vs s))]⟩ (fun s' hw=>?_) (fun R hR hret=>?_)
 ·generalize G++JN ⟨k,ps,cs,vs,s⟩=W at *
  refine bl ?_;refine eW hw rfl ?_;refine kO ?_;refine kQ (cJ) ?_;refine ax (Nat × L8) (fun x=>x.1<=vs.length/\x.2=Lib.join W [32]++Fl ((vs.take x.1).map tx)) (fun x=>⟨[(11, .d (dL x.2)),(74, .d (.leaf (.sl vs.length (eE vs)))),(75, .d (dN .i64 vs.length)),(76, .d (dN .i64 x.1))],[]⟩) (fun x=>vs.length-x.1) (0,Lib.join W [32]) ⟨Nat.zero_le _,by simp[Fl]⟩ kw ?_;clear hlt hi hG hGl hW i G;rintro⟨i,u⟩ ⟨hi,hu⟩;dsimp only at hi hu ⊢;refine kI ?_
  have hul:u.length<=65536:=by
   have:=yx (vs.map tx) i;rw[List.length_append]at hlen;rw[hu,List.length_append,List.map_take];omega
  by_cases hlt:i<vs.length
  ·refine kT ?_
   obtain⟨x,hx⟩:∃x,vs[i]? =some x:=⟨vs[i],by simp[hlt]⟩;have c1:=cF x (List.mem_of_getElem? hx);have hat:=eu vs i x hx
   have hu2:u++((if i=0 then [32,61,32]else [44,32])++tx x)=Lib.join W [32]++Fl ((vs.take (i+1)).map tx):=by
    rw[b8 hx,List.map_append,List.map_cons,List.map_nil,ws,hu,List.append_assoc]
    congr 3
    by_cases h0:i=0
    ·subst h0;rfl
    ·rw[if_neg h0,if_neg (by simp;exact⟨h0,fun e=>by rw[e]at hlt;simp at hlt⟩)]
   have hul2:u.length+(tx x).length<=65536:=by
    have h1:=congrArg List.length hu2;have:=yx (vs.map tx) (i+1);rw[List.length_append]at hlen;rw[List.length_append,List.length_append,List.length_append,List.map_take]at h1;omega
   obtain⟨o1,na1,xs1,nb1,ys1,nm1,n1',cs1,hX⟩:=aM x;rw[show dR x= .agg (ab o1 na1 xs1 nb1 ys1 nm1 n1' cs1) from congrArg DV.agg hX]at c1;rw[hX]at hat;generalize tx x=t at *;refine kW ?_;refine MK ?_;refine kW ?_;refine kC (c1) ?_
   iterate 2 refine kG ?_
   refine kO ?_
   by_cases h0:i=0
   ·rw[if_pos h0]at hu2
    refine kB true ?_ ?_
    ·exact(by simp[h0])
    refine kG ?_
    refine kO2 ?_
    refine aD rfl rfl rfl rfl rfl rfl rfl (eg (a:=[32,61,32]) (b:=t) (by simp;omega)) ?_;refine aD rfl rfl rfl rfl rfl rfl rfl (eg (a:=u) (b:=[32,61,32]++t) (by simp;omega)) ?_;refine kW ?_;exact⟨(i+1,u++([32,61,32]++t)),⟨hlt,hu2⟩,by dsimp only;omega,weak ⟨rfl,rfl,rfl,aA (by omega) (by omega),trivial⟩ trivial rfl⟩
   ·rw[if_neg h0]at hu2
    refine kB false ?_ ?_
    ·exact(by simp[h0])
    refine kG ?_
    refine kO2 ?_
    refine aD rfl rfl rfl rfl rfl rfl rfl (eg (a:=[44,32]) (b:=t) (by simp;omega)) ?_;refine aD rfl rfl rfl rfl rfl rfl rfl (eg (a:=u) (b:=[44,32]++t) (by simp;omega)) ?_;refine kW ?_;exact⟨(i+1,u++([44,32]++t)),⟨hlt,hu2⟩,by dsimp only;omega,weak ⟨rfl,rfl,rfl,aA (by omega) (by omega),trivial⟩ trivial rfl⟩
  ·have hsz:=aw u
   refine kE ?_;rw[List.take_of_length_le (by omega)]at hu;refine kG ?_
   refine kO2 ?_
   refine kE ?_;refine SW ?_;rw[hu];rfl
 ·clear hret cJ cF hlen hjl hwl
  rcases hs with rfl|rfl|rfl
  ·refine MW ?_
   refine hR _ (Eq.mpr (congrArg (aL _) (NB _ _ G (PN k))) ?_);exact aL.trans (bR (q:=4) rfl rfl) kw
  ·refine MW ?_
   refine hR _ (Eq.mpr (congrArg (aL _) (NB _ _ G (PC k))) ?_);exact aL.trans (bR (q:=4) rfl rfl) kw
  ·refine kW ?_
   rw[show G++JN ⟨k,ps,cs,vs,0⟩=G from List.append_nil G]at hR;exact hR _ (aL.trans (bR (q:=4) rfl rfl) kw)
section
variable {P:Program} {T:TypeId->Option Ty} {n:Nat} {ops:Array Oper} {id:Nat} {draw:Bool} {K:AS->Prop} {s:AS} {k:Nat} {o:Oper} {os:List Oper} {fps:List FP}
theorem IU {t:TypeId} {ty:Ty} {parts:Array (Nat × Operand)} {l:List (Nat × DV)} {cs:List AV} (hT:aO P t ty) (hag:ty.flds≠[]) (h1:gd ops s o=some true) (ho:o.op= .build t parts) (hp:dX s parts.toList=some l) (hf:l4 (uS ty) ty.zero l=some cs)
 (h3:aB n o.dst=true) (h4:eZ draw ops (au ops o ⟨.d (.agg cs),none⟩ []) k fps=true) (h:ak P T n ops id draw K (k+1) os (s.eff o.dst ⟨.d (.agg cs),none⟩) (au ops o ⟨.d (.agg cs),none⟩ []::fps)):ak P T n ops id draw K k (o::os) s fps:=by
 refine .run h1 (.gen fun s2 ht2 _=>?_) h3 h4 h
 have hp2:dX s2 parts.toList=some l:=by
  rw[<- hp];have:∀x∈parts.toList,s2.ev x.2=s.ev x.2:=fun x hx=>aq ht2 (by rw[ho];simp only[Op.operands];simp;exact⟨x.1,by simpa using hx⟩)
  generalize parts.toList=ps at this;clear hp hf
  induction ps with
  |nil=>rfl
  |cons x r ih=>
   simp only[dX]
   rw[this x (by simp),ih fun y hy=>this y (by simp[hy])]
 exact og hT ho hag hp2 hf
end
def S9:Ty:=⟨true,5,88,[.val (.int .i64 0), .nl, .nl, .nl, .val (.int .i64 0)],[(0,1,false),(1,1,false),(2,1,false),(3,1,false),(4,1,false)],none,false,false,none⟩
theorem OE:aO Tryz.prog 30 S9:=by
 have h:=ac 30 _ rfl;refine⟨h.size,h.bytes,h.und,⟨.agg #[.int .i64 0, .slice none 0 0, .slice none 0 0, .slice none 0 0, .int .i64 0],by kernel_rfl,fun S w=>?_⟩,rfl⟩;exact CM.cons (.val rfl) (CM.cons .nl (CM.cons .nl (CM.cons .nl (CM.cons (.val rfl) (CM.nil _ _)))))
end Go.Proofs.YtnchbpoopnjghaaGreatDoor
