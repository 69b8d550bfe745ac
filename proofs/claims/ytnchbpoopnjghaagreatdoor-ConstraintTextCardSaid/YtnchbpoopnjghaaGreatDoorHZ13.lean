/- Parts of a proof: contracts of the functions that the laws reach. -/
import Derived.Test.YtnchbpoopnjghaaGreatDoorHZ12
set_option maxHeartbeats 100000000
set_option linter.all false
open Go.Proofs.Tryz
namespace Go.Proofs.YtnchbpoopnjghaaGreatDoor
open Go.RowKit
def RH (r:Kd):List AV:=[.val (.int .i64 r.p), .val (.int .i64 r.c), .val (.int .i64 r.n), .val (.int .i64 r.q), .val (.bool r.s), .val (.bool (Nat.beq r.v 1 || Nat.beq r.v 2)), .val (.bool (Nat.beq r.v 2))]
def Uv:List AV:=[.val (.int .i64 0), .val (.int .i64 0), .val (.int .i64 0), .val (.int .i64 0), .val (.bool false), .val (.bool false), .val (.bool false)]
def VV (o:Option Kd):RV:=match o with
 |some r=> .tup [.agg (RH r),dB true]
 |none=> .tup [.agg Uv,dB false]
def V1 (o:Option Kd):List UInt8:=match o with
 |some r=>r.nm
 |none=>[]
theorem xh {α:Type} {f:α->List AV} {q:Nat} (hf:∀x,(f x).length=q):∀(l:List α) (i:Nat) (x:α),l[i]? =some x-> ∀(j:Nat) (a:AV),(f x)[j]? =some a->(l.flatMap f)[i*q+j]? =some a
 | [],i,x,h,_,_,_=>by simp at h
 |y::l,0,x,h,j,a,ha=>by
  simp at h
  subst h
  simp only[List.flatMap_cons,Nat.zero_mul,Nat.zero_add]
  exact Ot
 |y::l,i+1,x,h,j,a,ha=>by
  simp only[List.flatMap_cons]
  have e:(i+1)*q+j-q=i*q+j:=by rw[Nat.add_mul];omega
  rw[List.getElem?_append_right (by rw[hf,Nat.add_mul];omega),hf,e];exact xh hf l i x (by simpa using h) j a ha
theorem Aj {k:Int} (h:k<1):pL k=none:=by unfold pL;rw[if_neg (by omega)]
theorem BI {k:Int} (h:17<k):pL k=none:=by unfold pL;rw[if_neg (by omega)]
theorem qp {i:Nat} (h1:1<=i) (h2:i<=17):∃r,pL (i:Int)=some r/\mZ[i-1]? =some r:=by
 have hl:i-1<mZ.length:=by rw[Ej];omega
 refine⟨mZ[i-1],?_,by simp[hl]⟩;unfold pL;rw[if_pos (by omega),Int.toNat_natCast]
 simp[hl]
theorem PU {i:Nat} {r:Kd} (h1:1<=i) (h:mZ[i-1]? =some r):∀(j:Nat) (a:AV),(P8 r)[j]? =some a->(P8 ⟨[],0,0,0,0,0,false⟩++mZ.flatMap P8)[i*8+j]? =some a:=fun j a ha=>by
 have hf:=xh (f:=P8) (q:=8) (fun _=>rfl) mZ (i-1) r h j a ha;rw[List.getElem?_append_right (by show 8<=_;omega)];have e:i*8+j-(P8 ⟨[],0,0,0,0,0,false⟩).length=(i-1)*8+j:=by show i*8+j-8=_;omega
 rw[e];exact hf
theorem gE:(Tryz.prog.info? 72).map (·.size)=some 8:=by kernel_rfl
theorem nr (k:Int):aa Tryz.prog 30 [dN .i64 k] (VV (pL k)):=by
 by_cases h1:k<1
 ·rw[Aj h1]
  refine kU func30 ?_;exact IM
 ·by_cases h2:17<k
  ·rw[BI h2]
   refine kU func30 ?_;refine zJ ?_;refine kT ?_;exact ap
  ·obtain⟨i,rfl⟩:=Int.eq_ofNat_of_zero_le (show 0<=k by omega)
   obtain⟨r,hr,hi⟩:=qp (i:=i) (by omega) (by omega);rw[hr];refine kU func30 ?_;refine zJ ?_;refine IA ?_;exact ap
theorem FA (k:Int):aa Tryz.prog 14 [dN .i64 k] (.one (dL (V1 (pL k)))):=by
 by_cases h1:k<1
 ·rw[Aj h1]
  refine kU func14 ?_;exact IM
 ·by_cases h2:17<k
  ·rw[BI h2]
   refine kU func14 ?_;refine zJ ?_;refine kT ?_;exact ap
  ·obtain⟨i,rfl⟩:=Int.eq_ofNat_of_zero_le (show 0<=k by omega)
   obtain⟨r,hr,hi⟩:=qp (i:=i) (by omega) (by omega);rw[hr];refine kU func14 ?_;refine zJ ?_;refine IA ?_;exact ap
theorem Qx {s:List UInt8} {i:Nat} {r:Kd} (h1:1<=i) (hr:mZ[i-1]? =some r) (hi:i-1<=mZ.findIdx (fun r=>decide (r.nm=s))):(r.nm=s->tB s=i)/\(r.nm≠s->i<=mZ.findIdx (fun r=>decide (r.nm=s))):=by
 have hl:=(List.getElem?_eq_some_iff.1 hr).1;have hl':=hl;rw[Ej]at hl';refine⟨fun e=>?_,fun e=>?_⟩
 ·have h2:mZ.findIdx (fun r=>decide (r.nm=s))=i-1:=by
   refine Nat.le_antisymm (Nat.le_of_not_lt fun h=>?_) hi;have:=List.not_of_lt_findIdx h;have e2:=(List.getElem?_eq_some_iff.1 hr).2;rw[e2]at this
   simp[e]at this
  unfold tB;rw[h2,if_pos (by omega)];omega
 ·refine Nat.le_of_not_lt fun h=>?_
  have h2:mZ.findIdx (fun r=>decide (r.nm=s))=i-1:=by omega
  have h3:=List.findIdx_getElem (p:=fun r:Kd=>decide (r.nm=s)) (xs:=mZ) (w:=by rw[h2];exact hl)
  simp only[h2]at h3
  rw[(List.getElem?_eq_some_iff.1 hr).2]at h3;exact e (of_decide_eq_true h3)
theorem Q0 {s:List UInt8} (h:17<=mZ.findIdx (fun r=>decide (r.nm=s))):tB s=0:=by
 unfold tB;rw[if_neg (by omega)]
def UQ (k:Int):RV:= .tup [dN .i64 k,dB (decide (k≠0))]
theorem F8 (s:List UInt8):aa Tryz.prog 12 [dL s] (UQ (tB s)):=by
 have hat:= @Qx s;have hno:= @Q0 s;generalize mZ.findIdx (fun r=>decide (r.nm=s))=f at *;generalize tB s=z at *;refine kV func12 ?_;refine ay Nat (fun i=>1<=i/\i<=18/\i-1<=f) (fun i=>⟨[(0, .d (dL s)),(4, .d (dN .i64 i))],[]⟩) (fun i=>18-i) 1 ⟨Nat.le_refl _,by omega,Nat.zero_le _⟩ kw ?_;rintro i ⟨hi1,hi2,hif⟩;refine kI ?_;refine kO ?_
 by_cases hlt:i<=17
 ·refine kT ?_
  obtain⟨r,hr,hi⟩:=qp hi1 hlt;have hz:=hat hi1 hi hif;refine kG ?_;refine kO ?_;refine I8 (i:=i) (PU hi1 hi) underlying73 gE (by omega) rfl rfl rfl rfl rfl rfl ?_
  refine kO3 ?_
  by_cases e:r.nm=s
  ·refine aq rfl rfl rfl rfl rfl rfl rfl (bv (a:=r.nm) (b:=s) e) ?_
   refine fR ?_;rw[hz.1 e];unfold UQ;rw[decide_eq_true (show(i:Int)≠0 by omega)];rfl
  ·refine aq rfl rfl rfl rfl rfl rfl rfl (bL (a:=r.nm) (b:=s) e) ?_
   refine kW ?_;have:=hz.2 e;exact⟨i+1,⟨by omega,by omega,by omega⟩,by omega,weak ⟨rfl,an (by omega) (by omega),trivial⟩ trivial rfl⟩
 ·refine kE ?_
  refine fR ?_;rw[hno (by omega)];rfl
abbrev EZ (m:Int):List AV:=[.val (.int .i64 m)]
theorem wE {m:Int}:dp [(900,EZ m)] [(900,EZ m)]:=dp.one (Nat.le_refl 1)
theorem Aq (z m:Int):aw Tryz.prog 85 [.d (dN .i64 z), .box 900 0] [(900,EZ m)] (.v (.one (dB (!rT m z)))) [(900,EZ m)]:=by
 unfold rT
 by_cases h1:z<0
 ·rw[decide_eq_false (show ¬0<=z by omega)]
  refine qZ ?_;refine kT ?_;exact ju
 ·rw[decide_eq_true (show 0<=z by omega)]
  by_cases h2:z<m
  ·rw[decide_eq_true h2]
   refine qZ ?_;refine kE ?_
   refine kO3 ?_
   refine kE ?_;exact ju
  ·rw[decide_eq_false h2]
   refine qZ ?_;refine kE ?_
   refine kO3 ?_
   refine kT ?_;exact ju
theorem tQ {fid:FuncId} {p:Int->Bool} {m:Int} (l:List Int) (hp:∀x∈l,aw Tryz.prog fid [.d (dN .i64 x), .box 900 0] [(900,EZ m)] (.v (.one (dB (p x)))) [(900,EZ m)]) (hl:l.length<=1000000):aw Tryz.prog 124 [.d (pB l), .clo (.func fid) [] [.box 900 0]] [(900,EZ m)] (.v (.one (dN .i64 (if l.findIdx p<l.length then((l.findIdx p:Nat):Int)else -1)))) [(900,EZ m)]:=by
 have hf:=List.findIdx_le_length (p:=p) (xs:=l)
 have hn:∀(i:Nat) (hi:i<l.length),i<l.findIdx p->p l[i]=false:=fun i hi h=>by
  exact OD
 have hy:∀(h:l.findIdx p<l.length),p (l[l.findIdx p])=true:=fun h=>List.findIdx_getElem
 generalize l.findIdx p=f at *;refine aS ah dq func124 rfl rfl rfl rfl rfl (wE) ?_;refine kW ?_
 refine ay Nat (fun i=>i<=f) (fun i=>⟨[(0, .d (pB l)),(1, .clo (.func fid) [] [.box 900 0]),(4, .d (dN .i64 0)),(7, .d (dN .i64 l.length)),(8, .d (dN .i64 i))],[(900,some (EZ m))]⟩) (fun i=>l.length-i) 0 (Nat.zero_le _)
  kw ?_
 intro i hi;refine kI ?_
 by_cases hlt:i<l.length
 ·refine kT ?_
  have hx:l[i]? =some l[i]:=by simp[hlt]
  have c:=hp l[i] (List.getElem_mem hlt);have hni:=hn i hlt;have hyi:∀h:i=f,p l[i]=true:=fun h=>by subst h;exact hy hlt
  generalize l[i]=q at *;refine OW ?_;exact GE
 ·rw[if_neg (by omega)]
  refine kE ?_;exact ju
theorem ou {fid:FuncId} {p:Int->Bool} {m:Int} (l:List Int) (hp:∀x∈l,aw Tryz.prog fid [.d (dN .i64 x), .box 900 0] [(900,EZ m)] (.v (.one (dB (p x)))) [(900,EZ m)]) (hl:l.length<=1000000):aw Tryz.prog 84 [.d (pB l), .clo (.func fid) [] [.box 900 0]] [(900,EZ m)] (.v (.one (dB (l.any p)))) [(900,EZ m)]:=by
 have c:=tQ l hp hl
 have hlt:(l.findIdx p<l.length)↔l.any p=true:=by
  rw[List.any_eq_true];exact List.findIdx_lt_length
 cases hb:l.any p with
 |true=>
  rw[if_pos (hlt.2 hb)]at c;refine aS ah dq func84 rfl rfl rfl rfl rfl (wE) ?_;refine kW ?_;refine kD (c) ?_;refine kT ?_;exact ju
 |false=>
  rw[if_neg (fun h=>by rw[hlt.1 h]at hb;cases hb)]at c;refine aS ah dq func84 rfl rfl rfl rfl rfl (wE) ?_;refine kW ?_;refine kD (c) ?_;exact ju
theorem oQ (l:List Int) (n m:Int) (hl:l.length<=1000000):aa Tryz.prog 41 [pB l,dN .i64 n,dN .i64 m] (.one (dB (decide ((l.length:Int)=n) && l.all (rT m)))):=by
 have c:=(ou (fid:=85) (p:=fun z=>!rT m z) (m:=m) l (fun x _=>Aq x m) hl).swap 900 0 rfl;rw[show l.any (fun z=>!rT m z)=!l.all (rT m) by rw[List.not_all_eq_any_not]]at c
 by_cases h:(l.length:Int)=n
 ·rw[decide_eq_true h]
  generalize l.all (rT m)=b at *;cases b
  all_goals(
   refine kU func41 ?_;refine kR ?_;refine kI ?_
   refine kO3 ?_
   refine kB true ?_ ?_
   ·exact(by simp[h])
   refine kO3 ?_
   refine kD (c) ?_;exact kF)
 ·rw[decide_eq_false h]
  refine kU func41 ?_;refine Ok ?_;exact HY
theorem FE (l:List Int) (n:Int) (hl:l.length<=1000000):∃i:Int,(0<=i↔n∈l)/\aa Tryz.prog 128 [pB l,dN .i64 n] (.one (dN .i64 i)):=by
 refine⟨if l.findIdx (fun x=>decide (x=n))<l.length then((l.findIdx (fun x=>decide (x=n)):Nat):Int)else -1,?_,?_⟩
 ·have:=List.findIdx_lt_length (p:=fun x=>decide (x=n)) (xs:=l)
  exact OA
 ·have hf:=List.findIdx_le_length (p:=fun x=>decide (x=n)) (xs:=l)
  have hn:∀(i:Nat) (hi:i<l.length),i<l.findIdx (fun x=>decide (x=n))->l[i]≠n:=fun i hi h=>by
   exact OD
  have hy:∀(h:l.findIdx (fun x=>decide (x=n))<l.length),l[l.findIdx (fun x=>decide (x=n))]=n:=fun h=>by
   have:=List.findIdx_getElem (p:=fun x=>decide (x=n)) (xs:=l) (w:=h);exact of_decide_eq_true this
  generalize l.findIdx (fun x=>decide (x=n))=f at *;refine kV func128 ?_
  refine ay Nat (fun i=>i<=f) (fun i=>⟨[(0, .d (pB l)),(1, .d (dN .i64 n)),(4, .d (dN .i64 0)),(7, .d (dN .i64 l.length)),(8, .d (dN .i64 i))],[]⟩) (fun i=>l.length-i) 0 (Nat.zero_le _)
   kw ?_
  intro i hi;refine kI ?_
  by_cases hlt:i<l.length
  ·refine kT ?_
   have hx:l[i]? =some l[i]:=by simp[hlt]
   have hni:=hn i hlt;have hyi:∀h:i=f,l[i]=n:=fun h=>by subst h;exact hy hlt
   generalize l[i]=q at *;refine OW ?_
   by_cases e:n=q
   ·have e2:i=f:=by
     by_cases h:i<f
     ·exact absurd e.symm (hni h)
     ·omega
    subst e2;rw[if_pos hlt];refine kB true ?_ ?_
    ·exact(by simp[e])
    exact ap
   ·refine kB false ?_ ?_
    ·exact(by simp[e])
    refine Hn ?_
    by_cases h:i=f
    ·exact absurd (hyi h).symm e
    ·omega
  ·rw[if_neg (by omega)]
   refine kE ?_;exact ap
theorem vY (l:List Int) (n:Int) (hl:l.length<=1000000):aa Tryz.prog 88 [pB l,dN .i64 n] (.one (dB (decide (n∈l)))):=by
 obtain⟨i,h1,c⟩:=FE l n hl
 by_cases h:n∈l
 ·rw[decide_eq_true h]
  have:=h1.2 h;refine kV func88 ?_;refine kC (c) ?_;refine kT ?_;exact ap
 ·rw[decide_eq_false h]
  have:=fun h2=>h (h1.1 h2)
  refine kV func88 ?_;refine kC (c) ?_;refine kE ?_;exact ap
theorem F3 (l:List Int) (i:Nat):di (l.take i)=(di l).take i:=by simp[di,List.map_take]
theorem s6 {l:List Int} {i:Nat} {z:Int} (hn:(l.take i).Nodup) (hz:l[i]? =some z):(z ∉ l.take i->(l.take (i+1)).Nodup)/\(z∈l.take i-> ¬l.Nodup):=by
 have e:=bn hz;refine⟨fun h=>?_,fun h hd=>?_⟩
 ·rw[e,List.nodup_append]
  exact⟨hn,(by simp),fun a ha b hb=>by rw[List.mem_singleton.1 hb];exact fun e=>h (e ▸ ha)⟩
 ·have h2:(l.take (i+1)).Nodup:=hd.sublist (List.take_sublist _ _)
  rw[e,List.nodup_append]at h2;exact h2.2.2 z h z (by simp) rfl
theorem kf (l:List Int) (hl:l.length<=1000000):aa Tryz.prog 46 [pB l] (.one (dB (decide l.Nodup))):=by
 refine kV func46 ?_;refine ay Nat (fun i=>i<=l.length/\(l.take i).Nodup) (fun i=>⟨[(0, .d (pB l)),(5, .d (pB l)),(6, .d (dN .i64 l.length)),(7, .d (dN .i64 i))],[]⟩) (fun i=>l.length-i) 0 ⟨Nat.zero_le _,by simp⟩ kw ?_;rintro i ⟨hi,hn⟩;refine kI ?_
 by_cases hlt:i<l.length
 ·refine kT ?_
  obtain⟨z,hz⟩:∃z,l[i]? =some z:=⟨l[i],by simp[hlt]⟩;have hd:=s6 hn hz;have c:=vY (l.take i) z (by simp;omega);rw[show pB (l.take i)= .leaf (.sl i ((di l).take (i*1))) from by unfold pB;rw[F3,Nat.mul_one,List.length_take,Nat.min_eq_left hi]]at c;refine kW ?_;refine wV ?_;refine kG ?_
  refine kO2 ?_
  refine SD ah (i:=i) hi rfl rfl rfl rfl rfl rfl rfl rfl ?_;refine kO ?_
  by_cases e:z∈l.take i
  ·rw[decide_eq_true e]at c
   refine kC (c) ?_;refine fR ?_;exact congrArg (fun b=>RV.one (dB b)) (decide_eq_false (hd.2 e)).symm
  ·rw[decide_eq_false e]at c
   refine kQ (c) ?_;exact⟨i+1,⟨hlt,hd.1 e⟩,by omega,weak ⟨rfl,rfl,rfl,an (by omega) (by omega),trivial⟩ trivial rfl⟩
 ·refine kE ?_
  refine fR ?_;exact Nn
theorem Cc (p q r s:Int):aa Tryz.prog 45 [pB [p,q,r,s]] (.one (dB (Qi [p,q,r,s]))):=by
 obtain⟨b,hb⟩:∃b,Qi [p,q,r,s]=b:=⟨_,rfl⟩;rw[hb];unfold Qi at hb;refine kU func45 ?_
 iterate 2 refine kG ?_
 refine kO ?_;refine aG (i:=0) (cs':=[.val (.int .i64 p)]) (by simp) (bf (l:=[p,q,r,s]) (i:=0) rfl) (Nat.zero_lt_succ 0) rfl rfl rfl rfl rfl rfl rfl rfl ?_
 refine kO2 ?_
 refine aG (i:=1) (cs':=[.val (.int .i64 q)]) (by simp) (bf (l:=[p,q,r,s]) (i:=1) rfl) (Nat.zero_lt_succ 0) rfl rfl rfl rfl rfl rfl rfl rfl ?_
 refine kO2 ?_
 refine aG (i:=2) (cs':=[.val (.int .i64 r)]) (by simp) (bf (l:=[p,q,r,s]) (i:=2) rfl) (Nat.zero_lt_succ 0) rfl rfl rfl rfl rfl rfl rfl rfl ?_
 refine kO2 ?_
 refine aG (i:=3) (cs':=[.val (.int .i64 s)]) (by simp) (bf (l:=[p,q,r,s]) (i:=3) rfl) (Nat.zero_lt_succ 0) rfl rfl rfl rfl rfl rfl rfl rfl ?_;refine kG ?_
 refine kO2 ?_
 by_cases h1:p=q
 ·refine kB false ?_ ?_
  ·exact(by simp[h1])
  refine fR ?_;exact congrArg (fun b=>RV.one (dB b)) (by rw[<- hb];simp[h1])
 refine kB true ?_ ?_
 ·exact(by simp[h1])
 refine kO3 ?_
 by_cases h2:r=s
 ·refine kB false ?_ ?_
  ·exact(by simp[h2])
  refine fR ?_;exact congrArg (fun b=>RV.one (dB b)) (by rw[<- hb];simp[h2])
 refine kB true ?_ ?_
 ·exact(by simp[h2])
 refine kO4 ?_
 by_cases h3:p=r
 ·refine kB true ?_ ?_
  ·exact(by simp[h3])
  refine kO3 ?_
  have h5:p≠s:=fun e=>h2 (h3.symm.trans e)
  by_cases h4:q=s
  ·refine kB true ?_ ?_
   ·exact(by simp[h4])
   refine fR ?_;exact congrArg (fun b=>RV.one (dB b)) (by rw[<- hb];simp[h3,h4])
  ·refine kB false ?_ ?_
   ·exact(by simp[h4])
   iterate 6 refine kO ?_
   refine kB false ?_ ?_
   ·exact(by simp[h5])
   refine fR ?_;exact congrArg (fun b=>RV.one (dB b)) (by rw[<- hb];simp[h1,h2,h4,h5])
 ·refine kB false ?_ ?_
  ·exact(by simp[h3])
  iterate 10 refine kO ?_
  by_cases h5:p=s
  ·refine kB true ?_ ?_
   ·exact(by simp[h5])
   refine kO3 ?_
   by_cases h6:q=r
   ·refine kB true ?_ ?_
    ·exact(by simp[h6])
    refine fR ?_;exact congrArg (fun b=>RV.one (dB b)) (by rw[<- hb];simp[h5,h6])
   ·refine kB false ?_ ?_
    ·exact(by simp[h6])
    refine fR ?_;exact congrArg (fun b=>RV.one (dB b)) (by rw[<- hb];simp[h1,h2,h3,h6])
  ·refine kB false ?_ ?_
   ·exact(by simp[h5])
   refine fR ?_;exact congrArg (fun b=>RV.one (dB b)) (by rw[<- hb];simp[h1,h2,h3,h5])
theorem zv {x:Rx} (c:aa Tryz.prog 44 [dR x] (.one (dN .i64 (iI x)))):aa Tryz.prog 43 [dR x] (.one (dB (!decide (iI x=0)))):=by
 obtain⟨o1,na1,xs1,nb1,ys1,nm1,n1,cs1,hA⟩:=aM x;rw[show dR x= .agg (ab o1 na1 xs1 nb1 ys1 nm1 n1 cs1) from congrArg DV.agg hA]at c ⊢
 by_cases h:iI x=0
 ·rw[decide_eq_true h]
  refine kV func43 ?_;refine kC (c) ?_;exact HY
 ·rw[decide_eq_false h]
  refine kV func43 ?_;refine kC (c) ?_;refine kB true ?_ ?_
  ·exact(by simp[h])
  exact ap
theorem Mj:((List.range 4).all fun i=>decide (((mZ[i+4]?).map fun r=>r.p)=some 4))=true:=by decide
theorem yd {k:Int} {r:Kd} (h:pL k=some r) (h1:5<=k) (h2:k<=8):r.p=4:=by
 obtain⟨_,_,h3⟩:=nz h;have:=List.all_eq_true.1 Mj (k.toNat-5) (List.mem_range.2 (by omega));rw[show k.toNat-5+4=k.toNat-1 by omega,h3]at this
 simpa using this
theorem C3 {l:List Int} (h:l.length=4):∃p q r s,l=[p,q,r,s]:=by
 match l,h with
 | [p,q,r,s],_=>exact⟨p,q,r,s,rfl⟩
theorem Nl (vs:List Rx):vs.any (fun x=>!decide (iI x=0))=!vs.all (fun x=>decide (iI x=0)):=by rw[List.not_all_eq_any_not]
def cC (k:Int) (ps cs:List Int) (vs:List Rx) (s:Int):List AV:=[.val (.int .i64 k), .sl ps.length (di ps), .sl cs.length (di cs), .sl vs.length (dY vs), .val (.int .i64 s)]
theorem lX (c:Cn) (P Q:Int) (h1:c.ps.length<=1000000) (h2:c.cs.length<=1000000) (h3:c.vs.length<=1000000) (hv:∀x∈c.vs,aa Tryz.prog 44 [dR x] (.one (dN .i64 (iI x)))):aa Tryz.prog 17 [dC c,dN .i64 P,dN .i64 Q] (.one (dB (De c P Q))):=by
 have cS:=nr c.k;have cE:=ez (fid:=43) (p:=fun x=>!decide (iI x=0)) c.vs (fun x hx=>zv (hv x hx)) h3 rfl;rw[Nl]at cE;cases hk:pL c.k with
 |none=>
  rw[hk]at cS;rw[ti hk];obtain⟨k,ps,cs,vs,s⟩:=c;have cS:aa Tryz.prog 30 [dN .i64 k] (.tup [.agg Uv,dB false]):=cS;show aa Tryz.prog _ [.agg (cC k ps cs vs s),_,_] _;refine kV func17 ?_;refine kC (cS) ?_;exact ap
 |some r=>
  rw[hk]at cS;rw[mn hk];have h58:5<=c.k->c.k<=8->r.p=4:=yd hk;obtain⟨k,ps,cs,vs,s⟩:=c;obtain⟨nm,rp,rc,rn,rv,rq,rs⟩:=r;dsimp only at *;have cS:aa Tryz.prog 30 [dN .i64 k] (.tup [.agg (RH ⟨nm,rp,rc,rn,rv,rq,rs⟩),dB true]):=cS;have cA:=oQ ps rp P h1;have cB:=oQ cs rc Q h2;have cF:=kf ps h1;have cG:=kf cs h2;obtain⟨E,hE⟩:∃E,vs.all (fun x=>decide (iI x=0))=E:=⟨_,rfl⟩;rw[hE]at cE ⊢;obtain⟨A,hA⟩:∃A,(decide ((ps.length:Int)=rp) && ps.all (rT P))=A:=⟨_,rfl⟩;rw[hA]at cA ⊢;obtain⟨B,hB⟩:∃B,(decide ((cs.length:Int)=rc) && cs.all (rT Q))=B:=⟨_,rfl⟩;rw[hB]at cB ⊢;show aa Tryz.prog _ [.agg (cC k ps cs vs s),_,_] _;cases A
  ·refine kV func17 ?_;refine kQ (cS) ?_;refine kC (cA) ?_;exact ap
  cases B
  ·refine nD ?_
   refine kC (cB) ?_;exact ap
  by_cases hn:(vs.length:Int)=rn
  rotate_left
  ·rw[decide_eq_false hn]
   refine nD ?_;refine kC (cB) ?_
   iterate 8 refine kO ?_
   refine kB true ?_ ?_
   ·exact(by simp[hn])
   exact ap
  rw[decide_eq_true hn]
  have hp4:5<=k/\k<=8-> ∃p q r t,ps=[p,q,r,t]:=fun h=>by
   have h4:=h58 h.1 h.2
   simp only[Bool.and_eq_true,decide_eq_true_eq]at hA
   exact C3 (by omega)
  clear h58 hA hB hE hv;cases E
  ·refine JA ?_
   exact ap
  have side:(rs=false/\s=0)∨(rs=true/\s=1)∨(rs=true/\s= -1)∨(rs=false/\s≠0)∨(rs=true/\s≠1/\s≠ -1):=by cases rs<;>simp <;>omega
  rcases side with side|side|side| ⟨rfl,hs⟩| ⟨rfl,hs,hs'⟩
  rotate_left 3
  ·rw[show xm false s=false from decide_eq_false hs]
   refine JA ?_;refine kG ?_
   iterate 19 refine kO ?_
   refine kB true ?_ ?_
   ·exact(by simp[hs])
   exact ap
  ·rw[show xm true s=false by simp[xm,hs,hs']]
   refine JA ?_;refine kG ?_
   refine kO5 ?_
   refine kB true ?_ ?_
   ·exact(by simp[hs])
   refine kO4 ?_
   refine kB true ?_ ?_
   ·exact(by simp[hs'])
   exact ap
  all_goals
   obtain⟨rfl,rfl⟩:=side
   by_cases h58:5<=k/\k<=8
   ·rw[if_pos h58]
    obtain⟨p,q,r,t,rfl⟩:=hp4 h58;have cP:=Cc p q r t;generalize Qi [p,q,r,t]=D at *;rcases(show k=5∨k=6∨k=7∨k=8 by omega)with rfl|rfl|rfl|rfl
    all_goals
     refine kV func17 ?_;refine kQ (cS) ?_;refine kQ (cA) ?_;refine kC (cB) ?_
     iterate 8 refine kO ?_
     refine kB false ?_ ?_
     ·exact(by simp[hn])
     refine kW ?_;refine kQ (cE) ?_;refine kC (cP) ?_;exact kF
   ·rw[if_neg h58]
    clear hp4;obtain⟨F,hF⟩:∃F,decide ps.Nodup=F:=⟨_,rfl⟩;obtain⟨G,hG⟩:∃G,decide cs.Nodup=G:=⟨_,rfl⟩;rw[hF]at cF ⊢;rw[hG]at cG ⊢;clear hF hG;cases F
    all_goals
     refine kV func17 ?_;refine kQ (cS) ?_;refine kQ (cA) ?_;refine kC (cB) ?_
     iterate 8 refine kO ?_
     refine kB false ?_ ?_
     ·exact(by simp[hn])
     refine kW ?_;refine kC (cE) ?_
     iterate 3 refine kG ?_
     refine kB false ?_ ?_
     ·exact(by simp;omega)
     refine kG ?_;refine kB false ?_ ?_
     ·exact(by simp;omega)
     refine kG ?_;refine kB false ?_ ?_
     ·exact(by simp;omega)
     refine kG ?_;refine kB false ?_ ?_
     ·exact(by simp;omega)
     refine kW ?_;refine kQ (cF) ?_
     try refine kC (cG) ?_
     try exact kF
section
attribute [local go_sem ↓] Go.wp_at_zero Go.wp_at_succ
def n5 (l:List (List UInt8)):DV:= .leaf (.sl l.length (aO l))
theorem Ll (s b:List UInt8) (hl:s.length<4294967281):aa Tryz.prog 64 [dL s,dL b] (.tup [dL (Lib.cut s b).1,dL (Lib.cut s b).2.1,dB (Lib.cut s b).2.2]):=
 ⟨aA func64 rfl rfl,fun S w vs hS hv=>by
  match vs,hv with
  | [v,u],⟨h1,h2,_⟩=>
   obtain rfl:=a6 h1;obtain rfl:=a6 h2;obtain⟨m,hm⟩:=hS.1.vars.1;refine(Tryz.strings_Cut (Bs s) (Bs b) m w (by rw[aF];exact hl) hm).mono ?_;rintro e w' ⟨rfl,n,rfl⟩;refine⟨_,rfl,⟨[.string (Bs (Lib.cut s b).1), .string (Bs (Lib.cut s b).2.1), .bool (Lib.cut s b).2.2],rfl,rfl,fun i x u h1 h2=>?_⟩,Below.drewN (Below.refl _ _) n⟩
   match i with
   |0=>simp at h1 h2;subst h1 h2;exact AV.M.val rfl
   |1=>simp at h1 h2;subst h1 h2;exact AV.M.val rfl
   |2=>simp at h1 h2;subst h1 h2;exact AV.M.val rfl
   |i+3=>simp at h1⟩
theorem oz {s b:List UInt8} (hb:b≠[]):(Lib.split s b).length=Lib.count s b+1:=by
 have key:∀n s,s.length<=n->(Lib.split s b).length=Lib.count s b+1:=by
  intro n
  induction n with
  |zero=>
   intro s hs;rcases Lib.index_spec s b with⟨h,_⟩| ⟨i,h,_⟩
   ·rw[jb h,Lib.count_miss h];rfl
   ·have hr:=Lib.index_room s b (by omega)
    have:=List.length_pos_iff.2 hb;omega
  |succ n ih=>
   intro s hs;rcases Lib.index_spec s b with⟨h,_⟩| ⟨i,h,_⟩
   ·rw[jb h,Lib.count_miss h];rfl
   ·have hr:=Lib.index_room s b (by omega)
    have:=List.length_pos_iff.2 hb;rw[ov hb h,Lib.count_hit hb h,List.length_cons,ih _ (by rw[List.length_drop];omega)];omega
 exact key _ s (Nat.le_refl _)
theorem wC (s b:List UInt8):(Lib.splitB (Bs b) 0 (Lib.countB (Bs s) (Bs b)) (Bs s)).map Value.string=(Lib.split s b).map vL:=by
 have h:=Lib.splitB_data (Bs b) 0 (Lib.countB (Bs s) (Bs b)) (Bs s);have e:Lib.splitK (Bs b).data.toList 0 (Lib.countB (Bs s) (Bs b)) (Bs s).data.toList=Lib.split s b:=rfl;rw[e]at h;rw[<- h,List.map_map];refine List.map_congr_left fun x _=>?_
 show Value.string x=Value.string (Bs x.data.toList);rw[No]
theorem xW (s b:List UInt8) (hl:s.length<4294967281) (hb:b≠[]):aa Tryz.prog 65 [dL s,dL b] (.one (n5 (Lib.split s b))):=
 ⟨aA func65 rfl rfl,fun S w vs hS hv=>by
  match vs,hv with
  | [v,u],⟨h1,h2,_⟩=>
   obtain rfl:=a6 h1;obtain rfl:=a6 h2;obtain⟨m,hm⟩:=hS.1.vars.1;have hb1:=List.length_pos_iff.2 hb;have hcn:Lib.countB (Bs s) (Bs b)=Lib.count s b:=rfl;have hln:=oz (s:=s) hb;have hcl:=Lib.count_le s b;refine(Tryz.strings_Split (Bs s) (Bs b) m w (by rw[aF];exact hl) hm (by rw[aF];exact hb1)).mono ?_;rintro e w' ⟨rfl,rfl⟩;refine⟨_,rfl,?_,(Below.refl _ _).alloc (Nat.le_refl _) _⟩;rw[wC,hcn,<- hln];refine AV.M.sl (fun i=>((Lib.split s b).map vL).getD i (.bool false)) (Nat.le_refl _) (by omega) (fun h=>Nat.lt_irrefl _ (hS.blk _ h).1) (by show w.heap.size<(w.heap.push _).size;simp) (fun i a hi=>?_) (fun i a hi=>?_)
   ·rw[Nat.zero_add,World.cell?_alloc_new]
    have:=(List.getElem?_eq_some_iff.1 hi).1
    simp only[aO,List.length_map]at this
    simp[this]
   ·have:=(List.getElem?_eq_some_iff.1 hi).1
    simp only[aO,List.length_map]at this
    simp[aO,this]at hi
    subst hi
    simp[this]
    exact AV.M.val rfl⟩
theorem ML (l:List (List UInt8)) (b:List UInt8) (h0:l≠[]) (hN:l.length<=1000000) (hj:(Lib.join l b).length<=1000000000):aa Tryz.prog 62 [n5 l,dL b] (.one (dL (Lib.join l b))):=
 ⟨aA func62 rfl rfl,fun S w vs hS hv=>by
  match vs,hv with
  | [v,u],⟨h1,h2,_⟩=>
   obtain rfl:=a6 h2;have h1:AV.M S w (.sl l.length (aO l)) v:=h1;generalize hr:aO l=rr at h1;cases h1 with
   |emp=>cases l with
    |nil=>exact absurd rfl h0
    |cons a r=>simp[aO]at hr
   |sl f e1 e2 e3 e4 hc hm=>
    subst hr
    rename_i bk off c
    have hml:(l.map Bs).map (·.data.toList)=l:=by rw[List.map_map];exact List.map_id _
    have hcell:∀(j:Nat) x,(l.map Bs)[j]? =some x->w.cell? ⟨bk,off+j,none⟩=some (.string x):=fun j x hx=>by
     have hj:=(List.getElem?_eq_some_iff.1 hx).1;rw[List.length_map]at hj;have hrow:(aO l)[j]? =some (.val (vL l[j])):=by simp[aO,hj]
     rw[hc j _ hrow,a6 (hm j _ hrow)]
     simp[hj]at hx
     rw[<- hx];rfl
    have:=Tryz.strings_Join bk off c (l.map Bs) (Bs b) w hcell e4 (by rw[List.length_map];omega) (by rw[List.length_map];exact e1) (by rw[hml];exact Nat.le_trans hj (by decide));rw[List.length_map,hml]at this;refine this.mono ?_;rintro e w' ⟨rfl,hb⟩;exact⟨_,rfl,AV.M.val rfl,hb⟩⟩
def E7 (x:UInt8) (s:List UInt8):Int:=match Lib.atoiAll (Lib.trimPrefix s [x])with
 | .ok v=>v
 | .syntax=>0
 | .range=>Lib.atoiSat (Lib.trimPrefix s [x])
theorem IR {x:UInt8} {s:List UInt8} (h:Lib.hasPrefix s [x]=false):mj x s=none:=by
 cases s with
 |nil=>rfl
 |cons c r=>
  unfold mj;dsimp only;rw[if_neg];intro e;subst e
  simp[Lib.hasPrefix,List.isPrefixOf]at h
theorem C7 {x:UInt8} {s:List UInt8} (h:Lib.hasPrefix s [x]=true):mj x s=match Lib.atoiAll (Lib.trimPrefix s [x])with
 | .ok v=>some v
 |_=>none:=by
 cases s with
 |nil=>cases h
 |cons c r=>
  have e:x=c:=by simpa[Lib.hasPrefix,List.isPrefixOf]using h
  subst e;unfold Lib.trimPrefix;rw[if_pos h];unfold mj;dsimp only;rw[if_pos rfl];rfl
theorem Dx {x:UInt8} {s:List UInt8} {v:Int} (h:mj x s=some v):E7 x s=v:=by
 cases hp:Lib.hasPrefix s [x]with
 |false=>rw[IR hp]at h;cases h
 |true=>
  rw[C7 hp]at h;unfold E7
  split at h
  ·rename_i u hu
   rw[hu];cases h;rfl
  ·cases h
theorem yU (w:World) (e:TypeId) (t:ByteArray):Below w.heap.size w (Lib.bytesWorld w e t):=Lib.bytesWorld_below w e t
theorem L3 (S:Nat->Prop) (x:UInt8) (s t:List UInt8) (b:Bool) (w:World) (hw:dy S w) (hl:s.length<=1000000) (hp:Lib.hasPrefix s [x]=b) (ht:Lib.trimPrefix s [x]=t) {v:Int}(ha:Lib.atoiAll t= .ok v):
 Calls Tryz.prog 66 #[.string (Bs s), .string (Bs [x])] w fun e w'=>e= .returned (.tuple #[.int .i64 v, .bool (b && true)])/\Below w.heap.size w w':=by
 have htl:(Lib.trimPrefix s [x]).length<=s.length:=by unfold Lib.trimPrefix;split <;>simp
 have h1:=Tryz.strings_CutPrefix (Bs s) (Bs [x]) w;rw[show(Bs s).data.toList=s from rfl,show(Bs [x]).data.toList=[x] from rfl,hp,ht]at h1;rw[ht]at htl;clear ht hp;obtain⟨_,⟨ev,hev,hev2⟩,ev2,hev3,hev4⟩:=hw.tab.vars;have h2:=Tryz.strconv_Atoi_ok (Bs t) (by rw[aF];omega) v ha w;cases b
 all_goals
  go_enter func66,ntmps66
  go_wp2_with first|(go_at_call 109;refine h1.mono ?_;rintro e w' ⟨rfl,rfl⟩)|(go_at_call 110;refine h2.mono ?_;rintro e w' ⟨rfl,hw'⟩)
  go_quiet (fail)
  go_wp2_with fail
  go_ret2
  exact⟨rfl,Below.drewN ((by rcases hw' with rfl| ⟨tb,rfl⟩;exact Below.refl _ _;exact yU _ _ _)) _⟩
theorem K7 (S:Nat->Prop) (x:UInt8) (s t:List UInt8) (b:Bool) (w:World) (hw:dy S w) (hl:s.length<=1000000) (hp:Lib.hasPrefix s [x]=b) (ht:Lib.trimPrefix s [x]=t) (ha:Lib.atoiAll t= .syntax):
 Calls Tryz.prog 66 #[.string (Bs s), .string (Bs [x])] w fun e w'=>e= .returned (.tuple #[.int .i64 0, .bool (b && false)])/\Below w.heap.size w w':=by
 have htl:(Lib.trimPrefix s [x]).length<=s.length:=by unfold Lib.trimPrefix;split <;>simp
 have h1:=Tryz.strings_CutPrefix (Bs s) (Bs [x]) w;rw[show(Bs s).data.toList=s from rfl,show(Bs [x]).data.toList=[x] from rfl,hp,ht]at h1;rw[ht]at htl;clear ht hp;obtain⟨_,⟨ev,hev,hev2⟩,ev2,hev3,hev4⟩:=hw.tab.vars;have h2:=Tryz.strconv_Atoi_syntax (Bs t) (by rw[aF];omega) ha ev w hev hev2;cases b
 all_goals
  go_enter func66,ntmps66
  go_wp2_with first|(go_at_call 109;refine h1.mono ?_;rintro e w' ⟨rfl,rfl⟩)|(go_at_call 110;refine h2.mono ?_;rintro e w' ⟨N,rfl,_,_,hw'⟩)
  go_quiet (fail)
  go_wp2_with fail
  go_ret2
  exact⟨rfl,Below.drewN (hw') _⟩
theorem KZ (S:Nat->Prop) (x:UInt8) (s t:List UInt8) (b:Bool) (w:World) (hw:dy S w) (hl:s.length<=1000000) (hp:Lib.hasPrefix s [x]=b) (ht:Lib.trimPrefix s [x]=t) (ha:Lib.atoiAll t= .range):
 Calls Tryz.prog 66 #[.string (Bs s), .string (Bs [x])] w fun e w'=>e= .returned (.tuple #[.int .i64 (Lib.atoiSat t), .bool (b && false)])/\Below w.heap.size w w':=by
 have htl:(Lib.trimPrefix s [x]).length<=s.length:=by unfold Lib.trimPrefix;split <;>simp
 have h1:=Tryz.strings_CutPrefix (Bs s) (Bs [x]) w;rw[show(Bs s).data.toList=s from rfl,show(Bs [x]).data.toList=[x] from rfl,hp,ht]at h1;rw[ht]at htl;clear ht hp;obtain⟨_,⟨ev,hev,hev2⟩,ev2,hev3,hev4⟩:=hw.tab.vars;have h2:=Tryz.strconv_Atoi_range (Bs t) (by rw[aF];omega) ha ev2 w hev3 hev4;cases b
 all_goals
  go_enter func66,ntmps66
  go_wp2_with first|(go_at_call 109;refine h1.mono ?_;rintro e w' ⟨rfl,rfl⟩)|(go_at_call 110;refine h2.mono ?_;rintro e w' ⟨N,rfl,_,_,hw'⟩)
  go_quiet (fail)
  go_wp2_with fail
  go_ret2
  exact⟨rfl,Below.drewN (hw') _⟩
theorem uo (x:UInt8) (s:List UInt8) (hl:s.length<=1000000):aa Tryz.prog 66 [dL s,dL [x]] (.tup [dN .i64 (E7 x s),dB (mj x s).isSome]):=
 ⟨aA func66 rfl rfl,fun S w vs hS hv=>by
  match vs,hv with
  | [v,u],⟨h1,h2,_⟩=>
   obtain rfl:=a6 h1;obtain rfl:=a6 h2
   have key:Calls Tryz.prog 66 #[.string (Bs s), .string (Bs [x])] w fun e w'=>e= .returned (.tuple #[.int .i64 (E7 x s), .bool (mj x s).isSome])/\Below w.heap.size w w':=by
    obtain⟨b,hp⟩:∃b,Lib.hasPrefix s [x]=b:=⟨_,rfl⟩
    have hi:(mj x s).isSome=(b && match Lib.atoiAll (Lib.trimPrefix s [x])with
     | .ok _=>true
     |_=>false):=by
     cases b with
     |false=>rw[IR hp];rfl
     |true=>rw[C7 hp];cases Lib.atoiAll (Lib.trimPrefix s [x])<;>rfl
    rw[hi];unfold E7;cases ha:Lib.atoiAll (Lib.trimPrefix s [x])with
    |ok v=>exact L3 S x s _ b w hS hl hp rfl ha
    | «syntax» =>exact K7 S x s _ b w hS hl hp rfl ha
    |range=>exact KZ S x s _ b w hS hl hp rfl ha
   refine key.mono ?_;rintro e w' ⟨rfl,hb⟩;refine⟨_,rfl,⟨[.int .i64 (E7 x s), .bool (mj x s).isSome],rfl,rfl,fun i x u h1 h2=>?_⟩,hb⟩
   match i with
   |0=>simp at h1 h2;subst h1 h2;exact AV.M.val rfl
   |1=>simp at h1 h2;subst h1 h2;exact AV.M.val rfl
   |i+2=>simp at h1⟩
theorem qv (k:Int):aa Tryz.prog 61 [dN .i64 k] (.tup [dL (f9 k),dL (gw k)]):=by
 by_cases h:k=17
 ·subst h
  refine kU func61 ?_;exact ap
 ·unfold f9 gw
  rw[if_neg h,if_neg h];refine kU func61 ?_;refine gL ?_;exact HY
end
theorem QQ:(mZ.all fun r=>decide (r.p<=4) && (decide (r.c<=2) && (decide (r.n<=2) && decide (r.nm.length<=20))))=true:=by decide
theorem wH {k:Int} {r:Kd} (h:pL k=some r):r.p<=4/\r.c<=2/\r.n<=2/\r.nm.length<=20:=by
 obtain⟨_,_,h3⟩:=nz h;have:=List.all_eq_true.1 QQ r (List.mem_of_getElem? h3)
 simpa using this
theorem m6 (ts:List L8) (t:L8):xl (ts++[t])=xl ts++((if ts=[]then [32,61,32]else [44,32])++t):=by
 have hj:∀ts:List L8,ts≠[]->Lib.join (ts++[t]) [44,32]=Lib.join ts [44,32]++([44,32]++t):=by
  intro ts
  induction ts with
  |nil=>exact fun h=>absurd rfl h
  |cons a r ih=>
   intro _;cases r with
   |nil=>rw[List.cons_append,List.nil_append,gu,Lib.join_one,Lib.join_one]
   |cons b r=>rw[List.cons_append,List.cons_append,gu,gu,<- List.cons_append,ih (by simp)];simp
 unfold xl;rw[if_neg (by simp)]
 by_cases h:ts=[]
 ·subst h;rw[if_pos rfl,if_pos rfl,List.nil_append,Lib.join_one];rfl
 ·rw[if_neg h,if_neg h,hj ts h];simp
theorem Jb (ts:List L8):∀us,(xl ts).length<=(xl (ts++us)).length
 | []=>by rw[List.append_nil];exact Nat.le_refl _
 |u::us=>by
  have:=Jb (ts++[u]) us;rw[m6,List.length_append,List.append_assoc]at this;exact Nat.le_trans (Nat.le_add_right _ _) this
theorem x5 (ts:List L8) (i:Nat):(xl (ts.take i)).length<=(xl ts).length:=by
 have:=Jb (ts.take i) (ts.drop i)
 rwa[List.take_append_drop]at this
theorem NV (t:List (Nat × TV)) (b:List (Nat × Option (List AV))) (G:List L8) (x:L8):(⟨(4, .d (n5 (G++[x])))::t,b⟩:AS)=⟨(4, .d (.leaf (.sl (G.length+1) ((aO G).take (G.length*1)++[.val (vL x)]))))::t,b⟩:=by
 unfold n5;rw[C4,List.length_append];rfl
theorem kH {z:Int} (h0:0<=z) (h1:z<200):(fmt z).length<=3:=by
 obtain⟨n,rfl⟩:=Int.eq_ofNat_of_zero_le h0;rw[qe];unfold i7
 split
 ·decide
 ·exact pW 3 n (by omega)
theorem NW (t:List (Nat × TV)) (b:List (Nat × Option (List AV))) (G:List L8) (x:L8):(⟨(4, .own 7001 (G++[x]).length 1 9)::t,(7001,some (aO (G++[x])))::b⟩:AS)=⟨(4, .own 7001 (G.length+1) 1 9)::t,(7001,some ((aO G).take (G.length*1)++[.val (vL x)]))::b⟩:=by
 rw[C4,List.length_append];rfl
theorem iT {c:Cn} {r:Kd} (h:IJ c r 200 200) (tx:Rx->L8) (cV:aa Tryz.prog 17 [dC c,dN .i64 200,dN .i64 200] (.one (dB true))) (cF:∀x∈c.vs,aa Tryz.prog 63 [dR x] (.tup [dL (tx x),dN .i64 0])) (hlen:(pD r c (c.vs.map tx)).length<=65536) (h3:c.vs.length<=1000000):
 aa Tryz.prog 25 [dC c] (.tup [dL (pD r c (c.vs.map tx)),dN .i64 0]):=by
 have hd:=wH h.k;have hpl:=h.pl;have hcl:=h.cl;have cN:=FA c.k;rw[h.k]at cN;have cN:aa Tryz.prog 14 [dN .i64 c.k] (.one (dL r.nm)):=cN;have cS:=qv c.k;have hs:=vk h.s;have hp:=h.p;have hq:=h.c;clear h;obtain⟨k,ps,cs,vs,s⟩:=c;dsimp only at *;show aa Tryz.prog _ [.agg (cC k ps cs vs s)] _;have cV:aa Tryz.prog 17 [.agg (cC k ps cs vs s),dN .i64 200,dN .i64 200] (.one (dB true)):=cV;refine kV func25 ?_;refine kQ (cV) ?_;refine kC (cN) ?_;refine CH 7001 (cs:=[.val (vL r.nm)]) ah rfl rfl rfl rfl rfl rfl rfl rfl rfl rfl rfl rfl rfl ?_;refine kW ?_
 refine ay (Nat × List L8) (fun x=>x.1<=ps.length/\x.2=r.nm::(ps.take x.1).map lz) (fun x=>⟨[(4, .own 7001 x.2.length 1 9),(1, .box 0 0),(24, .d (pB ps)),(25, .d (dN .i64 ps.length)),(26, .d (dN .i64 x.1))],[(7001,some (aO x.2)),(0,some (cC k ps cs vs s))]⟩) (fun x=>ps.length-x.1) (0,[r.nm]) ⟨Nat.zero_le _,rfl⟩ kw ?_;rintro⟨i,G⟩ ⟨hi,hG⟩;dsimp only at hi hG ⊢;refine kI ?_
 by_cases hlt:i<ps.length
 ·refine kT ?_
  have hz:=hp _ (List.getElem_mem hlt);have hat:=bf (List.getElem?_eq_getElem hlt);have hG2:G++[lz ps[i]]=r.nm::(ps.take (i+1)).map lz:=by rw[hG,bn (List.getElem?_eq_getElem hlt),List.map_append];rfl
  have hGl:G.length=i+1:=by rw[hG];simp;omega
  generalize ps[i]=z at *;have cI:=D2 (p:=z) (by omega) (by omega);refine QB ?_;refine kW ?_;refine kC (cI) ?_;refine aq rfl rfl rfl rfl rfl rfl rfl (aD (a:=[112]) (b:=fmt z) (by have:=kH hz.1 hz.2;simp;omega)) ?_;refine ON ?_;refine⟨(i+1,G++[lz z]),⟨hlt,hG2⟩,by dsimp only;omega,Eq.mpr (congrArg (aJ _) (NW _ _ G (lz z))) ?_⟩;exact aJ.trans (b:=⟨[(4, .own 7003 (G.length+1) 1 9),(1, .box 0 0),(24, .d (pB ps)),(25, .d (dN .i64 ps.length)),(26, .d (dN .i64 (i+1:Nat)))],[(7003,some ((aO G).take (G.length*1)++[.val (vL (lz z))])),(0,some (cC k ps cs vs s))]⟩) (weak ⟨rfl,rfl,rfl,rfl,an (by omega) (by omega),trivial⟩ ⟨rfl,rfl,trivial⟩ rfl) ((aV (q:=4) (j:=7003) (j':=7001) rfl rfl rfl rfl).trans kw)
 refine kE ?_;rw[List.take_of_length_le (by omega)]at hG;refine kW ?_;refine ay (Nat × List L8) (fun x=>x.1<=cs.length/\x.2=r.nm::(ps.map lz++(cs.take x.1).map og)) (fun x=>⟨[(4, .own 7001 x.2.length 1 9),(1, .box 0 0),(38, .d (pB cs)),(39, .d (dN .i64 cs.length)),(40, .d (dN .i64 x.1))],[(7001,some (aO x.2)),(0,some (cC k ps cs vs s))]⟩) (fun x=>cs.length-x.1) (0,G) ⟨Nat.zero_le _,by rw[hG];simp⟩ kw ?_;clear hlt hi hG i G;rintro⟨i,G⟩ ⟨hi,hG⟩;dsimp only at hi hG ⊢;refine kI ?_
 by_cases hlt:i<cs.length
 ·refine kT ?_
  have hz:=hq _ (List.getElem_mem hlt);have hat:=bf (List.getElem?_eq_getElem hlt);have hG2:G++[og cs[i]]=r.nm::(ps.map lz++(cs.take (i+1)).map og):=by rw[hG,bn (List.getElem?_eq_getElem hlt),List.map_append,<- List.append_assoc];rfl
  have hGl:G.length=i+ps.length+1:=by rw[hG];simp;omega
  generalize cs[i]=z at *;have cI:=D2 (p:=z) (by omega) (by omega);refine QB ?_;refine kW ?_;refine kC (cI) ?_;refine aq rfl rfl rfl rfl rfl rfl rfl (aD (a:=[99]) (b:=fmt z) (by have:=kH hz.1 hz.2;simp;omega)) ?_;refine ON ?_;refine⟨(i+1,G++[og z]),⟨hlt,hG2⟩,by dsimp only;omega,Eq.mpr (congrArg (aJ _) (NW _ _ G (og z))) ?_⟩;exact aJ.trans (b:=⟨[(4, .own 7003 (G.length+1) 1 9),(1, .box 0 0),(38, .d (pB cs)),(39, .d (dN .i64 cs.length)),(40, .d (dN .i64 (i+1:Nat)))],[(7003,some ((aO G).take (G.length*1)++[.val (vL (og z))])),(0,some (cC k ps cs vs s))]⟩) (weak ⟨rfl,rfl,rfl,rfl,an (by omega) (by omega),trivial⟩ ⟨rfl,rfl,trivial⟩ rfl) ((aV (q:=4) (j:=7003) (j':=7001) rfl rfl rfl rfl).trans kw)
 refine kE ?_;rw[List.take_of_length_le (by omega)]at hG;have hGl:G.length=cs.length+ps.length+1:=by rw[hG];simp;omega
 have hW:xJ r ⟨k,ps,cs,vs,s⟩=G++oN ⟨k,ps,cs,vs,s⟩:=by rw[hG];unfold xJ;simp
 have hwl:(oN ⟨k,ps,cs,vs,s⟩).length<=1:=by unfold oN;split;exact Nat.le_refl _;split;exact Nat.le_refl _;exact Nat.zero_le _
 have hjl:(Lib.join (G++oN ⟨k,ps,cs,vs,s⟩) [32]).length<=65536:=by rw[<- hW];unfold pD at hlen;rw[List.length_append]at hlen;omega
 have cJ:=ML (G++oN ⟨k,ps,cs,vs,s⟩) [32] (by intro e;rw[List.append_eq_nil_iff]at e;rw[e.1]at hGl;simp at hGl) (by rw[List.length_append];omega) (by omega);unfold pD at hlen ⊢;rw[hW]at hlen ⊢;refine kW ?_;refine kC (cS) ?_;refine kN ?_;refine u6 ⟨[(4, .d (n5 (G++oN ⟨k,ps,cs,vs,s⟩))),(1, .box 0 0)],[(0,some (cC k ps cs vs s))]⟩ (fun s' hw=>?_) (fun R hR hret=>?_)
 ·generalize G++oN ⟨k,ps,cs,vs,s⟩=W at *
  refine bu ?_;refine eT hw rfl ?_;refine kO ?_;refine kQ (cJ) ?_;refine ay (Nat × L8) (fun x=>x.1<=vs.length/\x.2=Lib.join W [32]++xl ((vs.take x.1).map tx)) (fun x=>⟨[(11, .d (dL x.2)),(74, .d (.leaf (.sl vs.length (dY vs)))),(75, .d (dN .i64 vs.length)),(76, .d (dN .i64 x.1))],[]⟩) (fun x=>vs.length-x.1) (0,Lib.join W [32]) ⟨Nat.zero_le _,by simp[xl]⟩ kw ?_;clear hlt hi hG hGl hW i G;rintro⟨i,u⟩ ⟨hi,hu⟩;dsimp only at hi hu ⊢;refine kI ?_
  have hul:u.length<=65536:=by
   have:=x5 (vs.map tx) i;rw[List.length_append]at hlen;rw[hu,List.length_append,List.map_take];omega
  by_cases hlt:i<vs.length
  ·refine kT ?_
   obtain⟨x,hx⟩:∃x,vs[i]? =some x:=⟨vs[i],by simp[hlt]⟩;have c1:=cF x (List.mem_of_getElem? hx);have hat:=dP vs i x hx
   have hu2:u++((if i=0 then [32,61,32]else [44,32])++tx x)=Lib.join W [32]++xl ((vs.take (i+1)).map tx):=by
    rw[bn hx,List.map_append,List.map_cons,List.map_nil,m6,hu,List.append_assoc];exact CW
   have hul2:u.length+(tx x).length<=65536:=by
    exact J9
   obtain⟨o1,na1,xs1,nb1,ys1,nm1,n1',cs1,hX⟩:=aM x;rw[show dR x= .agg (ab o1 na1 xs1 nb1 ys1 nm1 n1' cs1) from congrArg DV.agg hX]at c1;rw[hX]at hat;generalize tx x=t at *;refine kW ?_;refine Kx ?_;refine kW ?_;refine kC (c1) ?_
   iterate 2 refine kG ?_
   refine kO ?_
   by_cases h0:i=0
   ·rw[if_pos h0]at hu2
    refine kB true ?_ ?_
    ·exact(by simp[h0])
    refine kG ?_
    refine kO2 ?_
    refine aq rfl rfl rfl rfl rfl rfl rfl (aD (a:=[32,61,32]) (b:=t) (by simp;omega)) ?_;refine aq rfl rfl rfl rfl rfl rfl rfl (aD (a:=u) (b:=[32,61,32]++t) (by simp;omega)) ?_;refine kW ?_;exact⟨(i+1,u++([32,61,32]++t)),⟨hlt,hu2⟩,by dsimp only;omega,weak ⟨rfl,rfl,rfl,an (by omega) (by omega),trivial⟩ trivial rfl⟩
   ·rw[if_neg h0]at hu2
    refine kB false ?_ ?_
    ·exact(by simp[h0])
    refine kG ?_
    refine kO2 ?_
    refine aq rfl rfl rfl rfl rfl rfl rfl (aD (a:=[44,32]) (b:=t) (by simp;omega)) ?_;refine aq rfl rfl rfl rfl rfl rfl rfl (aD (a:=u) (b:=[44,32]++t) (by simp;omega)) ?_;refine kW ?_;exact⟨(i+1,u++([44,32]++t)),⟨hlt,hu2⟩,by dsimp only;omega,weak ⟨rfl,rfl,rfl,an (by omega) (by omega),trivial⟩ trivial rfl⟩
  ·have hsz:=aF u
   refine kE ?_;rw[List.take_of_length_le (by omega)]at hu;refine kG ?_
   refine kO2 ?_
   refine kE ?_;refine fR ?_;rw[hu];rfl
 ·clear hret cJ cF hlen hjl hwl
  rcases hs with rfl|rfl|rfl
  ·refine I0 ?_
   refine hR _ (Eq.mpr (congrArg (aJ _) (NV _ _ G (f9 k))) ?_);exact aJ.trans (cu (q:=4) rfl rfl) kw
  ·refine I0 ?_
   refine hR _ (Eq.mpr (congrArg (aJ _) (NV _ _ G (gw k))) ?_);exact aJ.trans (cu (q:=4) rfl rfl) kw
  ·refine kW ?_
   rw[show G++oN ⟨k,ps,cs,vs,0⟩=G from List.append_nil G]at hR;exact hR _ (aJ.trans (cu (q:=4) rfl rfl) kw)
theorem vP {c:Cn} (cV:aa Tryz.prog 17 [dC c,dN .i64 200,dN .i64 200] (.one (dB false))):aa Tryz.prog 25 [dC c] (.tup [dL [],dN .i64 1]):=by
 obtain⟨k,ps,cs,vs,s⟩:=c;refine JL ?_;have cV:aa Tryz.prog 17 [.agg (cC k ps cs vs s),dN .i64 200,dN .i64 200] (.one (dB false)):=cV;refine kV func25 ?_;refine kC (cV) ?_;exact ap
end Go.Proofs.YtnchbpoopnjghaaGreatDoor
