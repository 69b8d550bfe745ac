/- The program's check of expressions that come in, exactly. -/
import Derived.Test.YtikbnnljjeefgaaGreatDoorXZ13
set_option maxHeartbeats 100000000
set_option linter.all false
open Go.Proofs.Tryz
namespace Go.Proofs.YtikbnnljjeefgaaGreatDoor
open Go.RowKit
theorem Ai:∀l:List Rx,l.length≤kd l
 | []=>Nat.zero_le _
 |y::r=>by
  have:=Ai r;cases y
  simp only[kd,jj,List.length_cons]
  omega
theorem Bc {na nb:Bool} {xs ys:List Nat}:aa Tryz.prog 59 [ES na xs nb ys] (.one (dB (of na xs nb ys))):=by
 show aa Tryz.prog _ [.agg (zt na xs nb ys)] _
 by_cases h1:xs.length=0
 ·by_cases h2:ys.length=0
  ·have e:of na xs nb ys=(!na && !nb):=by unfold of;rw[decide_eq_true h1,decide_eq_true h2];simp
   rw[e];cases na<;>cases nb
   all_goals
    refine kU func59 ?_;refine kR ?_;refine kI ?_
    refine kO4 ?_
    refine kT ?_
    refine kO5 ?_
    refine kT ?_;exact kF
  ·have e:of na xs nb ys=false:=by unfold of;rw[decide_eq_false h2];simp
   rw[e];refine kU func59 ?_;refine kR ?_;refine kI ?_
   refine kO4 ?_
   refine kT ?_
   refine kO5 ?_
   refine kE ?_;exact kF
 ·have e:of na xs nb ys=false:=by unfold of;rw[decide_eq_false h1];simp
  rw[e];refine kU func59 ?_;refine kR ?_;refine kI ?_
  refine kO4 ?_
  refine kE ?_;exact kF
theorem EW (args:List Rx):(args.any fun y=>!pI y)=!(args.all pI):=by
 rw[List.all_eq_not_any_not,Bool.not_not]
theorem tQ:∀(x:Rx),oL x→Cc x→jj x≤1000000→aa Tryz.prog 34 [dR x] (.one (dB (pI x))):=by
 refine gM fun op na xs nb ys nm args ih hx hlt hs=>?_
 obtain⟨_,_,hw,hw',hnm,hlen,hargs⟩:=hx;obtain⟨l1,l2,l3,hla⟩:=hlt;rw[jj]at hs;have hge:=Ai args;obtain⟨t,hdec,_⟩:=Ay (na:=na) (nb:=nb) hw hw' l1 l2;have hm:=iQ nm (by omega);have hno:=Bc (na:=na) (nb:=nb) (xs:=xs) (ys:=ys);have hcf:=gN (fid:=61) (p:=fun y=>!pI y) args (fun y hy=>gX (ih y hy (hargs y hy) (hla y hy) (by have:=pJ hy;omega))) (by omega) (EW args);rw[pI,nH];have hA0:args.length=0→args.all pI=true:=fun h=>by rw[List.eq_nil_of_length_eq_zero h];rfl
 show aa Tryz.prog _ [.agg (ac op na xs nb ys nm args.length (jX args))] _;generalize args.all pI=A at *;generalize args.length=L at *;generalize(mx na xs nb ys).isSome=d at *;generalize of na xs nb ys=p at *;generalize nj nm=m at *;have hdec:aa Tryz.prog 58 [.agg (zt na xs nb ys)] (.tup [dL t,dB d]):=hdec;have hno:aa Tryz.prog 59 [.agg (zt na xs nb ys)] (.one (dB p)):=hno
 by_cases o1:op=1
 ·subst o1
  by_cases hl:L=0
  ·rw[hA0 hl,Bool.and_true,mK,if_pos rfl,decide_eq_true hl,Bool.and_true]
   generalize hz:decide (nm=[])=z;refine kV func34 ?_;refine b7 (i:=1) underlying95 (by kernel_rfl) (by decide) rfl rfl rfl rfl rfl rfl ?_;refine kO ?_;refine kB false ?_ ?_
   ·exact(by simp;omega)
   refine kW ?_;refine kC (hdec) ?_;cases d
   ·exact kF
   ·refine kG ?_
    refine kO4 ?_
    cases z
    ·refine aj rfl rfl rfl rfl rfl rfl rfl (dj (a:=nm) (b:=[]) (of_decide_eq_false hz)) ?_
     refine kO3 ?_
     refine kC (hm) ?_;cases m
     ·exact kF
     ·exact kF
    ·refine aj rfl rfl rfl rfl rfl rfl rfl (bC (a:=nm) (b:=[]) (of_decide_eq_true hz)) ?_
     exact kF
  ·rw[mK,if_pos rfl,decide_eq_false hl,Bool.and_false,Bool.false_and]
   refine kV func34 ?_;refine b7 (i:=1) underlying95 (by kernel_rfl) (by decide) rfl rfl rfl rfl rfl rfl ?_;refine kO ?_;refine kB true ?_ ?_
   ·exact(by simp;omega)
   exact kF
 by_cases o2:op=2
 ·subst o2
  by_cases hl:L=0
  ·rw[hA0 hl,Bool.and_true,mK,if_neg (by decide),if_pos rfl,decide_eq_true hl,Bool.and_true]
   refine kV func34 ?_;refine b7 (i:=2) underlying95 (by kernel_rfl) (by decide) rfl rfl rfl rfl rfl rfl ?_;refine kO ?_;refine kB false ?_ ?_
   ·exact(by simp;omega)
   refine kW ?_;refine kC (hno) ?_;cases p
   ·exact kF
   ·refine kW ?_
    refine kC (hm) ?_;cases m
    ·exact kF
    ·exact kF
  ·rw[mK,if_neg (by decide),if_pos rfl,decide_eq_false hl,Bool.and_false,Bool.false_and]
   refine kV func34 ?_;refine b7 (i:=2) underlying95 (by kernel_rfl) (by decide) rfl rfl rfl rfl rfl rfl ?_;refine kO ?_;refine kB true ?_ ?_
   ·exact(by simp;omega)
   exact kF
 by_cases o3:op=3
 ·subst o3
  by_cases hl:L=1
  ·rw[mK,if_neg (by decide),if_neg (by decide),if_pos rfl,decide_eq_true hl,Bool.and_true]
   generalize hz:decide (nm=[])=z;refine kV func34 ?_;refine b7 (i:=3) underlying95 (by kernel_rfl) (by decide) rfl rfl rfl rfl rfl rfl ?_;refine kO ?_;refine kB false ?_ ?_
   ·exact(by simp;omega)
   refine kW ?_;refine kC (hno) ?_;cases p
   ·exact kF
   ·refine kO3 ?_
    cases z
    ·refine aj rfl rfl rfl rfl rfl rfl rfl (dj (a:=nm) (b:=[]) (of_decide_eq_false hz)) ?_
     exact kF
    ·refine aj rfl rfl rfl rfl rfl rfl rfl (bC (a:=nm) (b:=[]) (of_decide_eq_true hz)) ?_
     refine kW ?_;refine kC (hcf) ?_;cases A
     ·exact kF
     ·exact kF
  ·rw[mK,if_neg (by decide),if_neg (by decide),if_pos rfl,decide_eq_false hl,Bool.and_false,Bool.false_and]
   refine kV func34 ?_;refine b7 (i:=3) underlying95 (by kernel_rfl) (by decide) rfl rfl rfl rfl rfl rfl ?_;refine kO ?_;refine kB true ?_ ?_
   ·exact(by simp;omega)
   exact kF
 by_cases o4:op=4
 ·subst o4
  by_cases hl:L=2
  ·rw[mK,if_neg (by decide),if_neg (by decide),if_neg (by decide),if_pos (by decide),decide_eq_true hl,Bool.and_true]
   generalize hz:decide (nm=[])=z;refine kV func34 ?_;refine b7 (i:=4) underlying95 (by kernel_rfl) (by decide) rfl rfl rfl rfl rfl rfl ?_;refine kO ?_;refine kB false ?_ ?_
   ·exact(by simp;omega)
   refine kW ?_;refine kC (hno) ?_;cases p
   ·exact kF
   ·refine kO3 ?_
    cases z
    ·refine aj rfl rfl rfl rfl rfl rfl rfl (dj (a:=nm) (b:=[]) (of_decide_eq_false hz)) ?_
     exact kF
    ·refine aj rfl rfl rfl rfl rfl rfl rfl (bC (a:=nm) (b:=[]) (of_decide_eq_true hz)) ?_
     refine kW ?_;refine kC (hcf) ?_;cases A
     ·exact kF
     ·exact kF
  ·rw[mK,if_neg (by decide),if_neg (by decide),if_neg (by decide),if_pos (by decide),decide_eq_false hl,Bool.and_false,Bool.false_and]
   refine kV func34 ?_;refine b7 (i:=4) underlying95 (by kernel_rfl) (by decide) rfl rfl rfl rfl rfl rfl ?_;refine kO ?_;refine kB true ?_ ?_
   ·exact(by simp;omega)
   exact kF
 by_cases o5:op=5
 ·subst o5
  by_cases hl:L=2
  ·rw[mK,if_neg (by decide),if_neg (by decide),if_neg (by decide),if_pos (by decide),decide_eq_true hl,Bool.and_true]
   generalize hz:decide (nm=[])=z;refine kV func34 ?_;refine b7 (i:=5) underlying95 (by kernel_rfl) (by decide) rfl rfl rfl rfl rfl rfl ?_;refine kO ?_;refine kB false ?_ ?_
   ·exact(by simp;omega)
   refine kW ?_;refine kC (hno) ?_;cases p
   ·exact kF
   ·refine kO3 ?_
    cases z
    ·refine aj rfl rfl rfl rfl rfl rfl rfl (dj (a:=nm) (b:=[]) (of_decide_eq_false hz)) ?_
     exact kF
    ·refine aj rfl rfl rfl rfl rfl rfl rfl (bC (a:=nm) (b:=[]) (of_decide_eq_true hz)) ?_
     refine kW ?_;refine kC (hcf) ?_;cases A
     ·exact kF
     ·exact kF
  ·rw[mK,if_neg (by decide),if_neg (by decide),if_neg (by decide),if_pos (by decide),decide_eq_false hl,Bool.and_false,Bool.false_and]
   refine kV func34 ?_;refine b7 (i:=5) underlying95 (by kernel_rfl) (by decide) rfl rfl rfl rfl rfl rfl ?_;refine kO ?_;refine kB true ?_ ?_
   ·exact(by simp;omega)
   exact kF
 by_cases o6:op=6
 ·subst o6
  by_cases hl:L=2
  ·rw[mK,if_neg (by decide),if_neg (by decide),if_neg (by decide),if_pos (by decide),decide_eq_true hl,Bool.and_true]
   generalize hz:decide (nm=[])=z;refine kV func34 ?_;refine b7 (i:=6) underlying95 (by kernel_rfl) (by decide) rfl rfl rfl rfl rfl rfl ?_;refine kO ?_;refine kB false ?_ ?_
   ·exact(by simp;omega)
   refine kW ?_;refine kC (hno) ?_;cases p
   ·exact kF
   ·refine kO3 ?_
    cases z
    ·refine aj rfl rfl rfl rfl rfl rfl rfl (dj (a:=nm) (b:=[]) (of_decide_eq_false hz)) ?_
     exact kF
    ·refine aj rfl rfl rfl rfl rfl rfl rfl (bC (a:=nm) (b:=[]) (of_decide_eq_true hz)) ?_
     refine kW ?_;refine kC (hcf) ?_;cases A
     ·exact kF
     ·exact kF
  ·rw[mK,if_neg (by decide),if_neg (by decide),if_neg (by decide),if_pos (by decide),decide_eq_false hl,Bool.and_false,Bool.false_and]
   refine kV func34 ?_;refine b7 (i:=6) underlying95 (by kernel_rfl) (by decide) rfl rfl rfl rfl rfl rfl ?_;refine kO ?_;refine kB true ?_ ?_
   ·exact(by simp;omega)
   exact kF
 by_cases o7:op=7
 ·subst o7
  by_cases hl:L=2
  ·rw[mK,if_neg (by decide),if_neg (by decide),if_neg (by decide),if_pos (by decide),decide_eq_true hl,Bool.and_true]
   generalize hz:decide (nm=[])=z;refine kV func34 ?_;refine b7 (i:=7) underlying95 (by kernel_rfl) (by decide) rfl rfl rfl rfl rfl rfl ?_;refine kO ?_;refine kB false ?_ ?_
   ·exact(by simp;omega)
   refine kW ?_;refine kC (hno) ?_;cases p
   ·exact kF
   ·refine kO3 ?_
    cases z
    ·refine aj rfl rfl rfl rfl rfl rfl rfl (dj (a:=nm) (b:=[]) (of_decide_eq_false hz)) ?_
     exact kF
    ·refine aj rfl rfl rfl rfl rfl rfl rfl (bC (a:=nm) (b:=[]) (of_decide_eq_true hz)) ?_
     refine kW ?_;refine kC (hcf) ?_;cases A
     ·exact kF
     ·exact kF
  ·rw[mK,if_neg (by decide),if_neg (by decide),if_neg (by decide),if_pos (by decide),decide_eq_false hl,Bool.and_false,Bool.false_and]
   refine kV func34 ?_;refine b7 (i:=7) underlying95 (by kernel_rfl) (by decide) rfl rfl rfl rfl rfl rfl ?_;refine kO ?_;refine kB true ?_ ?_
   ·exact(by simp;omega)
   exact kF
 rw[mK,if_neg o1,if_neg o2,if_neg o3,if_neg (by omega),Bool.false_and]
 by_cases hlo:op<1
 ·refine kU func34 ?_
  refine kR ?_;refine kI ?_
  refine kO2 ?_
  refine kB true ?_ ?_
  ·exact decide_eq_true hlo
  exact kF
 ·refine kU func34 ?_
  refine kR ?_;refine kI ?_
  refine kO2 ?_
  refine kB false ?_ ?_
  ·exact decide_eq_false hlo
  refine kO3 ?_
  refine kT ?_;exact kF
theorem wU (x:Rx) (hx:oL x) (hl:Cc x) (hs:jj x≤1000000):aa Tryz.prog 14 [dR x] (.one (dN .i64 (Ep x))):=by
 have c1:=tQ x hx hl hs;have c2:=mo x hx hs;obtain⟨o1,na1,xs1,nb1,ys1,nm1,n1,cs1,hA⟩:=aS x;rw[show dR x= .agg (ac o1 na1 xs1 nb1 ys1 nm1 n1 cs1) from congrArg DV.agg hA]at c1 c2 ⊢;unfold Ep;cases hb:pI x with
 |false=>
  rw[hb]at c1;rw[if_neg (by decide)];refine kV func14 ?_;refine kC (c1) ?_;exact kF
 |true=>
  rw[hb]at c1;rw[if_pos rfl]
  by_cases hd:iT x≤40
  ·rw[if_pos hd]
   refine kV func14 ?_;refine kQ (c1) ?_;refine kC (c2) ?_;refine kE ?_;exact kF
  ·rw[if_neg hd]
   refine kV func14 ?_;refine kQ (c1) ?_;refine kC (c2) ?_;refine kT ?_;exact kF
theorem uE (x:Rx) {v:Int} (c:aa Tryz.prog 14 [dR x] (.one (dN .i64 v))) (hv:v≠0):aa Tryz.prog 13 [dR x] (.tup [dL [],dN .i64 v]):=by
 obtain⟨o1,na1,xs1,nb1,ys1,nm1,n1,cs1,hA⟩:=aS x;rw[show dR x= .agg (ac o1 na1 xs1 nb1 ys1 nm1 n1 cs1) from congrArg DV.agg hA]at c ⊢;refine kV func13 ?_;refine kC (c) ?_;refine kG ?_;refine kO ?_;refine kB true ?_ ?_
 ·exact(by simp[hv])
 exact kF
end Go.Proofs.YtikbnnljjeefgaaGreatDoor
