/- Parts of a proof: contracts of the functions that the laws reach. -/
import Derived.Test.YtikbnnljjeefgaaGreatDoorXZ6
import Derived.Test.YtikbnnljjeefgaaGreatDoorXZ7
import Derived.Test.YtikbnnljjeefgaaGreatDoorXZ2
set_option maxHeartbeats 100000000
set_option linter.all false
open Go.Proofs.Tryz
namespace Go.Proofs.YtikbnnljjeefgaaGreatDoor
open Go.RowKit
theorem me {t:List UInt8} {j:Nat} {c:UInt8} (h:∀i x,i<j→t[i]? =some x→di x) (hc:t[j]? =some c) (hn:¬di c):(eC t).length=j:=by
 obtain⟨hl,hg⟩:=List.getElem?_eq_some_iff.1 hc
 have e:t=t.take j++c::t.drop (j+1):=by
  rw[← hg,List.getElem_cons_drop,List.take_append_drop]
 have h1:∀x∈t.take j,di x:=fun x hx=>by
  obtain⟨i,hi⟩:=List.getElem?_of_mem hx;rw[List.getElem?_take]at hi
  split at hi
  ·exact h i x (by omega) hi
  ·cases hi
 rw[e,(ir h1).1,(ib hn).1,List.append_nil,List.length_take];omega
theorem y6 {t:List UInt8} (h:∀i x,i<t.length→t[i]? =some x→di x):eC t=t:=(oO fun x hx=>by
 obtain⟨i,hi⟩:=List.getElem?_of_mem hx;exact h i x (List.getElem?_eq_some_iff.1 hi).1 hi).1
theorem jF {t:List UInt8} (hl:t.length≤1000000000):aa Tryz.prog 203 [dL t] (.one (dN .i64 (eC t).length)):=by
 have hsz:=au t;refine kV func203 ?_;refine bh Nat (fun j=>j≤t.length∧ ∀i c,i<j→t[i]? =some c→di c) (fun j=>⟨[(0, .d (dL t)),(3, .d (dN .i64 j))],[]⟩) (fun j=>t.length-j) 0 ⟨Nat.zero_le _,fun i c h=>absurd h (Nat.not_lt_zero _)⟩ (weak ⟨rfl,rfl,trivial⟩ trivial rfl) ?_;rintro j ⟨hj,hall⟩;refine kI ?_
 refine kO3 ?_
 by_cases hlt:j<t.length
 ·obtain⟨c,hc⟩:∃c,t[j]=c:=⟨_,rfl⟩
  have hcj:t[j]? =some c:=by rw[List.getElem?_eq_getElem hlt,hc]
  refine kT ?_
  refine kO3 ?_
  refine ap ab (l:=t) (i:=j) hcj rfl rfl rfl rfl rfl rfl rfl rfl ?_
  by_cases h1:48≤c.toNat
  ·refine kT ?_
   refine kO4 ?_
   refine ap ab (l:=t) (i:=j) hcj rfl rfl rfl rfl rfl rfl rfl rfl ?_
   by_cases h2:c.toNat≤57
   ·refine kT ?_
    refine kW ?_;refine⟨j+1,⟨hlt,fun i c' hi hp=>?_⟩,by omega,weak ⟨rfl,?_,trivial⟩ trivial rfl⟩
    ·rcases Nat.lt_succ_iff_lt_or_eq.1 hi with h3|rfl
     ·exact hall i c' h3 hp
     ·rw[hcj]at hp;cases hp;exact⟨h1,h2⟩
    ·exact bd (by omega) (by omega)
   ·refine kE ?_
    refine kW ?_;rw[me hall hcj (fun h=>by unfold di at h;omega)];exact bO (T:=TT) rfl rfl
  ·refine kE ?_
   refine kW ?_;rw[me hall hcj (fun h=>by unfold di at h;omega)];exact bO (T:=TT) rfl rfl
 ·have hge:j=t.length:=by omega
  refine kY ?_;rw[y6 (fun i x hi hx=>hall i x (by omega) hx),← hge];exact bO (T:=TT) rfl rfl
theorem tX {p:List UInt8} (h:∀c∈p,di c):iC false p↔p≠[]∧(1<p.length→p.head? ≠some 48):=by
 constructor
 ·rintro⟨h1,_,h3⟩
  refine⟨h1,fun hl e=>?_⟩;rcases h3 with h3| ⟨h3,_⟩
  ·cases p with
   |nil=>cases e
   |cons c r=>simp at e;exact h3 c r rfl e
  ·omega
 ·rintro⟨h1,h2⟩
  refine⟨h1,h,?_⟩
  by_cases hl:1<p.length
  ·exact .inl fun c r e=>by
    have:=h2 hl;rw[e]at this
    simpa using this
  ·have:=List.length_pos_iff.2 h1
   exact .inr ⟨by omega,rfl⟩
section
variable {P:Program} {T:TypeId→Option Ty} {n:Nat} {ops:Array Oper} {id:Nat} {draw:Bool} {K:AS→Prop} {s:AS} {k:Nat} {o:Oper} {os:List Oper} {fps:List FP}
theorem HG (hT:∀t d,T t=some d→b6 P t d) {t:TypeId} {ty:Ty} {x y:Operand} {l l':List UInt8} {i:Nat} {ik:IntKind} (he:l.take i=l') (hi:i≤l.length) (h1:gd ops s o=some true) (h2:o.op= .slice t x none (some y) none) (h5:T t=some ty) (h6:ty.isStr=true) (h7:s.ev x= .d (.leaf (.val (vL l)))) (h8:s.ev y= .d (.leaf (.val (.int ik (i:Nat)))))
 (h3:bn n o.dst=true) (h4:ju draw ops (a6 ops o ⟨.d (dL l'),none⟩ []) k fps=true) (h:aJ P T n ops id draw K (k+1) os (s.eff o.dst ⟨.d (dL l'),none⟩) (a6 ops o ⟨.d (dL l'),none⟩ []::fps)):aJ P T n ops id draw K k (o::os) s fps:=by
 subst he;exact vx hT hi h1 h2 h5 h6 h7 h8 h3 h4 h
theorem qX (hT:∀t d,T t=some d→b6 P t d) {t:TypeId} {ty:Ty} {x y:Operand} {l l':List UInt8} {i:Nat} {ik:IntKind} (he:l.drop i=l') (hi:i≤l.length) (h1:gd ops s o=some true) (h2:o.op= .slice t x (some y) none none) (h5:T t=some ty) (h6:ty.isStr=true) (h7:s.ev x= .d (.leaf (.val (vL l)))) (h8:s.ev y= .d (.leaf (.val (.int ik (i:Nat)))))
 (h3:bn n o.dst=true) (h4:ju draw ops (a6 ops o ⟨.d (dL l'),none⟩ []) k fps=true) (h:aJ P T n ops id draw K (k+1) os (s.eff o.dst ⟨.d (dL l'),none⟩) (a6 ops o ⟨.d (dL l'),none⟩ []::fps)):aJ P T n ops id draw K k (o::os) s fps:=by
 subst he;exact iK hT hi h1 h2 h5 h6 h7 h8 h3 h4 h
end
open Classical in
noncomputable def AE (n:Nat):List UInt8→Option Rat
 | []=>some ((n:Int):Rat)
 |c::b=>if c=46 then(if b≠[]∧(∀x∈b,di x)then some (Rat.divInt ((n*10^b.length+num b:Nat):Int) ((10^b.length:Nat):Int))else none)else if c=47 then(if iC false b∧num b≠0∧num b≠1∧Nat.gcd n (num b)=1 then some (Rat.divInt (n:Int) (num b:Int))else none)else none
theorem zY {t:List UInt8} (h:iC false (eC t)):fg t=AE (num (eC t)) (iG t):=by
 unfold fg AE;rw[if_pos h];cases iG t<;>rfl
theorem Dl {n:Nat} {c:UInt8} {b:List UInt8} (hc:c=46) (h:¬(b≠[]∧(∀x∈b,di x))):AE n (c::b)=none:=by subst hc;unfold AE;dsimp only;rw[if_pos rfl,if_neg h]
theorem Cs {n:Nat} {c:UInt8} {b:List UInt8} (hc:c=46) (h:b≠[]∧(∀x∈b,di x)):AE n (c::b)=some (Rat.divInt ((n*10^b.length+num b:Nat):Int) ((10^b.length:Nat):Int)):=by subst hc;unfold AE;dsimp only;rw[if_pos rfl,if_pos h]
theorem sS {n:Nat} {c:UInt8} {b:List UInt8} (hc:c=47) (h:¬(iC false b∧num b≠0∧num b≠1∧Nat.gcd n (num b)=1)):AE n (c::b)=none:=by subst hc;unfold AE;dsimp only;rw[if_neg (by decide),if_pos rfl,if_neg h]
theorem DQ {n:Nat} {c:UInt8} {b:List UInt8} (hc:c=47) (h:iC false b∧num b≠0∧num b≠1∧Nat.gcd n (num b)=1):AE n (c::b)=some (Rat.divInt (n:Int) (num b:Int)):=by subst hc;unfold AE;dsimp only;rw[if_neg (by decide),if_pos rfl,if_pos h]
theorem Gm {n:Nat} {c:UInt8} {b:List UInt8} (h:c≠46) (h':c≠47):AE n (c::b)=none:=by unfold AE;dsimp only;rw[if_neg h,if_neg h']
theorem iI {b:List UInt8}:(eC b).length=b.length↔ ∀x∈b,di x:=by
 constructor
 ·intro h
  have e:eC b=b:=by
   have:=iq b;have h2:=congrArg List.length this;rw[List.length_append]at h2;rw[List.eq_nil_of_length_eq_zero (show(iG b).length=0 by omega),List.append_nil]at this;exact this
  rw[← e];exact kL b
 ·intro h;rw[(oO h).1]
theorem EM {c d:UInt8} (h:c≠d):¬(c.toNat:Int)=d.toNat:=fun e=>h (UInt8.toNat_inj.1 (by omega))
theorem BG (t:List UInt8):t.take (eC t).length=eC t:=by
 have:=iq t
 conv=>lhs;rw[← this]
 rw[List.take_left' (by rw[this])]
theorem Bh (t:List UInt8):t.drop (eC t).length=iG t:=by
 have:=iq t
 conv=>lhs;rw[← this]
 rw[List.drop_left' (by rw[this])]
theorem xp (t:List UInt8):(eC t).length≤t.length:=by
 have:=congrArg List.length (iq t);rw[List.length_append]at this;omega
noncomputable def Ij (s:List UInt8):RV:=match bE s with
 |some q=> .tup [dQ q,dN .i64 0]
 |none=> .tup [EP,dN .i64 2]
theorem wm {s:List UInt8} {q:Rat} (h:bE s=some q):Ij s= .tup [dQ q,dN .i64 0]:=by unfold Ij;rw[h]
theorem el {s:List UInt8} (h:bE s=none):Ij s= .tup [EP,dN .i64 2]:=by unfold Ij;rw[h]
theorem ez {s:List UInt8} (h:fg (dG s)=none):bE s=none:=by unfold bE;split <;>simp[h]
theorem Aw {s:List UInt8} {n d:Int} (hl:s.length≤65536) (h:fg (dG s)=some (Rat.divInt n d)) (hn:bV s=false):bE s=some (Rat.divInt n d):=by
 unfold bE;rw[if_pos hl,h];simp[hn]
theorem kM {n d:Int} (hd:d≠0):Rat.divInt n d=0↔n=0:=by
 have h0:(0:Rat)=Rat.divInt 0 1:=by rfl
 rw[h0,Rat.divInt_eq_divInt_iff hd (by decide)]
 simp
theorem yz {s:List UInt8} {n d:Int} (hl:s.length≤65536) (h:fg (dG s)=some (Rat.divInt n d)) (hn:bV s=true) (h0:n=0) (hd:d≠0):bE s=none:=by
 unfold bE;rw[if_pos hl,h];simp[hn,(kM hd).2 h0]
theorem Bt {s:List UInt8} {n d:Int} (hl:s.length≤65536) (h:fg (dG s)=some (Rat.divInt n d)) (hn:bV s=true) (h0:¬n=0) (hd:d≠0):bE s=some (Rat.divInt (-n) d):=by
 have:¬Rat.divInt n d=0:=fun e=>h0 ((kM hd).1 e)
 unfold bE;rw[if_pos hl,h];simp[hn,this,Rat.neg_divInt]
theorem BB {b:List UInt8} (h:b≠[]):∃d b',b=d::b':=by
 cases b with
 |nil=>exact absurd rfl h
 |cons d b'=>exact⟨d,b',rfl⟩
theorem gK {rs:List ResultVar} {s:AS} {v:RV} (h:v= .tup [EP,dN .i64 2]) (h1:jR TT s rs=some [EP,dN .i64 2]):∃l,jR TT s rs=some l∧xy l=v:=⟨_,h1,h.symm⟩
theorem CD {k j:Nat} (h:k<j):Sz j ((10^k:Nat):Int):=by
 unfold Sz;rw[Int.natAbs_natCast];exact Nat.lt_of_le_of_lt (Nat.pow_le_pow_left (by decide) k) (Nat.pow_lt_pow_right (by decide) h)
theorem wz (s:List UInt8):aa Tryz.prog 184 [dL s] (Ij s):=by
 have hsz:=au s
 by_cases hl:s.length≤65536
 ·obtain⟨t,ht⟩:∃t,dG s=t:=⟨_,rfl⟩
  have htl:t.length≤s.length:=by rw[← ht];exact lC s
  obtain⟨p,hp⟩:∃p,eC t=p:=⟨_,rfl⟩;obtain⟨r,hr⟩:∃r,iG t=r:=⟨_,rfl⟩;have hpd:∀c∈p,di c:=by rw[← hp];exact kL t
  have hpl:p.length≤t.length:=by rw[← hp];exact xp t
  have hpr:p++r=t:=by rw[← hp,← hr];exact iq t
  have hrl:p.length+r.length=t.length:=by rw[← hpr,List.length_append]
  have htk:t.take p.length=p:=by rw[← hp];exact BG t
  have hdr:t.drop p.length=r:=by rw[← hp,← hr];exact Bh t
  have hbad:¬iC false p→fg (dG s)=none:=fun h=>by rw[ht];unfold fg;rw[hp,if_neg h]
  refine kV func184 ?_;refine dJ (T:=TT) rfl ?_ ?_
  ·exact decide_eq_false (by omega)
  refine bU ?_;refine sK ⟨[(0, .d (dL s)),(2, .box 0 0),(3, .d (dN .i64 0)),(4, .d (dB (bV s)))],[(0,some lZ)]⟩ (fun s1 hw1=>?_) (fun R hR _=>?_)
  ·refine sK ⟨[(0, .d (dL t)),(2, .box 0 0),(3, .d (dN .i64 0)),(4, .d (dB (bV s)))],[(0,some lZ)]⟩ (fun s2 hw2=>?_) (fun R hR _=>?_)
   ·refine aL ?_
    refine gL hw2 rfl ?_;refine kO ?_;refine ae (jF (t:=t) (by omega)) rfl rfl rfl rfl rfl rfl rfl ?_;rw[hp];refine kN ?_;refine EG ⟨[(0, .d (dL t)),(2, .box 0 0),(3, .d (dN .i64 0)),(4, .d (dB (bV s))),(5, .d (dN .i64 p.length))],[(0,some lZ)]⟩ (iC false p) (fun hok s3 hw3=>?_) (fun R hR hret=>?_)
    ·have hsp:=eT hpd
     have c1:=nU p;rw[rA hpd (by omega),if_pos hok]at c1;have sp:Sz 131080 (num p:Int):=hsp.mono (by omega);refine aL ?_;refine gL hw3 rfl ?_
     refine kO2 ?_
     refine HG ab (l:=t) (l':=p) (i:=p.length) htk (by omega) rfl rfl rfl rfl rfl rfl rfl rfl ?_;refine kQ (c1) ?_;refine ae (cS 1 (by decide) (by decide)) rfl rfl rfl rfl rfl rfl rfl ?_;refine kN ?_;refine kI ?_
     refine kO2 ?_
     refine qX ab (l:=t) (l':=r) (i:=p.length) hdr (by omega) rfl rfl rfl rfl rfl rfl rfl rfl ?_;refine kN ?_;have hQ:fg (dG s)=AE (num p) r:=by rw[ht,zY (by rw[hp];exact hok),hp,hr]
     refine HY (α:=Int × Int) (fun x=>⟨[(2, .box 0 0),(3, .d (dN .i64 0)),(4, .d (dB (bV s))),(6, .box 9007 0),(8, .box 10001 0)],[(0,some lZ),(9007,some (aZ x.1)),(10001,some (aZ x.2))]⟩)
      (fun x=>fg (dG s)=some (Rat.divInt x.1 x.2)∧Sz 131080 x.1∧Sz 131080 x.2∧0<x.2) (fun x hx s4 hw4=>?_) (fun R hR hret=>?_)
     ·refine Exists.elim (Exists.intro x.1 rfl:∃N,x.1=N) fun N hN=>Exists.elim (Exists.intro x.2 rfl:∃D,x.2=D) fun D hD=>?_
      rw[hN,hD]at hx hw4;have hP:=hx.1;have sN:=hx.2.1;have sD:=hx.2.2.1;have hD0:D≠0:=by have:=hx.2.2.2;omega
      refine aL ?_;refine gL hw4 rfl ?_;cases hng:bV s
      ·refine kW ?_
       refine ae (qx sN sD (by omega) hD0 rfl) rfl rfl rfl rfl rfl rfl rfl ?_;refine kW ?_;exact bO (T:=TT) rfl (wm (Aw hl hP hng)).symm
      ·by_cases hnu:N=0
       ·refine kW ?_
        refine eW (T:=TT) rfl ?_ ?_
        ·exact Dj hnu
        refine kW ?_;exact gK (el (yz hl hP hng hnu hD0)) (by kernel_rfl)
       ·refine kW ?_
        refine dJ (T:=TT) rfl ?_ ?_
        ·exact tz hnu
        refine kW ?_;refine kQ (mB _) ?_;refine ae (qx (Sz.neg sN) sD (by omega) hD0 rfl) rfl rfl rfl rfl rfl rfl rfl ?_;refine kW ?_;exact bO (T:=TT) rfl (wm (Bt hl hP hng hnu hD0)).symm
     ·cases r with
      |nil=>
       repeat(first|refine aL (T:=TT) ?_|refine b8 (T:=TT) ?_)
       refine aq (T:=TT) rfl ?_;refine kO ?_;refine aj rfl rfl rfl rfl rfl rfl rfl (bC (a:=[]) (b:=[]) rfl) ?_;refine kW ?_;refine hR ((num p:Int),1) ⟨?_,sp,(Sz.small (z:=1) (by decide)).mono (by decide),Int.one_pos⟩ _ (weak ⟨rfl,rfl,rfl,rfl,rfl,trivial⟩ ⟨rfl,rfl,rfl,trivial⟩ rfl);rw[hQ];show some ((num p:Int):Rat)=_;exact congrArg some (kP ((num p:Int):Rat)).symm
      |cons c b=>
       have hsb:=au (c::b);have hbl:b.length+1≤65536:=by simp at hrl;omega
       repeat(first|refine aL (T:=TT) ?_|refine b8 (T:=TT) ?_)
       refine aq (T:=TT) rfl ?_;refine kO ?_;refine aj rfl rfl rfl rfl rfl rfl rfl (dj (a:=c::b) (b:=[]) (by simp)) ?_;refine kW ?_;refine ap ab (l:=c::b) (i:=0) rfl rfl rfl rfl rfl rfl rfl rfl rfl ?_
       by_cases h46:c=46
       ·refine kB true ?_ ?_
        ·exact decide_eq_true (by rw[h46];rfl)
        refine kO3 ?_
        by_cases hb:b=[]
        ·refine kB false ?_ ?_
         ·exact decide_eq_false (by rw[hsb,hb];simp)
         refine kW ?_;refine ap ab (l:=c::b) (i:=0) rfl rfl rfl rfl rfl rfl rfl rfl rfl ?_;refine kB false ?_ ?_
         ·exact decide_eq_false (by rw[h46];decide)
         refine kW ?_;refine Eq.mpr (congrFun hret _) ?_;exact gK (el (ez (hQ.trans (Dl h46 (fun h=>h.1 hb))))) (by kernel_rfl)
        ·have hb0:0<b.length:=List.length_pos_iff.2 hb
         refine kB true ?_ ?_
         ·exact decide_eq_true (by rw[hsb,List.length_cons];omega)
         refine kO3 ?_
         refine qX ab (l:=c::b) (l':=b) (i:=1) rfl (by simp) rfl rfl rfl rfl rfl rfl rfl rfl ?_;refine ae (jF (t:=b) (by omega)) rfl rfl rfl rfl rfl rfl rfl ?_
         refine kO2 ?_
         refine eU (v':= .int .i64 ((b.length:Nat))) rfl rfl rfl rfl ?_ ?_
         ·exact congrArg (Value.int .i64) (by rw[hsb,List.length_cons,IntWalk.i64_in _ (by omega)];omega)
         by_cases hd:∀x∈b,di x
         ·refine kB true ?_ ?_
          ·exact decide_eq_true (by rw[iI.2 hd])
          refine kW ?_;refine ae (cS 10 (by decide) (by decide)) rfl rfl rfl rfl rfl rfl rfl ?_;refine kW ?_
          refine bh (Nat × Int × Int) (fun x=>x.1≤b.length∧x.2.1=((num (p++b.take x.1):Nat):Int)∧x.2.2=((10^x.1:Nat):Int)) (fun x=>⟨[(2, .box 0 0),(3, .d (dN .i64 0)),(4, .d (dB (bV s))),(6, .box 9007 0),(8, .box 10001 0),(9, .d (dL (c::b))),(10, .box 15001 0),(11, .d (dN .i64 ((x.1+1:Nat):Int)))],
           [(0,some lZ),(9007,some (aZ x.2.1)),(10001,some (aZ x.2.2)),(15001,some (aZ 10))]⟩) (fun x=>b.length-x.1) (0,(num p:Int),1) ⟨Nat.zero_le _,by rw[List.take_zero,List.append_nil],rfl⟩
           (weak ⟨rfl,rfl,rfl,rfl,rfl,rfl,rfl,rfl,trivial⟩ ⟨rfl,rfl,rfl,rfl,trivial⟩ rfl) ?_
          rintro⟨k,N,D⟩ ⟨hk,hN,hD⟩;dsimp only at hk hN hD ⊢
          have hpk:∀x∈p++b.take k,di x:=fun x hx=>by
           rcases List.mem_append.1 hx with h|h
           ·exact hpd x h
           ·exact hd x (List.mem_of_mem_take h)
          have sN:Sz 131079 N:=by rw[hN];exact(eT hpk).mono (by rw[List.length_append,List.length_take];omega)
          have sD:Sz 65538 D:=by rw[hD];exact CD (show k<65538 by omega)
          refine kI ?_
          refine kO3 ?_
          by_cases hlt:k<b.length
          ·refine kB true ?_ ?_
           ·exact decide_eq_true (by rw[hsb,List.length_cons];omega)
           refine Exists.elim (Exists.intro b[k] rfl:∃y,b[k]=y) fun y hy=>?_
           have hyk:b[k]? =some y:=by rw[List.getElem?_eq_getElem hlt,hy]
           have hyd:di y:=hd y (List.mem_of_getElem? hyk);have hyn:48≤y.toNat∧y.toNat≤57:=hyd;have hdv:dv y=y.toNat-48:=rfl;have s10:Sz 1 (10:Int):=Sz.small (by decide);have sM:Sz 131080 (N*10):=(Sz.mul sN s10).mono (by omega)
           have hnum:((num (p++b.take (k+1)):Nat):Int)=N*10+(dv y:Nat):=by
            rw[List.take_succ_eq_append_getElem hlt,← List.append_assoc,gE,hy,hN];omega
           refine kW ?_;refine ae (eJ (sN.fit (by decide)) (s10.fit (by decide))) rfl rfl rfl rfl rfl rfl rfl ?_
           refine kO2 ?_
           refine ap ab (l:=c::b) (c:=y) (i:=k+1) (by rw[List.getElem?_cons_succ];exact hyk) rfl rfl rfl rfl rfl rfl rfl rfl ?_;refine eU (v':= .int .u8 ((dv y:Nat))) rfl rfl rfl rfl ?_ ?_
           ·exact congrArg (Value.int .u8) (by show IntKind.u8.wrap ((y.toNat:Int)-48)=_;rw[IntWalk.u8_in _ (by omega)];omega)
           refine eU (v':= .int .i64 ((dv y:Nat))) rfl rfl rfl rfl ?_ ?_
           ·exact congrArg (Value.int .i64) (by show IntKind.i64.wrap ((dv y:Nat):Int)=_;rw[IntWalk.i64_in _ (by omega)])
           refine ae (cS (dv y:Nat) (by omega) (by omega)) rfl rfl rfl rfl rfl rfl rfl ?_;refine ae (qc (sM.fit (by decide)) ((Sz.small (z:=((dv y:Nat):Int)) (by omega)).fit (by decide))) rfl rfl rfl rfl rfl rfl rfl ?_;refine kW ?_;refine ae (eJ (sD.fit (by decide)) (s10.fit (by decide))) rfl rfl rfl rfl rfl rfl rfl ?_;refine kW ?_;refine⟨(k+1,N*10+(dv y:Nat),D*10),⟨hlt,hnum.symm,?_⟩,by dsimp only;omega,weak ⟨rfl,rfl,rfl,rfl,rfl,rfl,rfl,?_,trivial⟩ ⟨rfl,rfl,rfl,rfl,trivial⟩ rfl⟩
           ·show D*10=((10^(k+1):Nat):Int)
            rw[hD,Nat.pow_succ];omega
           ·exact bd (by omega) (by omega)
          ·refine kB false ?_ ?_
           ·exact decide_eq_false (by rw[hsb,List.length_cons];omega)
           refine kW ?_;have hkb:k=b.length:=by omega
           refine hR (N,D) ⟨?_,sN.mono (by decide),sD.mono (by decide),?_⟩ _ (weak ⟨rfl,rfl,rfl,rfl,rfl,trivial⟩ ⟨rfl,rfl,rfl,trivial⟩ rfl)
           ·rw[hN,hD,hkb,List.take_length,mA]
            exact hQ.trans (Cs h46 ⟨hb,hd⟩)
           ·show 0<D
            rw[hD];have:0<10^k:=Nat.pow_pos (by decide)
            omega
         ·refine kB false ?_ ?_
          ·exact decide_eq_false (fun e=>hd (iI.1 (by omega)))
          refine kW ?_;refine ap ab (l:=c::b) (i:=0) rfl rfl rfl rfl rfl rfl rfl rfl rfl ?_;refine kB false ?_ ?_
          ·exact decide_eq_false (by rw[h46];decide)
          refine kW ?_;refine Eq.mpr (congrFun hret _) ?_;exact gK (el (ez (hQ.trans (Dl h46 (fun h=>hd h.2))))) (by kernel_rfl)
       ·refine kB false ?_ ?_
        ·exact decide_eq_false (EM (d:=46) h46)
        refine kW ?_;refine ap ab (l:=c::b) (i:=0) rfl rfl rfl rfl rfl rfl rfl rfl rfl ?_
        by_cases h47:c=47
        ·refine kB true ?_ ?_
         ·exact decide_eq_true (by rw[h47];rfl)
         refine kO3 ?_
         by_cases hb:b=[]
         ·refine kB false ?_ ?_
          ·exact decide_eq_false (by rw[hsb,hb];simp)
          refine kW ?_;refine Eq.mpr (congrFun hret _) ?_;exact gK (el (ez (hQ.trans (sS h47 (fun h=>h.1.1 hb))))) (by kernel_rfl)
         ·have hb0:0<b.length:=List.length_pos_iff.2 hb
          refine kB true ?_ ?_
          ·exact decide_eq_true (by rw[hsb,List.length_cons];omega)
          refine kO3 ?_
          refine qX ab (l:=c::b) (l':=b) (i:=1) rfl (by simp) rfl rfl rfl rfl rfl rfl rfl rfl ?_;refine ae (jF (t:=b) (by omega)) rfl rfl rfl rfl rfl rfl rfl ?_
          refine kO2 ?_
          refine eU (v':= .int .i64 ((b.length:Nat))) rfl rfl rfl rfl ?_ ?_
          ·exact congrArg (Value.int .i64) (by rw[hsb,List.length_cons,IntWalk.i64_in _ (by omega)];omega)
          by_cases hd:∀x∈b,di x
          ·refine kB true ?_ ?_
           ·exact decide_eq_true (by rw[iI.2 hd])
           refine kO3 ?_
           refine Exists.elim (BB hb) fun d hd'=>Exists.elim hd' fun b' hbc=>?_
           refine ap ab (l:=c::b) (c:=d) (i:=1) (by rw[hbc];rfl) rfl rfl rfl rfl rfl rfl rfl rfl ?_
           by_cases h48:d=48
           ·refine kB false ?_ ?_
            ·exact(by rw[h48];rfl)
            refine kW ?_;refine Eq.mpr (congrFun hret _) ?_
            exact gK (el (ez (hQ.trans (sS h47 (fun h=>by
             have h1:=h.1;rcases h1.2.2 with h2|h2
             ·exact h2 d b' hbc h48
             ·have:b'=[]:=by rw[hbc]at h2;simpa using h2.1
              exact h.2.1 (by rw[hbc,this,h48];rfl)))))) (by kernel_rfl)
           ·refine kB true ?_ ?_
            ·exact(by simpa using EM (d:=48) h48)
            have hob:iC false b:=⟨hb,hd, .inl fun x y e=>by rw[hbc]at e;cases e;exact h48⟩;have hnb:0<num b:=ub hd hbc h48
            have c2:=nU b;rw[rA hd (by omega),if_pos hob]at c2;have sb:Sz 131080 (num b:Int):=(eT hd).mono (by omega);refine kW ?_;refine qX ab (l:=c::b) (l':=b) (i:=1) rfl (by simp) rfl rfl rfl rfl rfl rfl rfl rfl ?_;refine kQ (c2) ?_
            by_cases hn1:num b=1
            ·refine ae (dA (decide_eq_true (show(num b:Int)=1 by omega))) rfl rfl rfl rfl rfl rfl rfl ?_
             refine kW ?_;refine Eq.mpr (congrFun hret _) ?_;exact gK (el (ez (hQ.trans (sS h47 (fun h=>h.2.2.1 hn1))))) (by kernel_rfl)
            ·refine ae (dA (decide_eq_false (show ¬(num b:Int)=1 by omega))) rfl rfl rfl rfl rfl rfl rfl ?_
             refine kW ?_;refine ae (fA (sp.fit (by decide)) (sb.fit (by decide)) (by rw[Int.natAbs_natCast,Int.natAbs_natCast])) rfl rfl rfl rfl rfl rfl rfl ?_;refine kW ?_
             by_cases hg:Nat.gcd (num p) (num b)=1
             ·refine ae (dA (decide_eq_true (show((Nat.gcd (num p) (num b):Nat):Int)=1 by omega))) rfl rfl rfl rfl rfl rfl rfl ?_
              refine kW ?_;exact hR ((num p:Int),(num b:Int)) ⟨hQ.trans (DQ h47 ⟨hob,by omega,hn1,hg⟩),sp,sb,by dsimp only;omega⟩ _ (weak ⟨rfl,rfl,rfl,rfl,rfl,trivial⟩ ⟨rfl,rfl,rfl,trivial⟩ rfl)
             ·refine ae (dA (decide_eq_false (show ¬((Nat.gcd (num p) (num b):Nat):Int)=1 by omega))) rfl rfl rfl rfl rfl rfl rfl ?_
              refine kW ?_;refine Eq.mpr (congrFun hret _) ?_;exact gK (el (ez (hQ.trans (sS h47 (fun h=>hg h.2.2.2))))) (by kernel_rfl)
          ·refine kB false ?_ ?_
           ·exact decide_eq_false (fun e=>hd (iI.1 (by omega)))
           refine kW ?_;refine Eq.mpr (congrFun hret _) ?_;exact gK (el (ez (hQ.trans (sS h47 (fun h=>hd h.1.2.1))))) (by kernel_rfl)
        ·refine kB false ?_ ?_
         ·exact decide_eq_false (EM (d:=47) h47)
         refine kW ?_;refine Eq.mpr (congrFun hret _) ?_;exact gK (el (ez (hQ.trans (Gm h46 h47)))) (by kernel_rfl)
    ·refine kI ?_
     refine kO ?_
     by_cases hp0:p=[]
     ·refine kB true ?_ ?_
      ·exact decide_eq_true (by rw[hp0];rfl)
      refine kW ?_;refine Eq.mpr (congrFun hret _) ?_;exact gK (el (ez (hbad (fun h=>h.1 hp0)))) (by kernel_rfl)
     ·have hpp:0<p.length:=List.length_pos_iff.2 hp0
      refine kE ?_
      refine kO2 ?_
      by_cases h1:1<p.length
      ·refine kT ?_
       refine kO2 ?_
       obtain⟨c,p',hc⟩:∃c p',p=c::p':=by
        cases p with
        |nil=>exact absurd rfl hp0
        |cons c p'=>exact⟨c,p',rfl⟩
       have ht0:t[0]? =some c:=by rw[← hpr,hc];rfl
       refine ap ab (l:=t) (i:=0) ht0 rfl rfl rfl rfl rfl rfl rfl rfl ?_
       by_cases h48:c=48
       ·refine kB true ?_ ?_
        ·exact decide_eq_true (by rw[h48];rfl)
        refine kW ?_;refine Eq.mpr (congrFun hret _) ?_
        exact gK (el (ez (hbad (fun h=>by
         have:=((tX hpd).1 h).2 h1;rw[hc,h48]at this;exact this rfl)))) (by kernel_rfl)
       ·refine kB false ?_ ?_
        ·exact decide_eq_false (fun e=>h48 (UInt8.toNat_inj.1 (by have:(48:UInt8).toNat=48:=rfl;omega)))
        refine kW ?_;exact hR ((tX hpd).2 ⟨hp0,fun _ e=>by rw[hc]at e;simp at e;exact h48 e⟩) _ (weak ⟨rfl,rfl,rfl,rfl,rfl,trivial⟩ ⟨rfl,trivial⟩ rfl)
      ·refine kE ?_
       refine kW ?_;exact hR ((tX hpd).2 ⟨hp0,fun h=>absurd h h1⟩) _ (weak ⟨rfl,rfl,rfl,rfl,rfl,trivial⟩ ⟨rfl,trivial⟩ rfl)
   ·refine aL ?_
    refine gL hw1 rfl ?_;refine kN ?_;cases hn:bV s
    ·refine dJ (T:=TT) rfl ?_ ?_
     ·exact rfl
     refine bU ?_
     have e:t=s:=by
      rw[← ht];have:=FI s;rw[hn]at this;exact this
     rw[e,hn]at hR;exact hR _ (weak ⟨rfl,rfl,rfl,rfl,trivial⟩ ⟨rfl,trivial⟩ rfl)
    ·refine eW (T:=TT) rfl ?_ ?_
     ·exact rfl
     have e:s=45::t:=by
      have:=FI s;rw[hn,ht]at this;exact this.symm
     refine kI ?_;refine kO ?_;refine qX ab (l:=s) (l':=t) (i:=1) (by rw[e];rfl) (by rw[e];simp) rfl rfl rfl rfl rfl rfl rfl rfl ?_;refine kN ?_;rw[hn]at hR;exact hR _ (weak ⟨rfl,rfl,rfl,rfl,trivial⟩ ⟨rfl,trivial⟩ rfl)
  ·refine kI ?_
   refine kO ?_
   by_cases h0:s=[]
   ·refine aj rfl rfl rfl rfl rfl rfl rfl (fV (a:=s) (b:=[]) h0) ?_
    refine kW ?_;have:bV s=false:=by rw[h0];rfl
    rw[this]at hR;exact hR _ (weak ⟨rfl,rfl,rfl,rfl,trivial⟩ ⟨rfl,trivial⟩ rfl)
   ·obtain⟨c,s',hc⟩:∃c s',s=c::s':=by
     cases s with
     |nil=>exact absurd rfl h0
     |cons c s'=>exact⟨c,s',rfl⟩
    refine aj rfl rfl rfl rfl rfl rfl rfl (dT (a:=s) (b:=[]) h0) ?_
    refine kO2 ?_
    refine ap ab (l:=s) (i:=0) (by rw[hc];rfl) rfl rfl rfl rfl rfl rfl rfl rfl ?_
    by_cases h45:c=45
    ·refine kB true ?_ ?_
     ·exact decide_eq_true (by rw[h45];rfl)
     refine kW ?_;have:bV s=true:=by rw[hc,h45];rfl
     rw[this]at hR;exact hR _ (weak ⟨rfl,rfl,rfl,rfl,trivial⟩ ⟨rfl,trivial⟩ rfl)
    ·refine kB false ?_ ?_
     ·exact decide_eq_false (fun e=>h45 (UInt8.toNat_inj.1 (by have:(45:UInt8).toNat=45:=rfl;omega)))
     refine kW ?_;have:bV s=false:=by rw[hc];exact beq_eq_false_iff_ne.2 h45
     rw[this]at hR;exact hR _ (weak ⟨rfl,rfl,rfl,rfl,trivial⟩ ⟨rfl,trivial⟩ rfl)
 ·refine kV func184 ?_;refine eW (T:=TT) rfl ?_ ?_
  ·exact decide_eq_true (by omega)
  refine kW ?_;exact gK (el (by unfold bE;rw[if_neg hl])) (by kernel_rfl)
theorem Ei {t:List UInt8} {q:Rat} (hl:t.length≤500) (h:fg t=some q):iV 510 q:=by
 by_cases hok:iC false (eC t)
 ·rw[zY hok]at h
  have hpl:=xp t
  have hrl:(eC t).length+(iG t).length=t.length:=by
   have:=congrArg List.length (iq t);rw[List.length_append]at this;omega
  have sp:Sz (eC t).length (num (eC t):Int):=eT (kL t);generalize iG t=r at h hrl;generalize num (eC t)=n at h sp;cases r with
  |nil=>
   have:q=((n:Int):Rat):=by
    have h:some ((n:Int):Rat)=some q:=h;exact(Option.some.inj h).symm
   subst this;exact⟨sp.mono (by omega),(Sz.small (z:=1) (by decide)).mono (by decide)⟩
  |cons c b=>
   have hbl:(eC t).length+b.length≤499:=by simp at hrl;omega
   by_cases h46:c=46
   ·by_cases hb:b≠[]∧ ∀x∈b,di x
    ·rw[Cs h46 hb]at h
     cases h
     have sN:Sz 510 ((n*10^b.length+num b:Nat):Int):=by
      have h1:Sz 501 ((n:Int)*10^b.length):=Sz.of_pow sp (by omega);have h2:=Sz.add h1 ((eT hb.2).mono (by omega));have h3:Sz 510 ((n:Int)*10^b.length+(num b:Int)):=Sz.mono h2 (by decide);rw[Int.natCast_add,Int.natCast_mul,Int.natCast_pow];exact h3
     have sD:Sz 510 ((10^b.length:Nat):Int):=CD (by omega);have:0<10^b.length:=Nat.pow_pos (by decide)
     exact .divInt sN sD (by omega)
    ·rw[Dl h46 hb]at h;cases h
   ·by_cases h47:c=47
    ·by_cases hb:iC false b∧num b≠0∧num b≠1∧Nat.gcd n (num b)=1
     ·rw[DQ h47 hb]at h
      cases h;exact .divInt (sp.mono (by omega)) ((eT hb.1.2.1).mono (by omega)) (by have:=hb.2.1;omega)
     ·rw[sS h47 hb]at h;cases h
    ·rw[Gm h46 h47]at h;cases h
 ·unfold fg at h
  rw[if_neg hok]at h;cases h
theorem ig {s:List UInt8} {q:Rat} (hl5:s.length≤500) (h:bE s=some q):iV 510 q:=by
 unfold bE at h
 split at h
 ·rename_i hl
  have hd:=lC s;cases hp:fg (dG s)with
  |none=>rw[hp]at h;simp at h
  |some r=>
   have hs:=Ei (by omega) hp;rw[hp]at h
   simp only at h
   split at h
   ·split at h
    ·cases h
    ·cases h;exact hs.neg
   ·cases h;exact hs
 ·cases h
theorem AF (t u:Tk) (r:List Tk) (a:Int) (ht:t.1=2) (hT:cO (t::u::r)):Rd 183 (t::u::r) a (dV t (u::r)):=by
 have ht5:=hT.head.2 ht;have hw:cO (u::r):=hT.tail (by omega);cases hq:bE t.2.1 with
 |none=>
  have hP:dV t (u::r)= .error (t.2.2,2):=by unfold dV;rw[hq]
  have cp:=wK hq;rw[hP];refine⟨by decide, .mk 0 false [] false [] [] [],t::u::r,?_,hT⟩;refine ai ab bk func183 rfl rfl rfl rfl rfl (cG) ?_;refine kR ?_;refine kI ?_;refine kO ?_;refine kD (bw t (u::r) a 0) ?_;refine kO ?_;refine kQ (cp) ?_;refine kZ (jq t (u::r) a 2) ?_;exact⟨⟨_,rfl,rfl⟩,⟨rfl,trivial⟩⟩
 |some q=>
  have cp:=x4 hq;obtain⟨tx,cd,_⟩:=jB (ig ht5 hq) (by decide);cases hd:eY q with
  |none=>
   have hP:dV t (u::r)= .error (t.2.2,3):=by unfold dV;rw[hq];dsimp only;rw[hd]
   rw[hd]at cd;have cd:aa Tryz.prog 58 [dQ q] (.tup [dL tx,dB false]):=cd;rw[hP];refine⟨by decide, .mk 0 false [] false [] [] [],t::u::r,?_,hT⟩;refine ai ab bk func183 rfl rfl rfl rfl rfl (cG) ?_;refine kR ?_;refine kI ?_;refine kO ?_;refine kD (bw t (u::r) a 0) ?_;refine kO ?_;refine kQ (cp) ?_;refine kQ (cd) ?_;refine kZ (jq t (u::r) a 3) ?_;exact⟨⟨_,rfl,rfl⟩,⟨rfl,trivial⟩⟩
  |some z=>
   rw[hd]at cd;have cd:aa Tryz.prog 58 [dQ q] (.tup [dL tx,dB true]):=cd
   by_cases h1:u.1=1
   ·have hP:dV t (u::r)= .ok (.num q u.2.1,r):=by unfold dV;rw[hq];dsimp only;rw[hd];dsimp only;rw[if_pos h1]
    rw[hP];refine⟨?_,hw.tail (by omega)⟩;refine ai ab bk func183 rfl rfl rfl rfl rfl (cG) ?_;refine kR ?_;refine kI ?_;refine kO ?_;refine kD (bw t (u::r) a 0) ?_;refine kO ?_;refine kQ (cp) ?_;refine kQ (cd) ?_;refine kZ (fv t (u::r) a 0) ?_;refine kD (bw u r a 0) ?_;refine kO ?_;refine kX ?_;refine kZ (fv u r a 0) ?_;exact⟨⟨_,rfl,rfl⟩,⟨rfl,trivial⟩⟩
   ·have hP:dV t (u::r)= .ok (.num q [],u::r):=by unfold dV;rw[hq];dsimp only;rw[hd];dsimp only;rw[if_neg h1]
    rw[hP];refine⟨?_,hw⟩;refine ai ab bk func183 rfl rfl rfl rfl rfl (cG) ?_;refine kR ?_;refine kI ?_;refine kO ?_;refine kD (bw t (u::r) a 0) ?_;refine kO ?_;refine kQ (cp) ?_;refine kQ (cd) ?_;refine kZ (fv t (u::r) a 0) ?_;refine kD (bw u r a 0) ?_;refine kO ?_;refine kY ?_;exact⟨⟨_,rfl,rfl⟩,⟨rfl,trivial⟩⟩
def nT:Bool→List UInt8
 |false=>[43,45]
 |true=>[42,47]
def H1:Bool→List (Value × Value)
 |false=>[(.string ⟨#[43]⟩, .int .i64 4),(.string ⟨#[45]⟩, .int .i64 5)]
 |true=>[(.string ⟨#[42]⟩, .int .i64 6),(.string ⟨#[47]⟩, .int .i64 7)]
theorem Ef (a b c:UInt8):(0≤Lib.indexByte [a,b] c)↔(c=a∨c=b):=by
 rw[nZ]
 simp
theorem yF (a c:UInt8):(0≤Lib.indexByte [a] c)↔c=a:=by
 rw[nZ]
 simp
theorem Gs (two:Bool) (t:Tk) (r:List Tk):(decide (t.1=4) && yx (nT two) t)=(dw two (t::r)).isSome:=by
 obtain⟨k,x,p⟩:=t
 by_cases h4:k=4
 ·subst h4
  match x with
  | []=>cases two<;>rfl
  |c::d::y=>cases two<;>rfl
  | [c]=>
   cases two
   ·show decide (0≤Lib.indexByte [43,45] c)=_
    by_cases h1:c=43
    ·subst h1;rfl
    ·by_cases h2:c=45
     ·subst h2;rfl
     ·rw[decide_eq_false (by rw[Ef];simp[h1,h2])]
      simp[dw,gY,h1,h2]
   ·show decide (0≤Lib.indexByte [42,47] c)=_
    by_cases h1:c=42
    ·subst h1;rfl
    ·by_cases h2:c=47
     ·subst h2;rfl
     ·rw[decide_eq_false (by rw[Ef];simp[h1,h2])]
      simp[dw,gY,h1,h2]
 ·simp[dw,h4]
theorem jI {two:Bool} {t:Tk} {r r2:List Tk} {k:B4} (h:dw two (t::r)=some (k,r2)):r2=r∧t.1=4∧ ∃c,t.2.1=[c]∧IG ⟨#[c]⟩ (H1 two)=some (.int .i64 k.code):=by
 obtain⟨k4,x,p⟩:=t
 simp only[dw]at h
 split at h
 ·rename_i h4
  split at h
  ·rename_i k' hk
   cases h;refine⟨rfl,h4,?_⟩
   match x,hk with
   | [],hk=>cases two<;>cases hk
   |c::d::y,hk=>cases two<;>cases hk
   | [c],hk=>
    cases two
    ·simp only[gY]at hk
     split at hk
     ·rename_i hc;cases hk;subst hc;exact⟨_,rfl,rfl⟩
     ·split at hk
      ·rename_i hc;cases hk;subst hc;exact⟨_,rfl,rfl⟩
      ·cases hk
    ·simp only[gY]at hk
     split at hk
     ·rename_i hc;cases hk;subst hc;exact⟨_,rfl,rfl⟩
     ·split at hk
      ·rename_i hc;cases hk;subst hc;exact⟨_,rfl,rfl⟩
      ·cases hk
  ·cases h
 ·cases h
theorem ug (c:UInt8) (t:Tk) (r:List Tk):(decide (t.1=4) && yx [c] t)=(aU c (t::r)).isSome:=by
 obtain⟨k,x,p⟩:=t
 by_cases h4:k=4
 ·subst h4
  match x with
  | []=>simp[yx,aU]
  |b::d::y=>simp[yx,aU]
  | [b]=>
   show decide (0≤Lib.indexByte [c] b)=_
   by_cases h:b=c
   ·subst h;rw[decide_eq_true ((yF b b).2 rfl)];simp[aU]
   ·rw[decide_eq_false (by rw[yF];exact h)];simp[aU,h]
 ·simp[aU,h4]
theorem jS {c:UInt8} {t:Tk} {r r2:List Tk} (h:aU c (t::r)=some r2):r2=r∧t.1=4:=by
 simp only[aU]at h
 split at h
 ·rename_i h1;cases h;exact⟨rfl,h1.1⟩
 ·cases h
def ID (fid:FuncId) (ts:List Tk) (a:Int) (Y:Rx × List Tk):gR→Prop
 | .ok (e,r)=>aC Tryz.prog fid [.box 900 0] [(900,gx ts a 0)] (.v (.one (dE e))) [(900,gx r a 0)]∧cO r
 | .error (p,c)=>c≠0∧aC Tryz.prog fid [.box 900 0] [(900,gx ts a 0)] (.v (.one (dR Y.1))) [(900,gx Y.2 p c)]∧cO Y.2
theorem BJ {fid:FuncId} {a:Int} {g:List Tk→Option gR} (h:∀ts x,cO ts→g ts=some x→Rd fid ts a x):∃Y:List Tk→Rx × List Tk,∀ts x,cO ts→g ts=some x→ID fid ts a (Y ts) x:=by
 have:∀ts:List Tk,∃Y:Rx × List Tk,∀x,cO ts→g ts=some x→ID fid ts a Y x:=fun ts=>by
  by_cases hw:cO ts
  ·cases hg:g ts with
   |none=>exact⟨(.mk 0 false [] false [] [] [],[]),fun x _ hx=>by cases hx⟩
   |some x=>
    have hx:=h ts x hw hg;cases x with
    |ok y=>exact⟨(.mk 0 false [] false [] [] [],[]),fun x _ hx'=>by cases hx';exact hx⟩
    |error y=>
     obtain⟨hc,y1,ts1,h1,h2⟩:=hx;exact⟨(y1,ts1),fun x _ hx'=>by cases hx';exact⟨hc,h1,h2⟩⟩
  ·exact⟨(.mk 0 false [] false [] [] [],[]),fun x hw'=>absurd hw' hw⟩
 obtain⟨Y,hY⟩:=Classical.axiomOfChoice this;exact⟨Y,fun ts x hw hx=>hY ts x hw hx⟩
noncomputable def gB (two:Bool) (Y:List Tk→Rx × List Tk):Nat→Ex→List Tk→Rx × List Tk
 |0,e,ts=>(rx e,ts)
 |f+1,e,ts=>match dw two ts with
  |some (k,r)=>match pP f (ej two) r with
   |some (.ok (e2,r2))=>gB two Y f (.bin k e e2) r2
   |_=>(.mk k.code false [] false [] [] [rx e,(Y r).1],(Y r).2)
  |none=>(rx e,ts)
inductive LS where
 |run (f:Nat) (e:Ex) (ts:List Tk)
 |bad (y:Rx) (ts:List Tk) (p c:Int)
def LS.c1:LS→List AV
 | .run _ e _=>aE e
 | .bad y _ _ _=>aR y
def LS.c2 (a:Int):LS→List AV
 | .run _ _ ts=>gx ts a 0
 | .bad _ ts p c=>gx ts p c
def bS (two:Bool) (fop:FuncId) (c1 c2:List AV):AS:=⟨[(0, .box 900 0),(1, .d (dL (nT two))),(2, .mp (H1 two)),(3, .clo (.func fop) [.box 900 0] []),(8, .box 0 0),(9, .box 1002 0)],[(0,some (ac 0 false [] false [] [] 0 [])),(1002,some c1),(900,some c2)]⟩
abbrev Ih (two:Bool) (fop:FuncId):List TV:=[.box 900 0, .d (dL (nT two)), .mp (H1 two), .clo (.func fop) [.box 900 0] []]
def J7 (two:Bool) (fop:FuncId) (ts:List Tk) (a:Int):gR→Prop
 | .ok (e,r)=>aC Tryz.prog 70 (Ih two fop) [(900,gx ts a 0)] (.v (.one (dE e))) [(900,gx r a 0)]∧cO r
 | .error (p,c)=>c≠0∧ ∃y ts',aC Tryz.prog 70 (Ih two fop) [(900,gx ts a 0)] (.v (.one (dR y))) [(900,gx ts' p c)]∧cO ts'
def LS.I (two:Bool) (Y:List Tk→Rx × List Tk) (f:Nat) (a:Int) (D:DV) (B:List AV):LS→Prop
 | .run f' e ts=>cO ts∧f'≤f∧ ∃x',pP f' (.more two e) ts=some x'∧(match x' with
  | .ok (e',r')=>D=dE e'∧B=gx r' a 0
  | .error (p,c)=>D=dR (gB two Y f' e ts).1∧B=gx (gB two Y f' e ts).2 p c)
 | .bad y ts p c=>cO ts∧c≠0∧D=dR y∧B=gx ts p c
def LS.mu:LS→Nat
 | .run f _ _=>f+1
 | .bad _ _ _ _=>0
theorem oC (k:B4) (e:Ex) (y:Rx):aR (.mk k.code false [] false [] [] [rx e,y])=[.val (.int .i64 k.code)]++lZ++[.val (vL []), .sl 2 (aE e++aR y)]:=by
 show [.val (.int .i64 k.code)]++zt false [] false []++[.val (vL []), .sl 2 (aR (rx e)++(aR y++[]))]=_;rw[List.append_nil];rfl
theorem GH (two:Bool) (fop:FuncId) (f:Nat) (a:Int) (Y:List Tk→Rx × List Tk) (hY:∀ts x,cO ts→pP f (ej two) ts=some x→ID fop ts a (Y ts) x) (ts:List Tk) (hT:cO ts) {e0:Ex} {r0:List Tk} (h0:pP f (ej two) ts=some (.ok (e0,r0)))
 {D:DV} {B:List AV} (hB:B.length=3) (hI:LS.I two Y f a D B (.run f e0 r0)):aC Tryz.prog 70 (Ih two fop) [(900,gx ts a 0)] (.v (.one D)) [(900,B)]:=by
 obtain⟨c0,hw0⟩:=hY ts _ hT h0;obtain⟨t,r,hr⟩:=hw0.ne;obtain⟨o1,na1,xs1,nb1,ys1,nm1,n1,cs1,hA⟩:=aA e0;have hE:dE e0= .agg (ac o1 na1 xs1 nb1 ys1 nm1 n1 cs1):=congrArg DV.agg hA;rw[hE]at c0;refine ai ab bk func70 rfl rfl rfl rfl rfl ((fi.one (Nat.le_of_eq hB.symm))) ?_;refine kW ?_;refine kZ (c0) ?_
 refine bh LS (LS.I two Y f a D B) (fun x=>bS two fop x.c1 (x.c2 a)) LS.mu (.run f e0 r0) hI (by
  refine Eq.mpr (congrArg (fun c=>bv _ (bS two fop c (gx r0 a 0))) hA) ?_;exact weak ⟨rfl,rfl,rfl,rfl,rfl,rfl,trivial⟩ ⟨rfl,rfl,rfl,trivial⟩ rfl) ?_
 intro x hx;cases x with
 |bad y ts1 p c=>
  obtain⟨hw,hc,rfl,rfl⟩:=hx;obtain⟨t,r,rfl⟩:=hw.ne;obtain⟨o1,na1,xs1,nb1,ys1,nm1,n1,cs1,hA⟩:=aS y;have cis:=qP (nT two) t r p c hw.head.1;rw[decide_eq_false hc,Bool.false_and]at cis;rw[show dR y= .agg (ac o1 na1 xs1 nb1 ys1 nm1 n1 cs1) from congrArg DV.agg hA];show gw _ _ _ _ _ (bS two fop (aR y) (gx (t::r) p c));rw[hA];unfold bS;refine kW ?_;refine kZ (cis) ?_;exact⟨⟨_,rfl,rfl⟩,⟨rfl,trivial⟩⟩
 |run f' e ts1=>
  obtain⟨hw,hf,x',hx,hD⟩:=hx;obtain⟨t,r,rfl⟩:=hw.ne;obtain⟨o1,na1,xs1,nb1,ys1,nm1,n1,cs1,hA⟩:=aA e;have cis:=qP (nT two) t r a 0 hw.head.1;rw[decide_eq_true rfl,Bool.true_and,Gs]at cis;show gw _ _ _ _ _ (bS two fop (aE e) (gx (t::r) a 0));rw[hA];cases f' with
  |zero=>cases hx
  |succ f'=>
  rw[cg]at hx;cases ho:dw two (t::r)with
  |none=>
   rw[ho]at hx cis;cases hx;obtain⟨rfl,rfl⟩:=hD;rw[show dE e= .agg (ac o1 na1 xs1 nb1 ys1 nm1 n1 cs1) from congrArg DV.agg hA];have cis:aC Tryz.prog 109 [.box 900 0, .d (dL (nT two))] [(900,gx (t::r) a 0)] (.v (.one (dB false))) [(900,gx (t::r) a 0)]:=cis;unfold bS;refine kW ?_;refine kZ (cis) ?_;exact⟨⟨_,rfl,rfl⟩,⟨rfl,trivial⟩⟩
  |some q=>
   obtain⟨k,r2⟩:=q;obtain⟨rfl,h4,c,hc,hl⟩:=jI ho;rw[ho]at hx cis;have cis:aC Tryz.prog 109 [.box 900 0, .d (dL (nT two))] [(900,gx (t::r2) a 0)] (.v (.one (dB true))) [(900,gx (t::r2) a 0)]:=cis;have hw2:cO r2:=hw.tail (by omega);obtain⟨k4,tx,p0⟩:=t;dsimp only at h4 hc;subst h4 hc;dsimp only at hx;cases hy:pP f' (ej two) r2 with
   |none=>rw[hy]at hx;cases hx
   |some y=>
    have cy:=hY r2 y hw2 (fQ (by omega) hy);rw[hy]at hx;cases y with
    |error z=>
     obtain⟨p,c1⟩:=z;cases hx;obtain⟨hc1,cy,hw3⟩:=cy
     have hg:gB two Y (f'+1) e ((4,[c],p0)::r2)=(.mk k.code false [] false [] [] [rx e,(Y r2).1],(Y r2).2):=by
      rw[gB,ho];dsimp only;rw[hy]
     rw[hg]at hD;obtain⟨o2,na2,xs2,nb2,ys2,nm2,n2,cs2,hA2⟩:=aS (Y r2).1;have hbad:=oC k e (Y r2).1;rw[hA,hA2]at hbad;rw[show dR (Y r2).1= .agg (ac o2 na2 xs2 nb2 ys2 nm2 n2 cs2) from congrArg DV.agg hA2]at cy;generalize hY2:(Y r2).2=ts2 at *;unfold bS;refine kW ?_;refine kZ (cis) ?_;refine kD (fv (4,[c],p0) r2 a 0) ?_;refine kO ?_;refine xa underlying106 underlying9 hl rfl rfl rfl rfl rfl rfl rfl ?_;refine kW ?_;refine kZ (cy) ?_;refine⟨.bad (.mk k.code false [] false [] [] [rx e,(Y r2).1]) ts2 p c1,⟨hw3,hc1,hD.1,hD.2⟩,Nat.succ_pos _,?_⟩;refine Eq.mpr (congrArg (fun c=>bv _ (bS two fop c (gx ts2 p c1))) hbad) ?_;exact weak ⟨rfl,rfl,rfl,rfl,rfl,rfl,trivial⟩ ⟨rfl,rfl,rfl,trivial⟩ rfl
    |ok z=>
     obtain⟨e2,r3⟩:=z;obtain⟨cy,hw3⟩:=cy;have hx:pP f' (.more two (.bin k e e2)) r3=some x':=hx
     have hg:gB two Y (f'+1) e ((4,[c],p0)::r2)=gB two Y f' (.bin k e e2) r3:=by
      rw[gB,ho];dsimp only;rw[hy]
     rw[hg]at hD;obtain⟨o2,na2,xs2,nb2,ys2,nm2,n2,cs2,hA2⟩:=aA e2;have hbin:=i7 k e e2;rw[hA,hA2]at hbin;rw[show dE e2= .agg (ac o2 na2 xs2 nb2 ys2 nm2 n2 cs2) from congrArg DV.agg hA2]at cy;unfold bS;refine kW ?_;refine kZ (cis) ?_;refine kD (fv (4,[c],p0) r2 a 0) ?_;refine kO ?_;refine xa underlying106 underlying9 hl rfl rfl rfl rfl rfl rfl rfl ?_;refine kW ?_;refine kZ (cy) ?_;refine⟨.run f' (.bin k e e2) r3,⟨hw3,by omega,x',hx,hD⟩,by show f'+1<f'+1+1;omega,?_⟩;refine Eq.mpr (congrArg (fun c=>bv _ (bS two fop c (gx r3 a 0))) hbin) ?_;exact weak ⟨rfl,rfl,rfl,rfl,rfl,rfl,trivial⟩ ⟨rfl,rfl,rfl,trivial⟩ rfl
theorem D2 {two:Bool} {fop:FuncId} {f:Nat} {a:Int} {Y:List Tk→Rx × List Tk} (hY:∀ts x,cO ts→pP f (ej two) ts=some x→ID fop ts a (Y ts) x):∀(f':Nat) (e:Ex) (ts:List Tk) (e':Ex) (r':List Tk),f'≤f→cO ts→pP f' (.more two e) ts=some (.ok (e',r'))→cO r'
 |0,_,_,_,_,_,_,h=>by cases h
 |f'+1,e,ts,e',r',hf,hw,h=>by
  rw[cg]at h;obtain⟨t,r,rfl⟩:=hw.ne;cases ho:dw two (t::r)with
  |none=>rw[ho]at h;cases h;exact hw
  |some q=>
   obtain⟨k,r2⟩:=q;obtain⟨rfl,h4,_⟩:=jI ho;have hw2:cO r2:=hw.tail (by omega);rw[ho]at h;dsimp only at h ⊢;cases hy:pP f' (ej two) r2 with
   |none=>rw[hy]at h;cases h
   |some y=>
    have cy:=hY r2 y hw2 (fQ (by omega) hy);rw[hy]at h;cases y with
    |error z=>cases h
    |ok z=>exact D2 hY f' _ _ e' r' (by omega) cy.2 h
theorem zS {two:Bool} {fop:FuncId} {f:Nat} {a:Int} {Y:List Tk→Rx × List Tk} (hY:∀ts x,cO ts→pP f (ej two) ts=some x→ID fop ts a (Y ts) x):∀(f':Nat) (e:Ex) (ts:List Tk) (p:Nat) (c:Int),f'≤f→cO ts→pP f' (.more two e) ts=some (.error (p,c))→c≠0∧cO (gB two Y f' e ts).2
 |0,_,_,_,_,_,_,h=>by cases h
 |f'+1,e,ts,p,c,hf,hw,h=>by
  rw[cg]at h;rw[gB];obtain⟨t,r,rfl⟩:=hw.ne;cases ho:dw two (t::r)with
  |none=>rw[ho]at h;cases h
  |some q=>
   obtain⟨k,r2⟩:=q;obtain⟨rfl,h4,_⟩:=jI ho;have hw2:cO r2:=hw.tail (by omega);rw[ho]at h;dsimp only at h ⊢;cases hy:pP f' (ej two) r2 with
   |none=>rw[hy]at h;cases h
   |some y=>
    have cy:=hY r2 y hw2 (fQ (by omega) hy);rw[hy]at h;cases y with
    |error z=>cases h;exact⟨cy.1,cy.2.2⟩
    |ok z=>exact zS hY f' _ _ p c (by omega) cy.2 h
theorem sL (two:Bool) (fop:FuncId) (f:Nat) (a:Int) (hop:∀ts x,cO ts→pP f (ej two) ts=some x→Rd fop ts a x) (ts:List Tk) (x:gR) (hT:cO ts) (hx:(match pP f (ej two) ts with
  |some (.ok (e,r))=>pP f (.more two e) r
  |y=>y)=some x):J7 two fop ts a x:=by
 obtain⟨Y,hY⟩:=BJ hop;cases h0:pP f (ej two) ts with
 |none=>rw[h0]at hx;cases hx
 |some y0=>
  rw[h0]at hx;have c0:=hY ts y0 hT h0;cases y0 with
  |error z=>
   cases hx;obtain⟨p,c⟩:=z;obtain⟨hc,c0,hw⟩:=c0;refine⟨hc,(Y ts).1,(Y ts).2,?_,hw⟩;generalize(Y ts).1=y at *;generalize(Y ts).2=ts' at *;obtain⟨t,r,rfl⟩:=hw.ne;obtain⟨o1,na1,xs1,nb1,ys1,nm1,n1,cs1,hA⟩:=aS y;rw[show dR y= .agg (ac o1 na1 xs1 nb1 ys1 nm1 n1 cs1) from congrArg DV.agg hA]at c0 ⊢;have cis:=qP (nT two) t r p c hw.head.1;rw[decide_eq_false hc,Bool.false_and]at cis;refine ai ab bk func70 rfl rfl rfl rfl rfl (cG) ?_;refine kW ?_;refine kZ (c0) ?_;refine bh Unit (fun _=>True) (fun _=>bS two fop (ac o1 na1 xs1 nb1 ys1 nm1 n1 cs1) (gx (t::r) p c)) (fun _=>0) () trivial (weak ⟨rfl,rfl,rfl,rfl,rfl,rfl,trivial⟩ ⟨rfl,rfl,rfl,trivial⟩ rfl) ?_;rintro _ _;unfold bS;refine kW ?_;refine kZ (cis) ?_;exact⟨⟨_,rfl,rfl⟩,⟨rfl,trivial⟩⟩
  |ok z=>
   obtain⟨e,r⟩:=z;have hx:pP f (.more two e) r=some x:=hx;cases x with
   |ok w=>
    obtain⟨e',r'⟩:=w;exact⟨GH two fop f a Y hY ts hT h0 (B:=gx r' a 0) rfl ⟨c0.2,Nat.le_refl _,_,hx,rfl,rfl⟩,D2 hY f e r e' r' (Nat.le_refl _) c0.2 hx⟩
   |error w=>
    obtain⟨p,c⟩:=w;obtain⟨hc,hw⟩:=zS hY f e r p c (Nat.le_refl _) c0.2 hx;exact⟨hc,_,_,GH two fop f a Y hY ts hT h0 (B:=gx _ p c) rfl ⟨c0.2,Nat.le_refl _,_,hx,rfl,rfl⟩,hw⟩
structure Jc (f:Nat) (a:Int):Prop where
 sum:∀ts x,cO ts→pP f .sum ts=some x→Rd 39 ts a x
 prod:∀ts x,cO ts→pP f .prod ts=some x→Rd 71 ts a x
 un:∀ts x,cO ts→pP f .un ts=some x→Rd 111 ts a x
 prim:∀ts x,cO ts→pP f .prim ts=some x→Rd 152 ts a x
theorem HX {f:Nat} {a:Int} (ih:∀ts x,cO ts→pP f .prod ts=some x→Rd 71 ts a x) (ts:List Tk) (x:gR) (hT:cO ts) (hx:pP (f+1) .sum ts=some x):Rd 39 ts a x:=by
 have h:=sL false 71 f a ih ts x hT (by rw[fT]at hx;exact hx);cases x with
 |ok z=>
  obtain⟨e,r⟩:=z;obtain⟨h,hw⟩:=h;refine⟨?_,hw⟩;obtain⟨o1,na1,xs1,nb1,ys1,nm1,n1,cs1,hA⟩:=aA e;rw[show dE e= .agg (ac o1 na1 xs1 nb1 ys1 nm1 n1 cs1) from congrArg DV.agg hA]at h ⊢;refine ai ab bk func39 rfl rfl rfl rfl rfl (cG) ?_;refine kR ?_;refine kI ?_;refine kO ?_;refine u7 underlying106 underlying9 rfl rfl rfl rfl rfl ⟨rfl,rfl,rfl⟩ rfl rfl rfl rfl ?_;refine kW ?_;refine kZ (h) ?_;exact⟨⟨_,rfl,rfl⟩,⟨rfl,trivial⟩⟩
 |error z=>
  obtain⟨p,c⟩:=z;obtain⟨hc,y,ts',h,hw⟩:=h;refine⟨hc,y,ts',?_,hw⟩;obtain⟨o1,na1,xs1,nb1,ys1,nm1,n1,cs1,hA⟩:=aS y;rw[show dR y= .agg (ac o1 na1 xs1 nb1 ys1 nm1 n1 cs1) from congrArg DV.agg hA]at h ⊢;refine ai ab bk func39 rfl rfl rfl rfl rfl (cG) ?_;refine kR ?_;refine kI ?_;refine kO ?_;refine u7 underlying106 underlying9 rfl rfl rfl rfl rfl ⟨rfl,rfl,rfl⟩ rfl rfl rfl rfl ?_;refine kW ?_;refine kZ (h) ?_;exact⟨⟨_,rfl,rfl⟩,⟨rfl,trivial⟩⟩
theorem Fw {f:Nat} {a:Int} (ih:∀ts x,cO ts→pP f .un ts=some x→Rd 111 ts a x) (ts:List Tk) (x:gR) (hT:cO ts) (hx:pP (f+1) .prod ts=some x):Rd 71 ts a x:=by
 have h:=sL true 111 f a ih ts x hT (by rw[eI]at hx;exact hx);cases x with
 |ok z=>
  obtain⟨e,r⟩:=z;obtain⟨h,hw⟩:=h;refine⟨?_,hw⟩;obtain⟨o1,na1,xs1,nb1,ys1,nm1,n1,cs1,hA⟩:=aA e;rw[show dE e= .agg (ac o1 na1 xs1 nb1 ys1 nm1 n1 cs1) from congrArg DV.agg hA]at h ⊢;refine ai ab bk func71 rfl rfl rfl rfl rfl (cG) ?_;refine kR ?_;refine kI ?_;refine kO ?_;refine u7 underlying106 underlying9 rfl rfl rfl rfl rfl ⟨rfl,rfl,rfl⟩ rfl rfl rfl rfl ?_;refine kW ?_;refine kZ (h) ?_;exact⟨⟨_,rfl,rfl⟩,⟨rfl,trivial⟩⟩
 |error z=>
  obtain⟨p,c⟩:=z;obtain⟨hc,y,ts',h,hw⟩:=h;refine⟨hc,y,ts',?_,hw⟩;obtain⟨o1,na1,xs1,nb1,ys1,nm1,n1,cs1,hA⟩:=aS y;rw[show dR y= .agg (ac o1 na1 xs1 nb1 ys1 nm1 n1 cs1) from congrArg DV.agg hA]at h ⊢;refine ai ab bk func71 rfl rfl rfl rfl rfl (cG) ?_;refine kR ?_;refine kI ?_;refine kO ?_;refine u7 underlying106 underlying9 rfl rfl rfl rfl rfl ⟨rfl,rfl,rfl⟩ rfl rfl rfl rfl ?_;refine kW ?_;refine kZ (h) ?_;exact⟨⟨_,rfl,rfl⟩,⟨rfl,trivial⟩⟩
theorem tN (y:Rx):aR (.mk 3 false [] false [] [] [y])=[.val (.int .i64 3)]++lZ++[.val (vL []), .sl 1 (aR y)]:=by
 show [.val (.int .i64 3)]++zt false [] false []++[.val (vL []), .sl 1 (aR y++[])]=_;rw[List.append_nil];rfl
theorem IN {f:Nat} {a:Int} (ih:∀ts x,cO ts→pP f .un ts=some x→Rd 111 ts a x) (ih2:∀ts x,cO ts→pP f .prim ts=some x→Rd 152 ts a x) (ts:List Tk) (x:gR) (hT:cO ts) (hx:pP (f+1) .un ts=some x):Rd 111 ts a x:=by
 obtain⟨t,r,rfl⟩:=hT.ne;rw[fX]at hx;have cis:=qP [45] t r a 0 hT.head.1;rw[decide_eq_true rfl,Bool.true_and,ug]at cis;cases hs:aU 45 (t::r)with
 |some r2=>
  obtain⟨rfl,h4⟩:=jS hs;rw[hs]at hx cis;have cis:aC Tryz.prog 109 [.box 900 0, .d (dL [45])] [(900,gx (t::r2) a 0)] (.v (.one (dB true))) [(900,gx (t::r2) a 0)]:=cis;have hw2:cO r2:=hT.tail (by omega);dsimp only at hx;cases hy:pP f .un r2 with
  |none=>rw[hy]at hx;cases hx
  |some y=>
   have cy:=ih r2 y hw2 hy;rw[hy]at hx;cases y with
   |ok z=>
    obtain⟨e,r3⟩:=z;cases hx;obtain⟨cy,hw3⟩:=cy;refine⟨?_,hw3⟩;obtain⟨o1,na1,xs1,nb1,ys1,nm1,n1,cs1,hA⟩:=aA e;rw[show dE (.neg e)= .agg ([.val (.int .i64 3)]++lZ++[.val (vL []), .sl 1 (aE e)]) from congrArg DV.agg (mJ e),hA];rw[show dE e= .agg (ac o1 na1 xs1 nb1 ys1 nm1 n1 cs1) from congrArg DV.agg hA]at cy;refine ai ab bk func111 rfl rfl rfl rfl rfl (cG) ?_;refine kW ?_;refine kZ (cis) ?_;refine kZ (fv t r2 a 0) ?_;refine kZ (cy) ?_;exact⟨⟨_,rfl,rfl⟩,⟨rfl,trivial⟩⟩
   |error z=>
    cases hx;obtain⟨p,c⟩:=z;obtain⟨hc,y,ts',cy,hw3⟩:=cy;refine⟨hc, .mk 3 false [] false [] [] [y],ts',?_,hw3⟩;obtain⟨o1,na1,xs1,nb1,ys1,nm1,n1,cs1,hA⟩:=aS y;rw[show dR (.mk 3 false [] false [] [] [y])= .agg ([.val (.int .i64 3)]++lZ++[.val (vL []), .sl 1 (aR y)]) from congrArg DV.agg (tN y),hA];rw[show dR y= .agg (ac o1 na1 xs1 nb1 ys1 nm1 n1 cs1) from congrArg DV.agg hA]at cy;refine ai ab bk func111 rfl rfl rfl rfl rfl (cG) ?_;refine kW ?_;refine kZ (cis) ?_;refine kZ (fv t r2 a 0) ?_;refine kZ (cy) ?_;exact⟨⟨_,rfl,rfl⟩,⟨rfl,trivial⟩⟩
 |none=>
  rw[hs]at hx cis;have cis:aC Tryz.prog 109 [.box 900 0, .d (dL [45])] [(900,gx (t::r) a 0)] (.v (.one (dB false))) [(900,gx (t::r) a 0)]:=cis;have cy:=ih2 (t::r) x hT hx;cases x with
  |ok z=>
   obtain⟨e,r3⟩:=z;obtain⟨cy,hw3⟩:=cy;refine⟨?_,hw3⟩;obtain⟨o1,na1,xs1,nb1,ys1,nm1,n1,cs1,hA⟩:=aA e;rw[show dE e= .agg (ac o1 na1 xs1 nb1 ys1 nm1 n1 cs1) from congrArg DV.agg hA]at cy ⊢;refine ai ab bk func111 rfl rfl rfl rfl rfl (cG) ?_;refine kW ?_;refine kZ (cis) ?_;refine kZ (cy) ?_;exact⟨⟨_,rfl,rfl⟩,⟨rfl,trivial⟩⟩
  |error z=>
   obtain⟨p,c⟩:=z;obtain⟨hc,y,ts',cy,hw3⟩:=cy;refine⟨hc,y,ts',?_,hw3⟩;obtain⟨o1,na1,xs1,nb1,ys1,nm1,n1,cs1,hA⟩:=aS y;rw[show dR y= .agg (ac o1 na1 xs1 nb1 ys1 nm1 n1 cs1) from congrArg DV.agg hA]at cy ⊢;refine ai ab bk func111 rfl rfl rfl rfl rfl (cG) ?_;refine kW ?_;refine kZ (cis) ?_;refine kZ (cy) ?_;exact⟨⟨_,rfl,rfl⟩,⟨rfl,trivial⟩⟩
def z7:Rx:= .mk 0 false [] false [] [] []
theorem Fh {f:Nat} {a:Int} (ih:∀ts x,cO ts→pP f .sum ts=some x→Rd 39 ts a x) (ts:List Tk) (x:gR) (hT:cO ts) (hx:pP (f+1) .prim ts=some x):Rd 152 ts a x:=by
 obtain⟨t,r,rfl⟩:=hT.ne;rw[dl]at hx;have cis:=qP [40] t r a 0 hT.head.1;rw[decide_eq_true rfl,Bool.true_and,ug]at cis;cases hs:aU 40 (t::r)with
 |some r2=>
  obtain⟨rfl,h4⟩:=jS hs;rw[hs]at hx cis;have cis:aC Tryz.prog 109 [.box 900 0, .d (dL [40])] [(900,gx (t::r2) a 0)] (.v (.one (dB true))) [(900,gx (t::r2) a 0)]:=cis;have hw2:cO r2:=hT.tail (by omega);dsimp only at hx;cases hy:pP f .sum r2 with
  |none=>rw[hy]at hx;cases hx
  |some y=>
   have cy:=ih r2 y hw2 hy;rw[hy]at hx;cases y with
   |error z=>
    cases hx;obtain⟨p,c⟩:=z;obtain⟨hc,y,ts',cy,hw3⟩:=cy;refine⟨hc,z7,ts',?_,hw3⟩;obtain⟨u,r4,rfl⟩:=hw3.ne;obtain⟨o1,na1,xs1,nb1,ys1,nm1,n1,cs1,hA⟩:=aS y;rw[show dR y= .agg (ac o1 na1 xs1 nb1 ys1 nm1 n1 cs1) from congrArg DV.agg hA]at cy;have cis2:=qP [41] u r4 p c hw3.head.1;rw[decide_eq_false hc,Bool.false_and]at cis2;refine ai ab bk func152 rfl rfl rfl rfl rfl (cG) ?_;refine kW ?_;refine kD (bw t r2 a 0) ?_;refine kO ?_;refine kY ?_;refine kD (bw t r2 a 0) ?_;refine kO ?_;refine kY ?_;refine kZ (cis) ?_;refine kZ (fv t r2 a 0) ?_;refine kZ (cy) ?_;refine kZ (cis2) ?_;refine kZ (p7 u r4 p c 2 hc) ?_;exact⟨⟨_,rfl,rfl⟩,⟨rfl,trivial⟩⟩
   |ok z=>
    obtain⟨e,r3⟩:=z;obtain⟨cy,hw3⟩:=cy;obtain⟨u,r4,rfl⟩:=hw3.ne;obtain⟨o1,na1,xs1,nb1,ys1,nm1,n1,cs1,hA⟩:=aA e;rw[show dE e= .agg (ac o1 na1 xs1 nb1 ys1 nm1 n1 cs1) from congrArg DV.agg hA]at cy;have cis2:=qP [41] u r4 a 0 hw3.head.1;rw[decide_eq_true rfl,Bool.true_and,ug]at cis2;dsimp only at hx;cases hs2:aU 41 (u::r4)with
    |some r5=>
     obtain⟨rfl,h4'⟩:=jS hs2;rw[hs2]at hx cis2;cases hx;refine⟨?_,hw3.tail (by omega)⟩;rw[show dE e= .agg (ac o1 na1 xs1 nb1 ys1 nm1 n1 cs1) from congrArg DV.agg hA];have cis2:aC Tryz.prog 109 [.box 900 0, .d (dL [41])] [(900,gx (u::r5) a 0)] (.v (.one (dB true))) [(900,gx (u::r5) a 0)]:=cis2;refine ai ab bk func152 rfl rfl rfl rfl rfl (cG) ?_;refine kW ?_;refine kD (bw t r2 a 0) ?_;refine kO ?_;refine kY ?_;refine kD (bw t r2 a 0) ?_;refine kO ?_;refine kY ?_;refine kZ (cis) ?_;refine kZ (fv t r2 a 0) ?_;refine kZ (cy) ?_;refine kZ (cis2) ?_;refine kZ (fv u r5 a 0) ?_;exact⟨⟨_,rfl,rfl⟩,⟨rfl,trivial⟩⟩
    |none=>
     rw[hs2]at hx cis2;cases hx;refine⟨by decide,z7,u::r4,?_,hw3⟩;have cis2:aC Tryz.prog 109 [.box 900 0, .d (dL [41])] [(900,gx (u::r4) a 0)] (.v (.one (dB false))) [(900,gx (u::r4) a 0)]:=cis2;refine ai ab bk func152 rfl rfl rfl rfl rfl (cG) ?_;refine kW ?_;refine kD (bw t r2 a 0) ?_;refine kO ?_;refine kY ?_;refine kD (bw t r2 a 0) ?_;refine kO ?_;refine kY ?_;refine kZ (cis) ?_;refine kZ (fv t r2 a 0) ?_;refine kZ (cy) ?_;refine kZ (cis2) ?_;refine kZ (jq u r4 a 2) ?_;exact⟨⟨_,rfl,rfl⟩,⟨rfl,trivial⟩⟩
 |none=>
  rw[hs]at hx cis;dsimp only at hx;have cis:aC Tryz.prog 109 [.box 900 0, .d (dL [40])] [(900,gx (t::r) a 0)] (.v (.one (dB false))) [(900,gx (t::r) a 0)]:=cis
  by_cases h2:t.1=2
  ·rw[if_pos h2]at hx
   cases hx;obtain⟨u,r4,rfl⟩:=(hT.tail (by omega)).ne;have cn:=AF t u r4 a h2 hT;cases hP:dV t (u::r4)with
   |ok z=>
    obtain⟨e,r3⟩:=z;rw[hP]at cn;obtain⟨cy,hw3⟩:=cn;refine⟨?_,hw3⟩;obtain⟨o1,na1,xs1,nb1,ys1,nm1,n1,cs1,hA⟩:=aA e;rw[show dE e= .agg (ac o1 na1 xs1 nb1 ys1 nm1 n1 cs1) from congrArg DV.agg hA]at cy ⊢;refine ai ab bk func152 rfl rfl rfl rfl rfl (cG) ?_;refine kW ?_;refine kD (bw t (u::r4) a 0) ?_;refine kO ?_;refine kX ?_;refine kZ (cy) ?_;exact⟨⟨_,rfl,rfl⟩,⟨rfl,trivial⟩⟩
   |error z=>
    obtain⟨p,c⟩:=z;rw[hP]at cn;obtain⟨hc,y,ts',cy,hw3⟩:=cn;refine⟨hc,y,ts',?_,hw3⟩;obtain⟨o1,na1,xs1,nb1,ys1,nm1,n1,cs1,hA⟩:=aS y;rw[show dR y= .agg (ac o1 na1 xs1 nb1 ys1 nm1 n1 cs1) from congrArg DV.agg hA]at cy ⊢;refine ai ab bk func152 rfl rfl rfl rfl rfl (cG) ?_;refine kW ?_;refine kD (bw t (u::r4) a 0) ?_;refine kO ?_;refine kX ?_;refine kZ (cy) ?_;exact⟨⟨_,rfl,rfl⟩,⟨rfl,trivial⟩⟩
  ·rw[if_neg h2]at hx
   by_cases h1:t.1=1
   ·rw[if_pos h1]at hx
    cases hx;refine⟨?_,hT.tail (by omega)⟩;refine ai ab bk func152 rfl rfl rfl rfl rfl (cG) ?_;refine kW ?_;refine kD (bw t r a 0) ?_;refine kO ?_;refine kY ?_;refine kD (bw t r a 0) ?_;refine kO ?_;refine kX ?_;refine kZ (fv t r a 0) ?_;exact⟨⟨_,rfl,rfl⟩,⟨rfl,trivial⟩⟩
   ·rw[if_neg h1]at hx
    cases hx;refine⟨by decide,z7,t::r,?_,hT⟩;refine ai ab bk func152 rfl rfl rfl rfl rfl (cG) ?_;refine kW ?_;refine kD (bw t r a 0) ?_;refine kO ?_;refine kY ?_;refine kD (bw t r a 0) ?_;refine kO ?_;refine kY ?_;refine kZ (cis) ?_;refine kZ (jq t r a 2) ?_;exact⟨⟨_,rfl,rfl⟩,⟨rfl,trivial⟩⟩
theorem yN (a:Int):∀f,Jc f a
 |0=>⟨fun _ _ _ h=>(by cases h),fun _ _ _ h=>(by cases h),fun _ _ _ h=>(by cases h),fun _ _ _ h=>(by cases h)⟩
 |f+1=>by
  have ih:=yN a f;exact⟨fun ts x hT hx=>HX ih.prod ts x hT hx,fun ts x hT hx=>Fw ih.un ts x hT hx,fun ts x hT hx=>IN ih.un ih.prim ts x hT hx,fun ts x hT hx=>Fh ih.sum ts x hT hx⟩
end Go.Proofs.YtikbnnljjeefgaaGreatDoor
