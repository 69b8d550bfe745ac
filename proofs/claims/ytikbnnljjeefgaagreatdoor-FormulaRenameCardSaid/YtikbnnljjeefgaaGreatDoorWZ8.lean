/- Parts of a proof: contracts of the functions that the laws reach. -/
import Derived.Test.YtikbnnljjeefgaaGreatDoorWZ6
import Derived.Test.YtikbnnljjeefgaaGreatDoorWZ7
import Derived.Test.YtikbnnljjeefgaaGreatDoorWZ2
set_option maxHeartbeats 100000000
set_option linter.all false
open Go.Proofs.Tryz
namespace Go.Proofs.YtikbnnljjeefgaaGreatDoor
open Go.RowKit
theorem lR {t:List UInt8} {j:Nat} {c:UInt8} (h:∀i x,i<j→t[i]? =some x→da x) (hc:t[j]? =some c) (hn:¬da c):(eE t).length=j:=by
 obtain⟨hl,hg⟩:=List.getElem?_eq_some_iff.1 hc
 have e:t=t.take j++c::t.drop (j+1):=by
  rw[← hg,List.getElem_cons_drop,List.take_append_drop]
 have h1:∀x∈t.take j,da x:=fun x hx=>by
  obtain⟨i,hi⟩:=List.getElem?_of_mem hx;rw[List.getElem?_take]at hi
  split at hi
  ·exact h i x (by omega) hi
  ·cases hi
 rw[e,(iy h1).1,(gY hn).1,List.append_nil,List.length_take];omega
theorem x7 {t:List UInt8} (h:∀i x,i<t.length→t[i]? =some x→da x):eE t=t:=(oo fun x hx=>by
 obtain⟨i,hi⟩:=List.getElem?_of_mem hx;exact h i x (List.getElem?_eq_some_iff.1 hi).1 hi).1
theorem jx {t:List UInt8} (hl:t.length≤1000000000):aa Tryz.prog 203 [dL t] (.one (dN .i64 (eE t).length)):=by
 have hsz:=aB t;refine kV func203 ?_;refine aS Nat (fun j=>j≤t.length∧ ∀i c,i<j→t[i]? =some c→da c) (fun j=>⟨[(0, .d (dL t)),(3, .d (dN .i64 j))],[]⟩) (fun j=>t.length-j) 0 ⟨Nat.zero_le _,fun i c h=>absurd h (Nat.not_lt_zero _)⟩ (weak ⟨rfl,rfl,trivial⟩ trivial rfl) ?_;rintro j ⟨hj,hall⟩;refine kI ?_
 refine kO3 ?_
 by_cases hlt:j<t.length
 ·obtain⟨c,hc⟩:∃c,t[j]=c:=⟨_,rfl⟩
  have hcj:t[j]? =some c:=by rw[List.getElem?_eq_getElem hlt,hc]
  refine kT ?_
  refine kO3 ?_
  refine ap ab (l:=t) (i:=j) hcj rfl rfl rfl rfl rfl rfl rfl rfl ?_
  by_cases h1:48≤c.toNat
  ·refine kT ?_
   refine kO4 ?_
   refine ap ab (l:=t) (i:=j) hcj rfl rfl rfl rfl rfl rfl rfl rfl ?_
   by_cases h2:c.toNat≤57
   ·refine kT ?_
    refine kW ?_;refine⟨j+1,⟨hlt,fun i c' hi hp=>?_⟩,by omega,weak ⟨rfl,?_,trivial⟩ trivial rfl⟩
    ·rcases Nat.lt_succ_iff_lt_or_eq.1 hi with h3|rfl
     ·exact hall i c' h3 hp
     ·rw[hcj]at hp;cases hp;exact⟨h1,h2⟩
    ·exact aG (by omega) (by omega)
   ·refine kE ?_
    refine kW ?_;rw[lR hall hcj (fun h=>by unfold da at h;omega)];exact bu (T:=TT) rfl rfl
  ·refine kE ?_
   refine kW ?_;rw[lR hall hcj (fun h=>by unfold da at h;omega)];exact bu (T:=TT) rfl rfl
 ·have hge:j=t.length:=by omega
  refine kY ?_;rw[x7 (fun i x hi hx=>hall i x (by omega) hx),← hge];exact bu (T:=TT) rfl rfl
theorem ui {p:List UInt8} (h:∀c∈p,da c):il false p↔p≠[]∧(1<p.length→p.head? ≠some 48):=by
 constructor
 ·rintro⟨h1,_,h3⟩
  refine⟨h1,fun hl e=>?_⟩;rcases h3 with h3| ⟨h3,_⟩
  ·cases p with
   |nil=>cases e
   |cons c r=>simp at e;exact h3 c r rfl e
  ·omega
 ·rintro⟨h1,h2⟩
  refine⟨h1,h,?_⟩
  by_cases hl:1<p.length
  ·exact .inl fun c r e=>by
    have:=h2 hl;rw[e]at this
    simpa using this
  ·have:=List.length_pos_iff.2 h1
   exact .inr ⟨by omega,rfl⟩
section
variable {P:Program} {T:TypeId→Option Ty} {n:Nat} {ops:Array Oper} {id:Nat} {draw:Bool} {K:AS→Prop} {s:AS} {k:Nat} {o:Oper} {os:List Oper} {fps:List FP}
theorem IG (hT:∀t d,T t=some d→bG P t d) {t:TypeId} {ty:Ty} {x y:Operand} {l l':List UInt8} {i:Nat} {ik:IntKind} (he:l.take i=l') (hi:i≤l.length) (h1:gd ops s o=some true) (h2:o.op= .slice t x none (some y) none) (h5:T t=some ty) (h6:ty.isStr=true) (h7:s.ev x= .d (.leaf (.val (vL l)))) (h8:s.ev y= .d (.leaf (.val (.int ik (i:Nat)))))
 (h3:bd n o.dst=true) (h4:gN draw ops (aM ops o ⟨.d (dL l'),none⟩ []) k fps=true) (h:aw P T n ops id draw K (k+1) os (s.eff o.dst ⟨.d (dL l'),none⟩) (aM ops o ⟨.d (dL l'),none⟩ []::fps)):aw P T n ops id draw K k (o::os) s fps:=by
 subst he;exact wW hT hi h1 h2 h5 h6 h7 h8 h3 h4 h
theorem rf (hT:∀t d,T t=some d→bG P t d) {t:TypeId} {ty:Ty} {x y:Operand} {l l':List UInt8} {i:Nat} {ik:IntKind} (he:l.drop i=l') (hi:i≤l.length) (h1:gd ops s o=some true) (h2:o.op= .slice t x (some y) none none) (h5:T t=some ty) (h6:ty.isStr=true) (h7:s.ev x= .d (.leaf (.val (vL l)))) (h8:s.ev y= .d (.leaf (.val (.int ik (i:Nat)))))
 (h3:bd n o.dst=true) (h4:gN draw ops (aM ops o ⟨.d (dL l'),none⟩ []) k fps=true) (h:aw P T n ops id draw K (k+1) os (s.eff o.dst ⟨.d (dL l'),none⟩) (aM ops o ⟨.d (dL l'),none⟩ []::fps)):aw P T n ops id draw K k (o::os) s fps:=by
 subst he;exact iN hT hi h1 h2 h5 h6 h7 h8 h3 h4 h
end
open Classical in
noncomputable def Bw (n:Nat):List UInt8→Option Rat
 | []=>some ((n:Int):Rat)
 |c::b=>if c=46 then(if b≠[]∧(∀x∈b,da x)then some (Rat.divInt ((n*10^b.length+num b:Nat):Int) ((10^b.length:Nat):Int))else none)else if c=47 then(if il false b∧num b≠0∧num b≠1∧Nat.gcd n (num b)=1 then some (Rat.divInt (n:Int) (num b:Int))else none)else none
theorem zI {t:List UInt8} (h:il false (eE t)):fa t=Bw (num (eE t)) (iF t):=by
 unfold fa Bw;rw[if_pos h];cases iF t<;>rfl
theorem DH {n:Nat} {c:UInt8} {b:List UInt8} (hc:c=46) (h:¬(b≠[]∧(∀x∈b,da x))):Bw n (c::b)=none:=by subst hc;unfold Bw;dsimp only;rw[if_pos rfl,if_neg h]
theorem Dx {n:Nat} {c:UInt8} {b:List UInt8} (hc:c=46) (h:b≠[]∧(∀x∈b,da x)):Bw n (c::b)=some (Rat.divInt ((n*10^b.length+num b:Nat):Int) ((10^b.length:Nat):Int)):=by subst hc;unfold Bw;dsimp only;rw[if_pos rfl,if_pos h]
theorem tt {n:Nat} {c:UInt8} {b:List UInt8} (hc:c=47) (h:¬(il false b∧num b≠0∧num b≠1∧Nat.gcd n (num b)=1)):Bw n (c::b)=none:=by subst hc;unfold Bw;dsimp only;rw[if_neg (by decide),if_pos rfl,if_neg h]
theorem Dp {n:Nat} {c:UInt8} {b:List UInt8} (hc:c=47) (h:il false b∧num b≠0∧num b≠1∧Nat.gcd n (num b)=1):Bw n (c::b)=some (Rat.divInt (n:Int) (num b:Int)):=by subst hc;unfold Bw;dsimp only;rw[if_neg (by decide),if_pos rfl,if_pos h]
theorem GK {n:Nat} {c:UInt8} {b:List UInt8} (h:c≠46) (h':c≠47):Bw n (c::b)=none:=by unfold Bw;dsimp only;rw[if_neg h,if_neg h']
theorem iL {b:List UInt8}:(eE b).length=b.length↔ ∀x∈b,da x:=by
 constructor
 ·intro h
  have e:eE b=b:=by
   have:=io b;have h2:=congrArg List.length this;rw[List.length_append]at h2;rw[List.eq_nil_of_length_eq_zero (show(iF b).length=0 by omega),List.append_nil]at this;exact this
  rw[← e];exact j9 b
 ·intro h;rw[(oo h).1]
theorem Di {c d:UInt8} (h:c≠d):¬(c.toNat:Int)=d.toNat:=fun e=>h (UInt8.toNat_inj.1 (by omega))
theorem B3 (t:List UInt8):t.take (eE t).length=eE t:=by
 have:=io t
 conv=>lhs;rw[← this]
 rw[List.take_left' (by rw[this])]
theorem BS (t:List UInt8):t.drop (eE t).length=iF t:=by
 have:=io t
 conv=>lhs;rw[← this]
 rw[List.drop_left' (by rw[this])]
theorem xF (t:List UInt8):(eE t).length≤t.length:=by
 have:=congrArg List.length (io t);rw[List.length_append]at this;omega
noncomputable def IV (s:List UInt8):RV:=match bJ s with
 |some q=> .tup [dQ q,dN .i64 0]
 |none=> .tup [DI,dN .i64 2]
theorem vz {s:List UInt8} {q:Rat} (h:bJ s=some q):IV s= .tup [dQ q,dN .i64 0]:=by unfold IV;rw[h]
theorem eg {s:List UInt8} (h:bJ s=none):IV s= .tup [DI,dN .i64 2]:=by unfold IV;rw[h]
theorem ew {s:List UInt8} (h:fa (dA s)=none):bJ s=none:=by unfold bJ;split <;>simp[h]
theorem BZ {s:List UInt8} {n d:Int} (hl:s.length≤65536) (h:fa (dA s)=some (Rat.divInt n d)) (hn:bV s=false):bJ s=some (Rat.divInt n d):=by
 unfold bJ;rw[if_pos hl,h];simp[hn]
theorem kb {n d:Int} (hd:d≠0):Rat.divInt n d=0↔n=0:=by
 have h0:(0:Rat)=Rat.divInt 0 1:=by rfl
 rw[h0,Rat.divInt_eq_divInt_iff hd (by decide)]
 simp
theorem yQ {s:List UInt8} {n d:Int} (hl:s.length≤65536) (h:fa (dA s)=some (Rat.divInt n d)) (hn:bV s=true) (h0:n=0) (hd:d≠0):bJ s=none:=by
 unfold bJ;rw[if_pos hl,h];simp[hn,(kb hd).2 h0]
theorem AW {s:List UInt8} {n d:Int} (hl:s.length≤65536) (h:fa (dA s)=some (Rat.divInt n d)) (hn:bV s=true) (h0:¬n=0) (hd:d≠0):bJ s=some (Rat.divInt (-n) d):=by
 have:¬Rat.divInt n d=0:=fun e=>h0 ((kb hd).1 e)
 unfold bJ;rw[if_pos hl,h];simp[hn,this,Rat.neg_divInt]
theorem Cq {b:List UInt8} (h:b≠[]):∃d b',b=d::b':=by
 cases b with
 |nil=>exact absurd rfl h
 |cons d b'=>exact⟨d,b',rfl⟩
theorem gK {rs:List ResultVar} {s:AS} {v:RV} (h:v= .tup [DI,dN .i64 2]) (h1:jy TT s rs=some [DI,dN .i64 2]):∃l,jy TT s rs=some l∧xb l=v:=⟨_,h1,h.symm⟩
theorem EV {k j:Nat} (h:k<j):Sz j ((10^k:Nat):Int):=by
 unfold Sz;rw[Int.natAbs_natCast];exact Nat.lt_of_le_of_lt (Nat.pow_le_pow_left (by decide) k) (Nat.pow_lt_pow_right (by decide) h)
theorem vM (s:List UInt8):aa Tryz.prog 184 [dL s] (IV s):=by
 have hsz:=aB s
 by_cases hl:s.length≤65536
 ·obtain⟨t,ht⟩:∃t,dA s=t:=⟨_,rfl⟩
  have htl:t.length≤s.length:=by rw[← ht];exact lA s
  obtain⟨p,hp⟩:∃p,eE t=p:=⟨_,rfl⟩;obtain⟨r,hr⟩:∃r,iF t=r:=⟨_,rfl⟩;have hpd:∀c∈p,da c:=by rw[← hp];exact j9 t
  have hpl:p.length≤t.length:=by rw[← hp];exact xF t
  have hpr:p++r=t:=by rw[← hp,← hr];exact io t
  have hrl:p.length+r.length=t.length:=by rw[← hpr,List.length_append]
  have htk:t.take p.length=p:=by rw[← hp];exact B3 t
  have hdr:t.drop p.length=r:=by rw[← hp,← hr];exact BS t
  have hbad:¬il false p→fa (dA s)=none:=fun h=>by rw[ht];unfold fa;rw[hp,if_neg h]
  refine kV func184 ?_;refine dD (T:=TT) rfl ?_ ?_
  ·exact decide_eq_false (by omega)
  refine bM ?_;refine mq ⟨[(0, .d (dL s)),(2, .box 0 0),(3, .d (dN .i64 0)),(4, .d (dB (bV s)))],[(0,some nz)]⟩ (fun s1 hw1=>?_) (fun R hR _=>?_)
  ·refine mq ⟨[(0, .d (dL t)),(2, .box 0 0),(3, .d (dN .i64 0)),(4, .d (dB (bV s)))],[(0,some nz)]⟩ (fun s2 hw2=>?_) (fun R hR _=>?_)
   ·refine av ?_
    refine ee hw2 rfl ?_;refine kO ?_;refine ae (jx (t:=t) (by omega)) rfl rfl rfl rfl rfl rfl rfl ?_;rw[hp];refine kN ?_;refine Eh ⟨[(0, .d (dL t)),(2, .box 0 0),(3, .d (dN .i64 0)),(4, .d (dB (bV s))),(5, .d (dN .i64 p.length))],[(0,some nz)]⟩ (il false p) (fun hok s3 hw3=>?_) (fun R hR hret=>?_)
    ·have hsp:=eM hpd
     have c1:=ns p;rw[ra hpd (by omega),if_pos hok]at c1;have sp:Sz 131080 (num p:Int):=hsp.mono (by omega);refine av ?_;refine ee hw3 rfl ?_
     refine kO2 ?_
     refine IG ab (l:=t) (l':=p) (i:=p.length) htk (by omega) rfl rfl rfl rfl rfl rfl rfl rfl ?_;refine kQ (c1) ?_;refine ae (cX 1 (by decide) (by decide)) rfl rfl rfl rfl rfl rfl rfl ?_;refine kN ?_;refine kI ?_
     refine kO2 ?_
     refine rf ab (l:=t) (l':=r) (i:=p.length) hdr (by omega) rfl rfl rfl rfl rfl rfl rfl rfl ?_;refine kN ?_;have hQ:fa (dA s)=Bw (num p) r:=by rw[ht,zI (by rw[hp];exact hok),hp,hr]
     refine Ik (α:=Int × Int) (fun x=>⟨[(2, .box 0 0),(3, .d (dN .i64 0)),(4, .d (dB (bV s))),(6, .box 9007 0),(8, .box 10001 0)],[(0,some nz),(9007,some (aZ x.1)),(10001,some (aZ x.2))]⟩)
      (fun x=>fa (dA s)=some (Rat.divInt x.1 x.2)∧Sz 131080 x.1∧Sz 131080 x.2∧0<x.2) (fun x hx s4 hw4=>?_) (fun R hR hret=>?_)
     ·refine Exists.elim (Exists.intro x.1 rfl:∃N,x.1=N) fun N hN=>Exists.elim (Exists.intro x.2 rfl:∃D,x.2=D) fun D hD=>?_
      rw[hN,hD]at hx hw4;have hP:=hx.1;have sN:=hx.2.1;have sD:=hx.2.2.1;have hD0:D≠0:=by have:=hx.2.2.2;omega
      refine av ?_;refine ee hw4 rfl ?_;cases hng:bV s
      ·refine kW ?_
       refine ae (qI sN sD (by omega) hD0 rfl) rfl rfl rfl rfl rfl rfl rfl ?_;refine kW ?_;exact bu (T:=TT) rfl (vz (BZ hl hP hng)).symm
      ·by_cases hnu:N=0
       ·refine kW ?_
        refine eY (T:=TT) rfl ?_ ?_
        ·exact Dc hnu
        refine kW ?_;exact gK (eg (yQ hl hP hng hnu hD0)) (by kernel_rfl)
       ·refine kW ?_
        refine dD (T:=TT) rfl ?_ ?_
        ·exact th hnu
        refine kW ?_;refine kQ (lY _) ?_;refine ae (qI (Sz.neg sN) sD (by omega) hD0 rfl) rfl rfl rfl rfl rfl rfl rfl ?_;refine kW ?_;exact bu (T:=TT) rfl (vz (AW hl hP hng hnu hD0)).symm
     ·cases r with
      |nil=>
       repeat(first|refine av (T:=TT) ?_|refine b8 (T:=TT) ?_)
       refine an (T:=TT) rfl ?_;refine kO ?_;refine aP rfl rfl rfl rfl rfl rfl rfl (cP (a:=[]) (b:=[]) rfl) ?_;refine kW ?_;refine hR ((num p:Int),1) ⟨?_,sp,(Sz.small (z:=1) (by decide)).mono (by decide),Int.one_pos⟩ _ (weak ⟨rfl,rfl,rfl,rfl,rfl,trivial⟩ ⟨rfl,rfl,rfl,trivial⟩ rfl);rw[hQ];show some ((num p:Int):Rat)=_;exact congrArg some (km ((num p:Int):Rat)).symm
      |cons c b=>
       have hsb:=aB (c::b);have hbl:b.length+1≤65536:=by simp at hrl;omega
       repeat(first|refine av (T:=TT) ?_|refine b8 (T:=TT) ?_)
       refine an (T:=TT) rfl ?_;refine kO ?_;refine aP rfl rfl rfl rfl rfl rfl rfl (gF (a:=c::b) (b:=[]) (by simp)) ?_;refine kW ?_;refine ap ab (l:=c::b) (i:=0) rfl rfl rfl rfl rfl rfl rfl rfl rfl ?_
       by_cases h46:c=46
       ·refine kB true ?_ ?_
        ·exact decide_eq_true (by rw[h46];rfl)
        refine kO3 ?_
        by_cases hb:b=[]
        ·refine kB false ?_ ?_
         ·exact decide_eq_false (by rw[hsb,hb];simp)
         refine kW ?_;refine ap ab (l:=c::b) (i:=0) rfl rfl rfl rfl rfl rfl rfl rfl rfl ?_;refine kB false ?_ ?_
         ·exact decide_eq_false (by rw[h46];decide)
         refine kW ?_;refine Eq.mpr (congrFun hret _) ?_;exact gK (eg (ew (hQ.trans (DH h46 (fun h=>h.1 hb))))) (by kernel_rfl)
        ·have hb0:0<b.length:=List.length_pos_iff.2 hb
         refine kB true ?_ ?_
         ·exact decide_eq_true (by rw[hsb,List.length_cons];omega)
         refine kO3 ?_
         refine rf ab (l:=c::b) (l':=b) (i:=1) rfl (by simp) rfl rfl rfl rfl rfl rfl rfl rfl ?_;refine ae (jx (t:=b) (by omega)) rfl rfl rfl rfl rfl rfl rfl ?_
         refine kO2 ?_
         refine fo (v':= .int .i64 ((b.length:Nat))) rfl rfl rfl rfl ?_ ?_
         ·exact congrArg (Value.int .i64) (by rw[hsb,List.length_cons,IntWalk.i64_in _ (by omega)];omega)
         by_cases hd:∀x∈b,da x
         ·refine kB true ?_ ?_
          ·exact decide_eq_true (by rw[iL.2 hd])
          refine kW ?_;refine ae (cX 10 (by decide) (by decide)) rfl rfl rfl rfl rfl rfl rfl ?_;refine kW ?_
          refine aS (Nat × Int × Int) (fun x=>x.1≤b.length∧x.2.1=((num (p++b.take x.1):Nat):Int)∧x.2.2=((10^x.1:Nat):Int)) (fun x=>⟨[(2, .box 0 0),(3, .d (dN .i64 0)),(4, .d (dB (bV s))),(6, .box 9007 0),(8, .box 10001 0),(9, .d (dL (c::b))),(10, .box 15001 0),(11, .d (dN .i64 ((x.1+1:Nat):Int)))],
           [(0,some nz),(9007,some (aZ x.2.1)),(10001,some (aZ x.2.2)),(15001,some (aZ 10))]⟩) (fun x=>b.length-x.1) (0,(num p:Int),1) ⟨Nat.zero_le _,by rw[List.take_zero,List.append_nil],rfl⟩
           (weak ⟨rfl,rfl,rfl,rfl,rfl,rfl,rfl,rfl,trivial⟩ ⟨rfl,rfl,rfl,rfl,trivial⟩ rfl) ?_
          rintro⟨k,N,D⟩ ⟨hk,hN,hD⟩;dsimp only at hk hN hD ⊢
          have hpk:∀x∈p++b.take k,da x:=fun x hx=>by
           rcases List.mem_append.1 hx with h|h
           ·exact hpd x h
           ·exact hd x (List.mem_of_mem_take h)
          have sN:Sz 131079 N:=by rw[hN];exact(eM hpk).mono (by rw[List.length_append,List.length_take];omega)
          have sD:Sz 65538 D:=by rw[hD];exact EV (show k<65538 by omega)
          refine kI ?_
          refine kO3 ?_
          by_cases hlt:k<b.length
          ·refine kB true ?_ ?_
           ·exact decide_eq_true (by rw[hsb,List.length_cons];omega)
           refine Exists.elim (Exists.intro b[k] rfl:∃y,b[k]=y) fun y hy=>?_
           have hyk:b[k]? =some y:=by rw[List.getElem?_eq_getElem hlt,hy]
           have hyd:da y:=hd y (List.mem_of_getElem? hyk);have hyn:48≤y.toNat∧y.toNat≤57:=hyd;have hdv:dv y=y.toNat-48:=rfl;have s10:Sz 1 (10:Int):=Sz.small (by decide);have sM:Sz 131080 (N*10):=(Sz.mul sN s10).mono (by omega)
           have hnum:((num (p++b.take (k+1)):Nat):Int)=N*10+(dv y:Nat):=by
            rw[List.take_succ_eq_append_getElem hlt,← List.append_assoc,gy,hy,hN];omega
           refine kW ?_;refine ae (eL (sN.fit (by decide)) (s10.fit (by decide))) rfl rfl rfl rfl rfl rfl rfl ?_
           refine kO2 ?_
           refine ap ab (l:=c::b) (c:=y) (i:=k+1) (by rw[List.getElem?_cons_succ];exact hyk) rfl rfl rfl rfl rfl rfl rfl rfl ?_;refine fo (v':= .int .u8 ((dv y:Nat))) rfl rfl rfl rfl ?_ ?_
           ·exact congrArg (Value.int .u8) (by show IntKind.u8.wrap ((y.toNat:Int)-48)=_;rw[IntWalk.u8_in _ (by omega)];omega)
           refine fo (v':= .int .i64 ((dv y:Nat))) rfl rfl rfl rfl ?_ ?_
           ·exact congrArg (Value.int .i64) (by show IntKind.i64.wrap ((dv y:Nat):Int)=_;rw[IntWalk.i64_in _ (by omega)])
           refine ae (cX (dv y:Nat) (by omega) (by omega)) rfl rfl rfl rfl rfl rfl rfl ?_;refine ae (rl (sM.fit (by decide)) ((Sz.small (z:=((dv y:Nat):Int)) (by omega)).fit (by decide))) rfl rfl rfl rfl rfl rfl rfl ?_;refine kW ?_;refine ae (eL (sD.fit (by decide)) (s10.fit (by decide))) rfl rfl rfl rfl rfl rfl rfl ?_;refine kW ?_;refine⟨(k+1,N*10+(dv y:Nat),D*10),⟨hlt,hnum.symm,?_⟩,by dsimp only;omega,weak ⟨rfl,rfl,rfl,rfl,rfl,rfl,rfl,?_,trivial⟩ ⟨rfl,rfl,rfl,rfl,trivial⟩ rfl⟩
           ·show D*10=((10^(k+1):Nat):Int)
            rw[hD,Nat.pow_succ];omega
           ·exact aG (by omega) (by omega)
          ·refine kB false ?_ ?_
           ·exact decide_eq_false (by rw[hsb,List.length_cons];omega)
           refine kW ?_;have hkb:k=b.length:=by omega
           refine hR (N,D) ⟨?_,sN.mono (by decide),sD.mono (by decide),?_⟩ _ (weak ⟨rfl,rfl,rfl,rfl,rfl,trivial⟩ ⟨rfl,rfl,rfl,trivial⟩ rfl)
           ·rw[hN,hD,hkb,List.take_length,mg]
            exact hQ.trans (Dx h46 ⟨hb,hd⟩)
           ·show 0<D
            rw[hD];have:0<10^k:=Nat.pow_pos (by decide)
            omega
         ·refine kB false ?_ ?_
          ·exact decide_eq_false (fun e=>hd (iL.1 (by omega)))
          refine kW ?_;refine ap ab (l:=c::b) (i:=0) rfl rfl rfl rfl rfl rfl rfl rfl rfl ?_;refine kB false ?_ ?_
          ·exact decide_eq_false (by rw[h46];decide)
          refine kW ?_;refine Eq.mpr (congrFun hret _) ?_;exact gK (eg (ew (hQ.trans (DH h46 (fun h=>hd h.2))))) (by kernel_rfl)
       ·refine kB false ?_ ?_
        ·exact decide_eq_false (Di (d:=46) h46)
        refine kW ?_;refine ap ab (l:=c::b) (i:=0) rfl rfl rfl rfl rfl rfl rfl rfl rfl ?_
        by_cases h47:c=47
        ·refine kB true ?_ ?_
         ·exact decide_eq_true (by rw[h47];rfl)
         refine kO3 ?_
         by_cases hb:b=[]
         ·refine kB false ?_ ?_
          ·exact decide_eq_false (by rw[hsb,hb];simp)
          refine kW ?_;refine Eq.mpr (congrFun hret _) ?_;exact gK (eg (ew (hQ.trans (tt h47 (fun h=>h.1.1 hb))))) (by kernel_rfl)
         ·have hb0:0<b.length:=List.length_pos_iff.2 hb
          refine kB true ?_ ?_
          ·exact decide_eq_true (by rw[hsb,List.length_cons];omega)
          refine kO3 ?_
          refine rf ab (l:=c::b) (l':=b) (i:=1) rfl (by simp) rfl rfl rfl rfl rfl rfl rfl rfl ?_;refine ae (jx (t:=b) (by omega)) rfl rfl rfl rfl rfl rfl rfl ?_
          refine kO2 ?_
          refine fo (v':= .int .i64 ((b.length:Nat))) rfl rfl rfl rfl ?_ ?_
          ·exact congrArg (Value.int .i64) (by rw[hsb,List.length_cons,IntWalk.i64_in _ (by omega)];omega)
          by_cases hd:∀x∈b,da x
          ·refine kB true ?_ ?_
           ·exact decide_eq_true (by rw[iL.2 hd])
           refine kO3 ?_
           refine Exists.elim (Cq hb) fun d hd'=>Exists.elim hd' fun b' hbc=>?_
           refine ap ab (l:=c::b) (c:=d) (i:=1) (by rw[hbc];rfl) rfl rfl rfl rfl rfl rfl rfl rfl ?_
           by_cases h48:d=48
           ·refine kB false ?_ ?_
            ·exact(by rw[h48];rfl)
            refine kW ?_;refine Eq.mpr (congrFun hret _) ?_
            exact gK (eg (ew (hQ.trans (tt h47 (fun h=>by
             have h1:=h.1;rcases h1.2.2 with h2|h2
             ·exact h2 d b' hbc h48
             ·have:b'=[]:=by rw[hbc]at h2;simpa using h2.1
              exact h.2.1 (by rw[hbc,this,h48];rfl)))))) (by kernel_rfl)
           ·refine kB true ?_ ?_
            ·exact(by simpa using Di (d:=48) h48)
            have hob:il false b:=⟨hb,hd, .inl fun x y e=>by rw[hbc]at e;cases e;exact h48⟩;have hnb:0<num b:=tP hd hbc h48
            have c2:=ns b;rw[ra hd (by omega),if_pos hob]at c2;have sb:Sz 131080 (num b:Int):=(eM hd).mono (by omega);refine kW ?_;refine rf ab (l:=c::b) (l':=b) (i:=1) rfl (by simp) rfl rfl rfl rfl rfl rfl rfl rfl ?_;refine kQ (c2) ?_
            by_cases hn1:num b=1
            ·refine ae (du (decide_eq_true (show(num b:Int)=1 by omega))) rfl rfl rfl rfl rfl rfl rfl ?_
             refine kW ?_;refine Eq.mpr (congrFun hret _) ?_;exact gK (eg (ew (hQ.trans (tt h47 (fun h=>h.2.2.1 hn1))))) (by kernel_rfl)
            ·refine ae (du (decide_eq_false (show ¬(num b:Int)=1 by omega))) rfl rfl rfl rfl rfl rfl rfl ?_
             refine kW ?_;refine ae (fw (sp.fit (by decide)) (sb.fit (by decide)) (by rw[Int.natAbs_natCast,Int.natAbs_natCast])) rfl rfl rfl rfl rfl rfl rfl ?_;refine kW ?_
             by_cases hg:Nat.gcd (num p) (num b)=1
             ·refine ae (du (decide_eq_true (show((Nat.gcd (num p) (num b):Nat):Int)=1 by omega))) rfl rfl rfl rfl rfl rfl rfl ?_
              refine kW ?_;exact hR ((num p:Int),(num b:Int)) ⟨hQ.trans (Dp h47 ⟨hob,by omega,hn1,hg⟩),sp,sb,by dsimp only;omega⟩ _ (weak ⟨rfl,rfl,rfl,rfl,rfl,trivial⟩ ⟨rfl,rfl,rfl,trivial⟩ rfl)
             ·refine ae (du (decide_eq_false (show ¬((Nat.gcd (num p) (num b):Nat):Int)=1 by omega))) rfl rfl rfl rfl rfl rfl rfl ?_
              refine kW ?_;refine Eq.mpr (congrFun hret _) ?_;exact gK (eg (ew (hQ.trans (tt h47 (fun h=>hg h.2.2.2))))) (by kernel_rfl)
          ·refine kB false ?_ ?_
           ·exact decide_eq_false (fun e=>hd (iL.1 (by omega)))
           refine kW ?_;refine Eq.mpr (congrFun hret _) ?_;exact gK (eg (ew (hQ.trans (tt h47 (fun h=>hd h.1.2.1))))) (by kernel_rfl)
        ·refine kB false ?_ ?_
         ·exact decide_eq_false (Di (d:=47) h47)
         refine kW ?_;refine Eq.mpr (congrFun hret _) ?_;exact gK (eg (ew (hQ.trans (GK h46 h47)))) (by kernel_rfl)
    ·refine kI ?_
     refine kO ?_
     by_cases hp0:p=[]
     ·refine kB true ?_ ?_
      ·exact decide_eq_true (by rw[hp0];rfl)
      refine kW ?_;refine Eq.mpr (congrFun hret _) ?_;exact gK (eg (ew (hbad (fun h=>h.1 hp0)))) (by kernel_rfl)
     ·have hpp:0<p.length:=List.length_pos_iff.2 hp0
      refine kE ?_
      refine kO2 ?_
      by_cases h1:1<p.length
      ·refine kT ?_
       refine kO2 ?_
       obtain⟨c,p',hc⟩:∃c p',p=c::p':=by
        cases p with
        |nil=>exact absurd rfl hp0
        |cons c p'=>exact⟨c,p',rfl⟩
       have ht0:t[0]? =some c:=by rw[← hpr,hc];rfl
       refine ap ab (l:=t) (i:=0) ht0 rfl rfl rfl rfl rfl rfl rfl rfl ?_
       by_cases h48:c=48
       ·refine kB true ?_ ?_
        ·exact decide_eq_true (by rw[h48];rfl)
        refine kW ?_;refine Eq.mpr (congrFun hret _) ?_
        exact gK (eg (ew (hbad (fun h=>by
         have:=((ui hpd).1 h).2 h1;rw[hc,h48]at this;exact this rfl)))) (by kernel_rfl)
       ·refine kB false ?_ ?_
        ·exact decide_eq_false (fun e=>h48 (UInt8.toNat_inj.1 (by have:(48:UInt8).toNat=48:=rfl;omega)))
        refine kW ?_;exact hR ((ui hpd).2 ⟨hp0,fun _ e=>by rw[hc]at e;simp at e;exact h48 e⟩) _ (weak ⟨rfl,rfl,rfl,rfl,rfl,trivial⟩ ⟨rfl,trivial⟩ rfl)
      ·refine kE ?_
       refine kW ?_;exact hR ((ui hpd).2 ⟨hp0,fun h=>absurd h h1⟩) _ (weak ⟨rfl,rfl,rfl,rfl,rfl,trivial⟩ ⟨rfl,trivial⟩ rfl)
   ·refine av ?_
    refine ee hw1 rfl ?_;refine kN ?_;cases hn:bV s
    ·refine dD (T:=TT) rfl ?_ ?_
     ·exact rfl
     refine bM ?_
     have e:t=s:=by
      rw[← ht];have:=Fw s;rw[hn]at this;exact this
     rw[e,hn]at hR;exact hR _ (weak ⟨rfl,rfl,rfl,rfl,trivial⟩ ⟨rfl,trivial⟩ rfl)
    ·refine eY (T:=TT) rfl ?_ ?_
     ·exact rfl
     have e:s=45::t:=by
      have:=Fw s;rw[hn,ht]at this;exact this.symm
     refine kI ?_;refine kO ?_;refine rf ab (l:=s) (l':=t) (i:=1) (by rw[e];rfl) (by rw[e];simp) rfl rfl rfl rfl rfl rfl rfl rfl ?_;refine kN ?_;rw[hn]at hR;exact hR _ (weak ⟨rfl,rfl,rfl,rfl,trivial⟩ ⟨rfl,trivial⟩ rfl)
  ·refine kI ?_
   refine kO ?_
   by_cases h0:s=[]
   ·refine aP rfl rfl rfl rfl rfl rfl rfl (fq (a:=s) (b:=[]) h0) ?_
    refine kW ?_;have:bV s=false:=by rw[h0];rfl
    rw[this]at hR;exact hR _ (weak ⟨rfl,rfl,rfl,rfl,trivial⟩ ⟨rfl,trivial⟩ rfl)
   ·obtain⟨c,s',hc⟩:∃c s',s=c::s':=by
     cases s with
     |nil=>exact absurd rfl h0
     |cons c s'=>exact⟨c,s',rfl⟩
    refine aP rfl rfl rfl rfl rfl rfl rfl (fj (a:=s) (b:=[]) h0) ?_
    refine kO2 ?_
    refine ap ab (l:=s) (i:=0) (by rw[hc];rfl) rfl rfl rfl rfl rfl rfl rfl rfl ?_
    by_cases h45:c=45
    ·refine kB true ?_ ?_
     ·exact decide_eq_true (by rw[h45];rfl)
     refine kW ?_;have:bV s=true:=by rw[hc,h45];rfl
     rw[this]at hR;exact hR _ (weak ⟨rfl,rfl,rfl,rfl,trivial⟩ ⟨rfl,trivial⟩ rfl)
    ·refine kB false ?_ ?_
     ·exact decide_eq_false (fun e=>h45 (UInt8.toNat_inj.1 (by have:(45:UInt8).toNat=45:=rfl;omega)))
     refine kW ?_;have:bV s=false:=by rw[hc];exact beq_eq_false_iff_ne.2 h45
     rw[this]at hR;exact hR _ (weak ⟨rfl,rfl,rfl,rfl,trivial⟩ ⟨rfl,trivial⟩ rfl)
 ·refine kV func184 ?_;refine eY (T:=TT) rfl ?_ ?_
  ·exact decide_eq_true (by omega)
  refine kW ?_;exact gK (eg (by unfold bJ;rw[if_neg hl])) (by kernel_rfl)
theorem E0 {t:List UInt8} {q:Rat} (hl:t.length≤500) (h:fa t=some q):jb 510 q:=by
 by_cases hok:il false (eE t)
 ·rw[zI hok]at h
  have hpl:=xF t
  have hrl:(eE t).length+(iF t).length=t.length:=by
   have:=congrArg List.length (io t);rw[List.length_append]at this;omega
  have sp:Sz (eE t).length (num (eE t):Int):=eM (j9 t);generalize iF t=r at h hrl;generalize num (eE t)=n at h sp;cases r with
  |nil=>
   have:q=((n:Int):Rat):=by
    have h:some ((n:Int):Rat)=some q:=h;exact(Option.some.inj h).symm
   subst this;exact⟨sp.mono (by omega),(Sz.small (z:=1) (by decide)).mono (by decide)⟩
  |cons c b=>
   have hbl:(eE t).length+b.length≤499:=by simp at hrl;omega
   by_cases h46:c=46
   ·by_cases hb:b≠[]∧ ∀x∈b,da x
    ·rw[Dx h46 hb]at h
     cases h
     have sN:Sz 510 ((n*10^b.length+num b:Nat):Int):=by
      have h1:Sz 501 ((n:Int)*10^b.length):=Sz.of_pow sp (by omega);have h2:=Sz.add h1 ((eM hb.2).mono (by omega));have h3:Sz 510 ((n:Int)*10^b.length+(num b:Int)):=Sz.mono h2 (by decide);rw[Int.natCast_add,Int.natCast_mul,Int.natCast_pow];exact h3
     have sD:Sz 510 ((10^b.length:Nat):Int):=EV (by omega);have:0<10^b.length:=Nat.pow_pos (by decide)
     exact .divInt sN sD (by omega)
    ·rw[DH h46 hb]at h;cases h
   ·by_cases h47:c=47
    ·by_cases hb:il false b∧num b≠0∧num b≠1∧Nat.gcd n (num b)=1
     ·rw[Dp h47 hb]at h
      cases h;exact .divInt (sp.mono (by omega)) ((eM hb.1.2.1).mono (by omega)) (by have:=hb.2.1;omega)
     ·rw[tt h47 hb]at h;cases h
    ·rw[GK h46 h47]at h;cases h
 ·unfold fa at h
  rw[if_neg hok]at h;cases h
theorem it {s:List UInt8} {q:Rat} (hl5:s.length≤500) (h:bJ s=some q):jb 510 q:=by
 unfold bJ at h
 split at h
 ·rename_i hl
  have hd:=lA s;cases hp:fa (dA s)with
  |none=>rw[hp]at h;simp at h
  |some r=>
   have hs:=E0 (by omega) hp;rw[hp]at h
   simp only at h
   split at h
   ·split at h
    ·cases h
    ·cases h;exact hs.neg
   ·cases h;exact hs
 ·cases h
theorem Bt (t u:Tk) (r:List Tk) (a:Int) (ht:t.1=2) (hT:cR (t::u::r)):Rd 183 (t::u::r) a (el t (u::r)):=by
 have ht5:=hT.head.2 ht;have hw:cR (u::r):=hT.tail (by omega);cases hq:bJ t.2.1 with
 |none=>
  have hP:el t (u::r)= .error (t.2.2,2):=by unfold el;rw[hq]
  have cp:=wm hq;rw[hP];refine⟨by decide, .mk 0 false [] false [] [] [],t::u::r,?_,hT⟩;refine ai ab bn func183 rfl rfl rfl rfl rfl (cu) ?_;refine kR ?_;refine kI ?_;refine kO ?_;refine kD (bA t (u::r) a 0) ?_;refine kO ?_;refine kQ (cp) ?_;refine kZ (ji t (u::r) a 2) ?_;exact⟨⟨_,rfl,rfl⟩,⟨rfl,trivial⟩⟩
 |some q=>
  have cp:=x5 hq;obtain⟨tx,cd,_⟩:=lh (it ht5 hq) (by decide);cases hd:fx q with
  |none=>
   have hP:el t (u::r)= .error (t.2.2,3):=by unfold el;rw[hq];dsimp only;rw[hd]
   rw[hd]at cd;have cd:aa Tryz.prog 58 [dQ q] (.tup [dL tx,dB false]):=cd;rw[hP];refine⟨by decide, .mk 0 false [] false [] [] [],t::u::r,?_,hT⟩;refine ai ab bn func183 rfl rfl rfl rfl rfl (cu) ?_;refine kR ?_;refine kI ?_;refine kO ?_;refine kD (bA t (u::r) a 0) ?_;refine kO ?_;refine kQ (cp) ?_;refine kQ (cd) ?_;refine kZ (ji t (u::r) a 3) ?_;exact⟨⟨_,rfl,rfl⟩,⟨rfl,trivial⟩⟩
  |some z=>
   rw[hd]at cd;have cd:aa Tryz.prog 58 [dQ q] (.tup [dL tx,dB true]):=cd
   by_cases h1:u.1=1
   ·have hP:el t (u::r)= .ok (.num q u.2.1,r):=by unfold el;rw[hq];dsimp only;rw[hd];dsimp only;rw[if_pos h1]
    rw[hP];refine⟨?_,hw.tail (by omega)⟩;refine ai ab bn func183 rfl rfl rfl rfl rfl (cu) ?_;refine kR ?_;refine kI ?_;refine kO ?_;refine kD (bA t (u::r) a 0) ?_;refine kO ?_;refine kQ (cp) ?_;refine kQ (cd) ?_;refine kZ (ft t (u::r) a 0) ?_;refine kD (bA u r a 0) ?_;refine kO ?_;refine kX ?_;refine kZ (ft u r a 0) ?_;exact⟨⟨_,rfl,rfl⟩,⟨rfl,trivial⟩⟩
   ·have hP:el t (u::r)= .ok (.num q [],u::r):=by unfold el;rw[hq];dsimp only;rw[hd];dsimp only;rw[if_neg h1]
    rw[hP];refine⟨?_,hw⟩;refine ai ab bn func183 rfl rfl rfl rfl rfl (cu) ?_;refine kR ?_;refine kI ?_;refine kO ?_;refine kD (bA t (u::r) a 0) ?_;refine kO ?_;refine kQ (cp) ?_;refine kQ (cd) ?_;refine kZ (ft t (u::r) a 0) ?_;refine kD (bA u r a 0) ?_;refine kO ?_;refine kY ?_;exact⟨⟨_,rfl,rfl⟩,⟨rfl,trivial⟩⟩
def mA:Bool→List UInt8
 |false=>[43,45]
 |true=>[42,47]
def IK:Bool→List (Value × Value)
 |false=>[(.string ⟨#[43]⟩, .int .i64 4),(.string ⟨#[45]⟩, .int .i64 5)]
 |true=>[(.string ⟨#[42]⟩, .int .i64 6),(.string ⟨#[47]⟩, .int .i64 7)]
theorem C1 (a b c:UInt8):(0≤Lib.indexByte [a,b] c)↔(c=a∨c=b):=by
 rw[of]
 simp
theorem y8 (a c:UInt8):(0≤Lib.indexByte [a] c)↔c=a:=by
 rw[of]
 simp
theorem GX (two:Bool) (t:Tk) (r:List Tk):(decide (t.1=4) && ym (mA two) t)=(fy two (t::r)).isSome:=by
 obtain⟨k,x,p⟩:=t
 by_cases h4:k=4
 ·subst h4
  match x with
  | []=>cases two<;>rfl
  |c::d::y=>cases two<;>rfl
  | [c]=>
   cases two
   ·show decide (0≤Lib.indexByte [43,45] c)=_
    by_cases h1:c=43
    ·subst h1;rfl
    ·by_cases h2:c=45
     ·subst h2;rfl
     ·rw[decide_eq_false (by rw[C1];simp[h1,h2])]
      simp[fy,lT,h1,h2]
   ·show decide (0≤Lib.indexByte [42,47] c)=_
    by_cases h1:c=42
    ·subst h1;rfl
    ·by_cases h2:c=47
     ·subst h2;rfl
     ·rw[decide_eq_false (by rw[C1];simp[h1,h2])]
      simp[fy,lT,h1,h2]
 ·simp[fy,h4]
theorem jF {two:Bool} {t:Tk} {r r2:List Tk} {k:B4} (h:fy two (t::r)=some (k,r2)):r2=r∧t.1=4∧ ∃c,t.2.1=[c]∧I1 ⟨#[c]⟩ (IK two)=some (.int .i64 k.code):=by
 obtain⟨k4,x,p⟩:=t
 simp only[fy]at h
 split at h
 ·rename_i h4
  split at h
  ·rename_i k' hk
   cases h;refine⟨rfl,h4,?_⟩
   match x,hk with
   | [],hk=>cases two<;>cases hk
   |c::d::y,hk=>cases two<;>cases hk
   | [c],hk=>
    cases two
    ·simp only[lT]at hk
     split at hk
     ·rename_i hc;cases hk;subst hc;exact⟨_,rfl,rfl⟩
     ·split at hk
      ·rename_i hc;cases hk;subst hc;exact⟨_,rfl,rfl⟩
      ·cases hk
    ·simp only[lT]at hk
     split at hk
     ·rename_i hc;cases hk;subst hc;exact⟨_,rfl,rfl⟩
     ·split at hk
      ·rename_i hc;cases hk;subst hc;exact⟨_,rfl,rfl⟩
      ·cases hk
  ·cases h
 ·cases h
theorem u5 (c:UInt8) (t:Tk) (r:List Tk):(decide (t.1=4) && ym [c] t)=(bh c (t::r)).isSome:=by
 obtain⟨k,x,p⟩:=t
 by_cases h4:k=4
 ·subst h4
  match x with
  | []=>simp[ym,bh]
  |b::d::y=>simp[ym,bh]
  | [b]=>
   show decide (0≤Lib.indexByte [c] b)=_
   by_cases h:b=c
   ·subst h;rw[decide_eq_true ((y8 b b).2 rfl)];simp[bh]
   ·rw[decide_eq_false (by rw[y8];exact h)];simp[bh,h]
 ·simp[bh,h4]
theorem jN {c:UInt8} {t:Tk} {r r2:List Tk} (h:bh c (t::r)=some r2):r2=r∧t.1=4:=by
 simp only[bh]at h
 split at h
 ·rename_i h1;cases h;exact⟨rfl,h1.1⟩
 ·cases h
def Ju (fid:FuncId) (ts:List Tk) (a:Int) (Y:Rx × List Tk):gR→Prop
 | .ok (e,r)=>az Tryz.prog fid [.box 900 0] [(900,gv ts a 0)] (.v (.one (dE e))) [(900,gv r a 0)]∧cR r
 | .error (p,c)=>c≠0∧az Tryz.prog fid [.box 900 0] [(900,gv ts a 0)] (.v (.one (dR Y.1))) [(900,gv Y.2 p c)]∧cR Y.2
theorem AO {fid:FuncId} {a:Int} {g:List Tk→Option gR} (h:∀ts x,cR ts→g ts=some x→Rd fid ts a x):∃Y:List Tk→Rx × List Tk,∀ts x,cR ts→g ts=some x→Ju fid ts a (Y ts) x:=by
 have:∀ts:List Tk,∃Y:Rx × List Tk,∀x,cR ts→g ts=some x→Ju fid ts a Y x:=fun ts=>by
  by_cases hw:cR ts
  ·cases hg:g ts with
   |none=>exact⟨(.mk 0 false [] false [] [] [],[]),fun x _ hx=>by cases hx⟩
   |some x=>
    have hx:=h ts x hw hg;cases x with
    |ok y=>exact⟨(.mk 0 false [] false [] [] [],[]),fun x _ hx'=>by cases hx';exact hx⟩
    |error y=>
     obtain⟨hc,y1,ts1,h1,h2⟩:=hx;exact⟨(y1,ts1),fun x _ hx'=>by cases hx';exact⟨hc,h1,h2⟩⟩
  ·exact⟨(.mk 0 false [] false [] [] [],[]),fun x hw'=>absurd hw' hw⟩
 obtain⟨Y,hY⟩:=Classical.axiomOfChoice this;exact⟨Y,fun ts x hw hx=>hY ts x hw hx⟩
noncomputable def gB (two:Bool) (Y:List Tk→Rx × List Tk):Nat→Ex→List Tk→Rx × List Tk
 |0,e,ts=>(rx e,ts)
 |f+1,e,ts=>match fy two ts with
  |some (k,r)=>match pP f (eC two) r with
   |some (.ok (e2,r2))=>gB two Y f (.bin k e e2) r2
   |_=>(.mk k.code false [] false [] [] [rx e,(Y r).1],(Y r).2)
  |none=>(rx e,ts)
inductive LS where
 |run (f:Nat) (e:Ex) (ts:List Tk)
 |bad (y:Rx) (ts:List Tk) (p c:Int)
def LS.c1:LS→List AV
 | .run _ e _=>aE e
 | .bad y _ _ _=>aR y
def LS.c2 (a:Int):LS→List AV
 | .run _ _ ts=>gv ts a 0
 | .bad _ ts p c=>gv ts p c
def bS (two:Bool) (fop:FuncId) (c1 c2:List AV):AS:=⟨[(0, .box 900 0),(1, .d (dL (mA two))),(2, .mp (IK two)),(3, .clo (.func fop) [.box 900 0] []),(8, .box 0 0),(9, .box 1002 0)],[(0,some (ac 0 false [] false [] [] 0 [])),(1002,some c1),(900,some c2)]⟩
abbrev If (two:Bool) (fop:FuncId):List TV:=[.box 900 0, .d (dL (mA two)), .mp (IK two), .clo (.func fop) [.box 900 0] []]
def Ks (two:Bool) (fop:FuncId) (ts:List Tk) (a:Int):gR→Prop
 | .ok (e,r)=>az Tryz.prog 70 (If two fop) [(900,gv ts a 0)] (.v (.one (dE e))) [(900,gv r a 0)]∧cR r
 | .error (p,c)=>c≠0∧ ∃y ts',az Tryz.prog 70 (If two fop) [(900,gv ts a 0)] (.v (.one (dR y))) [(900,gv ts' p c)]∧cR ts'
def LS.I (two:Bool) (Y:List Tk→Rx × List Tk) (f:Nat) (a:Int) (D:DV) (B:List AV):LS→Prop
 | .run f' e ts=>cR ts∧f'≤f∧ ∃x',pP f' (.more two e) ts=some x'∧(match x' with
  | .ok (e',r')=>D=dE e'∧B=gv r' a 0
  | .error (p,c)=>D=dR (gB two Y f' e ts).1∧B=gv (gB two Y f' e ts).2 p c)
 | .bad y ts p c=>cR ts∧c≠0∧D=dR y∧B=gv ts p c
def LS.mu:LS→Nat
 | .run f _ _=>f+1
 | .bad _ _ _ _=>0
theorem nS (k:B4) (e:Ex) (y:Rx):aR (.mk k.code false [] false [] [] [rx e,y])=[.val (.int .i64 k.code)]++nz++[.val (vL []), .sl 2 (aE e++aR y)]:=by
 show [.val (.int .i64 k.code)]++Dm false [] false []++[.val (vL []), .sl 2 (aR (rx e)++(aR y++[]))]=_;rw[List.append_nil];rfl
theorem GN (two:Bool) (fop:FuncId) (f:Nat) (a:Int) (Y:List Tk→Rx × List Tk) (hY:∀ts x,cR ts→pP f (eC two) ts=some x→Ju fop ts a (Y ts) x) (ts:List Tk) (hT:cR ts) {e0:Ex} {r0:List Tk} (h0:pP f (eC two) ts=some (.ok (e0,r0)))
 {D:DV} {B:List AV} (hB:B.length=3) (hI:LS.I two Y f a D B (.run f e0 r0)):az Tryz.prog 70 (If two fop) [(900,gv ts a 0)] (.v (.one D)) [(900,B)]:=by
 obtain⟨c0,hw0⟩:=hY ts _ hT h0;obtain⟨t,r,hr⟩:=hw0.ne;obtain⟨o1,na1,xs1,nb1,ys1,nm1,n1,cs1,hA⟩:=aX e0;have hE:dE e0= .agg (ac o1 na1 xs1 nb1 ys1 nm1 n1 cs1):=congrArg DV.agg hA;rw[hE]at c0;refine ai ab bn func70 rfl rfl rfl rfl rfl ((fk.one (Nat.le_of_eq hB.symm))) ?_;refine kW ?_;refine kZ (c0) ?_
 refine aS LS (LS.I two Y f a D B) (fun x=>bS two fop x.c1 (x.c2 a)) LS.mu (.run f e0 r0) hI (by
  refine Eq.mpr (congrArg (fun c=>aV _ (bS two fop c (gv r0 a 0))) hA) ?_;exact weak ⟨rfl,rfl,rfl,rfl,rfl,rfl,trivial⟩ ⟨rfl,rfl,rfl,trivial⟩ rfl) ?_
 intro x hx;cases x with
 |bad y ts1 p c=>
  obtain⟨hw,hc,rfl,rfl⟩:=hx;obtain⟨t,r,rfl⟩:=hw.ne;obtain⟨o1,na1,xs1,nb1,ys1,nm1,n1,cs1,hA⟩:=au y;have cis:=qr (mA two) t r p c hw.head.1;rw[decide_eq_false hc,Bool.false_and]at cis;rw[show dR y= .agg (ac o1 na1 xs1 nb1 ys1 nm1 n1 cs1) from congrArg DV.agg hA];show fU _ _ _ _ _ (bS two fop (aR y) (gv (t::r) p c));rw[hA];unfold bS;refine kW ?_;refine kZ (cis) ?_;exact⟨⟨_,rfl,rfl⟩,⟨rfl,trivial⟩⟩
 |run f' e ts1=>
  obtain⟨hw,hf,x',hx,hD⟩:=hx;obtain⟨t,r,rfl⟩:=hw.ne;obtain⟨o1,na1,xs1,nb1,ys1,nm1,n1,cs1,hA⟩:=aX e;have cis:=qr (mA two) t r a 0 hw.head.1;rw[decide_eq_true rfl,Bool.true_and,GX]at cis;show fU _ _ _ _ _ (bS two fop (aE e) (gv (t::r) a 0));rw[hA];cases f' with
  |zero=>cases hx
  |succ f'=>
  rw[cU]at hx;cases ho:fy two (t::r)with
  |none=>
   rw[ho]at hx cis;cases hx;obtain⟨rfl,rfl⟩:=hD;rw[show dE e= .agg (ac o1 na1 xs1 nb1 ys1 nm1 n1 cs1) from congrArg DV.agg hA];have cis:az Tryz.prog 109 [.box 900 0, .d (dL (mA two))] [(900,gv (t::r) a 0)] (.v (.one (dB false))) [(900,gv (t::r) a 0)]:=cis;unfold bS;refine kW ?_;refine kZ (cis) ?_;exact⟨⟨_,rfl,rfl⟩,⟨rfl,trivial⟩⟩
  |some q=>
   obtain⟨k,r2⟩:=q;obtain⟨rfl,h4,c,hc,hl⟩:=jF ho;rw[ho]at hx cis;have cis:az Tryz.prog 109 [.box 900 0, .d (dL (mA two))] [(900,gv (t::r2) a 0)] (.v (.one (dB true))) [(900,gv (t::r2) a 0)]:=cis;have hw2:cR r2:=hw.tail (by omega);obtain⟨k4,tx,p0⟩:=t;dsimp only at h4 hc;subst h4 hc;dsimp only at hx;cases hy:pP f' (eC two) r2 with
   |none=>rw[hy]at hx;cases hx
   |some y=>
    have cy:=hY r2 y hw2 (kz (by omega) hy);rw[hy]at hx;cases y with
    |error z=>
     obtain⟨p,c1⟩:=z;cases hx;obtain⟨hc1,cy,hw3⟩:=cy
     have hg:gB two Y (f'+1) e ((4,[c],p0)::r2)=(.mk k.code false [] false [] [] [rx e,(Y r2).1],(Y r2).2):=by
      rw[gB,ho];dsimp only;rw[hy]
     rw[hg]at hD;obtain⟨o2,na2,xs2,nb2,ys2,nm2,n2,cs2,hA2⟩:=au (Y r2).1;have hbad:=nS k e (Y r2).1;rw[hA,hA2]at hbad;rw[show dR (Y r2).1= .agg (ac o2 na2 xs2 nb2 ys2 nm2 n2 cs2) from congrArg DV.agg hA2]at cy;generalize hY2:(Y r2).2=ts2 at *;unfold bS;refine kW ?_;refine kZ (cis) ?_;refine kD (ft (4,[c],p0) r2 a 0) ?_;refine kO ?_;refine vZ underlying106 underlying9 hl rfl rfl rfl rfl rfl rfl rfl ?_;refine kW ?_;refine kZ (cy) ?_;refine⟨.bad (.mk k.code false [] false [] [] [rx e,(Y r2).1]) ts2 p c1,⟨hw3,hc1,hD.1,hD.2⟩,Nat.succ_pos _,?_⟩;refine Eq.mpr (congrArg (fun c=>aV _ (bS two fop c (gv ts2 p c1))) hbad) ?_;exact weak ⟨rfl,rfl,rfl,rfl,rfl,rfl,trivial⟩ ⟨rfl,rfl,rfl,trivial⟩ rfl
    |ok z=>
     obtain⟨e2,r3⟩:=z;obtain⟨cy,hw3⟩:=cy;have hx:pP f' (.more two (.bin k e e2)) r3=some x':=hx
     have hg:gB two Y (f'+1) e ((4,[c],p0)::r2)=gB two Y f' (.bin k e e2) r3:=by
      rw[gB,ho];dsimp only;rw[hy]
     rw[hg]at hD;obtain⟨o2,na2,xs2,nb2,ys2,nm2,n2,cs2,hA2⟩:=aX e2;have hbin:=j8 k e e2;rw[hA,hA2]at hbin;rw[show dE e2= .agg (ac o2 na2 xs2 nb2 ys2 nm2 n2 cs2) from congrArg DV.agg hA2]at cy;unfold bS;refine kW ?_;refine kZ (cis) ?_;refine kD (ft (4,[c],p0) r2 a 0) ?_;refine kO ?_;refine vZ underlying106 underlying9 hl rfl rfl rfl rfl rfl rfl rfl ?_;refine kW ?_;refine kZ (cy) ?_;refine⟨.run f' (.bin k e e2) r3,⟨hw3,by omega,x',hx,hD⟩,by show f'+1<f'+1+1;omega,?_⟩;refine Eq.mpr (congrArg (fun c=>aV _ (bS two fop c (gv r3 a 0))) hbin) ?_;exact weak ⟨rfl,rfl,rfl,rfl,rfl,rfl,trivial⟩ ⟨rfl,rfl,rfl,trivial⟩ rfl
theorem EE {two:Bool} {fop:FuncId} {f:Nat} {a:Int} {Y:List Tk→Rx × List Tk} (hY:∀ts x,cR ts→pP f (eC two) ts=some x→Ju fop ts a (Y ts) x):∀(f':Nat) (e:Ex) (ts:List Tk) (e':Ex) (r':List Tk),f'≤f→cR ts→pP f' (.more two e) ts=some (.ok (e',r'))→cR r'
 |0,_,_,_,_,_,_,h=>by cases h
 |f'+1,e,ts,e',r',hf,hw,h=>by
  rw[cU]at h;obtain⟨t,r,rfl⟩:=hw.ne;cases ho:fy two (t::r)with
  |none=>rw[ho]at h;cases h;exact hw
  |some q=>
   obtain⟨k,r2⟩:=q;obtain⟨rfl,h4,_⟩:=jF ho;have hw2:cR r2:=hw.tail (by omega);rw[ho]at h;dsimp only at h ⊢;cases hy:pP f' (eC two) r2 with
   |none=>rw[hy]at h;cases h
   |some y=>
    have cy:=hY r2 y hw2 (kz (by omega) hy);rw[hy]at h;cases y with
    |error z=>cases h
    |ok z=>exact EE hY f' _ _ e' r' (by omega) cy.2 h
theorem zH {two:Bool} {fop:FuncId} {f:Nat} {a:Int} {Y:List Tk→Rx × List Tk} (hY:∀ts x,cR ts→pP f (eC two) ts=some x→Ju fop ts a (Y ts) x):∀(f':Nat) (e:Ex) (ts:List Tk) (p:Nat) (c:Int),f'≤f→cR ts→pP f' (.more two e) ts=some (.error (p,c))→c≠0∧cR (gB two Y f' e ts).2
 |0,_,_,_,_,_,_,h=>by cases h
 |f'+1,e,ts,p,c,hf,hw,h=>by
  rw[cU]at h;rw[gB];obtain⟨t,r,rfl⟩:=hw.ne;cases ho:fy two (t::r)with
  |none=>rw[ho]at h;cases h
  |some q=>
   obtain⟨k,r2⟩:=q;obtain⟨rfl,h4,_⟩:=jF ho;have hw2:cR r2:=hw.tail (by omega);rw[ho]at h;dsimp only at h ⊢;cases hy:pP f' (eC two) r2 with
   |none=>rw[hy]at h;cases h
   |some y=>
    have cy:=hY r2 y hw2 (kz (by omega) hy);rw[hy]at h;cases y with
    |error z=>cases h;exact⟨cy.1,cy.2.2⟩
    |ok z=>exact zH hY f' _ _ p c (by omega) cy.2 h
theorem tL (two:Bool) (fop:FuncId) (f:Nat) (a:Int) (hop:∀ts x,cR ts→pP f (eC two) ts=some x→Rd fop ts a x) (ts:List Tk) (x:gR) (hT:cR ts) (hx:(match pP f (eC two) ts with
  |some (.ok (e,r))=>pP f (.more two e) r
  |y=>y)=some x):Ks two fop ts a x:=by
 obtain⟨Y,hY⟩:=AO hop;cases h0:pP f (eC two) ts with
 |none=>rw[h0]at hx;cases hx
 |some y0=>
  rw[h0]at hx;have c0:=hY ts y0 hT h0;cases y0 with
  |error z=>
   cases hx;obtain⟨p,c⟩:=z;obtain⟨hc,c0,hw⟩:=c0;refine⟨hc,(Y ts).1,(Y ts).2,?_,hw⟩;generalize(Y ts).1=y at *;generalize(Y ts).2=ts' at *;obtain⟨t,r,rfl⟩:=hw.ne;obtain⟨o1,na1,xs1,nb1,ys1,nm1,n1,cs1,hA⟩:=au y;rw[show dR y= .agg (ac o1 na1 xs1 nb1 ys1 nm1 n1 cs1) from congrArg DV.agg hA]at c0 ⊢;have cis:=qr (mA two) t r p c hw.head.1;rw[decide_eq_false hc,Bool.false_and]at cis;refine ai ab bn func70 rfl rfl rfl rfl rfl (cu) ?_;refine kW ?_;refine kZ (c0) ?_;refine aS Unit (fun _=>True) (fun _=>bS two fop (ac o1 na1 xs1 nb1 ys1 nm1 n1 cs1) (gv (t::r) p c)) (fun _=>0) () trivial (weak ⟨rfl,rfl,rfl,rfl,rfl,rfl,trivial⟩ ⟨rfl,rfl,rfl,trivial⟩ rfl) ?_;rintro _ _;unfold bS;refine kW ?_;refine kZ (cis) ?_;exact⟨⟨_,rfl,rfl⟩,⟨rfl,trivial⟩⟩
  |ok z=>
   obtain⟨e,r⟩:=z;have hx:pP f (.more two e) r=some x:=hx;cases x with
   |ok w=>
    obtain⟨e',r'⟩:=w;exact⟨GN two fop f a Y hY ts hT h0 (B:=gv r' a 0) rfl ⟨c0.2,Nat.le_refl _,_,hx,rfl,rfl⟩,EE hY f e r e' r' (Nat.le_refl _) c0.2 hx⟩
   |error w=>
    obtain⟨p,c⟩:=w;obtain⟨hc,hw⟩:=zH hY f e r p c (Nat.le_refl _) c0.2 hx;exact⟨hc,_,_,GN two fop f a Y hY ts hT h0 (B:=gv _ p c) rfl ⟨c0.2,Nat.le_refl _,_,hx,rfl,rfl⟩,hw⟩
structure I8 (f:Nat) (a:Int):Prop where
 sum:∀ts x,cR ts→pP f .sum ts=some x→Rd 39 ts a x
 prod:∀ts x,cR ts→pP f .prod ts=some x→Rd 71 ts a x
 un:∀ts x,cR ts→pP f .un ts=some x→Rd 111 ts a x
 prim:∀ts x,cR ts→pP f .prim ts=some x→Rd 152 ts a x
theorem HE {f:Nat} {a:Int} (ih:∀ts x,cR ts→pP f .prod ts=some x→Rd 71 ts a x) (ts:List Tk) (x:gR) (hT:cR ts) (hx:pP (f+1) .sum ts=some x):Rd 39 ts a x:=by
 have h:=tL false 71 f a ih ts x hT (by rw[fW]at hx;exact hx);cases x with
 |ok z=>
  obtain⟨e,r⟩:=z;obtain⟨h,hw⟩:=h;refine⟨?_,hw⟩;obtain⟨o1,na1,xs1,nb1,ys1,nm1,n1,cs1,hA⟩:=aX e;rw[show dE e= .agg (ac o1 na1 xs1 nb1 ys1 nm1 n1 cs1) from congrArg DV.agg hA]at h ⊢;refine ai ab bn func39 rfl rfl rfl rfl rfl (cu) ?_;refine kR ?_;refine kI ?_;refine kO ?_;refine ua underlying106 underlying9 rfl rfl rfl rfl rfl ⟨rfl,rfl,rfl⟩ rfl rfl rfl rfl ?_;refine kW ?_;refine kZ (h) ?_;exact⟨⟨_,rfl,rfl⟩,⟨rfl,trivial⟩⟩
 |error z=>
  obtain⟨p,c⟩:=z;obtain⟨hc,y,ts',h,hw⟩:=h;refine⟨hc,y,ts',?_,hw⟩;obtain⟨o1,na1,xs1,nb1,ys1,nm1,n1,cs1,hA⟩:=au y;rw[show dR y= .agg (ac o1 na1 xs1 nb1 ys1 nm1 n1 cs1) from congrArg DV.agg hA]at h ⊢;refine ai ab bn func39 rfl rfl rfl rfl rfl (cu) ?_;refine kR ?_;refine kI ?_;refine kO ?_;refine ua underlying106 underlying9 rfl rfl rfl rfl rfl ⟨rfl,rfl,rfl⟩ rfl rfl rfl rfl ?_;refine kW ?_;refine kZ (h) ?_;exact⟨⟨_,rfl,rfl⟩,⟨rfl,trivial⟩⟩
theorem F5 {f:Nat} {a:Int} (ih:∀ts x,cR ts→pP f .un ts=some x→Rd 111 ts a x) (ts:List Tk) (x:gR) (hT:cR ts) (hx:pP (f+1) .prod ts=some x):Rd 71 ts a x:=by
 have h:=tL true 111 f a ih ts x hT (by rw[eX]at hx;exact hx);cases x with
 |ok z=>
  obtain⟨e,r⟩:=z;obtain⟨h,hw⟩:=h;refine⟨?_,hw⟩;obtain⟨o1,na1,xs1,nb1,ys1,nm1,n1,cs1,hA⟩:=aX e;rw[show dE e= .agg (ac o1 na1 xs1 nb1 ys1 nm1 n1 cs1) from congrArg DV.agg hA]at h ⊢;refine ai ab bn func71 rfl rfl rfl rfl rfl (cu) ?_;refine kR ?_;refine kI ?_;refine kO ?_;refine ua underlying106 underlying9 rfl rfl rfl rfl rfl ⟨rfl,rfl,rfl⟩ rfl rfl rfl rfl ?_;refine kW ?_;refine kZ (h) ?_;exact⟨⟨_,rfl,rfl⟩,⟨rfl,trivial⟩⟩
 |error z=>
  obtain⟨p,c⟩:=z;obtain⟨hc,y,ts',h,hw⟩:=h;refine⟨hc,y,ts',?_,hw⟩;obtain⟨o1,na1,xs1,nb1,ys1,nm1,n1,cs1,hA⟩:=au y;rw[show dR y= .agg (ac o1 na1 xs1 nb1 ys1 nm1 n1 cs1) from congrArg DV.agg hA]at h ⊢;refine ai ab bn func71 rfl rfl rfl rfl rfl (cu) ?_;refine kR ?_;refine kI ?_;refine kO ?_;refine ua underlying106 underlying9 rfl rfl rfl rfl rfl ⟨rfl,rfl,rfl⟩ rfl rfl rfl rfl ?_;refine kW ?_;refine kZ (h) ?_;exact⟨⟨_,rfl,rfl⟩,⟨rfl,trivial⟩⟩
theorem tG (y:Rx):aR (.mk 3 false [] false [] [] [y])=[.val (.int .i64 3)]++nz++[.val (vL []), .sl 1 (aR y)]:=by
 show [.val (.int .i64 3)]++Dm false [] false []++[.val (vL []), .sl 1 (aR y++[])]=_;rw[List.append_nil];rfl
theorem Jt {f:Nat} {a:Int} (ih:∀ts x,cR ts→pP f .un ts=some x→Rd 111 ts a x) (ih2:∀ts x,cR ts→pP f .prim ts=some x→Rd 152 ts a x) (ts:List Tk) (x:gR) (hT:cR ts) (hx:pP (f+1) .un ts=some x):Rd 111 ts a x:=by
 obtain⟨t,r,rfl⟩:=hT.ne;rw[gA]at hx;have cis:=qr [45] t r a 0 hT.head.1;rw[decide_eq_true rfl,Bool.true_and,u5]at cis;cases hs:bh 45 (t::r)with
 |some r2=>
  obtain⟨rfl,h4⟩:=jN hs;rw[hs]at hx cis;have cis:az Tryz.prog 109 [.box 900 0, .d (dL [45])] [(900,gv (t::r2) a 0)] (.v (.one (dB true))) [(900,gv (t::r2) a 0)]:=cis;have hw2:cR r2:=hT.tail (by omega);dsimp only at hx;cases hy:pP f .un r2 with
  |none=>rw[hy]at hx;cases hx
  |some y=>
   have cy:=ih r2 y hw2 hy;rw[hy]at hx;cases y with
   |ok z=>
    obtain⟨e,r3⟩:=z;cases hx;obtain⟨cy,hw3⟩:=cy;refine⟨?_,hw3⟩;obtain⟨o1,na1,xs1,nb1,ys1,nm1,n1,cs1,hA⟩:=aX e;rw[show dE (.neg e)= .agg ([.val (.int .i64 3)]++nz++[.val (vL []), .sl 1 (aE e)]) from congrArg DV.agg (nZ e),hA];rw[show dE e= .agg (ac o1 na1 xs1 nb1 ys1 nm1 n1 cs1) from congrArg DV.agg hA]at cy;refine ai ab bn func111 rfl rfl rfl rfl rfl (cu) ?_;refine kW ?_;refine kZ (cis) ?_;refine kZ (ft t r2 a 0) ?_;refine kZ (cy) ?_;exact⟨⟨_,rfl,rfl⟩,⟨rfl,trivial⟩⟩
   |error z=>
    cases hx;obtain⟨p,c⟩:=z;obtain⟨hc,y,ts',cy,hw3⟩:=cy;refine⟨hc, .mk 3 false [] false [] [] [y],ts',?_,hw3⟩;obtain⟨o1,na1,xs1,nb1,ys1,nm1,n1,cs1,hA⟩:=au y;rw[show dR (.mk 3 false [] false [] [] [y])= .agg ([.val (.int .i64 3)]++nz++[.val (vL []), .sl 1 (aR y)]) from congrArg DV.agg (tG y),hA];rw[show dR y= .agg (ac o1 na1 xs1 nb1 ys1 nm1 n1 cs1) from congrArg DV.agg hA]at cy;refine ai ab bn func111 rfl rfl rfl rfl rfl (cu) ?_;refine kW ?_;refine kZ (cis) ?_;refine kZ (ft t r2 a 0) ?_;refine kZ (cy) ?_;exact⟨⟨_,rfl,rfl⟩,⟨rfl,trivial⟩⟩
 |none=>
  rw[hs]at hx cis;have cis:az Tryz.prog 109 [.box 900 0, .d (dL [45])] [(900,gv (t::r) a 0)] (.v (.one (dB false))) [(900,gv (t::r) a 0)]:=cis;have cy:=ih2 (t::r) x hT hx;cases x with
  |ok z=>
   obtain⟨e,r3⟩:=z;obtain⟨cy,hw3⟩:=cy;refine⟨?_,hw3⟩;obtain⟨o1,na1,xs1,nb1,ys1,nm1,n1,cs1,hA⟩:=aX e;rw[show dE e= .agg (ac o1 na1 xs1 nb1 ys1 nm1 n1 cs1) from congrArg DV.agg hA]at cy ⊢;refine ai ab bn func111 rfl rfl rfl rfl rfl (cu) ?_;refine kW ?_;refine kZ (cis) ?_;refine kZ (cy) ?_;exact⟨⟨_,rfl,rfl⟩,⟨rfl,trivial⟩⟩
  |error z=>
   obtain⟨p,c⟩:=z;obtain⟨hc,y,ts',cy,hw3⟩:=cy;refine⟨hc,y,ts',?_,hw3⟩;obtain⟨o1,na1,xs1,nb1,ys1,nm1,n1,cs1,hA⟩:=au y;rw[show dR y= .agg (ac o1 na1 xs1 nb1 ys1 nm1 n1 cs1) from congrArg DV.agg hA]at cy ⊢;refine ai ab bn func111 rfl rfl rfl rfl rfl (cu) ?_;refine kW ?_;refine kZ (cis) ?_;refine kZ (cy) ?_;exact⟨⟨_,rfl,rfl⟩,⟨rfl,trivial⟩⟩
def z7:Rx:= .mk 0 false [] false [] [] []
theorem FL {f:Nat} {a:Int} (ih:∀ts x,cR ts→pP f .sum ts=some x→Rd 39 ts a x) (ts:List Tk) (x:gR) (hT:cR ts) (hx:pP (f+1) .prim ts=some x):Rd 152 ts a x:=by
 obtain⟨t,r,rfl⟩:=hT.ne;rw[dG]at hx;have cis:=qr [40] t r a 0 hT.head.1;rw[decide_eq_true rfl,Bool.true_and,u5]at cis;cases hs:bh 40 (t::r)with
 |some r2=>
  obtain⟨rfl,h4⟩:=jN hs;rw[hs]at hx cis;have cis:az Tryz.prog 109 [.box 900 0, .d (dL [40])] [(900,gv (t::r2) a 0)] (.v (.one (dB true))) [(900,gv (t::r2) a 0)]:=cis;have hw2:cR r2:=hT.tail (by omega);dsimp only at hx;cases hy:pP f .sum r2 with
  |none=>rw[hy]at hx;cases hx
  |some y=>
   have cy:=ih r2 y hw2 hy;rw[hy]at hx;cases y with
   |error z=>
    cases hx;obtain⟨p,c⟩:=z;obtain⟨hc,y,ts',cy,hw3⟩:=cy;refine⟨hc,z7,ts',?_,hw3⟩;obtain⟨u,r4,rfl⟩:=hw3.ne;obtain⟨o1,na1,xs1,nb1,ys1,nm1,n1,cs1,hA⟩:=au y;rw[show dR y= .agg (ac o1 na1 xs1 nb1 ys1 nm1 n1 cs1) from congrArg DV.agg hA]at cy;have cis2:=qr [41] u r4 p c hw3.head.1;rw[decide_eq_false hc,Bool.false_and]at cis2;refine ai ab bn func152 rfl rfl rfl rfl rfl (cu) ?_;refine kW ?_;refine kD (bA t r2 a 0) ?_;refine kO ?_;refine kY ?_;refine kD (bA t r2 a 0) ?_;refine kO ?_;refine kY ?_;refine kZ (cis) ?_;refine kZ (ft t r2 a 0) ?_;refine kZ (cy) ?_;refine kZ (cis2) ?_;refine kZ (pZ u r4 p c 2 hc) ?_;exact⟨⟨_,rfl,rfl⟩,⟨rfl,trivial⟩⟩
   |ok z=>
    obtain⟨e,r3⟩:=z;obtain⟨cy,hw3⟩:=cy;obtain⟨u,r4,rfl⟩:=hw3.ne;obtain⟨o1,na1,xs1,nb1,ys1,nm1,n1,cs1,hA⟩:=aX e;rw[show dE e= .agg (ac o1 na1 xs1 nb1 ys1 nm1 n1 cs1) from congrArg DV.agg hA]at cy;have cis2:=qr [41] u r4 a 0 hw3.head.1;rw[decide_eq_true rfl,Bool.true_and,u5]at cis2;dsimp only at hx;cases hs2:bh 41 (u::r4)with
    |some r5=>
     obtain⟨rfl,h4'⟩:=jN hs2;rw[hs2]at hx cis2;cases hx;refine⟨?_,hw3.tail (by omega)⟩;rw[show dE e= .agg (ac o1 na1 xs1 nb1 ys1 nm1 n1 cs1) from congrArg DV.agg hA];have cis2:az Tryz.prog 109 [.box 900 0, .d (dL [41])] [(900,gv (u::r5) a 0)] (.v (.one (dB true))) [(900,gv (u::r5) a 0)]:=cis2;refine ai ab bn func152 rfl rfl rfl rfl rfl (cu) ?_;refine kW ?_;refine kD (bA t r2 a 0) ?_;refine kO ?_;refine kY ?_;refine kD (bA t r2 a 0) ?_;refine kO ?_;refine kY ?_;refine kZ (cis) ?_;refine kZ (ft t r2 a 0) ?_;refine kZ (cy) ?_;refine kZ (cis2) ?_;refine kZ (ft u r5 a 0) ?_;exact⟨⟨_,rfl,rfl⟩,⟨rfl,trivial⟩⟩
    |none=>
     rw[hs2]at hx cis2;cases hx;refine⟨by decide,z7,u::r4,?_,hw3⟩;have cis2:az Tryz.prog 109 [.box 900 0, .d (dL [41])] [(900,gv (u::r4) a 0)] (.v (.one (dB false))) [(900,gv (u::r4) a 0)]:=cis2;refine ai ab bn func152 rfl rfl rfl rfl rfl (cu) ?_;refine kW ?_;refine kD (bA t r2 a 0) ?_;refine kO ?_;refine kY ?_;refine kD (bA t r2 a 0) ?_;refine kO ?_;refine kY ?_;refine kZ (cis) ?_;refine kZ (ft t r2 a 0) ?_;refine kZ (cy) ?_;refine kZ (cis2) ?_;refine kZ (ji u r4 a 2) ?_;exact⟨⟨_,rfl,rfl⟩,⟨rfl,trivial⟩⟩
 |none=>
  rw[hs]at hx cis;dsimp only at hx;have cis:az Tryz.prog 109 [.box 900 0, .d (dL [40])] [(900,gv (t::r) a 0)] (.v (.one (dB false))) [(900,gv (t::r) a 0)]:=cis
  by_cases h2:t.1=2
  ·rw[if_pos h2]at hx
   cases hx;obtain⟨u,r4,rfl⟩:=(hT.tail (by omega)).ne;have cn:=Bt t u r4 a h2 hT;cases hP:el t (u::r4)with
   |ok z=>
    obtain⟨e,r3⟩:=z;rw[hP]at cn;obtain⟨cy,hw3⟩:=cn;refine⟨?_,hw3⟩;obtain⟨o1,na1,xs1,nb1,ys1,nm1,n1,cs1,hA⟩:=aX e;rw[show dE e= .agg (ac o1 na1 xs1 nb1 ys1 nm1 n1 cs1) from congrArg DV.agg hA]at cy ⊢;refine ai ab bn func152 rfl rfl rfl rfl rfl (cu) ?_;refine kW ?_;refine kD (bA t (u::r4) a 0) ?_;refine kO ?_;refine kX ?_;refine kZ (cy) ?_;exact⟨⟨_,rfl,rfl⟩,⟨rfl,trivial⟩⟩
   |error z=>
    obtain⟨p,c⟩:=z;rw[hP]at cn;obtain⟨hc,y,ts',cy,hw3⟩:=cn;refine⟨hc,y,ts',?_,hw3⟩;obtain⟨o1,na1,xs1,nb1,ys1,nm1,n1,cs1,hA⟩:=au y;rw[show dR y= .agg (ac o1 na1 xs1 nb1 ys1 nm1 n1 cs1) from congrArg DV.agg hA]at cy ⊢;refine ai ab bn func152 rfl rfl rfl rfl rfl (cu) ?_;refine kW ?_;refine kD (bA t (u::r4) a 0) ?_;refine kO ?_;refine kX ?_;refine kZ (cy) ?_;exact⟨⟨_,rfl,rfl⟩,⟨rfl,trivial⟩⟩
  ·rw[if_neg h2]at hx
   by_cases h1:t.1=1
   ·rw[if_pos h1]at hx
    cases hx;refine⟨?_,hT.tail (by omega)⟩;refine ai ab bn func152 rfl rfl rfl rfl rfl (cu) ?_;refine kW ?_;refine kD (bA t r a 0) ?_;refine kO ?_;refine kY ?_;refine kD (bA t r a 0) ?_;refine kO ?_;refine kX ?_;refine kZ (ft t r a 0) ?_;exact⟨⟨_,rfl,rfl⟩,⟨rfl,trivial⟩⟩
   ·rw[if_neg h1]at hx
    cases hx;refine⟨by decide,z7,t::r,?_,hT⟩;refine ai ab bn func152 rfl rfl rfl rfl rfl (cu) ?_;refine kW ?_;refine kD (bA t r a 0) ?_;refine kO ?_;refine kY ?_;refine kD (bA t r a 0) ?_;refine kO ?_;refine kY ?_;refine kZ (cis) ?_;refine kZ (ji t r a 2) ?_;exact⟨⟨_,rfl,rfl⟩,⟨rfl,trivial⟩⟩
theorem ze (a:Int):∀f,I8 f a
 |0=>⟨fun _ _ _ h=>(by cases h),fun _ _ _ h=>(by cases h),fun _ _ _ h=>(by cases h),fun _ _ _ h=>(by cases h)⟩
 |f+1=>by
  have ih:=ze a f;exact⟨fun ts x hT hx=>HE ih.prod ts x hT hx,fun ts x hT hx=>F5 ih.un ts x hT hx,fun ts x hT hx=>Jt ih.un ih.prim ts x hT hx,fun ts x hT hx=>FL ih.sum ts x hT hx⟩
end Go.Proofs.YtikbnnljjeefgaaGreatDoor
