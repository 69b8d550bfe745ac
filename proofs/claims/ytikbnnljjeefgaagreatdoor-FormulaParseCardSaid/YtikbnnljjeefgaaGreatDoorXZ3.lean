/- Parts of a proof: contracts of the functions that the laws reach. -/
import Derived.Test.YtikbnnljjeefgaaGreatDoorXZ1
import Derived.Test.YtikbnnljjeefgaaGreatDoorXZ2
set_option maxHeartbeats 100000000
namespace Go.Proofs.YtikbnnljjeefgaaGreatDoor
open Go.RowKit
theorem BZ {l:List UInt8} {i:Nat} (h:i<l.length):num (l.take (i+1))=10*num (l.take i)+dv l[i]:=by
 rw[List.take_succ_eq_append_getElem h,gx]
theorem mG (s:List UInt8):ab Tryz.prog 204 [dL s] (.tup [dZ (pz s).1,dN .i64 (pz s).2]):=by
 have z0:dZ 0= .agg [.val (.bool false), .sl 0 []]:=by unfold dZ;rw[e0]
 have hsz:=au s
 by_cases hl:s.length≤65536
 ·have hdl:=ll s
  refine kU aa ac Tryz.func204 ?_;refine kW ?_;refine dC (T:=TT) rfl ?_ ?_
  ·exact decide_eq_false (by omega)
  refine bT ?_;refine kR ?_;refine sG ⟨[(0, .d (dL s)),(2, .box 0 0),(3, .d (dN .i64 0)),(4, .d (dL (dx s)))],[(0,some [.val (.bool false), .sl 0 []])]⟩ (fun s' hw=>?_) (fun R hR hret=>?_)
  ·refine aJ ?_
   refine gH hw rfl ?_;refine kW ?_;refine bh Nat (fun i=>i≤(dx s).length∧ ∀c∈(dx s).take i,cX c) (fun i=>⟨[(0, .d (dL s)),(2, .box 0 0),(3, .d (dN .i64 0)),(4, .d (dL (dx s))),(5, .box 6001 0),(6, .d (dN .i64 i))],[(0,some [.val (.bool false), .sl 0 []]),(6001,some (aZ (num ((dx s).take i):Nat)))]⟩) (fun i=>(dx s).length-i) 0 ⟨by omega,by simp⟩ (weak ⟨rfl,rfl,rfl,rfl,rfl,rfl,trivial⟩ ⟨rfl,congrArg some e0.symm,trivial⟩ rfl) ?_;rintro i ⟨hi,hd⟩;have hsd:=au (dx s);refine kR ?_;refine fS rfl (fun h=>?_) (fun h=>?_)
   ·have h:=of_decide_eq_true h
    have hi:i<(dx s).length:=by omega
    refine bT ?_;refine kR ?_;refine ap aa (i:=i) (c:=(dx s)[i]) (List.getElem?_eq_getElem hi) rfl rfl rfl rfl rfl rfl rfl rfl ?_
    by_cases h48:(dx s)[i].toNat<48
    ·have hbad:¬FM s:=fun hp=>by have:=(hp.2.2.1 _ (List.getElem_mem hi)).1;omega
     rw[jy hbad,z0];refine kT ?_;exact kF
    ·refine kE ?_
     iterate 3 refine kO ?_
     refine ap aa (i:=i) (c:=(dx s)[i]) (List.getElem?_eq_getElem hi) rfl rfl rfl rfl rfl rfl rfl rfl ?_
     by_cases h57:(dx s)[i].toNat > 57
     ·have hbad:¬FM s:=fun hp=>by have:=(hp.2.2.1 _ (List.getElem_mem hi)).2;omega
      rw[jy hbad,z0];refine kT ?_;exact kF
     ·refine kE ?_
      have hD:cX (dx s)[i]:=⟨by omega,by omega⟩;have hl1:((dx s).take i).length≤65536:=by rw[List.length_take];omega
      have hn0:=yP hd;have hdv:=yZ hD;have hs:=BZ hi
      have hcv:(Value.int .i64 (IntKind.i64.wrap (IntKind.u8.wrap (((dx s)[i].toNat:Int)-48))):Value)= .int .i64 (dv (dx s)[i]:Nat):=by
       rw[IntWalk.u8_in _ (by omega),IntWalk.i64_in _ (by omega)];unfold dv
       congr 1
       omega
      have hf10:ew ((num ((dx s).take i):Nat)*10:Int):=by
       have:=xQ (Nat.le_trans hn0 hl1) (m:=10*num ((dx s).take i)) (by omega);unfold ew;rw[show((num ((dx s).take i):Nat)*10:Int).natAbs=10*num ((dx s).take i) by omega];omega
      refine kW ?_;refine DP (cO 10 (by decide) (by decide)) rfl rfl rfl rfl rfl rfl rfl ?_;refine kW ?_;refine DP (eP (a:=(num ((dx s).take i):Nat)) (b:=10) (Nat.le_trans hn0 (Nat.le_trans hl1 (by decide))) (.small (by decide))) rfl rfl rfl rfl rfl rfl rfl ?_
      iterate 2 refine kO ?_
      refine ap aa (i:=i) (c:=(dx s)[i]) (List.getElem?_eq_getElem hi) rfl rfl rfl rfl rfl rfl rfl rfl ?_;refine kO ?_;refine fj rfl rfl rfl rfl hcv ?_;refine DP (cO (dv (dx s)[i]:Nat) (by omega) (by omega)) rfl rfl rfl rfl rfl rfl rfl ?_;refine DP (qf (a:=(num ((dx s).take i):Nat)*10) (b:=(dv (dx s)[i]:Nat)) hf10 (.small (by omega))) rfl rfl rfl rfl rfl rfl rfl ?_;refine kW ?_;have hnum:((num ((dx s).take i):Nat)*10+(dv (dx s)[i]:Nat):Int)=(num ((dx s).take (i+1)):Nat):=by rw[hs];omega
      refine⟨i+1,⟨hi,fun c hc=>?_⟩,by omega,weak ⟨rfl,rfl,rfl,rfl,rfl,bc rfl (by omega),trivial⟩ ⟨rfl,congrArg (fun z=>some (aZ z)) hnum,trivial⟩ rfl⟩;rw[List.take_succ_eq_append_getElem hi,List.mem_append]at hc;rcases hc with hc|hc
      ·exact hd c hc
      ·rw[List.mem_singleton]at hc;rw[hc];exact hD
   ·have h:=of_decide_eq_false h
    have hi:i=(dx s).length:=by omega
    subst hi;rw[List.take_length]at hd ⊢;refine eN ?_
    have hfz:ew (kg (bU s) (num (dx s))):=by
     have:=yP hd;unfold ew;rw[show(kg (bU s) (num (dx s))).natAbs=num (dx s) by unfold kg;split <;>omega];omega
    refine sG ⟨[(0, .d (dL s)),(2, .box 0 0),(3, .d (dN .i64 0)),(5, .box 6001 0)],[(0,some [.val (.bool false), .sl 0 []]),(6001,some (aZ (kg (bU s) (num (dx s)))))]⟩ (fun s' hw=>?_) (fun R hR hret=>?_)
    ·refine aJ ?_
     refine aJ ?_;refine gH hw rfl ?_;refine kO ?_;refine kC (lG hfz) ?_;refine kO ?_;refine aO rfl rfl rfl rfl rfl rfl rfl mj ?_;refine .done ?_
     by_cases hok:ic (bU s) (dx s)
     ·have:=Gm hok
      rw[Er]at this;refine dC (T:=TT) rfl ?_ ?_
      ·exact(by rw[this];simp)
      rw[DX ⟨hl,hok⟩];refine bT ?_;exact kF
     ·have:fmt (kg (bU s) (num (dx s)))≠s:=fun e=>hok (AU hd (by rw[Er];exact e))
      refine eX (T:=TT) rfl ?_ ?_
      ·exact(by simp[this])
      rw[jy (fun h=>hok h.2),z0];exact kF
    ·have hlt:=GN s
     refine kR ?_;cases hp:bU s
     ·rw[hp]at hlt
      refine dC (T:=TT) rfl ?_ ?_
      ·exact(by rw[← hlt];congr 1;simp;omega)
      refine bT ?_;exact hR _ (weak ⟨rfl,rfl,rfl,rfl,trivial⟩ ⟨rfl,congrArg (fun z=>some (aZ z)) (show((num (dx s):Nat):Int)=kg (bU s) (num (dx s)) by rw[hp];rfl),trivial⟩ rfl)
     ·rw[hp]at hlt
      refine eX (T:=TT) rfl ?_ ?_
      ·exact(by rw[← hlt];congr 1;simp;omega)
      refine kW ?_;refine kQ (l0 (num (dx s):Nat)) ?_;exact hR _ (weak ⟨rfl,rfl,rfl,rfl,trivial⟩ ⟨rfl,congrArg (fun z=>some (aZ z)) (show -((num (dx s):Nat):Int)=kg (bU s) (num (dx s)) by rw[hp];rfl),trivial⟩ rfl)
  ·clear hret
   match s with
   | []=>
    refine aJ ?_;refine ax rfl ?_
    iterate 2 refine kO ?_
    refine kB false ?_ ?_
    ·exact rfl
    refine kW ?_;refine bT ?_;exact hR _ (weak ⟨rfl,rfl,rfl,rfl,trivial⟩ ⟨rfl,trivial⟩ rfl)
   |c::r=>
    refine aJ ?_;refine ax rfl ?_
    iterate 2 refine kO ?_
    refine kB true ?_ ?_
    ·exact decide_eq_true (by rw[hsz];simp)
    iterate 2 refine kO ?_
    refine ap aa (i:=0) (c:=c) rfl rfl rfl rfl rfl rfl rfl rfl rfl ?_
    by_cases h:c=45
    ·subst h
     refine kW ?_;refine iL aa (i:=1) (by simp) rfl rfl rfl rfl rfl rfl rfl rfl ?_;refine kW ?_;exact hR _ (weak ⟨rfl,rfl,rfl,rfl,trivial⟩ ⟨rfl,trivial⟩ rfl)
    ·have h45:(c == 45)=false:=beq_eq_false_iff_ne.2 h
     have hn:c.toNat≠45:=fun e=>h (UInt8.toNat_inj.1 e)
     refine kB false ?_ ?_
     ·exact beq_eq_false_iff_ne.2 (by omega)
     refine kW ?_;refine bT ?_;exact hR _ (weak ⟨rfl,rfl,rfl,congrArg (fun x=>TV.d (dL x)) (show c::r=dx (c::r) by simp[dx,h45]),trivial⟩ ⟨rfl,trivial⟩ rfl)
 ·rw[jy (fun h=>hl h.1),z0]
  refine kU aa ac Tryz.func204 ?_;refine kW ?_;refine eX (T:=TT) rfl ?_ ?_
  ·exact decide_eq_true (by omega)
  exact kF
theorem lE {t:List UInt8} {j:Nat} {c:UInt8} (h:∀i x,i<j→t[i]? =some x→cX x) (hc:t[j]? =some c) (hn:¬cX c):(ey t).length=j:=by
 obtain⟨hl,hg⟩:=List.getElem?_eq_some_iff.1 hc
 have e:t=t.take j++c::t.drop (j+1):=by
  rw[← hg,List.getElem_cons_drop,List.take_append_drop]
 have h1:∀x∈t.take j,cX x:=fun x hx=>by
  obtain⟨i,hi⟩:=List.getElem?_of_mem hx;rw[List.getElem?_take]at hi
  split at hi
  ·exact h i x (by omega) hi
  ·cases hi
 rw[e,(g8 h1).1,(gX hn).1,List.append_nil,List.length_take];omega
theorem xr {t:List UInt8} (h:∀i x,i<t.length→t[i]? =some x→cX x):ey t=t:=(nN fun x hx=>by
 obtain⟨i,hi⟩:=List.getElem?_of_mem hx;exact h i x (List.getElem?_eq_some_iff.1 hi).1 hi).1
theorem jB {t:List UInt8} (hl:t.length≤1000000000):ab Tryz.prog 203 [dL t] (.one (dN .i64 (ey t).length)):=by
 have hsz:=au t;refine kU aa ac Tryz.func203 ?_;refine kW ?_;refine bh Nat (fun j=>j≤t.length∧ ∀i c,i<j→t[i]? =some c→cX c) (fun j=>⟨[(0, .d (dL t)),(3, .d (dN .i64 j))],[]⟩) (fun j=>t.length-j) 0 ⟨Nat.zero_le _,fun i c h=>absurd h (Nat.not_lt_zero _)⟩ (weak ⟨rfl,rfl,trivial⟩ trivial rfl) ?_;rintro j ⟨hj,hall⟩;refine kI ?_
 iterate 3 refine kO ?_
 by_cases hlt:j<t.length
 ·obtain⟨c,hc⟩:∃c,t[j]=c:=⟨_,rfl⟩
  have hcj:t[j]? =some c:=by rw[List.getElem?_eq_getElem hlt,hc]
  refine kT ?_
  iterate 3 refine kO ?_
  refine ap aa (l:=t) (i:=j) hcj rfl rfl rfl rfl rfl rfl rfl rfl ?_
  by_cases h1:48≤c.toNat
  ·refine kT ?_
   iterate 4 refine kO ?_
   refine ap aa (l:=t) (i:=j) hcj rfl rfl rfl rfl rfl rfl rfl rfl ?_
   by_cases h2:c.toNat≤57
   ·refine kT ?_
    refine kW ?_;refine⟨j+1,⟨hlt,fun i c' hi hp=>?_⟩,by omega,weak ⟨rfl,?_,trivial⟩ trivial rfl⟩
    ·rcases Nat.lt_succ_iff_lt_or_eq.1 hi with h3|rfl
     ·exact hall i c' h3 hp
     ·rw[hcj]at hp;cases hp;exact⟨h1,h2⟩
    ·exact bc (by omega) (by omega)
   ·refine kE ?_
    refine kW ?_;rw[lE hall hcj (fun h=>by unfold cX at h;omega)];exact bL (T:=TT) rfl rfl
  ·refine kE ?_
   refine kW ?_;rw[lE hall hcj (fun h=>by unfold cX at h;omega)];exact bL (T:=TT) rfl rfl
 ·have hge:j=t.length:=by omega
  refine kY ?_;rw[xr (fun i x hi hx=>hall i x (by omega) hx),← hge];exact bL (T:=TT) rfl rfl
theorem t6 {p:List UInt8} (h:∀c∈p,cX c):ic false p↔p≠[]∧(1<p.length→p.head? ≠some 48):=by
 constructor
 ·rintro⟨h1,_,h3⟩
  refine⟨h1,fun hl e=>?_⟩;rcases h3 with h3| ⟨h3,_⟩
  ·cases p with
   |nil=>cases e
   |cons c r=>simp at e;exact h3 c r rfl e
  ·omega
 ·rintro⟨h1,h2⟩
  refine⟨h1,h,?_⟩
  by_cases hl:1<p.length
  ·exact .inl fun c r e=>by
    have:=h2 hl;rw[e]at this
    simpa using this
  ·have:=List.length_pos_iff.2 h1
   exact .inr ⟨by omega,rfl⟩
section
variable {P:Program} {T:TypeId→Option Ty} {n:Nat} {ops:Array Oper} {id:Nat} {draw:Bool} {K:AS→Prop} {s:AS} {k:Nat} {o:Oper} {os:List Oper} {fps:List FP}
theorem Ge (hT:∀t d,T t=some d→b7 P t d) {t:TypeId} {ty:Ty} {x y:Operand} {l l':List UInt8} {i:Nat} {ik:IntKind} (he:l.take i=l') (hi:i≤l.length) (h1:gd ops s o=some true) (h2:o.op= .slice t x none (some y) none) (h5:T t=some ty) (h6:ty.isStr=true) (h7:s.ev x= .d (.leaf (.val (vL l)))) (h8:s.ev y= .d (.leaf (.val (.int ik (i:Nat)))))
 (h3:bn n o.dst=true) (h4:jr draw ops (a6 ops o ⟨.d (dL l'),none⟩ []) k fps=true) (h:aH P T n ops id draw K (k+1) os (s.eff o.dst ⟨.d (dL l'),none⟩) (a6 ops o ⟨.d (dL l'),none⟩ []::fps)):aH P T n ops id draw K k (o::os) s fps:=by
 subst he;exact wP hT hi h1 h2 h5 h6 h7 h8 h3 h4 h
theorem pm (hT:∀t d,T t=some d→b7 P t d) {t:TypeId} {ty:Ty} {x y:Operand} {l l':List UInt8} {i:Nat} {ik:IntKind} (he:l.drop i=l') (hi:i≤l.length) (h1:gd ops s o=some true) (h2:o.op= .slice t x (some y) none none) (h5:T t=some ty) (h6:ty.isStr=true) (h7:s.ev x= .d (.leaf (.val (vL l)))) (h8:s.ev y= .d (.leaf (.val (.int ik (i:Nat)))))
 (h3:bn n o.dst=true) (h4:jr draw ops (a6 ops o ⟨.d (dL l'),none⟩ []) k fps=true) (h:aH P T n ops id draw K (k+1) os (s.eff o.dst ⟨.d (dL l'),none⟩) (a6 ops o ⟨.d (dL l'),none⟩ []::fps)):aH P T n ops id draw K k (o::os) s fps:=by
 subst he;exact iL hT hi h1 h2 h5 h6 h7 h8 h3 h4 h
end
open Classical in
noncomputable def Bz (n:Nat):List UInt8→Option Rat
 | []=>some ((n:Int):Rat)
 |c::b=>if c=46 then(if b≠[]∧(∀x∈b,cX x)then some (Rat.divInt ((n*10^b.length+num b:Nat):Int) ((10^b.length:Nat):Int))else none)else if c=47 then(if ic false b∧num b≠0∧num b≠1∧Nat.gcd n (num b)=1 then some (Rat.divInt (n:Int) (num b:Int))else none)else none
theorem zy {t:List UInt8} (h:ic false (ey t)):eZ t=Bz (num (ey t)) (iw t):=by
 unfold eZ Bz;rw[if_pos h];cases iw t<;>rfl
theorem DI {n:Nat} {c:UInt8} {b:List UInt8} (hc:c=46) (h:¬(b≠[]∧(∀x∈b,cX x))):Bz n (c::b)=none:=by subst hc;unfold Bz;dsimp only;rw[if_pos rfl,if_neg h]
theorem BI {n:Nat} {c:UInt8} {b:List UInt8} (hc:c=46) (h:b≠[]∧(∀x∈b,cX x)):Bz n (c::b)=some (Rat.divInt ((n*10^b.length+num b:Nat):Int) ((10^b.length:Nat):Int)):=by subst hc;unfold Bz;dsimp only;rw[if_pos rfl,if_pos h]
theorem rX {n:Nat} {c:UInt8} {b:List UInt8} (hc:c=47) (h:¬(ic false b∧num b≠0∧num b≠1∧Nat.gcd n (num b)=1)):Bz n (c::b)=none:=by subst hc;unfold Bz;dsimp only;rw[if_neg (by decide),if_pos rfl,if_neg h]
theorem CE {n:Nat} {c:UInt8} {b:List UInt8} (hc:c=47) (h:ic false b∧num b≠0∧num b≠1∧Nat.gcd n (num b)=1):Bz n (c::b)=some (Rat.divInt (n:Int) (num b:Int)):=by subst hc;unfold Bz;dsimp only;rw[if_neg (by decide),if_pos rfl,if_pos h]
theorem Gb {n:Nat} {c:UInt8} {b:List UInt8} (h:c≠46) (h':c≠47):Bz n (c::b)=none:=by unfold Bz;dsimp only;rw[if_neg h,if_neg h']
theorem iC {b:List UInt8}:(ey b).length=b.length↔ ∀x∈b,cX x:=by
 constructor
 ·intro h
  have e:ey b=b:=by
   have:=ii b;have h2:=congrArg List.length this;rw[List.length_append]at h2;rw[List.eq_nil_of_length_eq_zero (show(iw b).length=0 by omega),List.append_nil]at this;exact this
  rw[← e];exact kb b
 ·intro h;rw[(nN h).1]
theorem BM {c d:UInt8} (h:c≠d):¬(c.toNat:Int)=d.toNat:=fun e=>h (UInt8.toNat_inj.1 (by omega))
theorem Bp (t:List UInt8):t.take (ey t).length=ey t:=by
 have:=ii t
 conv=>lhs;rw[← this]
 rw[List.take_left' (by rw[this])]
theorem Ac (t:List UInt8):t.drop (ey t).length=iw t:=by
 have:=ii t
 conv=>lhs;rw[← this]
 rw[List.drop_left' (by rw[this])]
theorem vp (t:List UInt8):(ey t).length≤t.length:=by
 have:=congrArg List.length (ii t);rw[List.length_append]at this;omega
noncomputable def G9 (s:List UInt8):RV:=match bF s with
 |some q=> .tup [dQ q,dN .i64 0]
 |none=> .tup [B7,dN .i64 2]
theorem vV {s:List UInt8} {q:Rat} (h:bF s=some q):G9 s= .tup [dQ q,dN .i64 0]:=by unfold G9;rw[h]
theorem eh {s:List UInt8} (h:bF s=none):G9 s= .tup [B7,dN .i64 2]:=by unfold G9;rw[h]
theorem ep {s:List UInt8} (h:eZ (dx s)=none):bF s=none:=by unfold bF;split <;>simp[h]
theorem Ay {s:List UInt8} {n d:Int} (hl:s.length≤65536) (h:eZ (dx s)=some (Rat.divInt n d)) (hn:bU s=false):bF s=some (Rat.divInt n d):=by
 unfold bF;rw[if_pos hl,h];simp[hn]
theorem jU {n d:Int} (hd:d≠0):Rat.divInt n d=0↔n=0:=by
 have h0:(0:Rat)=Rat.divInt 0 1:=by rfl
 rw[h0,Rat.divInt_eq_divInt_iff hd (by decide)]
 simp
theorem yD {s:List UInt8} {n d:Int} (hl:s.length≤65536) (h:eZ (dx s)=some (Rat.divInt n d)) (hn:bU s=true) (h0:n=0) (hd:d≠0):bF s=none:=by
 unfold bF;rw[if_pos hl,h];simp[hn,(jU hd).2 h0]
theorem AE {s:List UInt8} {n d:Int} (hl:s.length≤65536) (h:eZ (dx s)=some (Rat.divInt n d)) (hn:bU s=true) (h0:¬n=0) (hd:d≠0):bF s=some (Rat.divInt (-n) d):=by
 have:¬Rat.divInt n d=0:=fun e=>h0 ((jU hd).1 e)
 unfold bF;rw[if_pos hl,h];simp[hn,this,Rat.neg_divInt]
theorem Ai {b:List UInt8} (h:b≠[]):∃d b',b=d::b':=by
 cases b with
 |nil=>exact absurd rfl h
 |cons d b'=>exact⟨d,b',rfl⟩
theorem gI {rs:List ResultVar} {s:AS} {v:RV} (h:v= .tup [B7,dN .i64 2]) (h1:jS TT s rs=some [B7,dN .i64 2]):∃l,jS TT s rs=some l∧xU l=v:=⟨_,h1,h.symm⟩
theorem C0 {k j:Nat} (h:k<j):Sz j ((10^k:Nat):Int):=by
 unfold Sz;rw[Int.natAbs_natCast];exact Nat.lt_of_le_of_lt (Nat.pow_le_pow_left (by decide) k) (Nat.pow_lt_pow_right (by decide) h)
theorem u9 (s:List UInt8):ab Tryz.prog 184 [dL s] (G9 s):=by
 have hsz:=au s
 by_cases hl:s.length≤65536
 ·obtain⟨t,ht⟩:∃t,dx s=t:=⟨_,rfl⟩
  have htl:t.length≤s.length:=by rw[← ht];exact ll s
  obtain⟨p,hp⟩:∃p,ey t=p:=⟨_,rfl⟩;obtain⟨r,hr⟩:∃r,iw t=r:=⟨_,rfl⟩;have hpd:∀c∈p,cX c:=by rw[← hp];exact kb t
  have hpl:p.length≤t.length:=by rw[← hp];exact vp t
  have hpr:p++r=t:=by rw[← hp,← hr];exact ii t
  have hrl:p.length+r.length=t.length:=by rw[← hpr,List.length_append]
  have htk:t.take p.length=p:=by rw[← hp];exact Bp t
  have hdr:t.drop p.length=r:=by rw[← hp,← hr];exact Ac t
  have hbad:¬ic false p→eZ (dx s)=none:=fun h=>by rw[ht];unfold eZ;rw[hp,if_neg h]
  refine kU aa ac Tryz.func184 ?_;refine kW ?_;refine dC (T:=TT) rfl ?_ ?_
  ·exact decide_eq_false (by omega)
  refine bT ?_;refine sG ⟨[(0, .d (dL s)),(2, .box 0 0),(3, .d (dN .i64 0)),(4, .d (dB (bU s)))],[(0,some kK)]⟩ (fun s1 hw1=>?_) (fun R hR _=>?_)
  ·refine sG ⟨[(0, .d (dL t)),(2, .box 0 0),(3, .d (dN .i64 0)),(4, .d (dB (bU s)))],[(0,some kK)]⟩ (fun s2 hw2=>?_) (fun R hR _=>?_)
   ·refine aJ ?_
    refine gH hw2 rfl ?_;refine kO ?_;refine DP (jB (t:=t) (by omega)) rfl rfl rfl rfl rfl rfl rfl ?_;rw[hp];refine kN ?_;refine BY ⟨[(0, .d (dL t)),(2, .box 0 0),(3, .d (dN .i64 0)),(4, .d (dB (bU s))),(5, .d (dN .i64 p.length))],[(0,some kK)]⟩ (ic false p) (fun hok s3 hw3=>?_) (fun R hR hret=>?_)
    ·have hsp:=eJ hpd
     have c1:=mG p;rw[qn hpd (by omega),if_pos hok]at c1;have sp:Sz 131080 (num p:Int):=hsp.mono (by omega);refine aJ ?_;refine gH hw3 rfl ?_
     iterate 2 refine kO ?_
     refine Ge aa (l:=t) (l':=p) (i:=p.length) htk (by omega) rfl rfl rfl rfl rfl rfl rfl rfl ?_;refine kQ (c1) ?_;refine DP (cO 1 (by decide) (by decide)) rfl rfl rfl rfl rfl rfl rfl ?_;refine kN ?_;refine kI ?_
     iterate 2 refine kO ?_
     refine pm aa (l:=t) (l':=r) (i:=p.length) hdr (by omega) rfl rfl rfl rfl rfl rfl rfl rfl ?_;refine kN ?_;have hQ:eZ (dx s)=Bz (num p) r:=by rw[ht,zy (by rw[hp];exact hok),hp,hr]
     refine Gx (α:=Int × Int) (fun x=>⟨[(2, .box 0 0),(3, .d (dN .i64 0)),(4, .d (dB (bU s))),(6, .box 9007 0),(8, .box 10001 0)],[(0,some kK),(9007,some (aZ x.1)),(10001,some (aZ x.2))]⟩)
      (fun x=>eZ (dx s)=some (Rat.divInt x.1 x.2)∧Sz 131080 x.1∧Sz 131080 x.2∧0<x.2) (fun x hx s4 hw4=>?_) (fun R hR hret=>?_)
     ·refine Exists.elim (Exists.intro x.1 rfl:∃N,x.1=N) fun N hN=>Exists.elim (Exists.intro x.2 rfl:∃D,x.2=D) fun D hD=>?_
      rw[hN,hD]at hx hw4;have hP:=hx.1;have sN:=hx.2.1;have sD:=hx.2.2.1;have hD0:D≠0:=by have:=hx.2.2.2;omega
      refine aJ ?_;refine gH hw4 rfl ?_;cases hng:bU s
      ·refine kW ?_
       refine DP (qD sN sD (by omega) hD0 rfl) rfl rfl rfl rfl rfl rfl rfl ?_;refine kW ?_;exact bL (T:=TT) rfl (vV (Ay hl hP hng)).symm
      ·by_cases hnu:N=0
       ·refine kW ?_
        refine eX (T:=TT) rfl ?_ ?_
        ·exact C5 hnu
        refine kW ?_;exact gI (eh (yD hl hP hng hnu hD0)) (by kernel_rfl)
       ·refine kW ?_
        refine dC (T:=TT) rfl ?_ ?_
        ·exact su hnu
        refine kW ?_;refine kQ (l0 _) ?_;refine DP (qD (Sz.neg sN) sD (by omega) hD0 rfl) rfl rfl rfl rfl rfl rfl rfl ?_;refine kW ?_;exact bL (T:=TT) rfl (vV (AE hl hP hng hnu hD0)).symm
     ·cases r with
      |nil=>
       repeat(first|refine aJ (T:=TT) ?_|refine dh (T:=TT) ?_)
       refine ax (T:=TT) rfl ?_;refine kO ?_;refine aO rfl rfl rfl rfl rfl rfl rfl (di (a:=[]) (b:=[]) rfl) ?_;refine kW ?_;refine hR ((num p:Int),1) ⟨?_,sp,(Sz.small (z:=1) (by decide)).mono (by decide),Int.one_pos⟩ _ (weak ⟨rfl,rfl,rfl,rfl,rfl,trivial⟩ ⟨rfl,rfl,rfl,trivial⟩ rfl);rw[hQ];show some ((num p:Int):Rat)=_;exact congrArg some (kp ((num p:Int):Rat)).symm
      |cons c b=>
       have hsb:=au (c::b);have hbl:b.length+1≤65536:=by simp at hrl;omega
       repeat(first|refine aJ (T:=TT) ?_|refine dh (T:=TT) ?_)
       refine ax (T:=TT) rfl ?_;refine kO ?_;refine aO rfl rfl rfl rfl rfl rfl rfl (gE (a:=c::b) (b:=[]) (by simp)) ?_;refine kW ?_;refine ap aa (l:=c::b) (i:=0) rfl rfl rfl rfl rfl rfl rfl rfl rfl ?_
       by_cases h46:c=46
       ·refine kB true ?_ ?_
        ·exact decide_eq_true (by rw[h46];rfl)
        iterate 3 refine kO ?_
        by_cases hb:b=[]
        ·refine kB false ?_ ?_
         ·exact decide_eq_false (by rw[hsb,hb];simp)
         refine kW ?_;refine ap aa (l:=c::b) (i:=0) rfl rfl rfl rfl rfl rfl rfl rfl rfl ?_;refine kB false ?_ ?_
         ·exact decide_eq_false (by rw[h46];decide)
         refine kW ?_;refine Eq.mpr (congrFun hret _) ?_;exact gI (eh (ep (hQ.trans (DI h46 (fun h=>h.1 hb))))) (by kernel_rfl)
        ·have hb0:0<b.length:=List.length_pos_iff.2 hb
         refine kB true ?_ ?_
         ·exact decide_eq_true (by rw[hsb,List.length_cons];omega)
         iterate 3 refine kO ?_
         refine pm aa (l:=c::b) (l':=b) (i:=1) rfl (by simp) rfl rfl rfl rfl rfl rfl rfl rfl ?_;refine DP (jB (t:=b) (by omega)) rfl rfl rfl rfl rfl rfl rfl ?_
         iterate 2 refine kO ?_
         refine fj (v':= .int .i64 ((b.length:Nat))) rfl rfl rfl rfl ?_ ?_
         ·exact congrArg (Value.int .i64) (by rw[hsb,List.length_cons,IntWalk.i64_in _ (by omega)];omega)
         by_cases hd:∀x∈b,cX x
         ·refine kB true ?_ ?_
          ·exact decide_eq_true (by rw[iC.2 hd])
          refine kW ?_;refine DP (cO 10 (by decide) (by decide)) rfl rfl rfl rfl rfl rfl rfl ?_;refine kW ?_
          refine bh (Nat × Int × Int) (fun x=>x.1≤b.length∧x.2.1=((num (p++b.take x.1):Nat):Int)∧x.2.2=((10^x.1:Nat):Int)) (fun x=>⟨[(2, .box 0 0),(3, .d (dN .i64 0)),(4, .d (dB (bU s))),(6, .box 9007 0),(8, .box 10001 0),(9, .d (dL (c::b))),(10, .box 15001 0),(11, .d (dN .i64 ((x.1+1:Nat):Int)))],
           [(0,some kK),(9007,some (aZ x.2.1)),(10001,some (aZ x.2.2)),(15001,some (aZ 10))]⟩) (fun x=>b.length-x.1) (0,(num p:Int),1) ⟨Nat.zero_le _,by rw[List.take_zero,List.append_nil],rfl⟩
           (weak ⟨rfl,rfl,rfl,rfl,rfl,rfl,rfl,rfl,trivial⟩ ⟨rfl,rfl,rfl,rfl,trivial⟩ rfl) ?_
          rintro⟨k,N,D⟩ ⟨hk,hN,hD⟩;dsimp only at hk hN hD ⊢
          have hpk:∀x∈p++b.take k,cX x:=fun x hx=>by
           rcases List.mem_append.1 hx with h|h
           ·exact hpd x h
           ·exact hd x (List.mem_of_mem_take h)
          have sN:Sz 131079 N:=by rw[hN];exact(eJ hpk).mono (by rw[List.length_append,List.length_take];omega)
          have sD:Sz 65538 D:=by rw[hD];exact C0 (show k<65538 by omega)
          refine kI ?_
          iterate 3 refine kO ?_
          by_cases hlt:k<b.length
          ·refine kB true ?_ ?_
           ·exact decide_eq_true (by rw[hsb,List.length_cons];omega)
           refine Exists.elim (Exists.intro b[k] rfl:∃y,b[k]=y) fun y hy=>?_
           have hyk:b[k]? =some y:=by rw[List.getElem?_eq_getElem hlt,hy]
           have hyd:cX y:=hd y (List.mem_of_getElem? hyk);have hyn:48≤y.toNat∧y.toNat≤57:=hyd;have hdv:dv y=y.toNat-48:=rfl;have s10:Sz 1 (10:Int):=Sz.small (by decide);have sM:Sz 131080 (N*10):=(Sz.mul sN s10).mono (by omega)
           have hnum:((num (p++b.take (k+1)):Nat):Int)=N*10+(dv y:Nat):=by
            rw[List.take_succ_eq_append_getElem hlt,← List.append_assoc,gx,hy,hN];omega
           refine kW ?_;refine DP (eP (sN.fit (by decide)) (s10.fit (by decide))) rfl rfl rfl rfl rfl rfl rfl ?_
           iterate 2 refine kO ?_
           refine ap aa (l:=c::b) (c:=y) (i:=k+1) (by rw[List.getElem?_cons_succ];exact hyk) rfl rfl rfl rfl rfl rfl rfl rfl ?_;refine fj (v':= .int .u8 ((dv y:Nat))) rfl rfl rfl rfl ?_ ?_
           ·exact congrArg (Value.int .u8) (by show IntKind.u8.wrap ((y.toNat:Int)-48)=_;rw[IntWalk.u8_in _ (by omega)];omega)
           refine fj (v':= .int .i64 ((dv y:Nat))) rfl rfl rfl rfl ?_ ?_
           ·exact congrArg (Value.int .i64) (by show IntKind.i64.wrap ((dv y:Nat):Int)=_;rw[IntWalk.i64_in _ (by omega)])
           refine DP (cO (dv y:Nat) (by omega) (by omega)) rfl rfl rfl rfl rfl rfl rfl ?_;refine DP (qf (sM.fit (by decide)) ((Sz.small (z:=((dv y:Nat):Int)) (by omega)).fit (by decide))) rfl rfl rfl rfl rfl rfl rfl ?_;refine kW ?_;refine DP (eP (sD.fit (by decide)) (s10.fit (by decide))) rfl rfl rfl rfl rfl rfl rfl ?_;refine kW ?_;refine⟨(k+1,N*10+(dv y:Nat),D*10),⟨hlt,hnum.symm,?_⟩,by dsimp only;omega,weak ⟨rfl,rfl,rfl,rfl,rfl,rfl,rfl,?_,trivial⟩ ⟨rfl,rfl,rfl,rfl,trivial⟩ rfl⟩
           ·show D*10=((10^(k+1):Nat):Int)
            rw[hD,Nat.pow_succ];omega
           ·exact bc (by omega) (by omega)
          ·refine kB false ?_ ?_
           ·exact decide_eq_false (by rw[hsb,List.length_cons];omega)
           refine kW ?_;have hkb:k=b.length:=by omega
           refine hR (N,D) ⟨?_,sN.mono (by decide),sD.mono (by decide),?_⟩ _ (weak ⟨rfl,rfl,rfl,rfl,rfl,trivial⟩ ⟨rfl,rfl,rfl,trivial⟩ rfl)
           ·rw[hN,hD,hkb,List.take_length,l6]
            exact hQ.trans (BI h46 ⟨hb,hd⟩)
           ·show 0<D
            rw[hD];have:0<10^k:=Nat.pow_pos (by decide)
            omega
         ·refine kB false ?_ ?_
          ·exact decide_eq_false (fun e=>hd (iC.1 (by omega)))
          refine kW ?_;refine ap aa (l:=c::b) (i:=0) rfl rfl rfl rfl rfl rfl rfl rfl rfl ?_;refine kB false ?_ ?_
          ·exact decide_eq_false (by rw[h46];decide)
          refine kW ?_;refine Eq.mpr (congrFun hret _) ?_;exact gI (eh (ep (hQ.trans (DI h46 (fun h=>hd h.2))))) (by kernel_rfl)
       ·refine kB false ?_ ?_
        ·exact decide_eq_false (BM (d:=46) h46)
        refine kW ?_;refine ap aa (l:=c::b) (i:=0) rfl rfl rfl rfl rfl rfl rfl rfl rfl ?_
        by_cases h47:c=47
        ·refine kB true ?_ ?_
         ·exact decide_eq_true (by rw[h47];rfl)
         iterate 3 refine kO ?_
         by_cases hb:b=[]
         ·refine kB false ?_ ?_
          ·exact decide_eq_false (by rw[hsb,hb];simp)
          refine kW ?_;refine Eq.mpr (congrFun hret _) ?_;exact gI (eh (ep (hQ.trans (rX h47 (fun h=>h.1.1 hb))))) (by kernel_rfl)
         ·have hb0:0<b.length:=List.length_pos_iff.2 hb
          refine kB true ?_ ?_
          ·exact decide_eq_true (by rw[hsb,List.length_cons];omega)
          iterate 3 refine kO ?_
          refine pm aa (l:=c::b) (l':=b) (i:=1) rfl (by simp) rfl rfl rfl rfl rfl rfl rfl rfl ?_;refine DP (jB (t:=b) (by omega)) rfl rfl rfl rfl rfl rfl rfl ?_
          iterate 2 refine kO ?_
          refine fj (v':= .int .i64 ((b.length:Nat))) rfl rfl rfl rfl ?_ ?_
          ·exact congrArg (Value.int .i64) (by rw[hsb,List.length_cons,IntWalk.i64_in _ (by omega)];omega)
          by_cases hd:∀x∈b,cX x
          ·refine kB true ?_ ?_
           ·exact decide_eq_true (by rw[iC.2 hd])
           iterate 3 refine kO ?_
           refine Exists.elim (Ai hb) fun d hd'=>Exists.elim hd' fun b' hbc=>?_
           refine ap aa (l:=c::b) (c:=d) (i:=1) (by rw[hbc];rfl) rfl rfl rfl rfl rfl rfl rfl rfl ?_
           by_cases h48:d=48
           ·refine kB false ?_ ?_
            ·exact(by rw[h48];rfl)
            refine kW ?_;refine Eq.mpr (congrFun hret _) ?_
            exact gI (eh (ep (hQ.trans (rX h47 (fun h=>by
             have h1:=h.1;rcases h1.2.2 with h2|h2
             ·exact h2 d b' hbc h48
             ·have:b'=[]:=by rw[hbc]at h2;simpa using h2.1
              exact h.2.1 (by rw[hbc,this,h48];rfl)))))) (by kernel_rfl)
           ·refine kB true ?_ ?_
            ·exact(by simpa using BM (d:=48) h48)
            have hob:ic false b:=⟨hb,hd, .inl fun x y e=>by rw[hbc]at e;cases e;exact h48⟩;have hnb:0<num b:=uA hd hbc h48
            have c2:=mG b;rw[qn hd (by omega),if_pos hob]at c2;have sb:Sz 131080 (num b:Int):=(eJ hd).mono (by omega);refine kW ?_;refine pm aa (l:=c::b) (l':=b) (i:=1) rfl (by simp) rfl rfl rfl rfl rfl rfl rfl rfl ?_;refine kQ (c2) ?_
            by_cases hn1:num b=1
            ·refine DP (dq (decide_eq_true (show(num b:Int)=1 by omega))) rfl rfl rfl rfl rfl rfl rfl ?_
             refine kW ?_;refine Eq.mpr (congrFun hret _) ?_;exact gI (eh (ep (hQ.trans (rX h47 (fun h=>h.2.2.1 hn1))))) (by kernel_rfl)
            ·refine DP (dq (decide_eq_false (show ¬(num b:Int)=1 by omega))) rfl rfl rfl rfl rfl rfl rfl ?_
             refine kW ?_;refine DP (fv (sp.fit (by decide)) (sb.fit (by decide)) (by rw[Int.natAbs_natCast,Int.natAbs_natCast])) rfl rfl rfl rfl rfl rfl rfl ?_;refine kW ?_
             by_cases hg:Nat.gcd (num p) (num b)=1
             ·refine DP (dq (decide_eq_true (show((Nat.gcd (num p) (num b):Nat):Int)=1 by omega))) rfl rfl rfl rfl rfl rfl rfl ?_
              refine kW ?_;exact hR ((num p:Int),(num b:Int)) ⟨hQ.trans (CE h47 ⟨hob,by omega,hn1,hg⟩),sp,sb,by dsimp only;omega⟩ _ (weak ⟨rfl,rfl,rfl,rfl,rfl,trivial⟩ ⟨rfl,rfl,rfl,trivial⟩ rfl)
             ·refine DP (dq (decide_eq_false (show ¬((Nat.gcd (num p) (num b):Nat):Int)=1 by omega))) rfl rfl rfl rfl rfl rfl rfl ?_
              refine kW ?_;refine Eq.mpr (congrFun hret _) ?_;exact gI (eh (ep (hQ.trans (rX h47 (fun h=>hg h.2.2.2))))) (by kernel_rfl)
          ·refine kB false ?_ ?_
           ·exact decide_eq_false (fun e=>hd (iC.1 (by omega)))
           refine kW ?_;refine Eq.mpr (congrFun hret _) ?_;exact gI (eh (ep (hQ.trans (rX h47 (fun h=>hd h.1.2.1))))) (by kernel_rfl)
        ·refine kB false ?_ ?_
         ·exact decide_eq_false (BM (d:=47) h47)
         refine kW ?_;refine Eq.mpr (congrFun hret _) ?_;exact gI (eh (ep (hQ.trans (Gb h46 h47)))) (by kernel_rfl)
    ·refine kI ?_
     refine kO ?_
     by_cases hp0:p=[]
     ·refine kB true ?_ ?_
      ·exact decide_eq_true (by rw[hp0];rfl)
      refine kW ?_;refine Eq.mpr (congrFun hret _) ?_;exact gI (eh (ep (hbad (fun h=>h.1 hp0)))) (by kernel_rfl)
     ·have hpp:0<p.length:=List.length_pos_iff.2 hp0
      refine kE ?_
      iterate 2 refine kO ?_
      by_cases h1:1<p.length
      ·refine kT ?_
       iterate 2 refine kO ?_
       obtain⟨c,p',hc⟩:∃c p',p=c::p':=by
        cases p with
        |nil=>exact absurd rfl hp0
        |cons c p'=>exact⟨c,p',rfl⟩
       have ht0:t[0]? =some c:=by rw[← hpr,hc];rfl
       refine ap aa (l:=t) (i:=0) ht0 rfl rfl rfl rfl rfl rfl rfl rfl ?_
       by_cases h48:c=48
       ·refine kB true ?_ ?_
        ·exact decide_eq_true (by rw[h48];rfl)
        refine kW ?_;refine Eq.mpr (congrFun hret _) ?_
        exact gI (eh (ep (hbad (fun h=>by
         have:=((t6 hpd).1 h).2 h1;rw[hc,h48]at this;exact this rfl)))) (by kernel_rfl)
       ·refine kB false ?_ ?_
        ·exact decide_eq_false (fun e=>h48 (UInt8.toNat_inj.1 (by have:(48:UInt8).toNat=48:=rfl;omega)))
        refine kW ?_;exact hR ((t6 hpd).2 ⟨hp0,fun _ e=>by rw[hc]at e;simp at e;exact h48 e⟩) _ (weak ⟨rfl,rfl,rfl,rfl,rfl,trivial⟩ ⟨rfl,trivial⟩ rfl)
      ·refine kE ?_
       refine kW ?_;exact hR ((t6 hpd).2 ⟨hp0,fun h=>absurd h h1⟩) _ (weak ⟨rfl,rfl,rfl,rfl,rfl,trivial⟩ ⟨rfl,trivial⟩ rfl)
   ·refine aJ ?_
    refine gH hw1 rfl ?_;refine kN ?_;cases hn:bU s
    ·refine dC (T:=TT) rfl ?_ ?_
     ·exact rfl
     refine bT ?_
     have e:t=s:=by
      rw[← ht];have:=Er s;rw[hn]at this;exact this
     rw[e,hn]at hR;exact hR _ (weak ⟨rfl,rfl,rfl,rfl,trivial⟩ ⟨rfl,trivial⟩ rfl)
    ·refine eX (T:=TT) rfl ?_ ?_
     ·exact rfl
     have e:s=45::t:=by
      have:=Er s;rw[hn,ht]at this;exact this.symm
     refine kI ?_;refine kO ?_;refine pm aa (l:=s) (l':=t) (i:=1) (by rw[e];rfl) (by rw[e];simp) rfl rfl rfl rfl rfl rfl rfl rfl ?_;refine kN ?_;rw[hn]at hR;exact hR _ (weak ⟨rfl,rfl,rfl,rfl,trivial⟩ ⟨rfl,trivial⟩ rfl)
  ·refine kI ?_
   refine kO ?_
   by_cases h0:s=[]
   ·refine aO rfl rfl rfl rfl rfl rfl rfl (gk (a:=s) (b:=[]) h0) ?_
    refine kW ?_;have:bU s=false:=by rw[h0];rfl
    rw[this]at hR;exact hR _ (weak ⟨rfl,rfl,rfl,rfl,trivial⟩ ⟨rfl,trivial⟩ rfl)
   ·obtain⟨c,s',hc⟩:∃c s',s=c::s':=by
     cases s with
     |nil=>exact absurd rfl h0
     |cons c s'=>exact⟨c,s',rfl⟩
    refine aO rfl rfl rfl rfl rfl rfl rfl (ee (a:=s) (b:=[]) h0) ?_
    iterate 2 refine kO ?_
    refine ap aa (l:=s) (i:=0) (by rw[hc];rfl) rfl rfl rfl rfl rfl rfl rfl rfl ?_
    by_cases h45:c=45
    ·refine kB true ?_ ?_
     ·exact decide_eq_true (by rw[h45];rfl)
     refine kW ?_;have:bU s=true:=by rw[hc,h45];rfl
     rw[this]at hR;exact hR _ (weak ⟨rfl,rfl,rfl,rfl,trivial⟩ ⟨rfl,trivial⟩ rfl)
    ·refine kB false ?_ ?_
     ·exact decide_eq_false (fun e=>h45 (UInt8.toNat_inj.1 (by have:(45:UInt8).toNat=45:=rfl;omega)))
     refine kW ?_;have:bU s=false:=by rw[hc];exact beq_eq_false_iff_ne.2 h45
     rw[this]at hR;exact hR _ (weak ⟨rfl,rfl,rfl,rfl,trivial⟩ ⟨rfl,trivial⟩ rfl)
 ·refine kU aa ac Tryz.func184 ?_
  refine kW ?_;refine eX (T:=TT) rfl ?_ ?_
  ·exact decide_eq_true (by omega)
  refine kW ?_;exact gI (eh (by unfold bF;rw[if_neg hl])) (by kernel_rfl)
theorem BP {t:List UInt8} {q:Rat} (hl:t.length≤500) (h:eZ t=some q):iS 510 q:=by
 by_cases hok:ic false (ey t)
 ·rw[zy hok]at h
  have hpl:=vp t
  have hrl:(ey t).length+(iw t).length=t.length:=by
   have:=congrArg List.length (ii t);rw[List.length_append]at this;omega
  have sp:Sz (ey t).length (num (ey t):Int):=eJ (kb t);generalize iw t=r at h hrl;generalize num (ey t)=n at h sp;cases r with
  |nil=>
   have:q=((n:Int):Rat):=by
    have h:some ((n:Int):Rat)=some q:=h;exact(Option.some.inj h).symm
   subst this;exact⟨sp.mono (by omega),(Sz.small (z:=1) (by decide)).mono (by decide)⟩
  |cons c b=>
   have hbl:(ey t).length+b.length≤499:=by simp at hrl;omega
   by_cases h46:c=46
   ·by_cases hb:b≠[]∧ ∀x∈b,cX x
    ·rw[BI h46 hb]at h
     cases h
     have sN:Sz 510 ((n*10^b.length+num b:Nat):Int):=by
      have h1:Sz 501 ((n:Int)*10^b.length):=Sz.of_pow sp (by omega);have h2:=Sz.add h1 ((eJ hb.2).mono (by omega));have h3:Sz 510 ((n:Int)*10^b.length+(num b:Int)):=Sz.mono h2 (by decide);rw[Int.natCast_add,Int.natCast_mul,Int.natCast_pow];exact h3
     have sD:Sz 510 ((10^b.length:Nat):Int):=C0 (by omega);have:0<10^b.length:=Nat.pow_pos (by decide)
     exact .divInt sN sD (by omega)
    ·rw[DI h46 hb]at h;cases h
   ·by_cases h47:c=47
    ·by_cases hb:ic false b∧num b≠0∧num b≠1∧Nat.gcd n (num b)=1
     ·rw[CE h47 hb]at h
      cases h;exact .divInt (sp.mono (by omega)) ((eJ hb.1.2.1).mono (by omega)) (by have:=hb.2.1;omega)
     ·rw[rX h47 hb]at h;cases h
    ·rw[Gb h46 h47]at h;cases h
 ·unfold eZ at h
  rw[if_neg hok]at h;cases h
theorem ip {s:List UInt8} {q:Rat} (hl5:s.length≤500) (h:bF s=some q):iS 510 q:=by
 unfold bF at h
 split at h
 ·rename_i hl
  have hd:=ll s;cases hp:eZ (dx s)with
  |none=>rw[hp]at h;simp at h
  |some r=>
   have hs:=BP (by omega) hp;rw[hp]at h
   simp only at h
   split at h
   ·split at h
    ·cases h
    ·cases h;exact hs.neg
   ·cases h;exact hs
 ·cases h
theorem Bl (t u:Tk) (r:List Tk) (a:Int) (ht:t.1=2) (hT:cK (t::u::r)):Rd 183 (t::u::r) a (eg t (u::r)):=by
 have ht5:=hT.head.2 ht;have hw:cK (u::r):=hT.tail (by omega);cases hq:bF t.2.1 with
 |none=>
  have hP:eg t (u::r)= .error (t.2.2,2):=by unfold eg;rw[hq]
  have cp:=wh hq;rw[hP];refine⟨by decide, .mk 0 false [] false [] [] [],t::u::r,?_,hT⟩;refine ai aa ac Tryz.func183 rfl rfl rfl rfl rfl (ct) ?_;refine kR ?_;refine kI ?_;refine kO ?_;refine kD (bA t (u::r) a 0) ?_;refine kO ?_;refine kQ (cp) ?_;refine kD (jc t (u::r) a 2) ?_;refine kW ?_;exact⟨⟨_,rfl,rfl⟩,⟨rfl,trivial⟩⟩
 |some q=>
  have cp:=yF hq;obtain⟨tx,cd,_⟩:=kH (ip ht5 hq) (by decide);cases hd:fe q with
  |none=>
   have hP:eg t (u::r)= .error (t.2.2,3):=by unfold eg;rw[hq];dsimp only;rw[hd]
   rw[hd]at cd;have cd:ab Tryz.prog 58 [dQ q] (.tup [dL tx,dB false]):=cd;rw[hP];refine⟨by decide, .mk 0 false [] false [] [] [],t::u::r,?_,hT⟩;refine ai aa ac Tryz.func183 rfl rfl rfl rfl rfl (ct) ?_;refine kR ?_;refine kI ?_;refine kO ?_;refine kD (bA t (u::r) a 0) ?_;refine kO ?_;refine kQ (cp) ?_;refine kQ (cd) ?_;refine kD (jc t (u::r) a 3) ?_;refine kW ?_;exact⟨⟨_,rfl,rfl⟩,⟨rfl,trivial⟩⟩
  |some z=>
   rw[hd]at cd;have cd:ab Tryz.prog 58 [dQ q] (.tup [dL tx,dB true]):=cd
   by_cases h1:u.1=1
   ·have hP:eg t (u::r)= .ok (.num q u.2.1,r):=by unfold eg;rw[hq];dsimp only;rw[hd];dsimp only;rw[if_pos h1]
    rw[hP];refine⟨?_,hw.tail (by omega)⟩;refine ai aa ac Tryz.func183 rfl rfl rfl rfl rfl (ct) ?_;refine kR ?_;refine kI ?_;refine kO ?_;refine kD (bA t (u::r) a 0) ?_;refine kO ?_;refine kQ (cp) ?_;refine kQ (cd) ?_;refine kD (fo t (u::r) a 0) ?_;refine kW ?_;refine kD (bA u r a 0) ?_;refine kO ?_;refine kX ?_;refine kD (fo u r a 0) ?_;refine kW ?_;exact⟨⟨_,rfl,rfl⟩,⟨rfl,trivial⟩⟩
   ·have hP:eg t (u::r)= .ok (.num q [],u::r):=by unfold eg;rw[hq];dsimp only;rw[hd];dsimp only;rw[if_neg h1]
    rw[hP];refine⟨?_,hw⟩;refine ai aa ac Tryz.func183 rfl rfl rfl rfl rfl (ct) ?_;refine kR ?_;refine kI ?_;refine kO ?_;refine kD (bA t (u::r) a 0) ?_;refine kO ?_;refine kQ (cp) ?_;refine kQ (cd) ?_;refine kD (fo t (u::r) a 0) ?_;refine kW ?_;refine kD (bA u r a 0) ?_;refine kO ?_;refine kY ?_;exact⟨⟨_,rfl,rfl⟩,⟨rfl,trivial⟩⟩
def mC:Bool→List UInt8
 |false=>[43,45]
 |true=>[42,47]
def GV:Bool→List (Value × Value)
 |false=>[(.string ⟨#[43]⟩, .int .i64 4),(.string ⟨#[45]⟩, .int .i64 5)]
 |true=>[(.string ⟨#[42]⟩, .int .i64 6),(.string ⟨#[47]⟩, .int .i64 7)]
theorem Cr (a b c:UInt8):(0≤Lib.indexByte [a,b] c)↔(c=a∨c=b):=by
 rw[nJ]
 simp
theorem xS (a c:UInt8):(0≤Lib.indexByte [a] c)↔c=a:=by
 rw[nJ]
 simp
theorem FL (two:Bool) (t:Tk) (r:List Tk):(decide (t.1=4) && yc (mC two) t)=(eF two (t::r)).isSome:=by
 obtain⟨k,x,p⟩:=t
 by_cases h4:k=4
 ·subst h4
  match x with
  | []=>cases two<;>rfl
  |c::d::y=>cases two<;>rfl
  | [c]=>
   cases two
   ·show decide (0≤Lib.indexByte [43,45] c)=_
    by_cases h1:c=43
    ·subst h1;rfl
    ·by_cases h2:c=45
     ·subst h2;rfl
     ·rw[decide_eq_false (by rw[Cr];simp[h1,h2])]
      simp[eF,iT,h1,h2]
   ·show decide (0≤Lib.indexByte [42,47] c)=_
    by_cases h1:c=42
    ·subst h1;rfl
    ·by_cases h2:c=47
     ·subst h2;rfl
     ·rw[decide_eq_false (by rw[Cr];simp[h1,h2])]
      simp[eF,iT,h1,h2]
 ·simp[eF,h4]
theorem jh {two:Bool} {t:Tk} {r r2:List Tk} {k:B4} (h:eF two (t::r)=some (k,r2)):r2=r∧t.1=4∧ ∃c,t.2.1=[c]∧Iu ⟨#[c]⟩ (GV two)=some (.int .i64 k.code):=by
 obtain⟨k4,x,p⟩:=t
 simp only[eF]at h
 split at h
 ·rename_i h4
  split at h
  ·rename_i k' hk
   cases h;refine⟨rfl,h4,?_⟩
   match x,hk with
   | [],hk=>cases two<;>cases hk
   |c::d::y,hk=>cases two<;>cases hk
   | [c],hk=>
    cases two
    ·simp only[iT]at hk
     split at hk
     ·rename_i hc;cases hk;subst hc;exact⟨_,rfl,rfl⟩
     ·split at hk
      ·rename_i hc;cases hk;subst hc;exact⟨_,rfl,rfl⟩
      ·cases hk
    ·simp only[iT]at hk
     split at hk
     ·rename_i hc;cases hk;subst hc;exact⟨_,rfl,rfl⟩
     ·split at hk
      ·rename_i hc;cases hk;subst hc;exact⟨_,rfl,rfl⟩
      ·cases hk
  ·cases h
 ·cases h
theorem ul (c:UInt8) (t:Tk) (r:List Tk):(decide (t.1=4) && yc [c] t)=(a7 c (t::r)).isSome:=by
 obtain⟨k,x,p⟩:=t
 by_cases h4:k=4
 ·subst h4
  match x with
  | []=>simp[yc,a7]
  |b::d::y=>simp[yc,a7]
  | [b]=>
   show decide (0≤Lib.indexByte [c] b)=_
   by_cases h:b=c
   ·subst h;rw[decide_eq_true ((xS b b).2 rfl)];simp[a7]
   ·rw[decide_eq_false (by rw[xS];exact h)];simp[a7,h]
 ·simp[a7,h4]
theorem jF {c:UInt8} {t:Tk} {r r2:List Tk} (h:a7 c (t::r)=some r2):r2=r∧t.1=4:=by
 simp only[a7]at h
 split at h
 ·rename_i h1;cases h;exact⟨rfl,h1.1⟩
 ·cases h
def II (fid:FuncId) (ts:List Tk) (a:Int) (Y:Rx × List Tk):gS→Prop
 | .ok (e,r)=>aw Tryz.prog fid [.box 900 0] [(900,gg ts a 0)] (.v (.one (dE e))) [(900,gg r a 0)]∧cK r
 | .error (p,c)=>c≠0∧aw Tryz.prog fid [.box 900 0] [(900,gg ts a 0)] (.v (.one (dR Y.1))) [(900,gg Y.2 p c)]∧cK Y.2
theorem Aj {fid:FuncId} {a:Int} {g:List Tk→Option gS} (h:∀ts x,cK ts→g ts=some x→Rd fid ts a x):∃Y:List Tk→Rx × List Tk,∀ts x,cK ts→g ts=some x→II fid ts a (Y ts) x:=by
 have:∀ts:List Tk,∃Y:Rx × List Tk,∀x,cK ts→g ts=some x→II fid ts a Y x:=fun ts=>by
  by_cases hw:cK ts
  ·cases hg:g ts with
   |none=>exact⟨(.mk 0 false [] false [] [] [],[]),fun x _ hx=>by cases hx⟩
   |some x=>
    have hx:=h ts x hw hg;cases x with
    |ok y=>exact⟨(.mk 0 false [] false [] [] [],[]),fun x _ hx'=>by cases hx';exact hx⟩
    |error y=>
     obtain⟨hc,y1,ts1,h1,h2⟩:=hx;exact⟨(y1,ts1),fun x _ hx'=>by cases hx';exact⟨hc,h1,h2⟩⟩
  ·exact⟨(.mk 0 false [] false [] [] [],[]),fun x hw'=>absurd hw' hw⟩
 obtain⟨Y,hY⟩:=Classical.axiomOfChoice this;exact⟨Y,fun ts x hw hx=>hY ts x hw hx⟩
noncomputable def gB (two:Bool) (Y:List Tk→Rx × List Tk):Nat→Ex→List Tk→Rx × List Tk
 |0,e,ts=>(rx e,ts)
 |f+1,e,ts=>match eF two ts with
  |some (k,r)=>match pP f (d4 two) r with
   |some (.ok (e2,r2))=>gB two Y f (.bin k e e2) r2
   |_=>(.mk k.code false [] false [] [] [rx e,(Y r).1],(Y r).2)
  |none=>(rx e,ts)
inductive LS where
 |run (f:Nat) (e:Ex) (ts:List Tk)
 |bad (y:Rx) (ts:List Tk) (p c:Int)
def LS.c1:LS→List AV
 | .run _ e _=>aE e
 | .bad y _ _ _=>aR y
def LS.c2 (a:Int):LS→List AV
 | .run _ _ ts=>gg ts a 0
 | .bad _ ts p c=>gg ts p c
def bS (two:Bool) (fop:FuncId) (c1 c2:List AV):AS:=⟨[(0, .box 900 0),(1, .d (dL (mC two))),(2, .mp (GV two)),(3, .clo (.func fop) [.box 900 0] []),(8, .box 0 0),(9, .box 1002 0)],[(0,some (ae 0 false [] false [] [] 0 [])),(1002,some c1),(900,some c2)]⟩
abbrev Gu (two:Bool) (fop:FuncId):List TV:=[.box 900 0, .d (dL (mC two)), .mp (GV two), .clo (.func fop) [.box 900 0] []]
def Jz (two:Bool) (fop:FuncId) (ts:List Tk) (a:Int):gS→Prop
 | .ok (e,r)=>aw Tryz.prog 70 (Gu two fop) [(900,gg ts a 0)] (.v (.one (dE e))) [(900,gg r a 0)]∧cK r
 | .error (p,c)=>c≠0∧ ∃y ts',aw Tryz.prog 70 (Gu two fop) [(900,gg ts a 0)] (.v (.one (dR y))) [(900,gg ts' p c)]∧cK ts'
def LS.I (two:Bool) (Y:List Tk→Rx × List Tk) (f:Nat) (a:Int) (D:DV) (B:List AV):LS→Prop
 | .run f' e ts=>cK ts∧f'≤f∧ ∃x',pP f' (.more two e) ts=some x'∧(match x' with
  | .ok (e',r')=>D=dE e'∧B=gg r' a 0
  | .error (p,c)=>D=dR (gB two Y f' e ts).1∧B=gg (gB two Y f' e ts).2 p c)
 | .bad y ts p c=>cK ts∧c≠0∧D=dR y∧B=gg ts p c
def LS.mu:LS→Nat
 | .run f _ _=>f+1
 | .bad _ _ _ _=>0
theorem nE (k:B4) (e:Ex) (y:Rx):aR (.mk k.code false [] false [] [] [rx e,y])=[.val (.int .i64 k.code)]++kK++[.val (vL []), .sl 2 (aE e++aR y)]:=by
 show [.val (.int .i64 k.code)]++Cp false [] false []++[.val (vL []), .sl 2 (aR (rx e)++(aR y++[]))]=_;rw[List.append_nil];rfl
theorem F1 (two:Bool) (fop:FuncId) (f:Nat) (a:Int) (Y:List Tk→Rx × List Tk) (hY:∀ts x,cK ts→pP f (d4 two) ts=some x→II fop ts a (Y ts) x) (ts:List Tk) (hT:cK ts) {e0:Ex} {r0:List Tk} (h0:pP f (d4 two) ts=some (.ok (e0,r0)))
 {D:DV} {B:List AV} (hB:B.length=3) (hI:LS.I two Y f a D B (.run f e0 r0)):aw Tryz.prog 70 (Gu two fop) [(900,gg ts a 0)] (.v (.one D)) [(900,B)]:=by
 obtain⟨c0,hw0⟩:=hY ts _ hT h0;obtain⟨t,r,hr⟩:=hw0.ne;obtain⟨o1,na1,xs1,nb1,ys1,nm1,n1,cs1,hA⟩:=ar e0;have hE:dE e0= .agg (ae o1 na1 xs1 nb1 ys1 nm1 n1 cs1):=congrArg DV.agg hA;rw[hE]at c0;refine ai aa ac Tryz.func70 rfl rfl rfl rfl rfl ((fi.one (Nat.le_of_eq hB.symm))) ?_;refine kW ?_;refine kD (c0) ?_;refine kW ?_
 refine bh LS (LS.I two Y f a D B) (fun x=>bS two fop x.c1 (x.c2 a)) LS.mu (.run f e0 r0) hI (by
  refine Eq.mpr (congrArg (fun c=>bt _ (bS two fop c (gg r0 a 0))) hA) ?_;exact weak ⟨rfl,rfl,rfl,rfl,rfl,rfl,trivial⟩ ⟨rfl,rfl,rfl,trivial⟩ rfl) ?_
 intro x hx;cases x with
 |bad y ts1 p c=>
  obtain⟨hw,hc,rfl,rfl⟩:=hx;obtain⟨t,r,rfl⟩:=hw.ne;obtain⟨o1,na1,xs1,nb1,ys1,nm1,n1,cs1,hA⟩:=aX y;have cis:=pK (mC two) t r p c hw.head.1;rw[decide_eq_false hc,Bool.false_and]at cis;rw[show dR y= .agg (ae o1 na1 xs1 nb1 ys1 nm1 n1 cs1) from congrArg DV.agg hA];show gm _ _ _ _ _ (bS two fop (aR y) (gg (t::r) p c));rw[hA];unfold bS;refine kW ?_;refine kD (cis) ?_;refine kW ?_;exact⟨⟨_,rfl,rfl⟩,⟨rfl,trivial⟩⟩
 |run f' e ts1=>
  obtain⟨hw,hf,x',hx,hD⟩:=hx;obtain⟨t,r,rfl⟩:=hw.ne;obtain⟨o1,na1,xs1,nb1,ys1,nm1,n1,cs1,hA⟩:=ar e;have cis:=pK (mC two) t r a 0 hw.head.1;rw[decide_eq_true rfl,Bool.true_and,FL]at cis;show gm _ _ _ _ _ (bS two fop (aE e) (gg (t::r) a 0));rw[hA];cases f' with
  |zero=>cases hx
  |succ f'=>
  rw[cu]at hx;cases ho:eF two (t::r)with
  |none=>
   rw[ho]at hx cis;cases hx;obtain⟨rfl,rfl⟩:=hD;rw[show dE e= .agg (ae o1 na1 xs1 nb1 ys1 nm1 n1 cs1) from congrArg DV.agg hA];have cis:aw Tryz.prog 109 [.box 900 0, .d (dL (mC two))] [(900,gg (t::r) a 0)] (.v (.one (dB false))) [(900,gg (t::r) a 0)]:=cis;unfold bS;refine kW ?_;refine kD (cis) ?_;refine kW ?_;exact⟨⟨_,rfl,rfl⟩,⟨rfl,trivial⟩⟩
  |some q=>
   obtain⟨k,r2⟩:=q;obtain⟨rfl,h4,c,hc,hl⟩:=jh ho;rw[ho]at hx cis;have cis:aw Tryz.prog 109 [.box 900 0, .d (dL (mC two))] [(900,gg (t::r2) a 0)] (.v (.one (dB true))) [(900,gg (t::r2) a 0)]:=cis;have hw2:cK r2:=hw.tail (by omega);obtain⟨k4,tx,p0⟩:=t;dsimp only at h4 hc;subst h4 hc;dsimp only at hx;cases hy:pP f' (d4 two) r2 with
   |none=>rw[hy]at hx;cases hx
   |some y=>
    have cy:=hY r2 y hw2 (gA (by omega) hy);rw[hy]at hx;cases y with
    |error z=>
     obtain⟨p,c1⟩:=z;cases hx;obtain⟨hc1,cy,hw3⟩:=cy
     have hg:gB two Y (f'+1) e ((4,[c],p0)::r2)=(.mk k.code false [] false [] [] [rx e,(Y r2).1],(Y r2).2):=by
      rw[gB,ho];dsimp only;rw[hy]
     rw[hg]at hD;obtain⟨o2,na2,xs2,nb2,ys2,nm2,n2,cs2,hA2⟩:=aX (Y r2).1;have hbad:=nE k e (Y r2).1;rw[hA,hA2]at hbad;rw[show dR (Y r2).1= .agg (ae o2 na2 xs2 nb2 ys2 nm2 n2 cs2) from congrArg DV.agg hA2]at cy;generalize hY2:(Y r2).2=ts2 at *;unfold bS;refine kW ?_;refine kD (cis) ?_;refine kW ?_;refine kD (fo (4,[c],p0) r2 a 0) ?_;refine kO ?_;refine u3 Tryz.underlying106 Tryz.underlying9 hl rfl rfl rfl rfl rfl rfl rfl ?_;refine kW ?_;refine kD (cy) ?_;refine kW ?_;refine⟨.bad (.mk k.code false [] false [] [] [rx e,(Y r2).1]) ts2 p c1,⟨hw3,hc1,hD.1,hD.2⟩,Nat.succ_pos _,?_⟩;refine Eq.mpr (congrArg (fun c=>bt _ (bS two fop c (gg ts2 p c1))) hbad) ?_;exact weak ⟨rfl,rfl,rfl,rfl,rfl,rfl,trivial⟩ ⟨rfl,rfl,rfl,trivial⟩ rfl
    |ok z=>
     obtain⟨e2,r3⟩:=z;obtain⟨cy,hw3⟩:=cy;have hx:pP f' (.more two (.bin k e e2)) r3=some x':=hx
     have hg:gB two Y (f'+1) e ((4,[c],p0)::r2)=gB two Y f' (.bin k e e2) r3:=by
      rw[gB,ho];dsimp only;rw[hy]
     rw[hg]at hD;obtain⟨o2,na2,xs2,nb2,ys2,nm2,n2,cs2,hA2⟩:=ar e2;have hbin:=fL k e e2;rw[hA,hA2]at hbin;rw[show dE e2= .agg (ae o2 na2 xs2 nb2 ys2 nm2 n2 cs2) from congrArg DV.agg hA2]at cy;unfold bS;refine kW ?_;refine kD (cis) ?_;refine kW ?_;refine kD (fo (4,[c],p0) r2 a 0) ?_;refine kO ?_;refine u3 Tryz.underlying106 Tryz.underlying9 hl rfl rfl rfl rfl rfl rfl rfl ?_;refine kW ?_;refine kD (cy) ?_;refine kW ?_;refine⟨.run f' (.bin k e e2) r3,⟨hw3,by omega,x',hx,hD⟩,by show f'+1<f'+1+1;omega,?_⟩;refine Eq.mpr (congrArg (fun c=>bt _ (bS two fop c (gg r3 a 0))) hbin) ?_;exact weak ⟨rfl,rfl,rfl,rfl,rfl,rfl,trivial⟩ ⟨rfl,rfl,rfl,trivial⟩ rfl
theorem Ct {two:Bool} {fop:FuncId} {f:Nat} {a:Int} {Y:List Tk→Rx × List Tk} (hY:∀ts x,cK ts→pP f (d4 two) ts=some x→II fop ts a (Y ts) x):∀(f':Nat) (e:Ex) (ts:List Tk) (e':Ex) (r':List Tk),f'≤f→cK ts→pP f' (.more two e) ts=some (.ok (e',r'))→cK r'
 |0,_,_,_,_,_,_,h=>by cases h
 |f'+1,e,ts,e',r',hf,hw,h=>by
  rw[cu]at h;obtain⟨t,r,rfl⟩:=hw.ne;cases ho:eF two (t::r)with
  |none=>rw[ho]at h;cases h;exact hw
  |some q=>
   obtain⟨k,r2⟩:=q;obtain⟨rfl,h4,_⟩:=jh ho;have hw2:cK r2:=hw.tail (by omega);rw[ho]at h;dsimp only at h ⊢;cases hy:pP f' (d4 two) r2 with
   |none=>rw[hy]at h;cases h
   |some y=>
    have cy:=hY r2 y hw2 (gA (by omega) hy);rw[hy]at h;cases y with
    |error z=>cases h
    |ok z=>exact Ct hY f' _ _ e' r' (by omega) cy.2 h
theorem zm {two:Bool} {fop:FuncId} {f:Nat} {a:Int} {Y:List Tk→Rx × List Tk} (hY:∀ts x,cK ts→pP f (d4 two) ts=some x→II fop ts a (Y ts) x):∀(f':Nat) (e:Ex) (ts:List Tk) (p:Nat) (c:Int),f'≤f→cK ts→pP f' (.more two e) ts=some (.error (p,c))→c≠0∧cK (gB two Y f' e ts).2
 |0,_,_,_,_,_,_,h=>by cases h
 |f'+1,e,ts,p,c,hf,hw,h=>by
  rw[cu]at h;rw[gB];obtain⟨t,r,rfl⟩:=hw.ne;cases ho:eF two (t::r)with
  |none=>rw[ho]at h;cases h
  |some q=>
   obtain⟨k,r2⟩:=q;obtain⟨rfl,h4,_⟩:=jh ho;have hw2:cK r2:=hw.tail (by omega);rw[ho]at h;dsimp only at h ⊢;cases hy:pP f' (d4 two) r2 with
   |none=>rw[hy]at h;cases h
   |some y=>
    have cy:=hY r2 y hw2 (gA (by omega) hy);rw[hy]at h;cases y with
    |error z=>cases h;exact⟨cy.1,cy.2.2⟩
    |ok z=>exact zm hY f' _ _ p c (by omega) cy.2 h
theorem sK (two:Bool) (fop:FuncId) (f:Nat) (a:Int) (hop:∀ts x,cK ts→pP f (d4 two) ts=some x→Rd fop ts a x) (ts:List Tk) (x:gS) (hT:cK ts) (hx:(match pP f (d4 two) ts with
  |some (.ok (e,r))=>pP f (.more two e) r
  |y=>y)=some x):Jz two fop ts a x:=by
 obtain⟨Y,hY⟩:=Aj hop;cases h0:pP f (d4 two) ts with
 |none=>rw[h0]at hx;cases hx
 |some y0=>
  rw[h0]at hx;have c0:=hY ts y0 hT h0;cases y0 with
  |error z=>
   cases hx;obtain⟨p,c⟩:=z;obtain⟨hc,c0,hw⟩:=c0;refine⟨hc,(Y ts).1,(Y ts).2,?_,hw⟩;generalize(Y ts).1=y at *;generalize(Y ts).2=ts' at *;obtain⟨t,r,rfl⟩:=hw.ne;obtain⟨o1,na1,xs1,nb1,ys1,nm1,n1,cs1,hA⟩:=aX y;rw[show dR y= .agg (ae o1 na1 xs1 nb1 ys1 nm1 n1 cs1) from congrArg DV.agg hA]at c0 ⊢;have cis:=pK (mC two) t r p c hw.head.1;rw[decide_eq_false hc,Bool.false_and]at cis;refine ai aa ac Tryz.func70 rfl rfl rfl rfl rfl (ct) ?_;refine kW ?_;refine kD (c0) ?_;refine kW ?_;refine bh Unit (fun _=>True) (fun _=>bS two fop (ae o1 na1 xs1 nb1 ys1 nm1 n1 cs1) (gg (t::r) p c)) (fun _=>0) () trivial (weak ⟨rfl,rfl,rfl,rfl,rfl,rfl,trivial⟩ ⟨rfl,rfl,rfl,trivial⟩ rfl) ?_;rintro _ _;unfold bS;refine kW ?_;refine kD (cis) ?_;refine kW ?_;exact⟨⟨_,rfl,rfl⟩,⟨rfl,trivial⟩⟩
  |ok z=>
   obtain⟨e,r⟩:=z;have hx:pP f (.more two e) r=some x:=hx;cases x with
   |ok w=>
    obtain⟨e',r'⟩:=w;exact⟨F1 two fop f a Y hY ts hT h0 (B:=gg r' a 0) rfl ⟨c0.2,Nat.le_refl _,_,hx,rfl,rfl⟩,Ct hY f e r e' r' (Nat.le_refl _) c0.2 hx⟩
   |error w=>
    obtain⟨p,c⟩:=w;obtain⟨hc,hw⟩:=zm hY f e r p c (Nat.le_refl _) c0.2 hx;exact⟨hc,_,_,F1 two fop f a Y hY ts hT h0 (B:=gg _ p c) rfl ⟨c0.2,Nat.le_refl _,_,hx,rfl,rfl⟩,hw⟩
structure HX (f:Nat) (a:Int):Prop where
 sum:∀ts x,cK ts→pP f .sum ts=some x→Rd 39 ts a x
 prod:∀ts x,cK ts→pP f .prod ts=some x→Rd 71 ts a x
 un:∀ts x,cK ts→pP f .un ts=some x→Rd 111 ts a x
 prim:∀ts x,cK ts→pP f .prim ts=some x→Rd 152 ts a x
theorem GL {f:Nat} {a:Int} (ih:∀ts x,cK ts→pP f .prod ts=some x→Rd 71 ts a x) (ts:List Tk) (x:gS) (hT:cK ts) (hx:pP (f+1) .sum ts=some x):Rd 39 ts a x:=by
 have h:=sK false 71 f a ih ts x hT (by rw[fZ]at hx;exact hx);cases x with
 |ok z=>
  obtain⟨e,r⟩:=z;obtain⟨h,hw⟩:=h;refine⟨?_,hw⟩;obtain⟨o1,na1,xs1,nb1,ys1,nm1,n1,cs1,hA⟩:=ar e;rw[show dE e= .agg (ae o1 na1 xs1 nb1 ys1 nm1 n1 cs1) from congrArg DV.agg hA]at h ⊢;refine ai aa ac Tryz.func39 rfl rfl rfl rfl rfl (ct) ?_;refine kR ?_;refine kI ?_;refine kO ?_;refine tL Tryz.underlying106 Tryz.underlying9 rfl rfl rfl rfl rfl ⟨rfl,rfl,rfl⟩ rfl rfl rfl rfl ?_;refine kW ?_;refine kD (h) ?_;refine kW ?_;exact⟨⟨_,rfl,rfl⟩,⟨rfl,trivial⟩⟩
 |error z=>
  obtain⟨p,c⟩:=z;obtain⟨hc,y,ts',h,hw⟩:=h;refine⟨hc,y,ts',?_,hw⟩;obtain⟨o1,na1,xs1,nb1,ys1,nm1,n1,cs1,hA⟩:=aX y;rw[show dR y= .agg (ae o1 na1 xs1 nb1 ys1 nm1 n1 cs1) from congrArg DV.agg hA]at h ⊢;refine ai aa ac Tryz.func39 rfl rfl rfl rfl rfl (ct) ?_;refine kR ?_;refine kI ?_;refine kO ?_;refine tL Tryz.underlying106 Tryz.underlying9 rfl rfl rfl rfl rfl ⟨rfl,rfl,rfl⟩ rfl rfl rfl rfl ?_;refine kW ?_;refine kD (h) ?_;refine kW ?_;exact⟨⟨_,rfl,rfl⟩,⟨rfl,trivial⟩⟩
theorem El {f:Nat} {a:Int} (ih:∀ts x,cK ts→pP f .un ts=some x→Rd 111 ts a x) (ts:List Tk) (x:gS) (hT:cK ts) (hx:pP (f+1) .prod ts=some x):Rd 71 ts a x:=by
 have h:=sK true 111 f a ih ts x hT (by rw[eR]at hx;exact hx);cases x with
 |ok z=>
  obtain⟨e,r⟩:=z;obtain⟨h,hw⟩:=h;refine⟨?_,hw⟩;obtain⟨o1,na1,xs1,nb1,ys1,nm1,n1,cs1,hA⟩:=ar e;rw[show dE e= .agg (ae o1 na1 xs1 nb1 ys1 nm1 n1 cs1) from congrArg DV.agg hA]at h ⊢;refine ai aa ac Tryz.func71 rfl rfl rfl rfl rfl (ct) ?_;refine kR ?_;refine kI ?_;refine kO ?_;refine tL Tryz.underlying106 Tryz.underlying9 rfl rfl rfl rfl rfl ⟨rfl,rfl,rfl⟩ rfl rfl rfl rfl ?_;refine kW ?_;refine kD (h) ?_;refine kW ?_;exact⟨⟨_,rfl,rfl⟩,⟨rfl,trivial⟩⟩
 |error z=>
  obtain⟨p,c⟩:=z;obtain⟨hc,y,ts',h,hw⟩:=h;refine⟨hc,y,ts',?_,hw⟩;obtain⟨o1,na1,xs1,nb1,ys1,nm1,n1,cs1,hA⟩:=aX y;rw[show dR y= .agg (ae o1 na1 xs1 nb1 ys1 nm1 n1 cs1) from congrArg DV.agg hA]at h ⊢;refine ai aa ac Tryz.func71 rfl rfl rfl rfl rfl (ct) ?_;refine kR ?_;refine kI ?_;refine kO ?_;refine tL Tryz.underlying106 Tryz.underlying9 rfl rfl rfl rfl rfl ⟨rfl,rfl,rfl⟩ rfl rfl rfl rfl ?_;refine kW ?_;refine kD (h) ?_;refine kW ?_;exact⟨⟨_,rfl,rfl⟩,⟨rfl,trivial⟩⟩
theorem sj (y:Rx):aR (.mk 3 false [] false [] [] [y])=[.val (.int .i64 3)]++kK++[.val (vL []), .sl 1 (aR y)]:=by
 show [.val (.int .i64 3)]++Cp false [] false []++[.val (vL []), .sl 1 (aR y++[])]=_;rw[List.append_nil];rfl
theorem IM {f:Nat} {a:Int} (ih:∀ts x,cK ts→pP f .un ts=some x→Rd 111 ts a x) (ih2:∀ts x,cK ts→pP f .prim ts=some x→Rd 152 ts a x) (ts:List Tk) (x:gS) (hT:cK ts) (hx:pP (f+1) .un ts=some x):Rd 111 ts a x:=by
 obtain⟨t,r,rfl⟩:=hT.ne;rw[gn]at hx;have cis:=pK [45] t r a 0 hT.head.1;rw[decide_eq_true rfl,Bool.true_and,ul]at cis;cases hs:a7 45 (t::r)with
 |some r2=>
  obtain⟨rfl,h4⟩:=jF hs;rw[hs]at hx cis;have cis:aw Tryz.prog 109 [.box 900 0, .d (dL [45])] [(900,gg (t::r2) a 0)] (.v (.one (dB true))) [(900,gg (t::r2) a 0)]:=cis;have hw2:cK r2:=hT.tail (by omega);dsimp only at hx;cases hy:pP f .un r2 with
  |none=>rw[hy]at hx;cases hx
  |some y=>
   have cy:=ih r2 y hw2 hy;rw[hy]at hx;cases y with
   |ok z=>
    obtain⟨e,r3⟩:=z;cases hx;obtain⟨cy,hw3⟩:=cy;refine⟨?_,hw3⟩;obtain⟨o1,na1,xs1,nb1,ys1,nm1,n1,cs1,hA⟩:=ar e;rw[show dE (.neg e)= .agg ([.val (.int .i64 3)]++kK++[.val (vL []), .sl 1 (aE e)]) from congrArg DV.agg (nd e),hA];rw[show dE e= .agg (ae o1 na1 xs1 nb1 ys1 nm1 n1 cs1) from congrArg DV.agg hA]at cy;refine ai aa ac Tryz.func111 rfl rfl rfl rfl rfl (ct) ?_;refine kW ?_;refine kD (cis) ?_;refine kW ?_;refine kD (fo t r2 a 0) ?_;refine kW ?_;refine kD (cy) ?_;refine kW ?_;exact⟨⟨_,rfl,rfl⟩,⟨rfl,trivial⟩⟩
   |error z=>
    cases hx;obtain⟨p,c⟩:=z;obtain⟨hc,y,ts',cy,hw3⟩:=cy;refine⟨hc, .mk 3 false [] false [] [] [y],ts',?_,hw3⟩;obtain⟨o1,na1,xs1,nb1,ys1,nm1,n1,cs1,hA⟩:=aX y;rw[show dR (.mk 3 false [] false [] [] [y])= .agg ([.val (.int .i64 3)]++kK++[.val (vL []), .sl 1 (aR y)]) from congrArg DV.agg (sj y),hA];rw[show dR y= .agg (ae o1 na1 xs1 nb1 ys1 nm1 n1 cs1) from congrArg DV.agg hA]at cy;refine ai aa ac Tryz.func111 rfl rfl rfl rfl rfl (ct) ?_;refine kW ?_;refine kD (cis) ?_;refine kW ?_;refine kD (fo t r2 a 0) ?_;refine kW ?_;refine kD (cy) ?_;refine kW ?_;exact⟨⟨_,rfl,rfl⟩,⟨rfl,trivial⟩⟩
 |none=>
  rw[hs]at hx cis;have cis:aw Tryz.prog 109 [.box 900 0, .d (dL [45])] [(900,gg (t::r) a 0)] (.v (.one (dB false))) [(900,gg (t::r) a 0)]:=cis;have cy:=ih2 (t::r) x hT hx;cases x with
  |ok z=>
   obtain⟨e,r3⟩:=z;obtain⟨cy,hw3⟩:=cy;refine⟨?_,hw3⟩;obtain⟨o1,na1,xs1,nb1,ys1,nm1,n1,cs1,hA⟩:=ar e;rw[show dE e= .agg (ae o1 na1 xs1 nb1 ys1 nm1 n1 cs1) from congrArg DV.agg hA]at cy ⊢;refine ai aa ac Tryz.func111 rfl rfl rfl rfl rfl (ct) ?_;refine kW ?_;refine kD (cis) ?_;refine kW ?_;refine kD (cy) ?_;refine kW ?_;exact⟨⟨_,rfl,rfl⟩,⟨rfl,trivial⟩⟩
  |error z=>
   obtain⟨p,c⟩:=z;obtain⟨hc,y,ts',cy,hw3⟩:=cy;refine⟨hc,y,ts',?_,hw3⟩;obtain⟨o1,na1,xs1,nb1,ys1,nm1,n1,cs1,hA⟩:=aX y;rw[show dR y= .agg (ae o1 na1 xs1 nb1 ys1 nm1 n1 cs1) from congrArg DV.agg hA]at cy ⊢;refine ai aa ac Tryz.func111 rfl rfl rfl rfl rfl (ct) ?_;refine kW ?_;refine kD (cis) ?_;refine kW ?_;refine kD (cy) ?_;refine kW ?_;exact⟨⟨_,rfl,rfl⟩,⟨rfl,trivial⟩⟩
def z7:Rx:= .mk 0 false [] false [] [] []
theorem EO {f:Nat} {a:Int} (ih:∀ts x,cK ts→pP f .sum ts=some x→Rd 39 ts a x) (ts:List Tk) (x:gS) (hT:cK ts) (hx:pP (f+1) .prim ts=some x):Rd 152 ts a x:=by
 obtain⟨t,r,rfl⟩:=hT.ne;rw[dz]at hx;have cis:=pK [40] t r a 0 hT.head.1;rw[decide_eq_true rfl,Bool.true_and,ul]at cis;cases hs:a7 40 (t::r)with
 |some r2=>
  obtain⟨rfl,h4⟩:=jF hs;rw[hs]at hx cis;have cis:aw Tryz.prog 109 [.box 900 0, .d (dL [40])] [(900,gg (t::r2) a 0)] (.v (.one (dB true))) [(900,gg (t::r2) a 0)]:=cis;have hw2:cK r2:=hT.tail (by omega);dsimp only at hx;cases hy:pP f .sum r2 with
  |none=>rw[hy]at hx;cases hx
  |some y=>
   have cy:=ih r2 y hw2 hy;rw[hy]at hx;cases y with
   |error z=>
    cases hx;obtain⟨p,c⟩:=z;obtain⟨hc,y,ts',cy,hw3⟩:=cy;refine⟨hc,z7,ts',?_,hw3⟩;obtain⟨u,r4,rfl⟩:=hw3.ne;obtain⟨o1,na1,xs1,nb1,ys1,nm1,n1,cs1,hA⟩:=aX y;rw[show dR y= .agg (ae o1 na1 xs1 nb1 ys1 nm1 n1 cs1) from congrArg DV.agg hA]at cy;have cis2:=pK [41] u r4 p c hw3.head.1;rw[decide_eq_false hc,Bool.false_and]at cis2;refine ai aa ac Tryz.func152 rfl rfl rfl rfl rfl (ct) ?_;refine kW ?_;refine kD (bA t r2 a 0) ?_;refine kO ?_;refine kY ?_;refine kD (bA t r2 a 0) ?_;refine kO ?_;refine kY ?_;refine kD (cis) ?_;refine kW ?_;refine kD (fo t r2 a 0) ?_;refine kW ?_;refine kD (cy) ?_;refine kW ?_;refine kD (cis2) ?_;refine kW ?_;refine kD (oZ u r4 p c 2 hc) ?_;refine kW ?_;exact⟨⟨_,rfl,rfl⟩,⟨rfl,trivial⟩⟩
   |ok z=>
    obtain⟨e,r3⟩:=z;obtain⟨cy,hw3⟩:=cy;obtain⟨u,r4,rfl⟩:=hw3.ne;obtain⟨o1,na1,xs1,nb1,ys1,nm1,n1,cs1,hA⟩:=ar e;rw[show dE e= .agg (ae o1 na1 xs1 nb1 ys1 nm1 n1 cs1) from congrArg DV.agg hA]at cy;have cis2:=pK [41] u r4 a 0 hw3.head.1;rw[decide_eq_true rfl,Bool.true_and,ul]at cis2;dsimp only at hx;cases hs2:a7 41 (u::r4)with
    |some r5=>
     obtain⟨rfl,h4'⟩:=jF hs2;rw[hs2]at hx cis2;cases hx;refine⟨?_,hw3.tail (by omega)⟩;rw[show dE e= .agg (ae o1 na1 xs1 nb1 ys1 nm1 n1 cs1) from congrArg DV.agg hA];have cis2:aw Tryz.prog 109 [.box 900 0, .d (dL [41])] [(900,gg (u::r5) a 0)] (.v (.one (dB true))) [(900,gg (u::r5) a 0)]:=cis2;refine ai aa ac Tryz.func152 rfl rfl rfl rfl rfl (ct) ?_;refine kW ?_;refine kD (bA t r2 a 0) ?_;refine kO ?_;refine kY ?_;refine kD (bA t r2 a 0) ?_;refine kO ?_;refine kY ?_;refine kD (cis) ?_;refine kW ?_;refine kD (fo t r2 a 0) ?_;refine kW ?_;refine kD (cy) ?_;refine kW ?_;refine kD (cis2) ?_;refine kW ?_;refine kD (fo u r5 a 0) ?_;refine kW ?_;exact⟨⟨_,rfl,rfl⟩,⟨rfl,trivial⟩⟩
    |none=>
     rw[hs2]at hx cis2;cases hx;refine⟨by decide,z7,u::r4,?_,hw3⟩;have cis2:aw Tryz.prog 109 [.box 900 0, .d (dL [41])] [(900,gg (u::r4) a 0)] (.v (.one (dB false))) [(900,gg (u::r4) a 0)]:=cis2;refine ai aa ac Tryz.func152 rfl rfl rfl rfl rfl (ct) ?_;refine kW ?_;refine kD (bA t r2 a 0) ?_;refine kO ?_;refine kY ?_;refine kD (bA t r2 a 0) ?_;refine kO ?_;refine kY ?_;refine kD (cis) ?_;refine kW ?_;refine kD (fo t r2 a 0) ?_;refine kW ?_;refine kD (cy) ?_;refine kW ?_;refine kD (cis2) ?_;refine kW ?_;refine kD (jc u r4 a 2) ?_;refine kW ?_;exact⟨⟨_,rfl,rfl⟩,⟨rfl,trivial⟩⟩
 |none=>
  rw[hs]at hx cis;dsimp only at hx;have cis:aw Tryz.prog 109 [.box 900 0, .d (dL [40])] [(900,gg (t::r) a 0)] (.v (.one (dB false))) [(900,gg (t::r) a 0)]:=cis
  by_cases h2:t.1=2
  ·rw[if_pos h2]at hx
   cases hx;obtain⟨u,r4,rfl⟩:=(hT.tail (by omega)).ne;have cn:=Bl t u r4 a h2 hT;cases hP:eg t (u::r4)with
   |ok z=>
    obtain⟨e,r3⟩:=z;rw[hP]at cn;obtain⟨cy,hw3⟩:=cn;refine⟨?_,hw3⟩;obtain⟨o1,na1,xs1,nb1,ys1,nm1,n1,cs1,hA⟩:=ar e;rw[show dE e= .agg (ae o1 na1 xs1 nb1 ys1 nm1 n1 cs1) from congrArg DV.agg hA]at cy ⊢;refine ai aa ac Tryz.func152 rfl rfl rfl rfl rfl (ct) ?_;refine kW ?_;refine kD (bA t (u::r4) a 0) ?_;refine kO ?_;refine kX ?_;refine kD (cy) ?_;refine kW ?_;exact⟨⟨_,rfl,rfl⟩,⟨rfl,trivial⟩⟩
   |error z=>
    obtain⟨p,c⟩:=z;rw[hP]at cn;obtain⟨hc,y,ts',cy,hw3⟩:=cn;refine⟨hc,y,ts',?_,hw3⟩;obtain⟨o1,na1,xs1,nb1,ys1,nm1,n1,cs1,hA⟩:=aX y;rw[show dR y= .agg (ae o1 na1 xs1 nb1 ys1 nm1 n1 cs1) from congrArg DV.agg hA]at cy ⊢;refine ai aa ac Tryz.func152 rfl rfl rfl rfl rfl (ct) ?_;refine kW ?_;refine kD (bA t (u::r4) a 0) ?_;refine kO ?_;refine kX ?_;refine kD (cy) ?_;refine kW ?_;exact⟨⟨_,rfl,rfl⟩,⟨rfl,trivial⟩⟩
  ·rw[if_neg h2]at hx
   by_cases h1:t.1=1
   ·rw[if_pos h1]at hx
    cases hx;refine⟨?_,hT.tail (by omega)⟩;refine ai aa ac Tryz.func152 rfl rfl rfl rfl rfl (ct) ?_;refine kW ?_;refine kD (bA t r a 0) ?_;refine kO ?_;refine kY ?_;refine kD (bA t r a 0) ?_;refine kO ?_;refine kX ?_;refine kD (fo t r a 0) ?_;refine kW ?_;exact⟨⟨_,rfl,rfl⟩,⟨rfl,trivial⟩⟩
   ·rw[if_neg h1]at hx
    cases hx;refine⟨by decide,z7,t::r,?_,hT⟩;refine ai aa ac Tryz.func152 rfl rfl rfl rfl rfl (ct) ?_;refine kW ?_;refine kD (bA t r a 0) ?_;refine kO ?_;refine kY ?_;refine kD (bA t r a 0) ?_;refine kO ?_;refine kY ?_;refine kD (cis) ?_;refine kW ?_;refine kD (jc t r a 2) ?_;refine kW ?_;exact⟨⟨_,rfl,rfl⟩,⟨rfl,trivial⟩⟩
theorem yx (a:Int):∀f,HX f a
 |0=>⟨fun _ _ _ h=>(by cases h),fun _ _ _ h=>(by cases h),fun _ _ _ h=>(by cases h),fun _ _ _ h=>(by cases h)⟩
 |f+1=>by
  have ih:=yx a f;exact⟨fun ts x hT hx=>GL ih.prod ts x hT hx,fun ts x hT hx=>El ih.un ts x hT hx,fun ts x hT hx=>IM ih.un ih.prim ts x hT hx,fun ts x hT hx=>EO ih.sum ts x hT hx⟩
def G8 (o:List UInt8):List AV:=o.map fun c=>AV.val (.int .u8 c.toNat)
def qS (s:List UInt8) (p:Nat) (x:Nat × List UInt8):AS:=⟨[(0, .d (dL s)),(1, .d (dN .i64 p)),(4, .d (dN .i64 0)),(5, .d (dL [])),(6, .own 700 x.2.length 1 5),(7, .d (dN .i64 x.1))],[(700,some (G8 x.2))]⟩
def qT (s:List UInt8) (p i:Nat) (o:List UInt8) (x:UInt8):AS:=⟨[(0, .d (dL s)),(1, .d (dN .i64 p)),(4, .d (dN .i64 0)),(5, .d (dL [])),(6, .own 19003 (o.length+1) 1 5),(7, .d (dN .i64 i))],[(19003,some ((G8 o).take (o.length*1)++[.val (.int .u8 x.toNat)]))]⟩
theorem Fp (s:List UInt8) (p i:Nat) (o:List UInt8) (x:UInt8):bt (qT s p i o x) (qS s p (i,o++[x])):=by
 have e:G8 (o++[x])=(G8 o).take (o.length*1)++[.val (.int .u8 x.toNat)]:=by
  rw[List.take_of_length_le (by simp[G8])]
  simp[G8]
 unfold qS;rw[show(i,o++[x]).2=o++[x] from rfl,e,List.length_append];exact(bg (q:=6) (j:=19003) (j':=700) (m:=o.length+1) (k:=1) (e:=5) rfl rfl rfl rfl).trans (weak ⟨rfl,rfl,rfl,rfl,rfl,rfl,trivial⟩ ⟨rfl,trivial⟩ rfl)
theorem tH (d:UInt8):Lib.indexByte [34,92,110] d<0↔ ¬(d=34∨d=92∨d=110):=by
 have:=nJ [34,92,110] d
 constructor
 ·intro h hd
  have:=this.2 (by simpa using hd);omega
 ·intro h
  by_cases h1:0≤Lib.indexByte [34,92,110] d
  ·exact absurd (by simpa using this.1 h1) h
  ·omega
theorem rz (s:List UInt8) (p:Nat) (c0:UInt8) (hp:s[p]? =some c0) (hl:s.length≤65536):
 ∃t,ab Tryz.prog 74 [dL s,dN .i64 p] (.tup [dN .i64 ((if c0=34 then p+mw (s.drop p)else p:Nat)),dL t]):=by
 have hB:=au s;have hpl:=(List.getElem?_eq_some_iff.1 hp).1
 by_cases h34:c0=34
 ·have e34:c0.toNat=34:=by rw[h34];rfl
  refine⟨jP (s.drop (p+1)) [],?_⟩;rw[if_pos h34,mw,List.drop_drop];generalize hE:eW (s.drop (p+1)) 1=E;generalize hX:jP (s.drop (p+1)) []=X;refine kU aa ac Tryz.func74 ?_;refine kR ?_;refine kI ?_;refine FV 700 aa rfl rfl rfl rfl rfl rfl rfl rfl ?_;refine kG ?_
  iterate 3 refine kO ?_
  refine kE ?_
  iterate 3 refine kO ?_
  refine ap aa (i:=p) (c:=c0) hp rfl rfl rfl rfl rfl rfl rfl rfl ?_;refine kB false ?_ ?_
  ·exact(by simp;omega)
  refine kG ?_;refine kO ?_;refine kJ ((p+1:Nat)) ?_;refine kW ?_
  refine bh (Nat × List UInt8) (fun x=>p+1≤x.1∧x.1≤s.length∧x.2.length≤x.1∧eW (s.drop x.1) (x.1-p)=E∧jP (s.drop x.1) x.2=X) (qS s p) (fun x=>s.length-x.1) (p+1,[]) ⟨Nat.le_refl _,hpl,Nat.zero_le _,by rw[show p+1-p=1 by omega];exact hE,hX⟩
   (weak ⟨rfl,rfl,rfl,rfl,rfl,rfl,trivial⟩ ⟨rfl,trivial⟩ rfl) ?_
  rintro⟨i,o⟩ ⟨h1,h2,h3,h4,h5⟩;dsimp only at h1 h2 h3 h4 h5;unfold qS;dsimp only;refine kI ?_
  iterate 3 refine kO ?_
  by_cases hlt:i<s.length
  ·have hx:s[i]? =some s[i]:=by simp[hlt]
   have hdrop:=List.drop_eq_getElem_cons hlt;generalize hc:s[i]=c at *;rw[hdrop]at h4 h5;refine kT ?_;refine kG ?_
   iterate 2 refine kO ?_
   refine ap aa (i:=i) (c:=c) hx rfl rfl rfl rfl rfl rfl rfl rfl ?_;refine kG ?_;refine kO ?_
   by_cases hctl:c.toNat<32
   ·have hne:c≠34:=fun e=>by rw[e]at hctl;exact absurd hctl (by decide)
    rw[qe hne hctl]at h4;rw[Dz hne hctl]at h5;refine kT ?_;rw[← h4,← h5];exact kF
   ·refine kE ?_
    refine kG ?_;refine kO ?_
    by_cases hq:c=34
    ·have eq:c.toNat=34:=by rw[hq];rfl
     subst hq;rw[ns]at h4;rw[GF]at h5;refine kT ?_
     repeat(first|refine .done ?_|refine aJ (T:=TT) ?_|refine dh (T:=TT) ?_|refine ib (T:=TT) rfl ?_)
     refine gH (fx (q:=6) (j:=700) rfl rfl) rfl ?_;refine kO ?_;refine kJ ((p+E:Nat)) ?_;refine kO ?_;cases o with
     |nil=>
      refine G5 aa rfl rfl rfl rfl rfl rfl rfl rfl rfl rfl rfl ?_;rw[← h5];exact kF
     |cons a r=>
      refine FI aa (l:=a::r) rfl (by simp) rfl rfl rfl rfl rfl rfl rfl rfl rfl rfl rfl ?_;rw[← h5];exact kF
    ·have eq:¬c.toNat=34:=dK hq
     refine kE ?_;refine kG ?_;refine kO ?_
     by_cases hb:c=92
     ·have eb:c.toNat=92:=by rw[hb];rfl
      subst hb;refine kT ?_;refine kG ?_;refine kO ?_;refine kJ ((i+1:Nat)) ?_;refine kG ?_
      iterate 3 refine kO ?_
      by_cases hend:i+1=s.length
      ·rw[List.drop_eq_nil_of_le (Nat.le_of_eq hend.symm)]at h4 h5
       rw[qN (by decide)]at h4;rw[BS (by decide)]at h5;refine kT ?_;rw[← h4,← h5];exact kF
      ·have hlt2:i+1<s.length:=by omega
       have hx2:s[i+1]? =some s[i+1]:=by simp[hlt2]
       have hdrop2:=List.drop_eq_getElem_cons hlt2;generalize hd:s[i+1]=d at *;rw[hdrop2,m3]at h4;rw[hdrop2,CY]at h5;refine kE ?_
       iterate 3 refine kO ?_
       refine ap aa (i:=i+1) (c:=d) hx2 rfl rfl rfl rfl rfl rfl rfl rfl ?_
       by_cases d34:d=34
       ·have e1:d.toNat=34:=by rw[d34];rfl
        rw[if_neg (fun h=>(tH d).1 h (.inl d34))]at h4 h5;refine kB false ?_ ?_
        ·exact(by simp;omega)
        refine kW ?_;refine ap aa (i:=i+1) (c:=d) hx2 rfl rfl rfl rfl rfl rfl rfl rfl ?_;refine kG ?_;refine kO ?_;refine kE ?_;rw[if_neg (by rw[d34];decide)]at h5;refine kG ?_
        iterate 3 refine kO ?_
        refine cW 19003 (m1:=o.length) (m2:=1) aa (by decide) (by show(o.length+1)*1≤_;omega) rfl rfl rfl rfl rfl rfl rfl rfl rfl rfl rfl (.own rfl rfl) rfl rfl rfl ?_;refine kW ?_;exact⟨(i+2,o++[d]),⟨by dsimp only;omega,by dsimp only;omega,by simp;omega,by rw[show i+2-p=i-p+2 by omega];exact h4,h5⟩,by dsimp only;omega,bt.trans (b:=qT s p (i+2) o d) (weak ⟨rfl,rfl,rfl,rfl,rfl,bc (by omega) (by omega),trivial⟩ ⟨rfl,trivial⟩ rfl) (Fp s p (i+2) o d)⟩
       ·have e1:¬d.toNat=34:=dK d34
        refine kB true ?_ ?_
        ·exact(by simp;omega)
        iterate 3 refine kO ?_
        refine ap aa (i:=i+1) (c:=d) hx2 rfl rfl rfl rfl rfl rfl rfl rfl ?_
        by_cases d92:d=92
        ·have e2:d.toNat=92:=by rw[d92];rfl
         rw[if_neg (fun h=>(tH d).1 h (.inr (.inl d92)))]at h4 h5;refine kB false ?_ ?_
         ·exact(by simp;omega)
         refine kW ?_;refine ap aa (i:=i+1) (c:=d) hx2 rfl rfl rfl rfl rfl rfl rfl rfl ?_;refine kG ?_;refine kO ?_;refine kE ?_;rw[if_neg (by rw[d92];decide)]at h5;refine kG ?_
         iterate 3 refine kO ?_
         refine cW 19003 (m1:=o.length) (m2:=1) aa (by decide) (by show(o.length+1)*1≤_;omega) rfl rfl rfl rfl rfl rfl rfl rfl rfl rfl rfl (.own rfl rfl) rfl rfl rfl ?_;refine kW ?_;exact⟨(i+2,o++[d]),⟨by dsimp only;omega,by dsimp only;omega,by simp;omega,by rw[show i+2-p=i-p+2 by omega];exact h4,h5⟩,by dsimp only;omega,bt.trans (b:=qT s p (i+2) o d) (weak ⟨rfl,rfl,rfl,rfl,rfl,bc (by omega) (by omega),trivial⟩ ⟨rfl,trivial⟩ rfl) (Fp s p (i+2) o d)⟩
        ·have e2:¬d.toNat=92:=dK d92
         refine kB true ?_ ?_
         ·exact(by simp;omega)
         iterate 4 refine kO ?_
         refine ap aa (i:=i+1) (c:=d) hx2 rfl rfl rfl rfl rfl rfl rfl rfl ?_
         by_cases d110:d=110
         ·have e3:d.toNat=110:=by rw[d110];rfl
          rw[if_neg (fun h=>(tH d).1 h (.inr (.inr d110)))]at h4 h5;refine kB false ?_ ?_
          ·exact(by simp;omega)
          refine kW ?_;refine ap aa (i:=i+1) (c:=d) hx2 rfl rfl rfl rfl rfl rfl rfl rfl ?_;refine kG ?_;refine kO ?_;refine kT ?_;rw[if_pos d110]at h5;refine kG ?_;refine kO ?_;refine kG ?_
          iterate 3 refine kO ?_
          refine cW 19003 (m1:=o.length) (m2:=1) aa (by decide) (by show(o.length+1)*1≤_;omega) rfl rfl rfl rfl rfl rfl rfl rfl rfl rfl rfl (.own rfl rfl) rfl rfl rfl ?_;refine kW ?_;exact⟨(i+2,o++[10]),⟨by dsimp only;omega,by dsimp only;omega,by simp;omega,by rw[show i+2-p=i-p+2 by omega];exact h4,h5⟩,by dsimp only;omega,bt.trans (b:=qT s p (i+2) o 10) (weak ⟨rfl,rfl,rfl,rfl,rfl,bc (by omega) (by omega),trivial⟩ ⟨rfl,trivial⟩ rfl) (Fp s p (i+2) o 10)⟩
         ·have e3:¬d.toNat=110:=dK d110
          rw[if_pos ((tH d).2 (fun h=>by rcases h with h|h|h;exact d34 h;exact d92 h;exact d110 h))]at h4 h5;refine kB true ?_ ?_
          ·exact(by simp;omega)
          rw[← h4,← h5];exact kF
     ·have eb:¬c.toNat=92:=dK hb
      rw[oV hq hctl hb]at h4;rw[E6 hq hctl hb]at h5;refine kE ?_;refine kG ?_
      iterate 3 refine kO ?_
      refine cW 19003 (m1:=o.length) (m2:=1) aa (by decide) (by show(o.length+1)*1≤_;omega) rfl rfl rfl rfl rfl rfl rfl rfl rfl rfl rfl (.own rfl rfl) rfl rfl rfl ?_;refine kW ?_;exact⟨(i+1,o++[c]),⟨by dsimp only;omega,by dsimp only;omega,by simp;omega,by rw[show i+1-p=i-p+1 by omega];exact h4,h5⟩,by dsimp only;omega,bt.trans (b:=qT s p (i+1) o c) (weak ⟨rfl,rfl,rfl,rfl,rfl,bc (by omega) (by omega),trivial⟩ ⟨rfl,trivial⟩ rfl) (Fp s p (i+1) o c)⟩
  ·have hi:i=s.length:=by omega
   rw[List.drop_eq_nil_of_le (Nat.le_of_eq hi.symm)]at h4 h5;have h4:0=E:=h4;have h5:[]=X:=h5;refine kE ?_;rw[← h4,← h5];exact kF
 ·have e34:¬c0.toNat=34:=dK h34
  refine⟨[],?_⟩;rw[if_neg h34];refine kU aa ac Tryz.func74 ?_;refine kR ?_;refine kI ?_;refine FV 700 aa rfl rfl rfl rfl rfl rfl rfl rfl ?_;refine kG ?_
  iterate 3 refine kO ?_
  refine kE ?_
  iterate 3 refine kO ?_
  refine ap aa (i:=p) (c:=c0) hp rfl rfl rfl rfl rfl rfl rfl rfl ?_;refine kB true ?_ ?_
  ·exact(by simp;omega)
  exact kF
def IW (J:Nat):List Tk→TV
 | []=> .nil
 |a::r=> .own J (a::r).length 3 77
theorem Do (J:Nat) (l:List Tk) (t:Tk):IW J (l++[t])= .own J (l.length+1) 3 77:=by
 cases l with
 |nil=>rfl
 |cons a r=>simp[IW]
theorem ff (s:List UInt8) (acc:List Tk) (t:Tk) (m:Nat):(⟨[(0, .d (dL s)),(2, .nil),(3, .d (dN .i64 0)),(4, .d (dN .i64 0)),(5,IW 13001 (acc++[t])),(6, .d (dN .i64 m))],[(13001,Hu (acc++[t]))]⟩:AS)=⟨[(0, .d (dL s)),(2, .nil),(3, .d (dN .i64 0)),(4, .d (dN .i64 0)),(5, .own 13001 (acc.length+1) 3 77),(6, .d (dN .i64 m))],[(13001,some ((b6 acc).take (acc.length*3)++iv t))]⟩:=by rw[Do,ww,ke]
theorem ED {c:UInt8} (h:dU c=true):fQ c=true:=by simp[fQ,h]
theorem m9 {p:UInt8→Bool} {c:UInt8} {r:List UInt8} (h:p c=true):0<aV p (c::r):=by simp[aV,List.takeWhile_cons,h]
theorem yK {p:UInt8→Bool} {c:UInt8} {r:List UInt8} (h:p c=false):aV p (c::r)=0:=by simp[aV,List.takeWhile_cons,h]
theorem BN {c:UInt8} {r:List UInt8} (h:cx c=true):0<jk (c::r):=by
 have:=m9 (r:=r) h;unfold jk
 split <;>omega
inductive Nx (s:List UInt8) (i:Nat) (c:UInt8) (w m q:Nat):Nat→Nat→Prop
 |wd {n:Nat} (h0:0<n) (hw:w=n) (h:n≤24):Nx s i c w m q 1 n
 |lg {n:Nat} (hw:w=n) (h:24<n):Nx s i c w m q 1 n
 |nm {n:Nat} (h0:0<n) (hw:w=0) (hm:m=n):Nx s i c w m q 2 n
 |qt {n:Nat} (h0:0<n) (hw:w=0) (hm:m=0) (hq:q=n):Nx s i c w m q 3 n
 |sy (hw:w=0) (hm:m=0) (hq:q=0) (hs:rI c=true):Nx s i c w m q 4 1
 |nl (hw:w=0) (hm:m=0) (hq:q=0) (hs:rI c=false) (hc:c=10):Nx s i c w m q 5 1
 |no {k:Nat} (hw:w=0) (hm:m=0) (hq:q=0) (hs:rI c=false) (hc:c≠10):Nx s i c w m q k 0
theorem FQ (s:List UInt8) (i:Nat) (c:UInt8) (r:List UInt8):Nx s i c (qW (c::r)) (if 0<aV cx (c::r)then jk (c::r)else 0) (if c=34 then mw (c::r)else 0) (gK (c::r)).1 (gK (c::r)).2:=by
 rw[gK,qW];cases h1:dU c
 ·simp only[Bool.false_eq_true,if_false]
  cases h2:cx c
  ·rw[yK h2,if_neg (Nat.lt_irrefl 0)]
   simp only[Bool.false_eq_true,if_false]
   by_cases h3:c=34
   ·rw[if_pos h3,if_pos h3]
    dsimp only
    by_cases h4:mw (c::r)=0
    ·rw[h4]
     exact .no rfl rfl rfl (by rw[h3];decide) (by rw[h3];decide)
    ·exact .qt (by omega) rfl rfl rfl
   ·rw[if_neg h3,if_neg h3]
    by_cases h4:c=10
    ·rw[if_pos h4]
     exact .nl rfl rfl rfl (by rw[h4];decide) h4
    ·rw[if_neg h4]
     cases h5:rI c
     ·rw[if_neg (by decide)]
      exact .no rfl rfl rfl h5 h4
     ·rw[if_pos rfl]
      exact .sy rfl rfl rfl h5
  ·rw[if_pos (m9 h2)]
   simp only[if_true]
   exact .nm (BN h2) rfl rfl
 ·simp only[if_true]
  have:=m9 (r:=r) (ED h1)
  by_cases h:aV fQ (c::r)≤24
  ·exact .wd this rfl h
  ·exact .lg rfl (by omega)
theorem lA (s:List UInt8) (hl:s.length≤65536):ab Tryz.prog 42 [dL s] (jK (cU (s.length+1) s 0 [])):=by
 have hB:=au s;generalize hR:cU (s.length+1) s 0 []=R;refine kU aa ac Tryz.func42 ?_;refine kR ?_;refine kI ?_
 iterate 2 refine kO ?_
 refine kY ?_
 refine bh (Nat × List Tk) (fun x=>x.1≤s.length∧x.2.length≤x.1∧ ∃f,s.length-x.1<f∧cU f (s.drop x.1) x.1 x.2=R) (fun x=>⟨[(0, .d (dL s)),(2, .nil),(3, .d (dN .i64 0)),(4, .d (dN .i64 0)),(5,IW 13001 x.2),(6, .d (dN .i64 x.1))],[(13001,Hu x.2)]⟩) (fun x=>s.length-x.1) (0,[]) ⟨Nat.zero_le _,Nat.le_refl _,s.length+1,by dsimp only;omega,hR⟩
  (weak ⟨rfl,rfl,rfl,rfl,rfl,rfl,trivial⟩ trivial rfl) ?_
 rintro⟨i,acc⟩ ⟨h1,h2,f,hf,h3⟩;dsimp only at h1 h2 hf h3 ⊢;cases f with
 |zero=>exact absurd hf (Nat.not_lt_zero _)
 |succ f=>
 refine kI ?_
 iterate 3 refine kO ?_
 by_cases hlt:i<s.length
 ·have hx:s[i]? =some s[i]:=by simp[hlt]
  have hdrop:=List.drop_eq_getElem_cons hlt;have cw:=oD s i (by omega) (by omega);have cm:=rf s i (by omega) (by omega) rfl;obtain⟨qt,cq⟩:=rz s i s[i] hx hl;have cs:=rF s[i];generalize hc:s[i]=c at *;rw[show((if c=34 then i+mw (s.drop i)else i:Nat))=i+(if c=34 then mw (s.drop i)else 0) by split <;>omega]at cq;refine kT ?_;refine kG ?_
  iterate 2 refine kO ?_
  refine ap aa (i:=i) (c:=c) hx rfl rfl rfl rfl rfl rfl rfl rfl ?_
  by_cases hsp:c=32∨c=9
  ·rw[hdrop,cU,if_pos hsp]at h3
   by_cases c32:c=32
   ·have e32:c.toNat=32:=by rw[c32];rfl
    refine kX ?_
    exact⟨(i+1,acc),⟨hlt,by dsimp only;omega,f,by dsimp only;omega,h3⟩,by dsimp only;omega,by
     cases acc
     ·exact weak ⟨rfl,rfl,rfl,rfl,rfl,bc (by omega) (by omega),trivial⟩ trivial rfl
     ·exact weak ⟨rfl,rfl,rfl,rfl,rfl,bc (by omega) (by omega),trivial⟩ ⟨rfl,trivial⟩ rfl⟩
   ·have e32:¬c.toNat=32:=dK c32
    have e9:c.toNat=9:=by rw[hsp.resolve_left c32];rfl
    refine kE ?_
    iterate 3 refine kO ?_
    refine ap aa (i:=i) (c:=c) hx rfl rfl rfl rfl rfl rfl rfl rfl ?_;refine kX ?_
    exact⟨(i+1,acc),⟨hlt,by dsimp only;omega,f,by dsimp only;omega,h3⟩,by dsimp only;omega,by
     cases acc
     ·exact weak ⟨rfl,rfl,rfl,rfl,rfl,bc (by omega) (by omega),trivial⟩ trivial rfl
     ·exact weak ⟨rfl,rfl,rfl,rfl,rfl,bc (by omega) (by omega),trivial⟩ ⟨rfl,trivial⟩ rfl⟩
  ·have e32:¬c.toNat=32:=dK (fun e=>hsp (.inl e))
   have e9:¬c.toNat=9:=dK (fun e=>hsp (.inr e));have hdl:(s.drop i).length=s.length-i:=List.length_drop;have hnl:=uN (s.drop i);have hnx:=FQ s i c (s.drop (i+1));rw[← hdrop]at hnx;rw[hdrop,cU,if_neg hsp]at h3;rw[← hdrop]at h3;generalize(gK (s.drop i)).1=k at *;generalize(gK (s.drop i)).2=n at *;generalize qW (s.drop i)=w at *;generalize(if 0<aV cx (s.drop i)then jk (s.drop i)else 0)=m at *;generalize(if c=34 then mw (s.drop i)else 0)=q at *;rw[List.drop_drop]at h3;have htx:(s.take (i+n)).drop i=(s.drop i).take n:=by rw[List.drop_take];congr 1;omega
   rw[← htx]at h3;cases acc with
   |nil=>
    refine kE ?_
    iterate 3 refine kO ?_
    refine ap aa (i:=i) (c:=c) hx rfl rfl rfl rfl rfl rfl rfl rfl ?_;refine kE ?_;refine kG ?_
    iterate 2 refine kO ?_
    refine kC (cw) ?_;refine kG ?_
    iterate 2 refine kO ?_
    cases hnx with
    |lg hw h=>
     subst hw;refine kJ ((w:Nat)) ?_;rw[if_neg (by omega),if_pos ⟨rfl,h⟩]at h3;refine kT ?_;rw[← h3];exact kF
    |wd h0 hw h=>
     subst hw;refine kJ ((w:Nat)) ?_;refine kE ?_;rw[if_neg (by omega),if_neg (by omega)]at h3;refine kG ?_
     iterate 2 refine kO ?_
     refine kE ?_;refine kG ?_
     iterate 2 refine kO ?_
     refine kE ?_;refine kG ?_
     iterate 2 refine kO ?_
     refine kE ?_;refine kG ?_
     iterate 2 refine kO ?_
     refine kE ?_;refine kG ?_
     iterate 2 refine kO ?_
     refine kE ?_;refine kG ?_
     iterate 5 refine kO ?_
     refine iJ aa (l:=s) (i:=i) (j:=i+w) (by omega) (by omega) rfl rfl rfl rfl rfl rfl rfl rfl rfl ?_
     iterate 3 refine kO ?_
     refine cW 13002 (m1:=0) (m2:=1) aa (by decide) (by decide) rfl rfl rfl rfl rfl rfl rfl rfl rfl rfl rfl (.nil rfl rfl) rfl rfl rfl ?_;refine kW ?_
     exact⟨(i+w,([]:List Tk)++[(1,(s.take (i+w)).drop i,i)]),⟨by dsimp only;omega,by rw[List.length_append];dsimp only[List.length_cons,List.length_nil]at h2 ⊢;omega,f,by dsimp only;omega,h3⟩,by dsimp only;omega,by
      exact Eq.mpr (congrArg (bt _) (ff s ([]:List Tk) (1,(s.take (i+w)).drop i,i) (i+w))) (bt.trans (b:=⟨[(0, .d (dL s)),(2, .nil),(3, .d (dN .i64 0)),(4, .d (dN .i64 0)),(5, .own 13002 (([]:List Tk).length+1) 3 77),(6, .d (dN .i64 ((i+w:Nat))))],[(13002,some ((b6 ([]:List Tk)).take (([]:List Tk).length*3)++iv (1,(s.take (i+w)).drop i,i)))]⟩) (weak ⟨rfl,rfl,rfl,rfl,rfl,rfl,trivial⟩ ⟨rfl,trivial⟩ rfl) ((bg (q:=5) (j:=13002) (j':=13001) (m:=([]:List Tk).length+1) (k:=3) (e:=77) (cs:=(b6 ([]:List Tk)).take (([]:List Tk).length*3)++iv (1,(s.take (i+w)).drop i,i)) rfl rfl rfl rfl).trans (weak ⟨rfl,rfl,rfl,rfl,rfl,rfl,trivial⟩ ⟨rfl,trivial⟩ rfl)))⟩
    |nm h0 hw hm=>
     subst hw hm;refine kJ ((0:Nat)) ?_;refine kE ?_;refine kG ?_
     iterate 2 refine kO ?_
     refine kX ?_;refine kC (cm) ?_;refine kG ?_;rw[if_neg (by omega),if_neg (by omega)]at h3
     iterate 2 refine kO ?_
     refine kE ?_;refine kG ?_
     iterate 2 refine kO ?_
     refine kE ?_;refine kG ?_
     iterate 2 refine kO ?_
     refine kE ?_;refine kG ?_
     iterate 2 refine kO ?_
     refine kE ?_;refine kG ?_
     iterate 5 refine kO ?_
     refine iJ aa (l:=s) (i:=i) (j:=i+m) (by omega) (by omega) rfl rfl rfl rfl rfl rfl rfl rfl rfl ?_
     iterate 3 refine kO ?_
     refine cW 13002 (m1:=0) (m2:=1) aa (by decide) (by decide) rfl rfl rfl rfl rfl rfl rfl rfl rfl rfl rfl (.nil rfl rfl) rfl rfl rfl ?_;refine kW ?_
     exact⟨(i+m,([]:List Tk)++[(2,(s.take (i+m)).drop i,i)]),⟨by dsimp only;omega,by rw[List.length_append];dsimp only[List.length_cons,List.length_nil]at h2 ⊢;omega,f,by dsimp only;omega,h3⟩,by dsimp only;omega,by
      exact Eq.mpr (congrArg (bt _) (ff s ([]:List Tk) (2,(s.take (i+m)).drop i,i) (i+m))) (bt.trans (b:=⟨[(0, .d (dL s)),(2, .nil),(3, .d (dN .i64 0)),(4, .d (dN .i64 0)),(5, .own 13002 (([]:List Tk).length+1) 3 77),(6, .d (dN .i64 ((i+m:Nat))))],[(13002,some ((b6 ([]:List Tk)).take (([]:List Tk).length*3)++iv (2,(s.take (i+m)).drop i,i)))]⟩) (weak ⟨rfl,rfl,rfl,rfl,rfl,rfl,trivial⟩ ⟨rfl,trivial⟩ rfl) ((bg (q:=5) (j:=13002) (j':=13001) (m:=([]:List Tk).length+1) (k:=3) (e:=77) (cs:=(b6 ([]:List Tk)).take (([]:List Tk).length*3)++iv (2,(s.take (i+m)).drop i,i)) rfl rfl rfl rfl).trans (weak ⟨rfl,rfl,rfl,rfl,rfl,rfl,trivial⟩ ⟨rfl,trivial⟩ rfl)))⟩
    |qt h0 hw hm hq=>
     subst hw hm hq;refine kJ ((0:Nat)) ?_;refine kE ?_;refine kG ?_
     iterate 2 refine kO ?_
     refine kX ?_;refine kC (cm) ?_;refine kG ?_
     iterate 2 refine kO ?_
     refine kX ?_;refine kC (cq) ?_;refine kG ?_;rw[if_neg (by omega),if_neg (by omega)]at h3
     iterate 2 refine kO ?_
     refine kE ?_;refine kG ?_
     iterate 2 refine kO ?_
     refine kE ?_;refine kG ?_
     iterate 2 refine kO ?_
     refine kE ?_;refine kG ?_
     iterate 5 refine kO ?_
     refine iJ aa (l:=s) (i:=i) (j:=i+q) (by omega) (by omega) rfl rfl rfl rfl rfl rfl rfl rfl rfl ?_
     iterate 3 refine kO ?_
     refine cW 13002 (m1:=0) (m2:=1) aa (by decide) (by decide) rfl rfl rfl rfl rfl rfl rfl rfl rfl rfl rfl (.nil rfl rfl) rfl rfl rfl ?_;refine kW ?_
     exact⟨(i+q,([]:List Tk)++[(3,(s.take (i+q)).drop i,i)]),⟨by dsimp only;omega,by rw[List.length_append];dsimp only[List.length_cons,List.length_nil]at h2 ⊢;omega,f,by dsimp only;omega,h3⟩,by dsimp only;omega,by
      exact Eq.mpr (congrArg (bt _) (ff s ([]:List Tk) (3,(s.take (i+q)).drop i,i) (i+q))) (bt.trans (b:=⟨[(0, .d (dL s)),(2, .nil),(3, .d (dN .i64 0)),(4, .d (dN .i64 0)),(5, .own 13002 (([]:List Tk).length+1) 3 77),(6, .d (dN .i64 ((i+q:Nat))))],[(13002,some ((b6 ([]:List Tk)).take (([]:List Tk).length*3)++iv (3,(s.take (i+q)).drop i,i)))]⟩) (weak ⟨rfl,rfl,rfl,rfl,rfl,rfl,trivial⟩ ⟨rfl,trivial⟩ rfl) ((bg (q:=5) (j:=13002) (j':=13001) (m:=([]:List Tk).length+1) (k:=3) (e:=77) (cs:=(b6 ([]:List Tk)).take (([]:List Tk).length*3)++iv (3,(s.take (i+q)).drop i,i)) rfl rfl rfl rfl).trans (weak ⟨rfl,rfl,rfl,rfl,rfl,rfl,trivial⟩ ⟨rfl,trivial⟩ rfl)))⟩
    |sy hw hm hq hs=>
     subst hw hm hq;refine kJ ((0:Nat)) ?_;refine kE ?_;refine kG ?_
     iterate 2 refine kO ?_
     refine kX ?_;refine kC (cm) ?_;refine kG ?_
     iterate 2 refine kO ?_
     refine kX ?_;refine kC (cq) ?_;refine kG ?_
     iterate 2 refine kO ?_
     refine kT ?_
     iterate 3 refine kO ?_
     refine ap aa (i:=i) (c:=c) hx rfl rfl rfl rfl rfl rfl rfl rfl ?_;rw[hs]at cs;refine kC (cs) ?_;rw[if_neg (by omega),if_neg (by omega)]at h3;refine kG ?_;refine kO ?_;refine kJ ((i+1:Nat)) ?_;refine kG ?_
     iterate 2 refine kO ?_
     refine kE ?_;refine kG ?_
     iterate 2 refine kO ?_
     refine kE ?_;refine kG ?_
     iterate 5 refine kO ?_
     refine iJ aa (l:=s) (i:=i) (j:=i+1) (by omega) (by omega) rfl rfl rfl rfl rfl rfl rfl rfl rfl ?_
     iterate 3 refine kO ?_
     refine cW 13002 (m1:=0) (m2:=1) aa (by decide) (by decide) rfl rfl rfl rfl rfl rfl rfl rfl rfl rfl rfl (.nil rfl rfl) rfl rfl rfl ?_;refine kW ?_
     exact⟨(i+1,([]:List Tk)++[(4,(s.take (i+1)).drop i,i)]),⟨by dsimp only;omega,by rw[List.length_append];dsimp only[List.length_cons,List.length_nil]at h2 ⊢;omega,f,by dsimp only;omega,h3⟩,by dsimp only;omega,by
      exact Eq.mpr (congrArg (bt _) (ff s ([]:List Tk) (4,(s.take (i+1)).drop i,i) (i+1))) (bt.trans (b:=⟨[(0, .d (dL s)),(2, .nil),(3, .d (dN .i64 0)),(4, .d (dN .i64 0)),(5, .own 13002 (([]:List Tk).length+1) 3 77),(6, .d (dN .i64 ((i+1:Nat))))],[(13002,some ((b6 ([]:List Tk)).take (([]:List Tk).length*3)++iv (4,(s.take (i+1)).drop i,i)))]⟩) (weak ⟨rfl,rfl,rfl,rfl,rfl,rfl,trivial⟩ ⟨rfl,trivial⟩ rfl) ((bg (q:=5) (j:=13002) (j':=13001) (m:=([]:List Tk).length+1) (k:=3) (e:=77) (cs:=(b6 ([]:List Tk)).take (([]:List Tk).length*3)++iv (4,(s.take (i+1)).drop i,i)) rfl rfl rfl rfl).trans (weak ⟨rfl,rfl,rfl,rfl,rfl,rfl,trivial⟩ ⟨rfl,trivial⟩ rfl)))⟩
    |nl hw hm hq hs hc=>
     subst hw hm hq;refine kJ ((0:Nat)) ?_;refine kE ?_;refine kG ?_
     iterate 2 refine kO ?_
     refine kX ?_;refine kC (cm) ?_;refine kG ?_
     iterate 2 refine kO ?_
     refine kX ?_;refine kC (cq) ?_;refine kG ?_
     iterate 2 refine kO ?_
     refine kT ?_
     iterate 3 refine kO ?_
     refine ap aa (i:=i) (c:=c) hx rfl rfl rfl rfl rfl rfl rfl rfl ?_;rw[hs]at cs;refine kC (cs) ?_;refine kG ?_
     iterate 2 refine kO ?_
     refine kT ?_
     iterate 3 refine kO ?_
     refine ap aa (i:=i) (c:=c) hx rfl rfl rfl rfl rfl rfl rfl rfl ?_;have e10:c.toNat=10:=by rw[hc];rfl
     refine kT ?_;rw[if_neg (by omega),if_neg (by omega)]at h3;refine kG ?_;refine kO ?_;refine kJ ((i+1:Nat)) ?_;refine kG ?_
     iterate 2 refine kO ?_
     refine kE ?_;refine kG ?_
     iterate 5 refine kO ?_
     refine iJ aa (l:=s) (i:=i) (j:=i+1) (by omega) (by omega) rfl rfl rfl rfl rfl rfl rfl rfl rfl ?_
     iterate 3 refine kO ?_
     refine cW 13002 (m1:=0) (m2:=1) aa (by decide) (by decide) rfl rfl rfl rfl rfl rfl rfl rfl rfl rfl rfl (.nil rfl rfl) rfl rfl rfl ?_;refine kW ?_
     exact⟨(i+1,([]:List Tk)++[(5,(s.take (i+1)).drop i,i)]),⟨by dsimp only;omega,by rw[List.length_append];dsimp only[List.length_cons,List.length_nil]at h2 ⊢;omega,f,by dsimp only;omega,h3⟩,by dsimp only;omega,by
      exact Eq.mpr (congrArg (bt _) (ff s ([]:List Tk) (5,(s.take (i+1)).drop i,i) (i+1))) (bt.trans (b:=⟨[(0, .d (dL s)),(2, .nil),(3, .d (dN .i64 0)),(4, .d (dN .i64 0)),(5, .own 13002 (([]:List Tk).length+1) 3 77),(6, .d (dN .i64 ((i+1:Nat))))],[(13002,some ((b6 ([]:List Tk)).take (([]:List Tk).length*3)++iv (5,(s.take (i+1)).drop i,i)))]⟩) (weak ⟨rfl,rfl,rfl,rfl,rfl,rfl,trivial⟩ ⟨rfl,trivial⟩ rfl) ((bg (q:=5) (j:=13002) (j':=13001) (m:=([]:List Tk).length+1) (k:=3) (e:=77) (cs:=(b6 ([]:List Tk)).take (([]:List Tk).length*3)++iv (5,(s.take (i+1)).drop i,i)) rfl rfl rfl rfl).trans (weak ⟨rfl,rfl,rfl,rfl,rfl,rfl,trivial⟩ ⟨rfl,trivial⟩ rfl)))⟩
    |no hw hm hq hs hc=>
     subst hw hm hq;refine kJ ((0:Nat)) ?_;refine kE ?_;refine kG ?_
     iterate 2 refine kO ?_
     refine kX ?_;refine kC (cm) ?_;refine kG ?_
     iterate 2 refine kO ?_
     refine kX ?_;refine kC (cq) ?_;refine kG ?_
     iterate 2 refine kO ?_
     refine kT ?_
     iterate 3 refine kO ?_
     refine ap aa (i:=i) (c:=c) hx rfl rfl rfl rfl rfl rfl rfl rfl ?_;rw[hs]at cs;refine kC (cs) ?_;refine kG ?_
     iterate 2 refine kO ?_
     refine kT ?_
     iterate 3 refine kO ?_
     refine ap aa (i:=i) (c:=c) hx rfl rfl rfl rfl rfl rfl rfl rfl ?_;have e10:¬c.toNat=10:=dK hc;refine kE ?_;rw[if_pos rfl]at h3;refine kG ?_
     iterate 2 refine kO ?_
     refine kT ?_;rw[← h3];exact kF
   |cons a r=>
    refine kE ?_
    iterate 3 refine kO ?_
    refine ap aa (i:=i) (c:=c) hx rfl rfl rfl rfl rfl rfl rfl rfl ?_;refine kE ?_;refine kG ?_
    iterate 2 refine kO ?_
    refine kC (cw) ?_;refine kG ?_
    iterate 2 refine kO ?_
    cases hnx with
    |lg hw h=>
     subst hw;refine kJ ((w:Nat)) ?_;rw[if_neg (by omega),if_pos ⟨rfl,h⟩]at h3;refine kT ?_;rw[← h3];exact kF
    |wd h0 hw h=>
     subst hw;refine kJ ((w:Nat)) ?_;refine kE ?_;rw[if_neg (by omega),if_neg (by omega)]at h3;refine kG ?_
     iterate 2 refine kO ?_
     refine kE ?_;refine kG ?_
     iterate 2 refine kO ?_
     refine kE ?_;refine kG ?_
     iterate 2 refine kO ?_
     refine kE ?_;refine kG ?_
     iterate 2 refine kO ?_
     refine kE ?_;refine kG ?_
     iterate 2 refine kO ?_
     refine kE ?_;refine kG ?_
     iterate 5 refine kO ?_
     refine iJ aa (l:=s) (i:=i) (j:=i+w) (by omega) (by omega) rfl rfl rfl rfl rfl rfl rfl rfl rfl ?_
     iterate 3 refine kO ?_
     refine cW 13002 (m1:=(a::r).length) (m2:=1) aa (by decide) (by show((a::r).length+1)*32≤_;omega) rfl rfl rfl rfl rfl rfl rfl rfl rfl rfl rfl (.own rfl rfl) rfl rfl rfl ?_;refine kW ?_
     exact⟨(i+w,(a::r)++[(1,(s.take (i+w)).drop i,i)]),⟨by dsimp only;omega,by rw[List.length_append];dsimp only[List.length_cons,List.length_nil]at h2 ⊢;omega,f,by dsimp only;omega,h3⟩,by dsimp only;omega,by
      exact Eq.mpr (congrArg (bt _) (ff s (a::r) (1,(s.take (i+w)).drop i,i) (i+w))) (bt.trans (b:=⟨[(0, .d (dL s)),(2, .nil),(3, .d (dN .i64 0)),(4, .d (dN .i64 0)),(5, .own 13002 ((a::r).length+1) 3 77),(6, .d (dN .i64 ((i+w:Nat))))],[(13002,some ((b6 (a::r)).take ((a::r).length*3)++iv (1,(s.take (i+w)).drop i,i)))]⟩) (weak ⟨rfl,rfl,rfl,rfl,rfl,rfl,trivial⟩ ⟨rfl,trivial⟩ rfl) ((bg (q:=5) (j:=13002) (j':=13001) (m:=(a::r).length+1) (k:=3) (e:=77) (cs:=(b6 (a::r)).take ((a::r).length*3)++iv (1,(s.take (i+w)).drop i,i)) rfl rfl rfl rfl).trans (weak ⟨rfl,rfl,rfl,rfl,rfl,rfl,trivial⟩ ⟨rfl,trivial⟩ rfl)))⟩
    |nm h0 hw hm=>
     subst hw hm;refine kJ ((0:Nat)) ?_;refine kE ?_;refine kG ?_
     iterate 2 refine kO ?_
     refine kX ?_;refine kC (cm) ?_;refine kG ?_;rw[if_neg (by omega),if_neg (by omega)]at h3
     iterate 2 refine kO ?_
     refine kE ?_;refine kG ?_
     iterate 2 refine kO ?_
     refine kE ?_;refine kG ?_
     iterate 2 refine kO ?_
     refine kE ?_;refine kG ?_
     iterate 2 refine kO ?_
     refine kE ?_;refine kG ?_
     iterate 5 refine kO ?_
     refine iJ aa (l:=s) (i:=i) (j:=i+m) (by omega) (by omega) rfl rfl rfl rfl rfl rfl rfl rfl rfl ?_
     iterate 3 refine kO ?_
     refine cW 13002 (m1:=(a::r).length) (m2:=1) aa (by decide) (by show((a::r).length+1)*32≤_;omega) rfl rfl rfl rfl rfl rfl rfl rfl rfl rfl rfl (.own rfl rfl) rfl rfl rfl ?_;refine kW ?_
     exact⟨(i+m,(a::r)++[(2,(s.take (i+m)).drop i,i)]),⟨by dsimp only;omega,by rw[List.length_append];dsimp only[List.length_cons,List.length_nil]at h2 ⊢;omega,f,by dsimp only;omega,h3⟩,by dsimp only;omega,by
      exact Eq.mpr (congrArg (bt _) (ff s (a::r) (2,(s.take (i+m)).drop i,i) (i+m))) (bt.trans (b:=⟨[(0, .d (dL s)),(2, .nil),(3, .d (dN .i64 0)),(4, .d (dN .i64 0)),(5, .own 13002 ((a::r).length+1) 3 77),(6, .d (dN .i64 ((i+m:Nat))))],[(13002,some ((b6 (a::r)).take ((a::r).length*3)++iv (2,(s.take (i+m)).drop i,i)))]⟩) (weak ⟨rfl,rfl,rfl,rfl,rfl,rfl,trivial⟩ ⟨rfl,trivial⟩ rfl) ((bg (q:=5) (j:=13002) (j':=13001) (m:=(a::r).length+1) (k:=3) (e:=77) (cs:=(b6 (a::r)).take ((a::r).length*3)++iv (2,(s.take (i+m)).drop i,i)) rfl rfl rfl rfl).trans (weak ⟨rfl,rfl,rfl,rfl,rfl,rfl,trivial⟩ ⟨rfl,trivial⟩ rfl)))⟩
    |qt h0 hw hm hq=>
     subst hw hm hq;refine kJ ((0:Nat)) ?_;refine kE ?_;refine kG ?_
     iterate 2 refine kO ?_
     refine kX ?_;refine kC (cm) ?_;refine kG ?_
     iterate 2 refine kO ?_
     refine kX ?_;refine kC (cq) ?_;refine kG ?_;rw[if_neg (by omega),if_neg (by omega)]at h3
     iterate 2 refine kO ?_
     refine kE ?_;refine kG ?_
     iterate 2 refine kO ?_
     refine kE ?_;refine kG ?_
     iterate 2 refine kO ?_
     refine kE ?_;refine kG ?_
     iterate 5 refine kO ?_
     refine iJ aa (l:=s) (i:=i) (j:=i+q) (by omega) (by omega) rfl rfl rfl rfl rfl rfl rfl rfl rfl ?_
     iterate 3 refine kO ?_
     refine cW 13002 (m1:=(a::r).length) (m2:=1) aa (by decide) (by show((a::r).length+1)*32≤_;omega) rfl rfl rfl rfl rfl rfl rfl rfl rfl rfl rfl (.own rfl rfl) rfl rfl rfl ?_;refine kW ?_
     exact⟨(i+q,(a::r)++[(3,(s.take (i+q)).drop i,i)]),⟨by dsimp only;omega,by rw[List.length_append];dsimp only[List.length_cons,List.length_nil]at h2 ⊢;omega,f,by dsimp only;omega,h3⟩,by dsimp only;omega,by
      exact Eq.mpr (congrArg (bt _) (ff s (a::r) (3,(s.take (i+q)).drop i,i) (i+q))) (bt.trans (b:=⟨[(0, .d (dL s)),(2, .nil),(3, .d (dN .i64 0)),(4, .d (dN .i64 0)),(5, .own 13002 ((a::r).length+1) 3 77),(6, .d (dN .i64 ((i+q:Nat))))],[(13002,some ((b6 (a::r)).take ((a::r).length*3)++iv (3,(s.take (i+q)).drop i,i)))]⟩) (weak ⟨rfl,rfl,rfl,rfl,rfl,rfl,trivial⟩ ⟨rfl,trivial⟩ rfl) ((bg (q:=5) (j:=13002) (j':=13001) (m:=(a::r).length+1) (k:=3) (e:=77) (cs:=(b6 (a::r)).take ((a::r).length*3)++iv (3,(s.take (i+q)).drop i,i)) rfl rfl rfl rfl).trans (weak ⟨rfl,rfl,rfl,rfl,rfl,rfl,trivial⟩ ⟨rfl,trivial⟩ rfl)))⟩
    |sy hw hm hq hs=>
     subst hw hm hq;refine kJ ((0:Nat)) ?_;refine kE ?_;refine kG ?_
     iterate 2 refine kO ?_
     refine kX ?_;refine kC (cm) ?_;refine kG ?_
     iterate 2 refine kO ?_
     refine kX ?_;refine kC (cq) ?_;refine kG ?_
     iterate 2 refine kO ?_
     refine kT ?_
     iterate 3 refine kO ?_
     refine ap aa (i:=i) (c:=c) hx rfl rfl rfl rfl rfl rfl rfl rfl ?_;rw[hs]at cs;refine kC (cs) ?_;rw[if_neg (by omega),if_neg (by omega)]at h3;refine kG ?_;refine kO ?_;refine kJ ((i+1:Nat)) ?_;refine kG ?_
     iterate 2 refine kO ?_
     refine kE ?_;refine kG ?_
     iterate 2 refine kO ?_
     refine kE ?_;refine kG ?_
     iterate 5 refine kO ?_
     refine iJ aa (l:=s) (i:=i) (j:=i+1) (by omega) (by omega) rfl rfl rfl rfl rfl rfl rfl rfl rfl ?_
     iterate 3 refine kO ?_
     refine cW 13002 (m1:=(a::r).length) (m2:=1) aa (by decide) (by show((a::r).length+1)*32≤_;omega) rfl rfl rfl rfl rfl rfl rfl rfl rfl rfl rfl (.own rfl rfl) rfl rfl rfl ?_;refine kW ?_
     exact⟨(i+1,(a::r)++[(4,(s.take (i+1)).drop i,i)]),⟨by dsimp only;omega,by rw[List.length_append];dsimp only[List.length_cons,List.length_nil]at h2 ⊢;omega,f,by dsimp only;omega,h3⟩,by dsimp only;omega,by
      exact Eq.mpr (congrArg (bt _) (ff s (a::r) (4,(s.take (i+1)).drop i,i) (i+1))) (bt.trans (b:=⟨[(0, .d (dL s)),(2, .nil),(3, .d (dN .i64 0)),(4, .d (dN .i64 0)),(5, .own 13002 ((a::r).length+1) 3 77),(6, .d (dN .i64 ((i+1:Nat))))],[(13002,some ((b6 (a::r)).take ((a::r).length*3)++iv (4,(s.take (i+1)).drop i,i)))]⟩) (weak ⟨rfl,rfl,rfl,rfl,rfl,rfl,trivial⟩ ⟨rfl,trivial⟩ rfl) ((bg (q:=5) (j:=13002) (j':=13001) (m:=(a::r).length+1) (k:=3) (e:=77) (cs:=(b6 (a::r)).take ((a::r).length*3)++iv (4,(s.take (i+1)).drop i,i)) rfl rfl rfl rfl).trans (weak ⟨rfl,rfl,rfl,rfl,rfl,rfl,trivial⟩ ⟨rfl,trivial⟩ rfl)))⟩
    |nl hw hm hq hs hc=>
     subst hw hm hq;refine kJ ((0:Nat)) ?_;refine kE ?_;refine kG ?_
     iterate 2 refine kO ?_
     refine kX ?_;refine kC (cm) ?_;refine kG ?_
     iterate 2 refine kO ?_
     refine kX ?_;refine kC (cq) ?_;refine kG ?_
     iterate 2 refine kO ?_
     refine kT ?_
     iterate 3 refine kO ?_
     refine ap aa (i:=i) (c:=c) hx rfl rfl rfl rfl rfl rfl rfl rfl ?_;rw[hs]at cs;refine kC (cs) ?_;refine kG ?_
     iterate 2 refine kO ?_
     refine kT ?_
     iterate 3 refine kO ?_
     refine ap aa (i:=i) (c:=c) hx rfl rfl rfl rfl rfl rfl rfl rfl ?_;have e10:c.toNat=10:=by rw[hc];rfl
     refine kT ?_;rw[if_neg (by omega),if_neg (by omega)]at h3;refine kG ?_;refine kO ?_;refine kJ ((i+1:Nat)) ?_;refine kG ?_
     iterate 2 refine kO ?_
     refine kE ?_;refine kG ?_
     iterate 5 refine kO ?_
     refine iJ aa (l:=s) (i:=i) (j:=i+1) (by omega) (by omega) rfl rfl rfl rfl rfl rfl rfl rfl rfl ?_
     iterate 3 refine kO ?_
     refine cW 13002 (m1:=(a::r).length) (m2:=1) aa (by decide) (by show((a::r).length+1)*32≤_;omega) rfl rfl rfl rfl rfl rfl rfl rfl rfl rfl rfl (.own rfl rfl) rfl rfl rfl ?_;refine kW ?_
     exact⟨(i+1,(a::r)++[(5,(s.take (i+1)).drop i,i)]),⟨by dsimp only;omega,by rw[List.length_append];dsimp only[List.length_cons,List.length_nil]at h2 ⊢;omega,f,by dsimp only;omega,h3⟩,by dsimp only;omega,by
      exact Eq.mpr (congrArg (bt _) (ff s (a::r) (5,(s.take (i+1)).drop i,i) (i+1))) (bt.trans (b:=⟨[(0, .d (dL s)),(2, .nil),(3, .d (dN .i64 0)),(4, .d (dN .i64 0)),(5, .own 13002 ((a::r).length+1) 3 77),(6, .d (dN .i64 ((i+1:Nat))))],[(13002,some ((b6 (a::r)).take ((a::r).length*3)++iv (5,(s.take (i+1)).drop i,i)))]⟩) (weak ⟨rfl,rfl,rfl,rfl,rfl,rfl,trivial⟩ ⟨rfl,trivial⟩ rfl) ((bg (q:=5) (j:=13002) (j':=13001) (m:=(a::r).length+1) (k:=3) (e:=77) (cs:=(b6 (a::r)).take ((a::r).length*3)++iv (5,(s.take (i+1)).drop i,i)) rfl rfl rfl rfl).trans (weak ⟨rfl,rfl,rfl,rfl,rfl,rfl,trivial⟩ ⟨rfl,trivial⟩ rfl)))⟩
    |no hw hm hq hs hc=>
     subst hw hm hq;refine kJ ((0:Nat)) ?_;refine kE ?_;refine kG ?_
     iterate 2 refine kO ?_
     refine kX ?_;refine kC (cm) ?_;refine kG ?_
     iterate 2 refine kO ?_
     refine kX ?_;refine kC (cq) ?_;refine kG ?_
     iterate 2 refine kO ?_
     refine kT ?_
     iterate 3 refine kO ?_
     refine ap aa (i:=i) (c:=c) hx rfl rfl rfl rfl rfl rfl rfl rfl ?_;rw[hs]at cs;refine kC (cs) ?_;refine kG ?_
     iterate 2 refine kO ?_
     refine kT ?_
     iterate 3 refine kO ?_
     refine ap aa (i:=i) (c:=c) hx rfl rfl rfl rfl rfl rfl rfl rfl ?_;have e10:¬c.toNat=10:=dK hc;refine kE ?_;rw[if_pos rfl]at h3;refine kG ?_
     iterate 2 refine kO ?_
     refine kT ?_;rw[← h3];exact kF
 ·refine kE ?_
  obtain rfl:i=s.length:=by omega
  rw[List.drop_eq_nil_of_le (Nat.le_refl _),cU]at h3;refine kN ?_;refine aJ (T:=TT) ?_;refine eB (T:=TT) rfl ?_;refine eN ?_;refine kI ?_
  iterate 2 refine kO ?_
  refine fj (v':= .int .i64 ((s.length:Nat))) rfl rfl rfl rfl ?_ ?_
  ·exact congrArg (Value.int .i64) (by rw[hB])
  iterate 2 refine kO ?_
  cases acc with
  |nil=>
   refine cW 15002 (m1:=0) (m2:=1) aa (by decide) (by decide) rfl rfl rfl rfl rfl rfl rfl rfl rfl rfl rfl (.nil rfl rfl) rfl rfl rfl ?_;refine zD aa rfl rfl rfl rfl (fx (q:=2) rfl rfl) ?_;rw[← h3];exact kF
  |cons a r=>
   refine cW 15002 (m1:=(a::r).length) (m2:=1) aa (by decide) (by show((a::r).length+1)*32≤_;omega) rfl rfl rfl rfl rfl rfl rfl rfl rfl rfl rfl (.own rfl rfl) rfl rfl rfl ?_
   have hV:jK R= .tup [.leaf (.sl ((a::r).length+1) ((b6 (a::r)).take ((a::r).length*3)++iv (0,[],s.length))),dN .i64 0,dN .i64 0]:=by
    rw[← h3,jK,ke,p7,List.length_append];rfl
   refine zD aa rfl rfl rfl rfl (fx (q:=2) rfl rfl) ?_;rw[hV];exact kF
section
variable {P:Program} {T:TypeId→Option Ty} {n:Nat} {ops:Array Oper} {id:Nat} {draw:Bool} {K:AS→Prop} {s:AS} {k:Nat} {o:Oper} {os:List Oper} {fps:List FP}
theorem qu:∀(b c:BL),(∀x∈c,x∈b)→fk b c=[]
 |_,[],_=>rfl
 |b,(j,cs)::r,h=>by
  rw[fk]
  have hj:(am (aC b) j).isSome:=by
   have hm:=h (j,cs) (by simp);clear h
   induction b with
   |nil=>cases hm
   |cons y l ih=>
    obtain⟨i,ci⟩:=y
    by_cases e:i=j
    ·subst e;rw[aC,an];rfl
    ·rw[aC,aA _ _ e]
     rcases List.mem_cons.1 hm with h|h
     ·cases h;exact absurd rfl e
     ·exact ih h
  cases hl:am (aC b) j with
  |none=>rw[hl]at hj;cases hj
  |some x=>exact qu b r (fun x hx=>h x (List.mem_cons_of_mem _ hx))
theorem uU {s:AS}:∀{b:BL},rV s (aC b)→ ∀j,am (aC b++s.b) j=am s.b j
 | [],_,_=>rfl
 |(i,cs)::r,h,j=>by
  have h1:s.bx i=some cs:=h.1;have h2:rV s (aC r):=h.2
  by_cases e:i=j
  ·subst e
   rw[aC,List.cons_append,an];unfold AS.bx at h1
   split at h1
   ·rename_i x hx;cases h1;exact hx.symm
   ·cases h1
  ·rw[aC,List.cons_append,aA _ _ e];exact uU h2 j
theorem CJ {f:Operand} {fid:FuncId} {args:Array Operand} {tys:Array TypeId} {ts:List TV} {b:BL} {r:RT} (hc:aw P fid ts b r b) (h1:gd ops s o=some true) (ho:o.op= .call ⟨.value f,args,tys⟩) (hcl:vC s f args.toList=some (fid,ts)) (hone:tT s f=true)
 (hk:(Eb (aC b) (ts.flatMap fP) && uM (aC b) (aC b))=true) (hb:rV s (aC b)) (hcn:eQ [] s.b=true) (hnew:oI s b b=true) (h3:bn n o.dst=true) (h4:jr draw ops (a6 ops o ⟨r.tv,none⟩ (b.map (·.1))) k fps=true)
 (h:aH P T n ops id draw K (k+1) os (s.eff o.dst ⟨r.tv,none⟩) (a6 ops o ⟨r.tv,none⟩ (b.map (·.1))::fps)):aH P T n ops id draw K k (o::os) s fps:=by
 refine .run h1 (.genC (kV hcn) fun s2 hc2 ht hrb=>?_) h3 h4 h;have hf:s2.ev f=s.ev f:=bd ht (by rw[ho];simp[Op.operands,Call.operands]);have hcl2:=pl (s':=s2) (s:=s) (f:=f) (args:=args.toList) hf (fun x hx=>bd ht (by rw[ho];simp[Op.operands,Call.operands];exact .inr (by simpa using hx)));have hone2:tT s2 f=true:=by unfold tT at hone ⊢;rw[hf];exact hone
 have hb2:=nS hrb hb;have:=ou hc ho (hcl2.trans hcl) hone2 hk hb2 (fun j cs hj _=>hc2 j cs hj) ((lM hrb).trans hnew);intro n S0 w0 g a w K Q hM hd hK;refine this n S0 w0 g a w K Q hM hd fun g' a' w' hM'=>hK g' a' w' (hM'.ext (fun k=>?_) (fun j=>?_))
 ·cases o.dst<;>rfl
 ·rw[qu b b (fun _ h=>h),List.append_nil]
  exact(uU hb2 j).symm
end
def ga (ts:List Tk) (b a e:Int):List AV:=[.sl ts.length (b6 ts), .val (.int .i64 b), .val (.int .i64 a), .val (.int .i64 e)]
theorem bY {ts ts':List Tk} {a e a' e' b b':Int}:fi [(900,ga ts b a e)] [(900,ga ts' b' a' e')]:=fi.one (Nat.le_refl 4)
theorem bB (t:Tk) (r:List Tk) (b a e:Int):aw Tryz.prog 43 [.box 900 0] [(900,ga (t::r) b a e)] (.v (.one (.agg (iv t)))) [(900,ga (t::r) b a e)]:=by
 refine ai aa ac Tryz.func43 rfl rfl rfl rfl rfl (bY) ?_;refine kR ?_;refine kI ?_
 iterate 4 refine kO ?_
 refine bf (i:=0) (cs':=iv t) (Nat.zero_lt_succ _) (fun j a h=>by
  rw[Nat.zero_mul,Nat.zero_add];show(iv t++b6 r)[j]? =some a;rw[List.getElem?_append_left (List.getElem?_eq_some_iff.1 h).1];exact h) (Nat.zero_lt_succ 2) rfl rfl rfl rfl rfl rfl rfl rfl ?_
 refine kW ?_;exact⟨⟨_,rfl,rfl⟩,⟨rfl,trivial⟩⟩
theorem mI (ts:List Tk) (b a p c:Int):aw Tryz.prog 78 [.box 900 0, .d (dN .i64 p), .d (dN .i64 c)] [(900,ga ts b a 0)] (.v (.tup [])) [(900,ga ts b p c)]:=by
 refine ai aa ac Tryz.func78 rfl rfl rfl rfl rfl (bY) ?_;refine kW ?_;exact⟨⟨_,rfl,rfl⟩,⟨rfl,trivial⟩⟩
theorem DM (ts:List Tk) (b a e p c:Int) (he:e≠0):aw Tryz.prog 78 [.box 900 0, .d (dN .i64 p), .d (dN .i64 c)] [(900,ga ts b a e)] (.v (.tup [])) [(900,ga ts b a e)]:=by
 refine ai aa ac Tryz.func78 rfl rfl rfl rfl rfl (bY) ?_;refine kI ?_
 iterate 4 refine kO ?_
 refine kB false ?_ ?_
 ·exact decide_eq_false he
 refine kW ?_;exact⟨⟨_,rfl,rfl⟩,⟨rfl,trivial⟩⟩
def oe (E:Nat) (b:Int) (p:Nat) (c:Int):Int:=if p=E∧b≠0 then b else c
def dm (E:Nat) (ts:List Tk):Prop:=∀t∈ts,(t.1=0→t.2.2=E)∧(t.1≠0→t.2.2<E)
theorem dm.tail {E:Nat} {t:Tk} {r:List Tk} (h:dm E (t::r)):dm E r:=fun u hu=>h u (List.mem_cons_of_mem _ hu)
theorem xI {E:Nat} {b:Int} {t:Tk} {r:List Tk} {c:Int} (h:dm E (t::r)) (ht:t.1≠0):oe E b t.2.2 c=c:=by
 have:=(h t (by simp)).2 ht;exact if_neg (fun e=>by omega)
theorem zF {E:Nat} {b:Int} {t:Tk} {r:List Tk} {c:Int} (h:dm E (t::r)) (ht:t.1=0) (hb:b≠0):oe E b t.2.2 c=b:=by
 have:=(h t (by simp)).1 ht;exact if_pos ⟨by omega,hb⟩
theorem we {E:Nat} {p:Nat} {c:Int}:oe E 0 p c=c:=if_neg (fun e=>e.2 rfl)
theorem lO {E:Nat} {b:Int} {p:Nat} {c:Int} (hc:c≠0):oe E b p c≠0:=by
 unfold oe
 split
 ·rename_i h;exact h.2
 ·exact hc
theorem mM {E:Nat} (t:Tk) (r:List Tk) (b a:Int) (hz:dm E (t::r)):aw Tryz.prog 45 [.box 900 0] [(900,ga (t::r) b a 0)] (.v (.tup [])) [(900,ga (t::r) b t.2.2 (oe E b t.2.2 2))]:=by
 by_cases h0:t.1=0
 ·by_cases hb:b=0
  ·subst hb
   rw[we];refine ai aa ac Tryz.func45 rfl rfl rfl rfl rfl (bY) ?_;refine kW ?_;refine kD (bB t r 0 a 0) ?_;refine kO ?_;refine kT ?_
   iterate 5 refine kO ?_
   refine kB false ?_ ?_
   ·exact(by simp)
   refine kW ?_;refine bT (show gm _ _ _ _ _ _ from ?_);refine kW ?_;refine kD (bB t r 0 a 0) ?_;refine kW ?_;refine kD (mI (t::r) 0 a t.2.2 2) ?_;refine kW ?_;exact⟨⟨_,rfl,rfl⟩,⟨rfl,trivial⟩⟩
  ·rw[zF hz h0 hb]
   refine ai aa ac Tryz.func45 rfl rfl rfl rfl rfl (bY) ?_;refine kW ?_;refine kD (bB t r b a 0) ?_;refine kO ?_;refine kT ?_
   iterate 5 refine kO ?_
   refine kB true ?_ ?_
   ·exact(by simp[hb])
   refine kW ?_;refine CJ (bB t r b a 0) rfl rfl rfl rfl rfl ⟨rfl,trivial⟩ rfl rfl rfl rfl ?_;refine kW ?_;refine kD (mI (t::r) b a t.2.2 b) ?_;refine kW ?_;show gm _ _ _ _ _ _;refine kW ?_;refine kD (bB t r b t.2.2 b) ?_;refine kW ?_;refine kD (DM (t::r) b t.2.2 b t.2.2 2 hb) ?_;refine kW ?_;exact⟨⟨_,rfl,rfl⟩,⟨rfl,trivial⟩⟩
 ·rw[xI hz h0]
  refine ai aa ac Tryz.func45 rfl rfl rfl rfl rfl (bY) ?_;refine kW ?_;refine kD (bB t r b a 0) ?_;refine kO ?_;refine kY ?_;refine bT (show gm _ _ _ _ _ _ from ?_);refine kW ?_;refine kD (bB t r b a 0) ?_;refine kW ?_;refine kD (mI (t::r) b a t.2.2 2) ?_;refine kW ?_;exact⟨⟨_,rfl,rfl⟩,⟨rfl,trivial⟩⟩
theorem da (c:UInt8) (p:Nat) (r:List Tk) (b a:Int):aw Tryz.prog 77 [.box 900 0, .d (dL [c])] [(900,ga ((4,[c],p)::r) b a 0)] (.v (.one (dB true))) [(900,ga r b a 0)]:=by
 refine ai aa ac Tryz.func77 rfl rfl rfl rfl rfl (bY) ?_;refine kW ?_;refine kD (bB (4,[c],p) r b a 0) ?_;refine kW ?_;refine kD (bB (4,[c],p) r b a 0) ?_
 iterate 2 refine kO ?_
 refine aO rfl rfl rfl rfl rfl rfl rfl (gk (a:=[c]) rfl) ?_;refine kG ?_
 iterate 5 refine kO ?_
 refine sL (m:=((4,[c],p)::r).length) (i:=1) (q:=3) aa (by rw[im];exact Nat.le_refl _) (by simp) rfl rfl rfl rfl rfl rfl rfl rfl ?_;refine kW ?_;exact⟨⟨_,rfl,rfl⟩,⟨rfl,trivial⟩⟩
theorem gu (c:UInt8) (t:Tk) (r:List Tk) (b a e:Int) (he:e≠0):aw Tryz.prog 77 [.box 900 0, .d (dL [c])] [(900,ga (t::r) b a e)] (.v (.one (dB false))) [(900,ga (t::r) b a e)]:=by
 refine ai aa ac Tryz.func77 rfl rfl rfl rfl rfl (bY) ?_;refine kR ?_;refine kI ?_
 iterate 4 refine kO ?_
 refine kB true ?_ ?_
 ·exact(by simp[he])
 refine kW ?_;exact⟨⟨_,rfl,rfl⟩,⟨rfl,trivial⟩⟩
theorem eM (c:UInt8) (t:Tk) (r:List Tk) (b a:Int) (hs:a7 c (t::r)=none):aw Tryz.prog 77 [.box 900 0, .d (dL [c])] [(900,ga (t::r) b a 0)] (.v (.one (dB false))) [(900,ga (t::r) b a 0)]:=by
 obtain⟨k,x,p⟩:=t
 have hs:¬(k=4∧x=[c]):=by
  intro h
  simp[a7,h]at hs
 refine ai aa ac Tryz.func77 rfl rfl rfl rfl rfl (bY) ?_;refine kW ?_;refine kD (bB (k,x,p) r b a 0) ?_;refine kO ?_
 by_cases h4:k=4
 ·refine kB false ?_ ?_
  ·exact(by simp[h4])
  iterate 2 refine kO ?_
  refine kO ?_;refine kD (bB (k,x,p) r b a 0) ?_
  iterate 2 refine kO ?_
  refine aO rfl rfl rfl rfl rfl rfl rfl (ee (a:=x) (b:=[c]) (fun e=>hs ⟨h4,e⟩)) ?_;refine kW ?_;exact⟨⟨_,rfl,rfl⟩,⟨rfl,trivial⟩⟩
 ·refine kB true ?_ ?_
  ·exact(by simp;omega)
  refine kW ?_;exact⟨⟨_,rfl,rfl⟩,⟨rfl,trivial⟩⟩
def Rf (fid:FuncId) (xs:List TV) (E:Nat) (ts:List Tk) (b a:Int):gS→Prop
 | .ok (e,r)=>aw Tryz.prog fid (.box 900 0::xs) [(900,ga ts b a 0)] (.v (.one (dE e))) [(900,ga r b a 0)]∧cK r∧dm E r
 | .error (p,c)=>c≠0∧ ∃y ts',aw Tryz.prog fid (.box 900 0::xs) [(900,ga ts b a 0)] (.v (.one (dR y))) [(900,ga ts' b p (oe E b p c))]∧cK ts'∧dm E ts'
def Jo (t:Tk) (ts:List Tk) (b a:Int):gS→Prop
 | .ok (e,r)=>aw Tryz.prog 153 [.box 900 0, .d (.agg (iv t))] [(900,ga ts b a 0)] (.v (.one (dE e))) [(900,ga r b a 0)]∧cK r∧(r=ts∨r=ts.tail)
 | .error (p,c)=>c≠0∧p=t.2.2∧aw Tryz.prog 153 [.box 900 0, .d (.agg (iv t))] [(900,ga ts b a 0)] (.v (.one (dR z7))) [(900,ga ts b p c)]
theorem AL (t u:Tk) (r:List Tk) (b a:Int) (ht5:t.2.1.length≤500) (hw:cK (u::r)):Jo t (u::r) b a (eg t (u::r)):=by
 have cp:=u9 t.2.1;unfold G9 at cp;cases hq:bF t.2.1 with
 |none=>
  have hP:eg t (u::r)= .error (t.2.2,2):=by unfold eg;rw[hq]
  rw[hP];rw[hq]at cp;dsimp only at cp;refine⟨by decide,rfl,?_⟩;refine ai aa ac Tryz.func153 rfl rfl rfl rfl rfl (bY) ?_;refine kR ?_;refine kI ?_
  iterate 2 refine kO ?_
  refine kQ (cp) ?_;refine kD (mI (u::r) b a t.2.2 2) ?_;refine kW ?_;exact⟨⟨_,rfl,rfl⟩,⟨rfl,trivial⟩⟩
 |some q=>
  rw[hq]at cp;dsimp only at cp;obtain⟨tx,cd,_⟩:=oC (ip ht5 hq) (by decide);cases hd:fe q with
  |none=>
   have hP:eg t (u::r)= .error (t.2.2,3):=by unfold eg;rw[hq];dsimp only;rw[hd]
   rw[hd]at cd;have cd:ab Tryz.prog 35 [dQ q] (.tup [dL tx,dB false]):=cd;rw[hP];refine⟨by decide,rfl,?_⟩;refine ai aa ac Tryz.func153 rfl rfl rfl rfl rfl (bY) ?_;refine kR ?_;refine kI ?_
   iterate 2 refine kO ?_
   refine kQ (cp) ?_;refine kQ (cd) ?_;refine kD (mI (u::r) b a t.2.2 3) ?_;refine kW ?_;exact⟨⟨_,rfl,rfl⟩,⟨rfl,trivial⟩⟩
  |some z=>
   rw[hd]at cd;have cd:ab Tryz.prog 35 [dQ q] (.tup [dL tx,dB true]):=cd
   by_cases h1:u.1=1
   ·have hP:eg t (u::r)= .ok (.num q u.2.1,r):=by unfold eg;rw[hq];dsimp only;rw[hd];dsimp only;rw[if_pos h1]
    rw[hP];refine⟨?_,hw.tail (by omega), .inr rfl⟩;refine ai aa ac Tryz.func153 rfl rfl rfl rfl rfl (bY) ?_;refine kR ?_;refine kI ?_
    iterate 2 refine kO ?_
    refine kQ (cp) ?_;refine kQ (cd) ?_;refine kD (bB u r b a 0) ?_;refine kO ?_;refine kX ?_;refine kD (bB u r b a 0) ?_;refine kW ?_;refine sL (m:=(u::r).length) (i:=1) (q:=3) aa (by rw[im];exact Nat.le_refl _) (by simp) rfl rfl rfl rfl rfl rfl rfl rfl ?_;refine kW ?_;exact⟨⟨_,rfl,rfl⟩,⟨rfl,trivial⟩⟩
   ·have hP:eg t (u::r)= .ok (.num q [],u::r):=by unfold eg;rw[hq];dsimp only;rw[hd];dsimp only;rw[if_neg h1]
    rw[hP];refine⟨?_,hw, .inl rfl⟩;refine ai aa ac Tryz.func153 rfl rfl rfl rfl rfl (bY) ?_;refine kR ?_;refine kI ?_
    iterate 2 refine kO ?_
    refine kQ (cp) ?_;refine kQ (cd) ?_;refine kD (bB u r b a 0) ?_;refine kO ?_;refine kY ?_;exact⟨⟨_,rfl,rfl⟩,⟨rfl,trivial⟩⟩
theorem H4 {E f:Nat} {b a:Int} (ih:∀ts x,cK ts→dm E ts→pP f .un ts=some x→Rf 76 [] E ts b a x) (ih2:∀ts x,cK ts→dm E ts→pP f .prim ts=some x→Rf 115 [] E ts b a x) (ts:List Tk) (x:gS) (hT:cK ts) (hz:dm E ts) (hx:pP (f+1) .un ts=some x):Rf 76 [] E ts b a x:=by
 obtain⟨t,r,rfl⟩:=hT.ne;rw[gn]at hx;cases hs:a7 45 (t::r)with
 |some r2=>
  have hs':=hs;obtain⟨rfl,h4⟩:=jF hs;have hw2:cK r2:=hT.tail (by omega);obtain⟨k,tx,p0⟩:=t
  obtain⟨rfl,rfl⟩:k=4∧tx=[45]:=by
   simp only[a7]at hs'
   split at hs'
   ·assumption
   ·cases hs'
  rw[hs]at hx;dsimp only at hx;cases hy:pP f .un r2 with
  |none=>rw[hy]at hx;cases hx
  |some y=>
   have cy:=ih r2 y hw2 hz.tail hy;rw[hy]at hx;cases y with
   |ok z=>
    obtain⟨e,r3⟩:=z;cases hx;obtain⟨cy,hw3⟩:=cy;refine⟨?_,hw3⟩;obtain⟨o1,na1,xs1,nb1,ys1,nm1,n1,cs1,hA⟩:=ar e;rw[show dE (.neg e)= .agg ([.val (.int .i64 3)]++kK++[.val (vL []), .sl 1 (aE e)]) from congrArg DV.agg (nd e),hA];rw[show dE e= .agg (ae o1 na1 xs1 nb1 ys1 nm1 n1 cs1) from congrArg DV.agg hA]at cy;refine ai aa ac Tryz.func76 rfl rfl rfl rfl rfl (bY) ?_;refine kW ?_;refine kD (da 45 p0 r2 b a) ?_;refine kW ?_;refine kD (cy) ?_;refine kW ?_;exact⟨⟨_,rfl,rfl⟩,⟨rfl,trivial⟩⟩
   |error z=>
    cases hx;obtain⟨p,c⟩:=z;obtain⟨hc,y,ts',cy,hw3⟩:=cy;refine⟨hc, .mk 3 false [] false [] [] [y],ts',?_,hw3⟩;obtain⟨o1,na1,xs1,nb1,ys1,nm1,n1,cs1,hA⟩:=aX y;rw[show dR (.mk 3 false [] false [] [] [y])= .agg ([.val (.int .i64 3)]++kK++[.val (vL []), .sl 1 (aR y)]) from congrArg DV.agg (sj y),hA];rw[show dR y= .agg (ae o1 na1 xs1 nb1 ys1 nm1 n1 cs1) from congrArg DV.agg hA]at cy;refine ai aa ac Tryz.func76 rfl rfl rfl rfl rfl (bY) ?_;refine kW ?_;refine kD (da 45 p0 r2 b a) ?_;refine kW ?_;refine kD (cy) ?_;refine kW ?_;exact⟨⟨_,rfl,rfl⟩,⟨rfl,trivial⟩⟩
 |none=>
  rw[hs]at hx;have cy:=ih2 (t::r) x hT hz hx;have cis:=eM 45 t r b a hs;cases x with
  |ok z=>
   obtain⟨e,r3⟩:=z;obtain⟨cy,hw3⟩:=cy;refine⟨?_,hw3⟩;obtain⟨o1,na1,xs1,nb1,ys1,nm1,n1,cs1,hA⟩:=ar e;rw[show dE e= .agg (ae o1 na1 xs1 nb1 ys1 nm1 n1 cs1) from congrArg DV.agg hA]at cy ⊢;refine ai aa ac Tryz.func76 rfl rfl rfl rfl rfl (bY) ?_;refine kW ?_;refine kD (cis) ?_;refine kW ?_;refine kD (cy) ?_;refine kW ?_;exact⟨⟨_,rfl,rfl⟩,⟨rfl,trivial⟩⟩
  |error z=>
   obtain⟨p,c⟩:=z;obtain⟨hc,y,ts',cy,hw3⟩:=cy;refine⟨hc,y,ts',?_,hw3⟩;obtain⟨o1,na1,xs1,nb1,ys1,nm1,n1,cs1,hA⟩:=aX y;rw[show dR y= .agg (ae o1 na1 xs1 nb1 ys1 nm1 n1 cs1) from congrArg DV.agg hA]at cy ⊢;refine ai aa ac Tryz.func76 rfl rfl rfl rfl rfl (bY) ?_;refine kW ?_;refine kD (cis) ?_;refine kW ?_;refine kD (cy) ?_;refine kW ?_;exact⟨⟨_,rfl,rfl⟩,⟨rfl,trivial⟩⟩
theorem Eo {E f:Nat} {b a:Int} (ih:∀ts x,cK ts→dm E ts→pP f .sum ts=some x→Rf 44 [.d (dN .i64 1)] E ts b a x) (ts:List Tk) (x:gS) (hT:cK ts) (hz:dm E ts) (hx:pP (f+1) .prim ts=some x):Rf 115 [] E ts b a x:=by
 obtain⟨t,r,rfl⟩:=hT.ne;rw[dz]at hx;cases hs:a7 40 (t::r)with
 |some r2=>
  have hs':=hs;obtain⟨rfl,h4⟩:=jF hs;have hw2:cK r2:=hT.tail (by omega);obtain⟨k,tx,p0⟩:=t
  obtain⟨rfl,rfl⟩:k=4∧tx=[40]:=by
   simp only[a7]at hs'
   split at hs'
   ·assumption
   ·cases hs'
  rw[hs]at hx;dsimp only at hx;cases hy:pP f .sum r2 with
  |none=>rw[hy]at hx;cases hx
  |some y=>
   have cy:=ih r2 y hw2 hz.tail hy;rw[hy]at hx;cases y with
   |error z=>
    cases hx;obtain⟨p,c⟩:=z;obtain⟨hc,y,ts',cy,hw3⟩:=cy;refine⟨hc,y,ts',?_,hw3⟩;have hc2:oe E b p c≠0:=lO hc;generalize oe E b p c=c2 at *;obtain⟨o1,na1,xs1,nb1,ys1,nm1,n1,cs1,hA⟩:=aX y;rw[show dR y= .agg (ae o1 na1 xs1 nb1 ys1 nm1 n1 cs1) from congrArg DV.agg hA]at cy ⊢;refine ai aa ac Tryz.func115 rfl rfl rfl rfl rfl (bY) ?_;refine kW ?_;refine kD (da 40 p0 r2 b a) ?_;refine kW ?_;refine kD (cy) ?_;refine kG ?_
    iterate 4 refine kO ?_
    refine kB false ?_ ?_
    ·exact decide_eq_false hc2
    refine kW ?_;exact⟨⟨_,rfl,rfl⟩,⟨rfl,trivial⟩⟩
   |ok z=>
    obtain⟨e,r3⟩:=z;obtain⟨cy,hw3,hz3⟩:=cy;obtain⟨u,r4,rfl⟩:=hw3.ne;obtain⟨o1,na1,xs1,nb1,ys1,nm1,n1,cs1,hA⟩:=ar e;rw[show dE e= .agg (ae o1 na1 xs1 nb1 ys1 nm1 n1 cs1) from congrArg DV.agg hA]at cy;dsimp only at hx;cases hs2:a7 41 (u::r4)with
    |some r5=>
     have hs2':=hs2;obtain⟨rfl,h4'⟩:=jF hs2;obtain⟨k,tx,p1⟩:=u
     obtain⟨rfl,rfl⟩:k=4∧tx=[41]:=by
      simp only[a7]at hs2'
      split at hs2'
      ·assumption
      ·cases hs2'
     rw[hs2]at hx;cases hx;refine⟨?_,hw3.tail (by omega),hz3.tail⟩;rw[show dE e= .agg (ae o1 na1 xs1 nb1 ys1 nm1 n1 cs1) from congrArg DV.agg hA];refine ai aa ac Tryz.func115 rfl rfl rfl rfl rfl (bY) ?_;refine kW ?_;refine kD (da 40 p0 r2 b a) ?_;refine kW ?_;refine kD (cy) ?_;refine kW ?_;refine kD (da 41 p1 r5 b a) ?_;refine kW ?_;exact⟨⟨_,rfl,rfl⟩,⟨rfl,trivial⟩⟩
    |none=>
     rw[hs2]at hx;cases hx;refine⟨by decide,rx e,u::r4,?_,hw3,hz3⟩;have hrx:dR (rx e)= .agg (ae o1 na1 xs1 nb1 ys1 nm1 n1 cs1):=congrArg DV.agg hA;rw[hrx];refine ai aa ac Tryz.func115 rfl rfl rfl rfl rfl (bY) ?_;refine kW ?_;refine kD (da 40 p0 r2 b a) ?_;refine kW ?_;refine kD (cy) ?_;refine kW ?_;refine kD (eM 41 u r4 b a hs2) ?_;refine kW ?_;refine kD (mM u r4 b a hz3) ?_;refine kW ?_;exact⟨⟨_,rfl,rfl⟩,⟨rfl,trivial⟩⟩
 |none=>
  rw[hs]at hx;dsimp only at hx;have cis:=eM 40 t r b a hs
  by_cases h2:t.1=2
  ·rw[if_pos h2]at hx
   cases hx;have hT2:=hT.tail (by omega);obtain⟨u,r4,rfl⟩:=hT2.ne;have cn:=AL t u r4 b a (hT.head.2 h2) hT2;cases hP:eg t (u::r4)with
   |ok z=>
    obtain⟨e,r3⟩:=z;rw[hP]at cn;obtain⟨cy,hw3,ho⟩:=cn;refine⟨?_,hw3,?_⟩
    ·obtain⟨o1,na1,xs1,nb1,ys1,nm1,n1,cs1,hA⟩:=ar e
     rw[show dE e= .agg (ae o1 na1 xs1 nb1 ys1 nm1 n1 cs1) from congrArg DV.agg hA]at cy ⊢;refine ai aa ac Tryz.func115 rfl rfl rfl rfl rfl (bY) ?_;refine kW ?_;refine kD (cis) ?_;refine kW ?_;refine kD (bB t (u::r4) b a 0) ?_
     iterate 2 refine kG ?_
     iterate 2 refine kO ?_
     refine kE ?_;refine kG ?_
     iterate 2 refine kO ?_
     refine kX ?_;refine sL (m:=(t::u::r4).length) (i:=1) (q:=3) aa (by rw[im];exact Nat.le_refl _) (by simp) rfl rfl rfl rfl rfl rfl rfl rfl ?_;refine kW ?_;refine kD (cy) ?_;refine kW ?_;exact⟨⟨_,rfl,rfl⟩,⟨rfl,trivial⟩⟩
    ·rcases ho with rfl|rfl
     ·exact hz.tail
     ·exact hz.tail.tail
   |error z=>
    obtain⟨p,c⟩:=z;rw[hP]at cn;obtain⟨hc,rfl,cy⟩:=cn;refine⟨hc,z7,u::r4,?_,hT2,hz.tail⟩;rw[xI hz (by omega)];refine ai aa ac Tryz.func115 rfl rfl rfl rfl rfl (bY) ?_;refine kW ?_;refine kD (cis) ?_;refine kW ?_;refine kD (bB t (u::r4) b a 0) ?_
    iterate 2 refine kG ?_
    iterate 2 refine kO ?_
    refine kE ?_;refine kG ?_
    iterate 2 refine kO ?_
    refine kX ?_;refine sL (m:=(t::u::r4).length) (i:=1) (q:=3) aa (by rw[im];exact Nat.le_refl _) (by simp) rfl rfl rfl rfl rfl rfl rfl rfl ?_;refine kW ?_;refine kD (cy) ?_;refine kW ?_;exact⟨⟨_,rfl,rfl⟩,⟨rfl,trivial⟩⟩
  ·rw[if_neg h2]at hx
   by_cases h1:t.1=1
   ·rw[if_pos h1]at hx
    cases hx;refine⟨?_,hT.tail (by omega),hz.tail⟩;refine ai aa ac Tryz.func115 rfl rfl rfl rfl rfl (bY) ?_;refine kW ?_;refine kD (cis) ?_;refine kW ?_;refine kD (bB t r b a 0) ?_
    iterate 2 refine kG ?_
    iterate 2 refine kO ?_
    refine kX ?_;refine sL (m:=(t::r).length) (i:=1) (q:=3) aa (by rw[im];exact Nat.le_refl _) (by simp) rfl rfl rfl rfl rfl rfl rfl rfl ?_;refine kW ?_;exact⟨⟨_,rfl,rfl⟩,⟨rfl,trivial⟩⟩
   ·rw[if_neg h1]at hx
    cases hx;refine⟨by decide,z7,t::r,?_,hT,hz⟩;refine ai aa ac Tryz.func115 rfl rfl rfl rfl rfl (bY) ?_;refine kW ?_;refine kD (cis) ?_;refine kW ?_;refine kD (bB t r b a 0) ?_
    iterate 2 refine kG ?_
    iterate 2 refine kO ?_
    refine kE ?_;refine kG ?_
    iterate 2 refine kO ?_
    refine kY ?_;refine kD (mM t r b a hz) ?_;refine kW ?_;exact⟨⟨_,rfl,rfl⟩,⟨rfl,trivial⟩⟩
def Hi (fid:FuncId) (xs:List TV) (E:Nat) (ts:List Tk) (b a:Int) (Y:Rx × List Tk):gS→Prop
 | .ok (e,r)=>aw Tryz.prog fid (.box 900 0::xs) [(900,ga ts b a 0)] (.v (.one (dE e))) [(900,ga r b a 0)]∧cK r∧dm E r
 | .error (p,c)=>c≠0∧aw Tryz.prog fid (.box 900 0::xs) [(900,ga ts b a 0)] (.v (.one (dR Y.1))) [(900,ga Y.2 b p (oe E b p c))]∧cK Y.2∧dm E Y.2
theorem r8 {fid:FuncId} {xs:List TV} {E:Nat} {b a:Int} {g:List Tk→Option gS} (h:∀ts x,cK ts→dm E ts→g ts=some x→Rf fid xs E ts b a x):∃Y:List Tk→Rx × List Tk,∀ts x,cK ts→dm E ts→g ts=some x→Hi fid xs E ts b a (Y ts) x:=by
 have:∀ts:List Tk,∃Y:Rx × List Tk,∀x,cK ts→dm E ts→g ts=some x→Hi fid xs E ts b a Y x:=fun ts=>by
  by_cases hw:cK ts
  ·by_cases hz:dm E ts
   ·cases hg:g ts with
    |none=>exact⟨(z7,[]),fun x _ _ hx=>by cases hx⟩
    |some x=>
     have hx:=h ts x hw hz hg;cases x with
     |ok y=>exact⟨(z7,[]),fun x _ _ hx'=>by cases hx';exact hx⟩
     |error y=>
      obtain⟨hc,y1,ts1,h1,h2⟩:=hx;exact⟨(y1,ts1),fun x _ _ hx'=>by cases hx';exact⟨hc,h1,h2⟩⟩
   ·exact⟨(z7,[]),fun x _ hz'=>absurd hz' hz⟩
  ·exact⟨(z7,[]),fun x hw'=>absurd hw' hw⟩
 obtain⟨Y,hY⟩:=Classical.axiomOfChoice this;exact⟨Y,fun ts x hw hz hx=>hY ts x hw hz hx⟩
def LS.d2 (b a:Int):LS→List AV
 | .run _ _ ts=>ga ts b a 0
 | .bad _ ts p c=>ga ts b p c
def rS (nn:Int) (c1 c2:List AV):AS:=⟨[(0, .box 900 0),(1, .d (dN .i64 nn)),(4, .box 0 0),(5, .box 3004 0)],[(0,some (ae 0 false [] false [] [] 0 [])),(3004,some c1),(900,some c2)]⟩
def LS.J (two:Bool) (Y:List Tk→Rx × List Tk) (f E:Nat) (b a:Int) (D:DV) (B:List AV):LS→Prop
 | .run f' e ts=>cK ts∧dm E ts∧f'≤f∧ ∃x',pP f' (.more two e) ts=some x'∧(match x' with
  | .ok (e',r')=>D=dE e'∧B=ga r' b a 0
  | .error (p,c)=>D=dR (gB two Y f' e ts).1∧B=ga (gB two Y f' e ts).2 b p (oe E b p c))
 | .bad y ts p c=>cK ts∧c≠0∧D=dR y∧B=ga ts b p c
theorem Cw {two:Bool} {t:Tk} {r:List Tk} (h:eF two (t::r)=none):∀c∈mC two,a7 c (t::r)=none:=by
 obtain⟨k,x,p⟩:=t;intro c hc;have hs:=FL two (k,x,p) r;rw[h]at hs;rw[← Option.not_isSome_iff_eq_none,← ul c (k,x,p) r];intro hi
 simp only[Bool.and_eq_true,decide_eq_true_eq]at hi
 have hi2:yc (mC two) (k,x,p)=true:=by
  obtain⟨h4,hi⟩:=hi
  match x,hi with
  | [d],hi=>
   have hd:0≤Lib.indexByte [c] d:=of_decide_eq_true hi;have:d=c:=(xS c d).1 hd;subst this;exact decide_eq_true ((nJ _ _).2 hc)
 rw[hi2,decide_eq_true hi.1]at hs;cases hs
theorem DF {two:Bool} {t:Tk} {r r2:List Tk} {k:B4} (h:eF two (t::r)=some (k,r2)):r2=r∧ ∃c p,t=(4,[c],p)∧iT two [c]=some k:=by
 obtain⟨rfl,h4,c,hc,_⟩:=jh h;obtain⟨k4,x,p⟩:=t;dsimp only at h4 hc;subst h4 hc;refine⟨rfl,c,p,rfl,?_⟩
 simp only[eF,if_true]at h
 cases ho:iT two [c]with
 |none=>rw[ho]at h;cases h
 |some k'=>rw[ho]at h;cases h;rfl
theorem Ee {c:UInt8} {k:B4} (h:iT false [c]=some k):(c=43∧k= .add)∨(c=45∧k= .sub):=by
 simp only[iT]at h
 split at h
 ·cases h;left;exact⟨by assumption,rfl⟩
 ·split at h
  ·cases h;right;exact⟨by assumption,rfl⟩
  ·cases h
theorem xc (f E:Nat) (b a:Int) (Y:List Tk→Rx × List Tk) (hY:∀ts x,cK ts→dm E ts→pP f (d4 false) ts=some x→Hi 44 [.d (dN .i64 2)] E ts b a (Y ts) x) (ts:List Tk) (hT:cK ts) (hz:dm E ts) {e0:Ex} {r0:List Tk} (h0:pP f (d4 false) ts=some (.ok (e0,r0)))
 {D:DV} {B:List AV} (hB:B.length=4) (hI:LS.J false Y f E b a D B (.run f e0 r0)):aw Tryz.prog 44 [.box 900 0, .d (dN .i64 1)] [(900,ga ts b a 0)] (.v (.one D)) [(900,B)]:=by
 obtain⟨c0,hw0,hz0⟩:=hY ts _ hT hz h0;obtain⟨t,r,hr⟩:=hw0.ne;obtain⟨o1,na1,xs1,nb1,ys1,nm1,n1,cs1,hA⟩:=ar e0;have hE:dE e0= .agg (ae o1 na1 xs1 nb1 ys1 nm1 n1 cs1):=congrArg DV.agg hA;rw[hE]at c0;refine ai aa ac Tryz.func44 rfl rfl rfl rfl rfl ((fi.one (Nat.le_of_eq hB.symm))) ?_;refine kW ?_;refine kD (c0) ?_;refine kW ?_
 refine bh LS (LS.J false Y f E b a D B) (fun x=>rS 1 x.c1 (x.d2 b a)) LS.mu (.run f e0 r0) hI (by
  refine Eq.mpr (congrArg (fun c=>bt _ (rS 1 c (ga r0 b a 0))) hA) ?_;exact weak ⟨rfl,rfl,rfl,rfl,trivial⟩ ⟨rfl,rfl,rfl,trivial⟩ rfl) ?_
 intro x hx;cases x with
 |bad y ts1 p c=>
  obtain⟨hw,hc,rfl,rfl⟩:=hx;obtain⟨t,r,rfl⟩:=hw.ne;obtain⟨o1,na1,xs1,nb1,ys1,nm1,n1,cs1,hA⟩:=aX y;rw[show dR y= .agg (ae o1 na1 xs1 nb1 ys1 nm1 n1 cs1) from congrArg DV.agg hA];show gm _ _ _ _ _ (rS 1 (aR y) (ga (t::r) b p c));rw[hA];unfold rS;refine kW ?_;refine kD (gu 43 t r b p c hc) ?_;refine kW ?_;refine kD (gu 45 t r b p c hc) ?_;refine kW ?_;exact⟨⟨_,rfl,rfl⟩,⟨rfl,trivial⟩⟩
 |run f' e ts1=>
  obtain⟨hw,hz,hf,x',hx,hD⟩:=hx;obtain⟨t,r,rfl⟩:=hw.ne;obtain⟨o1,na1,xs1,nb1,ys1,nm1,n1,cs1,hA⟩:=ar e;show gm _ _ _ _ _ (rS 1 (aE e) (ga (t::r) b a 0));rw[hA];cases f' with
  |zero=>cases hx
  |succ f'=>
  rw[cu]at hx;cases ho:eF false (t::r)with
  |none=>
   rw[ho]at hx;cases hx;obtain⟨rfl,rfl⟩:=hD;rw[show dE e= .agg (ae o1 na1 xs1 nb1 ys1 nm1 n1 cs1) from congrArg DV.agg hA];have hno:=Cw ho;unfold rS;refine kW ?_;refine DY (eM 43 t r b a (hno 43 (by simp[mC]))) rfl rfl rfl rfl rfl ⟨rfl,trivial⟩ rfl rfl rfl rfl ?_;refine kW ?_;refine DY (eM 45 t r b a (hno 45 (by simp[mC]))) rfl rfl rfl rfl rfl ⟨rfl,trivial⟩ rfl rfl rfl rfl ?_;refine kW ?_;exact⟨⟨_,rfl,rfl⟩,⟨rfl,trivial⟩⟩
  |some q=>
   obtain⟨k,r2⟩:=q;obtain⟨rfl,c,p0,rfl,hk⟩:=DF ho;rw[ho]at hx;have hw2:cK r2:=hw.tail (by dsimp only;omega);have hz2:=hz.tail;dsimp only at hx;cases hy:pP f' (d4 false) r2 with
   |none=>rw[hy]at hx;cases hx
   |some y=>
    have cy:=hY r2 y hw2 hz2 (gA (by omega) hy);rw[hy]at hx;cases y with
    |error z=>
     obtain⟨p,c1⟩:=z;cases hx;obtain⟨hc1,cy,hw3,_⟩:=cy
     have hg:gB false Y (f'+1) e ((4,[c],p0)::r2)=(.mk k.code false [] false [] [] [rx e,(Y r2).1],(Y r2).2):=by
      rw[gB,ho];dsimp only;rw[hy]
     rw[hg]at hD;dsimp only at hD;obtain⟨o2,na2,xs2,nb2,ys2,nm2,n2,cs2,hA2⟩:=aX (Y r2).1;have hbad:=nE k e (Y r2).1;rw[hA,hA2]at hbad;rw[show dR (Y r2).1= .agg (ae o2 na2 xs2 nb2 ys2 nm2 n2 cs2) from congrArg DV.agg hA2]at cy;have hc2:oe E b p c1≠0:=lO hc1;generalize oe E b p c1=c2 at *;generalize hY2:(Y r2).2=ts2 at *;unfold rS;rcases Ee hk with⟨rfl,rfl⟩| ⟨rfl,rfl⟩
     ·refine kW ?_
      refine kD (da 43 p0 r2 b a) ?_;refine kW ?_;refine kD (cy) ?_;refine kW ?_;refine⟨.bad (.mk (B4.code .add) false [] false [] [] [rx e,(Y r2).1]) ts2 p c2,⟨hw3,hc2,hD.1,hD.2⟩,Nat.succ_pos _,?_⟩;refine Eq.mpr (congrArg (fun c=>bt _ (rS 1 c (ga ts2 b p c2))) hbad) ?_;exact weak ⟨rfl,rfl,rfl,rfl,trivial⟩ ⟨rfl,rfl,rfl,trivial⟩ rfl
     ·refine kW ?_
      refine DY (eM 43 (4,[45],p0) r2 b a (by simp[a7])) rfl rfl rfl rfl rfl ⟨rfl,trivial⟩ rfl rfl rfl rfl ?_;refine kW ?_;refine kD (da 45 p0 r2 b a) ?_;refine kW ?_;refine kD (cy) ?_;refine kW ?_;refine⟨.bad (.mk (B4.code .sub) false [] false [] [] [rx e,(Y r2).1]) ts2 p c2,⟨hw3,hc2,hD.1,hD.2⟩,Nat.succ_pos _,?_⟩;refine Eq.mpr (congrArg (fun c=>bt _ (rS 1 c (ga ts2 b p c2))) hbad) ?_;exact weak ⟨rfl,rfl,rfl,rfl,trivial⟩ ⟨rfl,rfl,rfl,trivial⟩ rfl
    |ok z=>
     obtain⟨e2,r3⟩:=z;obtain⟨cy,hw3,hz3⟩:=cy;have hx:pP f' (.more false (.bin k e e2)) r3=some x':=hx
     have hg:gB false Y (f'+1) e ((4,[c],p0)::r2)=gB false Y f' (.bin k e e2) r3:=by
      rw[gB,ho];dsimp only;rw[hy]
     rw[hg]at hD;obtain⟨o2,na2,xs2,nb2,ys2,nm2,n2,cs2,hA2⟩:=ar e2;have hbin:=fL k e e2;rw[hA,hA2]at hbin;rw[show dE e2= .agg (ae o2 na2 xs2 nb2 ys2 nm2 n2 cs2) from congrArg DV.agg hA2]at cy;unfold rS;rcases Ee hk with⟨rfl,rfl⟩| ⟨rfl,rfl⟩
     ·refine kW ?_
      refine kD (da 43 p0 r2 b a) ?_;refine kW ?_;refine kD (cy) ?_;refine kW ?_;refine⟨.run f' (.bin .add e e2) r3,⟨hw3,hz3,by omega,x',hx,hD⟩,by show f'+1<f'+1+1;omega,?_⟩;refine Eq.mpr (congrArg (fun c=>bt _ (rS 1 c (ga r3 b a 0))) hbin) ?_;exact weak ⟨rfl,rfl,rfl,rfl,trivial⟩ ⟨rfl,rfl,rfl,trivial⟩ rfl
     ·refine kW ?_
      refine DY (eM 43 (4,[45],p0) r2 b a (by simp[a7])) rfl rfl rfl rfl rfl ⟨rfl,trivial⟩ rfl rfl rfl rfl ?_;refine kW ?_;refine kD (da 45 p0 r2 b a) ?_;refine kW ?_;refine kD (cy) ?_;refine kW ?_;refine⟨.run f' (.bin .sub e e2) r3,⟨hw3,hz3,by omega,x',hx,hD⟩,by show f'+1<f'+1+1;omega,?_⟩;refine Eq.mpr (congrArg (fun c=>bt _ (rS 1 c (ga r3 b a 0))) hbin) ?_;exact weak ⟨rfl,rfl,rfl,rfl,trivial⟩ ⟨rfl,rfl,rfl,trivial⟩ rfl
theorem y3 {c:UInt8} {k:B4} (h:iT true [c]=some k):(c=42∧k= .mul)∨(c=47∧k= .div):=by
 simp only[iT]at h
 split at h
 ·cases h;left;exact⟨by assumption,rfl⟩
 ·split at h
  ·cases h;right;exact⟨by assumption,rfl⟩
  ·cases h
theorem sm (f E:Nat) (b a:Int) (Y:List Tk→Rx × List Tk) (hY:∀ts x,cK ts→dm E ts→pP f (d4 true) ts=some x→Hi 44 [.d (dN .i64 3)] E ts b a (Y ts) x) (ts:List Tk) (hT:cK ts) (hz:dm E ts) {e0:Ex} {r0:List Tk} (h0:pP f (d4 true) ts=some (.ok (e0,r0)))
 {D:DV} {B:List AV} (hB:B.length=4) (hI:LS.J true Y f E b a D B (.run f e0 r0)):aw Tryz.prog 44 [.box 900 0, .d (dN .i64 2)] [(900,ga ts b a 0)] (.v (.one D)) [(900,B)]:=by
 obtain⟨c0,hw0,hz0⟩:=hY ts _ hT hz h0;obtain⟨t,r,hr⟩:=hw0.ne;obtain⟨o1,na1,xs1,nb1,ys1,nm1,n1,cs1,hA⟩:=ar e0;have hE:dE e0= .agg (ae o1 na1 xs1 nb1 ys1 nm1 n1 cs1):=congrArg DV.agg hA;rw[hE]at c0;refine ai aa ac Tryz.func44 rfl rfl rfl rfl rfl ((fi.one (Nat.le_of_eq hB.symm))) ?_;refine kW ?_;refine kD (c0) ?_;refine kW ?_
 refine bh LS (LS.J true Y f E b a D B) (fun x=>rS 2 x.c1 (x.d2 b a)) LS.mu (.run f e0 r0) hI (by
  refine Eq.mpr (congrArg (fun c=>bt _ (rS 2 c (ga r0 b a 0))) hA) ?_;exact weak ⟨rfl,rfl,rfl,rfl,trivial⟩ ⟨rfl,rfl,rfl,trivial⟩ rfl) ?_
 intro x hx;cases x with
 |bad y ts1 p c=>
  obtain⟨hw,hc,rfl,rfl⟩:=hx;obtain⟨t,r,rfl⟩:=hw.ne;obtain⟨o1,na1,xs1,nb1,ys1,nm1,n1,cs1,hA⟩:=aX y;rw[show dR y= .agg (ae o1 na1 xs1 nb1 ys1 nm1 n1 cs1) from congrArg DV.agg hA];show gm _ _ _ _ _ (rS 2 (aR y) (ga (t::r) b p c));rw[hA];unfold rS;refine kW ?_;refine kD (gu 42 t r b p c hc) ?_;refine kW ?_;refine kD (gu 47 t r b p c hc) ?_;refine kW ?_;exact⟨⟨_,rfl,rfl⟩,⟨rfl,trivial⟩⟩
 |run f' e ts1=>
  obtain⟨hw,hz,hf,x',hx,hD⟩:=hx;obtain⟨t,r,rfl⟩:=hw.ne;obtain⟨o1,na1,xs1,nb1,ys1,nm1,n1,cs1,hA⟩:=ar e;show gm _ _ _ _ _ (rS 2 (aE e) (ga (t::r) b a 0));rw[hA];cases f' with
  |zero=>cases hx
  |succ f'=>
  rw[cu]at hx;cases ho:eF true (t::r)with
  |none=>
   rw[ho]at hx;cases hx;obtain⟨rfl,rfl⟩:=hD;rw[show dE e= .agg (ae o1 na1 xs1 nb1 ys1 nm1 n1 cs1) from congrArg DV.agg hA];have hno:=Cw ho;unfold rS;refine kW ?_;refine DY (eM 42 t r b a (hno 42 (by simp[mC]))) rfl rfl rfl rfl rfl ⟨rfl,trivial⟩ rfl rfl rfl rfl ?_;refine kW ?_;refine DY (eM 47 t r b a (hno 47 (by simp[mC]))) rfl rfl rfl rfl rfl ⟨rfl,trivial⟩ rfl rfl rfl rfl ?_;refine kW ?_;exact⟨⟨_,rfl,rfl⟩,⟨rfl,trivial⟩⟩
  |some q=>
   obtain⟨k,r2⟩:=q;obtain⟨rfl,c,p0,rfl,hk⟩:=DF ho;rw[ho]at hx;have hw2:cK r2:=hw.tail (by dsimp only;omega);have hz2:=hz.tail;dsimp only at hx;cases hy:pP f' (d4 true) r2 with
   |none=>rw[hy]at hx;cases hx
   |some y=>
    have cy:=hY r2 y hw2 hz2 (gA (by omega) hy);rw[hy]at hx;cases y with
    |error z=>
     obtain⟨p,c1⟩:=z;cases hx;obtain⟨hc1,cy,hw3,_⟩:=cy
     have hg:gB true Y (f'+1) e ((4,[c],p0)::r2)=(.mk k.code false [] false [] [] [rx e,(Y r2).1],(Y r2).2):=by
      rw[gB,ho];dsimp only;rw[hy]
     rw[hg]at hD;dsimp only at hD;obtain⟨o2,na2,xs2,nb2,ys2,nm2,n2,cs2,hA2⟩:=aX (Y r2).1;have hbad:=nE k e (Y r2).1;rw[hA,hA2]at hbad;rw[show dR (Y r2).1= .agg (ae o2 na2 xs2 nb2 ys2 nm2 n2 cs2) from congrArg DV.agg hA2]at cy;have hc2:oe E b p c1≠0:=lO hc1;generalize oe E b p c1=c2 at *;generalize hY2:(Y r2).2=ts2 at *;unfold rS;rcases y3 hk with⟨rfl,rfl⟩| ⟨rfl,rfl⟩
     ·refine kW ?_
      refine kD (da 42 p0 r2 b a) ?_;refine kW ?_;refine kD (cy) ?_;refine kW ?_;refine⟨.bad (.mk (B4.code .mul) false [] false [] [] [rx e,(Y r2).1]) ts2 p c2,⟨hw3,hc2,hD.1,hD.2⟩,Nat.succ_pos _,?_⟩;refine Eq.mpr (congrArg (fun c=>bt _ (rS 2 c (ga ts2 b p c2))) hbad) ?_;exact weak ⟨rfl,rfl,rfl,rfl,trivial⟩ ⟨rfl,rfl,rfl,trivial⟩ rfl
     ·refine kW ?_
      refine DY (eM 42 (4,[47],p0) r2 b a (by simp[a7])) rfl rfl rfl rfl rfl ⟨rfl,trivial⟩ rfl rfl rfl rfl ?_;refine kW ?_;refine kD (da 47 p0 r2 b a) ?_;refine kW ?_;refine kD (cy) ?_;refine kW ?_;refine⟨.bad (.mk (B4.code .div) false [] false [] [] [rx e,(Y r2).1]) ts2 p c2,⟨hw3,hc2,hD.1,hD.2⟩,Nat.succ_pos _,?_⟩;refine Eq.mpr (congrArg (fun c=>bt _ (rS 2 c (ga ts2 b p c2))) hbad) ?_;exact weak ⟨rfl,rfl,rfl,rfl,trivial⟩ ⟨rfl,rfl,rfl,trivial⟩ rfl
    |ok z=>
     obtain⟨e2,r3⟩:=z;obtain⟨cy,hw3,hz3⟩:=cy;have hx:pP f' (.more true (.bin k e e2)) r3=some x':=hx
     have hg:gB true Y (f'+1) e ((4,[c],p0)::r2)=gB true Y f' (.bin k e e2) r3:=by
      rw[gB,ho];dsimp only;rw[hy]
     rw[hg]at hD;obtain⟨o2,na2,xs2,nb2,ys2,nm2,n2,cs2,hA2⟩:=ar e2;have hbin:=fL k e e2;rw[hA,hA2]at hbin;rw[show dE e2= .agg (ae o2 na2 xs2 nb2 ys2 nm2 n2 cs2) from congrArg DV.agg hA2]at cy;unfold rS;rcases y3 hk with⟨rfl,rfl⟩| ⟨rfl,rfl⟩
     ·refine kW ?_
      refine kD (da 42 p0 r2 b a) ?_;refine kW ?_;refine kD (cy) ?_;refine kW ?_;refine⟨.run f' (.bin .mul e e2) r3,⟨hw3,hz3,by omega,x',hx,hD⟩,by show f'+1<f'+1+1;omega,?_⟩;refine Eq.mpr (congrArg (fun c=>bt _ (rS 2 c (ga r3 b a 0))) hbin) ?_;exact weak ⟨rfl,rfl,rfl,rfl,trivial⟩ ⟨rfl,rfl,rfl,trivial⟩ rfl
     ·refine kW ?_
      refine DY (eM 42 (4,[47],p0) r2 b a (by simp[a7])) rfl rfl rfl rfl rfl ⟨rfl,trivial⟩ rfl rfl rfl rfl ?_;refine kW ?_;refine kD (da 47 p0 r2 b a) ?_;refine kW ?_;refine kD (cy) ?_;refine kW ?_;refine⟨.run f' (.bin .div e e2) r3,⟨hw3,hz3,by omega,x',hx,hD⟩,by show f'+1<f'+1+1;omega,?_⟩;refine Eq.mpr (congrArg (fun c=>bt _ (rS 2 c (ga r3 b a 0))) hbin) ?_;exact weak ⟨rfl,rfl,rfl,rfl,trivial⟩ ⟨rfl,rfl,rfl,trivial⟩ rfl
theorem uc {two:Bool} {fop:FuncId} {xs:List TV} {E f:Nat} {b a:Int} {Y:List Tk→Rx × List Tk} (hY:∀ts x,cK ts→dm E ts→pP f (d4 two) ts=some x→Hi fop xs E ts b a (Y ts) x):∀(f':Nat) (e:Ex) (ts:List Tk) (e':Ex) (r':List Tk),f'≤f→cK ts→dm E ts→pP f' (.more two e) ts=some (.ok (e',r'))→cK r'∧dm E r'
 |0,_,_,_,_,_,_,_,h=>by cases h
 |f'+1,e,ts,e',r',hf,hw,hz,h=>by
  rw[cu]at h;obtain⟨t,r,rfl⟩:=hw.ne;cases ho:eF two (t::r)with
  |none=>rw[ho]at h;cases h;exact⟨hw,hz⟩
  |some q=>
   obtain⟨k,r2⟩:=q;obtain⟨rfl,h4,_⟩:=jh ho;have hw2:cK r2:=hw.tail (by omega);rw[ho]at h;dsimp only at h ⊢;cases hy:pP f' (d4 two) r2 with
   |none=>rw[hy]at h;cases h
   |some y=>
    have cy:=hY r2 y hw2 hz.tail (gA (by omega) hy);rw[hy]at h;cases y with
    |error z=>cases h
    |ok z=>exact uc hY f' _ _ e' r' (by omega) cy.2.1 cy.2.2 h
theorem pY {two:Bool} {fop:FuncId} {xs:List TV} {E f:Nat} {b a:Int} {Y:List Tk→Rx × List Tk} (hY:∀ts x,cK ts→dm E ts→pP f (d4 two) ts=some x→Hi fop xs E ts b a (Y ts) x):∀(f':Nat) (e:Ex) (ts:List Tk) (p:Nat) (c:Int),f'≤f→cK ts→dm E ts→pP f' (.more two e) ts=some (.error (p,c))→c≠0∧cK (gB two Y f' e ts).2∧dm E (gB two Y f' e ts).2
 |0,_,_,_,_,_,_,_,h=>by cases h
 |f'+1,e,ts,p,c,hf,hw,hz,h=>by
  rw[cu]at h;rw[gB];obtain⟨t,r,rfl⟩:=hw.ne;cases ho:eF two (t::r)with
  |none=>rw[ho]at h;cases h
  |some q=>
   obtain⟨k,r2⟩:=q;obtain⟨rfl,h4,_⟩:=jh ho;have hw2:cK r2:=hw.tail (by omega);rw[ho]at h;dsimp only at h ⊢;cases hy:pP f' (d4 two) r2 with
   |none=>rw[hy]at h;cases h
   |some y=>
    have cy:=hY r2 y hw2 hz.tail (gA (by omega) hy);rw[hy]at h;cases y with
    |error z=>cases h;exact⟨cy.1,cy.2.2⟩
    |ok z=>exact pY hY f' _ _ p c (by omega) cy.2.1 cy.2.2 h
theorem GQ {f E:Nat} {b a:Int} (hop:∀ts x,cK ts→dm E ts→pP f (d4 false) ts=some x→Rf 44 [.d (dN .i64 2)] E ts b a x) (ts:List Tk) (x:gS) (hT:cK ts) (hz:dm E ts) (hx:pP (f+1) .sum ts=some x):Rf 44 [.d (dN .i64 1)] E ts b a x:=by
 have hx:(match pP f (d4 false) ts with
  |some (.ok (e,r))=>pP f (.more false e) r
  |y=>y)=some x:=hx
 obtain⟨Y,hY⟩:=r8 hop;cases h0:pP f (d4 false) ts with
 |none=>rw[h0]at hx;cases hx
 |some y0=>
  rw[h0]at hx;have c0:=hY ts y0 hT hz h0;cases y0 with
  |error z=>
   cases hx;obtain⟨p,c⟩:=z;obtain⟨hc,c0,hw,hz'⟩:=c0;refine⟨hc,(Y ts).1,(Y ts).2,?_,hw,hz'⟩;have hc2:oe E b p c≠0:=lO hc;generalize oe E b p c=c2 at *;generalize(Y ts).1=y at *;generalize(Y ts).2=ts' at *;obtain⟨t,r,rfl⟩:=hw.ne;obtain⟨o1,na1,xs1,nb1,ys1,nm1,n1,cs1,hA⟩:=aX y;rw[show dR y= .agg (ae o1 na1 xs1 nb1 ys1 nm1 n1 cs1) from congrArg DV.agg hA]at c0 ⊢;refine ai aa ac Tryz.func44 rfl rfl rfl rfl rfl (bY) ?_;refine kW ?_;refine kD (c0) ?_;refine kW ?_;refine bh Unit (fun _=>True) (fun _=>rS 1 (ae o1 na1 xs1 nb1 ys1 nm1 n1 cs1) (ga (t::r) b p c2)) (fun _=>0) () trivial (weak ⟨rfl,rfl,rfl,rfl,trivial⟩ ⟨rfl,rfl,rfl,trivial⟩ rfl) ?_;rintro _ _;unfold rS;refine kW ?_;refine kD (gu 43 t r b p c2 hc2) ?_;refine kW ?_;refine kD (gu 45 t r b p c2 hc2) ?_
   refine kW ?_;exact⟨⟨_,rfl,rfl⟩,⟨rfl,trivial⟩⟩
  |ok z=>
   obtain⟨e,r⟩:=z;have hx:pP f (.more false e) r=some x:=hx;cases x with
   |ok w=>
    obtain⟨e',r'⟩:=w;exact⟨xc f E b a Y hY ts hT hz h0 (B:=ga r' b a 0) rfl ⟨c0.2.1,c0.2.2,Nat.le_refl _,_,hx,rfl,rfl⟩,uc hY f e r e' r' (Nat.le_refl _) c0.2.1 c0.2.2 hx⟩
   |error w=>
    obtain⟨p,c⟩:=w;obtain⟨hc,hw⟩:=pY hY f e r p c (Nat.le_refl _) c0.2.1 c0.2.2 hx;exact⟨hc,_,_,xc f E b a Y hY ts hT hz h0 (B:=ga _ b p (oe E b p c)) rfl ⟨c0.2.1,c0.2.2,Nat.le_refl _,_,hx,rfl,rfl⟩,hw⟩
theorem E8 {f E:Nat} {b a:Int} (hop:∀ts x,cK ts→dm E ts→pP f (d4 true) ts=some x→Rf 44 [.d (dN .i64 3)] E ts b a x) (ts:List Tk) (x:gS) (hT:cK ts) (hz:dm E ts) (hx:pP (f+1) .prod ts=some x):Rf 44 [.d (dN .i64 2)] E ts b a x:=by
 have hx:(match pP f (d4 true) ts with
  |some (.ok (e,r))=>pP f (.more true e) r
  |y=>y)=some x:=hx
 obtain⟨Y,hY⟩:=r8 hop;cases h0:pP f (d4 true) ts with
 |none=>rw[h0]at hx;cases hx
 |some y0=>
  rw[h0]at hx;have c0:=hY ts y0 hT hz h0;cases y0 with
  |error z=>
   cases hx;obtain⟨p,c⟩:=z;obtain⟨hc,c0,hw,hz'⟩:=c0;refine⟨hc,(Y ts).1,(Y ts).2,?_,hw,hz'⟩;have hc2:oe E b p c≠0:=lO hc;generalize oe E b p c=c2 at *;generalize(Y ts).1=y at *;generalize(Y ts).2=ts' at *;obtain⟨t,r,rfl⟩:=hw.ne;obtain⟨o1,na1,xs1,nb1,ys1,nm1,n1,cs1,hA⟩:=aX y;rw[show dR y= .agg (ae o1 na1 xs1 nb1 ys1 nm1 n1 cs1) from congrArg DV.agg hA]at c0 ⊢;refine ai aa ac Tryz.func44 rfl rfl rfl rfl rfl (bY) ?_;refine kW ?_;refine kD (c0) ?_;refine kW ?_;refine bh Unit (fun _=>True) (fun _=>rS 2 (ae o1 na1 xs1 nb1 ys1 nm1 n1 cs1) (ga (t::r) b p c2)) (fun _=>0) () trivial (weak ⟨rfl,rfl,rfl,rfl,trivial⟩ ⟨rfl,rfl,rfl,trivial⟩ rfl) ?_;rintro _ _;unfold rS;refine kW ?_;refine kD (gu 42 t r b p c2 hc2) ?_;refine kW ?_;refine kD (gu 47 t r b p c2 hc2) ?_
   refine kW ?_;exact⟨⟨_,rfl,rfl⟩,⟨rfl,trivial⟩⟩
  |ok z=>
   obtain⟨e,r⟩:=z;have hx:pP f (.more true e) r=some x:=hx;cases x with
   |ok w=>
    obtain⟨e',r'⟩:=w;exact⟨sm f E b a Y hY ts hT hz h0 (B:=ga r' b a 0) rfl ⟨c0.2.1,c0.2.2,Nat.le_refl _,_,hx,rfl,rfl⟩,uc hY f e r e' r' (Nat.le_refl _) c0.2.1 c0.2.2 hx⟩
   |error w=>
    obtain⟨p,c⟩:=w;obtain⟨hc,hw⟩:=pY hY f e r p c (Nat.le_refl _) c0.2.1 c0.2.2 hx;exact⟨hc,_,_,sm f E b a Y hY ts hT hz h0 (B:=ga _ b p (oe E b p c)) rfl ⟨c0.2.1,c0.2.2,Nat.le_refl _,_,hx,rfl,rfl⟩,hw⟩
theorem DC {f E:Nat} {b a:Int} (hop:∀ts x,cK ts→dm E ts→pP f .un ts=some x→Rf 76 [] E ts b a x) (ts:List Tk) (x:gS) (hT:cK ts) (hz:dm E ts) (hx:pP f .un ts=some x):Rf 44 [.d (dN .i64 3)] E ts b a x:=by
 have cy:=hop ts x hT hz hx;cases x with
 |ok z=>
  obtain⟨e,r3⟩:=z;obtain⟨cy,hw3⟩:=cy;refine⟨?_,hw3⟩;obtain⟨o1,na1,xs1,nb1,ys1,nm1,n1,cs1,hA⟩:=ar e;rw[show dE e= .agg (ae o1 na1 xs1 nb1 ys1 nm1 n1 cs1) from congrArg DV.agg hA]at cy ⊢;refine ai aa ac Tryz.func44 rfl rfl rfl rfl rfl (bY) ?_;refine kW ?_;refine kD (cy) ?_;refine kW ?_;exact⟨⟨_,rfl,rfl⟩,⟨rfl,trivial⟩⟩
 |error z=>
  obtain⟨p,c⟩:=z;obtain⟨hc,y,ts',cy,hw3⟩:=cy;refine⟨hc,y,ts',?_,hw3⟩;obtain⟨o1,na1,xs1,nb1,ys1,nm1,n1,cs1,hA⟩:=aX y;rw[show dR y= .agg (ae o1 na1 xs1 nb1 ys1 nm1 n1 cs1) from congrArg DV.agg hA]at cy ⊢;refine ai aa ac Tryz.func44 rfl rfl rfl rfl rfl (bY) ?_;refine kW ?_;refine kD (cy) ?_;refine kW ?_;exact⟨⟨_,rfl,rfl⟩,⟨rfl,trivial⟩⟩
structure Ix (f E:Nat) (b a:Int):Prop where
 sum:∀ts x,cK ts→dm E ts→pP f .sum ts=some x→Rf 44 [.d (dN .i64 1)] E ts b a x
 prod:∀ts x,cK ts→dm E ts→pP f .prod ts=some x→Rf 44 [.d (dN .i64 2)] E ts b a x
 un:∀ts x,cK ts→dm E ts→pP f .un ts=some x→Rf 76 [] E ts b a x
 prim:∀ts x,cK ts→dm E ts→pP f .prim ts=some x→Rf 115 [] E ts b a x
theorem yf (E:Nat) (b a:Int):∀f,Ix f E b a
 |0=>⟨fun _ _ _ _ h=>(by cases h),fun _ _ _ _ h=>(by cases h),fun _ _ _ _ h=>(by cases h),fun _ _ _ _ h=>(by cases h)⟩
 |f+1=>by
  have ih:=yf E b a f;exact⟨fun ts x hT hz hx=>GQ ih.prod ts x hT hz hx,fun ts x hT hz hx=>E8 (fun ts x hT hz hx=>DC ih.un ts x hT hz hx) ts x hT hz hx,fun ts x hT hz hx=>H4 ih.un ih.prim ts x hT hz hx,fun ts x hT hz hx=>Eo ih.sum ts x hT hz hx⟩
theorem gZ (p:UInt8→Bool):∀(r:List UInt8) (m:Nat),aV p (r.take m)=min m (aV p r)
 | [],m=>by simp[aV]
 |c::r,0=>by simp[aV]
 |c::r,m+1=>by
  have ih:=gZ p r m;unfold aV at ih ⊢;rw[List.take_succ_cons,List.takeWhile_cons,List.takeWhile_cons]
  split
  ·simp only[List.length_cons];omega
  ·simp
theorem AA {r:List UInt8} {m:Nat} (h:jk r≤m):jk (r.take m)=jk r:=by
 unfold jk at h ⊢;rw[gZ];generalize hd:aV cx r=d at *;have hle:d≤m:=by split at h<;>omega
 rw[Nat.min_eq_right hle,List.drop_take,gZ,List.getElem?_take]
 split at h
 ·rename_i hc
  rw[if_pos hc,if_pos (by omega:d<m)];rw[if_pos ⟨hc.1,by omega⟩];omega
 ·rename_i hc
  rw[if_neg hc]
  by_cases hdm:d<m
  ·rw[if_pos hdm,if_neg (fun h=>hc ⟨h.1,by omega⟩)]
  ·rw[if_neg hdm,if_neg (fun h=>by cases h.1)]
theorem BB:∀(n:Nat) (r:List UInt8) (i m:Nat),r.length≤n→0<eW r i→eW r i≤i+m→eW (r.take m) i=eW r i:=by
 intro n
 induction n using Nat.strongRecOn with
 |_ n ih=>
  intro r i m hl h0 hm
  match r,hl with
  | [],_=>simp
  | [c],_=>
   by_cases hq:c=34
   ·subst hq
    rw[ns]at hm ⊢;obtain⟨m,rfl⟩:∃k,m=k+1:=⟨m-1,by omega⟩;rw[List.take_succ_cons,ns]
   ·rw[qN hq]at h0;omega
  |c::d::r,hl=>
   have hp:=uY n (c::d::r) i hl;obtain⟨m,rfl⟩:∃k,m=k+1:=⟨m-1,by omega⟩
   by_cases hq:c=34
   ·subst hq
    rw[List.take_succ_cons,ns,ns]
   ·by_cases hc:c.toNat<32
    ·rw[qe hq hc]at h0;omega
    ·by_cases hb:c=92
     ·subst hb
      rw[m3]at h0 hm ⊢
      split at h0
      ·omega
      ·rename_i he
       rw[if_neg he]at hm ⊢
       simp at hl
       have hp2:=uY n r (i+2) (by omega);obtain⟨m,rfl⟩:∃k,m=k+1:=⟨m-1,by omega⟩;rw[List.take_succ_cons,List.take_succ_cons,m3,if_neg he];exact ih (n-2) (by omega) r (i+2) m (by omega) h0 (by omega)
     ·rw[oV hq hc hb]at h0 hm ⊢
      rw[List.take_succ_cons,oV hq hc hb]
      simp at hl
      exact ih (n-1) (by omega) (d::r) (i+1) m (by simp;omega) h0 (by omega)
theorem CD {r:List UInt8} {m:Nat} (h0:0<(gK r).2) (hm:(gK r).2≤m):gK (r.take m)=gK r:=by
 cases r with
 |nil=>simp
 |cons c r=>
  obtain⟨m,rfl⟩:∃k,m=k+1:=⟨m-1,by omega⟩;have e:(c::r).take (m+1)=c::r.take m:=rfl;have e2:aV fQ (c::r.take m)=min (m+1) (aV fQ (c::r)):=by rw[← e,gZ]
  rw[e]
  simp only[gK]at h0 hm ⊢
  split
  ·rename_i h
   rw[if_pos h]at h0 hm;dsimp only at hm;rw[e2,Nat.min_eq_right hm]
  ·rename_i h
   rw[if_neg h]at h0 hm
   split
   ·rename_i h'
    rw[if_pos h']at h0 hm;rw[← e,AA hm]
   ·rename_i h'
    rw[if_neg h']at h0 hm
    split
    ·rename_i h3
     rw[if_pos h3]at h0 hm;dsimp only at h0 hm
     have:mw (c::r.take m)=mw (c::r):=by
      unfold mw at h0 hm ⊢;exact BB _ r 1 m (Nat.le_refl _) h0 (by rw[Nat.add_comm];exact hm)
     rw[this]
    ·rfl
theorem GW {c:UInt8} {r:List UInt8} {k n:Nat} (h:gK (c::r)=(k,n)) (h0:0<n):k≠0∧(k=4→ ∃d,(c::r).take n=[d]):=by
 have hx:=FQ [] 0 c r;rw[h]at hx;cases hx with
 |wd=>exact⟨by decide,fun e=>by cases e⟩
 |lg=>exact⟨by decide,fun e=>by cases e⟩
 |nm=>exact⟨by decide,fun e=>by cases e⟩
 |qt=>exact⟨by decide,fun e=>by cases e⟩
 |sy=>exact⟨by decide,fun _=>⟨c,rfl⟩⟩
 |nl=>exact⟨by decide,fun e=>by cases e⟩
 |no=>exact absurd h0 (Nat.lt_irrefl 0)
structure lZ (E:Nat) (T:List Tk) (m:Nat):Prop where
 w:m≤500→cK T
 z:dm E T
 s:∀t∈T,t.2.1.length≤m
theorem lZ.one {E m:Nat}:lZ E [(0,[],E)] m:=⟨fun _=>rfl,fun t ht=>by
 cases List.mem_singleton.1 ht;exact⟨fun _=>rfl,fun h=>absurd rfl h⟩,fun t ht=>by cases List.mem_singleton.1 ht;exact Nat.zero_le _⟩
theorem lZ.ne {E m:Nat} {T:List Tk} (h:lZ E T m) (hT:T≠[]):∃t r,T=t::r:=by
 cases T with
 |nil=>exact absurd rfl hT
 |cons t r=>exact⟨t,r,rfl⟩
theorem lZ.cons {E m m':Nat} {T:List Tk} {k p:Nat} {x:List UInt8} (h:lZ E T m') (hm:m'≤m) (hT:T≠[]) (hk:k≠0) (h4:k=4→ ∃d,x=[d]) (hp:p<E) (hx:x.length≤m):lZ E ((k,x,p)::T) m:=by
 obtain⟨t,r,rfl⟩:=h.ne hT
 exact⟨fun h5=>⟨⟨hk,h4,fun _=>Nat.le_trans hx h5⟩,h.w (by omega)⟩,fun t ht=>by
  rcases List.mem_cons.1 ht with rfl|ht
  ·exact⟨fun e=>absurd e hk,fun _=>hp⟩
  ·exact h.z t ht,fun t ht=>by
  rcases List.mem_cons.1 ht with rfl|ht
  ·exact hx
  ·exact Nat.le_trans (h.s t ht) hm⟩
theorem lZ.up {E m m':Nat} {T:List Tk} (h:lZ E T m') (hm:m'≤m) (hw:m≤500→cK T):lZ E T m:=⟨hw,h.z,fun t ht=>Nat.le_trans (h.s t ht) hm⟩
theorem gT:∀(f:Nat) (r:List UInt8) (at_:Nat) (acc:List Tk),r.length<f→match cU f r at_ acc with
  | .ok L=>∃T,T≠[]∧L=acc++T∧lZ (at_+r.length) T r.length
  | .error (a,e)=>(e=2∨e=3)∧at_≤a∧a≤at_+r.length∧ ∃T,T≠[]∧(∀f' acc',a-at_<f'→cU f' (r.take (a-at_)) at_ acc'= .ok (acc'++T))∧lZ a T r.length
 |0,_,_,_,h=>absurd h (Nat.not_lt_zero _)
 |f+1,[],at_,acc,_=>by
  simp only[cU]
  exact⟨[(0,[],at_)],by simp,rfl, .one⟩
 |f+1,c::r,at_,acc,h=>by
  simp only[List.length_cons]at h
  rw[cU]
  by_cases hsp:c=32∨c=9
  ·rw[if_pos hsp]
   have ih:=gT f r (at_+1) acc (by omega)
   revert ih
   cases cU f r (at_+1) acc with
   |ok L=>
    rintro⟨T,h0,h1,h2⟩;refine⟨T,h0,h1,?_⟩;rw[show at_+(c::r).length=at_+1+r.length by simp;omega];exact h2.up (by simp) (fun h5=>h2.w (by simp at h5;omega))
   |error z=>
    obtain⟨a,e⟩:=z;rintro⟨he,h1,h2,T,h0,h3,h4⟩;refine⟨he,by omega,by simp;omega,T,h0,fun f' acc' hf=>?_,h4.up (by simp) (fun h5=>h4.w (by simp at h5;omega))⟩;obtain⟨f',rfl⟩:∃k,f'=k+1:=⟨f'-1,by omega⟩;rw[show a-at_=(a-(at_+1))+1 by omega,List.take_succ_cons,cU,if_pos hsp];exact h3 f' acc' (by omega)
  ·rw[if_neg hsp]
   have hle:=uN (c::r)
   simp only[List.length_cons]at hle
   cases hN:gK (c::r)with
   |mk k n=>
   rw[hN]at hle;dsimp only at hle ⊢
   have hone:∀e:Int,e=2∨e=3→(match(Except.error (at_,e):Except (Nat × Int) (List Tk))with
    | .ok L=>∃T,T≠[]∧L=acc++T∧lZ (at_+(c::r).length) T (c::r).length
    | .error (a,e)=>(e=2∨e=3)∧at_≤a∧a≤at_+(c::r).length∧ ∃T,T≠[]∧(∀f' acc',a-at_<f'→cU f' ((c::r).take (a-at_)) at_ acc'= .ok (acc'++T))∧lZ a T (c::r).length):=fun e he=>by
    refine⟨he,Nat.le_refl _,by omega,[(0,[],at_)],by simp,fun f' acc' hf=>?_, .one⟩;obtain⟨f',rfl⟩:∃k,f'=k+1:=⟨f'-1,by omega⟩;rw[Nat.sub_self,List.take_zero,cU]
   by_cases hn:n=0
   ·rw[if_pos hn]
    exact hone 2 (.inl rfl)
   ·rw[if_neg hn]
    by_cases hk:k=1∧24<n
    ·rw[if_pos hk]
     exact hone 3 (.inr rfl)
    ·rw[if_neg hk]
     have hi:=GW hN (by omega);have hdl:((c::r).drop n).length=r.length+1-n:=by simp
     have ih:=gT f ((c::r).drop n) (at_+n) (acc++[(k,(c::r).take n,at_)]) (by omega);have htl:((c::r).take n).length=n:=by simp;omega
     revert ih
     cases cU f ((c::r).drop n) (at_+n) (acc++[(k,(c::r).take n,at_)])with
     |ok L=>
      rintro⟨T,h0,h1,h2⟩;rw[hdl]at h2;refine⟨(k,(c::r).take n,at_)::T,by simp,by rw[h1,List.append_assoc];rfl,?_⟩;rw[show at_+(c::r).length=at_+n+(r.length+1-n) by simp;omega];exact h2.cons (by simp) h0 hi.1 hi.2 (by omega) (by rw[htl];simp;omega)
     |error z=>
      obtain⟨a,e⟩:=z;rintro⟨he,h1,h2,T,h0,h3,h4⟩;rw[hdl]at h2 h4;refine⟨he,by omega,by simp;omega,(k,(c::r).take n,at_)::T,by simp,fun f' acc' hf=>?_,h4.cons (by simp) h0 hi.1 hi.2 (by omega) (by rw[htl];simp;omega)⟩;obtain⟨f',rfl⟩:∃q,f'=q+1:=⟨f'-1,by omega⟩;obtain⟨q,hq⟩:∃q,a-at_=q+1:=⟨a-at_-1,by omega⟩;have hNt:gK (c::r.take q)=(k,n):=by rw[show c::r.take q=(c::r).take (q+1) from rfl,CD (by rw[hN];show 0<n;omega) (by rw[hN];show n≤q+1;omega),hN]
      rw[hq,List.take_succ_cons];rw[cU,if_neg hsp,hNt];dsimp only;rw[if_neg hn,if_neg hk]
      have e1:(c::r.take q).drop n=((c::r).drop n).take (a-(at_+n)):=by
       rw[show c::r.take q=(c::r).take (q+1) from rfl,List.drop_take]
       congr 1
       omega
      have e2:(c::r.take q).take n=(c::r).take n:=by
       rw[show c::r.take q=(c::r).take (q+1) from rfl,List.take_take,Nat.min_eq_left (by omega)]
      rw[e1,e2,h3 f' _ (by omega),List.append_assoc];rfl
theorem qm {two:Bool} {ts r:List Tk} {k:B4} (h:eF two ts=some (k,r)):∀t∈r,t∈ts:=by
 cases ts with
 |nil=>cases h
 |cons t r'=>
  simp only[eF]at h
  split at h
  ·split at h
   ·cases h;exact fun t ht=>List.mem_cons_of_mem _ ht
   ·cases h
  ·cases h
theorem fD {c:UInt8} {ts r:List Tk} (h:a7 c ts=some r):∀t∈r,t∈ts:=by
 cases ts with
 |nil=>cases h
 |cons t r'=>
  simp only[a7]at h
  split at h
  ·cases h;exact fun t ht=>List.mem_cons_of_mem _ ht
  ·cases h
theorem wJ {t:Tk} {r r2:List Tk} {e:Ex} (h:eg t r= .ok (e,r2)):∃q u,e= .num q u∧(u=[]∨ ∃v∈r,u=v.2.1)∧ ∀x∈r2,x∈r:=by
 unfold eg at h
 split at h
 ·cases h
 ·rename_i q _
  split at h
  ·cases h
  ·split at h
   ·rename_i v r'
    split at h
    ·cases h;exact⟨q,_,rfl, .inr ⟨v,by simp,rfl⟩,fun x hx=>List.mem_cons_of_mem _ hx⟩
    ·cases h;exact⟨q,_,rfl, .inl rfl,fun x hx=>hx⟩
   ·cases h;exact⟨q,_,rfl, .inl rfl,fun x hx=>hx⟩
theorem nO:Wd []:=fun x hx=>by cases hx
theorem ig:∀(f:Nat) (m:Md) (ts:List Tk) (e:Ex) (r:List Tk),(∀t∈ts,t.2.1.length≤65536)→(∀two e0,m= .more two e0→po (rx e0))→pP f m ts=some (.ok (e,r)) →
 po (rx e)∧(∀t∈r,t∈ts)∧jN (rx e)+r.length≤ts.length+(match m with| .more _ e0=>jN (rx e0)|_=>0)
 |0,_,_,_,_,_,_,h=>by cases h
 |f+1, .sum,ts,e,r,hs,hm,h=>by
  rw[fZ]at h
  split at h
  ·rename_i e1 r1 h1
   have a:=ig f _ _ _ _ hs (fun _ _ h=>by cases h) h1;have b:=ig f _ _ _ _ (fun t ht=>hs t (a.2.1 t ht)) (fun _ _ h=>by cases h;exact a.1) h;exact⟨b.1,fun t ht=>a.2.1 t (b.2.1 t ht),by have:=a.2.2;have:=b.2.2;dsimp only at *;omega⟩
  ·rename_i hn;exact absurd h (hn e r)
 |f+1, .prod,ts,e,r,hs,hm,h=>by
  rw[eR]at h
  split at h
  ·rename_i e1 r1 h1
   have a:=ig f _ _ _ _ hs (fun _ _ h=>by cases h) h1;have b:=ig f _ _ _ _ (fun t ht=>hs t (a.2.1 t ht)) (fun _ _ h=>by cases h;exact a.1) h;exact⟨b.1,fun t ht=>a.2.1 t (b.2.1 t ht),by have:=a.2.2;have:=b.2.2;dsimp only at *;omega⟩
  ·rename_i hn;exact absurd h (hn e r)
 |f+1, .more two e0,ts,e,r,hs,hm,h=>by
  rw[cu]at h
  split at h
  ·rename_i k r1 h0
   have hl:=pp h0;have hsub:=qm h0
   split at h
   ·rename_i e1 r2 h1
    have a:=ig f _ _ _ _ (fun t ht=>hs t (hsub t ht)) (fun _ _ h=>by cases two<;>cases h) h1
    have hb:po (rx (.bin k e0 e1)):= .mk (by cases k<;>decide) (by cases k<;>decide) nO nO (by decide) (by simp) (fun x hx=>by
     rcases List.mem_cons.1 hx with rfl|hx
     ·exact hm two e0 rfl
     ·cases List.mem_singleton.1 hx;exact a.1)
    have b:=ig f _ _ _ _ (fun t ht=>hs t (hsub t (a.2.1 t ht))) (fun _ _ h=>by cases h;exact hb) h;refine⟨b.1,fun t ht=>hsub t (a.2.1 t (b.2.1 t ht)),?_⟩;have h1:=a.2.2;have h2:=b.2.2;have h3:jN (rx (.bin k e0 e1))=jN (rx e0)+jN (rx e1)+1:=by simp[rx,jN,ls]
    cases two<;>dsimp only[d4]at * <;>omega
   ·rename_i hn;exact absurd h (hn e r)
  ·cases h;exact⟨hm two _ rfl,fun t ht=>ht,by dsimp only;omega⟩
 |f+1, .un,ts,e,r,hs,hm,h=>by
  rw[gn]at h
  split at h
  ·rename_i r1 h0
   have hl:=fA h0;have hsub:=fD h0
   split at h
   ·rename_i e1 r2 h1
    have a:=ig f _ _ _ _ (fun t ht=>hs t (hsub t ht)) (fun _ _ h=>by cases h) h1;cases h;have h3:jN (rx (.neg e1))=jN (rx e1)+1:=by simp[rx,jN,ls]
    refine⟨.mk (by decide) (by decide) nO nO (by decide) (by simp) (fun x hx=>by cases List.mem_singleton.1 hx;exact a.1),fun t ht=>hsub t (a.2.1 t ht),?_⟩;have:=a.2.2;dsimp only at *;omega
   ·rename_i hn;exact absurd h (hn e r)
  ·have a:=ig f _ _ _ _ hs (fun _ _ h=>by cases h) h
   exact a
 |f+1, .prim,ts,e,r,hs,hm,h=>by
  rw[dz]at h
  split at h
  ·rename_i r1 h0
   have hl:=fA h0;have hsub:=fD h0
   split at h
   ·rename_i e1 r2 h1
    have a:=ig f _ _ _ _ (fun t ht=>hs t (hsub t ht)) (fun _ _ h=>by cases h) h1
    split at h
    ·rename_i r3 h2
     have b:=fA h2;cases h;refine⟨a.1,fun t ht=>hsub t (a.2.1 t (fD h2 t ht)),?_⟩;have:=a.2.2;dsimp only at *;omega
    ·cases h
   ·rename_i hn;exact absurd h (hn e r)
  ·split at h
   ·rename_i t r1 _
    split at h
    ·injection h with h
     have h2:=wY h;obtain⟨q,u,rfl,hu,hsub⟩:=wJ h;refine⟨.mk (by decide) (by decide) (aq _) (aq _) ?_ (by decide) (fun x hx=>by cases hx),fun t ht=>List.mem_cons_of_mem _ (hsub t ht),?_⟩
     ·rcases hu with rfl| ⟨v,hv,rfl⟩
      ·decide
      ·have:=hs v (List.mem_cons_of_mem _ hv);omega
     ·simp[rx,jN,ls];omega
    ·split at h
     ·cases h
      refine⟨.mk (by decide) (by decide) nO nO ?_ (by decide) (fun x hx=>by cases hx),fun t ht=>List.mem_cons_of_mem _ ht,?_⟩
      ·have:=hs t (by simp);omega
      ·simp[rx,jN,ls];omega
     ·cases h
   ·cases h
theorem cS {j i:Nat} {cs ci:List AV}:(sB [(j,cs)]).bx i=some ci↔i=j∧ci=cs:=by
 rw[dw]
 by_cases e:j=i
 ·subst e
  rw[aC,an]
  constructor
  ·intro h;cases h;exact⟨rfl,rfl⟩
  ·rintro⟨_,rfl⟩;rfl
 ·rw[aC,aA _ _ e]
  constructor
  ·intro h;cases h
  ·rintro⟨h,_⟩;exact absurd h.symm e
theorem ld {S:Nat→Prop} {g:Nat→Nat} {j:Nat} {cs:List AV}:Own S g (sB [(j,cs)])=fun q=>S q∨g j=q:=by
 funext q
 unfold Own;refine propext ⟨?_,?_⟩
 ·rintro(h| ⟨i,ci,h,e⟩)
  ·exact .inl h
  ·obtain⟨rfl,_⟩:=cS.1 h;exact .inr e
 ·rintro(h|e)
  ·exact .inl h
  ·exact .inr ⟨j,cs,cS.2 ⟨rfl,rfl⟩,e⟩
theorem yI {g:Nat→Nat} {j:Nat} {cs:List AV}:BX g [(j,cs)]=fun q=>g j=q:=by
 funext q
 unfold BX;refine propext ⟨?_,?_⟩
 ·rintro⟨i,ci,h,e⟩
  obtain⟨rfl,_⟩:=cS.1 h;exact e
 ·intro e;exact⟨j,cs,cS.2 ⟨rfl,rfl⟩,e⟩
def sw (a b j:Nat):Nat:=if j=a then b else if j=b then a else j
theorem lF (a b j:Nat):sw a b (sw a b j)=j:=by
 unfold sw
 split <;>split <;>(try split)<;>omega
theorem ux {a b i j:Nat} (h:sw a b i=sw a b j):i=j:=by
 have:=congrArg (sw a b) h
 rwa[lF,lF]at this
def HG (a b:Nat):AV→AV
 | .ow j n k e=> .ow (sw a b j) n k e
 | .bp j o=> .bp (sw a b j) o
 |x=>x
def rW (a b j:Nat) (cs:List AV):List AV:=match dX j with
 |true=>cs.map (HG a b)
 |false=>cs
def nP (a b:Nat):BL→BL
 | []=>[]
 |(j,cs)::r=>(sw a b j,rW a b j cs)::nP a b r
def IT (a b:Nat):CV→CV
 | .val v=> .val v
 | .box j o=> .box (sw a b j) o
def GE (a b:Nat):TV→TV
 | .box j o=> .box (sw a b j) o
 | .own j n k e=> .own (sw a b j) n k e
 | .clo fn fs cs=> .clo fn (fs.map (IT a b)) (cs.map (IT a b))
 |x=>x
def HI (a b:Nat):RT→RT
 | .own j n k e=> .own (sw a b j) n k e
 | .v r=> .v r
theorem mK (a b j:Nat) (cs:List AV):(rW a b j cs).length=cs.length:=by
 unfold rW;split <;>simp
theorem GZ (a b:Nat) (r:RT):(HI a b r).tv=GE a b r.tv:=by
 cases r with
 |own=>rfl
 |v r=>cases r<;>rfl
theorem oR {a b:Nat}:∀(l:BL) (j:Nat),am (aC (nP a b l)) (sw a b j)=(am (aC l) j).map fun o=>o.map (rW a b j)
 | [],_=>rfl
 |(i,cs)::r,j=>by
  by_cases e:i=j
  ·subst e
   rw[nP,aC,aC,an,an];rfl
  ·rw[nP,aC,aC,aA _ _ e,aA _ _ (fun h=>e (ux h))]
   exact oR r j
theorem Db {a b:Nat} (l:BL) (j:Nat):am (aC (nP a b l)) j=(am (aC l) (sw a b j)).map fun o=>o.map (rW a b (sw a b j)):=by
 have:=oR (a:=a) (b:=b) l (sw a b j)
 rwa[lF]at this
theorem qB {a b:Nat} {l:BL} {j:Nat} {cs:List AV} (h:(sB l).bx j=some cs):(sB (nP a b l)).bx (sw a b j)=some (rW a b j cs):=by
 rw[dw]at h ⊢;rw[oR,h];rfl
theorem jw {a b:Nat} {l:BL} {j:Nat} {cs:List AV} (h:(sB (nP a b l)).bx j=some cs):∃c0,(sB l).bx (sw a b j)=some c0∧cs=rW a b (sw a b j) c0:=by
 rw[dw,Db]at h;cases hl:am (aC l) (sw a b j)with
 |none=>rw[hl]at h;cases h
 |some o=>
  rw[hl]at h;cases o with
  |none=>cases h
  |some c0=>
   simp only[Option.map_some,Option.some.injEq]at h
   exact⟨c0,dw.2 hl,h.symm⟩
theorem zE {a b:Nat} {l:BL} {j:Nat}:(sB (nP a b l)).kn (sw a b j)↔(sB l).kn j:=by
 unfold AS.kn sB;dsimp only;rw[oR]
 constructor
 ·rintro⟨x,h⟩
  cases hl:am (aC l) j with
  |none=>rw[hl]at h;cases h
  |some o=>exact⟨o,rfl⟩
 ·rintro⟨x,h⟩
  rw[h];exact⟨_,rfl⟩
theorem nv {a b:Nat} {S:Nat→Prop} {g:Nat→Nat} {l:BL}:Own S g (sB (nP a b l))=Own S (fun j=>g (sw a b j)) (sB l):=by
 funext q
 refine propext ⟨?_,?_⟩
 ·rintro(h| ⟨j,cs,h,e⟩)
  ·exact .inl h
  ·obtain⟨c0,h0,_⟩:=jw h
   exact .inr ⟨sw a b j,c0,h0,by dsimp only;rw[lF];exact e⟩
 ·rintro(h| ⟨j,cs,h,e⟩)
  ·exact .inl h
  ·exact .inr ⟨sw a b j,_,qB h,e⟩
theorem zJ {a b:Nat} {g:Nat→Nat} {l:BL}:BX g (nP a b l)=BX (fun j=>g (sw a b j)) l:=by
 funext q
 refine propext ⟨?_,?_⟩
 ·rintro⟨j,cs,h,e⟩
  obtain⟨c0,h0,_⟩:=jw h;exact⟨sw a b j,c0,h0,by dsimp only;rw[lF];exact e⟩
 ·rintro⟨j,cs,h,e⟩
  exact⟨sw a b j,_,qB h,e⟩
section
variable {a b:Nat} {S:Nat→Prop} {g:Nat→Nat} {l:BL} {w:World}
theorem F6 {x:CV} {v:Value}:CV.M g (sB (nP a b l)) (IT a b x) v↔CV.M (fun j=>g (sw a b j)) (sB l) x v:=by
 cases x with
 |val u=>exact Iff.rfl
 |box j o=>
  constructor
  ·rintro⟨h1,h2⟩
   exact⟨zE.1 h1,fun cs hc=>h2 _ (qB hc)⟩
  ·rintro⟨h1,h2⟩
   refine⟨zE.2 h1,fun cs hc=>?_⟩;obtain⟨c0,h0,_⟩:=jw hc;rw[lF]at h0;exact h2 c0 h0
theorem qg:∀{xs:List CV} {vs:List Value},oJ g (sB (nP a b l)) (xs.map (IT a b)) vs↔oJ (fun j=>g (sw a b j)) (sB l) xs vs
 | [],[]=>Iff.rfl
 |x::xs,v::vs=>and_congr F6 qg
 | [],_::_=>Iff.rfl
 |_::_,[]=>Iff.rfl
theorem zi {x:TV} {v:Value}:TV.M S g (sB (nP a b l)) w (GE a b x) v↔TV.M S (fun j=>g (sw a b j)) (sB l) w x v:=by
 cases x with
 |d x=>exact Iff.rfl
 |tup ts=>exact Iff.rfl
 |box j o=>exact F6 (x:= .box j o)
 |rp cs=>exact Iff.rfl
 |own j n k e=>
  constructor
  ·rintro⟨h1,h2⟩
   refine⟨zE.1 h1,fun cs hc=>?_⟩;have:=h2 _ (qB hc)
   rwa[mK]at this
  ·rintro⟨h1,h2⟩
   refine⟨zE.2 h1,fun cs hc=>?_⟩;obtain⟨c0,h0,rfl⟩:=jw hc;rw[lF]at h0;rw[mK];exact h2 c0 h0
 |clo fn fs cs=>
  constructor
  ·rintro⟨us,vs,e,h1,h2⟩;exact⟨us,vs,e,qg.1 h1,qg.1 h2⟩
  ·rintro⟨us,vs,e,h1,h2⟩;exact⟨us,vs,e,qg.2 h1,qg.2 h2⟩
 |mp es=>exact Iff.rfl
 |nil=>exact Iff.rfl
 |und=>exact Iff.rfl
 |junk=>exact Iff.rfl
 |dfr f cs=>exact Iff.rfl
theorem xW:∀{xs:List TV} {vs:List Value},nj S g (sB (nP a b l)) w (xs.map (GE a b)) vs↔nj S (fun j=>g (sw a b j)) (sB l) w xs vs
 | [],[]=>Iff.rfl
 |x::xs,v::vs=>and_congr zi xW
 | [],_::_=>Iff.rfl
 |_::_,[]=>Iff.rfl
theorem FN {x:AV} {v:Value}:u5 S g (sB (nP a b l)) w (HG a b x) v↔u5 S (fun j=>g (sw a b j)) (sB l) w x v:=by
 cases x with
 |ow j n k e=>exact zi (S:=S) (w:=w) (x:= .own j n k e)
 |bp j o=>exact zi (S:=S) (w:=w) (x:= .box j o)
 |val=>exact Iff.rfl
 |sl=>exact Iff.rfl
 |nl=>exact Iff.rfl
theorem FF {x:AV} {v:Value}:AV.M S w (HG a b x) v↔AV.M S w x v:=by
 cases x with
 |ow j n k e=>constructor <;>(intro h;cases h;exact .ow (by assumption))
 |bp j o=>constructor <;>(intro h;cases h;exact .bp (by assumption))
 |val=>exact Iff.rfl
 |sl=>exact Iff.rfl
 |nl=>exact Iff.rfl
theorem yQ {j i:Nat} {cs:List AV} {x:AV} (h:(rW a b j cs)[i]? =some x):∃y,cs[i]? =some y∧ ∀(v:Value),(AV.M S w x v↔AV.M S w y v)∧(dX j=true→x=HG a b y):=by
 unfold rW at h
 split at h
 ·rw[List.getElem?_map]at h
  cases hc:cs[i]? with
  |none=>rw[hc]at h;cases h
  |some y=>
   rw[hc]at h;cases h;exact⟨y,rfl,fun v=>⟨FF,fun _=>rfl⟩⟩
 ·rename_i hl
  exact⟨x,h,fun v=>⟨Iff.rfl,fun h=>by rw[hl]at h;cases h⟩⟩
theorem wZ {j i:Nat} {cs:List AV} {y:AV} (h:cs[i]? =some y):∃x,(rW a b j cs)[i]? =some x∧ ∀(v:Value),(AV.M S w x v↔AV.M S w y v)∧(dX j=true→x=HG a b y):=by
 unfold rW
 split
 ·exact⟨HG a b y,by rw[List.getElem?_map,h];rfl,fun v=>⟨FF,fun _=>rfl⟩⟩
 ·rename_i hl
  exact⟨y,h,fun v=>⟨Iff.rfl,fun h=>by rw[hl]at h;cases h⟩⟩
theorem FO {j:Nat} {cs:List AV} {vs:List Value}:iV S w (rW a b j cs) vs↔iV S w cs vs:=by
 unfold iV;rw[mK]
 constructor
 ·rintro⟨h1,h2⟩
  refine⟨h1,fun i y v hy hv=>?_⟩;obtain⟨x,hx,h⟩:=wZ (a:=a) (b:=b) (S:=S) (w:=w) (j:=j) hy;exact(h v).1.1 (h2 i x v hx hv)
 ·rintro⟨h1,h2⟩
  refine⟨h1,fun i x v hx hv=>?_⟩;obtain⟨y,hy,h⟩:=yQ (S:=S) (w:=w) hx;exact(h v).1.2 (h2 i y v hy hv)
theorem zv {j B:Nat} {cs:List AV} (hw:dl (sw a b j)=dl j) (hl:dX (sw a b j)=dX j) (ht:iN (sw a b j)=iN j):mQ S g (sB (nP a b l)) w (sw a b j) (rW a b j cs) B↔mQ S (fun j=>g (sw a b j)) (sB l) w j cs B:=by
 constructor
 ·rintro⟨arr,e,h1,h2,h3,h4,h5⟩
  refine⟨arr,e,h1,FO.1 h2,by rw[← hw];exact h3,fun hj i y v hy hv=>?_,by rw[← ht];exact h5⟩;obtain⟨x,hx,h⟩:=wZ (a:=a) (b:=b) (S:=S) (w:=w) (j:=j) hy;have h6:=h4 (by rw[hl];exact hj) i x v hx hv;rw[(h v).2 hj]at h6;exact FN.1 h6
 ·rintro⟨arr,e,h1,h2,h3,h4,h5⟩
  refine⟨arr,e,h1,FO.2 h2,by rw[hw];exact h3,fun hj i x v hx hv=>?_,by rw[ht];exact h5⟩;obtain⟨y,hy,h⟩:=yQ (S:=S) (w:=w) hx;rw[(h v).2 (by rw[← hl];exact hj)];exact FN.2 (h4 (by rw[← hl];exact hj) i y v hy hv)
end
def mo (a b:Nat):Bool:=(dl a == dl b) && ((dX a == dX b) && (iN a == iN b))
theorem zP {a b:Nat} (h:mo a b=true) (j:Nat):dl (sw a b j)=dl j∧dX (sw a b j)=dX j∧iN (sw a b j)=iN j:=by
 simp only[mo,Bool.and_eq_true,beq_iff_eq]at h
 unfold sw
 split
 ·rename_i e;subst e;exact⟨h.1.symm,h.2.1.symm,h.2.2.symm⟩
 ·split
  ·rename_i e;subst e;exact⟨h.1,h.2.1,h.2.2⟩
  ·exact⟨rfl,rfl,rfl⟩
section
variable {P:Program} {f:FuncId} {ts:List TV} {l l':BL} {r:RT} {a b:Nat}
theorem Dc (hab:mo a b=true) {S:Nat→Prop} {g:Nat→Nat} {w:World} (h:F9 S g w (nP a b l)):F9 S (fun j=>g (sw a b j)) w l:=by
 refine⟨?_,?_,?_,?_,?_⟩
 ·rw[← zJ];exact h.tab
 ·rw[← zJ];exact h.blk
 ·intro k cs hk
  have:=h.gl k cs hk;rw[nv]at this;exact this
 ·intro j cs hj
  have h1:=h.bm _ _ (qB (a:=a) (b:=b) hj);obtain⟨k1,k2,k3⟩:=zP hab j;rw[nv]at h1;exact(zv k1 k2 k3).1 h1
 ·intro i j ci cj hi hj e
  exact ux (h.inj _ _ _ _ (qB (a:=a) (b:=b) hi) (qB (a:=a) (b:=b) hj) e)
theorem Ch (hab:mo a b=true) {S:Nat→Prop} {g:Nat→Nat} {w w':World} {e:Ending} (h:uP S (fun j=>g (sw a b j)) l r l' w e w'):uP S g (nP a b l) (HI a b r) (nP a b l') w e w':=by
 obtain⟨v,g',he,h1,h2,h3,h4,h5⟩:=h;have hg:(fun j=>(fun i=>g' (sw a b i)) (sw a b j))=g':=by funext j;dsimp only;rw[lF]
 refine⟨v,fun i=>g' (sw a b i),he,?_,?_,?_,?_,?_⟩
 ·intro j cs cs' hj hj'
  obtain⟨c0,k1,rfl⟩:=jw hj;obtain⟨c1,k2,rfl⟩:=jw hj';obtain⟨k3,k4⟩:=h1 _ _ _ k1 k2;dsimp only at k3 ⊢;rw[lF]at k3;rw[mK,mK];exact⟨k3,k4⟩
 ·intro j cs' hj
  obtain⟨c0,k1,rfl⟩:=jw hj;obtain⟨k2,k3⟩:=h2 _ _ k1;rw[zJ];refine⟨k2,?_⟩;obtain⟨q1,q2,q3⟩:=zP hab (sw a b j);have:=(zv (a:=a) (b:=b) (S:=Own S g' (sB l')) (g:=fun i=>g' (sw a b i)) (l:=l') (w:=w') (cs:=c0) (B:=g' (sw a b j)) q1 q2 q3).2 (by rw[hg];exact k3);rw[nv,hg];rw[lF]at this;exact this
 ·intro i j ci cj hi hj e
  obtain⟨c0,k1,_⟩:=jw hi;obtain⟨c1,k2,_⟩:=jw hj;exact ux (h3 _ _ _ _ k1 k2 e)
 ·rw[GZ,nv,hg,zi,hg]
  exact h4
 ·rw[zJ];exact h5
theorem rE {fn:Func} {R R':Ending→World→Prop} (hR:∀e w,R e w→R' e w) {x:Exit} {a:Act} {w:World} (h:bodyPost P fn R x a w):bodyPost P fn R' x a w:=by
 cases x with
 |normal=>obtain⟨h1,v,h2,h3⟩:=h;exact⟨h1,v,h2,hR _ _ h3⟩
 |ret=>obtain⟨h1,v,h2,h3⟩:=h;exact⟨h1,v,h2,hR _ _ h3⟩
 |panic c=>exact⟨h.1,hR _ _ h.2⟩
 |outgrown=>exact hR _ _ h
 |exit i=>exact h
 |goto l=>exact h
theorem aw.swap (a b:Nat) (hab:mo a b=true) (h:aw P f ts l r l'):aw P f (ts.map (GE a b)) (nP a b l) (HI a b r) (nP a b l'):=by
 refine⟨h.enter,fun S g w vs hpre hv=>?_⟩;rw[nv,xW]at hv;exact(h.calls S _ w vs (Dc hab hpre) hv).mono fun e w' hr=>Ch hab hr
theorem ir.swap (a b:Nat) (hab:mo a b=true) (h:ir P f ts l r l'):ir P f (ts.map (GE a b)) (nP a b l) (HI a b r) (nP a b l'):=by
 obtain⟨fn,c,h1,h2,h3⟩:=h.body;refine⟨h.enter,fn,c,h1,h2,fun S g w vs hpre hv=>?_⟩;rw[nv,xW]at hv;exact wp_mono (h3 S _ w vs (Dc hab hpre) hv) fun e a w' hq=>rE (fun e w' hr=>Ch hab hr) hq
end
section
variable {P:Program} {T:TypeId→Option Ty} {n:Nat} {ops:Array Oper} {id:Nat} {draw:Bool} {K:AS→Prop} {s:AS} {k:Nat} {o:Oper} {os:List Oper} {fps:List FP}
theorem mH (hT:∀t d,T t=some d→b7 P t d) {t:TypeId} {ty:Ty} {x z:Operand} {l:List UInt8} {j:Nat} {ik:IntKind} (hj:j≤l.length) (h1:gd ops s o=some true) (h2:o.op= .slice t x none (some z) none) (h5:T t=some ty) (h6:ty.isStr=true) (h7:s.ev x= .d (.leaf (.val (vL l)))) (h9:s.ev z= .d (.leaf (.val (.int ik (j:Nat)))))
 (h3:bn n o.dst=true) (h4:jr draw ops (a6 ops o ⟨.d (dL (l.take j)),none⟩ []) k fps=true) (h:aH P T n ops id draw K (k+1) os (s.eff o.dst ⟨.d (dL (l.take j)),none⟩) (a6 ops o ⟨.d (dL (l.take j)),none⟩ []::fps)):aH P T n ops id draw K k (o::os) s fps:=by
 refine .run h1 (.gen fun s2 ht _=>?_) h3 h4 h;have hx:=(bd ht (x:=x) (by simp[h2,Op.operands])).trans h7;have hz:=(bd ht (x:=z) (by simp[h2,Op.operands])).trans h9;have hu:=kd (hT _ _ h5) h6;refine av fun n S0 w0 g a w hM=>⟨vL (l.take j),w,?_,Below.refl _ _,AV.M.val rfl⟩
 unfold execOp;rw[h2]
 have e1:(Instr.sliceAt t (.string (Bs l)) none (some (.int ik j)) none).run P w= .ok (vL (l.take j)) w:=by
  unfold Instr.sliceAt
  simp only[Sem.run_bind,run_underlying hu w,Result.andThen_ok]
  rw[run_slice_string_h w t (Bs l) hu ik j (by omega) (by rw[au];omega)]
  simp only[Int.toNat_natCast]
  rw[jA];rfl
 simp only[bJ hM hx,bJ hM hz,vL,Option.map_some,Option.map_none,Sem.run_bind,e1,Result.andThen_ok]
 rfl
end
theorem FU {S S':Nat→Prop} {g g':Nat→Nat} {s s':AS} {w:World} (hS:S=S'):∀{ds:List DV} {vs:List Value},nj S g s w (ds.map .d) vs→nj S' g' s' w (ds.map .d) vs
 | [],[],_=>trivial
 |d::ds,v::vs,h=>⟨by subst hS;exact h.1,FU hS h.2⟩
 | [],_::_,h=>h.elim
 |_::_,[],h=>h.elim
theorem aw.ren {P:Program} {f:FuncId} {j:Nat} {ds:List DV} {cs cs':List AV} {r:RV} (h:aw P f (.box j 0::ds.map .d) [(j,cs)] (.v r) [(j,cs')]) (j':Nat) (hw:dl j'=dl j) (hl:dX j=false) (hl':dX j'=false):aw P f (.box j' 0::ds.map .d) [(j',cs)] (.v r) [(j',cs')]:=by
 have ht:iN j'=false:=by
  cases e:iN j' with
  |false=>rfl
  |true=>rw[mz e]at hl';cases hl'
 have ht0:iN j=false:=by
  cases e:iN j with
  |false=>rfl
  |true=>rw[mz e]at hl;cases hl
 refine⟨h.enter,fun S g w vs hpre hv=>?_⟩;have hg:(fun i=>if i=j then g j' else g i) j=g j':=if_pos rfl;generalize hg1:(fun i=>if i=j then g j' else g i)=g1 at hg;have hO:Own S g1 (sB [(j,cs)])=Own S g (sB [(j',cs)]):=by rw[ld,ld,hg]
 have hX:BX g1 [(j,cs)]=BX g [(j',cs)]:=by rw[yI,yI,hg]
 have hpre1:F9 S g1 w [(j,cs)]:=by
  refine⟨?_,?_,?_,?_,?_⟩
  ·rw[hX];exact hpre.tab
  ·rw[hX];exact hpre.blk
  ·rw[hO];exact hpre.gl
  ·intro i ci hi
   obtain⟨rfl,rfl⟩:=cS.1 hi;obtain⟨arr,e,h1,h2,h3,_,_⟩:=hpre.bm j' ci (cS.2 ⟨rfl,rfl⟩);rw[hO,hg];exact⟨arr,e,h1,h2,by rw[← hw];exact h3,fun h=>(by rw[hl]at h;cases h),fun h=>(by rw[ht0]at h;cases h)⟩
  ·intro i i2 ci cj h1 h2 _
   rw[(cS.1 h1).1,(cS.1 h2).1]
 have hv1:nj (Own S g1 (sB [(j,cs)])) g1 (sB [(j,cs)]) w (.box j 0::ds.map .d) vs:=by
  cases vs with
  |nil=>exact hv.elim
  |cons v vs=>
   obtain⟨hb,hv⟩:=hv;refine⟨⟨⟨some cs,by rw[sB,aC,an]⟩,fun ci hi=>?_⟩,FU hO.symm hv⟩;rw[hg];exact hb.2 cs (cS.2 ⟨rfl,rfl⟩)
 refine(h.calls S g1 w vs hpre1 hv1).mono ?_;rintro e w' ⟨v,g',rfl,h1,h2,h3,h4,h5⟩;have hg2:(fun i=>if i=j' then g' j else g' i) j'=g' j:=if_pos rfl;generalize(fun i=>if i=j' then g' j else g' i)=g2 at hg2;have hO2:Own S g2 (sB [(j',cs')])=Own S g' (sB [(j,cs')]):=by rw[ld,ld,hg2]
 refine⟨v,g2,rfl,?_,?_,?_,?_,?_⟩
 ·intro i ci ci' hi hi'
  obtain⟨rfl,rfl⟩:=cS.1 hi;obtain⟨_,rfl⟩:=cS.1 hi';have:=h1 j ci ci' (cS.2 ⟨rfl,rfl⟩) (cS.2 ⟨rfl,rfl⟩);rw[hg2,this.1,hg];exact⟨rfl,this.2⟩
 ·intro i ci hi
  obtain⟨rfl,rfl⟩:=cS.1 hi;obtain⟨k1,arr,e,k2,k3,k4,_,_⟩:=h2 j ci (cS.2 ⟨rfl,rfl⟩);rw[hX]at k1;rw[hg2,hO2];exact⟨k1,arr,e,k2,k3,by rw[hw];exact k4,fun h=>(by rw[hl']at h;cases h),fun h=>(by rw[ht]at h;cases h)⟩
 ·intro i i2 ci cj k1 k2 _
  rw[(cS.1 k1).1,(cS.1 k2).1]
 ·rw[hO2]
  cases r with
  |one d=>exact h4
  |tup l=>exact h4
 ·rw[← hX];exact h5
theorem qG:∀(x:Rx),po x→jN x≤1000000→ab Tryz.prog 24 [dR x] (.one (dN .i64 (ox x))):=by
 refine ij fun op na xs nb ys nm args ih hx hs=>?_
 have hd0:=DT (.mk op na xs nb ys nm args);obtain⟨_,_,_,_,_,hlen,hargs⟩:=hx;rw[jN]at hs;rw[ox,jN]at hd0;show ab Tryz.prog _ [.agg (ae op na xs nb ys nm args.length (jJ args))] _;refine kU aa ac Tryz.func24 ?_;refine kW ?_
 refine bh (Nat × Nat) (fun s=>s.1≤args.length∧s.2≤jO args∧max s.2 (jO (args.drop s.1))=jO args) (fun s=>⟨[(2, .d (dN .i64 0)),(3, .d (dN .i64 s.2)),(7, .d (.leaf (.sl args.length (jJ args)))),(8, .d (dN .i64 args.length)),(9, .d (dN .i64 s.1))],[]⟩) (fun s=>args.length-s.1) (0,0) ⟨Nat.zero_le _,Nat.zero_le _,Nat.zero_max _⟩
  (weak ⟨rfl,rfl,rfl,rfl,rfl,trivial⟩ trivial rfl) ?_
 rintro⟨i,d⟩ ⟨hi,h1,h2⟩;dsimp only at hi h1 h2 ⊢;refine kI ?_
 by_cases hlt:i<args.length
 ·refine kT ?_
  obtain⟨o1,na1,xs1,nb1,ys1,nm1,n1,cs1,hA⟩:=aX args[i];have hx:args[i]? =some args[i]:=by simp[hlt]
  have hat:∀(j:Nat) (a:AV),(ae o1 na1 xs1 nb1 ys1 nm1 n1 cs1)[j]? =some a→(jJ args)[i*7+j]? =some a:=fun j a h=>ko args i args[i] hx j a (by rw[hA];exact h)
  have hm:=List.getElem_mem hlt;have hsz:=uk hm;have hdp:=ut hm;have c:=ih args[i] hm (hargs _ hm) (by omega);rw[show dR args[i]= .agg (ae o1 na1 xs1 nb1 ys1 nm1 n1 cs1) from congrArg DV.agg hA]at c;rw[List.drop_eq_getElem_cons hlt,jO]at h2;generalize ox args[i]=k at *;refine kW ?_;refine bf (i:=i) (cs':=ae o1 na1 xs1 nb1 ys1 nm1 n1 cs1) hlt hat (Nat.zero_lt_succ 6) rfl rfl rfl rfl rfl rfl rfl rfl ?_;refine kW ?_;refine kC (c) ?_;refine Ga (a:=d) (b:=k) (m:=(max d k:Nat)) (by omega) rfl rfl rfl rfl rfl rfl ?_;refine kW ?_;exact⟨(i+1,max d k),⟨hlt,by dsimp only;omega,by dsimp only;omega⟩,by dsimp only;omega,weak ⟨rfl,rfl,rfl,rfl,bc (by omega) (by omega),trivial⟩ trivial rfl⟩
 ·refine kE ?_
  rw[List.drop_eq_nil_of_le (by omega),jO]at h2;have hdd:d=jO args:=by omega
  rw[ox,← hdd];refine kN ?_;refine aJ (T:=TT) ?_;refine eB (T:=TT) rfl ?_;refine eN ?_;refine kI ?_;refine kO ?_;refine kJ ((d+1:Nat)) ?_;exact kF
theorem fb:∀(f:Nat) (m:Md) (ts:List Tk) (e:Ex) (r:List Tk),pP f m ts=some (.ok (e,r))→ ∀t∈r,t∈ts
 |0,_,_,_,_,h=>by cases h
 |f+1, .sum,ts,e,r,h=>by
  rw[fZ]at h
  split at h
  ·rename_i e1 r1 h1
   exact fun t ht=>fb f _ _ _ _ h1 t (fb f _ _ _ _ h t ht)
  ·rename_i hn;exact absurd h (hn e r)
 |f+1, .prod,ts,e,r,h=>by
  rw[eR]at h
  split at h
  ·rename_i e1 r1 h1
   exact fun t ht=>fb f _ _ _ _ h1 t (fb f _ _ _ _ h t ht)
  ·rename_i hn;exact absurd h (hn e r)
 |f+1, .more two e0,ts,e,r,h=>by
  rw[cu]at h
  split at h
  ·rename_i k r1 h0
   split at h
   ·rename_i e1 r2 h1
    exact fun t ht=>qm h0 t (fb f _ _ _ _ h1 t (fb f _ _ _ _ h t ht))
   ·rename_i hn;exact absurd h (hn e r)
  ·cases h;exact fun t ht=>ht
 |f+1, .un,ts,e,r,h=>by
  rw[gn]at h
  split at h
  ·rename_i r1 h0
   split at h
   ·rename_i e1 r2 h1
    cases h;exact fun t ht=>fD h0 t (fb f _ _ _ _ h1 t ht)
   ·rename_i hn;exact absurd h (hn e r)
  ·exact fb f _ _ _ _ h
 |f+1, .prim,ts,e,r,h=>by
  rw[dz]at h
  split at h
  ·rename_i r1 h0
   split at h
   ·rename_i e1 r2 h1
    split at h
    ·rename_i r3 h2
     cases h;exact fun t ht=>fD h0 t (fb f _ _ _ _ h1 t (fD h2 t ht))
    ·cases h
   ·rename_i hn;exact absurd h (hn e r)
  ·split at h
   ·rename_i t r1 _
    split at h
    ·injection h with h
     obtain⟨q,u,_,_,hsub⟩:=wJ h;exact fun t ht=>List.mem_cons_of_mem _ (hsub t ht)
    ·split at h
     ·cases h;exact fun t ht=>List.mem_cons_of_mem _ ht
     ·cases h
   ·cases h
theorem ez {E:Nat}:∀(f:Nat) (m:Md) (ts:List Tk) (x:gS),cK ts→(∀t∈ts,t.2.2≤E)→pP f m ts=some x→(match x with
  | .ok (_,r)=>cK r
  | .error (p,c)=>p≤E∧c≠0)
 |0,_,_,_,_,_,h=>by cases h
 |f+1, .sum,ts,x,hw,hE,h=>by
  rw[fZ]at h
  split at h
  ·rename_i e1 r1 h1
   have a:=ez f _ _ _ hw hE h1;have hsub:=fb f _ _ _ _ h1;exact ez f _ _ _ a (fun t ht=>hE t (hsub t ht)) h
  ·exact ez f _ _ _ hw hE h
 |f+1, .prod,ts,x,hw,hE,h=>by
  rw[eR]at h
  split at h
  ·rename_i e1 r1 h1
   have a:=ez f _ _ _ hw hE h1;have hsub:=fb f _ _ _ _ h1;exact ez f _ _ _ a (fun t ht=>hE t (hsub t ht)) h
  ·exact ez f _ _ _ hw hE h
 |f+1, .more two e0,ts,x,hw,hE,h=>by
  rw[cu]at h;obtain⟨t,r,rfl⟩:=hw.ne
  split at h
  ·rename_i k r1 h0
   obtain⟨rfl,h4,_⟩:=jh h0;have hw2:=hw.tail (by omega);have hE2:∀t∈r1,t.2.2≤E:=fun t ht=>hE t (List.mem_cons_of_mem _ ht)
   split at h
   ·rename_i e1 r2 h1
    have a:=ez f _ _ _ hw2 hE2 h1;have hsub:=fb f _ _ _ _ h1;exact ez f _ _ _ a (fun t ht=>hE2 t (hsub t ht)) h
   ·exact ez f _ _ _ hw2 hE2 h
  ·cases h;exact hw
 |f+1, .un,ts,x,hw,hE,h=>by
  rw[gn]at h;obtain⟨t,r,rfl⟩:=hw.ne
  split at h
  ·rename_i r1 h0
   obtain⟨rfl,h4⟩:=jF h0;have hw2:=hw.tail (by omega);have hE2:∀t∈r1,t.2.2≤E:=fun t ht=>hE t (List.mem_cons_of_mem _ ht)
   split at h
   ·rename_i e1 r2 h1
    have a:=ez f _ _ _ hw2 hE2 h1;cases h;exact a
   ·exact ez f _ _ _ hw2 hE2 h
  ·exact ez f _ _ _ hw hE h
 |f+1, .prim,ts,x,hw,hE,h=>by
  rw[dz]at h;obtain⟨t,r,rfl⟩:=hw.ne
  split at h
  ·rename_i r1 h0
   obtain⟨rfl,h4⟩:=jF h0;have hw2:=hw.tail (by omega);have hE2:∀t∈r1,t.2.2≤E:=fun t ht=>hE t (List.mem_cons_of_mem _ ht)
   split at h
   ·rename_i e1 r2 h1
    have a:=ez f _ _ _ hw2 hE2 h1;have a:cK r2:=a;have hsub:=fb f _ _ _ _ h1;obtain⟨u,r3,rfl⟩:=a.ne
    split at h
    ·rename_i r4 h2
     obtain⟨rfl,h5⟩:=jF h2;cases h;exact a.tail (by omega)
    ·cases h
     exact⟨hE2 _ (hsub u (by simp)),by decide⟩
   ·exact ez f _ _ _ hw2 hE2 h
  ·dsimp only at h
   have ht:=hE t (by simp)
   split at h
   ·rename_i h2
    have hw2:=hw.tail (by omega)
    injection h with h
    unfold eg at h
    split at h
    ·subst h;exact⟨ht,by decide⟩
    ·split at h
     ·subst h;exact⟨ht,by decide⟩
     ·split at h
      ·split at h
       ·subst h;exact hw2.tail (by omega)
       ·subst h;exact hw2
      ·subst h;exact hw2
   ·split at h
    ·cases h;exact hw.tail (by omega)
    ·cases h;exact⟨ht,by decide⟩
theorem aw.ren0 {P:Program} {f:FuncId} {j:Nat} {cs cs':List AV} {r:RV} (h:aw P f [.box j 0] [(j,cs)] (.v r) [(j,cs')]) (j':Nat) (hw:dl j'=dl j) (hl:dX j=false) (hl':dX j'=false):aw P f [.box j' 0] [(j',cs)] (.v r) [(j',cs')]:=aw.ren (ds:=[]) h j' hw hl hl'
theorem aw.ren1 {P:Program} {f:FuncId} {j:Nat} {d:DV} {cs cs':List AV} {r:RV} (h:aw P f [.box j 0, .d d] [(j,cs)] (.v r) [(j,cs')]) (j':Nat) (hw:dl j'=dl j) (hl:dX j=false) (hl':dX j'=false):aw P f [.box j' 0, .d d] [(j',cs)] (.v r) [(j',cs')]:=aw.ren (ds:=[d]) h j' hw hl hl'
noncomputable def gQ (T:List Tk) (b:Int) (E:Nat):Except (Nat × Int) Ex:=match pP (5*T.length+5) .sum T with
 |some (.ok (e,t::_))=>if t.1≠0 then .error (t.2.2,2)else if b≠0 then .error (E,b)else if ox (rx e)≤40 then .ok e else .error (CZ T,3)
 |some (.error (p,c))=> .error (p,oe E b p c)
 |_=> .error (0,2)
noncomputable def jW (s:List UInt8):Except (Nat × Int) Ex:=match cU (s.length+1) s 0 []with
 | .ok T=>gQ T 0 s.length
 | .error (a,b)=>match cU ((s.take a).length+1) (s.take a) 0 []with
  | .ok T=>gQ T b a
  | .error _=> .error (0,2)
noncomputable def gv (x:Except (Nat × Int) Ex):RV:=match x with
 | .ok e=> .tup [dE e,dN .i64 0,dN .i64 0]
 | .error (p,c)=> .tup [dR z7,dN .i64 p,dN .i64 c]
structure tX (T:List Tk) (E:Nat):Prop where
 w:cK T
 z:dm E T
 s:∀t∈T,t.2.1.length≤65536
 l:T.length≤999999
theorem tX.le {T:List Tk} {E:Nat} (h:tX T E):∀t∈T,t.2.2≤E:=fun t ht=>by
 by_cases h0:t.1=0
 ·exact Nat.le_of_eq ((h.z t ht).1 h0)
 ·exact Nat.le_of_lt ((h.z t ht).2 h0)
theorem JD (T:List Tk):∃x,pP (5*T.length+5) .sum T=some x:=G3 _ .sum T (Nat.le_refl _)
theorem oQ {T:List Tk} {E:Nat} (hT:tX T E) {e:Ex} {r:List Tk} {f:Nat} (h:pP f .sum T=some (.ok (e,r))):po (rx e)∧jN (rx e)≤1000000∧cK r∧ ∀t∈r,t∈T:=by
 have a:=ig _ _ _ _ _ hT.s (fun _ _ h=>by cases h) h;have b:=ez (E:=E) _ _ _ _ hT.w hT.le h;have:=a.2.2;have:=hT.l;exact⟨a.1,by dsimp only at *;omega,b,a.2.1⟩
theorem ov (s:List UInt8) (T:List Tk) (cT:ab Tryz.prog 38 [dL s] (jK (.ok T))) (hT:tX T s.length):ab Tryz.prog 16 [dL s] (gv (gQ T 0 s.length)):=by
 have cT:ab Tryz.prog 38 [dL s] (.tup [.leaf (.sl T.length (b6 T)),dN .i64 0,dN .i64 0]):=cT;obtain⟨x,hx⟩:=JD T;have cs:=(yx 0 _).sum T x hT.w hx;unfold gQ;rw[hx];cases x with
 |ok z=>
  obtain⟨e,r⟩:=z;obtain⟨hwx,hsz,hwr,hsub⟩:=oQ hT hx;obtain⟨t,r,rfl⟩:=hwr.ne;have cs:=cs.1.ren0 4002 rfl rfl rfl;have cn:=(bA t r 0 0).ren0 4002 rfl rfl rfl;have cf:=(jc t r 0 2).ren1 4002 rfl rfl rfl;have cd:=qG (rx e) hwx hsz;dsimp only;obtain⟨o1,na1,xs1,nb1,ys1,nm1,n1,cs1,hA⟩:=ar e;rw[show dR (rx e)= .agg (ae o1 na1 xs1 nb1 ys1 nm1 n1 cs1) from congrArg DV.agg hA]at cd;have hE:dE e= .agg (ae o1 na1 xs1 nb1 ys1 nm1 n1 cs1):=congrArg DV.agg hA;rw[hE]at cs
  by_cases h0:t.1=0
  ·rw[if_neg (fun h=>h h0),if_neg (fun h=>h rfl)]
   by_cases hd:ox (rx e)≤40
   ·rw[if_pos hd]
    unfold gv;dsimp only;rw[hE];refine kU aa ac Tryz.func16 ?_;refine kR ?_;refine kI ?_;refine kO ?_;refine kQ (cT) ?_;refine kD (cs) ?_;refine kW ?_;refine kD (cn) ?_;refine kO ?_;refine kB false ?_ ?_
    ·exact(by simp;omega)
    refine kW ?_;refine kC (cd) ?_;refine kE ?_;exact kF
   ·rw[if_neg hd]
    obtain⟨t0,r0,rfl⟩:=hT.w.ne;unfold gv;dsimp only;refine kU aa ac Tryz.func16 ?_;refine kR ?_;refine kI ?_;refine kO ?_;refine kQ (cT) ?_;refine kD (cs) ?_;refine kW ?_;refine kD (cn) ?_;refine kO ?_;refine kB false ?_ ?_
    ·exact(by simp;omega)
    refine kW ?_;refine kC (cd) ?_;refine kX ?_
    refine bf (i:=0) (cs':=iv t0) (Nat.zero_lt_succ _) (fun j a h=>by
     rw[Nat.zero_mul,Nat.zero_add];show(iv t0++b6 r0)[j]? =some a;rw[List.getElem?_append_left (List.getElem?_eq_some_iff.1 h).1];exact h) (Nat.zero_lt_succ 2) rfl rfl rfl rfl rfl rfl rfl rfl ?_
    exact kF
  ·rw[if_pos h0]
   unfold gv;dsimp only;refine kU aa ac Tryz.func16 ?_;refine kR ?_;refine kI ?_;refine kO ?_;refine kQ (cT) ?_;refine kD (cs) ?_;refine kW ?_;refine kD (cn) ?_;refine kO ?_;refine kB true ?_ ?_
   ·exact(by simp;omega)
   refine kW ?_;refine kD (cf) ?_;exact kF
 |error z=>
  obtain⟨p,c⟩:=z;obtain⟨hc,y,ts',cs,hw⟩:=cs;obtain⟨t,r,rfl⟩:=hw.ne;have cs:=cs.ren0 4002 rfl rfl rfl;have cn:=(bA t r p c).ren0 4002 rfl rfl rfl;have cf:=(oZ t r p c 2 hc).ren1 4002 rfl rfl rfl;obtain⟨o1,na1,xs1,nb1,ys1,nm1,n1,cs1,hA⟩:=aX y;rw[show dR y= .agg (ae o1 na1 xs1 nb1 ys1 nm1 n1 cs1) from congrArg DV.agg hA]at cs;dsimp only;rw[we];unfold gv;dsimp only
  by_cases h0:t.1=0
  ·refine kU aa ac Tryz.func16 ?_
   refine kR ?_;refine kI ?_;refine kO ?_;refine kQ (cT) ?_;refine kD (cs) ?_;refine kW ?_;refine kD (cn) ?_;refine kO ?_;refine kB false ?_ ?_
   ·exact(by simp;omega)
   refine kG ?_
   iterate 4 refine kO ?_
   refine kB true ?_ ?_
   ·exact(by simp[hc])
   exact kF
  ·refine kU aa ac Tryz.func16 ?_
   refine kR ?_;refine kI ?_;refine kO ?_;refine kQ (cT) ?_;refine kD (cs) ?_;refine kW ?_;refine kD (cn) ?_;refine kO ?_;refine kB true ?_ ?_
   ·exact(by simp;omega)
   refine kW ?_;refine kD (cf) ?_;refine kG ?_
   iterate 4 refine kO ?_
   refine kB true ?_ ?_
   ·exact(by simp[hc])
   exact kF
theorem wD (s:List UInt8) (T:List Tk) (a:Nat) (b:Int) (hb:b=2∨b=3) (ha:a≤s.length) (c1:ab Tryz.prog 38 [dL s] (jK (.error (a,b)))) (c2:ab Tryz.prog 38 [dL (s.take a)] (jK (.ok T))) (hT:tX T a):ab Tryz.prog 16 [dL s] (gv (gQ T b a)):=by
 have hb0:b≠0:=by omega
 have c1:ab Tryz.prog 38 [dL s] (.tup [.leaf (.sl 0 []),dN .i64 a,dN .i64 b]):=c1;have c2:ab Tryz.prog 38 [dL (s.take a)] (.tup [.leaf (.sl T.length (b6 T)),dN .i64 0,dN .i64 0]):=c2;obtain⟨x,hx⟩:=JD T;have cs:=(yx 0 _).sum T x hT.w hx;have hpos:=ez (E:=a) _ _ _ _ hT.w hT.le hx;unfold gQ;rw[hx];cases x with
 |ok z=>
  obtain⟨e,r⟩:=z;obtain⟨hwx,hsz,hwr,hsub⟩:=oQ hT hx;obtain⟨t,r,rfl⟩:=hwr.ne;have hz:=hT.z t (hsub t (by simp));have cs:=cs.1.ren0 4002 rfl rfl rfl;have cn:=(bA t r 0 0).ren0 4002 rfl rfl rfl;have cf:=(jc t r 0 2).ren1 4002 rfl rfl rfl;dsimp only;obtain⟨o1,na1,xs1,nb1,ys1,nm1,n1,cs1,hA⟩:=ar e;rw[show dE e= .agg (ae o1 na1 xs1 nb1 ys1 nm1 n1 cs1) from congrArg DV.agg hA]at cs
  by_cases h0:t.1=0
  ·rw[if_neg (fun h=>h h0),if_pos hb0]
   unfold gv;dsimp only;rcases hb with rfl|rfl
   all_goals
    refine kU aa ac Tryz.func16 ?_;refine kR ?_;refine kI ?_;refine kO ?_;refine kQ (c1) ?_;refine mH aa (l:=s) (j:=a) ha rfl rfl rfl rfl rfl rfl rfl rfl ?_;refine kQ (c2) ?_;refine kD (cs) ?_;refine kW ?_;refine kD (cn) ?_;refine kO ?_;refine kB false ?_ ?_
    ·exact(by simp;omega)
    exact kF
  ·rw[if_pos h0]
   have hlt:=hz.2 h0;unfold gv;dsimp only;rcases hb with rfl|rfl
   all_goals
    refine kU aa ac Tryz.func16 ?_;refine kR ?_;refine kI ?_;refine kO ?_;refine kQ (c1) ?_;refine mH aa (l:=s) (j:=a) ha rfl rfl rfl rfl rfl rfl rfl rfl ?_;refine kQ (c2) ?_;refine kD (cs) ?_;refine kW ?_;refine kD (cn) ?_;refine kO ?_;refine kB true ?_ ?_
    ·exact(by simp;omega)
    refine kW ?_;refine kD (cf) ?_;refine kG ?_
    iterate 14 refine kO ?_
    refine kT ?_;exact kF
 |error z=>
  obtain⟨p,c⟩:=z;obtain⟨hc,y,ts',cs,hw⟩:=cs;obtain⟨hpa,_⟩:=hpos;obtain⟨t,r,rfl⟩:=hw.ne;have cs:=cs.ren0 4002 rfl rfl rfl;have cn:=(bA t r p c).ren0 4002 rfl rfl rfl;have cf:=(oZ t r p c 2 hc).ren1 4002 rfl rfl rfl;obtain⟨o1,na1,xs1,nb1,ys1,nm1,n1,cs1,hA⟩:=aX y;rw[show dR y= .agg (ae o1 na1 xs1 nb1 ys1 nm1 n1 cs1) from congrArg DV.agg hA]at cs;dsimp only
  by_cases hlt:p<a
  ·rw[show oe a b p c=c from if_neg (fun h=>by omega)]
   unfold gv;dsimp only
   by_cases h0:t.1=0
   ·rcases hb with rfl|rfl
    all_goals
     refine kU aa ac Tryz.func16 ?_;refine kR ?_;refine kI ?_;refine kO ?_;refine kQ (c1) ?_;refine mH aa (l:=s) (j:=a) ha rfl rfl rfl rfl rfl rfl rfl rfl ?_;refine kQ (c2) ?_;refine kD (cs) ?_;refine kW ?_;refine kD (cn) ?_;refine kO ?_;refine kB false ?_ ?_
     ·exact(by simp;omega)
     refine kG ?_
     iterate 4 refine kO ?_
     refine kB true ?_ ?_
     ·exact(by simp[hc])
     iterate 9 refine kO ?_
     refine kT ?_;exact kF
   ·rcases hb with rfl|rfl
    all_goals
     refine kU aa ac Tryz.func16 ?_;refine kR ?_;refine kI ?_;refine kO ?_;refine kQ (c1) ?_;refine mH aa (l:=s) (j:=a) ha rfl rfl rfl rfl rfl rfl rfl rfl ?_;refine kQ (c2) ?_;refine kD (cs) ?_;refine kW ?_;refine kD (cn) ?_;refine kO ?_;refine kB true ?_ ?_
     ·exact(by simp;omega)
     refine kW ?_;refine kD (cf) ?_;refine kG ?_
     iterate 4 refine kO ?_
     refine kB true ?_ ?_
     ·exact(by simp[hc])
     iterate 9 refine kO ?_
     refine kT ?_;exact kF
  ·obtain rfl:p=a:=by omega
   rw[show oe p b p c=b from if_pos ⟨rfl,hb0⟩];unfold gv;dsimp only
   by_cases h0:t.1=0
   ·rcases hb with rfl|rfl
    all_goals
     refine kU aa ac Tryz.func16 ?_;refine kR ?_;refine kI ?_;refine kO ?_;refine kQ (c1) ?_;refine mH aa (l:=s) (j:=p) ha rfl rfl rfl rfl rfl rfl rfl rfl ?_;refine kQ (c2) ?_;refine kD (cs) ?_;refine kW ?_;refine kD (cn) ?_;refine kO ?_;refine kB false ?_ ?_
     ·exact(by simp;omega)
     refine kG ?_
     iterate 4 refine kO ?_
     refine kB true ?_ ?_
     ·exact(by simp[hc])
     iterate 9 refine kO ?_
     refine kE ?_;exact kF
   ·rcases hb with rfl|rfl
    all_goals
     refine kU aa ac Tryz.func16 ?_;refine kR ?_;refine kI ?_;refine kO ?_;refine kQ (c1) ?_;refine mH aa (l:=s) (j:=p) ha rfl rfl rfl rfl rfl rfl rfl rfl ?_;refine kQ (c2) ?_;refine kD (cs) ?_;refine kW ?_;refine kD (cn) ?_;refine kO ?_;refine kB true ?_ ?_
     ·exact(by simp;omega)
     refine kW ?_;refine kD (cf) ?_;refine kG ?_
     iterate 4 refine kO ?_
     refine kB true ?_ ?_
     ·exact(by simp[hc])
     iterate 9 refine kO ?_
     refine kE ?_;exact kF
theorem rg (s:List UInt8) (T:List Tk) (c1:ab Tryz.prog 42 [dL s] (jK (.ok T))) (hT:tX T s.length):ab Tryz.prog 17 [dL s] (gv (gQ T 0 s.length)):=by
 have c1:ab Tryz.prog 42 [dL s] (.tup [.leaf (.sl T.length (b6 T)),dN .i64 0,dN .i64 0]):=c1;obtain⟨x,hx⟩:=JD T;have cs:=(yf s.length 0 0 _).sum T x hT.w hT.z hx;have hpos:=ez (E:=s.length) _ _ _ _ hT.w hT.le hx;obtain⟨t0,r0,hT0⟩:=hT.w.ne;have cf0:=(bB t0 r0 0 0 0).ren0 2002 rfl rfl rfl;rw[← hT0]at cf0;unfold gQ;rw[hx];cases x with
 |ok z=>
  obtain⟨e,r⟩:=z;obtain⟨hwx,hsz,hwr,hsub⟩:=oQ hT hx;obtain⟨cs,_,hzr⟩:=cs;obtain⟨t,r,rfl⟩:=hwr.ne;have cs:=cs.ren1 2002 rfl rfl rfl;have cn:=(bB t r 0 0 0).ren0 2002 rfl rfl rfl;have cw:=(mM t r 0 0 hzr).ren0 2002 rfl rfl rfl;have cd:=uQ (rx e) hwx hsz;dsimp only;obtain⟨o1,na1,xs1,nb1,ys1,nm1,n1,cs1,hA⟩:=ar e;have hE:dE e= .agg (ae o1 na1 xs1 nb1 ys1 nm1 n1 cs1):=congrArg DV.agg hA;rw[hE]at cs;rw[show dR (rx e)= .agg (ae o1 na1 xs1 nb1 ys1 nm1 n1 cs1) from congrArg DV.agg hA]at cd
  by_cases h0:t.1=0
  ·rw[if_neg (fun h=>h h0),if_neg (fun h=>h rfl)]
   by_cases hd:ox (rx e)≤40
   ·rw[if_pos hd]
    unfold gv;dsimp only;rw[hE];refine kU aa ac Tryz.func17 ?_;refine kR ?_;refine kI ?_;refine kO ?_;refine kQ (c1) ?_;refine kD (cf0) ?_;refine kW ?_;refine kD (cs) ?_;refine kW ?_;refine kD (cn) ?_;refine kO ?_;refine kB false ?_ ?_
    ·exact(by simp;omega)
    refine kW ?_;refine kC (cd) ?_;refine kE ?_;exact kF
   ·rw[if_neg hd,hT0]
    unfold gv;dsimp only;refine kU aa ac Tryz.func17 ?_;refine kR ?_;refine kI ?_;refine kO ?_;refine kQ (c1) ?_;refine kD (cf0) ?_;refine kW ?_;refine kD (cs) ?_;refine kW ?_;refine kD (cn) ?_;refine kO ?_;refine kB false ?_ ?_
    ·exact(by simp;omega)
    refine kW ?_;refine kC (cd) ?_;refine kT ?_;exact kF
  ·rw[if_pos h0]
   rw[we]at cw;unfold gv;dsimp only;refine kU aa ac Tryz.func17 ?_;refine kR ?_;refine kI ?_;refine kO ?_;refine kQ (c1) ?_;refine kD (cf0) ?_;refine kW ?_;refine kD (cs) ?_;refine kW ?_;refine kD (cn) ?_;refine kO ?_;refine kB true ?_ ?_
   ·exact(by simp;omega)
   refine kW ?_;refine kD (cw) ?_;exact kF
 |error z=>
  obtain⟨p,c⟩:=z;obtain⟨hc,y,ts',cs,hw,_⟩:=cs;obtain⟨t,r,rfl⟩:=hw.ne;have cs:=cs.ren1 2002 rfl rfl rfl;rw[we]at cs;obtain⟨o1,na1,xs1,nb1,ys1,nm1,n1,cs1,hA⟩:=aX y;rw[show dR y= .agg (ae o1 na1 xs1 nb1 ys1 nm1 n1 cs1) from congrArg DV.agg hA]at cs;dsimp only;rw[we];unfold gv;dsimp only;refine kU aa ac Tryz.func17 ?_;refine kR ?_;refine kI ?_;refine kO ?_;refine kQ (c1) ?_;refine kD (cf0) ?_;refine kW ?_;refine kD (cs) ?_;refine kG ?_
  iterate 4 refine kO ?_
  refine kB false ?_ ?_
  ·exact decide_eq_false hc
  refine kG ?_
  iterate 4 refine kO ?_
  refine kB true ?_ ?_
  ·exact(by simp[hc])
  exact kF
theorem ro (s:List UInt8) (T:List Tk) (a:Nat) (b:Int) (hb:b=2∨b=3) (ha:a≤s.length) (c1:ab Tryz.prog 42 [dL s] (jK (.error (a,b)))) (c2:ab Tryz.prog 42 [dL (s.take a)] (jK (.ok T))) (hT:tX T a):ab Tryz.prog 17 [dL s] (gv (gQ T b a)):=by
 have hb0:b≠0:=by omega
 have c1:ab Tryz.prog 42 [dL s] (.tup [.leaf (.sl 0 []),dN .i64 a,dN .i64 b]):=c1;have c2:ab Tryz.prog 42 [dL (s.take a)] (.tup [.leaf (.sl T.length (b6 T)),dN .i64 0,dN .i64 0]):=c2;obtain⟨x,hx⟩:=JD T;have cs:=(yf a b 0 _).sum T x hT.w hT.z hx;obtain⟨t0,r0,hT0⟩:=hT.w.ne;have cf0:=(bB t0 r0 b 0 0).ren0 2002 rfl rfl rfl;rw[← hT0]at cf0;unfold gQ;rw[hx];cases x with
 |ok z=>
  obtain⟨e,r⟩:=z;obtain⟨hwx,hsz,hwr,hsub⟩:=oQ hT hx;obtain⟨cs,_,hzr⟩:=cs;obtain⟨t,r,rfl⟩:=hwr.ne;have hz:=hT.z t (hsub t (by simp));have cs:=cs.ren1 2002 rfl rfl rfl;have cn:=(bB t r b 0 0).ren0 2002 rfl rfl rfl;have cw:=(mM t r b 0 hzr).ren0 2002 rfl rfl rfl;dsimp only;obtain⟨o1,na1,xs1,nb1,ys1,nm1,n1,cs1,hA⟩:=ar e;rw[show dE e= .agg (ae o1 na1 xs1 nb1 ys1 nm1 n1 cs1) from congrArg DV.agg hA]at cs
  by_cases h0:t.1=0
  ·rw[if_neg (fun h=>h h0),if_pos hb0]
   rw[zF hzr h0 hb0,hz.1 h0]at cw;unfold gv;dsimp only;rcases hb with rfl|rfl
   all_goals
    refine kU aa ac Tryz.func17 ?_;refine kR ?_;refine kI ?_;refine kO ?_;refine kQ (c1) ?_;refine mH aa (l:=s) (j:=a) ha rfl rfl rfl rfl rfl rfl rfl rfl ?_;refine kQ (c2) ?_;refine kD (cf0) ?_;refine kW ?_;refine kD (cs) ?_;refine kW ?_;refine kD (cn) ?_;refine kO ?_;refine kB false ?_ ?_
    ·exact(by simp;omega)
    refine kW ?_;refine kD (cw) ?_;exact kF
  ·rw[if_pos h0]
   rw[xI hzr h0]at cw;unfold gv;dsimp only;rcases hb with rfl|rfl
   all_goals
    refine kU aa ac Tryz.func17 ?_;refine kR ?_;refine kI ?_;refine kO ?_;refine kQ (c1) ?_;refine mH aa (l:=s) (j:=a) ha rfl rfl rfl rfl rfl rfl rfl rfl ?_;refine kQ (c2) ?_;refine kD (cf0) ?_;refine kW ?_;refine kD (cs) ?_;refine kW ?_;refine kD (cn) ?_;refine kO ?_;refine kB true ?_ ?_
    ·exact(by simp;omega)
    refine kW ?_;refine kD (cw) ?_;exact kF
 |error z=>
  obtain⟨p,c⟩:=z;obtain⟨hc,y,ts',cs,hw,_⟩:=cs;obtain⟨t,r,rfl⟩:=hw.ne;have cs:=cs.ren1 2002 rfl rfl rfl;have hc2:oe a b p c≠0:=lO hc;dsimp only;generalize oe a b p c=c3 at *;obtain⟨o1,na1,xs1,nb1,ys1,nm1,n1,cs1,hA⟩:=aX y;rw[show dR y= .agg (ae o1 na1 xs1 nb1 ys1 nm1 n1 cs1) from congrArg DV.agg hA]at cs;unfold gv;dsimp only;rcases hb with rfl|rfl
  all_goals
   refine kU aa ac Tryz.func17 ?_;refine kR ?_;refine kI ?_;refine kO ?_;refine kQ (c1) ?_;refine mH aa (l:=s) (j:=a) ha rfl rfl rfl rfl rfl rfl rfl rfl ?_;refine kQ (c2) ?_;refine kD (cf0) ?_;refine kW ?_;refine kD (cs) ?_;refine kG ?_
   iterate 4 refine kO ?_
   refine kB false ?_ ?_
   ·exact decide_eq_false hc2
   refine kG ?_
   iterate 4 refine kO ?_
   refine kB true ?_ ?_
   ·exact(by simp[hc2])
   exact kF
theorem yR {T:List Tk} {E m:Nat} (h:lZ E T m) (hm:m≤500) (hl:T.length≤m+1):tX T E:=⟨h.w hm,h.z,fun t ht=>Nat.le_trans (h.s t ht) (by omega),by omega⟩
theorem iZ:∀(f:Nat) (r:List UInt8) (at_:Nat) (acc L:List Tk),cU f r at_ acc= .ok L→L.length≤acc.length+r.length+1
 |0,_,_,_,_,h=>by cases h
 |f+1,[],at_,acc,L,h=>by
  rw[cU]at h;cases h
  simp
 |f+1,c::r,at_,acc,L,h=>by
  rw[cU]at h
  split at h
  ·have:=iZ f _ _ _ _ h
   simp only[List.length_cons];omega
  ·split at h
   ·cases h
   ·split at h
    ·cases h
    ·have:=iZ f _ _ _ _ h
     have hl:=uN (c::r)
     simp only[List.length_append,List.length_cons,List.length_nil,List.length_drop]at this hl ⊢
     omega
theorem nF (s:List UInt8) (hl:s.length≤500):ab Tryz.prog 16 [dL s] (gv (jW s))∧ab Tryz.prog 17 [dL s] (gv (jW s)):=by
 have h:=gT (s.length+1) s 0 [] (Nat.lt_succ_self _);have hlen:=iZ (s.length+1) s 0 [];have c1:=j5 s (by omega);have c2:=lA s (by omega);unfold jW;cases hR:cU (s.length+1) s 0 []with
 |ok L=>
  rw[hR]at h c1 c2 hlen;obtain⟨T,h0,rfl,h2⟩:=h
  try simp only[List.nil_append]at *
  rw[Nat.zero_add]at h2;have hg:=yR h2 hl (by have:=hlen _ rfl;simp at this;omega);exact⟨ov s _ c1 hg,rg s _ c2 hg⟩
 |error z=>
  obtain⟨a,b⟩:=z;rw[hR]at h c1 c2;obtain⟨hb,_,ha,T,h0,h2,h3⟩:=h;rw[Nat.zero_add]at ha;rw[Nat.sub_zero]at h2;have hta:(s.take a).length=a:=by rw[List.length_take];omega
  have e:=h2 (a+1) [] (Nat.lt_succ_self _);rw[List.nil_append]at e;have hl2:=iZ _ _ _ _ _ e
  simp only[List.length_nil]at hl2
  have c3:=j5 (s.take a) (by omega);have c4:=lA (s.take a) (by omega);have hg:=yR h3 hl (by omega);dsimp only;rw[hta,e]at c3 c4 ⊢;exact⟨wD s T a b hb ha c1 c3 hg,ro s T a b hb ha c2 c4 hg⟩
def iA:B4→Nat
 | .add=>1
 | .sub=>1
 | .mul=>2
 | .div=>2
def yy:Ex→Nat
 | .num _ _=>4
 | .nam _=>4
 | .neg _=>3
 | .bin k _ _=>iA k
def J7:Ex→Int
 | .num _ _=>1
 | .nam _=>2
 | .neg _=>3
 | .bin k _ _=>k.code
def bP:B4→List UInt8
 | .add=>[32,43,32]
 | .sub=>[32,45,32]
 | .mul=>[32,42,32]
 | .div=>[32,47,32]
noncomputable def Bc (v:Rat):List UInt8:=(fe v).getD []
def iy (u:List UInt8):List UInt8:=if u=[]then []else 32::u
def jq (lv least:Nat) (t:List UInt8):List UInt8:=if lv<least then [40]++t++[41]else t
noncomputable def aj:Ex→Nat→List UInt8
 | .num v u,n=>jq 4 n (Bc v++iy u)
 | .nam s,n=>jq 4 n s
 | .neg a,n=>jq 3 n ([45]++aj a 3)
 | .bin k a b,n=>jq (iA k) n (aj a (iA k)++bP k++aj b (iA k+1))
def jT:Ex→Prop
 | .num v u=>(fe v).isSome=true∧iS 510 v∧(u=[]∨m4 u=true)
 | .nam s=>m4 s=true
 | .neg a=>jT a
 | .bin _ a b=>jT a∧jT b
theorem oU (lv n:Nat) (t:List UInt8):t.length≤(jq lv n t).length∧(jq lv n t).length≤t.length+2:=by
 unfold jq
 split
 ·simp;omega
 ·omega
theorem og (e:Ex) (n:Nat):aj e n=jq (yy e) n (aj e 0):=by
 have h0:∀(lv:Nat) (t:List UInt8),jq lv 0 t=t:=fun lv t=>if_neg (Nat.not_lt_zero _)
 cases e<;>simp only[aj,yy,h0]
theorem JM (e:Ex):ab Tryz.prog 37 [dN .i64 (J7 e)] (.one (dN .i64 (yy e))):=by
 cases e with
 |num v u=>
  refine kU aa ac Tryz.func37 ?_;exact kF
 |nam s=>
  refine kU aa ac Tryz.func37 ?_;exact kF
 |neg a=>
  refine kU aa ac Tryz.func37 ?_;exact kF
 |bin k a b=>
  cases k
  all_goals
   refine kU aa ac Tryz.func37 ?_;exact kF
theorem JE {e:Ex} (n:Nat) (hn:n≤9) (hl:(aj e n).length≤1000000000) (ht:ab Tryz.prog 15 [dE e] (.one (dL (aj e 0)))):ab Tryz.prog 36 [dE e,dN .i64 n] (.one (dL (aj e n))):=by
 have hw:=og e n;have hwl:=oU (yy e) n (aj e 0);rw[← hw]at hwl;have cl:=JM e;obtain⟨o1,na1,xs1,nb1,ys1,nm1,n1,cs1,hA⟩:=ar e
 have ho:o1=(J7 e):=by
  have h:=congrArg (fun l:List AV=>l[0]?) hA;cases e<;>(injection h with h;injection h with h;injection h with _ h;exact h.symm)
 rw[← ho]at cl;rw[show dE e= .agg (ae o1 na1 xs1 nb1 ys1 nm1 n1 cs1) from congrArg DV.agg hA]at ht ⊢
 by_cases hlt:yy e<n
 ·rw[jq,if_pos hlt]at hw
  rw[hw];refine kU aa ac Tryz.func36 ?_;refine kR ?_;refine kI ?_
  iterate 2 refine kO ?_
  refine kC (cl) ?_;refine kO ?_;refine kX ?_;refine kC (ht) ?_;refine aO rfl rfl rfl rfl rfl rfl rfl (ek (a:=[40]) (b:=aj e 0) (by simp;omega)) ?_;refine aO rfl rfl rfl rfl rfl rfl rfl (ek (a:=[40]++aj e 0) (b:=[41]) (by simp;omega)) ?_;exact kF
 ·rw[jq,if_neg hlt]at hw
  rw[hw];refine kU aa ac Tryz.func36 ?_;refine kR ?_;refine kI ?_
  iterate 2 refine kO ?_
  refine kC (cl) ?_;refine kO ?_;refine kY ?_;refine kC (ht) ?_;exact kF
theorem JF:∀(e:Ex),jT e→(aj e 0).length≤1000000000→ab Tryz.prog 15 [dE e] (.one (dL (aj e 0)))
 | .num v u,hf,hl=>by
  obtain⟨h1,h2,h3⟩:=hf;obtain⟨t,c,ht⟩:=oC h2 (by decide);obtain⟨d,hd⟩:=Option.isSome_iff_exists.1 h1;rw[ht d hd,h1]at c
  have e0:aj (.num v u) 0=d++iy u:=by
   show Bc v++iy u=_;rw[Bc,hd];rfl
  rw[e0]at hl ⊢;show ab Tryz.prog _ [.agg ([.val (.int .i64 1)]++aQ v++[.val (vL u), .sl 0 []])] _
  by_cases hu:u=[]
  ·subst hu
   rw[show iy []=[] from rfl,List.append_nil];refine kU aa ac Tryz.func15 ?_;refine kW ?_;refine kC (c) ?_;refine kG ?_
   iterate 2 refine kO ?_
   refine aO rfl rfl rfl rfl rfl rfl rfl (gk (a:=[]) (b:=[]) rfl) ?_;exact kF
  ·have hu2:iy u=32::u:=if_neg hu
   rw[hu2]at hl ⊢
   simp only[List.length_append,List.length_cons]at hl
   refine kU aa ac Tryz.func15 ?_;refine kW ?_;refine kC (c) ?_;refine kG ?_
   iterate 2 refine kO ?_
   refine aO rfl rfl rfl rfl rfl rfl rfl (ee (a:=u) (b:=[]) hu) ?_;refine kG ?_
   iterate 3 refine kO ?_
   refine aO rfl rfl rfl rfl rfl rfl rfl (ek (a:=[32]) (b:=u) (by simp;omega)) ?_;refine aO rfl rfl rfl rfl rfl rfl rfl (ek (a:=d) (b:=[32]++u) (by simp;omega)) ?_;exact kF
 | .nam s,hf,hl=>by
  show ab Tryz.prog _ [.agg ([.val (.int .i64 2)]++kK++[.val (vL s), .sl 0 []])] (.one (dL s));refine kU aa ac Tryz.func15 ?_;exact kF
 | .neg a,hf,hl=>by
  have e0:aj (.neg a) 0=[45]++aj a 3:=rfl;rw[e0]at hl ⊢
  simp only[List.length_append,List.length_cons,List.length_nil]at hl
  have hla:=oU (yy a) 3 (aj a 0);rw[← og]at hla;have c:=JE (e:=a) 3 (by decide) (by omega) (JF a hf (by omega));obtain⟨o1,na1,xs1,nb1,ys1,nm1,n1,cs1,hA⟩:=ar a;rw[show dE (.neg a)= .agg ([.val (.int .i64 3)]++kK++[.val (vL []), .sl 1 (aE a)]) from congrArg DV.agg (nd a),hA];rw[show dE a= .agg (ae o1 na1 xs1 nb1 ys1 nm1 n1 cs1) from congrArg DV.agg hA]at c;refine kU aa ac Tryz.func15 ?_;refine kW ?_;refine bf (i:=0) (cs':=ae o1 na1 xs1 nb1 ys1 nm1 n1 cs1) (by decide) (zR _) (Nat.zero_lt_succ 6) rfl rfl rfl rfl rfl rfl rfl rfl ?_;refine kO ?_;refine kC (c) ?_;refine aO rfl rfl rfl rfl rfl rfl rfl (ek (a:=[45]) (b:=aj a 3) (by simp;omega)) ?_;exact kF
 | .bin k a b,hf,hl=>by
  have e0:aj (.bin k a b) 0=aj a (iA k)++bP k++aj b (iA k+1):=by
   show jq (iA k) 0 _=_;exact if_neg (Nat.not_lt_zero _)
  rw[e0]at hl ⊢
  simp only[List.length_append]at hl
  have hla:=oU (yy a) (iA k) (aj a 0);rw[← og]at hla;have hlb:=oU (yy b) (iA k+1) (aj b 0);rw[← og]at hlb;have hk3:iA k≤2:=by cases k<;>decide
  have ca:=JE (e:=a) (iA k) (by omega) (by omega) (JF a hf.1 (by omega));have cb:=JE (e:=b) (iA k+1) (by omega) (by omega) (JF b hf.2 (by omega));have cl:=JM (.bin k a b);obtain⟨o1,na1,xs1,nb1,ys1,nm1,n1,cs1,hA⟩:=ar a;obtain⟨o2,na2,xs2,nb2,ys2,nm2,n2,cs2,hA2⟩:=ar b;rw[show dE (.bin k a b)= .agg ([.val (.int .i64 k.code)]++kK++[.val (vL []), .sl 2 (aE a++aE b)]) from congrArg DV.agg (fL k a b),hA,hA2];rw[show dE a= .agg (ae o1 na1 xs1 nb1 ys1 nm1 n1 cs1) from congrArg DV.agg hA]at ca;rw[show dE b= .agg (ae o2 na2 xs2 nb2 ys2 nm2 n2 cs2) from congrArg DV.agg hA2]at cb;have hsy:(bP k).length=3:=by cases k<;>rfl
  generalize hxa:aj a (iA k)=ta at *;generalize hxb:aj b (iA k+1)=tb at *;cases k
  ·refine kU aa ac Tryz.func15 ?_
   refine kW ?_
   refine bf (i:=0) (cs':=[.val (vL (bP .add))]) (by decide) (fun j a h=>by
    match j,h with
    |0,h=>exact h) (by decide) rfl rfl rfl rfl rfl rfl rfl rfl ?_
   refine kW ?_;refine kQ (cl) ?_;refine bf (i:=0) (cs':=ae o1 na1 xs1 nb1 ys1 nm1 n1 cs1) (by decide) (dy _ _) (Nat.zero_lt_succ 6) rfl rfl rfl rfl rfl rfl rfl rfl ?_;refine kW ?_;refine kC (ca) ?_;refine kO ?_;refine aO rfl rfl rfl rfl rfl rfl rfl (ek (a:=ta) (b:=bP .add) (by omega)) ?_;refine kW ?_;refine bf (i:=1) (cs':=ae o2 na2 xs2 nb2 ys2 nm2 n2 cs2) (by decide) (de _ rfl) (Nat.zero_lt_succ 6) rfl rfl rfl rfl rfl rfl rfl rfl ?_;refine kW ?_;refine kC (cb) ?_;refine aO rfl rfl rfl rfl rfl rfl rfl (ek (a:=ta++bP .add) (b:=tb) (by rw[List.length_append];omega)) ?_;exact kF
  ·refine kU aa ac Tryz.func15 ?_
   refine kW ?_
   refine bf (i:=1) (cs':=[.val (vL (bP .sub))]) (by decide) (fun j a h=>by
    match j,h with
    |0,h=>exact h) (by decide) rfl rfl rfl rfl rfl rfl rfl rfl ?_
   refine kW ?_;refine kQ (cl) ?_;refine bf (i:=0) (cs':=ae o1 na1 xs1 nb1 ys1 nm1 n1 cs1) (by decide) (dy _ _) (Nat.zero_lt_succ 6) rfl rfl rfl rfl rfl rfl rfl rfl ?_;refine kW ?_;refine kC (ca) ?_;refine kO ?_;refine aO rfl rfl rfl rfl rfl rfl rfl (ek (a:=ta) (b:=bP .sub) (by omega)) ?_;refine kW ?_;refine bf (i:=1) (cs':=ae o2 na2 xs2 nb2 ys2 nm2 n2 cs2) (by decide) (de _ rfl) (Nat.zero_lt_succ 6) rfl rfl rfl rfl rfl rfl rfl rfl ?_;refine kW ?_;refine kC (cb) ?_;refine aO rfl rfl rfl rfl rfl rfl rfl (ek (a:=ta++bP .sub) (b:=tb) (by rw[List.length_append];omega)) ?_;exact kF
  ·refine kU aa ac Tryz.func15 ?_
   refine kW ?_
   refine bf (i:=2) (cs':=[.val (vL (bP .mul))]) (by decide) (fun j a h=>by
    match j,h with
    |0,h=>exact h) (by decide) rfl rfl rfl rfl rfl rfl rfl rfl ?_
   refine kW ?_;refine kQ (cl) ?_;refine bf (i:=0) (cs':=ae o1 na1 xs1 nb1 ys1 nm1 n1 cs1) (by decide) (dy _ _) (Nat.zero_lt_succ 6) rfl rfl rfl rfl rfl rfl rfl rfl ?_;refine kW ?_;refine kC (ca) ?_;refine kO ?_;refine aO rfl rfl rfl rfl rfl rfl rfl (ek (a:=ta) (b:=bP .mul) (by omega)) ?_;refine kW ?_;refine bf (i:=1) (cs':=ae o2 na2 xs2 nb2 ys2 nm2 n2 cs2) (by decide) (de _ rfl) (Nat.zero_lt_succ 6) rfl rfl rfl rfl rfl rfl rfl rfl ?_;refine kW ?_;refine kC (cb) ?_;refine aO rfl rfl rfl rfl rfl rfl rfl (ek (a:=ta++bP .mul) (b:=tb) (by rw[List.length_append];omega)) ?_;exact kF
  ·refine kU aa ac Tryz.func15 ?_
   refine kW ?_
   refine bf (i:=3) (cs':=[.val (vL (bP .div))]) (by decide) (fun j a h=>by
    match j,h with
    |0,h=>exact h) (by decide) rfl rfl rfl rfl rfl rfl rfl rfl ?_
   refine kW ?_;refine kQ (cl) ?_;refine bf (i:=0) (cs':=ae o1 na1 xs1 nb1 ys1 nm1 n1 cs1) (by decide) (dy _ _) (Nat.zero_lt_succ 6) rfl rfl rfl rfl rfl rfl rfl rfl ?_;refine kW ?_;refine kC (ca) ?_;refine kO ?_;refine aO rfl rfl rfl rfl rfl rfl rfl (ek (a:=ta) (b:=bP .div) (by omega)) ?_;refine kW ?_;refine bf (i:=1) (cs':=ae o2 na2 xs2 nb2 ys2 nm2 n2 cs2) (by decide) (de _ rfl) (Nat.zero_lt_succ 6) rfl rfl rfl rfl rfl rfl rfl rfl ?_;refine kW ?_;refine kC (cb) ?_;refine aO rfl rfl rfl rfl rfl rfl rfl (ek (a:=ta++bP .div) (b:=tb) (by rw[List.length_append];omega)) ?_;exact kF
end Go.Proofs.YtikbnnljjeefgaaGreatDoor
