/- Parts of a proof: contracts of the functions that the laws reach. -/
import Derived.Test.YtmkggcjajcdlcaaGreatDoorVZ7
set_option maxHeartbeats 100000000
set_option linter.all false
open Go.Proofs.Tryz
namespace Go.Proofs.YtmkggcjajcdlcaaGreatDoor
open Go.RowKit
theorem Ok (n:Nat):Lib.repeatL [48] n=List.replicate n 48:=by
 induction n with
 |zero=>rfl
 |succ n ih=>
  simp[Lib.repeatL,List.replicate_succ]at ih ⊢
  exact ih
theorem Og (z:Int):0<(fmt z).length:=by
 rw[DU]
 have:0<(ln z.natAbs).length:=by
  unfold ln
  split
  ·simp
  ·rename_i h
   obtain⟨c,r,e,_⟩:=mV h;rw[e]
   simp
 simp
 omega
theorem A0 (n:Nat) (hn:n<=1000000):aa Tryz.prog 219 [dL [48],dN .i64 n] (.one (dL (List.replicate n 48))):=
 ⟨aJ func219 rfl rfl,fun S w vs hS hv=>by
  match vs,hv with
  | [v,u],⟨h1,h2,_⟩=>
   obtain rfl:=dM h1;obtain rfl:=dM h2;refine(Tryz.strings_Repeat (Bs [48]) n w (by omega) (by rw[aT];simp;omega)).mono ?_;rintro e w' ⟨rfl,hb⟩;exact⟨_,rfl,by rw[show(Bs [48]).data.toList=[48] from rfl,Ok];exact AV.M.val rfl,hb⟩⟩
theorem Eh {q:Rat} {n:Nat} (sq:dy n q) (hn:n<=900):∃t,aa Tryz.prog 174 [dQ q] (.tup [dL t,dB (gm q).isSome])/\ ∀u,gm q=some u->t=u:=by
 have cv:aa Tryz.prog 241 [dQ q] (.one (dB true)):=yz q sq (by omega)
 by_cases hneg:LR q<0
 ·have h0:gm q=none:=by rw[gm,if_pos hneg]
  refine⟨[],?_,fun u h=>by rw[h0]at h;cases h⟩;rw[h0];refine kU func174 ?_;refine NG ?_;refine kC (uw q) ?_;refine kB true ?_ ?_
  ·exact decide_eq_true hneg
  exact aD
 ·obtain⟨K,k1,k2,k3⟩:=lH hneg
  have main:∀t b,(40<=K->t=[]/\b=false)->(K<40->t=jZ K (fmt (pw q K).num)/\b=decide (t.length<=40))->aa Tryz.prog 174 [dQ q] (.tup [dL t,dB b]):=by
   intro t b g1 g2;refine kU func174 ?_;refine NG ?_;refine kC (uw q) ?_;refine kB false ?_ ?_
   ·exact decide_eq_false hneg
   refine kW ?_;refine ax (gw 10 (by decide) (by decide) (q:=((10:Int):Rat)) rfl) rfl rfl rfl rfl rfl rfl rfl ?_;refine kW ?_;refine ax (fk 1 (by decide) (by decide)) rfl rfl rfl rfl rfl rfl rfl ?_;refine kW ?_
   refine ay Nat (fun k=>k<=K) (fun k=>⟨[(1, .box 0 0),(2, .d (dL [])),(3, .d (dB false)),(4, .box 3001 0),(5, .box 4001 0),(6, .d (dN .i64 k))],[(0,some (aQ (pw q k))),(3001,some (aQ ((10:Int):Rat))),(4001,some (aZ 1))]⟩) (fun k=>41-k) 0 (Nat.zero_le _)
    kw ?_
   intro k hk;have sk:=Gr sq k;refine kI ?_;refine kO ?_
   by_cases h40:k<40
   ·refine kT ?_
    refine kG ?_
    refine kO3 ?_
    have hcs:=Eu ((pw q k).den:Int) 1
    by_cases hd1:((pw q k).den:Int)=1
    ·have hkK:k=K:=by
      rcases Nat.lt_or_ge k K with h|h
      ·exact absurd hd1 (k2 k h)
      ·omega
     rw[show bL ((pw q k).den:Int) 1=0 by rw[hd1];exact DC 1]at hcs;obtain⟨rfl,rfl⟩:=g2 (by omega);subst hkK;refine kQ (hcs) ?_;have hlen:(fmt (pw q k).num).length<=10*(n+k)+2:=Cd sk.1;refine ax (vS (Nat.le_trans sk.1.digs (by omega))) rfl rfl rfl rfl rfl rfl rfl ?_;refine kG ?_;refine kO ?_;unfold jZ d4;have hpos:0<(fmt (pw q k).num).length:=Og _
     generalize fmt (pw q k).num=u at *;have hB:=aT u
     by_cases hk0:0<k
     ·rw[if_pos hk0]
      refine kT ?_;refine kG ?_
      refine kO4 ?_
      refine nu (v':= .int .i64 ((k:Int)+1-u.length)) rfl rfl rfl rfl ?_ ?_
      ·exact congrArg (Value.int .i64) (by rw[IntWalk.i64_in ((k:Int)+1) (by omega),IntWalk.i64_in _ (by omega)];omega)
      refine kG ?_;refine kO ?_
      by_cases hp:u.length<k+1
      ·refine kT ?_
       refine kG ?_;refine kO ?_;have cr:=A0 (k+1-u.length) (by omega);rw[show(((k+1-u.length:Nat)):Int)=(k:Int)+1-u.length by omega]at cr;refine kC (cr) ?_;refine kO ?_;refine aO rfl rfl rfl rfl rfl rfl rfl (iP (a:=List.replicate (k+1-u.length) 48) (b:=u) (by simp;omega)) ?_;have hwl:(List.replicate (k+1-u.length) 48++u).length=k+1-u.length+u.length:=by simp
       generalize hwd:List.replicate (k+1-u.length) 48++u=w at *;have hwB:=aT w;exact MT
      ·refine kE ?_
       rw[show k+1-u.length=0 by omega,List.replicate_zero,List.nil_append];have hwl:u.length=u.length:=rfl;generalize hwd:u=w at *;exact MT
     ·obtain rfl:k=0:=by omega
      rw[if_neg hk0];have hu1:0+1-u.length=0:=by omega
      rw[hu1,List.replicate_zero,List.nil_append];refine kE ?_;refine kG ?_
      refine kO3 ?_
      refine nu (v':= .bool (decide (u.length<=40))) rfl rfl rfl rfl ?_ ?_
      ·exact FY
      exact aD
    ·have hne:bL ((pw q k).den:Int) 1≠0:=by
      rcases Int.lt_trichotomy ((pw q k).den:Int) 1 with h|h|h
      ·rw[eV h];decide
      ·exact absurd h hd1
      ·rw[jf h];decide
     refine kC (hcs) ?_;refine kB true ?_ ?_
     ·exact(by simpa using hne)
     refine kW ?_;refine ax (rK sk (vI (n:=10) (by decide)) (by omega) (q:=pw q (k+1)) rfl) rfl rfl rfl rfl rfl rfl rfl ?_;refine kW ?_
     exact⟨k+1,by
      rcases Nat.lt_or_ge k K with h|h
      ·exact h
      ·obtain rfl:k=K:=by omega
       rcases k3 with⟨e,_⟩| ⟨_,k3,_⟩
       ·omega
       ·exact absurd k3 hd1,by omega,weak ⟨rfl,rfl,rfl,rfl,rfl,ak (by omega) (by omega),trivial⟩ ⟨rfl,rfl,rfl,trivial⟩ rfl⟩
   ·refine kE ?_
    obtain⟨rfl,rfl⟩:=g1 (by omega);exact aD
  rcases k3 with⟨e,h0⟩| ⟨e,h1,h2⟩
  ·exact Nl
  ·by_cases h40:K=40
   ·have h0:gm q=none:=by
     rw[h2,if_neg];have:=Ic K (fmt (pw q K).num) (by omega);omega
    exact Nl
   ·exact xF
theorem F5 {l:List UInt8} {i:Nat} (h:i<l.length):num (l.take (i+1))=10*num (l.take i)+dv l[i]:=by
 rw[List.take_succ_eq_append_getElem h,iT]
theorem nF (s:List UInt8):aa Tryz.prog 316 [dL s] (.tup [dZ (pz s).1,dN .i64 (pz s).2]):=by
 have z0:dZ 0= .agg [.val (.bool false), .sl 0 []]:=by unfold dZ;rw[e0]
 have hsz:=aT s
 by_cases hl:s.length<=65536
 ·have hdl:=Kv s
  refine kV func316 ?_;refine Ki ?_;refine eS ?_;refine kR ?_;refine j4 ⟨[(0, .d (dL s)),(2, .box 0 0),(3, .d (dN .i64 0)),(4, .d (dL (gb s)))],[(0,some [.val (.bool false), .sl 0 []])]⟩ (fun s' hw=>?_) (fun R hR hret=>?_)
  ·refine bG ?_
   refine bV hw rfl ?_;refine kW ?_;refine ay Nat (fun i=>i<=(gb s).length/\ ∀c∈(gb s).take i,fV c) (fun i=>⟨[(0, .d (dL s)),(2, .box 0 0),(3, .d (dN .i64 0)),(4, .d (dL (gb s))),(5, .box 6001 0),(6, .d (dN .i64 i))],[(0,some [.val (.bool false), .sl 0 []]),(6001,some (aZ (num ((gb s).take i):Nat)))]⟩) (fun i=>(gb s).length-i) 0 ⟨by omega,by simp⟩ (weak ⟨rfl,rfl,rfl,rfl,rfl,rfl,trivial⟩ ⟨rfl,congrArg some e0.symm,trivial⟩ rfl) ?_;rintro i ⟨hi,hd⟩;have hsd:=aT (gb s);refine kR ?_;refine n7 rfl (fun h=>?_) (fun h=>?_)
   ·have h:=of_decide_eq_true h
    have hi:i<(gb s).length:=by omega
    refine eS ?_;refine kR ?_;refine bQ ac (i:=i) (c:=(gb s)[i]) (List.getElem?_eq_getElem hi) rfl rfl rfl rfl rfl rfl rfl rfl ?_
    by_cases h48:(gb s)[i].toNat<48
    ·have hbad:¬Qr s:=fun hp=>by have:=(hp.2.2.1 _ (List.getElem_mem hi)).1;omega
     rw[rj hbad,z0];refine kT ?_;exact aD
    ·refine kE ?_
     refine kO3 ?_
     refine bQ ac (i:=i) (c:=(gb s)[i]) (List.getElem?_eq_getElem hi) rfl rfl rfl rfl rfl rfl rfl rfl ?_
     by_cases h57:(gb s)[i].toNat > 57
     ·have hbad:¬Qr s:=fun hp=>by have:=(hp.2.2.1 _ (List.getElem_mem hi)).2;omega
      rw[rj hbad,z0];refine kT ?_;exact aD
     ·refine kE ?_
      have hD:fV (gb s)[i]:=⟨by omega,by omega⟩;have hl1:((gb s).take i).length<=65536:=by rw[List.length_take];omega
      have hn0:=CF hd;have hdv:=F2 hD;have hs:=F5 hi
      have hcv:(Value.int .i64 (IntKind.i64.wrap (IntKind.u8.wrap (((gb s)[i].toNat:Int)-48))):Value)= .int .i64 (dv (gb s)[i]:Nat):=by
       rw[IntWalk.u8_in _ (by omega),IntWalk.i64_in _ (by omega)];unfold dv
       congr 1
       omega
      have hf10:ew ((num ((gb s).take i):Nat)*10:Int):=by
       have:=zK (Nat.le_trans hn0 hl1) (m:=10*num ((gb s).take i)) (by omega);unfold ew;rw[show((num ((gb s).take i):Nat)*10:Int).natAbs=10*num ((gb s).take i) by omega];omega
      refine kW ?_;refine ax (eQ 10 (by decide) (by decide)) rfl rfl rfl rfl rfl rfl rfl ?_;refine kW ?_;refine ax (jo (a:=(num ((gb s).take i):Nat)) (b:=10) (Nat.le_trans hn0 (Nat.le_trans hl1 (by decide))) (.small (by decide))) rfl rfl rfl rfl rfl rfl rfl ?_
      refine kO2 ?_
      refine bQ ac (i:=i) (c:=(gb s)[i]) (List.getElem?_eq_getElem hi) rfl rfl rfl rfl rfl rfl rfl rfl ?_;refine kO ?_;refine nu rfl rfl rfl rfl hcv ?_;refine ax (eQ (dv (gb s)[i]:Nat) (by omega) (by omega)) rfl rfl rfl rfl rfl rfl rfl ?_;refine ax (AQ (a:=(num ((gb s).take i):Nat)*10) (b:=(dv (gb s)[i]:Nat)) hf10 (.small (by omega))) rfl rfl rfl rfl rfl rfl rfl ?_;refine kW ?_;have hnum:((num ((gb s).take i):Nat)*10+(dv (gb s)[i]:Nat):Int)=(num ((gb s).take (i+1)):Nat):=by rw[hs];omega
      refine⟨i+1,⟨hi,fun c hc=>?_⟩,by omega,weak ⟨rfl,rfl,rfl,rfl,rfl,ak rfl (by omega),trivial⟩ ⟨rfl,congrArg (fun z=>some (aZ z)) hnum,trivial⟩ rfl⟩;rw[List.take_succ_eq_append_getElem hi,List.mem_append]at hc;rcases hc with hc|hc
      ·exact hd c hc
      ·rw[List.mem_singleton]at hc;rw[hc];exact hD
   ·have h:=of_decide_eq_false h
    have hi:i=(gb s).length:=by omega
    subst hi;rw[List.take_length]at hd ⊢;refine rD ?_
    have hfz:ew (lU (jA s) (num (gb s))):=by
     have:=CF hd;unfold ew;rw[show(lU (jA s) (num (gb s))).natAbs=num (gb s) by unfold lU;split <;>omega];omega
    refine j4 ⟨[(0, .d (dL s)),(2, .box 0 0),(3, .d (dN .i64 0)),(5, .box 6001 0)],[(0,some [.val (.bool false), .sl 0 []]),(6001,some (aZ (lU (jA s) (num (gb s)))))]⟩ (fun s' hw=>?_) (fun R hR hret=>?_)
    ·refine bG ?_
     refine bG ?_;refine bV hw rfl ?_;refine kO ?_;refine kC (lD hfz) ?_;refine kO ?_;refine aO rfl rfl rfl rfl rfl rfl rfl qt ?_;refine .done ?_
     by_cases hok:zy (jA s) (gb s)
     ·have:=Oa hok
      rw[Qb]at this;refine im (T:=TT) rfl ?_ ?_
      ·exact(by rw[this];simp)
      rw[Mh ⟨hl,hok⟩];refine eS ?_;exact aD
     ·have:fmt (lU (jA s) (num (gb s)))≠s:=fun e=>hok (Fb hd (by rw[Qb];exact e))
      refine ft (T:=TT) rfl ?_ ?_
      ·exact(by simp[this])
      rw[rj (fun h=>hok h.2),z0];exact aD
    ·have hlt:=Pk s
     refine kR ?_;cases hp:jA s
     ·rw[hp]at hlt
      refine im (T:=TT) rfl ?_ ?_
      ·exact(by rw[<- hlt];congr 1;simp;omega)
      refine eS ?_;exact hR _ (weak ⟨rfl,rfl,rfl,rfl,trivial⟩ ⟨rfl,congrArg (fun z=>some (aZ z)) (show((num (gb s):Nat):Int)=lU (jA s) (num (gb s)) by rw[hp];rfl),trivial⟩ rfl)
     ·rw[hp]at hlt
      refine ft (T:=TT) rfl ?_ ?_
      ·exact(by rw[<- hlt];congr 1;simp;omega)
      refine kW ?_;refine kQ (rH (num (gb s):Nat)) ?_;exact hR _ (weak ⟨rfl,rfl,rfl,rfl,trivial⟩ ⟨rfl,congrArg (fun z=>some (aZ z)) (show -((num (gb s):Nat):Int)=lU (jA s) (num (gb s)) by rw[hp];rfl),trivial⟩ rfl)
  ·clear hret
   match s with
   | []=>
    refine Bc ?_;refine kB false ?_ ?_
    ·exact rfl
    refine kW ?_;refine eS ?_;exact hR _ kw
   |c::r=>
    refine Bc ?_;refine kB true ?_ ?_
    ·exact decide_eq_true (by rw[hsz];simp)
    refine kO2 ?_
    refine bQ ac (i:=0) (c:=c) rfl rfl rfl rfl rfl rfl rfl rfl rfl ?_
    by_cases h:c=45
    ·subst h
     refine kW ?_;refine IN ac (i:=1) (by simp) rfl rfl rfl rfl rfl rfl rfl rfl ?_;refine kW ?_;exact hR _ kw
    ·have h45:(c == 45)=false:=beq_eq_false_iff_ne.2 h
     have hn:c.toNat≠45:=fun e=>h (UInt8.toNat_inj.1 e)
     refine kB false ?_ ?_
     ·exact beq_eq_false_iff_ne.2 (by omega)
     refine kW ?_;refine eS ?_;exact hR _ (weak ⟨rfl,rfl,rfl,congrArg (fun x=>TV.d (dL x)) (show c::r=gb (c::r) by simp[gb,h45]),trivial⟩ ⟨rfl,trivial⟩ rfl)
 ·rw[rj (fun h=>hl h.1),z0]
  refine kU func316 ?_;refine MV ?_;exact aD
theorem sJ {t:List UInt8} {j:Nat} {c:UInt8} (h:∀i x,i<j->t[i]? =some x->fV x) (hc:t[j]? =some c) (hn:¬fV c):(jx t).length=j:=by
 obtain⟨hl,hg⟩:=List.getElem?_eq_some_iff.1 hc
 have e:t=t.take j++c::t.drop (j+1):=by
  rw[<- hg,List.getElem_cons_drop,List.take_append_drop]
 have h1:∀x∈t.take j,fV x:=fun x hx=>by
  obtain⟨i,hi⟩:=List.getElem?_of_mem hx;rw[List.getElem?_take]at hi
  split at hi
  ·exact h i x (by omega) hi
  ·cases hi
 rw[e,(jT h1).1,(kP hn).1,List.append_nil,List.length_take];omega
theorem Ap {t:List UInt8} (h:∀i x,i<t.length->t[i]? =some x->fV x):jx t=t:=(tK fun x hx=>by
 obtain⟨i,hi⟩:=List.getElem?_of_mem hx;exact h i x (List.getElem?_eq_some_iff.1 hi).1 hi).1
theorem nw {t:List UInt8} (hl:t.length<=1000000000):aa Tryz.prog 315 [dL t] (.one (dN .i64 (jx t).length)):=by
 have hsz:=aT t;refine kV func315 ?_;refine ay Nat (fun j=>j<=t.length/\ ∀i c,i<j->t[i]? =some c->fV c) (fun j=>⟨[(0, .d (dL t)),(3, .d (dN .i64 j))],[]⟩) (fun j=>t.length-j) 0 ⟨Nat.zero_le _,fun i c h=>absurd h (Nat.not_lt_zero _)⟩ kw ?_;rintro j ⟨hj,hall⟩;refine kI ?_
 refine kO3 ?_
 by_cases hlt:j<t.length
 ·obtain⟨c,hc⟩:∃c,t[j]=c:=⟨_,rfl⟩
  have hcj:t[j]? =some c:=by rw[List.getElem?_eq_getElem hlt,hc]
  refine kT ?_
  refine kO3 ?_
  refine bQ ac (l:=t) (i:=j) hcj rfl rfl rfl rfl rfl rfl rfl rfl ?_
  by_cases h1:48<=c.toNat
  ·refine kT ?_
   refine kO4 ?_
   refine bQ ac (l:=t) (i:=j) hcj rfl rfl rfl rfl rfl rfl rfl rfl ?_
   by_cases h2:c.toNat<=57
   ·refine kT ?_
    refine kW ?_;refine⟨j+1,⟨hlt,fun i c' hi hp=>?_⟩,by omega,weak ⟨rfl,?_,trivial⟩ trivial rfl⟩
    ·rcases Nat.lt_succ_iff_lt_or_eq.1 hi with h3|rfl
     ·exact hall i c' h3 hp
     ·rw[hcj]at hp;cases hp;exact⟨h1,h2⟩
    ·exact ak (by omega) (by omega)
   ·exact MR
  ·exact MR
 ·have hge:j=t.length:=by omega
  refine kY ?_;rw[Ap (fun i x hi hx=>hall i x (by omega) hx),<- hge];exact de (T:=TT) rfl rfl
section
variable {P:Program} {T:TypeId->Option Ty} {n:Nat} {ops:Array Oper} {id:Nat} {draw:Bool} {K:AS->Prop} {s:AS} {k:Nat} {o:Oper} {os:List Oper} {fps:List FP}
theorem H4 (hT:∀t d,T t=some d->aU P t d) {t:TypeId} {ty:Ty} {x y:Operand} {l l':List UInt8} {i:Nat} {ik:IntKind} (he:l.take i=l') (hi:i<=l.length) (h1:gd ops s o=some true) (h2:o.op= .slice t x none (some y) none) (h5:T t=some ty) (h6:ty.isStr=true) (h7:s.ev x= .d (.leaf (.val (vL l)))) (h8:s.ev y= .d (.leaf (.val (.int ik (i:Nat)))))
 (h3:aF n o.dst=true) (h4:eT draw ops (ar ops o ⟨.d (dL l'),none⟩ []) k fps=true) (h:am P T n ops id draw K (k+1) os (s.eff o.dst ⟨.d (dL l'),none⟩) (ar ops o ⟨.d (dL l'),none⟩ []::fps)):am P T n ops id draw K k (o::os) s fps:=by
 subst he;exact LH hT hi h1 h2 h5 h6 h7 h8 h3 h4 h
theorem F4 (hT:∀t d,T t=some d->aU P t d) {t:TypeId} {ty:Ty} {x y:Operand} {l l':List UInt8} {i:Nat} {ik:IntKind} (he:l.drop i=l') (hi:i<=l.length) (h1:gd ops s o=some true) (h2:o.op= .slice t x (some y) none none) (h5:T t=some ty) (h6:ty.isStr=true) (h7:s.ev x= .d (.leaf (.val (vL l)))) (h8:s.ev y= .d (.leaf (.val (.int ik (i:Nat)))))
 (h3:aF n o.dst=true) (h4:eT draw ops (ar ops o ⟨.d (dL l'),none⟩ []) k fps=true) (h:am P T n ops id draw K (k+1) os (s.eff o.dst ⟨.d (dL l'),none⟩) (ar ops o ⟨.d (dL l'),none⟩ []::fps)):am P T n ops id draw K k (o::os) s fps:=by
 subst he;exact IN hT hi h1 h2 h5 h6 h7 h8 h3 h4 h
end
inductive LS where
 |run (f:Nat) (e:Ex) (ts:List Tk)
 |bad (y:Rx) (ts:List Tk) (p c:Int)
def LS.c1:LS->List AV
 | .run _ e _=>aE e
 | .bad y _ _ _=>aR y
def LS.c2 (a:Int):LS->List AV
 | .run _ _ ts=>TM ts a 0
 | .bad _ ts p c=>TM ts p c
section
variable {P:Program} {T:TypeId->Option Ty} {n:Nat} {ops:Array Oper} {id:Nat} {draw:Bool} {K:AS->Prop} {s:AS} {k:Nat} {o:Oper} {os:List Oper} {fps:List FP}
theorem rE:∀(b c:BL),(∀x∈c,x∈b)->dG b c=[]
 |_,[],_=>rfl
 |b,(j,cs)::r,h=>by
  rw[dG]
  have hj:(ai (aw b) j).isSome:=by
   have hm:=h (j,cs) (by simp);clear h
   induction b with
   |nil=>cases hm
   |cons y l ih=>
    obtain⟨i,ci⟩:=y
    by_cases e:i=j
    ·subst e;rw[aw,ah];rfl
    ·rw[aw,aq _ _ e]
     rcases List.mem_cons.1 hm with h|h
     ·cases h;exact absurd rfl e
     ·exact ih h
  cases hl:ai (aw b) j with
  |none=>rw[hl]at hj;cases hj
  |some x=>exact rE b r (fun x hx=>h x (List.mem_cons_of_mem _ hx))
theorem yE {s:AS}:∀{b:BL},sy s (aw b)-> ∀j,ai (aw b++s.b) j=ai s.b j
 | [],_,_=>rfl
 |(i,cs)::r,h,j=>by
  have h1:s.bx i=some cs:=h.1;have h2:sy s (aw r):=h.2
  by_cases e:i=j
  ·subst e
   rw[aw,List.cons_append,ah];unfold AS.bx at h1
   split at h1
   ·rename_i x hx;cases h1;exact hx.symm
   ·cases h1
  ·rw[aw,List.cons_append,aq _ _ e];exact yE h2 j
theorem gT {f:Operand} {fid:FuncId} {args:Array Operand} {tys:Array TypeId} {ts:List TV} {b:BL} {r:RT} (hc:bw P fid ts b r b) (h1:gd ops s o=some true) (ho:o.op= .call ⟨.value f,args,tys⟩) (hcl:vn s f args.toList=some (fid,ts)) (hone:sS s f=true)
 (hk:(EM (aw b) (ts.flatMap dU) && sP (aw b) (aw b))=true) (hb:sy s (aw b)) (hcn:ez [] s.b=true) (hnew:mu s b b=true) (h3:aF n o.dst=true) (h4:eT draw ops (ar ops o ⟨r.tv,none⟩ (b.map (·.1))) k fps=true)
 (h:am P T n ops id draw K (k+1) os (s.eff o.dst ⟨r.tv,none⟩) (ar ops o ⟨r.tv,none⟩ (b.map (·.1))::fps)):am P T n ops id draw K k (o::os) s fps:=by
 refine .run h1 (.genC (iW hcn) fun s2 hc2 ht hrb=>?_) h3 h4 h;have hf:s2.ev f=s.ev f:=an ht (by rw[ho];simp[Op.operands,Call.operands]);have hcl2:=q9 (s':=s2) (s:=s) (f:=f) (args:=args.toList) hf (fun x hx=>an ht (by rw[ho];simp[Op.operands,Call.operands];exact .inr (by simpa using hx)));have hone2:sS s2 f=true:=by unfold sS at hone ⊢;rw[hf];exact hone
 have hb2:=lc hrb hb;have:=pm hc ho (hcl2.trans hcl) hone2 hk hb2 (fun j cs hj _=>hc2 j cs hj) ((jm hrb).trans hnew);intro n S0 w0 g a w K Q hM hd hK;refine this n S0 w0 g a w K Q hM hd fun g' a' w' hM'=>hK g' a' w' (hM'.ext (fun k=>?_) (fun j=>?_))
 ·cases o.dst<;>rfl
 ·rw[rE b b (fun _ h=>h),List.append_nil]
  exact(yE hb2 j).symm
end
def zz (ts:List Tk) (b a e:Int):List AV:=[.sl ts.length (iB ts), .val (.int .i64 b), .val (.int .i64 a), .val (.int .i64 e)]
theorem j6 {ts ts':List Tk} {a e a' e' b b':Int}:em [(900,zz ts b a e)] [(900,zz ts' b' a' e')]:=em.one (Nat.le_refl 4)
theorem eC (t:Tk) (r:List Tk) (b a e:Int):bw Tryz.prog 167 [.box 900 0] [(900,zz (t::r) b a e)] (.v (.one (.agg (Mf t)))) [(900,zz (t::r) b a e)]:=by
 refine bf ac fo func167 rfl rfl rfl rfl rfl (j6) ?_;refine NW ?_
 refine bP (i:=0) (cs':=Mf t) (Nat.zero_lt_succ _) (fun j a h=>by
  rw[Nat.zero_mul,Nat.zero_add];show(Mf t++iB r)[j]? =some a;rw[List.getElem?_append_left (List.getElem?_eq_some_iff.1 h).1];exact h) (Nat.zero_lt_succ 2) rfl rfl rfl rfl rfl rfl rfl rfl ?_
 exact Qn
def Sm (E:Nat) (ts:List Tk):Prop:=∀t∈ts,(t.1=0->t.2.2=E)/\(t.1≠0->t.2.2<E)
theorem IG (c:UInt8) (p:Nat) (r:List Tk) (b a:Int):bw Tryz.prog 239 [.box 900 0, .d (dL [c])] [(900,zz ((4,[c],p)::r) b a 0)] (.v (.one (dB true))) [(900,zz r b a 0)]:=by
 refine bf ac fo func239 rfl rfl rfl rfl rfl (j6) ?_;refine kW ?_;refine kZ (eC (4,[c],p) r b a 0) ?_;refine kD (eC (4,[c],p) r b a 0) ?_
 refine kO2 ?_
 refine aO rfl rfl rfl rfl rfl rfl rfl (gY (a:=[c]) rfl) ?_;refine kG ?_
 refine kO5 ?_
 refine Dy (m:=((4,[c],p)::r).length) (i:=1) (q:=3) ac (by rw[mR];exact Nat.le_refl _) (by simp) rfl rfl rfl rfl rfl rfl rfl rfl ?_;exact Qn
theorem gP (c:UInt8) (t:Tk) (r:List Tk) (b a:Int) (hs:el c (t::r)=none):bw Tryz.prog 239 [.box 900 0, .d (dL [c])] [(900,zz (t::r) b a 0)] (.v (.one (dB false))) [(900,zz (t::r) b a 0)]:=by
 obtain⟨k,x,p⟩:=t
 have hs:¬(k=4/\x=[c]):=by
  intro h
  simp[el,h]at hs
 refine bf ac fo func239 rfl rfl rfl rfl rfl (j6) ?_;refine kW ?_;refine kD (eC (k,x,p) r b a 0) ?_;refine kO ?_
 by_cases h4:k=4
 ·refine kB false ?_ ?_
  ·exact(by simp[h4])
  refine kO2 ?_
  refine kO ?_;refine kD (eC (k,x,p) r b a 0) ?_
  refine kO2 ?_
  refine aO rfl rfl rfl rfl rfl rfl rfl (f6 (a:=x) (b:=[c]) (fun e=>hs ⟨h4,e⟩)) ?_;exact Qn
 ·refine As ?_
  exact Qn
structure Gw (E:Nat) (T:List Tk) (m:Nat):Prop where
 w:m<=500->Sc T
 z:Sm E T
 s:∀t∈T,t.2.1.length<=m
theorem Gw.one {E m:Nat}:Gw E [(0,[],E)] m:=⟨fun _=>rfl,fun t ht=>by
 cases List.mem_singleton.1 ht;exact⟨fun _=>rfl,fun h=>absurd rfl h⟩,fun t ht=>by cases List.mem_singleton.1 ht;exact Nat.zero_le _⟩
theorem Gw.ne {E m:Nat} {T:List Tk} (h:Gw E T m) (hT:T≠[]):∃t r,T=t::r:=by
 cases T with
 |nil=>exact absurd rfl hT
 |cons t r=>exact⟨t,r,rfl⟩
theorem Gw.cons {E m m':Nat} {T:List Tk} {k p:Nat} {x:List UInt8} (h:Gw E T m') (hm:m'<=m) (hT:T≠[]) (hk:k≠0) (h4:k=4-> ∃d,x=[d]) (hp:p<E) (hx:x.length<=m):Gw E ((k,x,p)::T) m:=by
 obtain⟨t,r,rfl⟩:=h.ne hT
 exact⟨fun h5=>⟨⟨hk,h4,fun _=>Nat.le_trans hx h5⟩,h.w (by omega)⟩,fun t ht=>by
  rcases List.mem_cons.1 ht with rfl|ht
  ·exact⟨fun e=>absurd e hk,fun _=>hp⟩
  ·exact h.z t ht,fun t ht=>by
  rcases List.mem_cons.1 ht with rfl|ht
  ·exact hx
  ·exact Nat.le_trans (h.s t ht) hm⟩
theorem oH:Wd []:=fun x hx=>by cases hx
section
variable {P:Program} {T:TypeId->Option Ty} {n:Nat} {ops:Array Oper} {id:Nat} {draw:Bool} {K:AS->Prop} {s:AS} {k:Nat} {o:Oper} {os:List Oper} {fps:List FP}
end
theorem LO {S S':Nat->Prop} {g g':Nat->Nat} {s s':AS} {w:World} (hS:S=S'):∀{ds:List DV} {vs:List Value},nP S g s w (ds.map .d) vs->nP S' g' s' w (ds.map .d) vs
 | [],[],_=>trivial
 |d::ds,v::vs,h=>⟨by subst hS;exact h.1,LO hS h.2⟩
 | [],_::_,h=>h.elim
 |_::_,[],h=>h.elim
theorem bw.ren {P:Program} {f:FuncId} {j:Nat} {ds:List DV} {cs cs':List AV} {r:RV} (h:bw P f (.box j 0::ds.map .d) [(j,cs)] (.v r) [(j,cs')]) (j':Nat) (hw:bR j'=bR j) (hl:fO j=false) (hl':fO j'=false):bw P f (.box j' 0::ds.map .d) [(j',cs)] (.v r) [(j',cs')]:=by
 have ht:iU j'=false:=by
  cases e:iU j' with
  |false=>rfl
  |true=>rw[mr e]at hl';cases hl'
 have ht0:iU j=false:=by
  cases e:iU j with
  |false=>rfl
  |true=>rw[mr e]at hl;cases hl
 refine⟨h.enter,fun S g w vs hpre hv=>?_⟩;have hg:(fun i=>if i=j then g j' else g i) j=g j':=if_pos rfl;generalize hg1:(fun i=>if i=j then g j' else g i)=g1 at hg;have hO:Own S g1 (sB [(j,cs)])=Own S g (sB [(j',cs)]):=by rw[pW,pW,hg]
 have hX:BX g1 [(j,cs)]=BX g [(j',cs)]:=by rw[nU,nU,hg]
 have hpre1:Fi S g1 w [(j,cs)]:=by
  refine⟨?_,?_,?_,?_,?_⟩
  ·rw[hX];exact hpre.tab
  ·rw[hX];exact hpre.blk
  ·rw[hO];exact hpre.gl
  ·intro i ci hi
   obtain⟨rfl,rfl⟩:=bC.1 hi;obtain⟨arr,e,h1,h2,h3,_,_⟩:=hpre.bm j' ci (bC.2 ⟨rfl,rfl⟩);rw[hO,hg];exact⟨arr,e,h1,h2,by rw[<- hw];exact h3,fun h=>(by rw[hl]at h;cases h),fun h=>(by rw[ht0]at h;cases h)⟩
  ·intro i i2 ci cj h1 h2 _
   rw[(bC.1 h1).1,(bC.1 h2).1]
 have hv1:nP (Own S g1 (sB [(j,cs)])) g1 (sB [(j,cs)]) w (.box j 0::ds.map .d) vs:=by
  cases vs with
  |nil=>exact hv.elim
  |cons v vs=>
   obtain⟨hb,hv⟩:=hv;refine⟨⟨⟨some cs,by rw[sB,aw,ah]⟩,fun ci hi=>?_⟩,LO hO.symm hv⟩;rw[hg];exact hb.2 cs (bC.2 ⟨rfl,rfl⟩)
 refine(h.calls S g1 w vs hpre1 hv1).mono ?_;rintro e w' ⟨v,g',rfl,h1,h2,h3,h4,h5⟩;have hg2:(fun i=>if i=j' then g' j else g' i) j'=g' j:=if_pos rfl;generalize(fun i=>if i=j' then g' j else g' i)=g2 at hg2;have hO2:Own S g2 (sB [(j',cs')])=Own S g' (sB [(j,cs')]):=by rw[pW,pW,hg2]
 refine⟨v,g2,rfl,?_,?_,?_,?_,?_⟩
 ·intro i ci ci' hi hi'
  obtain⟨rfl,rfl⟩:=bC.1 hi;obtain⟨_,rfl⟩:=bC.1 hi';have:=h1 j ci ci' (bC.2 ⟨rfl,rfl⟩) (bC.2 ⟨rfl,rfl⟩);rw[hg2,this.1,hg];exact⟨rfl,this.2⟩
 ·intro i ci hi
  obtain⟨rfl,rfl⟩:=bC.1 hi;obtain⟨k1,arr,e,k2,k3,k4,_,_⟩:=h2 j ci (bC.2 ⟨rfl,rfl⟩);rw[hX]at k1;rw[hg2,hO2];exact⟨k1,arr,e,k2,k3,by rw[hw];exact k4,fun h=>(by rw[hl']at h;cases h),fun h=>(by rw[ht]at h;cases h)⟩
 ·intro i i2 ci cj k1 k2 _
  rw[(bC.1 k1).1,(bC.1 k2).1]
 ·rw[hO2]
  cases r with
  |one d=>exact h4
  |tup l=>exact h4
 ·rw[<- hX];exact h5
theorem BC:∀(x:Rx),jN x->gr x<=1000000->aa Tryz.prog 113 [dR x] (.one (dN .i64 (yS x))):=by
 refine du fun op na xs nb ys nm args ih hx hs=>?_
 have hd0:=IB (.mk op na xs nb ys nm args);obtain⟨_,_,_,_,_,hlen,hargs⟩:=hx;rw[gr]at hs;rw[yS,gr]at hd0;refine OU ?_;refine kV func113 ?_
 refine ay (Nat × Nat) (fun s=>s.1<=args.length/\s.2<=ll args/\max s.2 (ll (args.drop s.1))=ll args) (fun s=>⟨[(2, .d (dN .i64 0)),(3, .d (dN .i64 s.2)),(7, .d (.leaf (.sl args.length (da args)))),(8, .d (dN .i64 args.length)),(9, .d (dN .i64 s.1))],[]⟩) (fun s=>args.length-s.1) (0,0) ⟨Nat.zero_le _,Nat.zero_le _,Nat.zero_max _⟩
  kw ?_
 rintro⟨i,d⟩ ⟨hi,h1,h2⟩;dsimp only at hi h1 h2 ⊢;refine kI ?_
 by_cases hlt:i<args.length
 ·refine kT ?_
  obtain⟨o1,na1,xs1,nb1,ys1,nm1,n1,cs1,hA⟩:=bv args[i];have hx:args[i]? =some args[i]:=by simp[hlt]
  have hat:∀(j:Nat) (a:AV),(ab o1 na1 xs1 nb1 ys1 nm1 n1 cs1)[j]? =some a->(da args)[i*7+j]? =some a:=fun j a h=>fw args i args[i] hx j a (by rw[hA];exact h)
  have hm:=List.getElem_mem hlt;have hsz:=jg hm;have hdp:=wz hm;have c:=ih args[i] hm (hargs _ hm) (by omega);rw[show dR args[i]= .agg (ab o1 na1 xs1 nb1 ys1 nm1 n1 cs1) from congrArg DV.agg hA]at c;rw[List.drop_eq_getElem_cons hlt,ll]at h2;generalize yS args[i]=k at *;refine ue ?_;refine LM (a:=d) (b:=k) (m:=(max d k:Nat)) (by omega) rfl rfl rfl rfl rfl rfl ?_;refine kW ?_;exact⟨(i+1,max d k),⟨hlt,by dsimp only;omega,by dsimp only;omega⟩,by dsimp only;omega,weak ⟨rfl,rfl,rfl,rfl,ak (by omega) (by omega),trivial⟩ trivial rfl⟩
 ·exact Ii
theorem bw.ren0 {P:Program} {f:FuncId} {j:Nat} {cs cs':List AV} {r:RV} (h:bw P f [.box j 0] [(j,cs)] (.v r) [(j,cs')]) (j':Nat) (hw:bR j'=bR j) (hl:fO j=false) (hl':fO j'=false):bw P f [.box j' 0] [(j',cs)] (.v r) [(j',cs')]:=bw.ren (ds:=[]) h j' hw hl hl'
theorem bw.ren1 {P:Program} {f:FuncId} {j:Nat} {d:DV} {cs cs':List AV} {r:RV} (h:bw P f [.box j 0, .d d] [(j,cs)] (.v r) [(j,cs')]) (j':Nat) (hw:bR j'=bR j) (hl:fO j=false) (hl':fO j'=false):bw P f [.box j' 0, .d d] [(j',cs)] (.v r) [(j',cs')]:=bw.ren (ds:=[d]) h j' hw hl hl'
def lz:Ex->Prop
 | .num v u=>(gm v).isSome=true/\dy 510 v/\(u=[]∨mh u=true)
 | .nam s=>mh s=true
 | .neg a=>lz a
 | .bin _ a b=>lz a/\lz b
section
variable {P:Program} {T:TypeId->Option Ty} {n:Nat} {ops:Array Oper} {id:Nat} {draw:Bool} {K:AS->Prop} {s:AS} {k:Nat} {o:Oper} {os:List Oper} {fps:List FP}
end
section
variable {P:Program} {T:TypeId->Option Ty} {n:Nat} {ops:Array Oper} {id:Nat} {draw:Bool} {K:AS->Prop} {s:AS} {k:Nat} {o:Oper} {os:List Oper} {fps:List FP}
end
section
open Go.Shelf Go.RowKit
section
variable {C:List TV->BL->RT->BL->Prop} (hs:∀{ts:List TV} {l:BL} {r:RT} {l':BL} (a b:Nat),tF a b=true->C ts l r l'->C (ts.map (RL a b)) (sf a b l) (R8 a b r) (sf a b l'))
include hs
end
end
section
variable {P:Program} {T:TypeId->Option Ty} {n:Nat} {ops:Array Oper} {id:Nat} {draw:Bool} {K:AS->Prop} {s:AS} {k:Nat} {o:Oper} {os:List Oper} {fps:List FP}
theorem fF {t e:TypeId} {x y:Operand} {m i:Nat} {ik:IntKind} {cs:List AV} (hu:P.underlying t=some (.array m e)) (hs:(P.info? e).map (·.size)=some 1) (hi:i<m) (h1:gd ops s o=some true) (ho:o.op= .indexAddr t x y) (hx:s.ev x= .rp cs) (hy:s.ev y= .d (.leaf (.val (.int ik (i:Nat)))))
 (h3:aF n o.dst=true) (h4:eT draw ops (ar ops o ⟨.rp (cs.drop i),none⟩ []) k fps=true) (h:am P T n ops id draw K (k+1) os (s.eff o.dst ⟨.rp (cs.drop i),none⟩) (ar ops o ⟨.rp (cs.drop i),none⟩ []::fps)):am P T n ops id draw K k (o::os) s fps:=
 .run h1 (.gen fun s2 ht _=>af (tv:= .rp (cs.drop i)) fun n S0 w0 g a w hM=>by
  have hx2:=(an ht (x:=x) (by simp[ho,Op.operands])).trans hx;have hy2:=(an ht (x:=y) (by simp[ho,Op.operands])).trans hy;have h:=hM.ev x;rw[hx2]at h;obtain⟨b,off,f,e1,h1,h2,h3,h4⟩:=h;refine⟨.pointer (some ⟨b,off+i,none⟩),w,?_,Below.refl _ _,b,off+i,fun q=>f (i+q),rfl,h1,h2,fun q c hq=>?_,fun q c hq=>?_⟩
  ·unfold execOp
   rw[ho]
   simp only[e1,aY hM hy2,Instr.indexAt,Instr.sureAddr,asIntOf,Sem.run_bind,Sem.run_pure,run_underlying hu w,Result.andThen_ok]
   have e2:(0:Int)<=i/\(i:Int)<m:=by omega
   simp only[e2,and_self,if_true,Sem.run_bind,bB hs w,Result.andThen_ok,Sem.run_pure,b8,Int.toNat_natCast,Nat.mul_one]
  ·rw[Nat.add_assoc];exact h3 (i+q) c (by simpa using hq)
  ·exact h4 (i+q) c (by simpa using hq)) h3 h4 h
end
theorem ws {fid:FuncId} {p:Rx->Bool} (args:List Rx) (hp:∀x∈args,aa Tryz.prog fid [dR x] (.one (dB (p x)))) (hl:args.length<=1000000):aa Tryz.prog 243 [.leaf (.sl args.length (da args)),dF fid] (.one (dN .i64 (if args.findIdx p<args.length then((args.findIdx p:Nat):Int)else -1))):=by
 have hf:=List.findIdx_le_length (p:=p) (xs:=args)
 have hn:∀(i:Nat) (hi:i<args.length),i<args.findIdx p->p args[i]=false:=fun i hi h=>by
  exact Na
 have hy:∀(h:args.findIdx p<args.length),p (args[args.findIdx p])=true:=fun h=>List.findIdx_getElem
 generalize args.findIdx p=f at *;refine kV func243 ?_
 refine ay Nat (fun i=>i<=f) (fun i=>⟨[(0, .d (.leaf (.sl args.length (da args)))),(1, .d (dF fid)),(4, .d (dN .i64 0)),(7, .d (dN .i64 args.length)),(8, .d (dN .i64 i))],[]⟩) (fun i=>args.length-i) 0 (Nat.zero_le _)
  kw ?_
 intro i hi;refine kI ?_
 by_cases hlt:i<args.length
 ·refine kT ?_
  obtain⟨o1,na1,xs1,nb1,ys1,nm1,n1,cs1,hA⟩:=bv args[i];have hx:args[i]? =some args[i]:=by simp[hlt]
  have hat:∀(j:Nat) (a:AV),(ab o1 na1 xs1 nb1 ys1 nm1 n1 cs1)[j]? =some a->(da args)[i*7+j]? =some a:=fun j a h=>fw args i args[i] hx j a (by rw[hA];exact h)
  have c:=hp args[i] (List.getElem_mem hlt);rw[show dR args[i]= .agg (ab o1 na1 xs1 nb1 ys1 nm1 n1 cs1) from congrArg DV.agg hA]at c;refine Te ?_;refine kO ?_;cases hb:p args[i]
  ·rw[hb]at c
   refine kQ (c) ?_;refine⟨i+1,?_,by omega,weak ⟨rfl,rfl,rfl,rfl,ak (by omega) (by omega),trivial⟩ trivial rfl⟩
   by_cases e:i=f
   ·subst e;have:=hy hlt;rw[hb]at this;cases this
   ·omega
  ·rw[hb]at c
   have e:i=f:=by
    by_cases e:i<f
    ·have:=hn i hlt e;rw[hb]at this;cases this
    ·omega
   subst e;rw[if_pos hlt];refine kC (c) ?_;exact aD
 ·rw[if_neg (by omega)]
  refine kE ?_;exact aD
theorem pB {fid:FuncId} {p:Rx->Bool} (args:List Rx) (hp:∀x∈args,aa Tryz.prog fid [dR x] (.one (dB (p x)))) (hl:args.length<=1000000) {b:Bool} (hb:args.any p=b):aa Tryz.prog 176 [.leaf (.sl args.length (da args)),dF fid] (.one (dB b)):=by
 have c:=ws args hp hl
 have hlt:(args.findIdx p<args.length)↔args.any p=true:=by
  rw[List.any_eq_true];exact List.findIdx_lt_length
 cases b with
 |true=>
  rw[if_pos (hlt.2 hb)]at c;refine kV func176 ?_;refine kC (c) ?_;refine kT ?_;exact aD
 |false=>
  rw[if_neg (fun h=>by rw[hlt.1 h]at hb;cases hb)]at c;refine kV func176 ?_;refine kC (c) ?_;exact aD
theorem wE {x:Rx} {b:Bool} (h:aa Tryz.prog 112 [dR x] (.one (dB b))):aa Tryz.prog 177 [dR x] (.one (dB (!b))):=by
 obtain⟨o1,na1,xs1,nb1,ys1,nm1,n1,cs1,hA⟩:=bv x;rw[show dR x= .agg (ab o1 na1 xs1 nb1 ys1 nm1 n1 cs1) from congrArg DV.agg hA]at h ⊢;cases b
 all_goals
  refine kV func177 ?_;refine kC (h) ?_;exact kF
def St (ts:List Tk):Prop:=∀t∈ts,(t.1=1->mh t.2.1=true)/\(t.1=2->t.2.1.length<=500)
theorem St.sub {ts r:List Tk} (h:St ts) (hs:∀t∈r,t∈ts):St r:=fun t ht=>h t (hs t ht)
inductive Jy:Rx->Prop
 |mk {op:Int} {na:Bool} {xs:List Nat} {nb:Bool} {ys:List Nat} {nm:List UInt8} {args:List Rx}:xs.length<=2147483648->ys.length<=2147483648->args.length<=1000000->(∀x∈args,Jy x)->Jy (.mk op na xs nb ys nm args)
theorem lz.lw:∀(e:Ex),lz e->Jy (rx e)
 | .num v u,h=> .mk (Nat.le_trans h.2.1.1.digs (by decide)) (Nat.le_trans h.2.1.2.digs (by decide)) (by simp) (fun x hx=>by cases hx)
 | .nam s,h=> .mk (by simp) (by simp) (by simp) (fun x hx=>by cases hx)
 | .neg a,h=> .mk (by simp) (by simp) (by simp) (fun x hx=>by cases List.mem_singleton.1 hx;exact lz.lw a h)
 | .bin k a b,h=> .mk (by simp) (by simp) (by simp) (fun x hx=>by
  rcases List.mem_cons.1 hx with rfl|hx
  ·exact lz.lw a h.1
  ·cases List.mem_singleton.1 hx;exact lz.lw b h.2)
theorem LQ (c:UInt8) (h:fV c) (h0:c≠48):zy false [c]:=⟨by simp,fun x hx=>by cases List.mem_singleton.1 hx;exact h, .inl fun x r hr=>by cases hr;exact h0⟩
theorem SB:fmt 2=[50]:=by
 unfold fmt;rw[if_neg (by decide),if_neg (by decide)];show []++mc 2=_;rw[ek (by decide)];show []++(mc 0++[dg 2])=_;rw[ef];rfl
theorem SZ:gm ((2:Int):Rat)=some [50]:=by
 unfold gm;rw[if_neg (by decide),pe,if_pos (by rfl),show(pw ((2:Int):Rat) 0).num=2 from rfl,SB];rfl
theorem AH (q:Rat):∀k,pw q k=q*(((10^k:Nat):Int):Rat)
 |0=>by simp[pw]
 |k+1=>by
  have e:(((10^(k+1):Nat):Int):Rat)=(((10^k:Nat):Int):Rat)*((10:Int):Rat):=by
   rw[<- Rat.intCast_mul];congr 1
  rw[pw,AH q k,e,Rat.mul_assoc]
theorem Kf {q:Rat} {k:Nat} (h:((pw q k).den:Int)=1):Rat.divInt (pw q k).num ((10^k:Nat):Int)=q:=by
 have h1:((pw q k).num:Rat)=pw q k:=by
  have hd:(pw q k).den=1:=by omega
  have:=Rat.num_divInt_den (pw q k);rw[hd]at this;rw[<- this];exact(Rat.num_divInt_den (((pw q k).num:Int):Rat)).symm ▸ rfl
 have hp:(((10^k:Nat):Int):Rat)≠0:=by
  intro h;have:=Rat.intCast_eq_zero_iff.1 h;have hp:=Nat.pow_pos (n:=k) (show 0<10 by decide);omega
 rw[Rat.divInt_eq_div,h1,AH,Rat.div_def,Rat.mul_assoc,Rat.mul_inv_cancel _ hp,Rat.mul_one]
def Tm (t:List UInt8):Prop:=∃a,zy false a/\(t=a∨ ∃b,b≠[]/\(∀x∈b,fV x)/\t=a++46::b)
theorem A7 {q:Rat} {t:List UInt8} (h:gm q=some t):Tm t/\t.length<=40/\vH t=some q:=by
 have hs:¬LR q<0:=fun hn=>by rw[gm,if_pos hn]at h;cases h
 obtain⟨K,hK,_,hc⟩:=lH hs;rcases hc with⟨_,hc⟩| ⟨hK,hd,hc⟩
 ·rw[hc]at h;cases h
 rw[hc]at h
 split at h
 ·rename_i hlen
  cases h;have hq:=Kf hd
  have hpos:0<=(pw q K).num:=by
   have h0:0<=q.num:=by
    have:=Int.sign_nonneg_iff (x:=q.num);unfold LR at hs;omega
   have:(0:Rat)<=pw q K:=by
    rw[AH];exact Rat.mul_nonneg (Rat.num_nonneg.1 h0) (Rat.intCast_nonneg.2 (Int.natCast_nonneg _))
   exact Rat.num_nonneg.2 this
  obtain⟨N,hN⟩:=Int.eq_ofNat_of_zero_le hpos;rw[hN]at hq hlen ⊢;rw[KQ]at hlen ⊢;have hu:=ye N;have hok:=Kc N;have hnum:=IR N
  have hhd:1<(ln N).length-> ∀c r,ln N=c::r->c≠48:=fun hl=>by
   rcases hok.2.2 with h|h
   ·exact h
   ·omega
  generalize ln N=u at *;have hne:0<u.length:=List.length_pos_iff.2 hok.1
  have hpl:=zq K u
  have hpD:∀c∈d4 K u,fV c:=fun c hc=>by
   unfold d4 at hc;rcases List.mem_append.1 hc with hc|hc
   ·rw[List.eq_of_mem_replicate hc];decide
   ·exact hu c hc
  have hpn:num (d4 K u)=N:=by rw[d4,DH,hnum]
  by_cases h0:0<K
  ·have hsp:=List.take_append_drop ((d4 K u).length-K) (d4 K u)
   have hph:K+1<u.length->d4 K u=u:=fun hl=>by
    unfold d4;rw[show K+1-u.length=0 by omega];rfl
   rw[jZ,if_pos h0]at hlen ⊢;have hal:((d4 K u).take ((d4 K u).length-K)).length=(d4 K u).length-K:=by rw[List.length_take];omega
   have hbl:((d4 K u).drop ((d4 K u).length-K)).length=K:=by rw[List.length_drop];omega
   have haD:∀c∈(d4 K u).take ((d4 K u).length-K),fV c:=fun c hc=>hpD c (List.mem_of_mem_take hc)
   have hbD:∀c∈(d4 K u).drop ((d4 K u).length-K),fV c:=fun c hc=>hpD c (List.mem_of_mem_drop hc)
   have hah:∀c r,(d4 K u).take ((d4 K u).length-K)=c::r->1<(d4 K u).length-K->c≠48:=fun c r e hl=>by
    rw[hph (by omega)]at e hl hpl;cases hc:u with
    |nil=>rw[hc]at hne;simp at hne
    |cons x y=>
     have:=hhd (by omega) x y hc;rw[hc]at e;obtain⟨m,hm⟩:∃m,(x::y).length-K=m+1:=⟨(x::y).length-K-1,by rw[<- hc];omega⟩;rw[hm,List.take_succ_cons]at e;cases e;exact this
   have hsum:num ((d4 K u).take ((d4 K u).length-K))*10^K+num ((d4 K u).drop ((d4 K u).length-K))=N:=by
    rw[<- hpn]
    conv=>rhs;rw[<- hsp]
    rw[zX,hbl]
   generalize(d4 K u).take ((d4 K u).length-K)=a at *;generalize(d4 K u).drop ((d4 K u).length-K)=b at *;rw[List.append_assoc,List.singleton_append]at hlen ⊢
   have hoa:zy false a:=⟨fun e=>by rw[e]at hal;simp at hal;omega,haD,by
    by_cases h1:1<(d4 K u).length-K
    ·exact .inl fun c r e=>hah c r e h1
    ·exact .inr ⟨by omega,rfl⟩⟩
   have hb0:b≠[]:=fun e=>by rw[e]at hbl;simp at hbl;omega
   refine⟨⟨a,hoa, .inr ⟨b,hb0,hbD,rfl⟩⟩,hlen,?_⟩
   have hhd:∀c r,a++46::b=c::r->fV c:=fun c r e=>by
    cases a with
    |nil=>exact absurd rfl hoa.1
    |cons x y=>cases e;exact haD _ (by simp)
   have hp:=BJ (b:=false) hhd
   simp only[Bool.false_eq_true,if_false,List.nil_append]at hp
   have hpq:uJ (a++46::b)=some q:=by
    rw[KP (fun hm=>?_) (fun hm=>OR (haD _ hm)),if_pos ⟨hoa,hb0,hbD⟩,hbl,hsum]
    ·rw[show((N:Nat):Int)=(N:Int) from rfl,hq]
    ·rcases List.mem_append.1 hm with hm|hm
     ·exact Ps (haD _ hm)
     ·rcases List.mem_cons.1 hm with hm|hm
      ·exact absurd hm (by decide)
      ·exact Ps (hbD _ hm)
   unfold vH;rw[if_pos (by omega),hp.1,hp.2,hpq];rfl
  ·obtain rfl:K=0:=by omega
   have ht:jZ 0 u=u:=by
    rw[jZ,if_neg h0,d4,show 0+1-u.length=0 by omega];rfl
   rw[ht]at hlen ⊢;refine⟨⟨u,hok, .inl rfl⟩,hlen,?_⟩;have hhd:∀c r,u=c::r->fV c:=fun c r e=>hu c (by rw[e];simp)
   have hp:=BJ (b:=false) hhd
   simp only[Bool.false_eq_true,if_false,List.nil_append]at hp
   have hpq:uJ u=some q:=by
    rw[F7 (fun hm=>Ps (hu _ hm)) (fun hm=>OR (hu _ hm)),if_pos hok,hnum]
    congr 1
    rw[<- hq];exact(Rat.num_divInt_den ((N:Int):Rat)).symm
   unfold vH;rw[if_pos (by omega),hp.1,hp.2,hpq];rfl
 ·cases h
def TR (r:List UInt8) (p:Nat) (T:List Tk) (r':List UInt8) (p':Nat):Prop:=∀f acc,r.length<f-> ∃f',r'.length<f'/\Lm f r p acc=Lm f' r' p' (acc++T)
theorem TR.nil {r:List UInt8} {p:Nat}:TR r p [] r p:=fun f acc h=>⟨f,h,by rw[List.append_nil]⟩
theorem TR.trans {r r' r2:List UInt8} {p p' p2:Nat} {T T':List Tk} (h:TR r p T r' p') (h':TR r' p' T' r2 p2):TR r p (T++T') r2 p2:=fun f acc hf=>by
 obtain⟨f1,h1,e1⟩:=h f acc hf;obtain⟨f2,h2,e2⟩:=h' f1 (acc++T) h1;exact⟨f2,h2,by rw[e1,e2,List.append_assoc]⟩
theorem TR.one {x r:List UInt8} {k:Nat} (p:Nat) (h:Pt (x++r)=(k,x.length)) (h0:∃c y,x=c::y/\ ¬(c=32∨c=9)) (hk:k=1->x.length<=24):TR (x++r) p [(k,x,p)] r (p+x.length):=fun f acc hf=>by
 obtain⟨c,y,rfl,hc⟩:=h0;obtain⟨f,rfl⟩:∃k,f=k+1:=⟨f-1,by omega⟩;refine⟨f,by simp at hf;omega,?_⟩;rw[List.cons_append,Lm,if_neg hc,<- List.cons_append,h];dsimp only;rw[if_neg (by simp),if_neg (fun h=>by have:=hk h.1;omega),List.drop_left,List.take_left]
def Fn (T:List Tk) (p p':Nat):Prop:=∀t∈T,t.1≠0/\(t.1=4-> ∃c,t.2.1=[c])/\t.2.1.length<=500/\p<=t.2.2/\t.2.2<p'
theorem Fn.one {k p p' q:Nat} {x:List UInt8} (h0:k≠0) (h4:k=4-> ∃c,x=[c]) (hx:x.length<=500) (h1:p<=q) (h2:q<p'):Fn [(k,x,q)] p p':=fun t ht=>by
 cases List.mem_singleton.1 ht;exact⟨h0,h4,hx,h1,h2⟩
def PP (m:Md) (ts:List Tk) (x:Gf):Prop:=∃f,pP f m ts=some x
def Sr (r:List Tk):Prop:=∀t u,r=t::u->t.1≠1
def Tg (r:List Tk):Prop:=G3 true r=none
def S3 (e:Ex) (T:List Tk):Prop:=∀r,Sr r->PP .un (T++r) (.ok (e,r))
def S2 (e:Ex) (T:List Tk):Prop:=∀r x,Sr r->PP (.more true e) r x->PP .prod (T++r) x
def S1 (e:Ex) (T:List Tk):Prop:=∀r x,Sr r->Tg r->PP (.more false e) r x->PP .sum (T++r) x
theorem S3.s2 {e:Ex} {T:List Tk} (h:S3 e T):S2 e T:=fun r x h1 ⟨f,hf⟩=>by
 obtain⟨g,hg⟩:=h r h1;exact⟨max f g+1,by rw[GZ,Nq (Nat.le_max_right f g) hg];exact Nq (Nat.le_max_left f g) hf⟩
theorem G5 {two:Bool} {e:Ex} {r:List Tk} (h:G3 two r=none):PP (.more two e) r (.ok (e,r)):=⟨1,by rw[Cg,h]⟩
theorem S2.s1 {e:Ex} {T:List Tk} (h:S2 e T):S1 e T:=fun r x h1 h2 ⟨f,hf⟩=>by
 obtain⟨g,hg⟩:=h r _ h1 (G5 h2);exact⟨max f g+1,by rw[FX,Nq (Nat.le_max_right f g) hg];exact Nq (Nat.le_max_left f g) hf⟩
theorem S3.neg {e:Ex} {T:List Tk} {p:Nat} (h:S3 e T):S3 (.neg e) ([(4,[45],p)]++T):=fun r h1=>by
 obtain⟨f,hf⟩:=h r h1;refine⟨f+1,?_⟩;have e2:el 45 ([(4,[45],p)]++T++r)=some (T++r):=by simp[el]
 rw[CW,e2];dsimp only;rw[hf]
theorem S3.nam (s:List UInt8) (p:Nat):S3 (.nam s) [(1,s,p)]:=fun r _=>⟨2,by simp[CW,wD,el]⟩
theorem S3.num {q:Rat} {t u:List UInt8} (p p':Nat) (h:gm q=some t):S3 (.num q u) ((2,t,p)::if u=[]then []else [(1,u,p')]):=fun r h1=>by
 refine⟨2,?_⟩;have hp:=(A7 h).2.2;have e1:∀L,el 45 ((2,t,p)::L)=none:=fun L=>by simp[el]
 have e2:∀L,el 40 ((2,t,p)::L)=none:=fun L=>by simp[el]
 rw[List.cons_append,CW,e1];dsimp only;rw[wD,e2];dsimp only;rw[if_pos rfl]
 congr 1
 unfold NN;dsimp only;rw[hp];dsimp only;rw[h];dsimp only
 by_cases hu:u=[]
 ·subst hu
  rw[if_pos rfl,List.nil_append];cases r with
  |nil=>rfl
  |cons v r=>dsimp only;rw[if_neg (h1 v r rfl)]
 ·rw[if_neg hu]
  rfl
theorem we (x:Rx) (hx:jN x):aa Tryz.prog 32 [dR x] (.one (dB (decide (py x 120<=120) && mD x))):=by
 have c1:=Gx x hx 120 (by decide);have c2:=FQ x hx;have hn:=sc x 120;obtain⟨o1,na1,xs1,nb1,ys1,nm1,n1,cs1,hA⟩:=bv x;rw[show dR x= .agg (ab o1 na1 xs1 nb1 ys1 nm1 n1 cs1) from congrArg DV.agg hA]at c1 c2 ⊢;generalize py x 120=k at *
 by_cases hk:k<=120
 ·rw[decide_eq_true hk,Bool.true_and]
  refine kV func32 ?_;refine kC (c1) ?_;refine kX ?_;refine kC (c2) ?_;exact aD
 ·rw[decide_eq_false hk,Bool.false_and]
  refine kV func32 ?_;refine kC (c1) ?_;refine kE ?_;exact aD
inductive yi:Rx->Prop
 |mk {op:Int} {na:Bool} {xs:List Nat} {nb:Bool} {ys:List Nat} {nm:List UInt8} {args:List Rx}:xs.length<=510->ys.length<=510->nm.length<=65536->(∀x∈args,yi x)->yi (.mk op na xs nb ys nm args)
theorem yi.of_lt:∀x,mD x=true->yi x:=by
 refine du fun op na xs nb ys nm args ih hlt=>?_
 rw[mD,Bool.and_eq_true,Bool.and_eq_true,Bool.and_eq_true,decide_eq_true_eq,decide_eq_true_eq,decide_eq_true_eq]at hlt;obtain⟨hla,⟨l1,l2⟩,l3⟩:=hlt;exact .mk (by omega) (by omega) (by omega) fun y hy=>ih y hy (qD hla y hy)
theorem Ue {s:List UInt8} (h:mh s=true):s.length<=24:=by
 cases s with
 |nil=>simp
 |cons c r=>simp only[mh,Bool.and_eq_true,decide_eq_true_eq]at h;exact h.1
theorem lz.lm:∀e,lz e->yi (rx e)
 | .num v u,h=> .mk h.2.1.1.digs h.2.1.2.digs (by
  rcases h.2.2 with rfl|h
  ·simp
  ·have:=Ue h;omega) (fun x hx=>by cases hx)
 | .nam s,h=> .mk (by simp) (by simp) (by have:=Ue h;omega) (fun x hx=>by cases hx)
 | .neg a,h=> .mk (by simp) (by simp) (by simp) (fun x hx=>by cases List.mem_singleton.1 hx;exact lz.lm a h)
 | .bin k a b,h=> .mk (by simp) (by simp) (by simp) (fun x hx=>by
  rcases List.mem_cons.1 hx with rfl|hx
  ·exact lz.lm a h.1
  ·cases List.mem_singleton.1 hx;exact lz.lm b h.2)
theorem nE {na nb:Bool} {xs ys:List Nat} {q:Rat} (e:Cr na xs nb ys=aQ q) (e1:xs=digs q.num.natAbs) (e2:ys=digs (q.den:Int).natAbs) (hv:fJ na xs nb ys=true):lJ na xs nb ys=gm q:=by
 have e3:na=decide (q.num<0):=by
  have:=congrArg (fun l:List AV=>l[0]?) e;exact Io
 have e4:nb=decide ((q.den:Int)<0):=by
  have:=congrArg (fun l:List AV=>l[2]?) e;exact Io
 unfold lJ;rw[if_pos hv]
 congr 1
 have t1:ap na xs=q.num:=by
  rw[e1,e3,jP]
  by_cases h:q.num<0
  ·rw[decide_eq_true h,if_pos rfl];omega
  ·rw[decide_eq_false h,if_neg (by decide)];omega
 have t2:ap nb ys=q.den:=by
  rw[e2,e4,jP,decide_eq_false (by omega),if_neg (by decide)];omega
 rw[t1,t2,Rat.num_divInt_den]
theorem xn {na nb:Bool} {xs ys:List Nat} (hw:Wd xs) (hw':Wd ys) (h1:xs.length<=510) (h2:ys.length<=510):
 ∃t,aa Tryz.prog 244 [Jt na xs nb ys] (.tup [dL t,dB (lJ na xs nb ys).isSome])/\ ∀u,lJ na xs nb ys=some u->t=u:=by
 cases hv:fJ na xs nb ys with
 |false=>
  have hd:lJ na xs nb ys=none:=if_neg (by rw[hv];decide);rw[hd];refine⟨[],?_,fun u h=>by cases h⟩;refine kV func244 ?_;refine ax (nD hw hw' (Nat.le_trans h1 (by decide)) (Nat.le_trans h2 (by decide)) hv) rfl rfl rfl rfl rfl rfl rfl ?_;exact aD
 |true=>
  obtain⟨q,e,e1,e2⟩:=nN hw hw' hv;have sq:dy 510 q:=⟨Sz.of_digs (by rw[<- e1];exact h1),Sz.of_digs (by rw[<- e2];exact h2)⟩;rw[nE e e1 e2 hv,show Jt na xs nb ys=dQ q from congrArg DV.agg e];exact pk sq (by decide)
theorem ET {na nb:Bool} {xs ys:List Nat} (hw:Wd xs) (hw':Wd ys) (h1:xs.length<=510) (h2:ys.length<=510):
 ∃t,aa Tryz.prog 174 [Jt na xs nb ys] (.tup [dL t,dB (lJ na xs nb ys).isSome])/\ ∀u,lJ na xs nb ys=some u->t=u:=by
 cases hv:fJ na xs nb ys with
 |false=>
  have hd:lJ na xs nb ys=none:=if_neg (by rw[hv];decide);rw[hd];refine⟨[],?_,fun u h=>by cases h⟩;refine kV func174 ?_;refine ax (oT hw hw' (Nat.le_trans h1 (by decide)) (Nat.le_trans h2 (by decide)) hv) rfl rfl rfl rfl rfl rfl rfl ?_;exact aD
 |true=>
  obtain⟨q,e,e1,e2⟩:=nN hw hw' hv;have sq:dy 510 q:=⟨Sz.of_digs (by rw[<- e1];exact h1),Sz.of_digs (by rw[<- e2];exact h2)⟩;rw[nE e e1 e2 hv,show Jt na xs nb ys=dQ q from congrArg DV.agg e];exact Eh sq (by decide)
def ol (na:Bool) (xs:List Nat) (nb:Bool) (ys:List Nat):Bool:=!na && (!nb && (decide (xs.length=0) && decide (ys.length=0)))
theorem AI {na nb:Bool} {xs ys:List Nat} (h:ol na xs nb ys=true):na=false/\nb=false/\xs=[]/\ys=[]:=by
 unfold ol at h
 simp only[Bool.and_eq_true,Bool.not_eq_true',decide_eq_true_eq]at h
 exact⟨h.1,h.2.1,List.eq_nil_of_length_eq_zero h.2.2.1,List.eq_nil_of_length_eq_zero h.2.2.2⟩
def pS (op:Int) (d p m:Bool) (nm:List UInt8) (n:Nat):Bool:=if op=1 then d && (decide (nm=[]) || m) && decide (n=0)else if op=2 then p && m && decide (n=0)else if op=3 then p && decide (nm=[]) && decide (n=1)
 else if op=4∨op=5∨op=6∨op=7 then p && decide (nm=[]) && decide (n=2)else false
theorem G9 {op:Int} {na:Bool} {xs:List Nat} {nb:Bool} {ys:List Nat} {nm:List UInt8} {args:List Rx} {t:List UInt8} {d m:Bool} (hdec:aa Tryz.prog 244 [Jt na xs nb ys] (.tup [dL t,dB d])) (hm:aa Tryz.prog 61 [dL nm] (.one (dB m))):
 aa Tryz.prog 180 [dR (.mk op na xs nb ys nm args)] (.one (dB (pS op d (ol na xs nb ys) m nm args.length))):=by
 obtain⟨b,hbb⟩:∃b,pS op d (ol na xs nb ys) m nm args.length=b:=⟨_,rfl⟩;have b1:op=1->b=(d && (decide (nm=[]) || m) && decide (args.length=0)):=fun h=>by rw[<- hbb,pS,if_pos h]
 have b2:op=2->b=(ol na xs nb ys && m && decide (args.length=0)):=fun h=>by rw[<- hbb,pS,if_neg (by omega),if_pos h]
 have b3:op=3->b=(ol na xs nb ys && decide (nm=[]) && decide (args.length=1)):=fun h=>by rw[<- hbb,pS,if_neg (by omega),if_neg (by omega),if_pos h]
 have b4:op=4∨op=5∨op=6∨op=7->b=(ol na xs nb ys && decide (nm=[]) && decide (args.length=2)):=fun h=>by rw[<- hbb,pS,if_neg (by omega),if_neg (by omega),if_neg (by omega),if_pos h]
 have b0:op≠1->op≠2->op≠3->op≠4->op≠5->op≠6->op≠7->b=false:=fun h1 h2 h3 h4 h5 h6 h7=>by rw[<- hbb,pS,if_neg h1,if_neg h2,if_neg h3,if_neg (by omega)]
 rw[hbb];clear hbb;show aa Tryz.prog _ [.agg (ab op na xs nb ys nm args.length (da args))] _;generalize hp:ol na xs nb ys=p at *;refine kU func180 ?_;refine kR ?_;refine j4 ⟨[(1, .box 0 0),(3, .d (dB p))],[(0,some (ab op na xs nb ys nm args.length (da args)))]⟩ (fun s' hw2=>?_) (fun R hR _=>?_)
 ·refine bV hw2 rfl ?_
  by_cases o1:op=1
  ·have hb:=b1 o1
   clear b1 b2 b3 b4 b0;subst o1;refine kW ?_;refine kC (hdec) ?_;cases d
   ·exact F6
   ·refine kG ?_
    refine kO4 ?_
    by_cases hnm:nm=[]
    ·refine aO rfl rfl rfl rfl rfl rfl rfl (bO (a:=nm) (b:=[]) hnm) ?_
     iterate 10 refine kO ?_
     by_cases hl:args.length=0
     ·exact OH
     ·exact rY
    ·refine Q5 ?_
     refine kO3 ?_
     refine kC (hm) ?_;cases m
     ·exact T7
     ·iterate 6 refine kO ?_
      exact Ua
  by_cases o2:op=2
  ·have hb:=b2 o2
   clear b1 b2 b3 b4 b0;subst o2;cases p
   ·exact F6
   ·refine kW ?_
    refine kC (hm) ?_;cases m
    ·exact F6
    ·refine kO5 ?_
     exact Ua
  by_cases o3:op=3
  ·have hb:=b3 o3
   clear b1 b2 b3 b4 b0;subst o3;cases p
   ·exact F6
   ·iterate 4 refine kG ?_
    refine kO4 ?_
    by_cases hnm:nm=[]
    ·refine AM ?_
     by_cases hl:args.length=1
     ·exact OH
     ·exact rY
    ·refine Q5 ?_
     exact T7
  by_cases o4:op=4
  ·have hb:=b4 (by omega)
   clear b1 b2 b3 b4 b0;subst o4;cases p
   ·exact F6
   ·iterate 5 refine kG ?_
    exact qZ
  by_cases o5:op=5
  ·have hb:=b4 (by omega)
   clear b1 b2 b3 b4 b0;subst o5;cases p
   ·exact F6
   ·iterate 6 refine kG ?_
    exact qZ
  by_cases o6:op=6
  ·have hb:=b4 (by omega)
   clear b1 b2 b3 b4 b0;subst o6;cases p
   ·exact F6
   ·iterate 7 refine kG ?_
    exact qZ
  by_cases o7:op=7
  ·have hb:=b4 (by omega)
   clear b1 b2 b3 b4 b0;subst o7;cases p
   ·exact F6
   ·iterate 8 refine kG ?_
    exact qZ
  obtain rfl:b=false:=b0 o1 o2 o3 o4 o5 o6 o7;refine kG ?_;refine kB false ?_ ?_
  ·exact decide_eq_false o1
  refine kG ?_;refine kB false ?_ ?_
  ·exact decide_eq_false o2
  refine kG ?_;refine kB false ?_ ?_
  ·exact decide_eq_false o3
  refine kG ?_;refine kB false ?_ ?_
  ·exact decide_eq_false o4
  refine kG ?_;refine kB false ?_ ?_
  ·exact decide_eq_false o5
  refine kG ?_;refine kB false ?_ ?_
  ·exact decide_eq_false o6
  refine kG ?_;refine kB false ?_ ?_
  ·exact decide_eq_false o7
  exact aD
 ·clear b1 b2 b3 b4 b0
  subst hp;cases na
  ·cases nb
   ·refine kG ?_
    iterate 18 refine kO ?_
    by_cases l1:xs.length=0
    ·refine kT ?_
     iterate 7 refine kO ?_
     by_cases l2:ys.length=0
     ·refine kT ?_
      refine kW ?_;rw[show ol false xs false ys=true by unfold ol;rw[decide_eq_true l1,decide_eq_true l2];rfl]at hR;exact hR _ kw
     ·refine kE ?_
      refine kW ?_;rw[show ol false xs false ys=false by unfold ol;rw[decide_eq_true l1,decide_eq_false l2];rfl]at hR;exact hR _ kw
    ·refine kE ?_
     refine kW ?_;rw[show ol false xs false ys=false by unfold ol;rw[decide_eq_false l1];rfl]at hR;exact hR _ kw
   ·refine kW ?_
    exact hR _ kw
  ·refine kW ?_
   exact hR _ kw
mutual
def qI:Rx->Bool
 | .mk op na xs nb ys nm args=>pS op (lJ na xs nb ys).isSome (ol na xs nb ys) (mh nm) nm args.length && lp args
def lp:List Rx->Bool
 | []=>true
 |y::r=>qI y && lp r
end
theorem mB:∀l:List Rx,lp l=l.all qI
 | []=>by simp[lp]
 |y::r=>by rw[lp,mB r,List.all_cons]
theorem sU:∀(x:Rx),jN x->yi x->aa Tryz.prog 117 [dR x] (.one (dB (qI x))):=by
 refine du fun op na xs nb ys nm args ih hx hlt=>?_
 obtain⟨_,_,hw,hw',hnm,hlen,hargs⟩:=hx;obtain⟨l1,l2,l3,hla⟩:=hlt;obtain⟨t,hdec,_⟩:=xn (na:=na) (nb:=nb) hw hw' l1 l2;have hm:=lC nm (by omega);have hsh:=G9 (op:=op) (args:=args) hdec hm;rw[qI,mB];generalize pS op (lJ na xs nb ys).isSome (ol na xs nb ys) (mh nm) nm args.length=s0 at *;have hsh:aa Tryz.prog 180 [.agg (ab op na xs nb ys nm args.length (da args))] (.one (dB s0)):=hsh;refine OU ?_;cases s0 with
 |false=>
  rw[Bool.false_and];refine kV func117 ?_;refine kC (hsh) ?_;exact aD
 |true=>
  rw[Bool.true_and];refine kV func117 ?_;refine kQ (hsh) ?_
  refine ay Nat (fun i=>i<=args.length/\ ∀(q:Nat) y,q<i->args[q]? =some y->qI y=true) (fun i=>⟨[(1, .box 0 0),(2, .d (dB false)),(3, .d (dN .i64 i))],[(0,some (ab op na xs nb ys nm args.length (da args)))]⟩) (fun i=>args.length-i) 0 ⟨Nat.zero_le _,fun q y h=>absurd h (Nat.not_lt_zero _)⟩
   kw ?_
  rintro i ⟨hi,hq⟩;refine kI ?_
  refine kO4 ?_
  by_cases hlt:i<args.length
  ·refine kT ?_
   obtain⟨o1,na1,xs1,nb1,ys1,nm1,n1,cs1,hA⟩:=bv args[i];have hx:args[i]? =some args[i]:=by simp[hlt]
   have hat:∀(j:Nat) (a:AV),(ab o1 na1 xs1 nb1 ys1 nm1 n1 cs1)[j]? =some a->(da args)[i*7+j]? =some a:=fun j a h=>fw args i args[i] hx j a (by rw[hA];exact h)
   have c:=ih args[i] (List.getElem_mem hlt) (hargs _ (List.getElem_mem hlt)) (hla _ (List.getElem_mem hlt));rw[show dR args[i]= .agg (ab o1 na1 xs1 nb1 ys1 nm1 n1 cs1) from congrArg DV.agg hA]at c;refine Te ?_;refine kO ?_;cases hb:qI args[i]
   ·rw[hb]at c
    refine kQ (c) ?_
    rw[show args.all qI=false by
     cases h:args.all qI
     ·rfl
     ·rw[List.all_eq_true.1 h _ (List.getElem_mem hlt)]at hb;cases hb]
    exact de (T:=TT) rfl rfl
   ·exact CL
  ·refine kE ?_
   refine kW ?_
   rw[show args.all qI=true by
    rw[List.all_eq_true];intro y hy;obtain⟨q,h⟩:=List.getElem?_of_mem hy;exact hq q y (by have:=(List.getElem?_eq_some_iff.1 h).1;omega) h]
   exact de (T:=TT) rfl rfl
def pT (x:Rx):Int:=if qI x=true then(if yS x<=40 then 0 else 3)else 1
theorem wC (x:Rx) (hx:jN x) (hl:yi x) (hs:gr x<=1000000):aa Tryz.prog 62 [dR x] (.one (dN .i64 (pT x))):=by
 have c1:=sU x hx hl;have c2:=yh x hx hs;obtain⟨o1,na1,xs1,nb1,ys1,nm1,n1,cs1,hA⟩:=bv x;rw[show dR x= .agg (ab o1 na1 xs1 nb1 ys1 nm1 n1 cs1) from congrArg DV.agg hA]at c1 c2 ⊢;unfold pT;cases hb:qI x with
 |false=>
  rw[hb]at c1;rw[if_neg (by decide)];refine kU func62 ?_;exact MO
 |true=>
  rw[hb]at c1;rw[if_pos rfl]
  by_cases hd:yS x<=40
  ·rw[if_pos hd]
   refine kU func62 ?_;refine mb ?_;refine kC (c2) ?_;refine kE ?_;exact aD
  ·rw[if_neg hd]
   refine kU func62 ?_;refine mb ?_;refine kC (c2) ?_;refine kT ?_;exact aD
theorem vV:∀e,lz e->qI (rx e)=true
 | .num v u,h=>by
  obtain⟨h1,h2,h3⟩:=h;show(pS 1 (lJ (decide (v.num<0)) (digs v.num.natAbs) (decide ((v.den:Int)<0)) (digs (v.den:Int).natAbs)).isSome _ (mh u) u 0 && lp [])=true;rw[nE (q:=v) rfl rfl rfl (lN v),h1,lp];rcases h3 with h|h<;>simp[pS,h]
 | .nam s,h=>by
  show(pS 2 _ (ol false [] false []) (mh s) s 0 && lp [])=true;have h:mh s=true:=h;rw[h,lp];rfl
 | .neg a,h=>by
  show(pS 3 (lJ false [] false []).isSome (ol false [] false []) (mh []) [] 1 && lp [rx a])=true;rw[lp,lp,vV a h];rfl
 | .bin k a b,h=>by
  show(pS k.code (lJ false [] false []).isSome (ol false [] false []) (mh []) [] 2 && lp [rx a,rx b])=true;rw[lp,lp,lp,vV a h.1,vV b h.2];cases k<;>rfl
theorem Pl:∀(x:Rx),jN x->yi x->qI x=true-> ∃e,x=rx e/\lz e:=by
 refine du fun op na xs nb ys nm args ih hx hlt hf=>?_
 obtain⟨_,_,hw,hw',_,hlen,hargs⟩:=hx;obtain⟨l1,l2,l3,hla⟩:=hlt;rw[qI,mB,Bool.and_eq_true]at hf;obtain⟨hsh,hall⟩:=hf;have hall:∀y∈args,∃e,y=rx e/\lz e:=fun y hy=>ih y hy (hargs y hy) (hla y hy) (List.all_eq_true.1 hall y hy)
 unfold pS at hsh
 split at hsh
 ·rename_i ho
  subst ho
  simp only[Bool.and_eq_true,Bool.or_eq_true,decide_eq_true_eq]at hsh
  obtain⟨⟨h1,h2⟩,h3⟩:=hsh;obtain rfl:=List.eq_nil_of_length_eq_zero h3;cases hv:fJ na xs nb ys with
  |false=>rw[lJ,if_neg (by rw[hv];decide)]at h1;cases h1
  |true=>
   obtain⟨q,e,e1,e2⟩:=nN hw hw' hv;have sq:dy 510 q:=⟨Sz.of_digs (by rw[<- e1];exact l1),Sz.of_digs (by rw[<- e2];exact l2)⟩;rw[nE e e1 e2 hv]at h1
   have e3:na=decide (q.num<0):=by
    have:=congrArg (fun l:List AV=>l[0]?) e;exact Io
   have e4:nb=decide ((q.den:Int)<0):=by
    have:=congrArg (fun l:List AV=>l[2]?) e;exact Io
   subst e3 e4 e1 e2;exact⟨.num q nm,rfl,h1,sq,h2⟩
 ·split at hsh
  ·rename_i ho
   subst ho
   simp only[Bool.and_eq_true,decide_eq_true_eq]at hsh
   obtain⟨⟨h1,h2⟩,h3⟩:=hsh;obtain rfl:=List.eq_nil_of_length_eq_zero h3;obtain⟨rfl,rfl,rfl,rfl⟩:=AI h1;exact⟨.nam nm,rfl,h2⟩
  ·split at hsh
   ·rename_i ho
    subst ho
    simp only[Bool.and_eq_true,decide_eq_true_eq]at hsh
    obtain⟨⟨h1,rfl⟩,h3⟩:=hsh;obtain⟨rfl,rfl,rfl,rfl⟩:=AI h1
    match args,h3,hall with
    | [a],_,hall=>
     obtain⟨ea,rfl,oa⟩:=hall a (by simp);exact⟨.neg ea,rfl,oa⟩
   ·split at hsh
    ·rename_i ho
     simp only[Bool.and_eq_true,decide_eq_true_eq]at hsh
     obtain⟨⟨h1,rfl⟩,h3⟩:=hsh;obtain⟨rfl,rfl,rfl,rfl⟩:=AI h1
     match args,h3,hall with
     | [a,b],_,hall=>
      obtain⟨ea,rfl,oa⟩:=hall a (by simp);obtain⟨eb,rfl,ob⟩:=hall b (by simp);rcases ho with rfl|rfl|rfl|rfl
      ·exact⟨.bin .add ea eb,rfl,oa,ob⟩
      ·exact⟨.bin .sub ea eb,rfl,oa,ob⟩
      ·exact⟨.bin .mul ea eb,rfl,oa,ob⟩
      ·exact⟨.bin .div ea eb,rfl,oa,ob⟩
    ·cases hsh
section
open Go.ChangeShapes Go.WideShapes Go.ChangeAt Go.RowKit Go.Joins
theorem xu {H:Type} {enc:TypeId × Value->H} {W:World} {P:Program} {L:List TypeId} (hL:uH P L=true) {t:TypeId} (ht:t∈L) {fs:Array Field} (hu:P.underlying t=some (.struct fs)) {r:Reach} {b0:Nat} {v:Value} {d:DataW H} {p:List MemPlace} (hv:Value.okWide P W r b0 t v) (h:DataW.Trod enc P W 0 (fun _=>true) true t v d p):
 ∃n cs,DV.M (fun _=>False) W (.agg cs) v/\Sh P n t cs:=by
 obtain⟨cs,rfl,_⟩:=okWide_struct hu hv;obtain⟨n,xs,h1,h2⟩:=C8 hL ht h;exact⟨n,xs,OD h1,h2⟩
end
end Go.Proofs.YtmkggcjajcdlcaaGreatDoor
