/- Parts of a proof: contracts of the functions that the laws reach. -/
import Derived.Test.YtmkggcjajcdlcaaGreatDoorEZ8
set_option maxHeartbeats 100000000
set_option linter.all false
open Go.Proofs.Tryz
namespace Go.Proofs.YtmkggcjajcdlcaaGreatDoor
open Go.RowKit
theorem Pw (n:Nat):Lib.repeatL [48] n=List.replicate n 48:=by
 induction n with
 |zero=>rfl
 |succ n ih=>
  simp[Lib.repeatL,List.replicate_succ]at ih ⊢
  exact ih
theorem QE (z:Int):0<(fmt z).length:=by
 rw[Gs]
 have:0<(LI z.natAbs).length:=by
  unfold LI
  split
  ·simp
  ·rename_i h
   obtain⟨c,r,e,_⟩:=zc h;rw[e]
   simp
 simp
 omega
theorem Dd (n:Nat) (hn:n<=1000000):aa Tryz.prog 219 [dL [48],dN .i64 n] (.one (dL (List.replicate n 48))):=
 ⟨aG func219 rfl rfl,fun S w vs hS hv=>by
  match vs,hv with
  | [v,u],⟨h1,h2,_⟩=>
   obtain rfl:=ec h1;obtain rfl:=ec h2;refine(Tryz.strings_Repeat (Bs [48]) n w (by omega) (by rw[aS];simp;omega)).mono ?_;rintro e w' ⟨rfl,hb⟩;exact⟨_,rfl,by rw[show(Bs [48]).data.toList=[48] from rfl,Pw];exact AV.M.val rfl,hb⟩⟩
theorem FX {q:Rat} {n:Nat} (sq:cZ n q) (hn:n<=900):∃t,aa Tryz.prog 174 [dQ q] (.tup [dL t,dB (ja q).isSome])/\ ∀u,ja q=some u->t=u:=by
 have cv:aa Tryz.prog 241 [dQ q] (.one (dB true)):=yE q sq (by omega)
 by_cases hneg:Q5 q<0
 ·have h0:ja q=none:=by rw[ja,if_pos hneg]
  refine⟨[],?_,fun u h=>by rw[h0]at h;cases h⟩;rw[h0];refine kU func174 ?_;refine uQ ?_;refine kC (wH q) ?_;refine kB true ?_ ?_
  ·exact decide_eq_true hneg
  exact ax
 ·obtain⟨K,k1,k2,k3⟩:=tH hneg
  have main:∀t b,(40<=K->t=[]/\b=false)->(K<40->t=oY K (fmt (pw q K).num)/\b=decide (t.length<=40))->aa Tryz.prog 174 [dQ q] (.tup [dL t,dB b]):=by
   intro t b g1 g2;refine kU func174 ?_;refine uQ ?_;refine kC (wH q) ?_;refine kB false ?_ ?_
   ·exact decide_eq_false hneg
   refine kW ?_;refine aj (gN 10 (by decide) (by decide) (q:=((10:Int):Rat)) rfl) rfl rfl rfl rfl rfl rfl rfl ?_;refine kW ?_;refine aj (fI 1 (by decide) (by decide)) rfl rfl rfl rfl rfl rfl rfl ?_;refine kW ?_
   refine aq Nat (fun k=>k<=K) (fun k=>⟨[(1, .box 0 0),(2, .d (dL [])),(3, .d (dB false)),(4, .box 3001 0),(5, .box 4001 0),(6, .d (dN .i64 k))],[(0,some (aQ (pw q k))),(3001,some (aQ ((10:Int):Rat))),(4001,some (aZ 1))]⟩) (fun k=>41-k) 0 (Nat.zero_le _)
    kw ?_
   intro k hk;have sk:=Jg sq k;refine kI ?_;refine kO ?_
   by_cases h40:k<40
   ·refine kT ?_
    refine kG ?_
    refine kO3 ?_
    have hcs:=FR ((pw q k).den:Int) 1
    by_cases hd1:((pw q k).den:Int)=1
    ·have hkK:k=K:=by
      rcases Nat.lt_or_ge k K with h|h
      ·exact absurd hd1 (k2 k h)
      ·omega
     rw[show bU ((pw q k).den:Int) 1=0 by rw[hd1];exact Em 1]at hcs;obtain⟨rfl,rfl⟩:=g2 (by omega);subst hkK;refine kQ (hcs) ?_;have hlen:(fmt (pw q k).num).length<=10*(n+k)+2:=Eu sk.1;refine aj (xg (Nat.le_trans sk.1.digs (by omega))) rfl rfl rfl rfl rfl rfl rfl ?_;refine kG ?_;refine kO ?_;unfold oY x9;have hpos:0<(fmt (pw q k).num).length:=QE _
     generalize fmt (pw q k).num=u at *;have hB:=aS u
     by_cases hk0:0<k
     ·rw[if_pos hk0]
      refine kT ?_;refine kG ?_
      refine kO4 ?_
      refine m4 (v':= .int .i64 ((k:Int)+1-u.length)) rfl rfl rfl rfl ?_ ?_
      ·exact congrArg (Value.int .i64) (by rw[IntWalk.i64_in ((k:Int)+1) (by omega),IntWalk.i64_in _ (by omega)];omega)
      refine kG ?_;refine kO ?_
      by_cases hp:u.length<k+1
      ·refine kT ?_
       refine kG ?_;refine kO ?_;have cr:=Dd (k+1-u.length) (by omega);rw[show(((k+1-u.length:Nat)):Int)=(k:Int)+1-u.length by omega]at cr;refine kC (cr) ?_;refine kO ?_;refine aC rfl rfl rfl rfl rfl rfl rfl (jr (a:=List.replicate (k+1-u.length) 48) (b:=u) (by simp;omega)) ?_;have hwl:(List.replicate (k+1-u.length) 48++u).length=k+1-u.length+u.length:=by simp
       generalize hwd:List.replicate (k+1-u.length) 48++u=w at *;have hwB:=aS w;exact Pb
      ·refine kE ?_
       rw[show k+1-u.length=0 by omega,List.replicate_zero,List.nil_append];have hwl:u.length=u.length:=rfl;generalize hwd:u=w at *;exact Pb
     ·obtain rfl:k=0:=by omega
      rw[if_neg hk0];have hu1:0+1-u.length=0:=by omega
      rw[hu1,List.replicate_zero,List.nil_append];refine kE ?_;refine kG ?_
      refine kO3 ?_
      refine m4 (v':= .bool (decide (u.length<=40))) rfl rfl rfl rfl ?_ ?_
      ·exact HX
      exact ax
    ·have hne:bU ((pw q k).den:Int) 1≠0:=by
      rcases Int.lt_trichotomy ((pw q k).den:Int) 1 with h|h|h
      ·rw[fe h];decide
      ·exact absurd h hd1
      ·rw[jN h];decide
     refine kC (hcs) ?_;refine kB true ?_ ?_
     ·exact(by simpa using hne)
     refine kW ?_;refine aj (om sk (ym (n:=10) (by decide)) (by omega) (q:=pw q (k+1)) rfl) rfl rfl rfl rfl rfl rfl rfl ?_;refine kW ?_
     exact⟨k+1,by
      rcases Nat.lt_or_ge k K with h|h
      ·exact h
      ·obtain rfl:k=K:=by omega
       rcases k3 with⟨e,_⟩| ⟨_,k3,_⟩
       ·omega
       ·exact absurd k3 hd1,by omega,weak ⟨rfl,rfl,rfl,rfl,rfl,ae (by omega) (by omega),trivial⟩ ⟨rfl,rfl,rfl,trivial⟩ rfl⟩
   ·refine kE ?_
    obtain⟨rfl,rfl⟩:=g1 (by omega);exact ax
  rcases k3 with⟨e,h0⟩| ⟨e,h1,h2⟩
  ·exact HY
  ·by_cases h40:K=40
   ·have h0:ja q=none:=by
     rw[h2,if_neg];have:=Jc K (fmt (pw q K).num) (by omega);omega
    exact HY
   ·exact Ru
theorem I8 {l:List UInt8} {i:Nat} (h:i<l.length):num (l.take (i+1))=10*num (l.take i)+dv l[i]:=by
 rw[List.take_succ_eq_append_getElem h,se]
theorem oq (s:List UInt8):aa Tryz.prog 316 [dL s] (.tup [dZ (pz s).1,dN .i64 (pz s).2]):=by
 have z0:dZ 0= .agg [.val (.bool false), .sl 0 []]:=by unfold dZ;rw[e0]
 have hsz:=aS s
 by_cases hl:s.length<=65536
 ·have hdl:=MD s
  refine kV func316 ?_;refine zy ?_;refine el ?_;refine kR ?_;refine j3 ⟨[(0, .d (dL s)),(2, .box 0 0),(3, .d (dN .i64 0)),(4, .d (dL (gB s)))],[(0,some [.val (.bool false), .sl 0 []])]⟩ (fun s' hw=>?_) (fun R hR hret=>?_)
  ·refine bM ?_
   refine bW hw rfl ?_;refine kW ?_;refine aq Nat (fun i=>i<=(gB s).length/\ ∀c∈(gB s).take i,mM c) (fun i=>⟨[(0, .d (dL s)),(2, .box 0 0),(3, .d (dN .i64 0)),(4, .d (dL (gB s))),(5, .box 6001 0),(6, .d (dN .i64 i))],[(0,some [.val (.bool false), .sl 0 []]),(6001,some (aZ (num ((gB s).take i):Nat)))]⟩) (fun i=>(gB s).length-i) 0 ⟨by omega,by simp⟩ (weak ⟨rfl,rfl,rfl,rfl,rfl,rfl,trivial⟩ ⟨rfl,congrArg some e0.symm,trivial⟩ rfl) ?_;rintro i ⟨hi,hd⟩;have hsd:=aS (gB s);refine kR ?_;refine pH rfl (fun h=>?_) (fun h=>?_)
   ·have h:=of_decide_eq_true h
    have hi:i<(gB s).length:=by omega
    refine el ?_;refine kR ?_;refine bY ac (i:=i) (c:=(gB s)[i]) (List.getElem?_eq_getElem hi) rfl rfl rfl rfl rfl rfl rfl rfl ?_
    by_cases h48:(gB s)[i].toNat<48
    ·have hbad:¬S4 s:=fun hp=>by have:=(hp.2.2.1 _ (List.getElem_mem hi)).1;omega
     rw[tF hbad,z0];refine kT ?_;exact ax
    ·refine kE ?_
     refine kO3 ?_
     refine bY ac (i:=i) (c:=(gB s)[i]) (List.getElem?_eq_getElem hi) rfl rfl rfl rfl rfl rfl rfl rfl ?_
     by_cases h57:(gB s)[i].toNat > 57
     ·have hbad:¬S4 s:=fun hp=>by have:=(hp.2.2.1 _ (List.getElem_mem hi)).2;omega
      rw[tF hbad,z0];refine kT ?_;exact ax
     ·refine kE ?_
      have hD:mM (gB s)[i]:=⟨by omega,by omega⟩;have hl1:((gB s).take i).length<=65536:=by rw[List.length_take];omega
      have hn0:=EM hd;have hdv:=Jd hD;have hs:=I8 hi
      have hcv:(Value.int .i64 (IntKind.i64.wrap (IntKind.u8.wrap (((gB s)[i].toNat:Int)-48))):Value)= .int .i64 (dv (gB s)[i]:Nat):=by
       rw[IntWalk.u8_in _ (by omega),IntWalk.i64_in _ (by omega)];unfold dv
       congr 1
       omega
      have hf10:eG ((num ((gB s).take i):Nat)*10:Int):=by
       have:=Bz (Nat.le_trans hn0 hl1) (m:=10*num ((gB s).take i)) (by omega);unfold eG;rw[show((num ((gB s).take i):Nat)*10:Int).natAbs=10*num ((gB s).take i) by omega];omega
      refine kW ?_;refine aj (dM 10 (by decide) (by decide)) rfl rfl rfl rfl rfl rfl rfl ?_;refine kW ?_;refine aj (dG (a:=(num ((gB s).take i):Nat)) (b:=10) (Nat.le_trans hn0 (Nat.le_trans hl1 (by decide))) (.small (by decide))) rfl rfl rfl rfl rfl rfl rfl ?_
      refine kO2 ?_
      refine bY ac (i:=i) (c:=(gB s)[i]) (List.getElem?_eq_getElem hi) rfl rfl rfl rfl rfl rfl rfl rfl ?_;refine kO ?_;refine m4 rfl rfl rfl rfl hcv ?_;refine aj (dM (dv (gB s)[i]:Nat) (by omega) (by omega)) rfl rfl rfl rfl rfl rfl rfl ?_;refine aj (jH (a:=(num ((gB s).take i):Nat)*10) (b:=(dv (gB s)[i]:Nat)) hf10 (.small (by omega))) rfl rfl rfl rfl rfl rfl rfl ?_;refine kW ?_;have hnum:((num ((gB s).take i):Nat)*10+(dv (gB s)[i]:Nat):Int)=(num ((gB s).take (i+1)):Nat):=by rw[hs];omega
      refine⟨i+1,⟨hi,fun c hc=>?_⟩,by omega,weak ⟨rfl,rfl,rfl,rfl,rfl,ae rfl (by omega),trivial⟩ ⟨rfl,congrArg (fun z=>some (aZ z)) hnum,trivial⟩ rfl⟩;rw[List.take_succ_eq_append_getElem hi,List.mem_append]at hc;rcases hc with hc|hc
      ·exact hd c hc
      ·rw[List.mem_singleton]at hc;rw[hc];exact hD
   ·have h:=of_decide_eq_false h
    have hi:i=(gB s).length:=by omega
    subst hi;rw[List.take_length]at hd ⊢;refine sa ?_
    have hfz:eG (nf (li s) (num (gB s))):=by
     have:=EM hd;unfold eG;rw[show(nf (li s) (num (gB s))).natAbs=num (gB s) by unfold nf;split <;>omega];omega
    refine j3 ⟨[(0, .d (dL s)),(2, .box 0 0),(3, .d (dN .i64 0)),(5, .box 6001 0)],[(0,some [.val (.bool false), .sl 0 []]),(6001,some (aZ (nf (li s) (num (gB s)))))]⟩ (fun s' hw=>?_) (fun R hR hret=>?_)
    ·refine bM ?_
     refine bM ?_;refine bW hw rfl ?_;refine kO ?_;refine kC (mo hfz) ?_;refine kO ?_;refine aC rfl rfl rfl rfl rfl rfl rfl tp ?_;refine .done ?_
     by_cases hok:QN (li s) (gB s)
     ·have:=Qj hok
      rw[SR]at this;refine eD (T:=TT) rfl ?_ ?_
      ·exact(by rw[this];simp)
      rw[N4 ⟨hl,hok⟩];refine el ?_;exact ax
     ·have:fmt (nf (li s) (num (gB s)))≠s:=fun e=>hok (Gg hd (by rw[SR];exact e))
      refine eC (T:=TT) rfl ?_ ?_
      ·exact(by simp[this])
      rw[tF (fun h=>hok h.2),z0];exact ax
    ·have hlt:=PU s
     refine kR ?_;cases hp:li s
     ·rw[hp]at hlt
      refine eD (T:=TT) rfl ?_ ?_
      ·exact(by rw[<- hlt];congr 1;simp;omega)
      refine el ?_;exact hR _ (weak ⟨rfl,rfl,rfl,rfl,trivial⟩ ⟨rfl,congrArg (fun z=>some (aZ z)) (show((num (gB s):Nat):Int)=nf (li s) (num (gB s)) by rw[hp];rfl),trivial⟩ rfl)
     ·rw[hp]at hlt
      refine eC (T:=TT) rfl ?_ ?_
      ·exact(by rw[<- hlt];congr 1;simp;omega)
      refine kW ?_;refine kQ (iB (num (gB s):Nat)) ?_;exact hR _ (weak ⟨rfl,rfl,rfl,rfl,trivial⟩ ⟨rfl,congrArg (fun z=>some (aZ z)) (show -((num (gB s):Nat):Int)=nf (li s) (num (gB s)) by rw[hp];rfl),trivial⟩ rfl)
  ·clear hret
   match s with
   | []=>
    refine BH ?_;refine kB false ?_ ?_
    ·exact rfl
    refine kW ?_;refine el ?_;exact hR _ kw
   |c::r=>
    refine BH ?_;refine kB true ?_ ?_
    ·exact decide_eq_true (by rw[hsz];simp)
    refine kO2 ?_
    refine bY ac (i:=0) (c:=c) rfl rfl rfl rfl rfl rfl rfl rfl rfl ?_
    by_cases h:c=45
    ·subst h
     refine kW ?_;refine IA ac (i:=1) (by simp) rfl rfl rfl rfl rfl rfl rfl rfl ?_;refine kW ?_;exact hR _ kw
    ·have h45:(c == 45)=false:=beq_eq_false_iff_ne.2 h
     have hn:c.toNat≠45:=fun e=>h (UInt8.toNat_inj.1 e)
     refine kB false ?_ ?_
     ·exact beq_eq_false_iff_ne.2 (by omega)
     refine kW ?_;refine el ?_;exact hR _ (weak ⟨rfl,rfl,rfl,congrArg (fun x=>TV.d (dL x)) (show c::r=gB (c::r) by simp[gB,h45]),trivial⟩ ⟨rfl,trivial⟩ rfl)
 ·rw[tF (fun h=>hl h.1),z0]
  refine kU func316 ?_;refine D1 ?_;exact ax
theorem uE {t:List UInt8} {j:Nat} {c:UInt8} (h:∀i x,i<j->t[i]? =some x->mM x) (hc:t[j]? =some c) (hn:¬mM c):(uY t).length=j:=by
 obtain⟨hl,hg⟩:=List.getElem?_eq_some_iff.1 hc
 have e:t=t.take j++c::t.drop (j+1):=by
  rw[<- hg,List.getElem_cons_drop,List.take_append_drop]
 have h1:∀x∈t.take j,mM x:=fun x hx=>by
  obtain⟨i,hi⟩:=List.getElem?_of_mem hx;rw[List.getElem?_take]at hi
  split at hi
  ·exact h i x (by omega) hi
  ·cases hi
 rw[e,(yF h1).1,(Gr hn).1,List.append_nil,List.length_take];omega
theorem Di {t:List UInt8} (h:∀i x,i<t.length->t[i]? =some x->mM x):uY t=t:=(F2 fun x hx=>by
 obtain⟨i,hi⟩:=List.getElem?_of_mem hx;exact h i x (List.getElem?_eq_some_iff.1 hi).1 hi).1
theorem oO {t:List UInt8} (hl:t.length<=1000000000):aa Tryz.prog 315 [dL t] (.one (dN .i64 (uY t).length)):=by
 have hsz:=aS t;refine kV func315 ?_;refine aq Nat (fun j=>j<=t.length/\ ∀i c,i<j->t[i]? =some c->mM c) (fun j=>⟨[(0, .d (dL t)),(3, .d (dN .i64 j))],[]⟩) (fun j=>t.length-j) 0 ⟨Nat.zero_le _,fun i c h=>absurd h (Nat.not_lt_zero _)⟩ kw ?_;rintro j ⟨hj,hall⟩;refine kI ?_
 refine kO3 ?_
 by_cases hlt:j<t.length
 ·obtain⟨c,hc⟩:∃c,t[j]=c:=⟨_,rfl⟩
  have hcj:t[j]? =some c:=by rw[List.getElem?_eq_getElem hlt,hc]
  refine kT ?_
  refine kO3 ?_
  refine bY ac (l:=t) (i:=j) hcj rfl rfl rfl rfl rfl rfl rfl rfl ?_
  by_cases h1:48<=c.toNat
  ·refine kT ?_
   refine kO4 ?_
   refine bY ac (l:=t) (i:=j) hcj rfl rfl rfl rfl rfl rfl rfl rfl ?_
   by_cases h2:c.toNat<=57
   ·refine kT ?_
    refine kW ?_;refine⟨j+1,⟨hlt,fun i c' hi hp=>?_⟩,by omega,weak ⟨rfl,?_,trivial⟩ trivial rfl⟩
    ·rcases Nat.lt_succ_iff_lt_or_eq.1 hi with h3|rfl
     ·exact hall i c' h3 hp
     ·rw[hcj]at hp;cases hp;exact⟨h1,h2⟩
    ·exact ae (by omega) (by omega)
   ·exact Nl
  ·exact Nl
 ·have hge:j=t.length:=by omega
  refine kY ?_;rw[Di (fun i x hi hx=>hall i x (by omega) hx),<- hge];exact cw (T:=TT) rfl rfl
section
variable {P:Program} {T:TypeId->Option Ty} {n:Nat} {ops:Array Oper} {id:Nat} {draw:Bool} {K:AS->Prop} {s:AS} {k:Nat} {o:Oper} {os:List Oper} {fps:List FP}
theorem GO (hT:∀t d,T t=some d->aU P t d) {t:TypeId} {ty:Ty} {x y:Operand} {l l':List UInt8} {i:Nat} {ik:IntKind} (he:l.take i=l') (hi:i<=l.length) (h1:gd ops s o=some true) (h2:o.op= .slice t x none (some y) none) (h5:T t=some ty) (h6:ty.isStr=true) (h7:s.ev x= .d (.leaf (.val (vL l)))) (h8:s.ev y= .d (.leaf (.val (.int ik (i:Nat)))))
 (h3:aH n o.dst=true) (h4:eS draw ops (aw ops o ⟨.d (dL l'),none⟩ []) k fps=true) (h:ak P T n ops id draw K (k+1) os (s.eff o.dst ⟨.d (dL l'),none⟩) (aw ops o ⟨.d (dL l'),none⟩ []::fps)):ak P T n ops id draw K k (o::os) s fps:=by
 subst he;exact Ow hT hi h1 h2 h5 h6 h7 h8 h3 h4 h
theorem JB (hT:∀t d,T t=some d->aU P t d) {t:TypeId} {ty:Ty} {x y:Operand} {l l':List UInt8} {i:Nat} {ik:IntKind} (he:l.drop i=l') (hi:i<=l.length) (h1:gd ops s o=some true) (h2:o.op= .slice t x (some y) none none) (h5:T t=some ty) (h6:ty.isStr=true) (h7:s.ev x= .d (.leaf (.val (vL l)))) (h8:s.ev y= .d (.leaf (.val (.int ik (i:Nat)))))
 (h3:aH n o.dst=true) (h4:eS draw ops (aw ops o ⟨.d (dL l'),none⟩ []) k fps=true) (h:ak P T n ops id draw K (k+1) os (s.eff o.dst ⟨.d (dL l'),none⟩) (aw ops o ⟨.d (dL l'),none⟩ []::fps)):ak P T n ops id draw K k (o::os) s fps:=by
 subst he;exact IA hT hi h1 h2 h5 h6 h7 h8 h3 h4 h
end
section
variable {P:Program} {T:TypeId->Option Ty} {n:Nat} {ops:Array Oper} {id:Nat} {draw:Bool} {K:AS->Prop} {s:AS} {k:Nat} {o:Oper} {os:List Oper} {fps:List FP}
theorem sc:∀(b c:BL),(∀x∈c,x∈b)->ee b c=[]
 |_,[],_=>rfl
 |b,(j,cs)::r,h=>by
  rw[ee]
  have hj:(am (aA b) j).isSome:=by
   have hm:=h (j,cs) (by simp);clear h
   induction b with
   |nil=>cases hm
   |cons y l ih=>
    obtain⟨i,ci⟩:=y
    by_cases e:i=j
    ·subst e;rw[aA,ah];rfl
    ·rw[aA,av _ _ e]
     rcases List.mem_cons.1 hm with h|h
     ·cases h;exact absurd rfl e
     ·exact ih h
  cases hl:am (aA b) j with
  |none=>rw[hl]at hj;cases hj
  |some x=>exact sc b r (fun x hx=>h x (List.mem_cons_of_mem _ hx))
theorem Al {s:AS}:∀{b:BL},ux s (aA b)-> ∀j,am (aA b++s.b) j=am s.b j
 | [],_,_=>rfl
 |(i,cs)::r,h,j=>by
  have h1:s.bx i=some cs:=h.1;have h2:ux s (aA r):=h.2
  by_cases e:i=j
  ·subst e
   rw[aA,List.cons_append,ah];unfold AS.bx at h1
   split at h1
   ·rename_i x hx;cases h1;exact hx.symm
   ·cases h1
  ·rw[aA,List.cons_append,av _ _ e];exact Al h2 j
theorem gr {f:Operand} {fid:FuncId} {args:Array Operand} {tys:Array TypeId} {ts:List TV} {b:BL} {r:RT} (hc:bA P fid ts b r b) (h1:gd ops s o=some true) (ho:o.op= .call ⟨.value f,args,tys⟩) (hcl:xE s f args.toList=some (fid,ts)) (hone:u3 s f=true)
 (hk:(Fj (aA b) (ts.flatMap eE) && uG (aA b) (aA b))=true) (hb:ux s (aA b)) (hcn:dV [] s.b=true) (hnew:oL s b b=true) (h3:aH n o.dst=true) (h4:eS draw ops (aw ops o ⟨r.tv,none⟩ (b.map (·.1))) k fps=true)
 (h:ak P T n ops id draw K (k+1) os (s.eff o.dst ⟨r.tv,none⟩) (aw ops o ⟨r.tv,none⟩ (b.map (·.1))::fps)):ak P T n ops id draw K k (o::os) s fps:=by
 refine .run h1 (.genC (jj hcn) fun s2 hc2 ht hrb=>?_) h3 h4 h;have hf:s2.ev f=s.ev f:=an ht (by rw[ho];simp[Op.operands,Call.operands]);have hcl2:=uj (s':=s2) (s:=s) (f:=f) (args:=args.toList) hf (fun x hx=>an ht (by rw[ho];simp[Op.operands,Call.operands];exact .inr (by simpa using hx)));have hone2:u3 s2 f=true:=by unfold u3 at hone ⊢;rw[hf];exact hone
 have hb2:=l8 hrb hb;have:=p9 hc ho (hcl2.trans hcl) hone2 hk hb2 (fun j cs hj _=>hc2 j cs hj) ((jJ hrb).trans hnew);intro n S0 w0 g a w K Q hM hd hK;refine this n S0 w0 g a w K Q hM hd fun g' a' w' hM'=>hK g' a' w' (hM'.ext (fun k=>?_) (fun j=>?_))
 ·cases o.dst<;>rfl
 ·rw[sc b b (fun _ h=>h),List.append_nil]
  exact(Al hb2 j).symm
end
def Bx (ts:List Tk) (b a e:Int):List AV:=[.sl ts.length (iW ts), .val (.int .i64 b), .val (.int .i64 a), .val (.int .i64 e)]
theorem kg {ts ts':List Tk} {a e a' e' b b':Int}:eK [(900,Bx ts b a e)] [(900,Bx ts' b' a' e')]:=eK.one (Nat.le_refl 4)
theorem eF (t:Tk) (r:List Tk) (b a e:Int):bA Tryz.prog 167 [.box 900 0] [(900,Bx (t::r) b a e)] (.v (.one (.agg (Nx t)))) [(900,Bx (t::r) b a e)]:=by
 refine bv ac fH func167 rfl rfl rfl rfl rfl (kg) ?_;refine jT ?_
 refine bB (i:=0) (cs':=Nx t) (Nat.zero_lt_succ _) (fun j a h=>by
  rw[Nat.zero_mul,Nat.zero_add];show(Nx t++iW r)[j]? =some a;rw[List.getElem?_append_left (List.getElem?_eq_some_iff.1 h).1];exact h) (Nat.zero_lt_succ 2) rfl rfl rfl rfl rfl rfl rfl rfl ?_
 exact jb
theorem IG (c:UInt8) (p:Nat) (r:List Tk) (b a:Int):bA Tryz.prog 239 [.box 900 0, .d (dL [c])] [(900,Bx ((4,[c],p)::r) b a 0)] (.v (.one (dB true))) [(900,Bx r b a 0)]:=by
 refine bv ac fH func239 rfl rfl rfl rfl rfl (kg) ?_;refine kW ?_;refine kZ (eF (4,[c],p) r b a 0) ?_;refine kD (eF (4,[c],p) r b a 0) ?_
 refine kO2 ?_
 refine aC rfl rfl rfl rfl rfl rfl rfl (fD (a:=[c]) rfl) ?_;refine kG ?_
 refine kO5 ?_
 refine zU (m:=((4,[c],p)::r).length) (i:=1) (q:=3) ac (by rw[oN];exact Nat.le_refl _) (by simp) rfl rfl rfl rfl rfl rfl rfl rfl ?_;exact jb
theorem iz (c:UInt8) (t:Tk) (r:List Tk) (b a:Int) (hs:ot c (t::r)=none):bA Tryz.prog 239 [.box 900 0, .d (dL [c])] [(900,Bx (t::r) b a 0)] (.v (.one (dB false))) [(900,Bx (t::r) b a 0)]:=by
 obtain⟨k,x,p⟩:=t
 have hs:¬(k=4/\x=[c]):=by
  intro h
  simp[ot,h]at hs
 refine bv ac fH func239 rfl rfl rfl rfl rfl (kg) ?_;refine kW ?_;refine kD (eF (k,x,p) r b a 0) ?_;refine kO ?_
 by_cases h4:k=4
 ·refine kB false ?_ ?_
  ·exact(by simp[h4])
  refine kO2 ?_
  refine kO ?_;refine kD (eF (k,x,p) r b a 0) ?_
  refine kO2 ?_
  refine aC rfl rfl rfl rfl rfl rfl rfl (gA (a:=x) (b:=[c]) (fun e=>hs ⟨h4,e⟩)) ?_;exact jb
 ·refine JC ?_
  exact jb
theorem pO:Wd []:=fun x hx=>by cases hx
section
variable {P:Program} {T:TypeId->Option Ty} {n:Nat} {ops:Array Oper} {id:Nat} {draw:Bool} {K:AS->Prop} {s:AS} {k:Nat} {o:Oper} {os:List Oper} {fps:List FP}
end
theorem Pl {S S':Nat->Prop} {g g':Nat->Nat} {s s':AS} {w:World} (hS:S=S'):∀{ds:List DV} {vs:List Value},pS S g s w (ds.map .d) vs->pS S' g' s' w (ds.map .d) vs
 | [],[],_=>trivial
 |d::ds,v::vs,h=>⟨by subst hS;exact h.1,Pl hS h.2⟩
 | [],_::_,h=>h.elim
 |_::_,[],h=>h.elim
theorem bA.ren {P:Program} {f:FuncId} {j:Nat} {ds:List DV} {cs cs':List AV} {r:RV} (h:bA P f (.box j 0::ds.map .d) [(j,cs)] (.v r) [(j,cs')]) (j':Nat) (hw:bQ j'=bQ j) (hl:cT j=false) (hl':cT j'=false):bA P f (.box j' 0::ds.map .d) [(j',cs)] (.v r) [(j',cs')]:=by
 have ht:jg j'=false:=by
  cases e:jg j' with
  |false=>rfl
  |true=>rw[oF e]at hl';cases hl'
 have ht0:jg j=false:=by
  cases e:jg j with
  |false=>rfl
  |true=>rw[oF e]at hl;cases hl
 refine⟨h.enter,fun S g w vs hpre hv=>?_⟩;have hg:(fun i=>if i=j then g j' else g i) j=g j':=if_pos rfl;generalize hg1:(fun i=>if i=j then g j' else g i)=g1 at hg;have hO:Own S g1 (sB [(j,cs)])=Own S g (sB [(j',cs)]):=by rw[rI,rI,hg]
 have hX:BX g1 [(j,cs)]=BX g [(j',cs)]:=by rw[pL,pL,hg]
 have hpre1:GJ S g1 w [(j,cs)]:=by
  refine⟨?_,?_,?_,?_,?_⟩
  ·rw[hX];exact hpre.tab
  ·rw[hX];exact hpre.blk
  ·rw[hO];exact hpre.gl
  ·intro i ci hi
   obtain⟨rfl,rfl⟩:=bK.1 hi;obtain⟨arr,e,h1,h2,h3,_,_⟩:=hpre.bm j' ci (bK.2 ⟨rfl,rfl⟩);rw[hO,hg];exact⟨arr,e,h1,h2,by rw[<- hw];exact h3,fun h=>(by rw[hl]at h;cases h),fun h=>(by rw[ht0]at h;cases h)⟩
  ·intro i i2 ci cj h1 h2 _
   rw[(bK.1 h1).1,(bK.1 h2).1]
 have hv1:pS (Own S g1 (sB [(j,cs)])) g1 (sB [(j,cs)]) w (.box j 0::ds.map .d) vs:=by
  cases vs with
  |nil=>exact hv.elim
  |cons v vs=>
   obtain⟨hb,hv⟩:=hv;refine⟨⟨⟨some cs,by rw[sB,aA,ah]⟩,fun ci hi=>?_⟩,Pl hO.symm hv⟩;rw[hg];exact hb.2 cs (bK.2 ⟨rfl,rfl⟩)
 refine(h.calls S g1 w vs hpre1 hv1).mono ?_;rintro e w' ⟨v,g',rfl,h1,h2,h3,h4,h5⟩;have hg2:(fun i=>if i=j' then g' j else g' i) j'=g' j:=if_pos rfl;generalize(fun i=>if i=j' then g' j else g' i)=g2 at hg2;have hO2:Own S g2 (sB [(j',cs')])=Own S g' (sB [(j,cs')]):=by rw[rI,rI,hg2]
 refine⟨v,g2,rfl,?_,?_,?_,?_,?_⟩
 ·intro i ci ci' hi hi'
  obtain⟨rfl,rfl⟩:=bK.1 hi;obtain⟨_,rfl⟩:=bK.1 hi';have:=h1 j ci ci' (bK.2 ⟨rfl,rfl⟩) (bK.2 ⟨rfl,rfl⟩);rw[hg2,this.1,hg];exact⟨rfl,this.2⟩
 ·intro i ci hi
  obtain⟨rfl,rfl⟩:=bK.1 hi;obtain⟨k1,arr,e,k2,k3,k4,_,_⟩:=h2 j ci (bK.2 ⟨rfl,rfl⟩);rw[hX]at k1;rw[hg2,hO2];exact⟨k1,arr,e,k2,k3,by rw[hw];exact k4,fun h=>(by rw[hl']at h;cases h),fun h=>(by rw[ht]at h;cases h)⟩
 ·intro i i2 ci cj k1 k2 _
  rw[(bK.1 k1).1,(bK.1 k2).1]
 ·rw[hO2]
  cases r with
  |one d=>exact h4
  |tup l=>exact h4
 ·rw[<- hX];exact h5
theorem Cw:∀(x:Rx),j0 x->gL x<=1000000->aa Tryz.prog 113 [dR x] (.one (dN .i64 (AP x))):=by
 refine dq fun op na xs nb ys nm args ih hx hs=>?_
 have hd0:=JH (.mk op na xs nb ys nm args);obtain⟨_,_,_,_,_,hlen,hargs⟩:=hx;rw[gL]at hs;rw[AP,gL]at hd0;refine CK ?_;refine kV func113 ?_
 refine aq (Nat × Nat) (fun s=>s.1<=args.length/\s.2<=me args/\max s.2 (me (args.drop s.1))=me args) (fun s=>⟨[(2, .d (dN .i64 0)),(3, .d (dN .i64 s.2)),(7, .d (.leaf (.sl args.length (db args)))),(8, .d (dN .i64 args.length)),(9, .d (dN .i64 s.1))],[]⟩) (fun s=>args.length-s.1) (0,0) ⟨Nat.zero_le _,Nat.zero_le _,Nat.zero_max _⟩
  kw ?_
 rintro⟨i,d⟩ ⟨hi,h1,h2⟩;dsimp only at hi h1 h2 ⊢;refine kI ?_
 by_cases hlt:i<args.length
 ·refine kT ?_
  obtain⟨o1,na1,xs1,nb1,ys1,nm1,n1,cs1,hA⟩:=bz args[i];have hx:args[i]? =some args[i]:=by simp[hlt]
  have hat:∀(j:Nat) (a:AV),(ab o1 na1 xs1 nb1 ys1 nm1 n1 cs1)[j]? =some a->(db args)[i*7+j]? =some a:=fun j a h=>fq args i args[i] hx j a (by rw[hA];exact h)
  have hm:=List.getElem_mem hlt;have hsz:=jB hm;have hdp:=yw hm;have c:=ih args[i] hm (hargs _ hm) (by omega);rw[show dR args[i]= .agg (ab o1 na1 xs1 nb1 ys1 nm1 n1 cs1) from congrArg DV.agg hA]at c;rw[List.drop_eq_getElem_cons hlt,me]at h2;generalize AP args[i]=k at *;refine mw ?_;refine NQ (a:=d) (b:=k) (m:=(max d k:Nat)) (by omega) rfl rfl rfl rfl rfl rfl ?_;refine kW ?_;exact⟨(i+1,max d k),⟨hlt,by dsimp only;omega,by dsimp only;omega⟩,by dsimp only;omega,weak ⟨rfl,rfl,rfl,rfl,ae (by omega) (by omega),trivial⟩ trivial rfl⟩
 ·exact Nn
theorem bA.ren0 {P:Program} {f:FuncId} {j:Nat} {cs cs':List AV} {r:RV} (h:bA P f [.box j 0] [(j,cs)] (.v r) [(j,cs')]) (j':Nat) (hw:bQ j'=bQ j) (hl:cT j=false) (hl':cT j'=false):bA P f [.box j' 0] [(j',cs)] (.v r) [(j',cs')]:=bA.ren (ds:=[]) h j' hw hl hl'
theorem bA.ren1 {P:Program} {f:FuncId} {j:Nat} {d:DV} {cs cs':List AV} {r:RV} (h:bA P f [.box j 0, .d d] [(j,cs)] (.v r) [(j,cs')]) (j':Nat) (hw:bQ j'=bQ j) (hl:cT j=false) (hl':cT j'=false):bA P f [.box j' 0, .d d] [(j',cs)] (.v r) [(j',cs')]:=bA.ren (ds:=[d]) h j' hw hl hl'
def uy:Ex->Prop
 | .num v u=>(ja v).isSome=true/\cZ 510 v/\(u=[]∨n6 u=true)
 | .nam s=>n6 s=true
 | .neg a=>uy a
 | .bin _ a b=>uy a/\uy b
section
variable {P:Program} {T:TypeId->Option Ty} {n:Nat} {ops:Array Oper} {id:Nat} {draw:Bool} {K:AS->Prop} {s:AS} {k:Nat} {o:Oper} {os:List Oper} {fps:List FP}
end
section
variable {P:Program} {T:TypeId->Option Ty} {n:Nat} {ops:Array Oper} {id:Nat} {draw:Bool} {K:AS->Prop} {s:AS} {k:Nat} {o:Oper} {os:List Oper} {fps:List FP}
end
section
open Go.Shelf Go.RowKit
section
variable {C:List TV->BL->RT->BL->Prop} (hs:∀{ts:List TV} {l:BL} {r:RT} {l':BL} (a b:Nat),wg a b=true->C ts l r l'->C (ts.map (Rs a b)) (r8 a b l) (Tx a b r) (r8 a b l'))
include hs
end
end
section
variable {P:Program} {T:TypeId->Option Ty} {n:Nat} {ops:Array Oper} {id:Nat} {draw:Bool} {K:AS->Prop} {s:AS} {k:Nat} {o:Oper} {os:List Oper} {fps:List FP}
theorem fP {t e:TypeId} {x y:Operand} {m i:Nat} {ik:IntKind} {cs:List AV} (hu:P.underlying t=some (.array m e)) (hs:(P.info? e).map (·.size)=some 1) (hi:i<m) (h1:gd ops s o=some true) (ho:o.op= .indexAddr t x y) (hx:s.ev x= .rp cs) (hy:s.ev y= .d (.leaf (.val (.int ik (i:Nat)))))
 (h3:aH n o.dst=true) (h4:eS draw ops (aw ops o ⟨.rp (cs.drop i),none⟩ []) k fps=true) (h:ak P T n ops id draw K (k+1) os (s.eff o.dst ⟨.rp (cs.drop i),none⟩) (aw ops o ⟨.rp (cs.drop i),none⟩ []::fps)):ak P T n ops id draw K k (o::os) s fps:=
 .run h1 (.gen fun s2 ht _=>ai (tv:= .rp (cs.drop i)) fun n S0 w0 g a w hM=>by
  have hx2:=(an ht (x:=x) (by simp[ho,Op.operands])).trans hx;have hy2:=(an ht (x:=y) (by simp[ho,Op.operands])).trans hy;have h:=hM.ev x;rw[hx2]at h;obtain⟨b,off,f,e1,h1,h2,h3,h4⟩:=h;refine⟨.pointer (some ⟨b,off+i,none⟩),w,?_,Below.refl _ _,b,off+i,fun q=>f (i+q),rfl,h1,h2,fun q c hq=>?_,fun q c hq=>?_⟩
  ·unfold execOp
   rw[ho]
   simp only[e1,bc hM hy2,Instr.indexAt,Instr.sureAddr,asIntOf,Sem.run_bind,Sem.run_pure,run_underlying hu w,Result.andThen_ok]
   have e2:(0:Int)<=i/\(i:Int)<m:=by omega
   simp only[e2,and_self,if_true,Sem.run_bind,bI hs w,Result.andThen_ok,Sem.run_pure,cH,Int.toNat_natCast,Nat.mul_one]
  ·rw[Nat.add_assoc];exact h3 (i+q) c (by simpa using hq)
  ·exact h4 (i+q) c (by simpa using hq)) h3 h4 h
end
theorem xY {fid:FuncId} {p:Rx->Bool} (args:List Rx) (hp:∀x∈args,aa Tryz.prog fid [dR x] (.one (dB (p x)))) (hl:args.length<=1000000):aa Tryz.prog 243 [.leaf (.sl args.length (db args)),dF fid] (.one (dN .i64 (if args.findIdx p<args.length then((args.findIdx p:Nat):Int)else -1))):=by
 have hf:=List.findIdx_le_length (p:=p) (xs:=args)
 have hn:∀(i:Nat) (hi:i<args.length),i<args.findIdx p->p args[i]=false:=fun i hi h=>by
  exact EH
 have hy:∀(h:args.findIdx p<args.length),p (args[args.findIdx p])=true:=fun h=>List.findIdx_getElem
 generalize args.findIdx p=f at *;refine kV func243 ?_
 refine aq Nat (fun i=>i<=f) (fun i=>⟨[(0, .d (.leaf (.sl args.length (db args)))),(1, .d (dF fid)),(4, .d (dN .i64 0)),(7, .d (dN .i64 args.length)),(8, .d (dN .i64 i))],[]⟩) (fun i=>args.length-i) 0 (Nat.zero_le _)
  kw ?_
 intro i hi;refine kI ?_
 by_cases hlt:i<args.length
 ·refine kT ?_
  obtain⟨o1,na1,xs1,nb1,ys1,nm1,n1,cs1,hA⟩:=bz args[i];have hx:args[i]? =some args[i]:=by simp[hlt]
  have hat:∀(j:Nat) (a:AV),(ab o1 na1 xs1 nb1 ys1 nm1 n1 cs1)[j]? =some a->(db args)[i*7+j]? =some a:=fun j a h=>fq args i args[i] hx j a (by rw[hA];exact h)
  have c:=hp args[i] (List.getElem_mem hlt);rw[show dR args[i]= .agg (ab o1 na1 xs1 nb1 ys1 nm1 n1 cs1) from congrArg DV.agg hA]at c;refine M7 ?_;refine kO ?_;cases hb:p args[i]
  ·rw[hb]at c
   refine kQ (c) ?_;refine⟨i+1,?_,by omega,weak ⟨rfl,rfl,rfl,rfl,ae (by omega) (by omega),trivial⟩ trivial rfl⟩
   by_cases e:i=f
   ·subst e;have:=hy hlt;rw[hb]at this;cases this
   ·omega
  ·rw[hb]at c
   have e:i=f:=by
    by_cases e:i<f
    ·have:=hn i hlt e;rw[hb]at this;cases this
    ·omega
   subst e;rw[if_pos hlt];refine kC (c) ?_;exact ax
 ·rw[if_neg (by omega)]
  refine kE ?_;exact ax
theorem qT {fid:FuncId} {p:Rx->Bool} (args:List Rx) (hp:∀x∈args,aa Tryz.prog fid [dR x] (.one (dB (p x)))) (hl:args.length<=1000000) {b:Bool} (hb:args.any p=b):aa Tryz.prog 176 [.leaf (.sl args.length (db args)),dF fid] (.one (dB b)):=by
 have c:=xY args hp hl
 have hlt:(args.findIdx p<args.length)↔args.any p=true:=by
  rw[List.any_eq_true];exact List.findIdx_lt_length
 cases b with
 |true=>
  rw[if_pos (hlt.2 hb)]at c;refine kV func176 ?_;refine kC (c) ?_;refine kT ?_;exact ax
 |false=>
  rw[if_neg (fun h=>by rw[hlt.1 h]at hb;cases hb)]at c;refine kU func176 ?_;exact vl
theorem ye {x:Rx} {b:Bool} (h:aa Tryz.prog 112 [dR x] (.one (dB b))):aa Tryz.prog 177 [dR x] (.one (dB (!b))):=by
 obtain⟨o1,na1,xs1,nb1,ys1,nm1,n1,cs1,hA⟩:=bz x;rw[show dR x= .agg (ab o1 na1 xs1 nb1 ys1 nm1 n1 cs1) from congrArg DV.agg hA]at h ⊢;cases b
 all_goals
  refine kV func177 ?_;refine kC (h) ?_;exact kF
theorem qB {na nb:Bool} {xs ys:List Nat} (hl:xs.length<=2147483648) (hl':ys.length<=2147483648):aa Tryz.prog 47 [GL na xs nb ys,GL na xs nb ys] (.one (dB true)):=by
 have c1:aa Tryz.prog 97 [dI na xs,dI na xs] (.one (dB true)):=eZ hl (ll rfl);have c2:aa Tryz.prog 97 [dI nb ys,dI nb ys] (.one (dB true)):=eZ hl' (ll rfl);refine kU func47 ?_;refine iY ?_;refine kC (c2) ?_;exact ax
inductive K0:Rx->Prop
 |mk {op:Int} {na:Bool} {xs:List Nat} {nb:Bool} {ys:List Nat} {nm:List UInt8} {args:List Rx}:xs.length<=2147483648->ys.length<=2147483648->args.length<=1000000->(∀x∈args,K0 x)->K0 (.mk op na xs nb ys nm args)
theorem u7:∀(x:Rx),K0 x->aa Tryz.prog 53 [dR x,dR x] (.one (dB true)):=by
 refine dq fun op na xs nb ys nm args ih hx=>?_
 obtain⟨h1,h2,h3,h4⟩:=hx;have cs:=qB (na:=na) (nb:=nb) h1 h2;show aa Tryz.prog _ [.agg (ab op na xs nb ys nm args.length (db args)), .agg (ab op na xs nb ys nm args.length (db args))] _;refine kU func53 ?_;refine jT ?_;refine kB false ?_ ?_
 ·exact(by simp)
 refine kO5 ?_
 refine aC rfl rfl rfl rfl rfl rfl rfl (fD (a:=nm) (b:=nm) rfl) ?_
 iterate 8 refine kO ?_
 refine kB false ?_ ?_
 ·exact(by simp)
 iterate 6 refine kO ?_
 refine kQ (cs) ?_
 refine aq Nat (fun i=>i<=args.length) (fun i=>⟨[(2, .box 0 0),(3, .box 1 0),(4, .d (dB false)),(5, .d (dN .i64 i))],[(0,some (ab op na xs nb ys nm args.length (db args))),(1,some (ab op na xs nb ys nm args.length (db args)))]⟩) (fun i=>args.length-i) 0 (Nat.zero_le _)
  kw ?_
 intro i hi;refine kI ?_
 refine kO4 ?_
 by_cases hlt:i<args.length
 ·refine kT ?_
  obtain⟨o1,na1,xs1,nb1,ys1,nm1,n1,cs1,hA⟩:=bz args[i];have hx:args[i]? =some args[i]:=by simp[hlt]
  have hat:∀(j:Nat) (a:AV),(ab o1 na1 xs1 nb1 ys1 nm1 n1 cs1)[j]? =some a->(db args)[i*7+j]? =some a:=fun j a h=>fq args i args[i] hx j a (by rw[hA];exact h)
  have c:=ih args[i] (List.getElem_mem hlt) (h4 _ (List.getElem_mem hlt));rw[show dR args[i]= .agg (ab o1 na1 xs1 nb1 ys1 nm1 n1 cs1) from congrArg DV.agg hA]at c;refine M7 ?_;refine mw ?_;refine kW ?_;exact⟨i+1,hlt,by omega,weak ⟨rfl,rfl,rfl,ae (by omega) (by omega),trivial⟩ ⟨rfl,rfl,trivial⟩ rfl⟩
 ·refine kE ?_
  exact ax
theorem O6 (c:UInt8) (h:mM c) (h0:c≠48):QN false [c]:=⟨by simp,fun x hx=>by cases List.mem_singleton.1 hx;exact h, .inl fun x r hr=>by cases hr;exact h0⟩
theorem TO:fmt 2=[50]:=by
 unfold fmt;rw[if_neg (by decide),if_neg (by decide)];show []++nQ 2=_;rw[ff (by decide)];show []++(nQ 0++[dg 2])=_;rw[eY];rfl
theorem Up:ja ((2:Int):Rat)=some [50]:=by
 unfold ja;rw[if_neg (by decide),qp,if_pos (by rfl),show(pw ((2:Int):Rat) 0).num=2 from rfl,TO];rfl
theorem oQ (x:Rx) (hx:j0 x):aa Tryz.prog 32 [dR x] (.one (dB (decide (pY x 120<=120) && mE x))):=by
 have c1:=Kf x hx 120 (by decide);have c2:=Iv x hx;have hn:=pC x 120;obtain⟨o1,na1,xs1,nb1,ys1,nm1,n1,cs1,hA⟩:=bz x;rw[show dR x= .agg (ab o1 na1 xs1 nb1 ys1 nm1 n1 cs1) from congrArg DV.agg hA]at c1 c2 ⊢;generalize pY x 120=k at *
 by_cases hk:k<=120
 ·rw[decide_eq_true hk,Bool.true_and]
  refine kV func32 ?_;refine kC (c1) ?_;refine kX ?_;refine kC (c2) ?_;exact ax
 ·rw[decide_eq_false hk,Bool.false_and]
  refine kV func32 ?_;refine kC (c1) ?_;refine kE ?_;exact ax
inductive Bp:Rx->Prop
 |mk {op:Int} {na:Bool} {xs:List Nat} {nb:Bool} {ys:List Nat} {nm:List UInt8} {args:List Rx}:xs.length<=510->ys.length<=510->nm.length<=65536->(∀x∈args,Bp x)->Bp (.mk op na xs nb ys nm args)
theorem Bp.of_lt:∀x,mE x=true->Bp x:=by
 refine dq fun op na xs nb ys nm args ih hlt=>?_
 rw[mE,Bool.and_eq_true,Bool.and_eq_true,Bool.and_eq_true,decide_eq_true_eq,decide_eq_true_eq,decide_eq_true_eq]at hlt;obtain⟨hla,⟨l1,l2⟩,l3⟩:=hlt;exact .mk (by omega) (by omega) (by omega) fun y hy=>ih y hy (s7 hla y hy)
theorem pa {na nb:Bool} {xs ys:List Nat} {q:Rat} (e:Eh na xs nb ys=aQ q) (e1:xs=digs q.num.natAbs) (e2:ys=digs (q.den:Int).natAbs) (hv:gh na xs nb ys=true):nt na xs nb ys=ja q:=by
 have e3:na=decide (q.num<0):=by
  have:=congrArg (fun l:List AV=>l[0]?) e;exact EE
 have e4:nb=decide ((q.den:Int)<0):=by
  have:=congrArg (fun l:List AV=>l[2]?) e;exact EE
 unfold nt;rw[if_pos hv]
 congr 1
 have t1:ar na xs=q.num:=by
  rw[e1,e3,lg]
  by_cases h:q.num<0
  ·rw[decide_eq_true h,if_pos rfl];omega
  ·rw[decide_eq_false h,if_neg (by decide)];omega
 have t2:ar nb ys=q.den:=by
  rw[e2,e4,lg,decide_eq_false (by omega),if_neg (by decide)];omega
 rw[t1,t2,Rat.num_divInt_den]
theorem y7 {na nb:Bool} {xs ys:List Nat} (hw:Wd xs) (hw':Wd ys) (h1:xs.length<=510) (h2:ys.length<=510):
 ∃t,aa Tryz.prog 244 [GL na xs nb ys] (.tup [dL t,dB (nt na xs nb ys).isSome])/\ ∀u,nt na xs nb ys=some u->t=u:=by
 cases hv:gh na xs nb ys with
 |false=>
  have hd:nt na xs nb ys=none:=if_neg (by rw[hv];decide);rw[hd];refine⟨[],?_,fun u h=>by cases h⟩;refine kV func244 ?_;refine aj (nE hw hw' (Nat.le_trans h1 (by decide)) (Nat.le_trans h2 (by decide)) hv) rfl rfl rfl rfl rfl rfl rfl ?_;exact ax
 |true=>
  obtain⟨q,e,e1,e2⟩:=pk hw hw' hv;have sq:cZ 510 q:=⟨Sz.of_digs (by rw[<- e1];exact h1),Sz.of_digs (by rw[<- e2];exact h2)⟩;rw[pa e e1 e2 hv,show GL na xs nb ys=dQ q from congrArg DV.agg e];exact qj sq (by decide)
theorem Gw {na nb:Bool} {xs ys:List Nat} (hw:Wd xs) (hw':Wd ys) (h1:xs.length<=510) (h2:ys.length<=510):
 ∃t,aa Tryz.prog 174 [GL na xs nb ys] (.tup [dL t,dB (nt na xs nb ys).isSome])/\ ∀u,nt na xs nb ys=some u->t=u:=by
 cases hv:gh na xs nb ys with
 |false=>
  have hd:nt na xs nb ys=none:=if_neg (by rw[hv];decide);rw[hd];refine⟨[],?_,fun u h=>by cases h⟩;refine kV func174 ?_;refine aj (qr hw hw' (Nat.le_trans h1 (by decide)) (Nat.le_trans h2 (by decide)) hv) rfl rfl rfl rfl rfl rfl rfl ?_;exact ax
 |true=>
  obtain⟨q,e,e1,e2⟩:=pk hw hw' hv;have sq:cZ 510 q:=⟨Sz.of_digs (by rw[<- e1];exact h1),Sz.of_digs (by rw[<- e2];exact h2)⟩;rw[pa e e1 e2 hv,show GL na xs nb ys=dQ q from congrArg DV.agg e];exact FX sq (by decide)
def pD (na:Bool) (xs:List Nat) (nb:Bool) (ys:List Nat):Bool:=!na && (!nb && (decide (xs.length=0) && decide (ys.length=0)))
theorem Dn {na nb:Bool} {xs ys:List Nat} (h:pD na xs nb ys=true):na=false/\nb=false/\xs=[]/\ys=[]:=by
 unfold pD at h
 simp only[Bool.and_eq_true,Bool.not_eq_true',decide_eq_true_eq]at h
 exact⟨h.1,h.2.1,List.eq_nil_of_length_eq_zero h.2.2.1,List.eq_nil_of_length_eq_zero h.2.2.2⟩
def rc (op:Int) (d p m:Bool) (nm:List UInt8) (n:Nat):Bool:=if op=1 then d && (decide (nm=[]) || m) && decide (n=0)else if op=2 then p && m && decide (n=0)else if op=3 then p && decide (nm=[]) && decide (n=1)
 else if op=4∨op=5∨op=6∨op=7 then p && decide (nm=[]) && decide (n=2)else false
theorem G6 {op:Int} {na:Bool} {xs:List Nat} {nb:Bool} {ys:List Nat} {nm:List UInt8} {args:List Rx} {t:List UInt8} {d m:Bool} (hdec:aa Tryz.prog 244 [GL na xs nb ys] (.tup [dL t,dB d])) (hm:aa Tryz.prog 61 [dL nm] (.one (dB m))):
 aa Tryz.prog 180 [dR (.mk op na xs nb ys nm args)] (.one (dB (rc op d (pD na xs nb ys) m nm args.length))):=by
 obtain⟨b,hbb⟩:∃b,rc op d (pD na xs nb ys) m nm args.length=b:=⟨_,rfl⟩;have b1:op=1->b=(d && (decide (nm=[]) || m) && decide (args.length=0)):=fun h=>by rw[<- hbb,rc,if_pos h]
 have b2:op=2->b=(pD na xs nb ys && m && decide (args.length=0)):=fun h=>by rw[<- hbb,rc,if_neg (by omega),if_pos h]
 have b3:op=3->b=(pD na xs nb ys && decide (nm=[]) && decide (args.length=1)):=fun h=>by rw[<- hbb,rc,if_neg (by omega),if_neg (by omega),if_pos h]
 have b4:op=4∨op=5∨op=6∨op=7->b=(pD na xs nb ys && decide (nm=[]) && decide (args.length=2)):=fun h=>by rw[<- hbb,rc,if_neg (by omega),if_neg (by omega),if_neg (by omega),if_pos h]
 have b0:op≠1->op≠2->op≠3->op≠4->op≠5->op≠6->op≠7->b=false:=fun h1 h2 h3 h4 h5 h6 h7=>by rw[<- hbb,rc,if_neg h1,if_neg h2,if_neg h3,if_neg (by omega)]
 rw[hbb];clear hbb;show aa Tryz.prog _ [.agg (ab op na xs nb ys nm args.length (db args))] _;generalize hp:pD na xs nb ys=p at *;refine kU func180 ?_;refine kR ?_;refine j3 ⟨[(1, .box 0 0),(3, .d (dB p))],[(0,some (ab op na xs nb ys nm args.length (db args)))]⟩ (fun s' hw2=>?_) (fun R hR _=>?_)
 ·refine bW hw2 rfl ?_
  by_cases o1:op=1
  ·have hb:=b1 o1
   clear b1 b2 b3 b4 b0;subst o1;refine kW ?_;refine kC (hdec) ?_;cases d
   ·exact qb
   ·refine kG ?_
    refine kO4 ?_
    by_cases hnm:nm=[]
    ·refine aC rfl rfl rfl rfl rfl rfl rfl (bn (a:=nm) (b:=[]) hnm) ?_
     iterate 10 refine kO ?_
     by_cases hl:args.length=0
     ·exact AW
     ·exact Ka
    ·refine Q0 ?_
     refine kO3 ?_
     refine kC (hm) ?_;cases m
     ·exact N9
     ·iterate 6 refine kO ?_
      exact NG
  by_cases o2:op=2
  ·have hb:=b2 o2
   clear b1 b2 b3 b4 b0;subst o2;cases p
   ·exact qb
   ·refine kW ?_
    refine kC (hm) ?_;cases m
    ·exact qb
    ·refine kO5 ?_
     exact NG
  by_cases o3:op=3
  ·have hb:=b3 o3
   clear b1 b2 b3 b4 b0;subst o3;cases p
   ·exact qb
   ·iterate 4 refine kG ?_
    refine kO4 ?_
    by_cases hnm:nm=[]
    ·refine R6 ?_
     by_cases hl:args.length=1
     ·exact AW
     ·exact Ka
    ·refine Q0 ?_
     exact N9
  by_cases o4:op=4
  ·have hb:=b4 (by omega)
   clear b1 b2 b3 b4 b0;subst o4;cases p
   ·exact qb
   ·iterate 5 refine kG ?_
    exact Ee
  by_cases o5:op=5
  ·have hb:=b4 (by omega)
   clear b1 b2 b3 b4 b0;subst o5;cases p
   ·exact qb
   ·iterate 6 refine kG ?_
    exact Ee
  by_cases o6:op=6
  ·have hb:=b4 (by omega)
   clear b1 b2 b3 b4 b0;subst o6;cases p
   ·exact qb
   ·iterate 7 refine kG ?_
    exact Ee
  by_cases o7:op=7
  ·have hb:=b4 (by omega)
   clear b1 b2 b3 b4 b0;subst o7;cases p
   ·exact qb
   ·iterate 8 refine kG ?_
    exact Ee
  obtain rfl:b=false:=b0 o1 o2 o3 o4 o5 o6 o7;refine kG ?_;refine kB false ?_ ?_
  ·exact decide_eq_false o1
  refine kG ?_;refine kB false ?_ ?_
  ·exact decide_eq_false o2
  refine kG ?_;refine kB false ?_ ?_
  ·exact decide_eq_false o3
  refine kG ?_;refine kB false ?_ ?_
  ·exact decide_eq_false o4
  refine kG ?_;refine kB false ?_ ?_
  ·exact decide_eq_false o5
  refine kG ?_;refine kB false ?_ ?_
  ·exact decide_eq_false o6
  refine kG ?_;refine kB false ?_ ?_
  ·exact decide_eq_false o7
  exact ax
 ·clear b1 b2 b3 b4 b0
  subst hp;cases na
  ·cases nb
   ·refine kG ?_
    iterate 18 refine kO ?_
    by_cases l1:xs.length=0
    ·refine kT ?_
     iterate 7 refine kO ?_
     by_cases l2:ys.length=0
     ·refine kT ?_
      refine kW ?_;rw[show pD false xs false ys=true by unfold pD;rw[decide_eq_true l1,decide_eq_true l2];rfl]at hR;exact hR _ kw
     ·refine kE ?_
      refine kW ?_;rw[show pD false xs false ys=false by unfold pD;rw[decide_eq_true l1,decide_eq_false l2];rfl]at hR;exact hR _ kw
    ·refine kE ?_
     refine kW ?_;rw[show pD false xs false ys=false by unfold pD;rw[decide_eq_false l1];rfl]at hR;exact hR _ kw
   ·refine kW ?_
    exact hR _ kw
  ·refine kW ?_
   exact hR _ kw
mutual
def tf:Rx->Bool
 | .mk op na xs nb ys nm args=>rc op (nt na xs nb ys).isSome (pD na xs nb ys) (n6 nm) nm args.length && mf args
def mf:List Rx->Bool
 | []=>true
 |y::r=>tf y && mf r
end
theorem ox:∀l:List Rx,mf l=l.all tf
 | []=>by simp[mf]
 |y::r=>by rw[mf,ox r,List.all_cons]
theorem vc:∀(x:Rx),j0 x->Bp x->aa Tryz.prog 117 [dR x] (.one (dB (tf x))):=by
 refine dq fun op na xs nb ys nm args ih hx hlt=>?_
 obtain⟨_,_,hw,hw',hnm,hlen,hargs⟩:=hx;obtain⟨l1,l2,l3,hla⟩:=hlt;obtain⟨t,hdec,_⟩:=y7 (na:=na) (nb:=nb) hw hw' l1 l2;have hm:=mr nm (by omega);have hsh:=G6 (op:=op) (args:=args) hdec hm;rw[tf,ox];generalize rc op (nt na xs nb ys).isSome (pD na xs nb ys) (n6 nm) nm args.length=s0 at *;have hsh:aa Tryz.prog 180 [.agg (ab op na xs nb ys nm args.length (db args))] (.one (dB s0)):=hsh;refine CK ?_;cases s0 with
 |false=>
  rw[Bool.false_and];refine kV func117 ?_;refine kC (hsh) ?_;exact ax
 |true=>
  rw[Bool.true_and];refine kV func117 ?_;refine kQ (hsh) ?_
  refine aq Nat (fun i=>i<=args.length/\ ∀(q:Nat) y,q<i->args[q]? =some y->tf y=true) (fun i=>⟨[(1, .box 0 0),(2, .d (dB false)),(3, .d (dN .i64 i))],[(0,some (ab op na xs nb ys nm args.length (db args)))]⟩) (fun i=>args.length-i) 0 ⟨Nat.zero_le _,fun q y h=>absurd h (Nat.not_lt_zero _)⟩
   kw ?_
  rintro i ⟨hi,hq⟩;refine kI ?_
  refine kO4 ?_
  by_cases hlt:i<args.length
  ·refine kT ?_
   obtain⟨o1,na1,xs1,nb1,ys1,nm1,n1,cs1,hA⟩:=bz args[i];have hx:args[i]? =some args[i]:=by simp[hlt]
   have hat:∀(j:Nat) (a:AV),(ab o1 na1 xs1 nb1 ys1 nm1 n1 cs1)[j]? =some a->(db args)[i*7+j]? =some a:=fun j a h=>fq args i args[i] hx j a (by rw[hA];exact h)
   have c:=ih args[i] (List.getElem_mem hlt) (hargs _ (List.getElem_mem hlt)) (hla _ (List.getElem_mem hlt));rw[show dR args[i]= .agg (ab o1 na1 xs1 nb1 ys1 nm1 n1 cs1) from congrArg DV.agg hA]at c;refine M7 ?_;refine kO ?_;cases hb:tf args[i]
   ·rw[hb]at c
    refine kQ (c) ?_
    rw[show args.all tf=false by
     cases h:args.all tf
     ·rfl
     ·rw[List.all_eq_true.1 h _ (List.getElem_mem hlt)]at hb;cases hb]
    exact cw (T:=TT) rfl rfl
   ·exact OI
  ·refine kE ?_
   refine kW ?_
   rw[show args.all tf=true by
    rw[List.all_eq_true];intro y hy;obtain⟨q,h⟩:=List.getElem?_of_mem hy;exact hq q y (by have:=(List.getElem?_eq_some_iff.1 h).1;omega) h]
   exact cw (T:=TT) rfl rfl
def qi (x:Rx):Int:=if tf x=true then(if AP x<=40 then 0 else 3)else 1
theorem nI (x:Rx) (hx:j0 x) (hl:Bp x) (hs:gL x<=1000000):aa Tryz.prog 62 [dR x] (.one (dN .i64 (qi x))):=by
 have c1:=vc x hx hl;have c2:=zR x hx hs;obtain⟨o1,na1,xs1,nb1,ys1,nm1,n1,cs1,hA⟩:=bz x;rw[show dR x= .agg (ab o1 na1 xs1 nb1 ys1 nm1 n1 cs1) from congrArg DV.agg hA]at c1 c2 ⊢;unfold qi;cases hb:tf x with
 |false=>
  rw[hb]at c1;rw[if_neg (by decide)];refine kU func62 ?_;exact tT
 |true=>
  rw[hb]at c1;rw[if_pos rfl]
  by_cases hd:AP x<=40
  ·rw[if_pos hd]
   refine kU func62 ?_;refine iY ?_;refine kC (c2) ?_;refine kE ?_;exact ax
  ·rw[if_neg hd]
   refine kU func62 ?_;refine iY ?_;refine kC (c2) ?_;refine kT ?_;exact ax
theorem x6:∀e,uy e->tf (rx e)=true
 | .num v u,h=>by
  obtain⟨h1,h2,h3⟩:=h;show(rc 1 (nt (decide (v.num<0)) (digs v.num.natAbs) (decide ((v.den:Int)<0)) (digs (v.den:Int).natAbs)).isSome _ (n6 u) u 0 && mf [])=true;rw[pa (q:=v) rfl rfl rfl (mZ v),h1,mf];rcases h3 with h|h<;>simp[rc,h]
 | .nam s,h=>by
  show(rc 2 _ (pD false [] false []) (n6 s) s 0 && mf [])=true;have h:n6 s=true:=h;rw[h,mf];rfl
 | .neg a,h=>by
  show(rc 3 (nt false [] false []).isSome (pD false [] false []) (n6 []) [] 1 && mf [rx a])=true;rw[mf,mf,x6 a h];rfl
 | .bin k a b,h=>by
  show(rc k.code (nt false [] false []).isSome (pD false [] false []) (n6 []) [] 2 && mf [rx a,rx b])=true;rw[mf,mf,mf,x6 a h.1,x6 b h.2];cases k<;>rfl
theorem PB:∀(x:Rx),j0 x->Bp x->tf x=true-> ∃e,x=rx e/\uy e:=by
 refine dq fun op na xs nb ys nm args ih hx hlt hf=>?_
 obtain⟨_,_,hw,hw',_,hlen,hargs⟩:=hx;obtain⟨l1,l2,l3,hla⟩:=hlt;rw[tf,ox,Bool.and_eq_true]at hf;obtain⟨hsh,hall⟩:=hf;have hall:∀y∈args,∃e,y=rx e/\uy e:=fun y hy=>ih y hy (hargs y hy) (hla y hy) (List.all_eq_true.1 hall y hy)
 unfold rc at hsh
 split at hsh
 ·rename_i ho
  subst ho
  simp only[Bool.and_eq_true,Bool.or_eq_true,decide_eq_true_eq]at hsh
  obtain⟨⟨h1,h2⟩,h3⟩:=hsh;obtain rfl:=List.eq_nil_of_length_eq_zero h3;cases hv:gh na xs nb ys with
  |false=>rw[nt,if_neg (by rw[hv];decide)]at h1;cases h1
  |true=>
   obtain⟨q,e,e1,e2⟩:=pk hw hw' hv;have sq:cZ 510 q:=⟨Sz.of_digs (by rw[<- e1];exact l1),Sz.of_digs (by rw[<- e2];exact l2)⟩;rw[pa e e1 e2 hv]at h1
   have e3:na=decide (q.num<0):=by
    have:=congrArg (fun l:List AV=>l[0]?) e;exact EE
   have e4:nb=decide ((q.den:Int)<0):=by
    have:=congrArg (fun l:List AV=>l[2]?) e;exact EE
   subst e3 e4 e1 e2;exact⟨.num q nm,rfl,h1,sq,h2⟩
 ·split at hsh
  ·rename_i ho
   subst ho
   simp only[Bool.and_eq_true,decide_eq_true_eq]at hsh
   obtain⟨⟨h1,h2⟩,h3⟩:=hsh;obtain rfl:=List.eq_nil_of_length_eq_zero h3;obtain⟨rfl,rfl,rfl,rfl⟩:=Dn h1;exact⟨.nam nm,rfl,h2⟩
  ·split at hsh
   ·rename_i ho
    subst ho
    simp only[Bool.and_eq_true,decide_eq_true_eq]at hsh
    obtain⟨⟨h1,rfl⟩,h3⟩:=hsh;obtain⟨rfl,rfl,rfl,rfl⟩:=Dn h1
    match args,h3,hall with
    | [a],_,hall=>
     obtain⟨ea,rfl,oa⟩:=hall a (by simp);exact⟨.neg ea,rfl,oa⟩
   ·split at hsh
    ·rename_i ho
     simp only[Bool.and_eq_true,decide_eq_true_eq]at hsh
     obtain⟨⟨h1,rfl⟩,h3⟩:=hsh;obtain⟨rfl,rfl,rfl,rfl⟩:=Dn h1
     match args,h3,hall with
     | [a,b],_,hall=>
      obtain⟨ea,rfl,oa⟩:=hall a (by simp);obtain⟨eb,rfl,ob⟩:=hall b (by simp);rcases ho with rfl|rfl|rfl|rfl
      ·exact⟨.bin .add ea eb,rfl,oa,ob⟩
      ·exact⟨.bin .sub ea eb,rfl,oa,ob⟩
      ·exact⟨.bin .mul ea eb,rfl,oa,ob⟩
      ·exact⟨.bin .div ea eb,rfl,oa,ob⟩
    ·cases hsh
section
open Go.ChangeShapes Go.WideShapes Go.ChangeAt Go.RowKit Go.Joins
theorem qk {H:Type} {enc:TypeId × Value->H} {W:World} {P:Program} {L:List TypeId} (hL:sD P L=true) {t:TypeId} (ht:t∈L) {fs:Array Field} (hu:P.underlying t=some (.struct fs)) {r:Reach} {b0:Nat} {v:Value} {d:DataW H} {p:List MemPlace} (hv:Value.okWide P W r b0 t v) (h:DataW.Trod enc P W 0 (fun _=>true) true t v d p):
 ∃n cs,DV.M (fun _=>False) W (.agg cs) v/\Sh P n t cs:=by
 obtain⟨cs,rfl,_⟩:=okWide_struct hu hv;obtain⟨n,xs,h1,h2⟩:=DF hL ht h;exact⟨n,xs,Qp h1,h2⟩
def R7:List TypeId:=[41,38,36,4,34,133,3,9,39]
theorem KF:sD Tryz.prog R7=true:=by kernel_rfl
set_option maxRecDepth 100000 in
theorem Gm {H:Type} {enc:TypeId × Value->H} {W:World} {r:Reach} {b0:Nat} {v:Value} {d:DataW H} {p:List MemPlace} (hv:Value.okWide Tryz.prog W r b0 41 v) (h:DataW.Trod enc Tryz.prog W 0 (fun _=>true) true 41 v d p):
 ∃x,DV.M (fun _=>False) W (dR x) v/\j0 x:=by
 obtain⟨n,cs,h1,h2⟩:=qk KF (by decide) underlying41 hv h;obtain⟨x,rfl,h3⟩:=E1 n cs h2;exact⟨x,h1,h3⟩
end
theorem jC:∀l:List Rx,l.length<=eB l
 | []=>Nat.zero_le _
 |y::r=>by
  have:=jC r;cases y
  simp only[eB,gL,List.length_cons]
  omega
theorem F6 {na nb:Bool} {xs ys:List Nat}:aa Tryz.prog 175 [GL na xs nb ys] (.one (dB (pD na xs nb ys))):=by
 show aa Tryz.prog _ [.agg (Eh na xs nb ys)] _
 by_cases h1:xs.length=0
 ·by_cases h2:ys.length=0
  ·have e:pD na xs nb ys=(!na && !nb):=by unfold pD;rw[decide_eq_true h1,decide_eq_true h2];simp
   rw[e];cases na<;>cases nb
   all_goals
    refine kU func175 ?_;refine kR ?_;refine kI ?_
    refine kO4 ?_
    refine kT ?_
    refine kO5 ?_
    refine kT ?_;exact kF
  ·have e:pD na xs nb ys=false:=by unfold pD;rw[decide_eq_false h2];simp
   rw[e];refine kU func175 ?_;refine jT ?_;refine kT ?_
   refine kO5 ?_
   refine kE ?_;exact ax
 ·have e:pD na xs nb ys=false:=by unfold pD;rw[decide_eq_false h1];simp
  rw[e];refine kU func175 ?_;refine jT ?_;refine kE ?_;exact ax
theorem La (args:List Rx):(args.any fun y=>!tf y)=!(args.all tf):=by
 rw[List.all_eq_not_any_not,Bool.not_not]
theorem xP:∀(x:Rx),j0 x->Bp x->gL x<=1000000->aa Tryz.prog 112 [dR x] (.one (dB (tf x))):=by
 refine dq fun op na xs nb ys nm args ih hx hlt hs=>?_
 obtain⟨_,_,hw,hw',hnm,hlen,hargs⟩:=hx;obtain⟨l1,l2,l3,hla⟩:=hlt;rw[gL]at hs;have hge:=jC args;obtain⟨t,hdec,_⟩:=Gw (na:=na) (nb:=nb) hw hw' l1 l2;have hm:=lq nm (by omega);have hno:=F6 (na:=na) (nb:=nb) (xs:=xs) (ys:=ys);have hcf:=qT (fid:=177) (p:=fun y=>!tf y) args (fun y hy=>ye (ih y hy (hargs y hy) (hla y hy) (by have:=jB hy;omega))) (by omega) (La args);rw[tf,ox];have hA0:args.length=0->args.all tf=true:=fun h=>by rw[List.eq_nil_of_length_eq_zero h];rfl
 refine CK ?_;generalize args.all tf=A at *;generalize args.length=L at *;generalize(nt na xs nb ys).isSome=d at *;generalize pD na xs nb ys=p at *;generalize n6 nm=m at *;have hdec:aa Tryz.prog 174 [.agg (Eh na xs nb ys)] (.tup [dL t,dB d]):=hdec;have hno:aa Tryz.prog 175 [.agg (Eh na xs nb ys)] (.one (dB p)):=hno
 by_cases o1:op=1
 ·subst o1
  by_cases hl:L=0
  ·rw[hA0 hl,Bool.and_true,rc,if_pos rfl,decide_eq_true hl,Bool.and_true]
   generalize hz:decide (nm=[])=z;refine uI ?_;refine fP (i:=1) underlying172 (by kernel_rfl) (by decide) rfl rfl rfl rfl rfl rfl ?_;refine kO ?_;refine kB false ?_ ?_
   ·exact(by simp;omega)
   refine kW ?_;refine kC (hdec) ?_;cases d
   ·exact ax
   ·refine kG ?_
    refine kO4 ?_
    cases z
    ·refine Rk ?_
     refine kO3 ?_
     refine kC (hm) ?_;cases m
     ·exact ax
     ·exact ax
    ·refine aC rfl rfl rfl rfl rfl rfl rfl (bn (a:=nm) (b:=[]) (of_decide_eq_true hz)) ?_
     exact ax
  ·rw[rc,if_pos rfl,decide_eq_false hl,Bool.and_false,Bool.false_and]
   refine uI ?_;refine fP (i:=1) underlying172 (by kernel_rfl) (by decide) rfl rfl rfl rfl rfl rfl ?_;exact sU
 by_cases o2:op=2
 ·subst o2
  by_cases hl:L=0
  ·rw[hA0 hl,Bool.and_true,rc,if_neg (by decide),if_pos rfl,decide_eq_true hl,Bool.and_true]
   refine uI ?_;refine fP (i:=2) underlying172 (by kernel_rfl) (by decide) rfl rfl rfl rfl rfl rfl ?_;refine SZ ?_;cases p
   ·exact ax
   ·refine kW ?_
    refine kC (hm) ?_;cases m
    ·exact ax
    ·exact ax
  ·rw[rc,if_neg (by decide),if_pos rfl,decide_eq_false hl,Bool.and_false,Bool.false_and]
   refine uI ?_;refine fP (i:=2) underlying172 (by kernel_rfl) (by decide) rfl rfl rfl rfl rfl rfl ?_;exact sU
 by_cases o3:op=3
 ·subst o3
  by_cases hl:L=1
  ·rw[rc,if_neg (by decide),if_neg (by decide),if_pos rfl,decide_eq_true hl,Bool.and_true]
   generalize hz:decide (nm=[])=z;refine uI ?_;refine fP (i:=3) underlying172 (by kernel_rfl) (by decide) rfl rfl rfl rfl rfl rfl ?_;exact zz
  ·rw[rc,if_neg (by decide),if_neg (by decide),if_pos rfl,decide_eq_false hl,Bool.and_false,Bool.false_and]
   refine uI ?_;refine fP (i:=3) underlying172 (by kernel_rfl) (by decide) rfl rfl rfl rfl rfl rfl ?_;exact sU
 by_cases o4:op=4
 ·subst o4
  by_cases hl:L=2
  ·refine Mr ?_
   generalize hz:decide (nm=[])=z;refine uI ?_;refine fP (i:=4) underlying172 (by kernel_rfl) (by decide) rfl rfl rfl rfl rfl rfl ?_;exact zz
  ·refine K7 ?_
   refine fP (i:=4) underlying172 (by kernel_rfl) (by decide) rfl rfl rfl rfl rfl rfl ?_;exact sU
 by_cases o5:op=5
 ·subst o5
  by_cases hl:L=2
  ·refine Mr ?_
   generalize hz:decide (nm=[])=z;refine uI ?_;refine fP (i:=5) underlying172 (by kernel_rfl) (by decide) rfl rfl rfl rfl rfl rfl ?_;exact zz
  ·refine K7 ?_
   refine fP (i:=5) underlying172 (by kernel_rfl) (by decide) rfl rfl rfl rfl rfl rfl ?_;exact sU
 by_cases o6:op=6
 ·subst o6
  by_cases hl:L=2
  ·refine Mr ?_
   generalize hz:decide (nm=[])=z;refine uI ?_;refine fP (i:=6) underlying172 (by kernel_rfl) (by decide) rfl rfl rfl rfl rfl rfl ?_;exact zz
  ·refine K7 ?_
   refine fP (i:=6) underlying172 (by kernel_rfl) (by decide) rfl rfl rfl rfl rfl rfl ?_;exact sU
 by_cases o7:op=7
 ·subst o7
  by_cases hl:L=2
  ·refine Mr ?_
   generalize hz:decide (nm=[])=z;refine uI ?_;refine fP (i:=7) underlying172 (by kernel_rfl) (by decide) rfl rfl rfl rfl rfl rfl ?_;exact zz
  ·refine K7 ?_
   refine fP (i:=7) underlying172 (by kernel_rfl) (by decide) rfl rfl rfl rfl rfl rfl ?_;exact sU
 rw[rc,if_neg o1,if_neg o2,if_neg o3,if_neg (by omega),Bool.false_and]
 by_cases hlo:op<1
 ·refine kU func112 ?_
  refine kq ?_;refine kB true ?_ ?_
  ·exact decide_eq_true hlo
  exact ax
 ·refine kU func112 ?_
  refine kq ?_;refine kB false ?_ ?_
  ·exact decide_eq_false hlo
  refine kO3 ?_
  refine kT ?_;exact ax
theorem qH (x:Rx) (hx:j0 x) (hl:Bp x) (hs:gL x<=1000000):aa Tryz.prog 59 [dR x] (.one (dN .i64 (qi x))):=by
 have c1:=xP x hx hl hs;have c2:=Cw x hx hs;obtain⟨o1,na1,xs1,nb1,ys1,nm1,n1,cs1,hA⟩:=bz x;rw[show dR x= .agg (ab o1 na1 xs1 nb1 ys1 nm1 n1 cs1) from congrArg DV.agg hA]at c1 c2 ⊢;unfold qi;cases hb:tf x with
 |false=>
  rw[hb]at c1;rw[if_neg (by decide)];refine kU func59 ?_;exact tT
 |true=>
  rw[hb]at c1;rw[if_pos rfl]
  by_cases hd:AP x<=40
  ·rw[if_pos hd]
   refine kU func59 ?_;refine iY ?_;refine kC (c2) ?_;refine kE ?_;exact ax
  ·rw[if_neg hd]
   refine kU func59 ?_;refine iY ?_;refine kC (c2) ?_;refine kT ?_;exact ax
end Go.Proofs.YtmkggcjajcdlcaaGreatDoor
