/- Parts of a proof: contracts of the functions that the laws reach. -/
import Derived.Test.YtmkggcjajcdlcaaGreatDoorQAh
import Derived.Deep.AppendLies
import Derived.Test.YtmkggcjajcdlcaaGreatDoorQZ1
import Derived.Test.YtmkggcjajcdlcaaGreatDoorQShelf
import Derived.Test.YtmkggcjajcdlcaaGreatDoorQZ2
import Derived.Test.YtmkggcjajcdlcaaGreatDoorQZ3
import Derived.Test.YtmkggcjajcdlcaaGreatDoorQIPrs
import Derived.Test.YtmkggcjajcdlcaaGreatDoorQAm
import Derived.Test.YtmkggcjajcdlcaaGreatDoorQLaw
import Derived.Test.YtmkggcjajcdlcaaGreatDoorTie
import Derived.Test.YtmkggcjajcdlcaaGreatDoorCards
import Derived.LaidMore
import Derived.Lay
import Derived.Stop.Joined
import Derived.SevenTiedAt
set_option maxHeartbeats 100000000
set_option linter.all false
open Go.Proofs.Tryz
namespace Go.Proofs.YtmkggcjajcdlcaaGreatDoor
open Go.RowKit
section
attribute [local go_sem ↓] Go.wp_at_zero Go.wp_at_succ
theorem r6 (va:Value) (na:Bool) (xs:List Nat) (w:World) (ha:aL w va na xs) (hs:xs.length≤4294967296):
 Calls Tryz.prog 95 #[va] w (x8 na xs w):=by
 obtain⟨A,n,c,rfl,hx⟩:=ha;obtain⟨W,hW⟩:∃W,W=(w.alloc (.cells #[.bool na, .slice A n c] 36)).alloc (.cells #[.bool false, .slice none 0 0] 36):=⟨_,rfl⟩;obtain⟨⟨ca0,ca1⟩,⟨cr0,cr1,fr0,fr1⟩,hbW⟩:=dC w _ _ _ _ _ W hW;have hH:=fO ⟨ca0,ca1,hbW⟩ (Below.drew (Below.refl _ _));have hA:=fO (tD (o:= .cells #[] 133) ⟨ca0,ca1,hbW⟩) (Below.drew (Below.refl _ _));have hn:n≤4294967296:=by rw[← hx.len];exact hs
 have Hx:=Lib.hid (hx.ext ((hbW.alloc (.cells #[] 133)).drew));clear hx
 go_enter func95,ntmps95
 go_wp2_with fail
 rw[← hW];clear hW
 go_region_held3 (fun w'=>w'.cell? ⟨w.heap.size,0,none⟩=some (.bool na)∧w'.cell? ⟨w.heap.size,1,none⟩=some (.slice A n c)∧ak w w')
  (with_reducible first|exact hH|exact hA|assumption|exact tD (by assumption)|exact fO (by assumption) (by assumption)|exact qD (by assumption) (by omega) (by dsimp only;omega) (by dsimp only;omega))
  (first
   |(refine jE rfl _ _ rfl rfl rfl (heap_alloc_new W (.cells #[] 133)) (Nat.le_refl _) Hx.out hn ?_;intro A1 c1 w1 hw1 hb1;have hE1:ak W w1:=Below.trans (((ak.refl W).alloc (.cells #[] 133)).drew:Below W.heap.size W _) hb1;have hK1:=fO ⟨ca0,ca1,hbW⟩ hE1;have su0:=kc cr0 hE1;have su1:=kc cr1 hE1;have sf0:=kf cr0 fr0 hE1;have sf1:=kf cr1 fr1 hE1))
 go_wp2_with fail
 exact bodyPost_ret (v:= .agg #[.bool na, .slice A1 n c1]) (by simp[results,results95,go_sem,su0,su1]) rfl ⟨_,rfl,⟨_,_,_,rfl,hw1.set2 (aw.mk su0 su1 sf0 sf1) _ _⟩,ak.set2 hK1.2.2 (Nat.le_succ _) _ _⟩
end
def xD (l:List UInt8):List AV:=l.map fun c=>AV.val (.int .u8 c.toNat)
def yu (l:List UInt8):DV:= .leaf (.sl l.length (xD l))
theorem xj {l:List UInt8} {i:Nat} {c:UInt8} (h:l[i]? =some c):∀(j:Nat) (a:AV),[AV.val (.int .u8 c.toNat)][j]? =some a→(xD l)[i*1+j]? =some a:=by
 intro j a hj
 match j,hj with
 |0,hj=>unfold xD;rw[Nat.mul_one,Nat.add_zero,List.getElem?_map,h];exact hj
section
variable {P:Program} {T:TypeId→Option Ty} {n:Nat} {ops:Array Oper} {id:Nat} {draw:Bool} {K:AS→Prop} {s:AS} {k:Nat} {o:Oper} {os:List Oper} {fps:List FP}
theorem x6 (hT:∀t d,T t=some d→bY P t d) {t t' et:TypeId} {ty ty' te:Ty} {x:Operand} {l:List UInt8} (hl:l.length≤9223372036854775807) (h1:gd ops s o=some true) (h2:o.op= .convert t t' x) (h5:T t=some ty) (h6:ty.isStr=true) (h9:T t'=some ty') (h10:ty'.elem=some (et,1)) (h7:T et=some te) (h8:te.ik=some .u8) (h11:s.ev x= .d (.leaf (.val (vL l))))
 (h3:bX n o.dst=true) (h4:kP draw ops (bC ops o ⟨.d (yu l),none⟩ []) k fps=true) (h:aY P T n ops id draw K (k+1) os (s.eff o.dst ⟨.d (yu l),none⟩) (bC ops o ⟨.d (yu l),none⟩ []::fps)):aY P T n ops id draw K k (o::os) s fps:=by
 refine .run h1 (.gen fun s2 ht _=>?_) h3 h4 h;have hx:=(bw ht (x:=x) (by simp[h2,Op.operands])).trans h11;have hu:=nN (hT _ _ h5) h6;obtain⟨d,hd,_,hel,_⟩:=(hT _ _ h9).und;obtain⟨rfl,_⟩:=hel et 1 h10;obtain⟨d2,hd2,_,_,_,_,_,hik,_⟩:=(hT _ _ h7).und;obtain rfl:=hik _ h8;refine ay fun n S0 w0 g a w hM=>?_
 have hsz:=bD l;have hge:=grownCap_ge w l.length 0 et;have hle:=grownCap_le_maxLen w l.length 0 et (by unfold maxLen;omega);obtain⟨C,hC⟩:∃C,grownCap w l.length 0 et=C:=⟨_,rfl⟩;rw[hC]at hge hle;have hrun:=run_bytes_of_string w t t' et (Bs l) hu hd hd2;rw[hsz,hC]at hrun;have hb:Below w.heap.size w (w.drew.alloc (.cells (bytesRow (Bs l) C) et ((bytesRow (Bs l) C).size,(bytesRow (Bs l) C).size+1))):=((Below.refl _ w).drew).alloc (Nat.le_refl _) _;refine⟨.slice (some ⟨w.heap.size,0,none⟩) l.length C,_,?_,hb,?_⟩
 ·unfold execOp
  rw[h2]
  simp only[b8 hM hx,vL,Sem.run_bind,hrun,Result.andThen_ok,Sem.run_pure]
 ·refine AV.M.sl (fun i=> .int .u8 ((l.getD i 0).toNat:Int)) hge (by unfold maxLen at hle;omega) ?_ (by show w.heap.size<(w.heap.push _).size;simp) (fun i c hi=>?_) (fun i c hi=>?_)
  ·intro hO
   exact absurd (hM.own_lt hO) (Nat.lt_irrefl _)
  ·have hil:i<l.length:=by have:=(List.getElem?_eq_some_iff.1 hi).1;simpa[xD]using this
   have h3:(w.drew.alloc (.cells (bytesRow (Bs l) C) et ((bytesRow (Bs l) C).size,(bytesRow (Bs l) C).size+1))).heap[w.heap.size]? =some (.cells (bytesRow (Bs l) C) et ((bytesRow (Bs l) C).size,(bytesRow (Bs l) C).size+1)):=heap_alloc_new w.drew _;rw[Nat.zero_add]
   simp only[World.cell?,h3]
   have:=bytesRow_at (Bs l) C i (by show i<(Bs l).data.size;simpa[Bs]using hil);show(match(bytesRow (Bs l) C)[i]? with|v=>v)=_;refine Eq.trans this ?_
   simp[Bs,hil]
  ·have hil:i<l.length:=by have:=(List.getElem?_eq_some_iff.1 hi).1;simpa[xD]using this
   have:c= .val (.int .u8 ((l.getD i 0).toNat:Int)):=by
    unfold xD at hi;rw[List.getElem?_map,List.getElem?_eq_getElem hil]at hi
    simp at hi
    rw[← hi]
    simp[hil]
   rw[this];exact .val rfl
end
theorem ii (l:List UInt8) (c:UInt8):ab Tryz.prog 281 [dL l,dL [c]] (.one (dN .i64 (Lib.indexByte l c))):=by
 refine⟨ax func281 rfl rfl,fun S w vs hS hv=>?_⟩
 match vs,hv with
 | [v,u],⟨h1,h2,_⟩=>
  obtain rfl:=b6 h1;obtain rfl:=b6 h2;refine(Tryz.stringslite_Index_one (Bs l) c w).mono ?_;rintro e w' ⟨rfl,rfl⟩;exact⟨_,rfl,AV.M.val rfl,Below.refl _ _⟩
theorem nB {l:List UInt8} {c:UInt8} (h:c ∉ l):Lib.indexByte l c= -1:=by
 induction l with
 |nil=>rfl
 |cons b l ih=>
  have h1:(b == c)=false:=beq_eq_false_iff_ne.2 (fun e=>h (by simp[e]));unfold Lib.indexByte;rw[h1,ih (fun e=>h (by simp[e]))];rfl
theorem nt {a b:List UInt8} {c:UInt8} (h:c ∉ a):Lib.indexByte (a++c::b) c=a.length:=by
 induction a with
 |nil=>simp[Lib.indexByte]
 |cons x a ih=>
  have h1:(x == c)=false:=beq_eq_false_iff_ne.2 (fun e=>h (by simp[e]));rw[List.cons_append];unfold Lib.indexByte;rw[h1,ih (fun e=>h (by simp[e]))];have:(((a.length:Nat):Int) == -1)=false:=beq_eq_false_iff_ne.2 (by omega)
  simp only[Bool.false_eq_true,if_false,this]
  simp
theorem ww {a b:List UInt8} {c:UInt8} (h:c ∉ a) (hl:a.length+b.length≤1000000000):ab Tryz.prog 255 [dL (a++c::b),dL [c]] (.tup [dL a,dL b,dB true]):=by
 have c1:=ii (a++c::b) c;rw[nt h]at c1;have e1:(a++c::b).take a.length=a:=by simp
 have e2:(a++c::b).drop (a.length+1)=b:=by rw[← List.drop_drop];simp
 refine kV func255 ?_;refine kQ (c1) ?_;refine ye fA (l:=a++c::b) (i:=a.length) (by simp) rfl rfl rfl rfl rfl rfl rfl rfl ?_
 refine kO4 ?_
 refine fZ (v':= .int .i64 (((a.length+1:Nat):Int))) rfl rfl rfl rfl ?_ ?_
 ·exact congrArg (Value.int .i64) (by show IntKind.i64.wrap ((a.length:Int)+1)=_;rw[IntWalk.i64_in _ (by omega)];omega)
 refine pq fA (l:=a++c::b) (i:=a.length+1) (by simp) rfl rfl rfl rfl rfl rfl rfl rfl ?_;refine kW ?_;rw[e1,e2];exact cJ (T:=TT) rfl rfl
theorem pW {a:List UInt8} {c:UInt8} (h:c ∉ a):ab Tryz.prog 255 [dL a,dL [c]] (.tup [dL a,dL [],dB false]):=by
 have c1:=ii a c;rw[nB h]at c1;refine kV func255 ?_;refine kC (c1) ?_;exact kF
theorem nj {a b:List UInt8} {c:UInt8} (h:c ∉ a) (hl:a.length+b.length≤1000000000):ab Tryz.prog 210 [dL (a++c::b),dL [c]] (.tup [dL a,dL b,dB true]):=by
 refine kV func210 ?_;refine kC (ww h hl) ?_;exact kF
theorem eb {a:List UInt8} {c:UInt8} (h:c ∉ a):ab Tryz.prog 210 [dL a,dL [c]] (.tup [dL a,dL [],dB false]):=by
 refine kV func210 ?_;refine kC (pW h) ?_;exact kF
theorem ia (l:List UInt8):ab Tryz.prog 257 [dL l,dL [48]] (.one (dL (l.dropWhile (· == 48)))):=by
 refine⟨ax func257 rfl rfl,fun S w vs hS hv=>?_⟩
 match vs,hv with
 | [v,u],⟨h1,h2,_⟩=>
  obtain rfl:=b6 h1;obtain rfl:=b6 h2;refine(Tryz.strings_TrimLeft_one (Bs l) 48 (by decide) w).mono ?_;rintro e w' ⟨rfl,rfl⟩;exact⟨_,rfl,AV.M.val rfl,Below.refl _ _⟩
def gQ (na:Bool) (xs:List Nat) (nb:Bool) (ys:List Nat):Bool:=ej na xs && ej nb ys && decide (0<af nb ys) && decide (Nat.gcd (val xs) (val ys)=1)
theorem jp {na:Bool} {xs:List Nat} (hw:Wd xs) (h:ej na xs=true):xs=digs (af na xs).natAbs∧na=decide (af na xs<0):=by
 unfold ej at h;rw[Bool.and_eq_true]at h;have h1:=of_decide_eq_true h.1;have hp:=(fH hw).1;rw[h1,List.take_length]at hp;rw[aG];refine⟨hp,?_⟩;cases na
 ·exact(decide_eq_false (by unfold af;simp)).symm
 ·have h2:=h.2
  simp at h2
  have:val xs≠0:=fun e=>by
   rw[hp]at h2;unfold trim at h2;rw[e,ar]at h2
   simp at h2
  exact(decide_eq_true (by unfold af;simp;omega)).symm
theorem rN {na nb:Bool} {xs ys:List Nat} (hw:Wd xs) (hw':Wd ys) (h:gQ na xs nb ys=true):∃q:Rat,yD na xs nb ys=aQ q∧xs=digs q.num.natAbs∧ys=digs (q.den:Int).natAbs:=by
 unfold gQ at h
 simp only[Bool.and_eq_true,decide_eq_true_eq]at h
 obtain⟨⟨⟨h1,h2⟩,h3⟩,h4⟩:=h;obtain⟨e1,e2⟩:=jp hw h1;obtain⟨e3,e4⟩:=jp hw' h2;have hd:((af nb ys).toNat:Int)=af nb ys:=by omega
 refine⟨⟨af na xs,(af nb ys).toNat,by omega,?_⟩,?_,e1,?_⟩
 ·rw[aG,show(af nb ys).toNat=(af nb ys).natAbs by omega,aG];exact h4
 ·show aI na xs++aI nb ys=aZ (af na xs)++aZ ((af nb ys).toNat:Int)
  rw[hd];unfold aZ;rw[← e1,← e2,← e3,← e4]
 ·show ys=digs ((af nb ys).toNat:Int).natAbs
  rw[hd];exact e3
theorem pU (q:Rat):gQ (decide (q.num<0)) (digs q.num.natAbs) (decide ((q.den:Int)<0)) (digs (q.den:Int).natAbs)=true:=by
 unfold gQ;rw[jX,jX,au,ac,ac,decide_eq_true (co q),decide_eq_true (by rw[Int.natAbs_natCast];exact q.reduced)];rfl
theorem mX {na nb:Bool} {xs ys:List Nat} (hw:Wd xs) (hw':Wd ys) (h1:gW xs) (h2:gW ys) {b:Bool} (hb:gQ na xs nb ys=b):ab Tryz.prog 155 [xb na xs nb ys] (.one (dB b)):=by
 subst hb;unfold gQ;cases c1:ej na xs
 ·refine kV func155 ?_;refine kC (cE (na:=na) hw c1) ?_;exact kF
 cases c2:ej nb ys
 ·refine kV func155 ?_;refine kQ (cE (na:=na) hw c1) ?_;refine kC (cE (na:=nb) hw' c2) ?_;exact kF
 by_cases c3:0<af nb ys
 ·have hc:decide (Nat.gcd (val xs) (val ys)=1)=decide (((Nat.gcd (val xs) (val ys):Nat):Int)=1):=by by_cases h:Nat.gcd (val xs) (val ys)=1<;>simp[h]<;>omega
  rw[decide_eq_true c3,hc];refine kV func155 ?_;refine kQ (cE (na:=na) hw c1) ?_;refine kQ (cE (na:=nb) hw' c2) ?_;refine kQ (gV (na:=nb) hw' (Int.sign_eq_one_of_pos c3)) ?_;refine kQ (mi (na:=na) (nb:=nb) hw hw' h1 h2) ?_;refine kC (dp rfl) ?_;exact kF
 ·rw[decide_eq_false c3]
  obtain⟨z,hz,hz0⟩:∃z,(af nb ys).sign=z∧ ¬z > 0:=⟨_,rfl,fun h=>c3 (Int.sign_pos_iff.1 h)⟩;refine kV func155 ?_;refine kQ (cE (na:=na) hw c1) ?_;refine kQ (cE (na:=nb) hw' c2) ?_;refine kC (gV (na:=nb) hw' hz) ?_;refine kB false ?_ ?_
  ·exact decide_eq_false hz0
  exact kF
def tY (k:Nat) (na:Bool) (xs:List Nat) (nb:Bool) (ys:List Nat):Bool:=decide (xs.length≤k) && decide (ys.length≤k) && gQ na xs nb ys
theorem lO {na nb:Bool} {xs ys:List Nat} {k:Nat} (hw:Wd xs) (hw':Wd ys) (hk:k≤2147483648) {b:Bool} (hb:tY k na xs nb ys=b):ab Tryz.prog 93 [xb na xs nb ys,dN .i64 k] (.one (dB b)):=by
 subst hb;unfold tY
 by_cases h1:xs.length≤k
 ·rw[decide_eq_true h1]
  by_cases h2:ys.length≤k
  ·rw[decide_eq_true h2]
   refine kU func93 ?_;refine kR ?_;refine kI ?_
   refine kO5 ?_
   refine kT ?_
   iterate 6 refine kO ?_
   refine kX ?_;refine aa (mX (na:=na) (nb:=nb) hw hw' (by unfold gW;omega) (by unfold gW;omega) rfl) rfl rfl rfl rfl rfl rfl rfl ?_;exact kF
  ·rw[decide_eq_false h2]
   refine kU func93 ?_;refine kR ?_;refine kI ?_
   refine kO5 ?_
   refine kT ?_
   iterate 6 refine kO ?_
   refine kE ?_;exact kF
 ·rw[decide_eq_false h1]
  refine kU func93 ?_;refine kR ?_;refine kI ?_
  refine kO5 ?_
  refine kE ?_;exact kF
theorem re {xs:List Nat} {i x:Nat} (h:xs[i]? =some x):∀(j:Nat) (a:AV),[AV.val (aS x)][j]? =some a→(xs.map fun x:Nat=>AV.val (aS x))[i*1+j]? =some a:=by
 intro j a hj
 match j,hj with
 |0,hj=>rw[Nat.mul_one,Nat.add_zero,List.getElem?_map,h];exact hj
theorem jR {na nb:Bool} {xs ys:List Nat} (h:xs≠ys):sameB na nb xs ys=false:=by unfold sameB;rw[decide_eq_false h,Bool.and_false]
theorem py {na:Bool} {xs ys:List Nat} (h:xs=ys):sameB na na xs ys=true:=by unfold sameB;rw[decide_eq_true h];cases na<;>rfl
theorem lM {na nb:Bool} {xs ys:List Nat} (hl:xs.length≤2147483648) {b:Bool} (hb:sameB na nb xs ys=b):ab Tryz.prog 97 [dI na xs,dI nb ys] (.one (dB b)):=by
 subst hb
 by_cases hn:na=nb
 ·subst hn
  by_cases hxy:xs.length=ys.length
  ·cases na
   ·refine kU func97 ?_
    refine kR ?_;refine kI ?_
    iterate 12 refine kO ?_
    refine kB false ?_ ?_
    ·exact(by simp[hxy])
    refine kW ?_;refine dO Nat (fun j=>j≤xs.length∧ ∀i,i<j→xs[i]? =ys[i]?) (fun j=>⟨[(2, .box 0 0),(3, .box 1 0),(5, .d (dN .i64 j))],[(0,some (aI false xs)),(1,some (aI false ys))]⟩) (fun j=>xs.length-j) 0 ⟨Nat.zero_le _,fun i h=>absurd h (Nat.not_lt_zero _)⟩ (weak ⟨rfl,rfl,rfl,trivial⟩ ⟨rfl,rfl,trivial⟩ rfl) ?_;rintro j ⟨hj,hall⟩;refine kW ?_;refine ee rfl (fun h=>?_) (fun h=>?_)
    ·have hlt:j<xs.length:=by have:=of_decide_eq_true h;omega
     have hlt':j<ys.length:=by omega
     refine kW ?_;refine jh (cs':=[AV.val (aS xs[j])]) hlt (re (by simp[hlt])) (Nat.lt_succ_self 0) rfl rfl rfl rfl rfl rfl rfl rfl ?_;refine kW ?_;refine jh (cs':=[AV.val (aS ys[j])]) hlt' (re (by simp[hlt'])) (Nat.lt_succ_self 0) rfl rfl rfl rfl rfl rfl rfl rfl ?_;refine kW ?_;refine ee rfl (fun h2=>?_) (fun h2=>?_)
     ·refine kW ?_
      have hne:xs[j]≠ys[j]:=fun e=>by rw[e]at h2;simp at h2
      rw[jR (fun e=>hne (by subst e;rfl))];exact cJ (T:=TT) rfl rfl
     ·have heq:xs[j]=ys[j]:=by simp at h2;omega
      refine kW ?_;refine⟨j+1,⟨hlt,fun i hi=>?_⟩,by omega,weak ⟨rfl,rfl,?_,trivial⟩ ⟨rfl,rfl,trivial⟩ rfl⟩
      ·rcases Nat.lt_succ_iff_lt_or_eq.1 hi with h3|rfl
       ·exact hall i h3
       ·rw[List.getElem?_eq_getElem hlt,List.getElem?_eq_getElem hlt',heq]
      ·exact km (by omega) (by omega)
    ·have hge:j=xs.length:=by have:=of_decide_eq_false h;omega
     refine eI ?_;refine kW ?_
     have he:xs=ys:=by
      apply List.ext_getElem? fun i=>?_
      by_cases hi:i<xs.length
      ·exact hall i (by omega)
      ·rw[List.getElem?_eq_none (by omega),List.getElem?_eq_none (by omega)]
     rw[py he];exact cJ (T:=TT) rfl rfl
   ·refine kU func97 ?_
    refine kR ?_;refine kI ?_
    iterate 12 refine kO ?_
    refine kB false ?_ ?_
    ·exact(by simp[hxy])
    refine kW ?_;refine dO Nat (fun j=>j≤xs.length∧ ∀i,i<j→xs[i]? =ys[i]?) (fun j=>⟨[(2, .box 0 0),(3, .box 1 0),(5, .d (dN .i64 j))],[(0,some (aI true xs)),(1,some (aI true ys))]⟩) (fun j=>xs.length-j) 0 ⟨Nat.zero_le _,fun i h=>absurd h (Nat.not_lt_zero _)⟩ (weak ⟨rfl,rfl,rfl,trivial⟩ ⟨rfl,rfl,trivial⟩ rfl) ?_;rintro j ⟨hj,hall⟩;refine kW ?_;refine ee rfl (fun h=>?_) (fun h=>?_)
    ·have hlt:j<xs.length:=by have:=of_decide_eq_true h;omega
     have hlt':j<ys.length:=by omega
     refine kW ?_;refine jh (cs':=[AV.val (aS xs[j])]) hlt (re (by simp[hlt])) (Nat.lt_succ_self 0) rfl rfl rfl rfl rfl rfl rfl rfl ?_;refine kW ?_;refine jh (cs':=[AV.val (aS ys[j])]) hlt' (re (by simp[hlt'])) (Nat.lt_succ_self 0) rfl rfl rfl rfl rfl rfl rfl rfl ?_;refine kW ?_;refine ee rfl (fun h2=>?_) (fun h2=>?_)
     ·refine kW ?_
      have hne:xs[j]≠ys[j]:=fun e=>by rw[e]at h2;simp at h2
      rw[jR (fun e=>hne (by subst e;rfl))];exact cJ (T:=TT) rfl rfl
     ·have heq:xs[j]=ys[j]:=by simp at h2;omega
      refine kW ?_;refine⟨j+1,⟨hlt,fun i hi=>?_⟩,by omega,weak ⟨rfl,rfl,?_,trivial⟩ ⟨rfl,rfl,trivial⟩ rfl⟩
      ·rcases Nat.lt_succ_iff_lt_or_eq.1 hi with h3|rfl
       ·exact hall i h3
       ·rw[List.getElem?_eq_getElem hlt,List.getElem?_eq_getElem hlt',heq]
      ·exact km (by omega) (by omega)
    ·have hge:j=xs.length:=by have:=of_decide_eq_false h;omega
     refine eI ?_;refine kW ?_
     have he:xs=ys:=by
      apply List.ext_getElem? fun i=>?_
      by_cases hi:i<xs.length
      ·exact hall i (by omega)
      ·rw[List.getElem?_eq_none (by omega),List.getElem?_eq_none (by omega)]
     rw[py he];exact cJ (T:=TT) rfl rfl
  ·rw[jR (fun e=>hxy (by rw[e]))]
   cases na
   ·refine kU func97 ?_
    refine kR ?_;refine kI ?_
    iterate 12 refine kO ?_
    refine kB true ?_ ?_
    ·exact(by simp;omega)
    exact kF
   ·refine kU func97 ?_
    refine kR ?_;refine kI ?_
    iterate 12 refine kO ?_
    refine kB true ?_ ?_
    ·exact(by simp;omega)
    exact kF
 ·have e:sameB na nb xs ys=false:=by unfold sameB;cases na<;>cases nb<;>first|rfl|exact absurd rfl hn
  rw[e];cases na<;>cases nb
  ·exact absurd rfl hn
  ·refine kU func97 ?_
   exact kF
  ·refine kU func97 ?_
   exact kF
  ·exact absurd rfl hn
theorem bn {a b:Int} (h:cM a) {t:Bool} (ht:decide (a=b)=t):ab Tryz.prog 97 [dZ a,dZ b] (.one (dB t)):=lM h (by rw[r5,ht])
theorem po {a b:Rat}:decide (a=b)=(decide (a.num=b.num) && decide ((a.den:Int)=(b.den:Int))):=by
 by_cases h:a=b
 ·subst h;simp
 ·rw[decide_eq_false h]
  by_cases h1:a.num=b.num
  ·have:¬(a.den:Int)=b.den:=fun e=>h (Rat.ext h1 (by omega))
   simp[h1];omega
  ·simp[h1]
theorem cD {k:Nat} {a b:Rat} (h:fy k a) (hk:k≤2147483648) {t:Bool} (ht:decide (a=b)=t):ab Tryz.prog 47 [dQ a,dQ b] (.one (dB t)):=by
 rw[po]at ht;subst ht
 by_cases h1:a.num=b.num
 ·rw[decide_eq_true h1,Bool.true_and]
  refine kV func47 ?_;refine kQ (bn (h.1.fit hk) (decide_eq_true h1)) ?_;refine kC (bn (h.2.fit hk) rfl) ?_;exact kF
 ·rw[decide_eq_false h1,Bool.false_and]
  refine kV func47 ?_;refine kC (bn (h.1.fit hk) (decide_eq_false h1)) ?_;exact kF
theorem iw {na:Bool} {xs:List Nat} (hw:Wd xs) (hl:xs.length≤4294967296):ab Tryz.prog 95 [dI na xs] (.one (dI na xs)):=
 vh (ax func95 rfl rfl) hw (fun v w h=>r6 v na xs w h hl) (fun _ _ _ _ hS h=>xv hS h)
theorem rU {na nb:Bool} {xs ys:List Nat} (hw:Wd xs) (hw':Wd ys) (hl:xs.length≤4294967296) (hl':ys.length≤4294967296):ab Tryz.prog 45 [xb na xs nb ys] (.one (xb na xs nb ys)):=by
 refine kV func45 ?_;refine kQ (iw (na:=na) hw hl) ?_;refine kC (iw (na:=nb) hw' hl') ?_;exact kF
theorem fa {k:Nat} {q:Rat} (h:fy k q) (hk:k≤4294967296):ab Tryz.prog 45 [dQ q] (.one (dQ q)):=rU (ai _) (ai _) (Nat.le_trans h.1.digs hk) (Nat.le_trans h.2.digs hk)
theorem ro {z:Int} {k:Nat} (h:Sz k z):(fmt z).length≤10*k+2:=by
 have h1:(mq z.natAbs).length≤10*k:=rG _ _ (Nat.lt_of_lt_of_le h (by rw[Nat.pow_mul];exact Nat.pow_le_pow_left (by decide) _));unfold fmt
 split
 ·simp
 ·rw[List.length_append]
  have:(if z<0 then [45]else []:List UInt8).length≤1:=by split <;>simp
  omega
theorem uY {q:Rat} (h:¬q.den=1):ke q=(fmt q.num++[47])++fmt q.den:=by
 unfold ke;rw[if_neg h,List.append_assoc];rfl
theorem fK {k:Nat} {q:Rat} (h:fy k q) (hk:k≤1000) {l:List UInt8} (hl:ke q=l):ab Tryz.prog 92 [dQ q] (.one (dL l)):=by
 subst hl;have h1:=ro h.1;have h2:=ro h.2
 by_cases hd:q.den=1
 ·have e:ke q=fmt q.num:=by unfold ke;rw[if_pos hd]
  rw[e];refine kV func92 ?_;refine kQ (fm (Nat.le_trans h.1.digs hk)) ?_;refine kC (aU (j2 hd)) ?_;exact kF
 ·rw[uY hd]
  refine kV func92 ?_;refine kQ (fm (Nat.le_trans h.1.digs hk)) ?_;refine kQ (aU (pg hd)) ?_;refine eQ rfl rfl rfl rfl rfl rfl rfl (oz (a:=fmt q.num) (b:=[47]) (by simp;omega)) ?_;refine kW ?_;refine kC (fm (Nat.le_trans h.2.digs hk)) ?_;refine eQ rfl rfl rfl rfl rfl rfl rfl (oz (a:=fmt q.num++[47]) (b:=fmt q.den) (by simp;omega)) ?_;exact kF
theorem qV (r:Nat):r≤r*r:=by
 rcases Nat.eq_zero_or_pos r with h|h
 ·subst h;exact Nat.le_refl _
 ·exact Nat.le_mul_of_pos_left _ h
theorem dx {z:Int} {r:Nat} {b:Bool} (hz:0≤z) (hl:(digs z.natAbs).length≤2147483) (h1:r*r≤z.natAbs) (h2:z.natAbs<(r+1)*(r+1)) (hb:decide (((r:Int)*r)=z)=b):ab Tryz.prog 94 [dZ z] (.tup [dZ r,dB b]):=by
 have hr:cM r:=Nat.le_trans (bk (Nat.le_trans (show(r:Int).natAbs≤r*r by rw[Int.natAbs_natCast];exact qV r) h1)) (by omega);obtain⟨o,ho⟩:∃o,aO ((r:Int)*r) z=o:=⟨_,rfl⟩
 have hob:(o == 0)=b:=by
  rw[← hb,← ho];unfold aO
  by_cases h:((r:Int)*r)=z
  ·rw[if_neg (by omega),if_neg (by omega),decide_eq_true h];rfl
  ·rw[decide_eq_false h]
   split
   ·rfl
   ·split
    ·rfl
    ·omega
 have hc:ab Tryz.prog 157 [dZ ((r:Int)*r),dZ z] (.one (dN .i64 o)):=by have:=sA ((r:Int)*r) z;rwa[ho]at this
 refine kV func94 ?_;refine kQ (qz hz hl h1 h2) ?_;refine kQ (bP hr hr) ?_;refine kC (hc) ?_;cases b
 ·refine kB false ?_ ?_
  ·exact hob
  exact kF
 ·refine kB true ?_ ?_
  ·exact hob
  exact kF
theorem qu {z:Int} (hz:z<0):ab Tryz.prog 94 [dZ z] (.tup [dZ 0,dB false]):=by
 refine kV func94 ?_;refine kC (o6 hz) ?_;exact kF
theorem xk:dZ 0= .agg [.val (.bool false), .sl 0 []]:=by unfold dZ;rw[e0]
def lz (l:List UInt8):Bool:=l.all ny && !decide (l=[])
theorem dH {l:List UInt8}:lz l=true↔(∀c∈l,eF c)∧l≠[]:=by
 unfold lz
 simp[List.all_eq_true,ep]
theorem cW {l:List UInt8} (hl:l.length≤1000000000) {b:Bool} (hb:lz l=b):ab Tryz.prog 256 [dL l] (.one (dB b)):=by
 subst hb;have hsz:=bD l;refine kV func256 ?_;refine x6 fA (l:=l) (by omega) rfl rfl rfl rfl rfl rfl rfl rfl rfl rfl rfl ?_;refine kW ?_;refine dO Nat (fun j=>j≤l.length∧ ∀i c,i<j→l[i]? =some c→eF c) (fun j=>⟨[(0, .d (dL l)),(6, .d (yu l)),(7, .d (dN .i64 l.length)),(8, .d (dN .i64 j))],[]⟩) (fun j=>l.length-j) 0 ⟨Nat.zero_le _,fun i c h=>absurd h (Nat.not_lt_zero _)⟩ (weak ⟨rfl,rfl,rfl,rfl,trivial⟩ trivial rfl) ?_;rintro j ⟨hj,hall⟩;refine kW ?_;refine ee rfl (fun h=>?_) (fun h=>?_)
 ·have hlt:j<l.length:=by have:=of_decide_eq_true h;omega
  obtain⟨c,hc⟩:∃c,l[j]=c:=⟨_,rfl⟩;have hcj:l[j]? =some c:=by rw[List.getElem?_eq_getElem hlt,hc]
  refine kW ?_;refine jh (cs':=[AV.val (.int .u8 c.toNat)]) hlt (xj hcj) (Nat.lt_succ_self 0) rfl rfl rfl rfl rfl rfl rfl rfl ?_;refine kN ?_;refine kI ?_;refine kO ?_
  by_cases h1:c.toNat<48
  ·refine kT ?_
   refine kW ?_
   rw[show lz l=false by
    cases hd:lz l
    ·rfl
    ·have:=(dH.1 hd).1 c (List.mem_of_getElem? hcj)
     unfold eF at this
     omega]
   exact cJ (T:=TT) rfl rfl
  ·refine kE ?_
   refine kO2 ?_
   by_cases h2:57<c.toNat
   ·refine kT ?_
    refine kW ?_
    rw[show lz l=false by
     cases hd:lz l
     ·rfl
     ·have:=(dH.1 hd).1 c (List.mem_of_getElem? hcj)
      unfold eF at this
      omega]
    exact cJ (T:=TT) rfl rfl
   ·refine kE ?_
    refine kW ?_;refine⟨j+1,⟨hlt,fun i c' hi hp=>?_⟩,by omega,weak ⟨rfl,rfl,rfl,?_,trivial⟩ trivial rfl⟩
    ·rcases Nat.lt_succ_iff_lt_or_eq.1 hi with h3|rfl
     ·exact hall i c' h3 hp
     ·have:c'=c:=by rw[hcj]at hp;exact(Option.some.inj hp).symm
      rw[this];unfold eF;omega
    ·exact km (by omega) (by omega)
 ·have hge:j=l.length:=by have:=of_decide_eq_false h;omega
  refine eI ?_;refine kI ?_;refine kO ?_;refine eQ rfl rfl rfl rfl rfl rfl rfl (kq (a:=l) (b:=[])) ?_;refine kW ?_
  have ha:l.all ny=true:=List.all_eq_true.2 fun c hc=>ep.2 (by
   obtain⟨i,hi⟩:=List.getElem?_of_mem hc;exact hall i c (by rw[hge];exact(List.getElem?_eq_some_iff.1 hi).1) hi)
  rw[show lz l=!decide (l=[]) by unfold lz;rw[ha];rfl];exact cJ (T:=TT) rfl rfl
theorem vV {l:List UInt8} (h:∀c∈l,eF c):cL l=false∧js l=l:=by
 have:=xe (b:=false) (l:=l) (fun c r e=>h c (by rw[e];simp))
 simp at this
 exact⟨this.2,this.1⟩
open Classical in
theorem pP {l:List UInt8} (h:∀c∈l,eF c) (hl:l.length≤65536):pz l=if gU false l then((num l:Int),0)else(0,2):=by
 obtain⟨h1,h2⟩:=vV h
 by_cases ho:gU false l
 ·rw[if_pos ho,wM ⟨hl,by rw[h1,h2];exact ho⟩,h1,h2];rfl
 ·rw[if_neg ho,jY (fun e=>ho (by have:=e.2;rwa[h1,h2]at this))]
theorem a8 {l:List UInt8} (hl:l.length≤65536) (h:gU false l):ab Tryz.prog 213 [dL l] (.tup [dZ (num l),dB true]):=by
 have c1:=fX l;rw[pP (ct h) hl,if_pos h]at c1;refine kV func213 ?_;refine aa (cW (b:=true) (Nat.le_trans hl (by decide)) (dH.2 ⟨ct h,h.1⟩)) rfl rfl rfl rfl rfl rfl rfl ?_;refine kW ?_;refine kC (c1) ?_;exact kF
theorem cV {l:List UInt8} (hl:l.length≤65536) (h:¬gU false l):ab Tryz.prog 213 [dL l] (.tup [dZ 0,dB false]):=by
 by_cases hd:lz l=true
 ·have c1:=fX l
  rw[pP (dH.1 hd).1 hl,if_neg h]at c1;refine kV func213 ?_;refine aa (cW (b:=true) (Nat.le_trans hl (by decide)) hd) rfl rfl rfl rfl rfl rfl rfl ?_;refine kW ?_;refine kC (c1) ?_;exact kF
 ·rw[xk]
  refine kV func213 ?_;refine aa (cW (b:=false) (Nat.le_trans hl (by decide)) (by simpa using hd)) rfl rfl rfl rfl rfl rfl rfl ?_;exact kF
theorem pB (k:Nat):(max 1 (10:Int).natAbs)^k<4294967296^(k+1):=by
 show 10^k<_
 have h1:(10:Nat)^k≤4294967296^k:=Nat.pow_le_pow_left (by decide) _;have h2:0<(4294967296:Nat)^k:=Nat.pow_pos (by decide)
 rw[Nat.pow_succ];omega
theorem jS (k:Nat):Sz (k+1) ((10:Int)^k):=by
 unfold Sz;rw[Int.natAbs_pow];exact pB k
theorem x3:cM 10:= .small (by decide)
theorem Sz.of_pow {k j e:Nat} {y:Int} (h:Sz k y) (hj:k+e≤j):Sz j (y*10^e):=by
 refine Sz.mono (j:=k+e) ?_ hj;unfold Sz at *;rw[Int.natAbs_mul,Int.natAbs_pow,Nat.pow_add];have h1:(10:Int).natAbs^e≤4294967296^e:=Nat.pow_le_pow_left (by decide) _;exact Nat.lt_of_le_of_lt (Nat.mul_le_mul_left _ h1) (Nat.mul_lt_mul_of_pos_right h (Nat.pow_pos (by decide)))
theorem wG (e:Nat) (he:e≤4096):∃t:Int,(∀y:Int,∀m,e≤m→y*t*10^(m-e)=y*10^m)∧(∀(k j:Nat) (y:Int),Sz k y→k+e≤j→Sz j (y*t))∧cM t∧(10:Int)^e=t∧ab Tryz.prog 286 [dZ 10,dN .i64 e] (.tup [dZ t,dN .i64 0]):=by
 refine⟨10^e,fun y m hm=>?_,fun k j y h hj=>h.of_pow hj,(jS e).fit (by omega),rfl,sw he (by omega) (pB e) x3 rfl⟩;rw[Int.mul_assoc,← Int.pow_add,show e+(m-e)=m by omega]
theorem jV {n:Nat} (hn:n≤65536) {z:Int} (hz:(10:Int)^n=z):ab Tryz.prog 259 [dN .i64 n] (.one (dZ z)):=by
 refine kV func259 ?_;refine kQ (fJ) ?_;refine dO (Nat × Int) (fun p=>p.1≤n∧p.2*10^p.1=z∧Sz (n-p.1+1) p.2) (fun p=>⟨[(0, .d (dN .i64 p.1)),(2, .box 0 0),(3, .box 1001 0)],[(0,some [.val (.bool false), .sl 0 []]),(1001,some (aZ p.2))]⟩) (fun p=>p.1) (n,1) ⟨Nat.le_refl _,by rw[Int.one_mul];exact hz,(Sz.small (z:=1) (by decide)).mono (by omega)⟩ (weak ⟨rfl,rfl,rfl,trivial⟩ ⟨rfl,rfl,trivial⟩ rfl) ?_;rintro⟨m,y⟩ ⟨hm,hy,hs⟩;dsimp only at hm hy hs ⊢;refine kW ?_;refine ee rfl (fun h=>?_) (fun h=>?_)
 ·have h4:4096<m:=by have:=of_decide_eq_true h;omega
  obtain⟨t,t1,t2,t3,_,t4⟩:=wG 4096 (Nat.le_refl _);refine kW ?_;refine aa (bK 10 (by decide) (by decide)) rfl rfl rfl rfl rfl rfl rfl ?_;refine kW ?_;refine kQ (t4) ?_;refine aa (bP (hs.fit (by omega)) t3) rfl rfl rfl rfl rfl rfl rfl ?_;refine kW ?_;refine⟨(m-4096,y*t),⟨by omega,?_,?_⟩,by dsimp only;omega,weak ⟨?_,rfl,rfl,trivial⟩ ⟨rfl,rfl,trivial⟩ rfl⟩
  ·exact(t1 y m (by omega)).trans hy
  ·exact t2 _ _ y hs (by dsimp only;omega)
  ·exact km (by omega) (by omega)
 ·have h4:m≤4096:=by have:=of_decide_eq_false h;omega
  obtain⟨t,_,_,t3,ht,t4⟩:=wG m h4;refine eI ?_;refine kW ?_;refine aa (bK 10 (by decide) (by decide)) rfl rfl rfl rfl rfl rfl rfl ?_;refine kW ?_;refine kQ (t4) ?_;refine aa (bP (hs.fit (by omega)) t3) rfl rfl rfl rfl rfl rfl rfl ?_;refine kW ?_;rw[← hy,ht];exact cJ (T:=TT) rfl rfl
theorem ef {l:List UInt8} (h:∀c∈l,eF c):Sz l.length (num l:Int):=by
 unfold Sz;rw[Int.natAbs_natCast];exact Nat.lt_of_lt_of_le (nT _ l rfl h) (Nat.pow_le_pow_left (by decide) _)
theorem mA {a b:List UInt8} (hl:a.length+b.length≤65536) (ha:gU false a) (hb:b≠[]) (hd:∀x∈b,eF x) {q:Rat} (hq:Rat.divInt ((num a*10^b.length+num b:Nat):Int) ((10^b.length:Nat):Int)=q):ab Tryz.prog 212 [dL a,dL b] (.tup [dQ q,dB true]):=by
 obtain⟨p,hp⟩:∃p,(10:Int)^b.length=p:=⟨_,rfl⟩;have hpc:((10^b.length:Nat):Int)=p:=by rw[← hp,Int.natCast_pow];rfl
 have hp0:p≠0:=by rw[← hpc];have:=Nat.pow_pos (a:=10) (n:=b.length) (by decide);omega
 have sp:Sz (b.length+1) p:=by rw[← hp];exact jS _
 have sa:=ef (ct ha);have sb:=ef hd;have hn:((num a*10^b.length+num b:Nat):Int)=(num a:Int)*p+num b:=by rw[Int.natCast_add,Int.natCast_mul,hpc]
 rw[hn,hpc]at hq;have sn:Sz (a.length+b.length+2) ((num a:Int)*p+num b):=(sa.mul sp).add (sb.mono (by omega));have c2:=fX (tX b);have htl:(tX b).length≤b.length:=(List.dropWhile_sublist _).length_le;have htd:∀c∈tX b,eF c:=fun c hc=>hd c ((List.dropWhile_sublist _).subset hc)
 rw[pP htd (by omega),rf]at c2
 by_cases ht:tX b=[]
 ·have hb0:num b=0:=by rw[← rf,ht];rfl
  rw[hb0]at hq sn;refine kV func212 ?_;refine aa (a8 (by omega) ha) rfl rfl rfl rfl rfl rfl rfl ?_;refine kW ?_;refine aa (cW (b:=true) (by omega) (dH.2 ⟨hd,hb⟩)) rfl rfl rfl rfl rfl rfl rfl ?_;refine kW ?_;refine kC (ia b) ?_;refine kN ?_;refine kR ?_;refine kI ?_;refine kO ?_;refine eQ rfl rfl rfl rfl rfl rfl rfl (uH (a:=tX b) (b:=[]) ht) ?_;refine kW ?_;refine aa (jV (n:=b.length) (by omega) hp) rfl rfl rfl rfl rfl rfl rfl ?_;refine kW ?_;refine aa (bP (sa.fit (by omega)) (sp.fit (by omega))) rfl rfl rfl rfl rfl rfl rfl ?_;refine kW ?_
  refine aa (nV (na:=decide ((num a:Int)*p<0)) (xs:=digs ((num a:Int)*p).natAbs) (nb:=false) (ys:=[]) (ai _) Wd.nil ((sa.mul sp).fit (by omega)) (by unfold gW;simp) (z:=(num a:Int)*p+(0:Nat)) (by rw[au];rfl)) rfl rfl rfl rfl rfl rfl rfl ?_;refine kW ?_;refine aa (dF sn (sp.mono (by omega)) (by omega) hp0 hq) rfl rfl rfl rfl rfl rfl rfl ?_;exact kF
 ·rw[if_pos (xA hd ht)]at c2
  refine kV func212 ?_;refine aa (a8 (by omega) ha) rfl rfl rfl rfl rfl rfl rfl ?_;refine kW ?_;refine aa (cW (b:=true) (by omega) (dH.2 ⟨hd,hb⟩)) rfl rfl rfl rfl rfl rfl rfl ?_;refine kW ?_;refine kC (ia b) ?_;refine kN ?_;refine kR ?_;refine kI ?_;refine kO ?_;refine eQ rfl rfl rfl rfl rfl rfl rfl (uk (a:=tX b) (b:=[]) ht) ?_;refine kW ?_;refine kQ (c2) ?_;refine aa (jV (n:=b.length) (by omega) hp) rfl rfl rfl rfl rfl rfl rfl ?_;refine kW ?_;refine aa (bP (sa.fit (by omega)) (sp.fit (by omega))) rfl rfl rfl rfl rfl rfl rfl ?_;refine kW ?_;refine aa (ge ((sa.mul sp).fit (by omega)) (sb.fit (by omega))) rfl rfl rfl rfl rfl rfl rfl ?_;refine kW ?_;refine aa (dF sn (sp.mono (by omega)) (by omega) hp0 hq) rfl rfl rfl rfl rfl rfl rfl ?_
  exact kF
theorem lE {a b:List UInt8} (hl:a.length+b.length≤65536) (h:¬(gU false a∧b≠[]∧ ∀x∈b,eF x)):ab Tryz.prog 212 [dL a,dL b] (.tup [sN,dB false]):=by
 by_cases ha:gU false a
 ·refine kV func212 ?_;refine aa (a8 (by omega) ha) rfl rfl rfl rfl rfl rfl rfl ?_;refine kW ?_;refine aa (cW (l:=b) (b:=false) (by omega) (Bool.eq_false_iff.2 fun hb=>h ⟨ha,(dH.1 hb).2,(dH.1 hb).1⟩)) rfl rfl rfl rfl rfl rfl rfl ?_;exact kF
 ·refine kV func212 ?_;refine aa (cV (by omega) ha) rfl rfl rfl rfl rfl rfl rfl ?_;exact kF
theorem lm {a b:List UInt8} (hl:a.length+b.length≤65536) (h:gU false a∧gU false b∧num b≠0∧num b≠1∧Nat.gcd (num a) (num b)=1) {q:Rat} (hq:Rat.divInt (num a:Int) (num b:Int)=q):ab Tryz.prog 211 [dL a,dL b] (.tup [dQ q,dB true]):=by
 obtain⟨h1,h2,h3,h4,h5⟩:=h;have sa:=ef (ct h1);have sb:=ef (ct h2)
 have e:q.num=num a∧q.den=num b:=by
  refine uK (Nat.pos_of_ne_zero h3) (by rw[Int.natAbs_natCast];exact h5) ?_;have h0:(q.den:Int)≠0:=by have:=co q;omega
  have:=(Rat.divInt_eq_divInt_iff h0 (show(num b:Int)≠0 by omega)).1 ((ld q).trans hq.symm);exact this.symm
 rw[mr e.1 (d:=num b) (by rw[e.2])];refine kV func211 ?_;refine aa (a8 (by omega) h1) rfl rfl rfl rfl rfl rfl rfl ?_;refine kW ?_;refine aa (a8 (by omega) h2) rfl rfl rfl rfl rfl rfl rfl ?_;refine kW ?_;refine aa (bM (decide_eq_false (show ¬(num b:Int)=0 by omega))) rfl rfl rfl rfl rfl rfl rfl ?_;refine kW ?_;refine aa (aU (decide_eq_false (show ¬(num b:Int)=1 by omega))) rfl rfl rfl rfl rfl rfl rfl ?_;refine kW ?_;refine aa (gy (sa.fit (by omega)) (sb.fit (by omega)) (g:=1) (by rw[Int.natAbs_natCast,Int.natAbs_natCast];exact h5)) rfl rfl rfl rfl rfl rfl rfl ?_;refine kW ?_;refine kC (aU (b:=true) rfl) ?_;exact kF
theorem kr {a b:List UInt8} (hl:a.length+b.length≤65536) (h:¬(gU false a∧gU false b∧num b≠0∧num b≠1∧Nat.gcd (num a) (num b)=1)):ab Tryz.prog 211 [dL a,dL b] (.tup [sN,dB false]):=by
 by_cases h1:gU false a
 ·by_cases h2:gU false b
  ·have sa:=ef (ct h1)
   have sb:=ef (ct h2)
   by_cases h3:num b=0
   ·refine kV func211 ?_;refine aa (a8 (by omega) h1) rfl rfl rfl rfl rfl rfl rfl ?_;refine kW ?_;refine aa (a8 (by omega) h2) rfl rfl rfl rfl rfl rfl rfl ?_;refine kW ?_;refine aa (bM (decide_eq_true (show(num b:Int)=0 by omega))) rfl rfl rfl rfl rfl rfl rfl ?_;exact kF
   ·by_cases h4:num b=1
    ·refine kV func211 ?_;refine aa (a8 (by omega) h1) rfl rfl rfl rfl rfl rfl rfl ?_;refine kW ?_;refine aa (a8 (by omega) h2) rfl rfl rfl rfl rfl rfl rfl ?_;refine kW ?_;refine aa (bM (decide_eq_false (show ¬(num b:Int)=0 by omega))) rfl rfl rfl rfl rfl rfl rfl ?_;refine kW ?_;refine aa (aU (decide_eq_true (show(num b:Int)=1 by omega))) rfl rfl rfl rfl rfl rfl rfl ?_;exact kF
    ·obtain⟨g,hg⟩:∃g,Nat.gcd (num a) (num b)=g:=⟨_,rfl⟩
     have hg1:g≠1:=fun e=>h ⟨h1,h2,h3,h4,hg.trans e⟩
     refine kV func211 ?_;refine aa (a8 (by omega) h1) rfl rfl rfl rfl rfl rfl rfl ?_;refine kW ?_;refine aa (a8 (by omega) h2) rfl rfl rfl rfl rfl rfl rfl ?_;refine kW ?_;refine aa (bM (decide_eq_false (show ¬(num b:Int)=0 by omega))) rfl rfl rfl rfl rfl rfl rfl ?_;refine kW ?_;refine aa (aU (decide_eq_false (show ¬(num b:Int)=1 by omega))) rfl rfl rfl rfl rfl rfl rfl ?_;refine kW ?_;refine aa (gy (sa.fit (by omega)) (sb.fit (by omega)) (g:=g) (by rw[Int.natAbs_natCast,Int.natAbs_natCast];exact hg)) rfl rfl rfl rfl rfl rfl rfl ?_;refine kW ?_;refine aa (aU (decide_eq_false (show ¬(g:Int)=1 by omega))) rfl rfl rfl rfl rfl rfl rfl ?_;exact kF
  ·refine kV func211 ?_;refine aa (a8 (by omega) h1) rfl rfl rfl rfl rfl rfl rfl ?_;refine kW ?_;refine aa (cV (by omega) h2) rfl rfl rfl rfl rfl rfl rfl ?_;exact kF
 ·by_cases h2:gU false b
  ·refine kV func211 ?_;refine aa (cV (by omega) h1) rfl rfl rfl rfl rfl rfl rfl ?_;refine kW ?_;refine aa (a8 (by omega) h2) rfl rfl rfl rfl rfl rfl rfl ?_;exact kF
  ·refine kV func211 ?_;refine aa (cV (by omega) h1) rfl rfl rfl rfl rfl rfl rfl ?_;refine kW ?_;refine aa (cV (by omega) h2) rfl rfl rfl rfl rfl rfl rfl ?_;exact kF
theorem ol {c:UInt8} {t:List UInt8} (h:c∈t):∃a b,t=a++c::b∧c ∉ a:=by
 induction t with
 |nil=>cases h
 |cons x t ih=>
  by_cases hx:x=c
  ·subst hx;exact⟨[],t,rfl,by simp⟩
  ·have h':c∈t:=by
    rcases List.mem_cons.1 h with e|e
    ·exact absurd e.symm hx
    ·exact e
   obtain⟨a,b,rfl,hn⟩:=ih h'
   exact⟨x::a,b,rfl,fun e=>by
    rcases List.mem_cons.1 e with e|e
    ·exact hx e.symm
    ·exact hn e⟩
theorem gK {t:List UInt8} (hl:t.length≤65536):(∃q,fC t=some q∧fy 200000 q∧ab Tryz.prog 148 [dL t] (.tup [dQ q,dB true]))∨(fC t=none∧ ∃x,(x=sN∨x= .agg (aZ 0++aZ 1))∧ab Tryz.prog 148 [dL t] (.tup [x,dB false])):=by
 by_cases h47:47∈t
 ·obtain⟨a,b,rfl,ha⟩:=ol h47
  have hab:a.length+b.length≤65536:=by simp at hl;omega
  rw[lS ha]
  by_cases h:gU false a∧gU false b∧num b≠0∧num b≠1∧Nat.gcd (num a) (num b)=1
  ·rw[if_pos h]
   refine .inl ⟨_,rfl, .divInt ((ef (ct h.1)).mono (by omega)) ((ef (ct h.2.1)).mono (by omega)) (by have:=h.2.2.1;omega),?_⟩;refine kV func148 ?_;refine aa (nj ha (by omega)) rfl rfl rfl rfl rfl rfl rfl ?_;refine kW ?_;refine kC (lm hab h rfl) ?_;exact kF
  ·rw[if_neg h]
   refine .inr ⟨rfl,sN, .inl rfl,?_⟩;refine kV func148 ?_;refine aa (nj ha (by omega)) rfl rfl rfl rfl rfl rfl rfl ?_;refine kW ?_;refine kC (kr hab h) ?_;exact kF
 by_cases h46:46∈t
 ·obtain⟨a,b,rfl,ha⟩:=ol h46
  have hab:a.length+b.length≤65536:=by simp at hl;omega
  rw[rE h47 ha]
  by_cases h:gU false a∧b≠[]∧ ∀x∈b,eF x
  ·rw[if_pos h]
   have hp0:((10^b.length:Nat):Int)≠0:=by have:=Nat.pow_pos (a:=10) (n:=b.length) (by decide);omega
   have s1:Sz 200000 ((10^b.length:Nat):Int):=by rw[Int.natCast_pow];exact(jS b.length).mono (by omega)
   have s2:Sz 200000 ((num a*10^b.length+num b:Nat):Int):=by
    rw[Int.natCast_add,Int.natCast_mul,Int.natCast_pow];exact(((ef (ct h.1)).of_pow (j:=131072) (by omega)).add ((ef h.2.2).mono (by omega))).mono (by omega)
   refine .inl ⟨_,rfl, .divInt s2 s1 hp0,?_⟩;refine kV func148 ?_;refine kQ (eb h47) ?_;refine aa (nj ha (by omega)) rfl rfl rfl rfl rfl rfl rfl ?_;refine kW ?_;refine kC (mA hab h.1 h.2.1 h.2.2 rfl) ?_;exact kF
  ·rw[if_neg h]
   refine .inr ⟨rfl,sN, .inl rfl,?_⟩;refine kV func148 ?_;refine kQ (eb h47) ?_;refine aa (nj ha (by omega)) rfl rfl rfl rfl rfl rfl rfl ?_;refine kW ?_;refine kC (lE hab h) ?_;exact kF
 rw[oj h47 h46]
 by_cases h:gU false t
 ·rw[if_pos h]
  refine .inl ⟨_,rfl,⟨(ef (ct h)).mono (by omega),(Sz.small (z:=1) (by decide)).mono (by omega)⟩,?_⟩;refine kV func148 ?_;refine kQ (eb h47) ?_;refine kQ (eb h46) ?_;refine kQ (a8 hl h) ?_;refine kC (fJ) ?_;exact kF
 ·rw[if_neg h]
  refine .inr ⟨rfl,_, .inr rfl,?_⟩;refine kV func148 ?_;refine kQ (eb h47) ?_;refine kQ (eb h46) ?_;refine kQ (cV hl h) ?_;refine kC (fJ) ?_;exact kF
theorem pG {s:List UInt8} {q:Rat} (h:eJ s=some q):ab Tryz.prog 89 [dL s] (.tup [dQ q,dN .i64 0]):=by
 have hsz:=bD s;unfold eJ at h
 split at h
 ·rename_i hl
  have hdl:=nS s;rcases gK (t:=js s) (by omega)with⟨p,hp,sp,c1⟩| ⟨hp,_⟩
  ·rw[hp]at h
   dsimp only at h;cases hn:cL s
   ·rw[hn]at h
    simp only[Bool.false_eq_true,if_false,Option.some.injEq]at h
    subst h;refine kV func89 ?_;refine kQ (gP s) ?_;refine cP (T:=TT) rfl ?_ ?_
    ·exact decide_eq_false (by omega)
    refine kW ?_;refine kC (c1) ?_;refine kN ?_;refine kI ?_
    refine kO3 ?_
    refine kB false ?_ ?_
    ·exact hn
    refine kW ?_;refine cP (T:=TT) rfl ?_ ?_
    ·exact hn
    exact kF
   ·rw[hn]at h
    simp only[if_true]at h
    split at h
    ·cases h
    ·rename_i hp0
     cases h;have h0:¬p.num=0:=fun e=>hp0 (Rat.num_eq_zero.1 e)
     refine kV func89 ?_;refine kQ (gP s) ?_;refine cP (T:=TT) rfl ?_ ?_
     ·exact decide_eq_false (by omega)
     refine kW ?_;refine kC (c1) ?_;refine kN ?_;refine kI ?_
     refine kO3 ?_
     refine kB true ?_ ?_
     ·exact hn
     refine kW ?_;refine kQ (bM (decide_eq_false h0)) ?_;refine fb (T:=TT) rfl ?_ ?_
     ·exact hn
     refine kW ?_;refine aa (uy sp (by decide) rfl) rfl rfl rfl rfl rfl rfl rfl ?_;exact kF
  ·rw[hp]at h;cases h
 ·cases h
theorem jf {s:List UInt8} (h:eJ s=none):ab Tryz.prog 89 [dL s] (.tup [sN,dN .i64 2]):=by
 have hsz:=bD s
 by_cases hl:s.length≤65536
 ·have hdl:=nS s
  unfold eJ at h;rw[if_pos hl]at h;rcases gK (t:=js s) (by omega)with⟨p,hp,sp,c1⟩| ⟨hp,x,hx,c1⟩
  ·rw[hp]at h
   dsimp only at h;cases hn:cL s
   ·rw[hn]at h
    simp at h
   ·rw[hn]at h
    simp only[if_true]at h
    split at h
    ·rename_i hp0
     have h0:p.num=0:=Rat.num_eq_zero.2 hp0;refine kV func89 ?_;refine kQ (gP s) ?_;refine cP (T:=TT) rfl ?_ ?_
     ·exact decide_eq_false (by omega)
     refine kW ?_;refine kC (c1) ?_;refine kN ?_;refine kI ?_
     refine kO3 ?_
     refine kB true ?_ ?_
     ·exact hn
     refine kW ?_;refine kC (bM (decide_eq_true h0)) ?_;exact kF
    ·cases h
  ·rcases hx with rfl|rfl
   ·refine kV func89 ?_;refine kQ (gP s) ?_;refine cP (T:=TT) rfl ?_ ?_
    ·exact decide_eq_false (by omega)
    refine kW ?_;refine kC (c1) ?_;exact kF
   ·refine kV func89 ?_;refine kQ (gP s) ?_;refine cP (T:=TT) rfl ?_ ?_
    ·exact decide_eq_false (by omega)
    refine kW ?_;refine kC (c1) ?_;exact kF
 ·refine kV func89 ?_;refine kQ (gP s) ?_;refine fb (T:=TT) rfl ?_ ?_
  ·exact decide_eq_true (by omega)
  exact kF
section
open Go.ChangeShapes Go.WideShapes Go.ChangeAt Go.RowKit Go.Joins
section
variable {H:Type} {enc:TypeId × Value→H} {W:World} {P:Program}
end
end
section
open Go.ChangeShapes Go.WideShapes Go.ChangeAt Go.RowKit Go.Joins
section
variable {H:Type} {enc:TypeId × Value→H} {W:World} {P:Program} {held:Bool}
end
end
section
open Go.ChangeShapes Go.WideShapes Go.ChangeAt Go.RowKit Go.Joins
theorem iJ {P:Program} {W:World} {name:String} {d:DataW Unit}:∀{laid:List (String × DataW Unit)} {ps:List MemPlace},DataW.LaidVars P W laid ps→(name,d)∈laid →
 ∃g t cs fuel p,P.globalNamed name=some g∧(P.globals[g]?).map (·.type)=some t∧W.var? P name=some cs∧DataW.trod (fun _=>()) P W 0 (fun _=>true) false fuel t cs.toList=some (d,p)
 | [],_,_,h=>by cases h
 |(n,d')::rest,ps,h,hm=>by
  obtain⟨g,t,cs,fuel,p,q,h1,h2,h3,h4,h5,_⟩:=h;rcases List.mem_cons.1 hm with e|e
  ·cases e
   exact⟨g,t,cs,fuel,p,h1,h2,h3,h4⟩
  ·exact iJ h5 e
theorem sj:Tryz.prog.cellsOf 148=1:=by kernel_rfl
theorem wk:Tryz.prog.globalNamed "internal/strconv.uint64pow10" =some 3:=by kernel_rfl
theorem vy:(Tryz.prog.globals[3]?).map (·.type)=some 270:=by kernel_rfl
theorem vK:Tryz.prog.cellsOf 270=20:=by kernel_rfl
theorem vO {laid:List (String × DataW Unit)} (hp:(laid.all fun x=>x.2.handleName?.isNone)=true) (hm:("internal/strconv.uint64pow10",Rows.laid_internal_strconv_uint64pow10)∈laid)
 {W:World} (h:laidMetH Tryz.prog laid W):bZ (fun _=>False) W:=by
 rw[MakeChecks.laidMetH_plain _ _ _ hp]at h;obtain⟨ps,hv,_⟩:=h;obtain⟨g,t,cs,fuel,p,h1,h2,h3,h4⟩:=iJ hv hm;obtain rfl:=Option.some.inj (wk.symm.trans h1);obtain rfl:=Option.some.inj (vy.symm.trans h2);have hd:(Rows.laid_internal_strconv_uint64pow10:DataW Unit)=Lib.tabData .u64 Lib.pow10Tab:=rfl;rw[hd]at h4
 have ht:Lib.TabIs Tryz.prog W "internal/strconv.uint64pow10" .u64 Lib.pow10Tab:=by
  unfold Lib.TabIs;rw[h3,← Lib.cells_of_tab underlying270 underlying148 sj vK h4]
 refine⟨Lib.tabBelow_of_tabIs ht,fun _ h=>h.elim,fun k cs h=>?_⟩;unfold GT at h;cases h
end
section
open Go.ChangeShapes Go.WideShapes Go.ChangeAt Go.RowKit Go.Joins
set_option maxRecDepth 100000 in
theorem md {H:Type} {enc:TypeId × Value→H} {W:World} {c0 c1:Value} {n:Nat} {x:DataW H × List MemPlace} (h:DataW.trod enc Tryz.prog W 0 (fun _=>true) true n 36 [c0,c1]=some x):
 ∃na xs A k c,c0= .bool na∧c1= .slice A k c∧aj W A k c xs:=by
 obtain⟨y0,y1,m,hx,_,hy0,hy1⟩:=trod_struct2 underlying36 h;have hy0:DataW.trod enc Tryz.prog W 0 (fun _=>true) true m 4 (([c0,c1].drop 0).take (Tryz.prog.cellsOf 4))=some y0:=hy0;have hy1:DataW.trod enc Tryz.prog W 0 (fun _=>true) true m 34 (([c0,c1].drop 1).take (Tryz.prog.cellsOf 34))=some y1:=hy1;rw[show Tryz.prog.cellsOf 4=1 by kernel_rfl]at hy0;rw[show Tryz.prog.cellsOf 34=1 by kernel_rfl]at hy1;have hy0:DataW.trod enc Tryz.prog W 0 (fun _=>true) true m 4 [c0]=some y0:=hy0;have hy1:DataW.trod enc Tryz.prog W 0 (fun _=>true) true m 34 [c1]=some y1:=hy1;obtain⟨na,e0,-⟩:=DataW.trod_bool underlying4 hy0;rw[List.cons.injEq]at e0;obtain⟨rfl,-⟩:=e0;rcases open_ints underlying34 underlying133 (by kernel_rfl) hy1 with⟨e1,-⟩| ⟨a,len,cap,zs,e1,-,hl,hm,hz,-,hcell,hwf⟩
 ·have e1:[c1]=[Value.slice none 0 0]:=e1
  rw[List.cons.injEq]at e1;obtain⟨rfl,-⟩:=e1;exact⟨na,[],_,_,_,rfl,rfl,aj.nil W⟩
 ·have e1:[c1]=[Value.slice (some a) len cap]:=e1
  rw[List.cons.injEq]at e1;obtain⟨rfl,-⟩:=e1;rw[if_pos rfl]at hz
  have hb:∀i,i<zs.length→0≤zs.getD i 0∧zs.getD i 0≤4294967295:=by
   intro i hi;have:=hwf (zs.getD i 0) (by rw[List.getD_eq_getElem?_getD,List.getElem?_eq_getElem hi];simp);exact bounds_u32 this
  refine⟨na,(zs.take len).map Int.toNat,some a,len,cap,rfl,rfl,⟨by simp;omega,hl,by unfold maxLen at hm;omega,?_,?_,fun h=>by cases h⟩⟩
  ·intro x hx
   rw[List.mem_map]at hx;obtain⟨n,hn,rfl⟩:=hx;have:=bounds_u32 (hwf n (List.mem_of_mem_take hn));omega
  ·by_cases h0:len=0
   ·subst h0;exact .inl (by simp)
   ·obtain⟨b,off,rfl,hc⟩:=ints_at hcell (by omega)
    refine .inr ⟨b,off,rfl,fun i v hv=>?_⟩;rw[List.getElem?_map,List.getElem?_map,List.getElem?_take]at hv
    split at hv
    ·rename_i hi
     have hi':i<zs.length:=by omega
     rw[List.getElem?_eq_getElem hi']at hv
     simp only[Option.map_some,Option.some.injEq]at hv
     subst hv;have h1:=hc i hi';have h2:=hb i hi';rw[List.getD_eq_getElem?_getD,List.getElem?_eq_getElem hi',Option.getD_some]at h1 h2;rw[h1]
     simp only[aS,Option.some.injEq,Value.int.injEq,true_and]
     omega
    ·cases hv
def wS (w:World) (v:Value) (na:Bool) (xs:List Nat) (nb:Bool) (ys:List Nat):Prop:=∃A n c B m d,v= .agg #[.bool na, .slice A n c, .bool nb, .slice B m d]∧aj w A n c xs∧aj w B m d ys
theorem q7 {w:World} {v:Value} {na nb:Bool} {xs ys:List Nat} (h:wS w v na xs nb ys):Wd xs∧Wd ys:=by
 obtain⟨_,_,_,_,_,_,_,h1,h2⟩:=h;exact⟨h1.wd,h2.wd⟩
theorem xg {S:Nat→Prop} {w:World} (h:bZ S w) {v:Value} {na nb:Bool} {xs ys:List Nat} (hv:wS w v na xs nb ys):DV.M S w (xb na xs nb ys) v:=by
 obtain⟨A,n,c,B,m,d,rfl,h1,h2⟩:=hv;exact⟨[.bool na, .slice A n c, .bool nb, .slice B m d],rfl,CM.cons (.val rfl) (CM.cons (iE h h1) (CM.cons (.val rfl) (CM.cons (iE h h2) (CM.nil _ _))))⟩
set_option maxRecDepth 100000 in
theorem ux {H:Type} {enc:TypeId × Value→H} {W:World} {r:Reach} {b0:Nat} {v:Value} {d:DataW H} {p:List MemPlace} (hv:Value.okWide Tryz.prog W r b0 38 v) (h:DataW.Trod enc Tryz.prog W 0 (fun _=>true) true 38 v d p):
 ∃na xs nb ys,wS W v na xs nb ys:=by
 obtain⟨cs,rfl,hsz⟩:=okWide_struct underlying38 hv;have h4:Tryz.prog.cellsOf 38=4:=by kernel_rfl
 have hz:Tryz.prog.cellsOf 36=2:=by kernel_rfl
 rw[h4]at hsz;obtain⟨l⟩:=cs;obtain⟨fuel,hf⟩:=h
 match l,hsz with
 | [c0,c1,c2,c3],_=>
  obtain⟨y0,y1,m,hx,_,hy0,hy1⟩:=trod_struct2 underlying38 hf;have hy0:DataW.trod enc Tryz.prog W 0 (fun _=>true) true m 36 (([c0,c1,c2,c3].drop 0).take (Tryz.prog.cellsOf 36))=some y0:=hy0;have hy1:DataW.trod enc Tryz.prog W 0 (fun _=>true) true m 36 (([c0,c1,c2,c3].drop 2).take (Tryz.prog.cellsOf 36))=some y1:=hy1;rw[hz]at hy0 hy1;have hy0:DataW.trod enc Tryz.prog W 0 (fun _=>true) true m 36 [c0,c1]=some y0:=hy0;have hy1:DataW.trod enc Tryz.prog W 0 (fun _=>true) true m 36 [c2,c3]=some y1:=hy1;obtain⟨na,xs,A,k,c,rfl,rfl,h1⟩:=md hy0;obtain⟨nb,ys,B,j,d,rfl,rfl,h2⟩:=md hy1;exact⟨na,xs,nb,ys,A,k,c,B,j,d,rfl,h1,h2⟩
theorem fF {a q:Rat} {r t:Nat} (h1:(digs a.num.natAbs).length≤2147483) (h2:(digs (a.den:Int).natAbs).length≤2147483) (hr:(r:Int)*r=a.num) (ht:t*t=a.den) (hq:q.num=r∧q.den=t):ab Tryz.prog 44 [dQ a] (.tup [dQ q,dB true]):=by
 have hn:a.num.natAbs=r*r:=by rw[← hr,Int.natAbs_mul,Int.natAbs_natCast]
 have e1:r*r≤a.num.natAbs∧a.num.natAbs<(r+1)*(r+1):=by rw[hn];exact⟨Nat.le_refl _,Nat.mul_lt_mul'' (Nat.lt_succ_self r) (Nat.lt_succ_self r)⟩
 have e2:t*t≤(a.den:Int).natAbs∧(a.den:Int).natAbs<(t+1)*(t+1):=by rw[Int.natAbs_natCast,← ht];exact⟨Nat.le_refl _,Nat.mul_lt_mul'' (Nat.lt_succ_self t) (Nat.lt_succ_self t)⟩
 have h0:0≤a.num:=by rw[← hr];exact Int.mul_nonneg (by omega) (by omega)
 rw[mr hq.1 (d:=t) (by rw[hq.2])];refine kV func44 ?_;refine kQ (dx h0 h1 e1.1 e1.2 (decide_eq_true hr)) ?_;refine aa (dx (by omega) h2 e2.1 e2.2 (decide_eq_true (show(t:Int)*t=(a.den:Int) by rw[← ht];rfl))) rfl rfl rfl rfl rfl rfl rfl ?_;exact kF
theorem ju {a:Rat} {r t:Nat} (h1:(digs a.num.natAbs).length≤2147483) (h2:(digs (a.den:Int).natAbs).length≤2147483) (h0:0≤a.num) (e1:r*r≤a.num.natAbs∧a.num.natAbs<(r+1)*(r+1)) (e2:t*t≤(a.den:Int).natAbs∧(a.den:Int).natAbs<(t+1)*(t+1)) (h:¬((r:Int)*r=a.num∧t*t=a.den)):ab Tryz.prog 44 [dQ a] (.tup [sN,dB false]):=by
 by_cases hr:(r:Int)*r=a.num
 ·have ht:¬(t:Int)*t=(a.den:Int):=fun e=>h ⟨hr,by exact_mod_cast e⟩
  refine kV func44 ?_;refine kQ (dx h0 h1 e1.1 e1.2 (decide_eq_true hr)) ?_;refine aa (dx (by omega) h2 e2.1 e2.2 (decide_eq_false ht)) rfl rfl rfl rfl rfl rfl rfl ?_;exact kF
 ·obtain⟨b,hb⟩:∃b,decide ((t:Int)*t=(a.den:Int))=b:=⟨_,rfl⟩
  refine kV func44 ?_;refine kQ (dx h0 h1 e1.1 e1.2 (decide_eq_false hr)) ?_;refine aa (dx (by omega) h2 e2.1 e2.2 hb) rfl rfl rfl rfl rfl rfl rfl ?_;exact kF
theorem oW {a:Rat} (h2:(digs (a.den:Int).natAbs).length≤2147483) (h0:a.num<0):ab Tryz.prog 44 [dQ a] (.tup [sN,dB false]):=by
 obtain⟨t,t1,t2⟩:=eW a.den;obtain⟨b,hb⟩:∃b,decide ((t:Int)*t=(a.den:Int))=b:=⟨_,rfl⟩;refine kV func44 ?_;refine kQ (qu h0) ?_;refine aa (dx (by omega) h2 (r:=t) (by rw[Int.natAbs_natCast];exact t1) (by rw[Int.natAbs_natCast];exact t2) hb) rfl rfl rfl rfl rfl rfl rfl ?_;exact kF
theorem dt {n d a:Int} {b:Nat} (hd:d≠0) (hb:b≠0) (hc:Nat.Coprime a.natAbs b) (h:n*b=a*d):Rat.divInt n d=⟨a,b,hb,hc⟩:=by
 have h1:=Rat.num_divInt_den (⟨a,b,hb,hc⟩:Rat);rw[← h1,Rat.divInt_eq_divInt_iff hd (by show(b:Int)≠0;omega)];exact h
theorem im {n:Nat} (h0:n≠0) (h:n<10):mq n=[dg n]:=by rw[fq h0,show n/10=0 by omega,fN,show n%10=n by omega];rfl
theorem wT:mq 15=[49,53]:=by rw[fq (by decide),im (by decide) (by decide)];rfl
theorem xB {b:Bool} {c:UInt8} {r:List UInt8} (h:(c::r).all ny=true) (hc:c≠48):gU b (c::r):=⟨by simp,fun x hx=>ep.1 (List.all_eq_true.1 h x hx), .inl fun x y e=>by cases e;exact hc⟩
theorem vx:eJ [45,49,46,50,53,48]=some ⟨-5,4,by decide,by decide⟩:=by
 have h:fC [49,46,50,53,48]=some (Rat.divInt ((num [49]*10^[50,53,48].length+num [50,53,48]:Nat):Int) ((10^[50,53,48].length:Nat):Int)):=by
  have:=rE (a:=[49]) (b:=[50,53,48]) (by decide) (by decide);rw[if_pos ⟨xB (by decide) (by decide),by simp,by decide⟩]at this;exact this
 have e:Rat.divInt ((num [49]*10^[50,53,48].length+num [50,53,48]:Nat):Int) ((10^[50,53,48].length:Nat):Int)=⟨5,4,by decide,by decide⟩:=dt (by decide) (by decide) (by decide) (by decide);rw[e]at h;unfold eJ;rw[if_pos (by decide)];show(match fC [49,46,50,53,48]with|none=>none|some q=>if true=true then(if q=0 then none else some (-q))else some q)=_;rw[h];rfl
theorem vn:eJ [50,47,52]=none:=by
 have h:fC [50,47,52]=none:=by
  have:=lS (a:=[50]) (b:=[52]) (by decide);rw[if_neg (fun e=>absurd e.2.2.2.2 (by decide))]at this;exact this
 unfold eJ;rw[if_pos (by decide)];show(match fC [50,47,52]with|none=>none|some q=>if false=true then(if q=0 then none else some (-q))else some q)=_;rw[h]
theorem vu:eJ [45,48]=none:=by
 have h:fC [48]=some 0:=by
  have:=oj (a:=[48]) (by decide) (by decide);rw[if_pos ⟨by simp,by decide, .inr ⟨rfl,rfl⟩⟩]at this;exact this
 unfold eJ;rw[if_pos (by decide)];show(match fC [48]with|none=>none|some q=>if true=true then(if q=0 then none else some (-q))else some q)=_;rw[h];rfl
end
section
open Go.ChangeShapes Go.WideShapes Go.ChangeAt Go.RowKit Go.Joins
theorem lr {q:Rat} (h1:q.num.natAbs<4294967296) (h2:(q.den:Int).natAbs<4294967296):fy 1 q:=⟨.small h1, .small h2⟩
theorem cX:ab Tryz.prog 42 [] (.one (dB true)):=by
 have e1:(⟨1,6,by decide,by decide⟩+⟨1,10,by decide,by decide⟩:Rat)=⟨4,15,by decide,by decide⟩:=by rw[← fe];exact dt (by decide) (by decide) (by decide) (by decide)
 have e2:(⟨-7,2,by decide,by decide⟩:Rat).floor= -4:=by rw[Rat.floor_def];rfl
 have t1:ke ⟨4,15,by decide,by decide⟩=[52,47,49,53]:=by
  unfold ke fmt
  simp[im,wT]
  decide
 have t2:ke ⟨3,2,by decide,by decide⟩=[51,47,50]:=by
  unfold ke fmt
  simp[im]
  decide
 have t3:ke ⟨-5,4,by decide,by decide⟩=[45,53,47,52]:=by
  unfold ke fmt
  simp[im]
  decide
 refine kV func42 ?_;refine aa (eP 1 6 (by decide) (by decide) (by decide) (by decide) (q:=⟨1,6,by decide,by decide⟩) (dt (by decide) (by decide) (by decide) (by decide))) rfl rfl rfl rfl rfl rfl rfl ?_;refine kW ?_;refine aa (eP 1 10 (by decide) (by decide) (by decide) (by decide) (q:=⟨1,10,by decide,by decide⟩) (dt (by decide) (by decide) (by decide) (by decide))) rfl rfl rfl rfl rfl rfl rfl ?_;refine kW ?_;refine aa (uW (lr (by decide) (by decide)) (lr (by decide) (by decide)) (by decide) e1) rfl rfl rfl rfl rfl rfl rfl ?_;refine kW ?_;refine aa (eP 9 4 (by decide) (by decide) (by decide) (by decide) (q:=⟨9,4,by decide,by decide⟩) (dt (by decide) (by decide) (by decide) (by decide))) rfl rfl rfl rfl rfl rfl rfl ?_;refine kW ?_
 refine aa (fF (a:=⟨9,4,by decide,by decide⟩) (q:=⟨3,2,by decide,by decide⟩) (r:=3) (t:=2) (Nat.le_trans (lr (q:=⟨9,4,by decide,by decide⟩) (by decide) (by decide)).1.digs (by decide)) (Nat.le_trans (lr (q:=⟨9,4,by decide,by decide⟩) (by decide) (by decide)).2.digs (by decide)) (by decide) (by decide) ⟨rfl,rfl⟩) rfl rfl rfl rfl rfl rfl rfl ?_;refine kW ?_;refine aa (eP 1 2 (by decide) (by decide) (by decide) (by decide) (q:=⟨1,2,by decide,by decide⟩) (dt (by decide) (by decide) (by decide) (by decide))) rfl rfl rfl rfl rfl rfl rfl ?_;refine kW ?_
 refine aa (ju (a:=⟨1,2,by decide,by decide⟩) (r:=1) (t:=1) (Nat.le_trans (lr (q:=⟨1,2,by decide,by decide⟩) (by decide) (by decide)).1.digs (by decide)) (Nat.le_trans (lr (q:=⟨1,2,by decide,by decide⟩) (by decide) (by decide)).2.digs (by decide)) (by decide) (by decide) (by decide) (by decide)) rfl rfl rfl rfl rfl rfl rfl ?_;refine kW ?_;refine kQ (pG vx) ?_;refine kQ (jf vn) ?_;refine kQ (jf vu) ?_;refine aa (eP (-7) 2 (by decide) (by decide) (by decide) (by decide) (q:=⟨-7,2,by decide,by decide⟩) (dt (by decide) (by decide) (by decide) (by decide))) rfl rfl rfl rfl rfl rfl rfl ?_;refine kW ?_;refine aa (qx (j:=1) (lr (by decide) (by decide)) (by decide) e2) rfl rfl rfl rfl rfl rfl rfl ?_;refine kW ?_
 refine aa (oa (a:= -4) (z:= -4) (b:=true) (.small (by decide)) rfl) rfl rfl rfl rfl rfl rfl rfl ?_;refine kW ?_;refine aa (fK (k:=1) (lr (by decide) (by decide)) (by decide) t1) rfl rfl rfl rfl rfl rfl rfl ?_;refine eQ rfl rfl rfl rfl rfl rfl rfl (kx (a:=[52,47,49,53]) (b:=[52,47,49,53]) rfl) ?_;refine kW ?_;refine aa (fK (k:=1) (lr (by decide) (by decide)) (by decide) t2) rfl rfl rfl rfl rfl rfl rfl ?_;refine eQ rfl rfl rfl rfl rfl rfl rfl (kx (a:=[51,47,50]) (b:=[51,47,50]) rfl) ?_;refine kW ?_;refine aa (fK (k:=1) (lr (by decide) (by decide)) (by decide) t3) rfl rfl rfl rfl rfl rfl rfl ?_;refine eQ rfl rfl rfl rfl rfl rfl rfl (kx (a:=[45,53,47,52]) (b:=[45,53,47,52]) rfl) ?_;exact kF
abbrev RP:=Bool × List Nat × Bool × List Nat
def aP (p:RP):List AV:=yD p.1 p.2.1 p.2.2.1 p.2.2.2
def xN (l:List RP):List AV:=l.flatMap aP
def nP (p:RP):Bool:=tY 20 p.1 p.2.1 p.2.2.1 p.2.2.2
def wE (q:Rat):RP:=(decide (q.num<0),digs q.num.natAbs,decide ((q.den:Int)<0),digs (q.den:Int).natAbs)
def ym (p:RP):Prop:=Wd p.2.1∧Wd p.2.2.2
theorem vd:∀{l:List RP} {i:Nat} {p:RP},l[i]? =some p→ ∀(j:Nat) (a:AV),(aP p)[j]? =some a→(xN l)[i*4+j]? =some a
 | [],i,p,h,_,_,_=>by simp at h
 |q::l,0,p,h,j,a,ha=>by
  simp at h;subst h
  have hj:j<4:=(List.getElem?_eq_some_iff.1 ha).1
  show(aP q++xN l)[0*4+j]? =_;rw[Nat.zero_mul,Nat.zero_add,List.getElem?_append_left (by exact hj)];exact ha
 |q::l,i+1,p,h,j,a,ha=>by
  have:=vd (l:=l) (i:=i) (by simpa using h) j a ha;rw[show(i+1)*4+j=4+(i*4+j) by omega];show(aP q++xN l)[4+(i*4+j)]? =_;rw[List.getElem?_append_right (by show 4≤_;omega)];rw[show 4+(i*4+j)-(aP q).length=i*4+j by show 4+(i*4+j)-4=_;omega];exact this
theorem eT (l:List RP) (hw:∀p∈l,ym p) (hlen:l.length≤1000) {b:Bool} (hb:l.all nP=b):ab Tryz.prog 43 [.leaf (.sl l.length (xN l))] (.one (dB b)):=by
 refine kV func43 ?_;refine dO Nat (fun j=>j≤l.length∧ ∀i p,i<j→l[i]? =some p→nP p=true) (fun j=>⟨[(5, .d (.leaf (.sl l.length (xN l)))),(6, .d (dN .i64 l.length)),(7, .d (dN .i64 j))],[]⟩) (fun j=>l.length-j) 0 ⟨Nat.zero_le _,fun i p h=>absurd h (Nat.not_lt_zero _)⟩ (weak ⟨rfl,rfl,rfl,trivial⟩ trivial rfl) ?_;rintro j ⟨hj,hall⟩;refine kW ?_;refine ee rfl (fun h=>?_) (fun h=>?_)
 ·have hlt:j<l.length:=by have:=of_decide_eq_true h;omega
  obtain⟨p,hp⟩:∃p,l[j]=p:=⟨_,rfl⟩;have hjp:l[j]? =some p:=by rw[List.getElem?_eq_getElem hlt,hp]
  have hwp:=hw p (List.mem_of_getElem? hjp);refine kW ?_;refine jh (cs':=aP p) hlt (vd hjp) (by show 0<4;decide) rfl rfl rfl rfl rfl rfl rfl rfl ?_;refine kW ?_;cases hf:nP p
  ·refine aa (lO (k:=20) (na:=p.1) (nb:=p.2.2.1) hwp.1 hwp.2 (by decide) hf) rfl rfl rfl rfl rfl rfl rfl ?_
   refine kW ?_
   have:b=false:=by
    rw[← hb,List.all_eq_false];exact⟨p,List.mem_of_getElem? hjp,by rw[hf];simp⟩
   rw[this];exact cJ (T:=TT) rfl rfl
  ·refine aa (lO (k:=20) (na:=p.1) (nb:=p.2.2.1) hwp.1 hwp.2 (by decide) hf) rfl rfl rfl rfl rfl rfl rfl ?_
   refine kW ?_;refine⟨j+1,⟨hlt,fun i p' hi hp'=>?_⟩,by omega,weak ⟨rfl,rfl,?_,trivial⟩ trivial rfl⟩
   ·rcases Nat.lt_succ_iff_lt_or_eq.1 hi with h3|rfl
    ·exact hall i p' h3 hp'
    ·rw[hjp]at hp';cases hp';exact hf
   ·exact km (by omega) (by omega)
 ·have hge:j=l.length:=by have:=of_decide_eq_false h;omega
  refine eI ?_;refine kW ?_
  have:b=true:=by
   rw[← hb,List.all_eq_true];intro p hp;obtain⟨i,hi⟩:=List.getElem?_of_mem hp;exact hall i p (by rw[hge];exact(List.getElem?_eq_some_iff.1 hi).1) hi
  rw[this];exact cJ (T:=TT) rfl rfl
theorem wm {p:RP} (hw:ym p) (h:nP p=true):∃q:Rat,aP p=aQ q∧fy 20 q:=by
 unfold nP tY at h
 simp only[Bool.and_eq_true,decide_eq_true_eq]at h
 obtain⟨q,e,e1,e2⟩:=rN hw.1 hw.2 h.2;exact⟨q,e, .of_digs (by rw[← e1];exact h.1.1), .of_digs (by rw[← e2];exact h.1.2)⟩
theorem yK {q:Rat} (h:fy 20 q):nP (wE q)=true:=by
 unfold nP tY wE;rw[decide_eq_true h.1.digs,decide_eq_true h.2.digs,pU];rfl
theorem yq (q:Rat):ym (wE q):=⟨ai _,ai _⟩
theorem u7 {p:RP} (h:ym p):∀x∈[p],ym x:=fun x hx=>by simp at hx;subst hx;exact h
theorem wq {a:Rat} (h:fy 20 a):[wE a].all nP=true:=by simp[yK h]
end
end Go.Proofs.YtmkggcjajcdlcaaGreatDoor
