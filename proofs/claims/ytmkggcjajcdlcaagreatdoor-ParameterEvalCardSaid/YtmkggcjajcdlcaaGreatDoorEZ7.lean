/- Parts of a proof: contracts of the functions that the laws reach. -/
import Derived.Test.YtmkggcjajcdlcaaGreatDoorEZ6
set_option maxHeartbeats 100000000
set_option linter.all false
open Go.Proofs.Tryz
namespace Go.Proofs.YtmkggcjajcdlcaaGreatDoor
open Go.RowKit
section
variable {P:Program} {T:TypeId->Option Ty} {n:Nat} {ops:Array Oper} {id:Nat} {draw:Bool} {K:AS->Prop} {s:AS} {k:Nat} {o:Oper} {os:List Oper} {fps:List FP}
end
def gh (na:Bool) (xs:List Nat) (nb:Bool) (ys:List Nat):Bool:=dC na xs && dC nb ys && decide (0<ar nb ys) && decide (Nat.gcd (val xs) (val ys)=1)
theorem qy {na:Bool} {xs:List Nat} (hw:Wd xs) (h:dC na xs=true):xs=digs (ar na xs).natAbs/\na=decide (ar na xs<0):=by
 unfold dC at h;rw[Bool.and_eq_true]at h;have h1:=of_decide_eq_true h.1;have hp:=(kM hw).1;rw[h1,List.take_length]at hp;rw[bJ];refine⟨hp,?_⟩;cases na
 ·exact(decide_eq_false (by unfold ar;simp)).symm
 ·have h2:=h.2
  simp at h2
  have:val xs≠0:=fun e=>by
   rw[hp]at h2;unfold trim at h2;rw[e,aK]at h2
   simp at h2
  exact(decide_eq_true (by unfold ar;simp;omega)).symm
theorem pk {na nb:Bool} {xs ys:List Nat} (hw:Wd xs) (hw':Wd ys) (h:gh na xs nb ys=true):∃q:Rat,Eh na xs nb ys=aQ q/\xs=digs q.num.natAbs/\ys=digs (q.den:Int).natAbs:=by
 unfold gh at h
 simp only[Bool.and_eq_true,decide_eq_true_eq]at h
 obtain⟨⟨⟨h1,h2⟩,h3⟩,h4⟩:=h;obtain⟨e1,e2⟩:=qy hw h1;obtain⟨e3,e4⟩:=qy hw' h2;have hd:((ar nb ys).toNat:Int)=ar nb ys:=by omega
 refine⟨⟨ar na xs,(ar nb ys).toNat,by omega,?_⟩,?_,e1,?_⟩
 ·rw[bJ,show(ar nb ys).toNat=(ar nb ys).natAbs by omega,bJ];exact h4
 ·show aI na xs++aI nb ys=aZ (ar na xs)++aZ ((ar nb ys).toNat:Int)
  rw[hd];unfold aZ;rw[<- e1,<- e2,<- e3,<- e4]
 ·show ys=digs ((ar nb ys).toNat:Int).natAbs
  rw[hd];exact e3
theorem mZ (q:Rat):gh (decide (q.num<0)) (digs q.num.natAbs) (decide ((q.den:Int)<0)) (digs (q.den:Int).natAbs)=true:=by
 unfold gh;rw[rZ,rZ,aX,af,af,decide_eq_true (cK q),decide_eq_true (by rw[Int.natAbs_natCast];exact q.reduced)];rfl
theorem qr {na nb:Bool} {xs ys:List Nat} (hw:Wd xs) (hw':Wd ys) (h1:oG xs) (h2:oG ys) {b:Bool} (hb:gh na xs nb ys=b):aa Tryz.prog 241 [GL na xs nb ys] (.one (dB b)):=by
 subst hb;unfold gh;cases c1:dC na xs
 ·refine Jr ?_
  exact ax
 cases c2:dC nb ys
 ·refine Jr ?_
  refine kW ?_;refine kC (mK (na:=nb) hw' c2) ?_;exact ax
 by_cases c3:0<ar nb ys
 ·have hc:decide (Nat.gcd (val xs) (val ys)=1)=decide (((Nat.gcd (val xs) (val ys):Nat):Int)=1):=by by_cases h:Nat.gcd (val xs) (val ys)=1<;>simp[h]<;>omega
  rw[decide_eq_true c3,hc];refine NZ ?_;refine kQ (pr (na:=nb) hw' (Int.sign_eq_one_of_pos c3)) ?_;refine kQ (yQ (na:=na) (nb:=nb) hw hw' h1 h2) ?_;refine kC (dh rfl) ?_;exact ax
 ·rw[decide_eq_false c3]
  obtain⟨z,hz,hz0⟩:∃z,(ar nb ys).sign=z/\ ¬z > 0:=⟨_,rfl,fun h=>c3 (Int.sign_pos_iff.1 h)⟩;refine NZ ?_;refine kC (pr (na:=nb) hw' hz) ?_;refine kB false ?_ ?_
  ·exact decide_eq_false hz0
  exact ax
theorem yE {k:Nat} (q:Rat) (h:cZ k q) (hk:k<=2147483648):aa Tryz.prog 241 [dQ q] (.one (dB true)):=qr (ay _) (ay _) (Nat.le_trans h.1.digs hk) (Nat.le_trans h.2.digs hk) (mZ q)
theorem nE {na nb:Bool} {xs ys:List Nat} (hw:Wd xs) (hw':Wd ys) (h1:oG xs) (h2:oG ys) {b:Bool} (hb:gh na xs nb ys=b):aa Tryz.prog 155 [GL na xs nb ys] (.one (dB b)):=by
 subst hb;unfold gh;cases c1:dC na xs
 ·refine JF ?_
  exact ax
 cases c2:dC nb ys
 ·refine JF ?_
  refine kW ?_;refine kC (lB (na:=nb) hw' c2) ?_;exact ax
 by_cases c3:0<ar nb ys
 ·have hc:decide (Nat.gcd (val xs) (val ys)=1)=decide (((Nat.gcd (val xs) (val ys):Nat):Int)=1):=by by_cases h:Nat.gcd (val xs) (val ys)=1<;>simp[h]<;>omega
  rw[decide_eq_true c3,hc];refine OP ?_;refine kQ (mB (na:=nb) hw' (Int.sign_eq_one_of_pos c3)) ?_;refine kQ (vD (na:=na) (nb:=nb) hw hw' h1 h2) ?_;refine kC (b7 rfl) ?_;exact ax
 ·rw[decide_eq_false c3]
  obtain⟨z,hz,hz0⟩:∃z,(ar nb ys).sign=z/\ ¬z > 0:=⟨_,rfl,fun h=>c3 (Int.sign_pos_iff.1 h)⟩;refine OP ?_;refine kC (mB (na:=nb) hw' hz) ?_;refine kB false ?_ ?_
  ·exact decide_eq_false hz0
  exact ax
theorem x4 {k:Nat} (q:Rat) (h:cZ k q) (hk:k<=2147483648):aa Tryz.prog 155 [dQ q] (.one (dB true)):=nE (ay _) (ay _) (Nat.le_trans h.1.digs hk) (Nat.le_trans h.2.digs hk) (mZ q)
theorem OV {xs:List Nat} {i x:Nat} (h:xs[i]? =some x):∀(j:Nat) (a:AV),[AV.val (dp x)][j]? =some a->(xs.map fun x:Nat=>AV.val (dp x))[i*1+j]? =some a:=by
 exact Pj
theorem zV {na nb:Bool} {xs ys:List Nat} (h:xs≠ys):sameB na nb xs ys=false:=by unfold sameB;rw[decide_eq_false h,Bool.and_false]
theorem ll {na:Bool} {xs ys:List Nat} (h:xs=ys):sameB na na xs ys=true:=by unfold sameB;rw[decide_eq_true h];cases na<;>rfl
theorem eZ {na nb:Bool} {xs ys:List Nat} (hl:xs.length<=2147483648) {b:Bool} (hb:sameB na nb xs ys=b):aa Tryz.prog 97 [dI na xs,dI nb ys] (.one (dB b)):=by
 subst hb
 by_cases hn:na=nb
 ·subst hn
  by_cases hxy:xs.length=ys.length
  ·cases na
   ·refine EW ?_
    refine kB false ?_ ?_
    ·exact(by simp[hxy])
    refine kW ?_;refine aq Nat (fun j=>j<=xs.length/\ ∀i,i<j->xs[i]? =ys[i]?) (fun j=>⟨[(2, .box 0 0),(3, .box 1 0),(5, .d (dN .i64 j))],[(0,some (aI false xs)),(1,some (aI false ys))]⟩) (fun j=>xs.length-j) 0 ⟨Nat.zero_le _,fun i h=>absurd h (Nat.not_lt_zero _)⟩ kw ?_;exact Tq
   ·refine EW ?_
    refine kB false ?_ ?_
    ·exact(by simp[hxy])
    refine kW ?_;refine aq Nat (fun j=>j<=xs.length/\ ∀i,i<j->xs[i]? =ys[i]?) (fun j=>⟨[(2, .box 0 0),(3, .box 1 0),(5, .d (dN .i64 j))],[(0,some (aI true xs)),(1,some (aI true ys))]⟩) (fun j=>xs.length-j) 0 ⟨Nat.zero_le _,fun i h=>absurd h (Nat.not_lt_zero _)⟩ kw ?_;exact Tq
  ·rw[zV (fun e=>hxy (by rw[e]))]
   cases na
   ·refine EW ?_
    refine JC ?_;exact ax
   ·refine EW ?_
    refine JC ?_;exact ax
 ·have e:sameB na nb xs ys=false:=by unfold sameB;cases na<;>cases nb<;>first|rfl|exact absurd rfl hn
  rw[e];cases na<;>cases nb
  ·exact absurd rfl hn
  ·refine kU func97 ?_
   exact ax
  ·refine kU func97 ?_
   exact ax
  ·exact absurd rfl hn
theorem iw {a b:Int} (h:eG a) {t:Bool} (ht:decide (a=b)=t):aa Tryz.prog 97 [dZ a,dZ b] (.one (dB t)):=eZ h (by rw[vp,ht])
theorem zT {a b:Rat}:decide (a=b)=(decide (a.num=b.num) && decide ((a.den:Int)=(b.den:Int))):=by
 by_cases h:a=b
 ·subst h;simp
 ·rw[decide_eq_false h]
  by_cases h1:a.num=b.num
  ·have:¬(a.den:Int)=b.den:=fun e=>h (Rat.ext h1 (by omega))
   simp[h1];omega
  ·simp[h1]
theorem Dg {k:Nat} {a b:Rat} (h:cZ k a) (hk:k<=2147483648) {t:Bool} (ht:decide (a=b)=t):aa Tryz.prog 47 [dQ a,dQ b] (.one (dB t)):=by
 rw[zT]at ht;subst ht
 by_cases h1:a.num=b.num
 ·rw[decide_eq_true h1,Bool.true_and]
  refine kV func47 ?_;refine kQ (iw (h.1.fit hk) (decide_eq_true h1)) ?_;refine kC (iw (h.2.fit hk) rfl) ?_;exact ax
 ·rw[decide_eq_false h1,Bool.false_and]
  refine kV func47 ?_;refine kC (iw (h.1.fit hk) (decide_eq_false h1)) ?_;exact ax
theorem Eu {z:Int} {k:Nat} (h:Sz k z):(fmt z).length<=10*k+2:=by
 have h1:(nQ z.natAbs).length<=10*k:=xV _ _ (Nat.lt_of_lt_of_le h (by rw[Nat.pow_mul];exact Nat.pow_le_pow_left (by decide) _));unfold fmt
 split
 ·simp
 ·rw[List.length_append]
  have:(if z<0 then [45]else []:List UInt8).length<=1:=by split <;>simp
  omega
theorem LE {l:List UInt8} (h:∀c∈l,mM c):li l=false/\gB l=l:=by
 have:=Pv (b:=false) (l:=l) (fun c r e=>h c (by rw[e];simp))
 simp at this
 exact⟨this.2,this.1⟩
open Classical in
theorem IB {l:List UInt8} (h:∀c∈l,mM c) (hl:l.length<=65536):pz l=if QN false l then((num l:Int),0)else(0,2):=by
 obtain⟨h1,h2⟩:=LE h
 by_cases ho:QN false l
 ·rw[if_pos ho,N4 ⟨hl,by rw[h1,h2];exact ho⟩,h1,h2];rfl
 ·rw[if_neg ho,tF (fun e=>ho (by have:=e.2;rwa[h1,h2]at this))]
def jS (q:Rat) (p:Int):List AV:=aQ q++[.val (.int .i64 p)]
def mx (q:Rat) (p:Int):DV:= .agg (jS q p)
def iF:List AV:=uo++[.val (.int .i64 0)]
def vd:DV:= .agg iF
def jZ (p:Int):Bool:=decide (-4<=p) && decide (p<=4)
theorem sJ {cs cs':List AV} {o k:Nat} (h:(cs.drop o).take k=cs'):∀(j:Nat) (a:AV),cs'[j]? =some a->cs[o+j]? =some a:=by
 intro j a hj;rw[<- h,List.getElem?_take]at hj
 split at hj
 ·simpa using hj
 ·cases hj
def LO:List (List UInt8 × Rat):=[([99,109],(10:Int)),([102,116],Rat.divInt 1524 5),([105,110],Rat.divInt 127 5),([109],(1000:Int)),([109,109],(1:Int))]
def Km (s:List UInt8):List (List UInt8 × Rat)->Option Rat
 | []=>none
 |(n,q)::r=>if s=n then some q else Km s r
def Qz (s:List UInt8):Option Rat:=Km s LO
def ib:List AV:=[.val (.string ⟨#[99,109]⟩), .val (.int .i64 10), .val (.int .i64 1), .val (.string ⟨#[102,116]⟩), .val (.int .i64 1524), .val (.int .i64 5), .val (.string ⟨#[105,110]⟩), .val (.int .i64 127), .val (.int .i64 5), .val (.string ⟨#[109]⟩), .val (.int .i64 1000), .val (.int .i64 1), .val (.string ⟨#[109,109]⟩), .val (.int .i64 1), .val (.int .i64 1)]
def tA (s:List UInt8):RV:=match Qz s with
 |some q=> .tup [mx q 1,dB true]
 |none=> .tup [vd,dB false]
theorem y5 (s:List UInt8):aa Tryz.prog 122 [dL s] (tA s):=by
 refine kV func122 ?_;refine eX 6 ?_;refine aN ⟨[(0, .d (dL s)),(2, .box 0 0),(3, .d (dB false)),(6, .d (.leaf (.sl 5 ib))),(7, .d (dN .i64 5)),(8, .d (dN .i64 0))],[(0,some iF)]⟩ kw ?_;refine kW ?_;refine bB (i:=0) (cs':=[.val (vL [99,109]), .val (.int .i64 10), .val (.int .i64 1)]) (by decide) (sJ (k:=3) rfl) (by decide) rfl rfl rfl rfl rfl rfl rfl rfl ?_;refine F8 ?_
 by_cases h0:s=[99,109]
 ·refine aC rfl rfl rfl rfl rfl rfl rfl (bn (a:=[99,109]) (b:=s) h0.symm) ?_
  refine kW ?_;refine aj (jm 10 1 (by decide) (by decide) (by decide) (by decide) (q:=((10:Int):Rat)) (by first|rfl|exact divInt_one _)) rfl rfl rfl rfl rfl rfl rfl ?_;refine kW ?_;have:tA s= .tup [mx (((10:Int):Rat)) 1,dB true]:=by subst h0;rfl
  exact vX
 refine aC rfl rfl rfl rfl rfl rfl rfl (bH (a:=[99,109]) (b:=s) (fun e=>h0 e.symm)) ?_;refine kW ?_;refine aN ⟨[(0, .d (dL s)),(2, .box 0 0),(3, .d (dB false)),(6, .d (.leaf (.sl 5 ib))),(7, .d (dN .i64 5)),(8, .d (dN .i64 1))],[(0,some iF)]⟩ kw ?_;refine kW ?_;refine bB (i:=1) (cs':=[.val (vL [102,116]), .val (.int .i64 1524), .val (.int .i64 5)]) (by decide) (sJ (k:=3) rfl) (by decide) rfl rfl rfl rfl rfl rfl rfl rfl ?_;refine F8 ?_
 by_cases h1:s=[102,116]
 ·refine aC rfl rfl rfl rfl rfl rfl rfl (bn (a:=[102,116]) (b:=s) h1.symm) ?_
  refine kW ?_;refine aj (jm 1524 5 (by decide) (by decide) (by decide) (by decide) (q:=Rat.divInt 1524 5) (by first|rfl|exact divInt_one _)) rfl rfl rfl rfl rfl rfl rfl ?_;refine kW ?_;have:tA s= .tup [mx (Rat.divInt 1524 5) 1,dB true]:=by subst h1;rfl
  exact vX
 refine aC rfl rfl rfl rfl rfl rfl rfl (bH (a:=[102,116]) (b:=s) (fun e=>h1 e.symm)) ?_;refine kW ?_;refine aN ⟨[(0, .d (dL s)),(2, .box 0 0),(3, .d (dB false)),(6, .d (.leaf (.sl 5 ib))),(7, .d (dN .i64 5)),(8, .d (dN .i64 2))],[(0,some iF)]⟩ kw ?_;refine kW ?_;refine bB (i:=2) (cs':=[.val (vL [105,110]), .val (.int .i64 127), .val (.int .i64 5)]) (by decide) (sJ (k:=3) rfl) (by decide) rfl rfl rfl rfl rfl rfl rfl rfl ?_;refine F8 ?_
 by_cases h2:s=[105,110]
 ·refine aC rfl rfl rfl rfl rfl rfl rfl (bn (a:=[105,110]) (b:=s) h2.symm) ?_
  refine kW ?_;refine aj (jm 127 5 (by decide) (by decide) (by decide) (by decide) (q:=Rat.divInt 127 5) (by first|rfl|exact divInt_one _)) rfl rfl rfl rfl rfl rfl rfl ?_;refine kW ?_;have:tA s= .tup [mx (Rat.divInt 127 5) 1,dB true]:=by subst h2;rfl
  exact vX
 refine aC rfl rfl rfl rfl rfl rfl rfl (bH (a:=[105,110]) (b:=s) (fun e=>h2 e.symm)) ?_;refine kW ?_;refine aN ⟨[(0, .d (dL s)),(2, .box 0 0),(3, .d (dB false)),(6, .d (.leaf (.sl 5 ib))),(7, .d (dN .i64 5)),(8, .d (dN .i64 3))],[(0,some iF)]⟩ kw ?_;refine kW ?_;refine bB (i:=3) (cs':=[.val (vL [109]), .val (.int .i64 1000), .val (.int .i64 1)]) (by decide) (sJ (k:=3) rfl) (by decide) rfl rfl rfl rfl rfl rfl rfl rfl ?_;refine F8 ?_
 by_cases h3:s=[109]
 ·refine aC rfl rfl rfl rfl rfl rfl rfl (bn (a:=[109]) (b:=s) h3.symm) ?_
  refine kW ?_;refine aj (jm 1000 1 (by decide) (by decide) (by decide) (by decide) (q:=((1000:Int):Rat)) (by first|rfl|exact divInt_one _)) rfl rfl rfl rfl rfl rfl rfl ?_;refine kW ?_;have:tA s= .tup [mx (((1000:Int):Rat)) 1,dB true]:=by subst h3;rfl
  exact vX
 refine aC rfl rfl rfl rfl rfl rfl rfl (bH (a:=[109]) (b:=s) (fun e=>h3 e.symm)) ?_;refine kW ?_;refine aN ⟨[(0, .d (dL s)),(2, .box 0 0),(3, .d (dB false)),(6, .d (.leaf (.sl 5 ib))),(7, .d (dN .i64 5)),(8, .d (dN .i64 4))],[(0,some iF)]⟩ kw ?_;refine kW ?_;refine bB (i:=4) (cs':=[.val (vL [109,109]), .val (.int .i64 1), .val (.int .i64 1)]) (by decide) (sJ (k:=3) rfl) (by decide) rfl rfl rfl rfl rfl rfl rfl rfl ?_;refine F8 ?_
 by_cases h4:s=[109,109]
 ·refine aC rfl rfl rfl rfl rfl rfl rfl (bn (a:=[109,109]) (b:=s) h4.symm) ?_
  refine kW ?_;refine aj (jm 1 1 (by decide) (by decide) (by decide) (by decide) (q:=((1:Int):Rat)) (by first|rfl|exact divInt_one _)) rfl rfl rfl rfl rfl rfl rfl ?_;refine kW ?_;have:tA s= .tup [mx (((1:Int):Rat)) 1,dB true]:=by subst h4;rfl
  exact vX
 refine aC rfl rfl rfl rfl rfl rfl rfl (bH (a:=[109,109]) (b:=s) (fun e=>h4 e.symm)) ?_;refine kW ?_;refine aN ⟨[(0, .d (dL s)),(2, .box 0 0),(3, .d (dB false)),(6, .d (.leaf (.sl 5 ib))),(7, .d (dN .i64 5)),(8, .d (dN .i64 5))],[(0,some iF)]⟩ kw ?_;exact NO
theorem uW (s:List UInt8):aa Tryz.prog 79 [dL s] (tA s):=by
 refine kU func79 ?_;refine kR ?_;refine kR ?_;refine Au ?_
 by_cases h0:s=[99,109]
 ·refine aC rfl rfl rfl rfl rfl rfl rfl (bn (a:=s) (b:=[99,109]) h0) ?_
  refine Nf ?_;refine kW ?_;subst h0;exact cw (T:=TT) rfl rfl
 refine aC rfl rfl rfl rfl rfl rfl rfl (bH (a:=s) (b:=[99,109]) h0) ?_;refine tD ?_;refine Au ?_
 by_cases h1:s=[102,116]
 ·refine aC rfl rfl rfl rfl rfl rfl rfl (bn (a:=s) (b:=[102,116]) h1) ?_
  refine kW ?_;refine aj (sf 1524 5 (by decide) (by decide) (by decide) (by decide) (q:=Rat.divInt 1524 5) rfl) rfl rfl rfl rfl rfl rfl rfl ?_;refine kW ?_;subst h1;exact cw (T:=TT) rfl rfl
 refine aC rfl rfl rfl rfl rfl rfl rfl (bH (a:=s) (b:=[102,116]) h1) ?_;refine tD ?_;refine Au ?_
 by_cases h2:s=[105,110]
 ·refine aC rfl rfl rfl rfl rfl rfl rfl (bn (a:=s) (b:=[105,110]) h2) ?_
  refine kW ?_;refine aj (sf 127 5 (by decide) (by decide) (by decide) (by decide) (q:=Rat.divInt 127 5) rfl) rfl rfl rfl rfl rfl rfl rfl ?_;refine kW ?_;subst h2;exact cw (T:=TT) rfl rfl
 refine aC rfl rfl rfl rfl rfl rfl rfl (bH (a:=s) (b:=[105,110]) h2) ?_;refine tD ?_;refine Au ?_
 by_cases h3:s=[109]
 ·refine aC rfl rfl rfl rfl rfl rfl rfl (bn (a:=s) (b:=[109]) h3) ?_
  refine kW ?_;refine aj (ew 1000 (by decide) (by decide) (q:=((1000:Int):Rat)) rfl) rfl rfl rfl rfl rfl rfl rfl ?_;refine kW ?_;subst h3;exact cw (T:=TT) rfl rfl
 refine aC rfl rfl rfl rfl rfl rfl rfl (bH (a:=s) (b:=[109]) h3) ?_;refine tD ?_;refine Au ?_
 by_cases h4:s=[109,109]
 ·refine aC rfl rfl rfl rfl rfl rfl rfl (bn (a:=s) (b:=[109,109]) h4) ?_
  refine kW ?_;refine aj (ew 1 (by decide) (by decide) (q:=((1:Int):Rat)) rfl) rfl rfl rfl rfl rfl rfl rfl ?_;refine kW ?_;subst h4;exact cw (T:=TT) rfl rfl
 refine aC rfl rfl rfl rfl rfl rfl rfl (bH (a:=s) (b:=[109,109]) h4) ?_;refine tD ?_;exact NO
theorem mW {q:Rat} {p:Int} (h:jZ p=true):aa Tryz.prog 181 [dQ q,dN .i64 p] (.tup [mx q p,dN .i64 0]):=by
 simp only[jZ,Bool.and_eq_true,decide_eq_true_eq]at h
 refine kU func181 ?_;refine fT ?_;refine kE ?_
 refine kO2 ?_
 refine kE ?_;exact ax
theorem uh {q:Rat} {p:Int} (h:jZ p=false):aa Tryz.prog 181 [dQ q,dN .i64 p] (.tup [vd,dN .i64 8]):=by
 simp only[jZ,Bool.and_eq_false_iff,decide_eq_false_iff_not]at h
 by_cases h1:p< -4
 ·refine kU func181 ?_
  refine fT ?_;refine kB true ?_ ?_
  ·exact decide_eq_true h1
  exact ax
 ·refine kU func181 ?_
  exact Ox
theorem nF {q:Rat} {p:Int} (h:jZ p=true):aa Tryz.prog 137 [dQ q,dN .i64 p] (.tup [mx q p,dN .i64 0]):=by
 simp only[jZ,Bool.and_eq_true,decide_eq_true_eq]at h
 refine kU func137 ?_;refine fT ?_;refine kE ?_
 refine kO2 ?_
 refine kE ?_;exact ax
theorem oM {q:Rat} {p:Int} (h:jZ p=false):aa Tryz.prog 137 [dQ q,dN .i64 p] (.tup [vd,dN .i64 8]):=by
 simp only[jZ,Bool.and_eq_false_iff,decide_eq_false_iff_not]at h
 by_cases h1:p< -4
 ·refine kU func137 ?_
  refine fT ?_;refine kB true ?_ ?_
  ·exact decide_eq_true h1
  exact ax
 ·refine kU func137 ?_
  exact Ox
abbrev QR:=Except Int (Rat × Int)
def cP:QR->RV
 | .ok x=> .tup [mx x.1 x.2,dN .i64 0]
 | .error e=> .tup [vd,dN .i64 e]
def ln (a:Rat) (p:Int) (b:Rat) (p':Int):QR:=if p=p' then .ok (a+b,p)else .error 8
def nY (a:Rat) (p:Int) (b:Rat) (p':Int):QR:=if jZ (p+p')then .ok (a*b,p+p')else .error 8
def qQ (a:Rat) (p:Int) (b:Rat) (p':Int):QR:=if b=0 then .error 6 else if jZ (p-p')then .ok (a/b,p-p')else .error 8
theorem zO {j k:Nat} {a b:Rat} {p p':Int} (h:cZ j a) (h':cZ k b) (hk:j+k+1<=2147483648) (hp:jZ p=true):aa Tryz.prog 125 [mx a p,mx b p'] (cP (ln a p b p')):=by
 unfold ln
 by_cases e:p=p'
 ·rw[if_pos e]
  refine kU func125 ?_;refine jT ?_;refine kB false ?_ ?_
  ·exact(by rw[e];simp)
  refine kW ?_;refine kQ (tI h h' hk rfl) ?_;refine kC (mW hp) ?_;exact ax
 ·rw[if_neg e]
  refine kU func125 ?_;refine jT ?_;refine kB true ?_ ?_
  ·exact(by simpa using e)
  exact ax
theorem ul {j k:Nat} {a b:Rat} {p p':Int} (h:cZ j a) (h':cZ k b) (hk:j+k+1<=2147483648):aa Tryz.prog 82 [mx a p,mx b p'] (cP (ln a p b p')):=by
 unfold ln
 by_cases e:p=p'
 ·rw[if_pos e]
  refine kU func82 ?_;refine jT ?_;refine kB false ?_ ?_
  ·exact(by rw[e];simp)
  refine kW ?_;refine kC (Gy h h' hk rfl) ?_;exact ax
 ·rw[if_neg e]
  refine kU func82 ?_;refine jT ?_;refine kB true ?_ ?_
  ·exact(by simpa using e)
  exact ax
theorem ro {p p':Int} (h:jZ p=true) (h':jZ p'=true): -8<=p+p'/\p+p'<=8/\ -8<=p-p'/\p-p'<=8:=by
 simp only[jZ,Bool.and_eq_true,decide_eq_true_eq]at h h'
 omega
theorem IP {j k:Nat} {a b:Rat} {p p':Int} (h:cZ j a) (h':cZ k b) (hk:j+k<=2147483648) (hp:jZ p=true) (hp':jZ p'=true):aa Tryz.prog 126 [mx a p,mx b p'] (cP (nY a p b p')):=by
 have hr:=ro hp hp';unfold nY;cases e:jZ (p+p')
 ·rw[if_neg (by simp)]
  refine kV func126 ?_;refine kC (om h h' hk rfl) ?_;refine L0 ?_;refine kC (uh e) ?_;exact ax
 ·rw[if_pos rfl]
  refine kV func126 ?_;refine kC (om h h' hk rfl) ?_;refine L0 ?_;refine kC (mW e) ?_;exact ax
theorem ug {j k:Nat} {a b:Rat} {p p':Int} (h:cZ j a) (h':cZ k b) (hk:j+k<=2147483648) (hp:jZ p=true) (hp':jZ p'=true):aa Tryz.prog 80 [mx a p,mx b p'] (cP (nY a p b p')):=by
 have hr:=ro hp hp';unfold nY;cases e:jZ (p+p')
 ·rw[if_neg (by simp)]
  refine kV func80 ?_;refine kC (lT h h' hk rfl) ?_;refine L0 ?_;refine kC (oM e) ?_;exact ax
 ·rw[if_pos rfl]
  refine kV func80 ?_;refine kC (lT h h' hk rfl) ?_;refine L0 ?_;refine kC (nF e) ?_;exact ax
theorem Il {j k:Nat} {a b:Rat} {p p':Int} (h:cZ j a) (h':cZ k b) (hk:j+k<=2147483648) (hp:jZ p=true) (hp':jZ p'=true):aa Tryz.prog 127 [mx a p,mx b p'] (cP (qQ a p b p')):=by
 have hr:=ro hp hp';have hw:IntKind.i64.wrap (p-p')=p-p':=IntWalk.i64_in _ (by omega);unfold qQ
 by_cases hb:b=0
 ·rw[if_pos hb]
  refine kV func127 ?_;refine kC (Fo hb) ?_;exact ax
 ·rw[if_neg hb]
  cases e:jZ (p-p')
  ·rw[if_neg (by simp)]
   rw[<- hw]at e;refine kV func127 ?_;refine kQ (Be h h' hk hb rfl) ?_;refine kC (uh e) ?_;exact ax
  ·rw[if_pos rfl]
   rw[<- hw]at e;refine kV func127 ?_;refine kQ (Be h h' hk hb rfl) ?_;refine kC (mW e) ?_;refine iT ?_;rw[hw];rfl
theorem Dq {j k:Nat} {a b:Rat} {p p':Int} (h:cZ j a) (h':cZ k b) (hk:j+k<=2147483648) (hp:jZ p=true) (hp':jZ p'=true):aa Tryz.prog 83 [mx a p,mx b p'] (cP (qQ a p b p')):=by
 have hr:=ro hp hp';have hw:IntKind.i64.wrap (p-p')=p-p':=IntWalk.i64_in _ (by omega);unfold qQ
 by_cases hb:b=0
 ·rw[if_pos hb]
  refine kV func83 ?_;refine kC (BF hb) ?_;exact ax
 ·rw[if_neg hb]
  cases e:jZ (p-p')
  ·rw[if_neg (by simp)]
   rw[<- hw]at e;refine kV func83 ?_;refine kQ (vu h h' hk hb rfl) ?_;refine kC (oM e) ?_;exact ax
  ·rw[if_pos rfl]
   rw[<- hw]at e;refine kV func83 ?_;refine kQ (vu h h' hk hb rfl) ?_;refine kC (nF e) ?_;refine iT ?_;rw[hw];rfl
theorem mn {k:Nat} {a:Rat} {p:Int} (h:cZ k a) (hk:k<=2147483648):aa Tryz.prog 124 [mx a p] (.one (mx (-a) p)):=by
 refine kV func124 ?_;refine kC (Kq h hk rfl) ?_;exact ax
theorem ng {a:Rat} {p:Int}:aa Tryz.prog 81 [mx a p] (.one (mx (-a) p)):=by
 refine kV func81 ?_;refine kC (F3 (a:=a) rfl) ?_;exact ax
theorem qf {k:Nat} {a b:Rat} {p p':Int} (h:cZ k a) (hk:k<=2147483648) {t:Bool} (ht:(decide (p=p') && decide (a=b))=t):aa Tryz.prog 28 [mx a p,mx b p'] (.one (dB t)):=by
 by_cases e:p=p'
 ·refine kU func28 ?_
  refine jT ?_;refine kB true ?_ ?_
  ·exact(by rw[e];simp)
  refine kW ?_;refine aj (Dg h hk (t:=t) (by rw[<- ht,decide_eq_true e];rfl)) rfl rfl rfl rfl rfl rfl rfl ?_;exact ax
 ·have:t=false:=by rw[<- ht,decide_eq_false e];rfl
  subst this;refine kU func28 ?_;refine jT ?_;refine kB false ?_ ?_
  ·exact(by simpa using e)
  exact ax
theorem Dp {k:Nat} {a:Rat} {p:Int} (h:cZ k a) (hk:k<=2147483648):aa Tryz.prog 28 [mx a p,mx a p] (.one (dB true)):=qf h hk (by simp)
theorem AB {n d:Int} (hd:d≠0):Rat.divInt n d=0↔n=0:=by
 have h0:(0:Rat)=Rat.divInt 0 1:=by rfl
 rw[h0,Rat.divInt_eq_divInt_iff hd (by decide)]
 simp
theorem yp {s:List UInt8} {q:Rat} (h:Qz s=some q):cZ 1 q/\q≠0:=by
 have key:∀(l:List (List UInt8 × Rat)),(∀x∈l,cZ 1 x.2/\x.2≠0)-> ∀q,Km s l=some q->cZ 1 q/\q≠0:=by
  intro l
  induction l with
  |nil=>intro _ q h;cases h
  |cons x l ih=>
   intro hl q h;obtain⟨n,r⟩:=x
   simp only[Km]at h
   split at h
   ·cases h;exact hl (n,q) (by simp)
   ·exact ih (fun x hx=>hl x (by simp[hx])) q h
 refine key LO (fun x hx=>?_) q h;have i1:∀n:Int,n.natAbs<4294967296->n≠0->cZ 1 (n:Rat)/\(n:Rat)≠0:=fun n h0 h1=>⟨⟨.small h0, .small (z:=1) (by decide)⟩,fun e=>h1 (by exact_mod_cast e)⟩
 have i2:∀n d:Int,n.natAbs<4294967296->d.natAbs<4294967296->n≠0->d≠0->cZ 1 (Rat.divInt n d)/\Rat.divInt n d≠0:=fun n d h0 h1 h2 h3=>⟨.divInt (.small h0) (.small h1) h3,fun e=>h2 ((AB h3).1 e)⟩
 simp only[LO,List.mem_cons,List.not_mem_nil,or_false]at hx
 rcases hx with rfl|rfl|rfl|rfl|rfl
 ·exact i1 10 (by decide) (by decide)
 ·exact i2 1524 5 (by decide) (by decide) (by decide) (by decide)
 ·exact i2 127 5 (by decide) (by decide) (by decide) (by decide)
 ·exact i1 1000 (by decide) (by decide)
 ·exact i1 1 (by decide) (by decide)
section
open Go.ChangeShapes Go.WideShapes Go.ChangeAt Go.RowKit Go.Joins
def Sh (P:Program):Nat->TypeId->List AV->Prop
 |0,_,_=>False
 |n+1,t,cs=>match P.underlying t with
  |some .bool=>∃b,cs=[.val (.bool b)]
  |some (.int k)=>∃i,cs=[.val (.int k i)]/\(Lit.int k i).wf=true
  |some .string=>∃s:ByteArray,cs=[.val (.string s)]/\s.size<=maxLen
  |some (.slice e)=>∃rows:List (List AV),cs=[.sl rows.length rows.flatten]/\rows.length<=maxLen/\ ∀r∈rows,Sh P n e r/\r.length=P.cellsOf e
  |some (.struct fs)=>cs.length=P.cellsOf t/\ ∀f∈fs.toList,Sh P n f.type ((cs.drop f.offset).take (P.cellsOf f.type))
  |_=>False
def og (P:Program):Nat->Nat->List Field->Bool
 |off,sz,[]=>Nat.beq off sz
 |off,sz,f::r=>Nat.beq f.offset off && og P (off+P.cellsOf f.type) sz r
def sD (P:Program) (L:List TypeId):Bool:=L.all fun t=>match P.underlying t with
 |some .bool=>true
 |some (.int _)=>true
 |some .string=>true
 |some (.slice e)=>L.elem e
 |some (.struct fs)=>(fs.toList.all fun f=>L.elem f.type) && og P 0 (P.cellsOf t) fs.toList
 |_=>false
theorem Aj {w:World} {a:Addr} {k:Nat} {l:List Value} (h:w.cells? 0 a k=some l):l.length=k/\ ∀(i:Nat) (v:Value),l[i]? =some v->w.cell? (a.add i)=some v:=by
 unfold World.cells? at h;rw[if_pos (Nat.zero_le _)]at h
 have:∀(xs:List Nat) (l:List Value),xs.mapM (fun i=>w.cell? (a.add i))=some l->l.length=xs.length/\ ∀(i:Nat) (v:Value),l[i]? =some v-> ∃x,xs[i]? =some x/\w.cell? (a.add x)=some v:=by
  intro xs
  induction xs with
  |nil=>intro l h;simp at h;subst h;exact⟨rfl,fun i v h=>by simp at h⟩
  |cons x xs ih=>
   intro l h
   simp only[List.mapM_cons,Option.bind_eq_bind]at h
   cases h1:w.cell? (a.add x)with
   |none=>rw[h1]at h;simp at h
   |some v=>
    cases h2:xs.mapM (fun i=>w.cell? (a.add i))with
    |none=>rw[h1,h2]at h;simp at h
    |some l'=>
     rw[h1,h2]at h
     simp at h
     subst h;obtain⟨h3,h4⟩:=ih l' h2;refine⟨by simp[h3],fun i u hu=>?_⟩;cases i with
     |zero=>simp at hu;subst hu;exact⟨x,rfl,h1⟩
     |succ i=>simpa using h4 i u (by simpa using hu)
 obtain⟨h1,h2⟩:=this _ _ h;refine⟨by simpa using h1,fun i v hv=>?_⟩;obtain⟨x,hx,hc⟩:=h2 i v hv
 have:x=i:=by
  have:=(List.getElem?_eq_some_iff.1 hx).2
  simpa using this.symm
 rw[<- this];exact hc
theorem yV {α β:Type} {f:α->Option β}:∀{xs:List α} {ys:List β},xs.mapM f=some ys->xs.length=ys.length/\ ∀(i:Nat) (x:α),xs[i]? =some x-> ∃y,ys[i]? =some y/\f x=some y
 | [],ys,h=>by simp at h;subst h;exact⟨rfl,fun i x h=>by simp at h⟩
 |x::xs,ys,h=>by
  simp only[List.mapM_cons,Option.bind_eq_bind]at h
  cases h1:f x with
  |none=>rw[h1]at h;simp at h
  |some y=>
   cases h2:xs.mapM f with
   |none=>rw[h1,h2]at h;simp at h
   |some l=>
    rw[h1,h2]at h
    simp at h
    subst h;obtain⟨h3,h4⟩:=yV h2;refine⟨by simp[h3],fun i z hz=>?_⟩;cases i with
    |zero=>simp at hz;subst hz;exact⟨y,rfl,h1⟩
    |succ i=>simpa using h4 i z (by simpa using hz)
theorem Bf {rows:List (List AV)} {k:Nat} (h:∀r∈rows,r.length=k):∀(i:Nat) (r:List AV),rows[i]? =some r-> ∀j,j<k->rows.flatten[i*k+j]? =r[j]?:=by
 induction rows with
 |nil=>intro i r hr;simp at hr
 |cons x rows ih=>
  intro i r hr j hj;have hx:=h x (by simp)
  simp only[List.flatten_cons]
  cases i with
  |zero=>simp at hr;subst hr;rw[Nat.zero_mul,Nat.zero_add,List.getElem?_append_left (by omega)]
  |succ i=>
   rw[List.getElem?_append_right (by rw[Nat.add_mul];omega)];have:=ih (fun r hr=>h r (by simp[hr])) i r (by simpa using hr) j hj;rw[<- this]
   congr 1
   rw[Nat.add_mul];omega
theorem lc {rows:List (List AV)} {k:Nat} (h:∀r∈rows,r.length=k):rows.flatten.length=rows.length*k:=by
 induction rows with
 |nil=>simp
 |cons x rows ih=>rw[List.flatten_cons,List.length_append,ih (fun r hr=>h r (by simp[hr])),h x (by simp),List.length_cons,Nat.add_mul];omega
theorem EO {P:Program} {sz:Nat}:∀{fs:List Field} {off:Nat},og P off sz fs=true->off<=sz
 | [],off,h=>by have:=Nat.eq_of_beq_eq_true h;omega
 |f::r,off,h=>by
  simp only[og,Bool.and_eq_true]at h
  have:=EO h.2;omega
theorem DI {P:Program} {w:World} {vs:List Value} {Q:TypeId->List AV->Prop}:∀(fs:List Field) (off:Nat),og P off vs.length fs=true ->
 (∀f∈fs,∃cf,CM (fun _=>False) w cf ((vs.drop f.offset).take (P.cellsOf f.type))/\Q f.type cf) ->
 ∃cs,CM (fun _=>False) w cs (vs.drop off)/\ ∀f∈fs,off<=f.offset/\Q f.type ((cs.drop (f.offset-off)).take (P.cellsOf f.type))
 | [],off,h,_=>by
  have:=Nat.eq_of_beq_eq_true h;subst this;rw[List.drop_length];exact⟨[],CM.nil _ _,fun f hf=>by cases hf⟩
 |f::r,off,h,hf=>by
  simp only[og,Bool.and_eq_true]at h
  have ho:=Nat.eq_of_beq_eq_true h.1;obtain⟨cf,h1,h2⟩:=hf f (by simp);obtain⟨cs,h3,h4⟩:=DI r _ h.2 (fun g hg=>hf g (by simp[hg]));have hle:=EO h.2;rw[ho]at h1;have hl:cf.length=P.cellsOf f.type:=by rw[h1.1];simp;omega
  refine⟨cf++cs,?_,fun g hg=>?_⟩
  ·have:=h1.append h3
   rwa[<- List.drop_drop,List.take_append_drop]at this
  ·rcases List.mem_cons.1 hg with rfl|hg
   ·refine⟨by omega,?_⟩
    rw[ho,Nat.sub_self,List.drop_zero,List.take_left' hl];exact h2
   ·obtain⟨h5,h6⟩:=h4 g hg
    refine⟨by omega,?_⟩;rw[show g.offset-off=cf.length+(g.offset-(off+P.cellsOf f.type)) by omega,<- List.drop_drop,List.drop_left' rfl];exact h6
theorem Rm {P:Program} {W:World} {e:TypeId} {a:Addr} {len cap:Nat} {rows:List (List AV)} (hcap:cap<=9223372036854775807) (hlc:len<=cap) (hl:rows.length=len) (hsz:∀r∈rows,r.length=P.cellsOf e)
 (hr:∀i r,rows[i]? =some r-> ∃us:List Value,W.cells? 0 (a.add (i*P.cellsOf e)) (P.cellsOf e)=some us/\CM (fun _=>False) W r us):AV.M (fun _=>False) W (.sl len rows.flatten) (.slice (some a) len cap):=by
 by_cases h0:len*P.cellsOf e=0
 ·have:rows.flatten=[]:=List.eq_nil_of_length_eq_zero (by rw[lc hsz,hl];exact h0)
  rw[this];exact .emp hlc hcap (fun h=>by cases h)
 ·have hlen:0<len:=by
   rcases Nat.eq_zero_or_pos len with h|h
   ·rw[h,Nat.zero_mul]at h0;exact absurd rfl h0
   ·exact h
  have hcz:0<P.cellsOf e:=by
   rcases Nat.eq_zero_or_pos (P.cellsOf e)with h|h
   ·rw[h,Nat.mul_zero]at h0;exact absurd rfl h0
   ·exact h
  have hcell:∀q c,rows.flatten[q]? =some c-> ∃v,W.cell? (a.add q)=some v/\AV.M (fun _=>False) W c v:=by
   intro q c hq;have hql:q<len*P.cellsOf e:=by have:=(List.getElem?_eq_some_iff.1 hq).1;rwa[lc hsz,hl]at this
   have hi:q/P.cellsOf e<len:=Nat.div_lt_of_lt_mul (by rw[Nat.mul_comm];exact hql)
   have hj:q%P.cellsOf e<P.cellsOf e:=Nat.mod_lt _ hcz
   have e1:q=q/P.cellsOf e*P.cellsOf e+q%P.cellsOf e:=by have:=Nat.div_add_mod q (P.cellsOf e);rw[Nat.mul_comm]at this;omega
   have hrow':rows[q/P.cellsOf e]? =some (rows[q/P.cellsOf e]'(by omega)):=by simp
   have h1:=Bf hsz _ _ hrow' (q%P.cellsOf e) hj;rw[<- e1,hq]at h1;obtain⟨us,h3,h4⟩:=hr _ _ hrow';have h5:=(Aj h3);have h6:us[q%P.cellsOf e]? =some (us[q%P.cellsOf e]'(by omega)):=by simp
   refine⟨_,?_,h4.2 _ c _ h1.symm h6⟩;have h7:=h5.2 _ _ h6
   have e2:(a.add (q/P.cellsOf e*P.cellsOf e)).add (q%P.cellsOf e)=a.add q:=by
    unfold Addr.add
    by_cases c1:q/P.cellsOf e*P.cellsOf e=0
    ·by_cases c2:q%P.cellsOf e=0
     ·rw[if_pos c1,if_pos c2,if_pos (by omega)]
     ·rw[if_pos c1,if_neg c2,if_neg (by omega)]
      simp <;>omega
    ·by_cases c2:q%P.cellsOf e=0
     ·rw[if_neg c1,if_pos c2,if_neg (by omega)]
      simp <;>omega
     ·rw[if_neg c1,if_neg c2,if_neg (by omega)]
      simp <;>omega
   rwa[e2]at h7
  have hfl:0<rows.flatten.length:=by rw[lc hsz,hl];exact Nat.mul_pos hlen hcz
  obtain⟨v0,h1,_⟩:=hcell 0 rows.flatten[0] (by simp);have e0:a.add 0=a:=rfl;rw[e0]at h1;obtain⟨b,off,spot⟩:=a
  have hsp:spot=none:=by
   cases spot with
   |none=>rfl
   |some q=>
    unfold World.cell? at h1
    split at h1
    ·simp at h1
    ·cases h1
  subst hsp;refine AV.M.sl (fun q=>(W.cell? ⟨b,off+q,none⟩).getD undef) hlc hcap (fun h=>h) (World.block_lt_of_cell? W _ h1) (fun q c hq=>?_) (fun q c hq=>?_)
  ·obtain⟨v,h3,_⟩:=hcell q c hq
   rw[cH]at h3;rw[h3];rfl
  ·obtain⟨v,h3,h4⟩:=hcell q c hq
   rw[cH]at h3;rw[h3];exact h4
section
variable {H:Type} {enc:TypeId × Value->H} {W:World} {P:Program}
theorem Fi {L:List TypeId} (hL:sD P L=true):∀(n:Nat) (t:TypeId) (vs:List Value) (x:DataW H × List MemPlace),t∈L->DataW.trod enc P W 0 (fun _=>true) true n t vs=some x ->
 ∃cs,CM (fun _=>False) W cs vs/\Sh P n t cs:=by
 intro n
 induction n with
 |zero=>intro t vs x _ h;simp[DataW.trod]at h
 |succ n ih=>
  intro t vs x ht h;have hp:=List.all_eq_true.1 hL t ht
  simp only[Sh]
  cases hu:P.underlying t with
  |none=>rw[hu]at hp;simp at hp
  |some d=>
   rw[hu]at hp;cases d with
   |bool=>
    obtain⟨b,rfl,_⟩:=DataW.trod_bool hu h;exact⟨_,CM.cons (.val rfl) (CM.nil _ _),b,rfl⟩
   |int k=>
    obtain⟨i,rfl,_,h1⟩:=DataW.trod_int hu h;exact⟨_,CM.cons (.val rfl) (CM.nil _ _),i,rfl,h1⟩
   |string=>
    obtain⟨s,rfl,_,h1⟩:=DataW.trod_string hu h;exact⟨_,CM.cons (.val rfl) (CM.nil _ _),s,rfl,h1⟩
   |slice e=>
    have he:e∈L:=by simpa using hp
    rcases DataW.trod_slice hu h with⟨rfl,_⟩| ⟨a,len,cap,elems,rest,m,hm,rfl,_,_,hlc,hcm,hel,hget,_,_⟩
    ·exact⟨_,CM.cons (.emp (Nat.le_refl _) (by omega) (fun _=>rfl)) (CM.nil _ _),[],rfl,by simp,fun r hr=>by cases hr⟩
    ·obtain rfl:m=n:=by omega
     have hrow:∀i,i<len-> ∃(r:List AV) (us:List Value),W.cells? 0 (a.add (i*P.cellsOf e)) (P.cellsOf e)=some us/\CM (fun _=>False) W r us/\Sh P m e r:=by
      intro i hi;have h1:=hget i hi;have h2:elems[i]? =some elems[i]:=by simp
      rw[h2]at h1;obtain⟨us,h3,h4⟩:=Option.bind_eq_some_iff.1 h1;obtain⟨r,h5,h6⟩:=ih e us _ he h4;exact⟨r,us,h3,h5,h6⟩
     have hrows:∀k,k<=len-> ∃rows:List (List AV),rows.length=k/\ ∀i r,rows[i]? =some r-> ∃us:List Value,W.cells? 0 (a.add (i*P.cellsOf e)) (P.cellsOf e)=some us/\CM (fun _=>False) W r us/\Sh P m e r:=by
      exact Rq
     obtain⟨rows,hl,hr⟩:=hrows len (Nat.le_refl _)
     have hsz:∀r∈rows,r.length=P.cellsOf e:=by
      exact Oj
     have hsh:∀r∈rows,Sh P m e r:=by
      intro r hm;obtain⟨i,hi⟩:=List.getElem?_of_mem hm;obtain⟨us,_,_,h5⟩:=hr i r hi;exact h5
     refine⟨[.sl len rows.flatten],CM.cons ?_ (CM.nil _ _),rows,by rw[hl],by omega,fun r hm=>⟨hsh r hm,hsz r hm⟩⟩;exact N2
   |struct fs=>
    simp only[Bool.and_eq_true]at hp
    obtain⟨xs,m,hm,_,hlen,hxl,hget⟩:=DataW.trod_struct hu h;obtain rfl:m=n:=by omega
    have htile:=hp.2;rw[<- hlen]at htile
    obtain⟨cs,h1,h2⟩:=DI (P:=P) (w:=W) (vs:=vs) (Q:=Sh P m) fs.toList 0 htile (fun f hf=>by
     obtain⟨i,hi⟩:=List.getElem?_of_mem hf;have hi':fs[i]? =some f:=by simpa using hi
     have h3:=hget i f hi';have hil:i<xs.length:=by rw[hxl];exact(Array.getElem?_eq_some_iff.1 hi').1
     have h4:xs[i]? =some xs[i]:=by simp[hil]
     rw[h4]at h3;have hfL:f.type∈L:=by have:=List.all_eq_true.1 hp.1 f hf;simpa using this
     exact ih f.type _ _ hfL h3)
    rw[List.drop_zero]at h1;refine⟨cs,h1,by rw[h1.1,hlen],fun f hf=>?_⟩;have:=(h2 f hf).2
    rwa[Nat.sub_zero]at this
   |_=>simp at hp
theorem DF {L:List TypeId} (hL:sD P L=true) {t:TypeId} (ht:t∈L) {v:Value} {d:DataW H} {p:List MemPlace} (h:DataW.Trod enc P W 0 (fun _=>true) true t v d p):
 ∃n cs,CM (fun _=>False) W cs v.cells.toList/\Sh P n t cs:=by
 obtain⟨n,hn⟩:=h;obtain⟨cs,h1,h2⟩:=Fi hL n t _ _ ht hn;exact⟨n,cs,h1,h2⟩
theorem Qp {cs:List AV} {vs:Array Value} (h:CM (fun _=>False) W cs vs.toList):DV.M (fun _=>False) W (.agg cs) (.agg vs):=⟨vs.toList,by simp,h⟩
end
end
section
open Go.RowKit Go.Joins
theorem JU {n:Nat} {cs:List AV} (h:Sh Tryz.prog n 34 cs):∃xs:List Nat,cs=[aW xs]/\Wd xs:=by
 cases n with
 |zero=>exact h.elim
 |succ n=>
  simp only[Sh,underlying34]at h
  obtain⟨rows,rfl,_,hr⟩:=h
  have key:∀rows:List (List AV),(∀r∈rows,Sh Tryz.prog n 133 r/\r.length=Tryz.prog.cellsOf 133)-> ∃xs:List Nat,rows.length=xs.length/\rows.flatten=(xs.map fun x:Nat=>AV.val (dp x))/\Wd xs:=by
   intro rows
   induction rows with
   |nil=>intro _;exact⟨[],rfl,rfl,fun x hx=>by cases hx⟩
   |cons r rows ih=>
    intro hr;obtain⟨xs,h1,h2,h3⟩:=ih (fun r hm=>hr r (by simp[hm]));have h4:=(hr r (by simp)).1;cases n with
    |zero=>exact h4.elim
    |succ n=>
     simp only[Sh,underlying133]at h4
     obtain⟨i,rfl,hw⟩:=h4;have hb:=bounds_u32 hw;refine⟨i.toNat::xs,by simp[h1],?_,fun x hx=>?_⟩
     ·rw[List.flatten_cons,h2,List.map_cons]
      have:AV.val (.int .u32 i)=AV.val (dp i.toNat):=by unfold dp;congr 2;omega
      rw[this];rfl
     ·rcases List.mem_cons.1 hx with rfl|hx
      ·omega
      ·exact h3 x hx
  obtain⟨xs,h1,h2,h3⟩:=key rows hr;exact⟨xs,by unfold aW;rw[h1,h2],h3⟩
set_option maxRecDepth 100000 in
theorem H1 {n:Nat} {cs:List AV} (h:Sh Tryz.prog n 36 cs):∃na xs,cs=aI na xs/\Wd xs:=by
 cases n with
 |zero=>exact h.elim
 |succ n=>
  simp only[Sh,underlying36,List.forall_mem_cons,List.not_mem_nil,false_imp_iff,implies_true,and_true]at h
  obtain⟨hl,h0,h1⟩:=h;rw[show Tryz.prog.cellsOf 36=2 by kernel_rfl]at hl;rw[show Tryz.prog.cellsOf 4=1 by kernel_rfl]at h0;rw[show Tryz.prog.cellsOf 34=1 by kernel_rfl]at h1
  match cs,hl with
  | [c0,c1],_=>
   obtain⟨xs,e1,hw⟩:=JU h1;cases n with
   |zero=>exact h0.elim
   |succ n=>
    simp only[Sh,underlying4]at h0
    obtain⟨b,e0⟩:=h0
    simp at e0 e1
    subst e0 e1;exact⟨b,xs,rfl,hw⟩
set_option maxRecDepth 100000 in
theorem PF {n:Nat} {cs:List AV} (h:Sh Tryz.prog n 38 cs):∃na xs nb ys,cs=Eh na xs nb ys/\Wd xs/\Wd ys:=by
 cases n with
 |zero=>exact h.elim
 |succ n=>
  simp only[Sh,underlying38,List.forall_mem_cons,List.not_mem_nil,false_imp_iff,implies_true,and_true]at h
  obtain⟨hl,h0,h1⟩:=h;rw[show Tryz.prog.cellsOf 38=4 by kernel_rfl]at hl;rw[show Tryz.prog.cellsOf 36=2 by kernel_rfl]at h0 h1
  match cs,hl with
  | [c0,c1,c2,c3],_=>
   obtain⟨na,xs,e0,w0⟩:=H1 h0;obtain⟨nb,ys,e1,w1⟩:=H1 h1;refine⟨na,xs,nb,ys,?_,w0,w1⟩;show [c0,c1,c2,c3]=aI na xs++aI nb ys;rw[<- e0,<- e1];rfl
theorem wL {n:Nat} {cs:List AV} (h:Sh Tryz.prog n 9 cs):∃l:List UInt8,cs=[.val (vL l)]/\l.length<=9223372036854775807:=by
 cases n with
 |zero=>exact h.elim
 |succ n=>
  simp only[Sh,underlying9]at h
  obtain⟨s,rfl,hs⟩:=h;obtain⟨l,rfl⟩:∃l,Bs l=s:=⟨_,Jy s⟩;refine⟨l,rfl,?_⟩;rw[aS]at hs;unfold maxLen at hs;exact hs
theorem PZ {n:Nat} {cs:List AV} (h:Sh Tryz.prog n 3 cs):∃i:Int,cs=[.val (.int .i64 i)]/\ -9223372036854775808<=i/\i<=9223372036854775807:=by
 cases n with
 |zero=>exact h.elim
 |succ n=>
  simp only[Sh,underlying3]at h
  obtain⟨i,rfl,hw⟩:=h;exact⟨i,rfl,bounds_i64 hw⟩
end
inductive Rx where
 |mk (op:Int) (na:Bool) (xs:List Nat) (nb:Bool) (ys:List Nat) (nm:List UInt8) (args:List Rx)
mutual
def aR:Rx->List AV
 | .mk op na xs nb ys nm args=>[.val (.int .i64 op)]++Eh na xs nb ys++[.val (vL nm), .sl args.length (db args)]
def db:List Rx->List AV
 | []=>[]
 |x::r=>aR x++db r
end
def dR (x:Rx):DV:= .agg (aR x)
theorem pB (x:Rx):(aR x).length=7:=by
 obtain⟨op,na,xs,nb,ys,nm,args⟩:=x;rfl
theorem fq:∀(l:List Rx) (i:Nat) (x:Rx),l[i]? =some x-> ∀(j:Nat) (a:AV),(aR x)[j]? =some a->(db l)[i*7+j]? =some a
 | [],i,x,h,_,_,_=>by simp at h
 |y::l,0,x,h,j,a,ha=>by
  simp at h
  subst h
  simp only[db,Nat.zero_mul,Nat.zero_add]
  exact Kk
 |y::l,i+1,x,h,j,a,ha=>by
  simp only[db]
  rw[List.getElem?_append_right (by rw[pB,Nat.add_mul];omega),pB,show(i+1)*7+j-7=i*7+j by rw[Nat.add_mul];omega];exact fq l i x (by simpa using h) j a ha
inductive j0:Rx->Prop
 |mk {op:Int} {na:Bool} {xs:List Nat} {nb:Bool} {ys:List Nat} {nm:List UInt8} {args:List Rx}: -9223372036854775808<=op->op<=9223372036854775807->Wd xs->Wd ys->nm.length<=9223372036854775807->args.length<=9223372036854775807->(∀x∈args,j0 x)->j0 (.mk op na xs nb ys nm args)
set_option maxRecDepth 100000 in
theorem E1:∀(n:Nat) (cs:List AV),Sh Tryz.prog n 41 cs-> ∃x,cs=aR x/\j0 x:=by
 intro n
 induction n using Nat.strongRecOn with
 |_ n ih=>
  intro cs h;cases n with
  |zero=>exact h.elim
  |succ n=>
   simp only[Sh,underlying41,List.forall_mem_cons,List.not_mem_nil,false_imp_iff,implies_true,and_true]at h
   obtain⟨hl,h0,h1,h2,h3⟩:=h;rw[show Tryz.prog.cellsOf 41=7 by kernel_rfl]at hl;rw[show Tryz.prog.cellsOf 3=1 by kernel_rfl]at h0;rw[show Tryz.prog.cellsOf 38=4 by kernel_rfl]at h1;rw[show Tryz.prog.cellsOf 9=1 by kernel_rfl]at h2;rw[show Tryz.prog.cellsOf 39=1 by kernel_rfl]at h3
   match cs,hl with
   | [c0,c1,c2,c3,c4,c5,c6],_=>
    obtain⟨op,e0,b0,b1⟩:=PZ h0;obtain⟨na,xs,nb,ys,e1,w0,w1⟩:=PF h1;obtain⟨nm,e2,hn⟩:=wL h2;have e0:[c0]=[.val (.int .i64 op)]:=e0;have e1:[c1,c2,c3,c4]=Eh na xs nb ys:=e1;have e2:[c5]=[.val (vL nm)]:=e2;have h3:Sh Tryz.prog n 39 [c6]:=h3;cases n with
    |zero=>exact h3.elim
    |succ n=>
     simp only[Sh,underlying39]at h3
     obtain⟨rows,e3,hm,hr⟩:=h3
     have key:∀rows:List (List AV),(∀r∈rows,Sh Tryz.prog n 41 r/\r.length=Tryz.prog.cellsOf 41)-> ∃l:List Rx,rows.length=l.length/\rows.flatten=db l/\ ∀x∈l,j0 x:=by
      intro rows
      induction rows with
      |nil=>intro _;exact⟨[],rfl,rfl,fun x hx=>by cases hx⟩
      |cons r rows ihr=>
       intro hr;obtain⟨l,k1,k2,k3⟩:=ihr (fun r hm=>hr r (by simp[hm]));obtain⟨x,k4,k5⟩:=ih n (by omega) r (hr r (by simp)).1;refine⟨x::l,by simp[k1],by rw[List.flatten_cons,k2,k4];rfl,fun y hy=>?_⟩;rcases List.mem_cons.1 hy with rfl|hy
       ·exact k5
       ·exact k3 y hy
     obtain⟨l,k1,k2,k3⟩:=key rows hr;refine⟨.mk op na xs nb ys nm l,?_, .mk b0 b1 w0 w1 hn (by unfold maxLen at hm;omega) k3⟩;show [c0,c1,c2,c3,c4,c5,c6]=[.val (.int .i64 op)]++Eh na xs nb ys++[.val (vL nm), .sl l.length (db l)]
     simp at e0 e2 e3
     rw[<- e1,e0,e2,e3,k1,k2];rfl
inductive B4 where
 |add
 |sub
 |mul
 |div
def B4.code:B4->Int
 | .add=>4
 | .sub=>5
 | .mul=>6
 | .div=>7
inductive Ex where
 |num (v:Rat) (u:List UInt8)
 |nam (s:List UInt8)
 |neg (a:Ex)
 |bin (k:B4) (a b:Ex)
def rx:Ex->Rx
 | .num v u=> .mk 1 (decide (v.num<0)) (digs v.num.natAbs) (decide ((v.den:Int)<0)) (digs (v.den:Int).natAbs) u []
 | .nam s=> .mk 2 false [] false [] s []
 | .neg a=> .mk 3 false [] false [] [] [rx a]
 | .bin k a b=> .mk k.code false [] false [] [] [rx a,rx b]
def aE (e:Ex):List AV:=aR (rx e)
def dE (e:Ex):DV:= .agg (aE e)
theorem QK (a:Ex):aE (.neg a)=[.val (.int .i64 3)]++uo++[.val (vL []), .sl 1 (aE a)]:=by
 show [.val (.int .i64 3)]++Eh false [] false []++[.val (vL []), .sl 1 (aR (rx a)++[])]=_;rw[List.append_nil];rfl
theorem tW (k:B4) (a b:Ex):aE (.bin k a b)=[.val (.int .i64 k.code)]++uo++[.val (vL []), .sl 2 (aE a++aE b)]:=by
 show [.val (.int .i64 k.code)]++Eh false [] false []++[.val (vL []), .sl 2 (aR (rx a)++(aR (rx b)++[]))]=_;rw[List.append_nil];rfl
abbrev EL:=List (List UInt8 × (Rat × Int))
def j4:EL->List AV
 | []=>[]
 |x::r=>jS x.2.1 x.2.2++j4 r
def eU (l:EL):DV:= .leaf (.sl l.length (l.map fun x=>AV.val (vL x.1)))
def eT (l:EL):DV:= .leaf (.sl l.length (j4 l))
def az (l:EL) (s:List UInt8):Option (Rat × Int):=match l with
 | []=>none
 |x::r=>if x.1=s then some x.2 else az r s
theorem DN {l:EL} {i:Nat} {x:List UInt8 × (Rat × Int)} (h:l[i]? =some x):∀(j:Nat) (a:AV),[AV.val (vL x.1)][j]? =some a->(l.map fun x=>AV.val (vL x.1))[i*1+j]? =some a:=by
 exact Pj
theorem DB:∀{l:EL} {i:Nat} {x:List UInt8 × (Rat × Int)},l[i]? =some x-> ∀(j:Nat) (a:AV),(jS x.2.1 x.2.2)[j]? =some a->(j4 l)[i*5+j]? =some a
 | [],i,x,h,_,_,_=>by simp at h
 |y::l,0,x,h,j,a,ha=>by
  simp at h
  subst h
  simp only[j4,Nat.zero_mul,Nat.zero_add]
  exact Kk
 |y::l,i+1,x,h,j,a,ha=>by
  simp only[j4]
  have h5:(jS y.2.1 y.2.2).length=5:=rfl;rw[List.getElem?_append_right (by rw[h5,Nat.add_mul];omega),h5,show(i+1)*5+j-5=i*5+j by rw[Nat.add_mul];omega];exact DB (l:=l) (by simpa using h) j a ha
def fo (l:EL):Prop:=∀(i j:Nat) (a b:List UInt8 × (Rat × Int)),i<j->l[i]? =some a->l[j]? =some b->Op.bytesLess a.1 b.1=true
theorem gE:∀a:List UInt8,Op.bytesLess a a=false
 | []=>rfl
 |x::a=>by simp[Op.bytesLess,gE a]
theorem dX:∀{a b c:List UInt8},Op.bytesLess a b=true->Op.bytesLess b c=true->Op.bytesLess a c=true
 |_,_,[],_,h=>by simp[Op.bytesLess]at h
 | [],_,_::_,_,_=>rfl
 |_::_,[],_::_,h,_=>by simp[Op.bytesLess]at h
 |x::a,y::b,z::c,h,k=>by
  simp only[Op.bytesLess,Bool.or_eq_true,Bool.and_eq_true,decide_eq_true_eq,beq_iff_eq]at h k ⊢
  rcases h with h| ⟨rfl,h⟩
  ·rcases k with k| ⟨rfl,k⟩
   ·exact .inl (UInt8.lt_trans h k)
   ·exact .inl h
  ·rcases k with k| ⟨rfl,k⟩
   ·exact .inl k
   ·exact .inr ⟨rfl,dX h k⟩
theorem i8:∀{a b:List UInt8},Op.bytesLess a b=false->Op.bytesLess b a=false->a=b
 | [],[],_,_=>rfl
 | [],_::_,h,_=>by simp[Op.bytesLess]at h
 |_::_,[],_,h=>by simp[Op.bytesLess]at h
 |x::a,y::b,h,k=>by
  simp only[Op.bytesLess,Bool.or_eq_false_iff,Bool.and_eq_false_iff,decide_eq_false_iff_not,beq_eq_false_iff_ne]at h k
  have h1:x=y:=by
   rcases Nat.lt_trichotomy x.toNat y.toNat with h2|h2|h2
   ·exact absurd (UInt8.lt_iff_toNat_lt.2 h2) h.1
   ·exact UInt8.toNat_inj.1 h2
   ·exact absurd (UInt8.lt_iff_toNat_lt.2 h2) k.1
  subst h1;rw[i8 (h.2.resolve_left (fun e=>e rfl)) (k.2.resolve_left (fun e=>e rfl))]
theorem wm {t:TypeId} {x y:Operand} {a b:List UInt8}:m6 .lss t x y (vL a) (vL b)=some (.bool (Op.bytesLess a b)):=by
 show some (Value.bool (Op.bytesLess (Bs a).toList (Bs b).toList))=_;rw[fZ,fZ]
theorem xB (a:List UInt8):aa Tryz.prog 193 [dL a] (.one (dB false)):=by
 refine kU func193 ?_;exact N0
theorem zq (a:List UInt8):aa Tryz.prog 131 [dL a] (.one (dB false)):=by
 refine kU func131 ?_;exact N0
theorem Mj (a b:List UInt8):aa Tryz.prog 130 [dL a,dL b] (.one (dB (Op.bytesLess a b))):=by
 refine kU func130 ?_;refine fT ?_;refine kC (xB a) ?_
 iterate 8 refine kO ?_
 refine aC rfl rfl rfl rfl rfl rfl rfl (wm (a:=a) (b:=b)) ?_;exact ax
theorem ME (l:EL) (hs:fo l) (hl:l.length<=1000000) (s:List UInt8):∃(i:Nat) (b:Bool),aa Tryz.prog 75 [eU l,dL s] (.tup [dN .i64 i,dB b]) /\
 (b=true-> ∃x,l[i]? =some x/\x.1=s)/\(b=false-> ∀x∈l,x.1≠s):=by
 obtain⟨p,hp1,hp2,hp3⟩:∃p,p<=l.length/\(∀(q:Nat) x,q<p->l[q]? =some x->Op.bytesLess x.1 s=true)/\(∀(q:Nat) x,p<=q->l[q]? =some x->Op.bytesLess x.1 s=false):=by
  have:∀k,k<=l.length-> ∃p,p<=k/\(∀(q:Nat) x,q<p->l[q]? =some x->Op.bytesLess x.1 s=true)/\(∀(q:Nat) x,p<=q->q<k->l[q]? =some x->Op.bytesLess x.1 s=false):=by
   intro k
   induction k with
   |zero=>intro _;exact⟨0,Nat.le_refl _,fun q x h=>absurd h (Nat.not_lt_zero _),fun q x _ h=>absurd h (Nat.not_lt_zero _)⟩
   |succ k ih=>
    intro hk;obtain⟨p,h1,h2,h3⟩:=ih (by omega);have hx:l[k]? =some (l[k]'(by omega)):=by simp
    by_cases hpk:p=k
    ·cases hb:Op.bytesLess (l[k]'(by omega)).1 s
     ·exact⟨k,by omega,fun q x hq=>h2 q x (by omega),fun q x h4 h5 h6=>by
       obtain rfl:q=k:=by omega
       rw[hx]at h6;cases h6;exact hb⟩
     ·exact⟨k+1,by omega,fun q x hq h6=>by
       by_cases e:q=k
       ·subst e;rw[hx]at h6;cases h6;exact hb
       ·exact h2 q x (by omega) h6,fun q x h4 h5=>by omega⟩
    ·refine⟨p,by omega,h2,fun q x h4 h5 h6=>?_⟩
     by_cases e:q=k
     ·subst e
      have hpx:l[p]? =some (l[p]'(by omega)):=by simp
      have h7:=h3 p _ (Nat.le_refl _) (by omega) hpx;cases hb:Op.bytesLess x.1 s
      ·rfl
      ·have h8:=hs p q _ _ (by omega) hpx h6
       rw[dX h8 hb]at h7;cases h7
     ·exact h3 q x h4 (by omega) h6
  obtain⟨p,h1,h2,h3⟩:=this l.length (Nat.le_refl _);exact⟨p,h1,h2,fun q x h4 h5=>h3 q x h4 (List.getElem?_eq_some_iff.1 h5).1 h5⟩
 have done:∀b,(∀x,l[p]? =some x->decide (x.1=s)=b)->(l[p]? =none->b=false)->aa Tryz.prog 75 [eU l,dL s] (.tup [dN .i64 p,dB b]):=by
  intro b hb hb';refine kV func75 ?_
  refine aq (Nat × Nat) (fun x=>x.1<=p/\p<=x.2/\x.2<=l.length) (fun x=>⟨[(0, .d (eU l)),(1, .d (dL s)),(4, .d (dN .i64 0)),(5, .d (dB false)),(6, .d (dN .i64 l.length)),(7, .d (dN .i64 x.1)),(8, .d (dN .i64 x.2))],[]⟩) (fun x=>x.2-x.1) (0,l.length) ⟨Nat.zero_le _,hp1,Nat.le_refl _⟩
   kw ?_
  rintro⟨i,j⟩ ⟨h1,h2,h3⟩;dsimp only at h1 h2 h3 ⊢;refine kI ?_
  refine kO2 ?_
  by_cases hij:i<j
  ·refine Ie ?_
   refine el ?_;refine Au ?_;exact Ta
  ·have e1:i=p:=by omega
   have e2:j=p:=by omega
   subst e2;subst e1;refine kE ?_;refine jR ?_;refine kI ?_
   refine kO3 ?_
   by_cases hil:i<l.length
   ·have hx:l[i]? =some l[i]:=by simp[hil]
    refine kT ?_;refine Ql ?_
    refine kO2 ?_
    have hb0:=hb _ hx
    by_cases e:l[i].1=s
    ·rw[decide_eq_true e]at hb0
     subst hb0;refine aC rfl rfl rfl rfl rfl rfl rfl (bn (a:=l[i].1) (b:=s) e) ?_;exact ax
    ·rw[decide_eq_false e]at hb0
     subst hb0;exact NW
   ·have hn:=hb' (List.getElem?_eq_none (by omega))
    subst hn;refine kE ?_;exact ax
 cases hx:l[p]? with
 |none=>
  refine⟨p,false,done false (fun x h=>by rw[hx]at h;cases h) (fun _=>rfl),fun h=>(by cases h),fun _ x hm e=>?_⟩;obtain⟨q,hq⟩:=List.getElem?_of_mem hm;have h1:=List.getElem?_eq_none_iff.1 hx;have h2:=(List.getElem?_eq_some_iff.1 hq).1;have:=hp2 q x (by omega) hq;rw[e,gE]at this;cases this
 |some y=>
  by_cases e:y.1=s
  ·exact⟨p,true,done true (fun x h=>by rw[hx]at h;cases h;exact decide_eq_true e) (fun h=>by simp[hx]at h),fun _=>⟨y,hx,e⟩,fun h=>by cases h⟩
  ·refine⟨p,false,done false (fun x h=>by rw[hx]at h;cases h;exact decide_eq_false e) (fun h=>by simp[hx]at h),fun h=>(by cases h),fun _ x hm ex=>?_⟩
   obtain⟨q,hq⟩:=List.getElem?_of_mem hm;rcases Nat.lt_trichotomy q p with h|h|h
   ·have:=hp2 q x h hq
    rw[ex,gE]at this;cases this
   ·subst h;rw[hx]at hq;cases hq;exact e ex
   ·have h1:=hs p q _ _ h hx hq
    have h2:=hp3 p y (Nat.le_refl _) hx;rw[ex,h2]at h1;cases h1
theorem D8 {l:EL} (hs:fo l):∀{i:Nat} {x:List UInt8 × (Rat × Int)},l[i]? =some x->az l x.1=some x.2:=by
 induction l with
 |nil=>intro i x h;simp at h
 |cons y l ih=>
  intro i x h
  simp only[az]
  cases i with
  |zero=>simp at h;subst h;rw[if_pos rfl]
  |succ i=>
   have h':l[i]? =some x:=by simpa using h
   have h1:=hs 0 (i+1) y x (by omega) rfl h;rw[if_neg (fun e=>by rw[e,gE]at h1;cases h1)];exact ih (fun a b u v hab hu hv=>hs (a+1) (b+1) u v (by omega) (by simpa using hu) (by simpa using hv)) h'
theorem vr {l:EL} {s:List UInt8} (h:∀x∈l,x.1≠s):az l s=none:=by
 induction l with
 |nil=>rfl
 |cons y l ih=>simp only[az];rw[if_neg (h y (by simp)),ih (fun x hx=>h x (by simp[hx]))]
abbrev L8:=List UInt8
theorem sF (x y:L8):decide (x<=y)=!Op.bytesLess y x:=by
 rw[bytesLess_eq];show decide (¬y<x)=_;rw[decide_not]
def sM (l:List L8):Prop:=l.Pairwise fun a b=>Op.bytesLess a b=true
theorem oT:∀{a b:List L8},sM a->sM b->(∀x,x∈a↔x∈b)->a=b
 | [],[],_,_,_=>rfl
 | [],y::b,_,_,h=>absurd ((h y).2 (by simp)) (by simp)
 |x::a,[],_,_,h=>absurd ((h x).1 (by simp)) (by simp)
 |x::a,y::b,ha,hb,h=>by
  have ha:=List.pairwise_cons.1 ha;have hb:=List.pairwise_cons.1 hb
  have e:x=y:=by
   rcases List.mem_cons.1 ((h x).1 (by simp))with e|hx
   ·exact e
   ·rcases List.mem_cons.1 ((h y).2 (by simp))with e|hy
    ·exact e.symm
    ·have:=dX (ha.1 y hy) (hb.1 x hx)
     rw[gE]at this;cases this
  subst e
  congr 1
  refine oT ha.2 hb.2 fun z=>⟨fun hz=>?_,fun hz=>?_⟩
  ·rcases List.mem_cons.1 ((h z).1 (List.mem_cons_of_mem _ hz))with rfl|hz'
   ·have:=ha.1 z hz;rw[gE]at this;cases this
   ·exact hz'
  ·rcases List.mem_cons.1 ((h z).2 (List.mem_cons_of_mem _ hz))with rfl|hz'
   ·have:=hb.1 z hz;rw[gE]at this;cases this
   ·exact hz'
def gx:List L8->L8->List L8
 | [],x=>[x]
 |y::r,x=>if Op.bytesLess y x=true then y::gx r x else if y=x then y::r else x::y::r
theorem nP:∀{l:List L8} {x z:L8},z∈gx l x↔z=x∨z∈l
 | [],x,z=>by simp[gx]
 |y::r,x,z=>by
  have ih:=nP (l:=r) (x:=x) (z:=z);unfold gx
  split
  ·simp only[List.mem_cons,ih]
   constructor
   ·rintro(h|h|h)
    ·exact .inr (.inl h)
    ·exact .inl h
    ·exact .inr (.inr h)
   ·rintro(h|h|h)
    ·exact .inr (.inl h)
    ·exact .inl h
    ·exact .inr (.inr h)
  ·split
   ·rename_i e
    subst e
    simp only[List.mem_cons]
    constructor
    ·exact fun h=> .inr h
    ·rintro(h|h)
     ·exact .inl h
     ·exact h
   ·simp only[List.mem_cons]
theorem yX:∀{l:List L8} {x:L8},sM l->sM (gx l x)
 | [],x,_=>List.pairwise_singleton _ _
 |y::r,x,h=>by
  have h':=List.pairwise_cons.1 h;unfold gx
  split
  ·rename_i hy
   refine List.pairwise_cons.2 ⟨fun z hz=>?_,yX h'.2⟩;rcases nP.1 hz with rfl|hz
   ·exact hy
   ·exact h'.1 z hz
  ·split
   ·exact h
   ·rename_i h1 h2
    have hxy:Op.bytesLess x y=true:=by
     cases hb:Op.bytesLess x y
     ·exact absurd (i8 (by simpa using h1) hb) h2
     ·rfl
    refine List.pairwise_cons.2 ⟨fun z hz=>?_,h⟩;rcases List.mem_cons.1 hz with rfl|hz
    ·exact hxy
    ·exact dX hxy (h'.1 z hz)
def gJ (l:List L8):List L8:=l.foldl gx []
theorem ph:∀(l acc:List L8),sM acc->sM (l.foldl gx acc)/\ ∀z,z∈l.foldl gx acc↔z∈acc∨z∈l
 | [],acc,h=>⟨h,fun z=>by simp⟩
 |x::l,acc,h=>by
  obtain⟨h1,h2⟩:=ph l (gx acc x) (yX h);refine⟨h1,fun z=>?_⟩;rw[List.foldl_cons,h2,nP,List.mem_cons]
  constructor
  ·rintro((h|h)|h)
   ·exact .inr (.inl h)
   ·exact .inl h
   ·exact .inr (.inr h)
  ·rintro(h|h|h)
   ·exact .inl (.inr h)
   ·exact .inl (.inl h)
   ·exact .inr h
theorem mI (l:List L8):sM (gJ l):=(ph l [] List.Pairwise.nil).1
theorem ft (l:List L8) (z:L8):z∈gJ l↔z∈l:=by
 rw[gJ,(ph l [] List.Pairwise.nil).2]
 simp
theorem Dz:∀{l:List L8} {x:L8} {k:Nat},k<=l.length->(∀(q:Nat) y,q<k->l[q]? =some y->Op.bytesLess y x=true)->(∀y,l[k]? =some y->Op.bytesLess y x=false)->gx l x=if l[k]? =some x then l else l.take k++x::l.drop k
 | [],x,k,hk,_,_=>by
  obtain rfl:k=0:=by simpa using hk
  rfl
 |y::r,x,0,_,_,h=>by
  have hy:=h y rfl;unfold gx;rw[if_neg (by rw[hy];decide)]
  by_cases e:y=x
  ·subst e;simp
  ·simp[e]
 |y::r,x,k+1,hk,hq,h=>by
  have ih:=Dz (l:=r) (x:=x) (k:=k) (by simpa using hk) (fun q z h1 h2=>hq (q+1) z (by omega) (by simpa using h2)) (fun z hz=>h z (by simpa using hz));unfold gx;rw[if_pos (hq 0 y (by omega) rfl),ih]
  simp only[List.getElem?_cons_succ,List.take_succ_cons,List.drop_succ_cons]
  split <;>rfl
theorem yx (l:List L8) (x:L8):Lib.compact (l++[x])=Lib.compact l++if l.getLast? =some x then []else [x]:=by
 unfold Lib.compact;have hlen:(l++[x]).length=l.length+1:=by simp
 rw[hlen,Lib.compactUpTo_succ]
 have hg:∀j,j<l.length->(l++[x]).toArray[j]! =l.toArray[j]!:=fun j hj=>by
  rw[getElem!_pos _ j (by simp;omega),getElem!_pos _ j (by simpa using hj)]
  simp[List.getElem_append_left hj]
 congr 1
 ·unfold Lib.compactUpTo
  have hk:∀j∈List.range l.length,Lib.keeps (l++[x]).toArray j=Lib.keeps l.toArray j:=fun j hj=>by
   have hj:=List.mem_range.1 hj;unfold Lib.keeps;rw[hg j hj];cases j with
   |zero=>simp
   |succ j=>rw[show j+1-1=j from rfl,hg j (by omega)]
  rw[List.filter_congr hk];refine List.map_congr_left fun j hj=>?_
  exact hg j (List.mem_range.1 (List.mem_filter.1 hj).1)
 ·have hx:(l++[x]).toArray[l.length]! =x:=by
   rw[getElem!_pos _ _ (by simp)]
   simp
  rw[hx]
  by_cases h0:l=[]
  ·subst h0
   rfl
  ·have hp:0<l.length:=List.length_pos_iff.2 h0
   have hlast:l.getLast? =some ((l++[x]).toArray[l.length-1]!):=by
    rw[hg _ (by omega),getElem!_pos _ _ (by simpa using by omega),List.getLast?_eq_getElem?]
    simp[hp]
   rw[hlast];unfold Lib.keeps;rw[hx]
   by_cases e:(l++[x]).toArray[l.length-1]! =x
   ·rw[if_neg,if_pos (by rw[e])]
    rw[decide_eq_true_eq];rintro(h|h)
    ·omega
    ·exact h e.symm
   ·rw[if_pos,if_neg (fun h=>e (Option.some.inj h))]
    rw[decide_eq_true_eq];exact .inr fun h=>e h.symm
theorem Cy:∀(n:Nat) (l:List L8),l.length=n->l.Pairwise (fun a b=>Op.bytesLess b a=false)->sM (Lib.compact l)/\ ∀z,z∈Lib.compact l↔z∈l:=by
 intro n
 induction n with
 |zero=>
  intro l hl _;obtain rfl:=List.eq_nil_of_length_eq_zero hl;exact⟨List.Pairwise.nil,fun z=>Iff.rfl⟩
 |succ n ih=>
  intro l hl hp;obtain⟨l,x,rfl⟩:∃l' x,l=l'++[x]:=⟨l.dropLast,l.getLast (by intro e;rw[e]at hl;cases hl),(List.dropLast_concat_getLast _).symm⟩;have hl':l.length=n:=by simpa using hl
  obtain⟨hp1,_,hp2⟩:=List.pairwise_append.1 hp;obtain⟨h1,h2⟩:=ih l hl' hp1;rw[yx]
  by_cases e:l.getLast? =some x
  ·rw[if_pos e,List.append_nil]
   refine⟨h1,fun z=>?_⟩;rw[h2,List.mem_append,List.mem_singleton]
   constructor
   ·exact .inl
   ·rintro(h|rfl)
    ·exact h
    ·exact List.mem_of_getLast? e
  ·rw[if_neg e]
   refine⟨List.pairwise_append.2 ⟨h1,List.pairwise_singleton _ _,fun a ha b hb=>?_⟩,fun z=>?_⟩
   ·rw[List.mem_singleton.1 hb]
    have ha:=(h2 a).1 ha
    obtain⟨y,hy⟩:∃y,l.getLast? =some y:=by
     cases hl:l.getLast? with
     |none=>rw[List.getLast?_eq_none_iff.1 hl]at ha;cases ha
     |some y=>exact⟨y,rfl⟩
    have hyl:=List.mem_of_getLast? hy
    have hyx:Op.bytesLess y x=true:=by
     cases hb2:Op.bytesLess y x
     ·exact absurd (by rw[hy,i8 hb2 (hp2 y hyl x (by simp))]) e
     ·rfl
    by_cases ey:a=y
    ·rw[ey];exact hyx
    ·have hay:Op.bytesLess y a=false:=by
      obtain⟨l2,rfl⟩:∃l2,l=l2++[y]:=by
       refine⟨l.dropLast,?_⟩;have:=List.getLast?_eq_some_iff.1 hy;obtain⟨ys,rfl⟩:=this
       simp
      rcases List.mem_append.1 ha with ha|ha
      ·exact(List.pairwise_append.1 hp1).2.2 a ha y (by simp)
      ·exact absurd (List.mem_singleton.1 ha) ey
     have hya:Op.bytesLess a y=true:=by
      cases hb3:Op.bytesLess a y
      ·exact absurd (i8 hb3 hay) ey
      ·rfl
     exact dX hya hyx
   ·rw[List.mem_append,h2,List.mem_append]
theorem nJ (l:List L8):Lib.compact (l.mergeSort fun x y=>decide (x<=y))=gJ l:=by
 have hs:(l.mergeSort fun x y=>decide (x<=y)).Pairwise (fun a b=>Op.bytesLess b a=false):=by
  have:=List.pairwise_mergeSort (le:=fun x y:L8=>decide (x<=y)) (fun a b c h1 h2=>?_) (fun a b=>?_) l
  ·refine this.imp fun {a b} h=>?_
   rw[sF]at h
   simpa using h
  ·rw[sF]at h1 h2 ⊢
   simp only[Bool.not_eq_true']at h1 h2 ⊢
   cases hb:Op.bytesLess c a
   ·rfl
   ·cases h3:Op.bytesLess a b
    ·rw[i8 h3 h1,h2]at hb;cases hb
    ·rw[dX hb h3]at h2;cases h2
  ·rw[sF,sF]
   cases h1:Op.bytesLess b a
   ·rfl
   ·cases h2:Op.bytesLess a b
    ·rfl
    ·have:=dX h1 h2;rw[gE]at this;cases this
 obtain⟨h1,h2⟩:=Cy _ _ rfl hs;refine oT h1 (mI l) fun z=>?_
 rw[h2,ft,(List.mergeSort_perm l _).mem_iff]
mutual
def ej:Rx->List L8
 | .mk op _ _ _ _ nm args=>gJ ((if op=2 then [nm]else [])++fR args)
def fR:List Rx->List L8
 | []=>[]
 |y::r=>ej y++fR r
end
end Go.Proofs.YtmkggcjajcdlcaaGreatDoor
