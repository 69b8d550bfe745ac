/- Parts of a proof: contracts of the functions that the laws reach. -/
import Derived.Test.YtmkggcjajcdlcaaGreatDoorQAa
import Derived.Test.YtmkggcjajcdlcaaGreatDoorQZ1
import Derived.Test.YtmkggcjajcdlcaaGreatDoorQAe
import Derived.Test.YtmkggcjajcdlcaaGreatDoorQShelf
import Derived.Test.YtmkggcjajcdlcaaGreatDoorQAmG
import Derived.Shelf.Strconv.AppendUint10
import Derived.Shelf.Strconv.Itoa3
import Derived.Shelf.Strings.BuilderK
set_option maxHeartbeats 100000000
set_option linter.all false
open Go.Proofs.Tryz
namespace Go.Proofs.YtmkggcjajcdlcaaGreatDoor
open Go.RowKit
theorem uK {q:Rat} {n:Int} {d:Nat} (hd:0<d) (hc:Nat.gcd n.natAbs d=1) (h:n*q.den=q.num*d):q.num=n∧q.den=d:=by
 have hp:(⟨n,d,by omega,hc⟩:Rat)=q:=by
  have h1:=Rat.num_divInt_den (⟨n,d,by omega,hc⟩:Rat);have h2:=Rat.num_divInt_den q;rw[← h1,← h2,Rat.divInt_eq_divInt_iff (by show(d:Int)≠0;omega) (by have:=q.den_nz;omega)];exact h
 exact⟨by rw[← hp],by rw[← hp]⟩
def gz (n d:Int):Int:=if d<0 then -((Nat.gcd n.natAbs d.natAbs:Nat):Int)else(Nat.gcd n.natAbs d.natAbs:Nat)
theorem tw {n d:Int} (h:d≠0):gz n d≠0:=by
 have:0<Nat.gcd n.natAbs d.natAbs:=Nat.gcd_pos_of_pos_right _ (by omega)
 unfold gz;split <;>omega
theorem jd {a b c:Int} (h:b≠0) (e:a=b*c):a.fdiv b=c:=by rw[e];exact Int.mul_fdiv_cancel_left _ h
theorem og {n d:Int} (hd:d≠0):n.fdiv (gz n d)=(Rat.divInt n d).num∧d.fdiv (gz n d)=((Rat.divInt n d).den:Int)∧n=gz n d*(Rat.divInt n d).num∧d=gz n d*((Rat.divInt n d).den:Int):=by
 have hg0:=tw (n:=n) hd;obtain⟨a,ha⟩:((Nat.gcd n.natAbs d.natAbs:Nat):Int)∣n:=Int.ofNat_dvd_left.2 (Nat.gcd_dvd_left _ _);obtain⟨b,hb⟩:((Nat.gcd n.natAbs d.natAbs:Nat):Int)∣d:=Int.ofNat_dvd_left.2 (Nat.gcd_dvd_right _ _);have hp:0<Nat.gcd n.natAbs d.natAbs:=Nat.gcd_pos_of_pos_right _ (by omega)
 obtain⟨G,hG⟩:∃G,Nat.gcd n.natAbs d.natAbs=G:=⟨_,rfl⟩;have hG':=hG;rw[hG]at ha hb hp
 have hab:Nat.gcd a.natAbs b.natAbs=1:=by
  rw[ha,hb,Int.natAbs_mul,Int.natAbs_mul,Int.natAbs_natCast,Nat.gcd_mul_left]at hG;exact Nat.eq_of_mul_eq_mul_left hp (by omega)
 obtain⟨s,hs1,hs2⟩:∃s:Int,gz n d=G*s∧(s=1∧0<b∨s= -1∧b<0):=by
  unfold gz;rw[hG'];have hb0:b≠0:=by rintro rfl;simp at hb;omega
  split
  ·refine⟨-1,by omega, .inr ⟨rfl,?_⟩⟩
   rcases Int.lt_trichotomy b 0 with h|h|h
   ·exact h
   ·omega
   ·have:0<(G:Int)*b:=Int.mul_pos (by omega) h
    omega
  ·refine⟨1,by omega, .inl ⟨rfl,?_⟩⟩
   rcases Int.lt_trichotomy b 0 with h|h|h
   ·have:0<(G:Int)*(-b):=Int.mul_pos (by omega) (by omega)
    rw[Int.mul_neg]at this;omega
   ·omega
   ·exact h
 have hq:(Rat.divInt n d).num=s*a∧(Rat.divInt n d).den=(s*b).toNat:=by
  refine uK ?_ ?_ ?_
  ·rcases hs2 with⟨rfl,h⟩| ⟨rfl,h⟩<;>omega
  ·have e:(s*b).toNat=b.natAbs:=by rcases hs2 with⟨rfl,h⟩| ⟨rfl,h⟩<;>omega
   have e2:(s*a).natAbs=a.natAbs:=by rcases hs2 with⟨rfl,h⟩| ⟨rfl,h⟩<;>omega
   rw[e,e2,hab]
  ·have h1:=Rat.num_divInt_den (Rat.divInt n d)
   have h0:((Rat.divInt n d).den:Int)≠0:=by have:=(Rat.divInt n d).den_nz;omega
   have h2:=(Rat.divInt_eq_divInt_iff h0 hd).1 h1
   have h3:((s*b).toNat:Int)=s*b:=by
    have:0≤s*b:=by rcases hs2 with⟨rfl,h⟩| ⟨rfl,h⟩<;>omega
    omega
   rw[h3];generalize(Rat.divInt n d).num=p at *;generalize((Rat.divInt n d).den:Int)=q at *;rw[ha,hb]at h2
   have h4:(G:Int)*(p*b)=G*(a*q):=by
    rw[← Int.mul_assoc,Int.mul_comm (G:Int) p,Int.mul_assoc,h2,Int.mul_assoc]
   have h5:=Int.eq_of_mul_eq_mul_left (by omega) h4;rw[Int.mul_assoc,← h5]
   simp[Int.mul_left_comm,Int.mul_comm]
 have hss:s*s=1:=by rcases hs2 with⟨rfl,_⟩| ⟨rfl,_⟩<;>rfl
 have e1:n=gz n d*(Rat.divInt n d).num:=by
  rw[hs1,hq.1,Int.mul_assoc,← Int.mul_assoc s s a,hss,Int.one_mul];exact ha
 have e2:d=gz n d*((Rat.divInt n d).den:Int):=by
  have h3:((s*b).toNat:Int)=s*b:=by
   have:0≤s*b:=by rcases hs2 with⟨rfl,h⟩| ⟨rfl,h⟩<;>omega
   omega
  rw[hs1,hq.2,h3,Int.mul_assoc,← Int.mul_assoc s s b,hss,Int.one_mul];exact hb
 exact⟨jd hg0 e1,jd hg0 e2,e1,e2⟩
theorem ld (q:Rat):Rat.divInt q.num q.den=q:=Rat.num_divInt_den q
theorem co (q:Rat):0<(q.den:Int):=by have:=q.den_nz;omega
theorem o8 (q:Rat):Nat.gcd q.num.natAbs q.den=1:=q.reduced
theorem fe (a b:Rat):Rat.divInt (a.num*b.den+b.num*a.den) (a.den*b.den)=a+b:=by
 have h:=Rat.divInt_add_divInt a.num b.num (d₁:=a.den) (d₂:=b.den) (by have:=co a;omega) (by have:=co b;omega);rw[Rat.num_divInt_den,Rat.num_divInt_den]at h;exact h.symm
theorem pT (a b:Rat):Rat.divInt (a.num*b.num) (a.den*b.den)=a*b:=by
 have h:=Rat.divInt_mul_divInt a.num b.num (d₁:=a.den) (d₂:=b.den);rw[Rat.num_divInt_den,Rat.num_divInt_den]at h;exact h.symm
theorem kZ {q:Rat} {n:Int} (h:q=n):q.num=n∧q.den=1:=by subst h;exact⟨rfl,rfl⟩
theorem gx {q:Rat} (h:q.den=1):q=(q.num:Rat):=Rat.ext rfl h
theorem qZ {a b:Rat} (ha:a.den=1) (hb:b.den=1):(a+b).num=a.num+b.num∧(a+b).den=1:=by
 refine kZ ?_;rw[gx ha,gx hb]
 simp
theorem oc {a b:Rat} (ha:a.den=1) (hb:b.den=1):(a*b).num=a.num*b.num∧(a*b).den=1:=by
 refine kZ ?_;rw[gx ha,gx hb]
 simp
theorem q6 (a b:Rat):(a*b).num=(a.num/(Nat.gcd a.num.natAbs b.den:Nat))*(b.num/(Nat.gcd b.num.natAbs a.den:Nat))∧(a*b).den=(a.den/Nat.gcd b.num.natAbs a.den)*(b.den/Nat.gcd a.num.natAbs b.den):=by
 show(Rat.mul a b).num=_∧(Rat.mul a b).den=_;rw[Rat.mul.eq_1]
 simp only[Int.divExact_eq_ediv,Nat.divExact_eq_div]
 exact⟨trivial,trivial⟩
def yA (q:Rat):Int:=q.num.sign
theorem uC (a:Rat):(a*a).num=a.num*a.num∧(a*a).den=a.den*a.den:=by
 have:=q6 a a;rw[o8]at this
 simpa using this
theorem qc (a:Rat):a.num.fdiv a.den=a.floor:=by
 rw[Rat.floor_def,Int.fdiv_eq_ediv_of_nonneg];have:=co a;omega
def ny (c:UInt8):Bool:=decide (eF c)
theorem ep {c:UInt8}:ny c=true↔eF c:=decide_eq_true_iff
def gN (t:List UInt8):List UInt8:=t.takeWhile ny
def jH (t:List UInt8):List UInt8:=t.dropWhile ny
theorem uB (t:List UInt8):gN t++jH t=t:=List.takeWhile_append_dropWhile
theorem oE (t:List UInt8):∀c∈gN t,eF c:=fun c hc=>ep.1 (List.all_eq_true.1 (List.all_takeWhile (p:=ny) (l:=t)) c hc)
theorem eL {a b:List UInt8} (h:∀c∈a,eF c):gN (a++b)=a++gN b∧jH (a++b)=jH b:=by
 induction a with
 |nil=>exact⟨rfl,rfl⟩
 |cons x a ih=>
  have hx:=ep.2 (h x (by simp));obtain⟨h1,h2⟩:=ih (fun c hc=>h c (by simp[hc]));unfold gN jH at *;rw[List.cons_append,List.takeWhile_cons_of_pos hx,List.dropWhile_cons_of_pos hx,h1,h2];exact⟨rfl,rfl⟩
theorem eM {c:UInt8} {b:List UInt8} (h:¬eF c):gN (c::b)=[]∧jH (c::b)=c::b:=by
 have hc:¬ny c=true:=fun e=>h (ep.1 e)
 unfold gN jH;exact⟨List.takeWhile_cons_of_neg hc,List.dropWhile_cons_of_neg hc⟩
theorem rV {a:List UInt8} (h:∀c∈a,eF c):gN a=a∧jH a=[]:=by
 have:=eL (b:=[]) h
 simpa[gN,jH]using this
theorem sP {t:List UInt8} {c:UInt8} {b:List UInt8} (h:jH t=c::b):¬eF c:=by
 intro hc;unfold jH at h;have:=List.head?_dropWhile_not (p:=ny) (l:=t);rw[h]at this
 simp[ep.2 hc]at this
theorem kK {a:List UInt8} (h:¬∀c∈a,eF c):∃p c r,a=p++c::r∧(∀x∈p,eF x)∧ ¬eF c:=by
 have e:=uB a;cases hr:jH a with
 |nil=>
  rw[hr,List.append_nil]at e;exact absurd (fun c hc=>oE a c (by rw[e];exact hc)) h
 |cons c r=>exact⟨gN a,c,r,by rw[← hr,e],oE a,sP hr⟩
open Classical in
noncomputable def fC (t:List UInt8):Option Rat:=
 if gU false (gN t)then
  match jH t with
  | []=>some ((num (gN t):Int):Rat)
  |c::b=>
   if c=46 then(if b≠[]∧(∀x∈b,eF x)then some (Rat.divInt ((num (gN t)*10^b.length+num b:Nat):Int) ((10^b.length:Nat):Int))else none)
   else if c=47 then(if gU false b∧num b≠0∧num b≠1∧Nat.gcd (num (gN t)) (num b)=1 then some (Rat.divInt (num (gN t):Int) (num b:Int))else none)
   else none
 else none
theorem x5:¬eF 47:=by decide
theorem yz:¬eF 46:=by decide
theorem ct {a:List UInt8} (h:gU false a):∀c∈a,eF c:=h.2.1
open Classical in
theorem lS {a b:List UInt8} (ha:47 ∉ a):fC (a++47::b)=if gU false a∧gU false b∧num b≠0∧num b≠1∧Nat.gcd (num a) (num b)=1 then some (Rat.divInt (num a:Int) (num b:Int))else none:=by
 by_cases h:∀c∈a,eF c
 ·have h1:=eL (b:=47::b) h
  obtain⟨h2,h3⟩:=eM (b:=b) x5;rw[h2,h3,List.append_nil]at h1;unfold fC;rw[h1.1,h1.2]
  by_cases ho:gU false a
  ·rw[if_pos ho]
   dsimp only;rw[if_neg (by decide),if_pos rfl]
   by_cases hb:gU false b∧num b≠0∧num b≠1∧Nat.gcd (num a) (num b)=1
   ·rw[if_pos hb,if_pos ⟨ho,hb⟩]
   ·rw[if_neg hb,if_neg (fun h=>hb h.2)]
  ·rw[if_neg ho,if_neg (fun h=>ho h.1)]
 ·rw[if_neg (fun e=>h (ct e.1))]
  obtain⟨p,c,r,rfl,hp,hc⟩:=kK h;have h1:=eL (b:=c::(r++47::b)) hp;obtain⟨h2,h3⟩:=eM (b:=r++47::b) hc;rw[h2,h3,List.append_nil]at h1;unfold fC;rw[show p++c::r++47::b=p++c::(r++47::b) by simp,h1.1,h1.2]
  split
  ·dsimp only
   split
   ·rw[if_neg (fun e=>x5 (e.2 47 (by simp)))]
   ·rw[if_neg (fun e=>ha (by rw[e];simp))]
  ·rfl
open Classical in
theorem rE {a b:List UInt8} (h47:47 ∉ a++46::b) (ha:46 ∉ a):fC (a++46::b)=if gU false a∧b≠[]∧(∀x∈b,eF x)then some (Rat.divInt ((num a*10^b.length+num b:Nat):Int) ((10^b.length:Nat):Int))else none:=by
 by_cases h:∀c∈a,eF c
 ·have h1:=eL (b:=46::b) h
  obtain⟨h2,h3⟩:=eM (b:=b) yz;rw[h2,h3,List.append_nil]at h1;unfold fC;rw[h1.1,h1.2]
  by_cases ho:gU false a
  ·rw[if_pos ho]
   dsimp only;rw[if_pos rfl]
   by_cases hb:b≠[]∧(∀x∈b,eF x)
   ·rw[if_pos hb,if_pos ⟨ho,hb⟩]
   ·rw[if_neg hb,if_neg (fun h=>hb h.2)]
  ·rw[if_neg ho,if_neg (fun h=>ho h.1)]
 ·rw[if_neg (fun e=>h (ct e.1))]
  obtain⟨p,c,r,rfl,hp,hc⟩:=kK h;have h1:=eL (b:=c::(r++46::b)) hp;obtain⟨h2,h3⟩:=eM (b:=r++46::b) hc;rw[h2,h3,List.append_nil]at h1;unfold fC;rw[show p++c::r++46::b=p++c::(r++46::b) by simp,h1.1,h1.2]
  split
  ·dsimp only
   rw[if_neg (fun e=>ha (by rw[e];simp)),if_neg (fun e=>h47 (by rw[e];simp))]
  ·rfl
open Classical in
theorem oj {a:List UInt8} (h47:47 ∉ a) (h46:46 ∉ a):fC a=if gU false a then some ((num a:Int):Rat)else none:=by
 by_cases h:∀c∈a,eF c
 ·have h1:=rV h
  unfold fC;rw[h1.1,h1.2]
 ·rw[if_neg (fun e=>h (ct e))]
  obtain⟨p,c,r,rfl,hp,hc⟩:=kK h;have h1:=eL (b:=c::r) hp;obtain⟨h2,h3⟩:=eM (b:=r) hc;rw[h2,h3,List.append_nil]at h1;unfold fC;rw[h1.1,h1.2]
  split
  ·dsimp only
   rw[if_neg (fun e=>h46 (by rw[e];simp)),if_neg (fun e=>h47 (by rw[e];simp))]
  ·rfl
open Classical in
noncomputable def eJ (s:List UInt8):Option Rat:=
 if s.length≤65536 then
  match fC (js s)with
  |none=>none
  |some q=>if cL s=true then(if q=0 then none else some (-q))else some q
 else none
def ke (q:Rat):List UInt8:=if q.den=1 then fmt q.num else fmt q.num++47::fmt q.den
theorem xe {b:Bool} {l:List UInt8} (h:∀c r,l=c::r→eF c):js ((if b=true then [45]else [])++l)=l∧cL ((if b=true then [45]else [])++l)=b:=by
 cases b
 ·simp only[Bool.false_eq_true,if_false,List.nil_append]
  cases l with
  |nil=>exact⟨rfl,rfl⟩
  |cons c r=>
   have h1:=h c r rfl;have:(c == 45)=false:=beq_eq_false_iff_ne.2 (fun e=>by subst e;exact absurd h1 (by decide));exact⟨by show(if(c == 45)=true then r else c::r)=_;rw[this];rfl,this⟩
 ·exact⟨rfl,rfl⟩
def tX (l:List UInt8):List UInt8:=l.dropWhile (· == 48)
theorem rf (l:List UInt8):num (tX l)=num l:=by
 induction l with
 |nil=>rfl
 |cons c l ih=>
  unfold tX at *
  by_cases h:c=48
  ·subst h;rw[List.dropWhile_cons_of_pos rfl,ih];rfl
  ·rw[List.dropWhile_cons_of_neg (by simpa using h)]
theorem xA {l:List UInt8} (h:∀c∈l,eF c) (hn:tX l≠[]):gU false (tX l):=by
 refine⟨hn,fun c hc=>h c (List.dropWhile_sublist _ |>.subset hc), .inl fun c r e=>?_⟩;have:=List.head?_dropWhile_not (p:=(· == (48:UInt8))) (l:=l);unfold tX at e;rw[e]at this
 simpa using this
def aQ (q:Rat):List AV:=aZ q.num++aZ q.den
def dQ (q:Rat):DV:= .agg (aQ q)
def yD (na:Bool) (xs:List Nat) (nb:Bool) (ys:List Nat):List AV:=aI na xs++aI nb ys
def xb (na:Bool) (xs:List Nat) (nb:Bool) (ys:List Nat):DV:= .agg (yD na xs nb ys)
def yQ:List AV:=[.val (.bool false), .sl 0 [], .val (.bool false), .sl 0 []]
def sN:DV:= .agg yQ
def Sz (k:Nat) (z:Int):Prop:=z.natAbs<4294967296^k
theorem Sz.fit {k:Nat} {z:Int} (h:Sz k z) (hk:k≤2147483648):cM z:= .of_lt h hk
theorem Sz.mono {j k:Nat} {z:Int} (h:Sz j z) (hk:j≤k):Sz k z:=Nat.lt_of_lt_of_le h (Nat.pow_le_pow_right (by decide) hk)
theorem Sz.of_le {k:Nat} {a b:Int} (h:Sz k b) (hl:a.natAbs≤b.natAbs):Sz k a:=Nat.lt_of_le_of_lt hl h
theorem Sz.mul {j k:Nat} {a b:Int} (h:Sz j a) (h':Sz k b):Sz (j+k) (a*b):=by
 unfold Sz at *;rw[Int.natAbs_mul,Nat.pow_add];exact Nat.mul_lt_mul'' h h'
theorem Sz.add {k:Nat} {a b:Int} (h:Sz k a) (h':Sz k b):Sz (k+1) (a+b):=by
 unfold Sz at *;have:=Int.natAbs_add_le a b;have:0<4294967296^k:=Nat.pow_pos (by decide)
 rw[Nat.pow_succ];omega
theorem Sz.neg {k:Nat} {a:Int} (h:Sz k a):Sz k (-a):=by unfold Sz at *;rw[Int.natAbs_neg];exact h
theorem Sz.sub {k:Nat} {a b:Int} (h:Sz k a) (h':Sz k b):Sz (k+1) (a-b):=by rw[Int.sub_eq_add_neg];exact h.add h'.neg
theorem Sz.small {z:Int} (h:z.natAbs<4294967296):Sz 1 z:=by unfold Sz;simpa using h
theorem Sz.i64 {z:Int} (h1: -9223372036854775808≤z) (h2:z<9223372036854775808):Sz 2 z:=by unfold Sz;omega
theorem Sz.gcd {k:Nat} {n d:Int} (h:Sz k d) (hd:d≠0):Sz k (Nat.gcd n.natAbs d.natAbs:Nat):=by
 refine h.of_le ?_;rw[Int.natAbs_natCast];exact Nat.le_of_dvd (by omega) (Nat.gcd_dvd_right _ _)
theorem Sz.digs {k:Nat} {z:Int} (h:Sz k z):(digs z.natAbs).length≤k:=av h
theorem Sz.of_digs {k:Nat} {z:Int} (h:(Go.Proofs.YtmkggcjajcdlcaaGreatDoor.digs z.natAbs).length≤k):Sz k z:=bH h
def fy (k:Nat) (q:Rat):Prop:=Sz k q.num∧Sz k q.den
theorem fy.mono {j k:Nat} {q:Rat} (h:fy j q) (hk:j≤k):fy k q:=⟨h.1.mono hk,h.2.mono hk⟩
theorem fy.divInt {k:Nat} {n d:Int} (h:Sz k n) (h':Sz k d) (hd:d≠0):fy k (Rat.divInt n d):=by
 obtain⟨_,_,h1,h2⟩:=og (n:=n) (d:=d) hd;have hg:0<(gz n d).natAbs:=by have:=tw (n:=n) hd;omega
 refine⟨h.of_le ?_,h'.of_le ?_⟩
 ·conv=>rhs;rw[h1,Int.natAbs_mul]
  exact Nat.le_mul_of_pos_left _ hg
 ·conv=>rhs;rw[h2,Int.natAbs_mul]
  exact Nat.le_mul_of_pos_left _ hg
theorem fy.add {j k:Nat} {a b:Rat} (h:fy j a) (h':fy k b):fy (j+k+1) (a+b):=by
 rw[← fe];refine .divInt ?_ ((h.2.mul h'.2).mono (by omega)) (by have:=Int.mul_pos (co a) (co b);omega);exact Sz.add (h.1.mul h'.2) ((h'.1.mul h.2).mono (by omega))
theorem fy.neg {k:Nat} {a:Rat} (h:fy k a):fy k (-a):=⟨by rw[Rat.neg_num];exact h.1.neg,h.2⟩
theorem fy.sub {j k:Nat} {a b:Rat} (h:fy j a) (h':fy k b):fy (j+k+1) (a-b):=by rw[Rat.sub_eq_add_neg];exact h.add h'.neg
theorem fy.mul {j k:Nat} {a b:Rat} (h:fy j a) (h':fy k b):fy (j+k) (a*b):=by
 rw[← pT];exact .divInt (h.1.mul h'.1) (h.2.mul h'.2) (by have:=Int.mul_pos (co a) (co b);omega)
theorem iC {z:Int}:(!decide (z<0) && decide (digs z.natAbs=[1]))=decide (z=1):=by
 by_cases h:z=1
 ·subst h;rw[show(1:Int).natAbs=1 from rfl,jT (by decide) (by decide)];rfl
 ·rw[decide_eq_false h]
  by_cases hn:z<0
  ·simp[hn]
  ·have:digs z.natAbs≠[1]:=fun e=>by
    have h1:=congrArg val e;rw[ac]at h1
    simp[val]at h1
    omega
   simp[this]
theorem eX {z:Int}:decide (((digs z.natAbs).length:Int)=0)=decide (z=0):=by
 have:=bF (n:=z.natAbs)
 by_cases h:z=0
 ·subst h;rw[decide_eq_true rfl];exact decide_eq_true (by have:=this.2 rfl;omega)
 ·rw[decide_eq_false h];exact decide_eq_false (fun e=>h (by have:=this.1 (by omega);omega))
theorem fJ:ab Tryz.prog 142 [] (.one (dZ 1)):=by
 refine kV func142 ?_;refine aa (bK 1 (by decide) (by decide)) rfl rfl rfl rfl rfl rfl rfl ?_;exact kF
theorem pS {na:Bool} {xs:List Nat} {b:Bool} (hb:(!na && decide (xs=[1]))=b):ab Tryz.prog 140 [dI na xs] (.one (dB b)):=by
 subst hb;cases na
 ·match xs with
  | []=>
   refine kU func140 ?_;exact kF
  | [x]=>
   refine kV func140 ?_;refine jh (cs':=[AV.val (aS x)]) (i:=0) (Nat.lt_succ_self 0) (fun j a h=>by simpa using h) (Nat.lt_succ_self 0) rfl rfl rfl rfl rfl rfl rfl rfl ?_;refine kW ?_;rw[show(!false && decide ([x]=[1]))=decide ((x:Int)=1) by by_cases h:x=1<;>simp[h]<;>omega];exact cJ (T:=TT) rfl rfl
  |x::y::r=>
   refine kU func140 ?_;refine kR ?_;refine kI ?_
   iterate 7 refine kO ?_
   refine kB false ?_ ?_
   ·exact decide_eq_false (by simp only[List.length_cons];omega)
   refine kW ?_;rw[show(!false && decide (x::y::r=[1]))=false by simp];exact cJ (T:=TT) rfl rfl
 ·refine kU func140 ?_
  exact kF
theorem sF {na:Bool} {xs:List Nat} {b:Bool} (hb:(!na && decide (xs=[1]))=b):ab Tryz.prog 99 [dI na xs] (.one (dB b)):=by
 subst hb
 match xs with
 | []=>
  refine kV func99 ?_;rw[show(!na && decide (([]:List Nat)=[1]))=false by simp];exact cJ (T:=TT) rfl rfl
 | [x]=>
  refine kV func99 ?_;refine jh (cs':=[AV.val (aS x)]) (i:=0) (Nat.lt_succ_self 0) (fun j a h=>by simpa using h) (Nat.lt_succ_self 0) rfl rfl rfl rfl rfl rfl rfl rfl ?_;refine kO ?_
  by_cases h:x=1
  ·refine kT ?_
   refine kW ?_;rw[show(!na && decide ([x]=[1]))=!na by simp[h]];exact cJ (T:=TT) rfl rfl
  ·refine kE ?_
   refine kW ?_;rw[show(!na && decide ([x]=[1]))=false by simp[h]];exact cJ (T:=TT) rfl rfl
 |x::y::r=>
  refine kU func99 ?_;refine kR ?_;refine kI ?_
  refine kO3 ?_
  refine kB false ?_ ?_
  ·exact decide_eq_false (by simp only[List.length_cons];omega)
  refine kW ?_;rw[show(!na && decide (x::y::r=[1]))=false by simp];exact cJ (T:=TT) rfl rfl
theorem aU {z:Int} {b:Bool} (hb:decide (z=1)=b):ab Tryz.prog 140 [dZ z] (.one (dB b)):=pS (by rw[iC,hb])
theorem dp {z:Int} {b:Bool} (hb:decide (z=1)=b):ab Tryz.prog 99 [dZ z] (.one (dB b)):=sF (by rw[iC,hb])
theorem bM {z:Int} {b:Bool} (hb:decide (z=0)=b):ab Tryz.prog 149 [dZ z] (.one (dB b)):=by
 refine kV func149 ?_;rw[← hb,← eX];exact cJ (T:=TT) rfl rfl
theorem hZ {a b c:Int} (h1:cM a) (h2:cM b) (hb:b≠0) (h:a.fdiv b=c):ab Tryz.prog 207 [dZ a,dZ b] (.one (dZ c)):=by
 by_cases h1':b=1
 ·subst h1'
  rw[Int.fdiv_one]at h;subst h;refine kV func207 ?_;refine kC (aU (z:=1) (b:=true) rfl) ?_;exact kF
 ·refine kV func207 ?_;refine kQ (aU (z:=b) (b:=false) (decide_eq_false h1')) ?_;refine kC (iv h1 h2 hb h rfl) ?_;exact kF
theorem cT {a b c:Int} (h1:cM a) (h2:cM b) (hb:b≠0) (h:a.fdiv b=c):ab Tryz.prog 101 [dZ a,dZ b] (.one (dZ c)):=by
 refine kV func101 ?_;refine kC (lp h1 h2 hb h rfl) ?_;exact kF
theorem xn {n d:Int} {g:Nat} (hg:Nat.gcd n.natAbs d.natAbs=g) (h:¬d<0):gz n d=g:=by unfold gz;rw[if_neg h,hg]
theorem xy {n d:Int} {g:Nat} (hg:Nat.gcd n.natAbs d.natAbs=g) (h:d<0):gz n d= -(g:Int):=by unfold gz;rw[if_pos h,hg]
theorem dF {k:Nat} {n d:Int} {q:Rat} (h1:Sz k n) (h2:Sz k d) (hk:k≤2147483648) (hd:d≠0) (hq:Rat.divInt n d=q):ab Tryz.prog 144 [dZ n,dZ d] (.one (dQ q)):=by
 subst hq;obtain⟨e1,e2,_,_⟩:=og (n:=n) hd;have hg0:=tw (n:=n) hd;have hsg:=h2.gcd (n:=n) hd;obtain⟨g,hg⟩:∃g,Nat.gcd n.natAbs d.natAbs=g:=⟨_,rfl⟩;rw[hg]at hsg
 by_cases h:d<0
 ·rw[xy hg h]at e1 e2 hg0
  refine kV func144 ?_;refine kQ (gy (h1.fit hk) (h2.fit hk) hg) ?_;refine fb (T:=TT) rfl ?_ ?_
  ·exact decide_eq_true h
  refine kW ?_;refine kQ (me (hsg.fit hk)) ?_;refine kQ (hZ (h1.fit hk) (hsg.neg.fit hk) hg0 e1) ?_;refine kC (hZ (h2.fit hk) (hsg.neg.fit hk) hg0 e2) ?_;exact kF
 ·rw[xn hg h]at e1 e2 hg0
  refine kV func144 ?_;refine kQ (gy (h1.fit hk) (h2.fit hk) hg) ?_;refine cP (T:=TT) rfl ?_ ?_
  ·exact decide_eq_false h
  refine kW ?_;refine kQ (hZ (h1.fit hk) (hsg.fit hk) hg0 e1) ?_;refine kC (hZ (h2.fit hk) (hsg.fit hk) hg0 e2) ?_;exact kF
theorem Sz.of_val {na:Bool} {xs:List Nat} {n:Int} {k:Nat} (hw:Wd xs) (h:xs.length≤k) (hn:af na xs=n):Sz k n:=by
 rw[← hn];unfold Sz;rw[aG];exact Nat.lt_of_lt_of_le (cw hw) (Nat.pow_le_pow_right (by decide) h)
theorem rT {na nb:Bool} {xs ys:List Nat} {n d:Int} {q:Rat} (hw:Wd xs) (hw':Wd ys) (h1:xs.length≤1000) (h2:ys.length≤1000) (hn:af na xs=n) (hd:af nb ys=d) (h0:d≠0) (hq:Rat.divInt n d=q):ab Tryz.prog 145 [dI na xs,dI nb ys] (.tup [dQ q,dN .i64 0]):=by
 have s1:Sz 1000 n:=Sz.of_val hw h1 hn;have s2:Sz 1000 d:=Sz.of_val hw' h2 hd;refine kV func145 ?_;refine aa (gt (na:=na) hw (by unfold gW;omega) hn) rfl rfl rfl rfl rfl rfl rfl ?_;refine kW ?_;refine aa (gt (na:=nb) hw' (by unfold gW;omega) hd) rfl rfl rfl rfl rfl rfl rfl ?_;refine kW ?_;refine kQ (bM (decide_eq_false h0)) ?_;refine aa (dF s1 s2 (by decide) h0 hq) rfl rfl rfl rfl rfl rfl rfl ?_;exact kF
theorem qQ {na nb:Bool} {xs ys:List Nat} {n d:Int} (hw:Wd xs) (hw':Wd ys) (h1:xs.length≤1000) (h2:ys.length≤1000) (hn:af na xs=n) (hd:af nb ys=d) (h0:d=0):ab Tryz.prog 145 [dI na xs,dI nb ys] (.tup [sN,dN .i64 6]):=by
 refine kV func145 ?_;refine aa (gt (na:=na) hw (by unfold gW;omega) hn) rfl rfl rfl rfl rfl rfl rfl ?_;refine kW ?_;refine aa (gt (na:=nb) hw' (by unfold gW;omega) hd) rfl rfl rfl rfl rfl rfl rfl ?_;refine kW ?_;refine kC (bM (decide_eq_true h0)) ?_;exact kF
theorem qT {n d:Int} {q:Rat} (h1:Sz 1000 n) (h2:Sz 1000 d) (h0:d≠0) (hq:Rat.divInt n d=q):ab Tryz.prog 145 [dZ n,dZ d] (.tup [dQ q,dN .i64 0]):=
 rT (ai _) (ai _) h1.digs h2.digs (au n) (au d) h0 hq
theorem nC (k:Int) (h1: -9223372036854775808≤k) (h2:k<9223372036854775808) {q:Rat} (hq:(k:Rat)=q):ab Tryz.prog 121 [dN .i64 k] (.one (dQ q)):=by
 subst hq;refine kV func121 ?_;refine kQ (bK k h1 h2) ?_;refine kC (fJ) ?_;exact kF
theorem gJ (k:Int) (h1: -9223372036854775808≤k) (h2:k<9223372036854775808) {q:Rat} (hq:(k:Rat)=q):ab Tryz.prog 52 [dN .i64 k] (.one (dQ q)):=by
 subst hq;refine kV func52 ?_;refine kQ (gM k h1 h2) ?_;refine aa (gM 1 (by decide) (by decide)) rfl rfl rfl rfl rfl rfl rfl ?_;exact kF
theorem m6 (n:Int):Rat.divInt n 0=((0:Int):Rat):=by simp
theorem eP (n d:Int) (h1: -9223372036854775808≤n) (h2:n<9223372036854775808) (h3: -9223372036854775808≤d) (h4:d<9223372036854775808) {q:Rat} (hq:Rat.divInt n d=q):ab Tryz.prog 88 [dN .i64 n,dN .i64 d] (.one (dQ q)):=by
 by_cases h0:d=0
 ·refine kV func88 ?_;refine kQ (bK n h1 h2) ?_;refine kQ (bK d h3 h4) ?_;refine aa (qQ (na:=decide (n<0)) (nb:=decide (d<0)) (ai _) (ai _) ((Sz.i64 h1 h2).mono (k:=1000) (by decide)).digs ((Sz.i64 h3 h4).mono (k:=1000) (by decide)).digs (au n) (au d) h0) rfl rfl rfl rfl rfl rfl rfl ?_;refine kW ?_;refine aa (nC 0 (by decide) (by decide) (q:=q) (by subst h0;rw[← m6 n];exact hq)) rfl rfl rfl rfl rfl rfl rfl ?_;exact kF
 ·refine kV func88 ?_;refine kQ (bK n h1 h2) ?_;refine kQ (bK d h3 h4) ?_;refine aa (qT ((Sz.i64 h1 h2).mono (by decide)) ((Sz.i64 h3 h4).mono (by decide)) h0 hq) rfl rfl rfl rfl rfl rfl rfl ?_;exact kF
theorem uy {k:Nat} {a q:Rat} (h:fy k a) (hk:k≤2147483648) (hq: -a=q):ab Tryz.prog 150 [dQ a] (.one (dQ q)):=by
 subst hq;refine kV func150 ?_;refine kC (me (h.1.fit hk)) ?_;exact kF
theorem mv {a q:Rat} (hq: -a=q):ab Tryz.prog 49 [dQ a] (.one (dQ q)):=by
 subst hq;refine kV func49 ?_;refine kC (p9 a.num) ?_;exact kF
theorem fj (a:Rat):ab Tryz.prog 50 [dQ a] (.one (dN .i64 (yA a))):=by
 refine kV func50 ?_;refine kC (ot a.num) ?_;exact kF
theorem mr {q:Rat} {n d:Int} (h1:q.num=n) (h2:(q.den:Int)=d):dQ q= .agg (aZ n++aZ d):=by unfold dQ aQ;rw[h1,h2]
theorem tI (a:Rat):decide ((a.den:Int)=1)=decide (a.den=1):=by by_cases h:a.den=1<;>simp[h]<;>omega
theorem j2 {a:Rat} (h:a.den=1):decide ((a.den:Int)=1)=true:=by rw[tI];exact decide_eq_true h
theorem pg {a:Rat} (h:¬a.den=1):decide ((a.den:Int)=1)=false:=by rw[tI];exact decide_eq_false h
theorem wN {z:Int} (h:z=0):decide (((digs z.natAbs).length:Int)=0)=true:=eX.trans (decide_eq_true h)
theorem oi {z:Int} (h:¬z=0):decide (((digs z.natAbs).length:Int)=0)=false:=eX.trans (decide_eq_false h)
theorem fT (a:Int) (g:Nat):a.fdiv g=a/g:=Int.fdiv_eq_ediv_of_nonneg _ (by omega)
theorem jK (a g:Nat):(a:Int).fdiv g=((a/g:Nat):Int):=by rw[fT];rfl
theorem uW {j k:Nat} {a b q:Rat} (h:fy j a) (h':fy k b) (hk:j+k+1≤2147483648) (hq:a+b=q):ab Tryz.prog 87 [dQ a,dQ b] (.one (dQ q)):=by
 subst hq;have d0:(a.den:Int)*b.den≠0:=by have:=Int.mul_pos (co a) (co b);omega
 by_cases ha:a.den=1
 ·by_cases hb:b.den=1
  ·rw[mr (qZ ha hb).1 (d:=1) (by rw[(qZ ha hb).2];rfl)]
   refine kV func87 ?_;refine kQ (aU (j2 ha)) ?_;refine kQ (aU (j2 hb)) ?_;refine aa (ge (h.1.fit (by omega)) (h'.1.fit (by omega))) rfl rfl rfl rfl rfl rfl rfl ?_;refine kW ?_;refine kC (fJ) ?_;exact kF
  ·refine kV func87 ?_;refine kQ (aU (j2 ha)) ?_;refine kQ (aU (pg hb)) ?_;refine aa (bP (h.1.fit (by omega)) (h'.2.fit (by omega))) rfl rfl rfl rfl rfl rfl rfl ?_;refine kW ?_;refine aa (bP (h'.1.fit (by omega)) (h.2.fit (by omega))) rfl rfl rfl rfl rfl rfl rfl ?_;refine kW ?_;refine aa (ge ((h.1.mul h'.2).fit (by omega)) ((h'.1.mul h.2).fit (by omega))) rfl rfl rfl rfl rfl rfl rfl ?_;refine kW ?_;refine aa (bP (h.2.fit (by omega)) (h'.2.fit (by omega))) rfl rfl rfl rfl rfl rfl rfl ?_;refine kW ?_;refine aa (dF (k:=j+k+1) ((h.1.mul h'.2).add ((h'.1.mul h.2).mono (by omega))) ((h.2.mul h'.2).mono (by omega)) hk d0 (fe a b)) rfl rfl rfl rfl rfl rfl rfl ?_;exact kF
 ·refine kV func87 ?_;refine kQ (aU (pg ha)) ?_;refine aa (bP (h.1.fit (by omega)) (h'.2.fit (by omega))) rfl rfl rfl rfl rfl rfl rfl ?_;refine kW ?_;refine aa (bP (h'.1.fit (by omega)) (h.2.fit (by omega))) rfl rfl rfl rfl rfl rfl rfl ?_;refine kW ?_;refine aa (ge ((h.1.mul h'.2).fit (by omega)) ((h'.1.mul h.2).fit (by omega))) rfl rfl rfl rfl rfl rfl rfl ?_;refine kW ?_;refine aa (bP (h.2.fit (by omega)) (h'.2.fit (by omega))) rfl rfl rfl rfl rfl rfl rfl ?_;refine kW ?_;refine aa (dF (k:=j+k+1) ((h.1.mul h'.2).add ((h'.1.mul h.2).mono (by omega))) ((h.2.mul h'.2).mono (by omega)) hk d0 (fe a b)) rfl rfl rfl rfl rfl rfl rfl ?_;exact kF
theorem qx {j:Nat} {a:Rat} {z:Int} (h:fy j a) (hk:j≤2147483648) (hz:a.floor=z):ab Tryz.prog 91 [dQ a] (.one (dZ z)):=by
 refine kV func91 ?_;refine aa (iv (h.1.fit hk) (h.2.fit hk) (by have:=co a;omega) ((qc a).trans hz) rfl) rfl rfl rfl rfl rfl rfl rfl ?_;exact kF
theorem gg {j k:Nat} {a b q:Rat} (h:fy j a) (h':fy k b) (hk:j+k≤2147483648) (hq:a*b=q):ab Tryz.prog 48 [dQ a,dQ b] (.one (dQ q)):=by
 subst hq
 by_cases ha0:a.num=0
 ·have e:a*b=0:=by rw[Rat.num_eq_zero.1 ha0];exact Rat.zero_mul b
  refine kU func48 ?_;refine kR ?_;refine kI ?_
  refine kO4 ?_
  refine kB true ?_ ?_
  ·exact wN ha0
  refine kW ?_;refine aa (gJ 0 (by decide) (by decide) e.symm) rfl rfl rfl rfl rfl rfl rfl ?_;exact kF
 by_cases hb0:b.num=0
 ·have e:a*b=0:=by rw[Rat.num_eq_zero.1 hb0];exact Rat.mul_zero a
  refine kU func48 ?_;refine kR ?_;refine kI ?_
  refine kO4 ?_
  refine kB false ?_ ?_
  ·exact oi ha0
  refine kO5 ?_
  refine kB true ?_ ?_
  ·exact wN hb0
  refine kW ?_;refine aa (gJ 0 (by decide) (by decide) e.symm) rfl rfl rfl rfl rfl rfl rfl ?_;exact kF
 by_cases hab:a.den=1∧b.den=1
 ·rw[mr (oc hab.1 hab.2).1 (d:=a.den) (by rw[(oc hab.1 hab.2).2,hab.1])]
  refine kU func48 ?_;refine kR ?_;refine kI ?_
  refine kO4 ?_
  refine kB false ?_ ?_
  ·exact oi ha0
  refine kO5 ?_
  refine kB false ?_ ?_
  ·exact oi hb0
  refine kW ?_;refine kQ (dp (j2 hab.1)) ?_;refine kQ (dp (j2 hab.2)) ?_;refine aa (bO (h.1.fit (by omega)) (h'.1.fit (by omega))) rfl rfl rfl rfl rfl rfl rfl ?_;exact kF
 have e:=q6 a b;obtain⟨g,hg⟩:∃g,Nat.gcd a.num.natAbs b.den=g:=⟨_,rfl⟩;obtain⟨t,ht⟩:∃t,Nat.gcd b.num.natAbs a.den=t:=⟨_,rfl⟩;rw[hg,ht]at e;have hgz:Nat.gcd a.num.natAbs (b.den:Int).natAbs=g:=by rw[Int.natAbs_natCast];exact hg
 have htz:Nat.gcd b.num.natAbs (a.den:Int).natAbs=t:=by rw[Int.natAbs_natCast];exact ht
 have hg0:0<g:=by rw[← hg];exact Nat.gcd_pos_of_pos_right _ (Nat.pos_of_ne_zero b.den_nz)
 have ht0:0<t:=by rw[← ht];exact Nat.gcd_pos_of_pos_right _ (Nat.pos_of_ne_zero a.den_nz)
 have sg:Sz k g:=by rw[← hgz];exact h'.2.gcd (by have:=co b;omega)
 have st:Sz j t:=by rw[← htz];exact h.2.gcd (by have:=co a;omega)
 have s1:Sz j (a.num/g):=h.1.of_le (Int.natAbs_ediv_le_natAbs _ _);have s2:Sz k (b.num/t):=h'.1.of_le (Int.natAbs_ediv_le_natAbs _ _);have s3:Sz j (a.den/t:Nat):=h.2.of_le (by rw[Int.natAbs_natCast,Int.natAbs_natCast];exact Nat.div_le_self _ _);have s4:Sz k (b.den/g:Nat):=h'.2.of_le (by rw[Int.natAbs_natCast,Int.natAbs_natCast];exact Nat.div_le_self _ _);rw[mr e.1 (d:=(a.den/t:Nat)*(b.den/g:Nat)) (by rw[e.2];rfl)];refine kU func48 ?_;refine kR ?_;refine kI ?_
 refine kO4 ?_
 refine kB false ?_ ?_
 ·exact oi ha0
 refine kO5 ?_
 refine kB false ?_ ?_
 ·exact oi hb0
 refine kW ?_
 by_cases ha:a.den=1
 ·have hb:¬b.den=1:=fun e=>hab ⟨ha,e⟩
  refine kQ (dp (j2 ha)) ?_;refine kQ (dp (pg hb)) ?_;refine aa (fi (h.1.fit (by omega)) (h'.2.fit (by omega)) hgz) rfl rfl rfl rfl rfl rfl rfl ?_;refine kW ?_;refine aa (fi (h'.1.fit (by omega)) (h.2.fit (by omega)) htz) rfl rfl rfl rfl rfl rfl rfl ?_;refine kW ?_;refine aa (cT (h.1.fit (by omega)) (sg.fit (by omega)) (by omega) (fT _ _)) rfl rfl rfl rfl rfl rfl rfl ?_;refine kW ?_;refine aa (cT (h'.1.fit (by omega)) (st.fit (by omega)) (by omega) (fT _ _)) rfl rfl rfl rfl rfl rfl rfl ?_;refine kW ?_;refine aa (bO (s1.fit (by omega)) (s2.fit (by omega))) rfl rfl rfl rfl rfl rfl rfl ?_;refine kW ?_;refine aa (cT (h.2.fit (by omega)) (st.fit (by omega)) (by omega) (jK _ _)) rfl rfl rfl rfl rfl rfl rfl ?_;refine kW ?_
  refine aa (cT (h'.2.fit (by omega)) (sg.fit (by omega)) (by omega) (jK _ _)) rfl rfl rfl rfl rfl rfl rfl ?_;refine kW ?_;refine aa (bO (s3.fit (by omega)) (s4.fit (by omega))) rfl rfl rfl rfl rfl rfl rfl ?_;exact kF
 ·refine kC (dp (pg ha)) ?_
  refine kW ?_;refine aa (fi (h.1.fit (by omega)) (h'.2.fit (by omega)) hgz) rfl rfl rfl rfl rfl rfl rfl ?_;refine kW ?_;refine aa (fi (h'.1.fit (by omega)) (h.2.fit (by omega)) htz) rfl rfl rfl rfl rfl rfl rfl ?_;refine kW ?_;refine aa (cT (h.1.fit (by omega)) (sg.fit (by omega)) (by omega) (fT _ _)) rfl rfl rfl rfl rfl rfl rfl ?_;refine kW ?_;refine aa (cT (h'.1.fit (by omega)) (st.fit (by omega)) (by omega) (fT _ _)) rfl rfl rfl rfl rfl rfl rfl ?_;refine kW ?_;refine aa (bO (s1.fit (by omega)) (s2.fit (by omega))) rfl rfl rfl rfl rfl rfl rfl ?_;refine kW ?_;refine aa (cT (h.2.fit (by omega)) (st.fit (by omega)) (by omega) (jK _ _)) rfl rfl rfl rfl rfl rfl rfl ?_;refine kW ?_
  refine aa (cT (h'.2.fit (by omega)) (sg.fit (by omega)) (by omega) (jK _ _)) rfl rfl rfl rfl rfl rfl rfl ?_;refine kW ?_;refine aa (bO (s3.fit (by omega)) (s4.fit (by omega))) rfl rfl rfl rfl rfl rfl rfl ?_;exact kF
section
open Go.RowKit Go.Shelf
attribute [local go_sem] Oper.semAt_some
abbrev uc (M:Nat) (x:Nat × Nat):Array Value:= #[.int .i64 (x.1:Int),aS (x.2%M)]
theorem mW {M:Nat} {xs:List Nat} (h0:0<M) (h:∀x∈xs,x<M) (i:Nat):xs.getD i 0<M:=by
 rw[List.getD_eq_getElem?_getD];cases hx:xs[i]? with
 |none=>exact h0
 |some x=>exact h x (List.mem_of_getElem? hx)
set_option maxRecDepth 100000 in
theorem sh (F:Fence) (n:Nat) (h8:F.fn 260) (hro:F.round=none) (hn:1≤n) (l Bs:Nat) (A:Option Addr) (len cap:Nat) (xs:List Nat) (M:Nat) (hM0:0<M) (hM:∀x∈xs,x<M) (w:World) (hx:aj w A len cap xs) (J Jx:List (Nat × Nat)→World→Prop)
 (hY:∀pre x W,J pre W→pre.length<len→YieldAt F (n-1) Tryz.prog l (uc M x) W fun e W'=>
  (e= .returned (.bool true)∧J (pre++[x]) W'∧KB w.heap.size Bs W W')∨(e= .returned (.bool false)∧Jx (pre++[x]) W'))
 (W:World) (hbW:ak w W) (hBs:W.cell? ⟨Bs,0,none⟩=some (.slice A len cap)) (h0:J [] W):
 CallsIn F n Tryz.prog 260 #[.func (.yield l) #[] #[], .pointer (some ⟨Bs,0,none⟩)] W fun e W'=>(∃v,e= .returned v) ∧
  ((∃ys,ys=upto (bU xs) len∧J ys W')∨(∃pre,True∧Jx pre W')):=by
 have hcap:=hx.cap;have hlim:=hx.lim;have hlen:=hx.len;have hwd:=hx.wd;have Hx:=Lib.hid hx;have HM:=Lib.hid hM;have Hlen:=Lib.hid hlen;have Hwd:=Lib.hid hwd;clear hx hlen hwd hM;refine callsIn_of_wp func260 rfl h8 ?_ hro
 simp only[ntmps260,List.size_toArray,List.length_cons,List.length_nil,Nat.reduceAdd,Nat.reduceSub,Array.replicate_succ,Array.replicate_zero,List.push_toArray,List.append_toArray,List.nil_append,List.cons_append]
 gi_wp2
 gi_loopw [3] (fun i wr=>∃k:Nat,k≤len∧i= .int .i64 ((len:Int)-1-k)∧J (upto (bU xs) k) wr∧KB w.heap.size Bs W wr)
  (fun i _=>(intOf i+1).toNat)
 case atStart=>exact⟨0,Nat.zero_le _,by go_num,h0,KB.refl _ _ _⟩
 case round=>
  obtain⟨k,hk,rfl,hJs,hnx⟩:=hrel;have hcs:=(hnx.cell 0).trans hBs
  by_cases hlt:k<len
  ·obtain⟨b,off,rfl,hb,hc⟩:=Hx.out.at (by omega)
   have hcx:=(hnx.1.cell (p:=⟨b,off+(len-1-k),none⟩) hb).trans ((hbW.cell (p:=⟨b,off+(len-1-k),none⟩) hb).trans (hc (len-1-k) (by omega)));obtain⟨fn,tmps,assign,body,hy,hR⟩:=hY _ (bU xs k) wr hJs (by rw[jk];exact hlt);have e1:bU xs k=(len-1-k,xs.getD (len-1-k) 0):=by unfold bU;rw[Hlen.out]
   rw[e1]at hy;have e2:((len-1-k:Nat):Int)=(len:Int)-1-k:=by omega
   dsimp only[uc]at hy;rw[e2]at hy;obtain⟨x,hxx⟩:∃x,x=xs.getD (len-1-k) 0:=⟨_,rfl⟩;rw[← hxx]at hy hcx;rw[Nat.mod_eq_of_lt (by rw[hxx];exact mW hM0 HM.out _)]at hy;have g1:(0:Int)≤(len:Int)-1-k:=by omega
   have g2:(len:Int)-1-k<len:=by omega
   have g3:((len:Int)-1-k).toNat=len-1-k:=by omega
   clear e1 e2 hc;have Hxx:=Lib.hid hxx;clear hxx
   gi_wp2
   refine hR.mono ?_;rintro e W3 (⟨rfl,hJ3,hk3⟩| ⟨rfl,hJx3⟩)
   ·gi_wp2
    go_roundw
    case rel=>exact⟨k+1,by omega,by go_num,by rw[iN];exact hJ3,hnx.trans hk3⟩
    case measure=>simp[intOf];omega
   ·gi_wp2
    refine bodyPost_ret (results_none rfl _ _ _) rfl ?_;exact⟨⟨_,rfl⟩, .inr ⟨_,trivial,hJx3⟩⟩
  ·obtain rfl:k=len:=by omega
   have g1:¬((k:Int)≤(k:Int)-1):=by omega
   gi_wp2
   go_end0
   first|exact⟨⟨_,rfl⟩, .inl ⟨_,rfl,hJs⟩⟩|exact⟨⟨_,rfl⟩, .inl hJs⟩
theorem jn (F:Fence) (n:Nat) (h8:F.fn 260) (hro:F.round=none) (hn:1≤n) (Bs:Nat) (A:Option Addr) (len cap:Nat) (xs:List Nat) (M:Nat) (hM0:0<M) (hM:∀x∈xs,x<M) (w0 w:World) (hx:aj w0 A len cap xs) (h0:ak w0 w) (hBs:Bs<w.heap.size) (hc:w.cell? ⟨Bs,0,none⟩=some (.slice A len cap)):
 SeqStopsK F n Tryz.prog 260 #[.pointer (some ⟨Bs,0,none⟩)] (uc M) (KB w0.heap.size Bs) (fun ys=>ys=upto (bU xs) len) (fun _=>True) len w:=fun l J Jx W hW _ _ hY hJ0=>
 sh F n h8 hro hn l Bs A len cap xs M hM0 hM w0 hx J Jx hY W (h0.more hW) ((hW.cell (p:=⟨Bs,0,none⟩) hBs).trans hc) hJ0
end
section
open Go.Shelf Go.RowKit Go.Sort Go.Lib
set_option maxRecDepth 100000 in
theorem ly (u:Nat) (hu64:u<18446744073709551616) (w:World) (htab:Lib.TabIs Tryz.prog w "internal/strconv.uint64pow10" .u64 Lib.pow10Tab):
 Calls Tryz.prog 268 #[.int .u64 u, .int .i64 10] w fun e w'=>e= .returned (.string ⟨(Lib.decDigits u).toArray⟩)∧Below w.heap.size w w':=by
 by_cases hs:u<100
 ·go_enter func268,ntmps268
  go_wp2_with (go_at_call 288;refine(Tryz.internal_strconv_small u hs _).mono ?_;rintro e w' ⟨rfl,rfl⟩)
  go_ret
  exact⟨rfl,Below.refl _ _⟩
 ·have hu1:1≤u:=by omega
  have hnd20:Lib.nDigits u≤20:=by have:=Lib.numDigits_eq u hu1 hu64;split at this<;>omega
  have hal:(Tryz.prog).arrayLen 255=24:=by simp[Program.arrayLen,underlying255]
  have hsl:∀W,(Instr.sliceAt 255 (.pointer (some ⟨w.heap.size,0,none⟩)) none (some (.int .i64 (Lib.nDigits u:Int))) none).run Tryz.prog W= .ok (.slice (some ⟨w.heap.size,0,none⟩) (Lib.nDigits u) 24) W:=fun W=>by
   rw[run_sliceAt_array_h W 255 ⟨w.heap.size,0,none⟩ (by simp[Program.arrayLen,Program.elem,underlying255]) .i64 (Lib.nDigits u:Int) (by omega) (by rw[hal];omega)]
   go_simp
  have hH0:=Lib.holds_zero0 w 255 (Lib.nDigits u) (by omega);have hfmt:=Tryz.internal_strconv_formatBase10 w.heap.size 0 24 u (Array.replicate (Lib.nDigits u) 0) (w.alloc (.cells Lib.zeros24 255)) hH0 (by rw[Array.size_replicate];exact Lib.lt_pow_nDigits u) hu64 (by rw[Array.size_replicate];omega);rw[Array.size_replicate]at hfmt;have HH0:=Lib.hid hH0;have iu:(100:Int)≤(u:Int):=by omega
  clear hH0 hal
  go_enter func268,ntmps268
  go_wp2_with (go_at_call 289;refine(Tryz.internal_strconv_numDigits u hu1 hu64 _ (Lib.tabIs_alloc htab _)).mono ?_;rintro e w' ⟨rfl,rfl⟩)
  go_at_call 290
  refine hfmt.mono ?_;rintro e w' ⟨rfl,k,v',dk,rfl,hF⟩
  have hcv:(convert 194 9 (.slice (some ⟨w.heap.size,0,none⟩) (Lib.nDigits u) 24)).run Tryz.prog ((putRow (fun(b:UInt8)=>Value.int .u8 (b.toNat:Int)) (w.alloc (.cells Lib.zeros24 255)) w.heap.size 0 dk).drewN k)= .ok (.string ⟨(Lib.decDigits u).toArray⟩) ((putRow (fun(b:UInt8)=>Value.int .u8 (b.toNat:Int)) (w.alloc (.cells Lib.zeros24 255)) w.heap.size 0 dk).drewN k):=by
   have h:=run_convert_bytes_back (P:=Tryz.prog) ((putRow (fun(b:UInt8)=>Value.int .u8 (b.toNat:Int)) (w.alloc (.cells Lib.zeros24 255)) w.heap.size 0 dk).drewN k) 194 9 5 ⟨w.heap.size,0,none⟩ 24 (Lib.decDigits u) underlying194 underlying5 underlying9 (fun j hj=>by
    rw[Lib.row_is_numeral hF j hj,Lib.add_plain,World.cell?_drewN];exact cell?_putRow (fun(b:UInt8)=>Value.int .u8 (b.toNat:Int)) _ w.heap.size 0 _ dk HH0.out (by rw[hF.size,Array.size_replicate]) j (by rw[hF.size];rw[Lib.decDigits_length]at hj;exact hj))
   rw[Lib.decDigits_length]at h;exact h
  go_wp2
  go_ret
  obtain⟨os,eo⟩:=Lib.fin_at w (.cells Lib.zeros24 255) dk k 0;exact⟨rfl,by rw[eo];exact Lib.below_grow _ w (Nat.le_refl _) k os⟩
theorem ek (u:Nat) (hu64:u<18446744073709551616) (w:World) (htab:Lib.TabIs Tryz.prog w "internal/strconv.uint64pow10" .u64 Lib.pow10Tab):
 Calls Tryz.prog 217 #[.int .u64 u, .int .i64 10] w fun e w'=>e= .returned (.string ⟨(Lib.decDigits u).toArray⟩)∧Below w.heap.size w w':=by
 go_enter func217,ntmps217
 go_wp2_with (go_at_call 268;refine(ly u hu64 _ htab).mono ?_;rintro e w' ⟨rfl,hb⟩)
 go_ret
 exact⟨rfl,hb⟩
end
section
open Go.Shelf Go.RowKit
theorem pd:((Tryz.prog).info? 196).map (·.size)=some 2:=Tryz.Builder_Extra_169.sizeBuilder
theorem uL:liesAt Tryz.prog (Tryz.prog).depth 196 (2/(Tryz.prog).cellsOf 196) 0 196 1=true:=by kernel_rfl
theorem oD:((Tryz.prog).info? 5).map (fun i=>(i.zero,i.size,i.bytes))=some (some (.int .u8 0),1,1):=Tryz.Builder_Extra_169.infoByte
set_option maxRecDepth 100000 in
theorem kA (b:Nat) (w:World) (h0:w.cell? ⟨b,0,none⟩=some (.pointer (some ⟨b,0,none⟩))):
 Calls Tryz.prog 267 #[.pointer (some ⟨b,0,none⟩)] w fun e w'=>e= .returned (.tuple #[])∧w'=w:=by
 obtain⟨j,hj,_⟩:=Option.map_eq_some_iff.1 pd
 go_enter func267,ntmps267
 go_wp2
 rw[Lib.run_neq_ptr_same w _ underlying193 hj]
 go_wp2
 go_end0
 exact⟨rfl,rfl⟩
set_option maxRecDepth 100000 in
theorem jC (b:Nat) (w:World) (h0:w.cell? ⟨b,0,none⟩=some (.pointer none)) (hsh:w.shape? b=some (196,2)) (hfz:w.frozen? ⟨b,0,none⟩=false):
 Calls Tryz.prog 267 #[.pointer (some ⟨b,0,none⟩)] w fun e w'=>e= .returned (.tuple #[])∧w'=w.setCell ⟨b,0,none⟩ (.pointer (some ⟨b,0,none⟩)):=by
 obtain⟨j,hj,hjs⟩:=Option.map_eq_some_iff.1 pd
 go_enter func267,ntmps267
 go_wp2
 rw[Lib.run_to_unsafe w ⟨b,0,none⟩ underlying193 underlying252 hj (by rw[hjs];decide) hsh (Nat.zero_lt_succ 1)]
 simp only[Result.andThen]
 rw[Oper.upon_value]
 go_wp2
 rw[run_callFunc_extern func287 (by kernel_rfl) (by kernel_rfl) (by kernel_rfl) (e:=Extern.AbiNoEscape.same) (by kernel_rfl)];rw[Lib.run_noEscape]
 simp only[Result.andThen]
 rw[Oper.upon_value]
 go_wp2
 rw[Lib.run_from_unsafe w ⟨b,0,none⟩ underlying252 underlying193 hj hsh uL]
 simp only[Result.andThen]
 rw[Oper.upon_value]
 go_wp2
 go_end0
 exact⟨rfl,rfl⟩
theorem jv (B b:Nat) (bs:List Value) (w:World) (h:Lib.IsBuilderF 196 5 B b bs w):
 Calls Tryz.prog 267 #[.pointer (some ⟨b,0,none⟩)] w fun e w'=>e= .returned (.tuple #[])∧(Lib.BuilderAtF 196 5 B b (.pointer (some ⟨b,0,none⟩)) bs w'∧Below B w w'∧Lib.OthersKept 5 (some b) w w'):=by
 rcases h with h|h
 ·refine(jC b w h.cell0 h.shape h.frozen0).mono ?_
  rintro e w' ⟨rfl,rfl⟩;exact⟨rfl,h.used _,(Below.refl B w).setCell (p:=⟨b,0,none⟩) h.1 _,(Lib.OthersKept.refl _ _ w).setCell ⟨b,0,none⟩ rfl _⟩
 ·refine(kA b w h.cell0).mono ?_
  rintro e w' ⟨rfl,rfl⟩;exact⟨rfl,h,Below.refl B _,Lib.OthersKept.refl _ _ _⟩
set_option maxRecDepth 100000 in
theorem oO (B b:Nat) (bs:List Value) (c:Int) (w:World) (h:Lib.IsBuilderF 196 5 B b bs w) (hlen:bs.length+1≤140737488355328) (hBw:B≤w.heap.size):
 Calls Tryz.prog 216 #[.pointer (some ⟨b,0,none⟩), .int .u8 c] w fun e w'=>e= .returned .nilIface∧(Lib.BuilderAtF 196 5 B b (.pointer (some ⟨b,0,none⟩)) (bs++[.int .u8 c]) w'∧Below B w w'∧Lib.OthersKept 5 (some b) w w'):=by
 obtain⟨i0,hi,hz0,hz1,hz2⟩:=info_parts oD
 go_enter func216,ntmps216
 go_wp2_with (go_at_call 267;refine(jv B b bs _ h).mono ?_)
 rintro e w1 ⟨rfl,h1,hb1,hk1⟩;obtain⟨hB,v,hbk,hown,hne⟩:=h1;have c0:w1.cell? ⟨b,0,none⟩=some (.pointer (some ⟨b,0,none⟩)):=by rw[Lib.cell_of_heap hbk];rfl
 have c1:w1.cell? ⟨b,1,none⟩=some v:=by rw[Lib.cell_of_heap hbk];rfl
 go_wp2_with (at_builtin;refine wpList_append_ownF _ rfl _ _ 194 rfl B 5 i0 (.int .u8 0) 1 1 underlying194 hi hz0 hz1 hz2 rfl (by decide) _ _ _ rfl (hown.alloc _) ⟨w1.heap.size,0,none⟩ 1 1 [.int .u8 c] rfl rfl ?c1 ?c2 ?c3 ?c4 ?c5 ?_)
 case c1=>
  intro j u hj
  match j,hj with
  |0,hj=>simp at hj;subst hj;simp[Addr.add]
 case c2=>intro u hu;simp at hu;subst hu;rfl
 case c3=>unfold maxLen;omega
 case c4=>omega
 case c5=>have:=hb1.size;simp;omega
 intro v' w2 hown' hgrow _
 have hlt:b<w1.heap.size:=by
  rcases Nat.lt_or_ge b w1.heap.size with h'|h'
  ·exact h'
  ·simp[Array.getElem?_eq_none h']at hbk
 have hb2:w2.heap[b]? =some (.cells #[.pointer (some ⟨b,0,none⟩),v] 196 (0,0)):=by
  rw[hgrow.block b (by simp;omega) (fun e=>hne e.symm),Lib.alloc_old w1 _ b hlt];exact hbk
 have d0:w2.cell? ⟨b,0,none⟩=some (.pointer (some ⟨b,0,none⟩)):=by rw[Lib.cell_of_heap hb2];rfl
 have d1:w2.cell? ⟨b,1,none⟩=some v:=by rw[Lib.cell_of_heap hb2];rfl
 have f1:w2.frozen? ⟨b,1,none⟩=false:=Lib.frozen_of_heap hb2 1
 obtain⟨g,cap,rfl⟩:∃g cap,v'= .slice (some ⟨g,0,none⟩) (bs.length+1) cap:=by
  rcases hown'.2 with⟨_,h0⟩| ⟨g,cap,cur,fz,hv,_⟩
  ·omega
  ·exact⟨g,cap,hv⟩
 go_wp2
 go_ret
 refine⟨rfl,?_,?_,((hk1.alloc _).grown hgrow (Lib.ownsRowF_kind (hown.alloc _))).setCell ⟨b,1,none⟩ rfl _⟩
 ·exact Lib.BuilderAtF.put (T:=196) (e:=5) hB hb2 (bs':=bs++[.int .u8 c]) (by simpa using hown') (by decide)
 ·exact((hb1.alloc (by have:=hb1.size;omega) _).grown hgrow (by have:=hb1.size;simp;omega) (fun k hk=>(hown.lt k hk).1)).setCell (p:=⟨b,1,none⟩) hB _
set_option maxRecDepth 100000 in
theorem ce (B b:Nat) (bs:List Value) (s:ByteArray) (w:World) (h:Lib.IsBuilderF 196 5 B b bs w) (hlen:bs.length+s.size≤140737488355328) (hBw:B≤w.heap.size):
 Calls Tryz.prog 218 #[.pointer (some ⟨b,0,none⟩), .string s] w fun e w'=>e= .returned (.tuple #[.int .i64 s.size, .nilIface])∧(Lib.BuilderAtF 196 5 B b (.pointer (some ⟨b,0,none⟩)) (bs++Lib.strCells s) w'∧Below B w w'∧Lib.OthersKept 5 (some b) w w'):=by
 obtain⟨i0,hi,hz0,hz1,hz2⟩:=info_parts oD
 go_enter func218,ntmps218
 go_wp2_with (go_at_call 267;refine(jv B b bs _ h).mono ?_)
 rintro e w1 ⟨rfl,h1,hb1,hk1⟩;obtain⟨hB,v,hbk,hown,hne⟩:=h1;have c0:w1.cell? ⟨b,0,none⟩=some (.pointer (some ⟨b,0,none⟩)):=by rw[Lib.cell_of_heap hbk];rfl
 have c1:w1.cell? ⟨b,1,none⟩=some v:=by rw[Lib.cell_of_heap hbk];rfl
 go_wp2_with (at_builtin;refine Lib.wpList_append_own_stringF _ rfl _ _ 194 9 rfl B 5 i0 underlying194 underlying9 hi hz0 hz1 hz2 _ _ _ rfl hown s rfl ?c3 ?c4 ?c5 ?_)
 case c3=>unfold maxLen;omega
 case c4=>omega
 case c5=>have:=hb1.size;omega
 intro v' w2 hown' hgrow _
 have hlt:b<w1.heap.size:=by
  rcases Nat.lt_or_ge b w1.heap.size with h'|h'
  ·exact h'
  ·simp[Array.getElem?_eq_none h']at hbk
 have hb2:w2.heap[b]? =some (.cells #[.pointer (some ⟨b,0,none⟩),v] 196 (0,0)):=by
  rw[hgrow.block b hlt (fun e=>hne e.symm)];exact hbk
 have d0:w2.cell? ⟨b,0,none⟩=some (.pointer (some ⟨b,0,none⟩)):=by rw[Lib.cell_of_heap hb2];rfl
 have d1:w2.cell? ⟨b,1,none⟩=some v:=by rw[Lib.cell_of_heap hb2];rfl
 have f1:w2.frozen? ⟨b,1,none⟩=false:=Lib.frozen_of_heap hb2 1
 obtain⟨ao,n',cap,rfl⟩:∃ao n' cap,v'= .slice ao n' cap:=by
  rcases hown'.2 with⟨hv,_⟩| ⟨g,cap,cur,fz,hv,_⟩
  ·exact⟨_,_,_,hv⟩
  ·exact⟨_,_,_,hv⟩
 go_wp2
 go_ret2
 refine⟨rfl,?_,?_,(hk1.grown hgrow (Lib.ownsRowF_kind hown)).setCell ⟨b,1,none⟩ rfl _⟩
 ·exact Lib.BuilderAtF.put (T:=196) (e:=5) hB hb2 (bs':=bs++Lib.strCells s) (by simpa[Lib.strCells_length]using hown') (by decide)
 ·exact(hb1.grown hgrow (by have:=hb1.size;omega) (fun k hk=>(hown.lt k hk).1)).setCell (p:=⟨b,1,none⟩) hB _
end
end Go.Proofs.YtmkggcjajcdlcaaGreatDoor
