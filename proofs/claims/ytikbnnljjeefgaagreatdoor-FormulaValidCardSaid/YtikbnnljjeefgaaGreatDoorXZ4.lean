/- Parts of a proof: contracts of the functions that the laws reach. -/
import Derived.Test.YtikbnnljjeefgaaGreatDoorXAa
import Derived.Test.YtikbnnljjeefgaaGreatDoorXZ3
import Derived.Test.YtikbnnljjeefgaaGreatDoorXAe
import Derived.Test.YtikbnnljjeefgaaGreatDoorXShelf
import Derived.Test.YtikbnnljjeefgaaGreatDoorXAmG
import Derived.Shelf.Strconv.AppendUint10
import Derived.Shelf.Strconv.Itoa3
import Derived.Shelf.Strings.BuilderK
set_option maxHeartbeats 100000000
set_option linter.all false
open Go.Proofs.Tryz
namespace Go.Proofs.YtikbnnljjeefgaaGreatDoor
open Go.RowKit
theorem Dv {q:Rat} {n:Int} {d:Nat} (hd:0<d) (hc:Nat.gcd n.natAbs d=1) (h:n*q.den=q.num*d):q.num=n∧q.den=d:=by
 have hp:(⟨n,d,by omega,hc⟩:Rat)=q:=by
  have h1:=Rat.num_divInt_den (⟨n,d,by omega,hc⟩:Rat);have h2:=Rat.num_divInt_den q;rw[← h1,← h2,Rat.divInt_eq_divInt_iff (by show(d:Int)≠0;omega) (by have:=q.den_nz;omega)];exact h
 exact⟨by rw[← hp],by rw[← hp]⟩
def gz (n d:Int):Int:=if d<0 then -((Nat.gcd n.natAbs d.natAbs:Nat):Int)else(Nat.gcd n.natAbs d.natAbs:Nat)
theorem zX {n d:Int} (h:d≠0):gz n d≠0:=by
 have:0<Nat.gcd n.natAbs d.natAbs:=Nat.gcd_pos_of_pos_right _ (by omega)
 unfold gz;split <;>omega
theorem oW {a b c:Int} (h:b≠0) (e:a=b*c):a.fdiv b=c:=by rw[e];exact Int.mul_fdiv_cancel_left _ h
theorem nF {n d:Int} (hd:d≠0):n.fdiv (gz n d)=(Rat.divInt n d).num∧d.fdiv (gz n d)=((Rat.divInt n d).den:Int)∧n=gz n d*(Rat.divInt n d).num∧d=gz n d*((Rat.divInt n d).den:Int):=by
 have hg0:=zX (n:=n) hd;obtain⟨a,ha⟩:((Nat.gcd n.natAbs d.natAbs:Nat):Int)∣n:=Int.ofNat_dvd_left.2 (Nat.gcd_dvd_left _ _);obtain⟨b,hb⟩:((Nat.gcd n.natAbs d.natAbs:Nat):Int)∣d:=Int.ofNat_dvd_left.2 (Nat.gcd_dvd_right _ _);have hp:0<Nat.gcd n.natAbs d.natAbs:=Nat.gcd_pos_of_pos_right _ (by omega)
 obtain⟨G,hG⟩:∃G,Nat.gcd n.natAbs d.natAbs=G:=⟨_,rfl⟩;have hG':=hG;rw[hG]at ha hb hp
 have hab:Nat.gcd a.natAbs b.natAbs=1:=by
  rw[ha,hb,Int.natAbs_mul,Int.natAbs_mul,Int.natAbs_natCast,Nat.gcd_mul_left]at hG;exact Nat.eq_of_mul_eq_mul_left hp (by omega)
 obtain⟨s,hs1,hs2⟩:∃s:Int,gz n d=G*s∧(s=1∧0<b∨s= -1∧b<0):=by
  unfold gz;rw[hG'];have hb0:b≠0:=by rintro rfl;simp at hb;omega
  split
  ·refine⟨-1,by omega, .inr ⟨rfl,?_⟩⟩
   rcases Int.lt_trichotomy b 0 with h|h|h
   ·exact h
   ·omega
   ·have:0<(G:Int)*b:=Int.mul_pos (by omega) h
    omega
  ·refine⟨1,by omega, .inl ⟨rfl,?_⟩⟩
   rcases Int.lt_trichotomy b 0 with h|h|h
   ·have:0<(G:Int)*(-b):=Int.mul_pos (by omega) (by omega)
    rw[Int.mul_neg]at this;omega
   ·omega
   ·exact h
 have hq:(Rat.divInt n d).num=s*a∧(Rat.divInt n d).den=(s*b).toNat:=by
  refine Dv ?_ ?_ ?_
  ·rcases hs2 with⟨rfl,h⟩| ⟨rfl,h⟩<;>omega
  ·have e:(s*b).toNat=b.natAbs:=by rcases hs2 with⟨rfl,h⟩| ⟨rfl,h⟩<;>omega
   have e2:(s*a).natAbs=a.natAbs:=by rcases hs2 with⟨rfl,h⟩| ⟨rfl,h⟩<;>omega
   rw[e,e2,hab]
  ·have h1:=Rat.num_divInt_den (Rat.divInt n d)
   have h0:((Rat.divInt n d).den:Int)≠0:=by have:=(Rat.divInt n d).den_nz;omega
   have h2:=(Rat.divInt_eq_divInt_iff h0 hd).1 h1
   have h3:((s*b).toNat:Int)=s*b:=by
    have:0≤s*b:=by rcases hs2 with⟨rfl,h⟩| ⟨rfl,h⟩<;>omega
    omega
   rw[h3];generalize(Rat.divInt n d).num=p at *;generalize((Rat.divInt n d).den:Int)=q at *;rw[ha,hb]at h2
   have h4:(G:Int)*(p*b)=G*(a*q):=by
    rw[← Int.mul_assoc,Int.mul_comm (G:Int) p,Int.mul_assoc,h2,Int.mul_assoc]
   have h5:=Int.eq_of_mul_eq_mul_left (by omega) h4;rw[Int.mul_assoc,← h5]
   simp[Int.mul_left_comm,Int.mul_comm]
 have hss:s*s=1:=by rcases hs2 with⟨rfl,_⟩| ⟨rfl,_⟩<;>rfl
 have e1:n=gz n d*(Rat.divInt n d).num:=by
  rw[hs1,hq.1,Int.mul_assoc,← Int.mul_assoc s s a,hss,Int.one_mul];exact ha
 have e2:d=gz n d*((Rat.divInt n d).den:Int):=by
  have h3:((s*b).toNat:Int)=s*b:=by
   have:0≤s*b:=by rcases hs2 with⟨rfl,h⟩| ⟨rfl,h⟩<;>omega
   omega
  rw[hs1,hq.2,h3,Int.mul_assoc,← Int.mul_assoc s s b,hss,Int.one_mul];exact hb
 exact⟨oW hg0 e1,oW hg0 e2,e1,e2⟩
theorem kP (q:Rat):Rat.divInt q.num q.den=q:=Rat.num_divInt_den q
theorem eV (q:Rat):0<(q.den:Int):=by have:=q.den_nz;omega
theorem y5 (a b:Rat):Rat.divInt (a.num*b.den+b.num*a.den) (a.den*b.den)=a+b:=by
 have h:=Rat.divInt_add_divInt a.num b.num (d₁:=a.den) (d₂:=b.den) (by have:=eV a;omega) (by have:=eV b;omega);rw[Rat.num_divInt_den,Rat.num_divInt_den]at h;exact h.symm
theorem mC (a b:Rat):Rat.divInt (a.num*b.num) (a.den*b.den)=a*b:=by
 have h:=Rat.divInt_mul_divInt a.num b.num (d₁:=a.den) (d₂:=b.den);rw[Rat.num_divInt_den,Rat.num_divInt_den]at h;exact h.symm
theorem yc (a b:Rat):Rat.divInt (a.num*b.den) (a.den*b.num)=a/b:=by
 rw[Rat.div_def,Rat.inv_def];have h:=Rat.divInt_mul_divInt a.num b.den (d₁:=a.den) (d₂:=b.num);rw[Rat.num_divInt_den]at h;exact h.symm
theorem yR {q:Rat} {n:Int} (h:q=n):q.num=n∧q.den=1:=by subst h;exact⟨rfl,rfl⟩
theorem tu {q:Rat} (h:q.den=1):q=(q.num:Rat):=Rat.ext rfl h
theorem nJ {a b:Rat} (ha:a.den=1) (hb:b.den=1):(a*b).num=a.num*b.num∧(a*b).den=1:=by
 refine yR ?_;rw[tu ha,tu hb]
 simp
theorem E6 (a b:Rat):(a*b).num=(a.num/(Nat.gcd a.num.natAbs b.den:Nat))*(b.num/(Nat.gcd b.num.natAbs a.den:Nat))∧(a*b).den=(a.den/Nat.gcd b.num.natAbs a.den)*(b.den/Nat.gcd a.num.natAbs b.den):=by
 show(Rat.mul a b).num=_∧(Rat.mul a b).den=_;rw[Rat.mul.eq_1]
 simp only[Int.divExact_eq_ediv,Nat.divExact_eq_div]
 exact⟨trivial,trivial⟩
def Cd (q:Rat):Int:=q.num.sign
theorem BD {n d:Int} (h:0<d):Cd (Rat.divInt n d)=n.sign:=by
 unfold Cd;obtain⟨_,_,h1,h2⟩:=nF (n:=n) (d:=d) (by omega)
 have hg:0<gz n d:=by
  have:=Nat.gcd_pos_of_pos_right n.natAbs (show 0<d.natAbs by omega);unfold gz;rw[if_neg (by omega)];omega
 rw[h1,Int.sign_mul,Int.sign_eq_one_of_pos hg,Int.one_mul];rw[← h1]
def rK (c:UInt8):Bool:=decide (di c)
theorem jl {c:UInt8}:rK c=true↔di c:=decide_eq_true_iff
def eC (t:List UInt8):List UInt8:=t.takeWhile rK
def iG (t:List UInt8):List UInt8:=t.dropWhile rK
theorem iq (t:List UInt8):eC t++iG t=t:=List.takeWhile_append_dropWhile
theorem kL (t:List UInt8):∀c∈eC t,di c:=fun c hc=>jl.1 (List.all_eq_true.1 (List.all_takeWhile (p:=rK) (l:=t)) c hc)
theorem ir {a b:List UInt8} (h:∀c∈a,di c):eC (a++b)=a++eC b∧iG (a++b)=iG b:=by
 induction a with
 |nil=>exact⟨rfl,rfl⟩
 |cons x a ih=>
  have hx:=jl.2 (h x (by simp));obtain⟨h1,h2⟩:=ih (fun c hc=>h c (by simp[hc]));unfold eC iG at *;rw[List.cons_append,List.takeWhile_cons_of_pos hx,List.dropWhile_cons_of_pos hx,h1,h2];exact⟨rfl,rfl⟩
theorem ib {c:UInt8} {b:List UInt8} (h:¬di c):eC (c::b)=[]∧iG (c::b)=c::b:=by
 have hc:¬rK c=true:=fun e=>h (jl.1 e)
 unfold eC iG;exact⟨List.takeWhile_cons_of_neg hc,List.dropWhile_cons_of_neg hc⟩
theorem oO {a:List UInt8} (h:∀c∈a,di c):eC a=a∧iG a=[]:=by
 have:=ir (b:=[]) h
 simpa[eC,iG]using this
theorem BM {t:List UInt8} {c:UInt8} {b:List UInt8} (h:iG t=c::b):¬di c:=by
 intro hc;unfold iG at h;have:=List.head?_dropWhile_not (p:=rK) (l:=t);rw[h]at this
 simp[jl.2 hc]at this
theorem qR {a:List UInt8} (h:¬∀c∈a,di c):∃p c r,a=p++c::r∧(∀x∈p,di x)∧ ¬di c:=by
 have e:=iq a;cases hr:iG a with
 |nil=>
  rw[hr,List.append_nil]at e;exact absurd (fun c hc=>kL a c (by rw[e];exact hc)) h
 |cons c r=>exact⟨eC a,c,r,by rw[← hr,e],kL a,BM hr⟩
open Classical in
noncomputable def fg (t:List UInt8):Option Rat:=
 if iC false (eC t)then
  match iG t with
  | []=>some ((num (eC t):Int):Rat)
  |c::b=>
   if c=46 then(if b≠[]∧(∀x∈b,di x)then some (Rat.divInt ((num (eC t)*10^b.length+num b:Nat):Int) ((10^b.length:Nat):Int))else none)
   else if c=47 then(if iC false b∧num b≠0∧num b≠1∧Nat.gcd (num (eC t)) (num b)=1 then some (Rat.divInt (num (eC t):Int) (num b:Int))else none)
   else none
 else none
theorem D6:¬di 47:=by decide
theorem GS:¬di 46:=by decide
theorem eH {a:List UInt8} (h:iC false a):∀c∈a,di c:=h.2.1
open Classical in
theorem AM {a b:List UInt8} (ha:47 ∉ a):fg (a++47::b)=if iC false a∧iC false b∧num b≠0∧num b≠1∧Nat.gcd (num a) (num b)=1 then some (Rat.divInt (num a:Int) (num b:Int))else none:=by
 by_cases h:∀c∈a,di c
 ·have h1:=ir (b:=47::b) h
  obtain⟨h2,h3⟩:=ib (b:=b) D6;rw[h2,h3,List.append_nil]at h1;unfold fg;rw[h1.1,h1.2]
  by_cases ho:iC false a
  ·rw[if_pos ho]
   dsimp only;rw[if_neg (by decide),if_pos rfl]
   by_cases hb:iC false b∧num b≠0∧num b≠1∧Nat.gcd (num a) (num b)=1
   ·rw[if_pos hb,if_pos ⟨ho,hb⟩]
   ·rw[if_neg hb,if_neg (fun h=>hb h.2)]
  ·rw[if_neg ho,if_neg (fun h=>ho h.1)]
 ·rw[if_neg (fun e=>h (eH e.1))]
  obtain⟨p,c,r,rfl,hp,hc⟩:=qR h;have h1:=ir (b:=c::(r++47::b)) hp;obtain⟨h2,h3⟩:=ib (b:=r++47::b) hc;rw[h2,h3,List.append_nil]at h1;unfold fg;rw[show p++c::r++47::b=p++c::(r++47::b) by simp,h1.1,h1.2]
  split
  ·dsimp only
   split
   ·rw[if_neg (fun e=>D6 (e.2 47 (by simp)))]
   ·rw[if_neg (fun e=>ha (by rw[e];simp))]
  ·rfl
open Classical in
theorem zO {a b:List UInt8} (h47:47 ∉ a++46::b) (ha:46 ∉ a):fg (a++46::b)=if iC false a∧b≠[]∧(∀x∈b,di x)then some (Rat.divInt ((num a*10^b.length+num b:Nat):Int) ((10^b.length:Nat):Int))else none:=by
 by_cases h:∀c∈a,di c
 ·have h1:=ir (b:=46::b) h
  obtain⟨h2,h3⟩:=ib (b:=b) GS;rw[h2,h3,List.append_nil]at h1;unfold fg;rw[h1.1,h1.2]
  by_cases ho:iC false a
  ·rw[if_pos ho]
   dsimp only;rw[if_pos rfl]
   by_cases hb:b≠[]∧(∀x∈b,di x)
   ·rw[if_pos hb,if_pos ⟨ho,hb⟩]
   ·rw[if_neg hb,if_neg (fun h=>hb h.2)]
  ·rw[if_neg ho,if_neg (fun h=>ho h.1)]
 ·rw[if_neg (fun e=>h (eH e.1))]
  obtain⟨p,c,r,rfl,hp,hc⟩:=qR h;have h1:=ir (b:=c::(r++46::b)) hp;obtain⟨h2,h3⟩:=ib (b:=r++46::b) hc;rw[h2,h3,List.append_nil]at h1;unfold fg;rw[show p++c::r++46::b=p++c::(r++46::b) by simp,h1.1,h1.2]
  split
  ·dsimp only
   rw[if_neg (fun e=>ha (by rw[e];simp)),if_neg (fun e=>h47 (by rw[e];simp))]
  ·rfl
open Classical in
theorem vS {a:List UInt8} (h47:47 ∉ a) (h46:46 ∉ a):fg a=if iC false a then some ((num a:Int):Rat)else none:=by
 by_cases h:∀c∈a,di c
 ·have h1:=oO h
  unfold fg;rw[h1.1,h1.2]
 ·rw[if_neg (fun e=>h (eH e))]
  obtain⟨p,c,r,rfl,hp,hc⟩:=qR h;have h1:=ir (b:=c::r) hp;obtain⟨h2,h3⟩:=ib (b:=r) hc;rw[h2,h3,List.append_nil]at h1;unfold fg;rw[h1.1,h1.2]
  split
  ·dsimp only
   rw[if_neg (fun e=>h46 (by rw[e];simp)),if_neg (fun e=>h47 (by rw[e];simp))]
  ·rfl
open Classical in
noncomputable def bE (s:List UInt8):Option Rat:=
 if s.length≤65536 then
  match fg (dG s)with
  |none=>none
  |some q=>if bV s=true then(if q=0 then none else some (-q))else some q
 else none
def lU (n:Nat):List UInt8:=if n=0 then [48]else lB n
theorem Fe (n:Nat):fmt (n:Int)=lU n:=by
 unfold fmt lU
 by_cases h:n=0
 ·subst h;rfl
 ·rw[if_neg (by omega),if_neg h,if_neg (by omega),Int.natAbs_natCast];rfl
theorem AN (z:Int):fmt z=(if z<0 then [45]else [])++lU z.natAbs:=by
 unfold fmt lU
 by_cases h:z=0
 ·subst h;rfl
 ·rw[if_neg h,if_neg (show ¬z.natAbs=0 by omega)]
theorem xc (n:Nat):∀c∈lU n,di c:=by
 unfold lU
 split
 ·intro c hc;simp at hc;subst hc;decide
 ·exact FY n
theorem FM (n:Nat):iC false (lU n):=by
 refine⟨?_,xc n,?_⟩
 ·unfold lU;split
  ·simp
  ·rename_i h;obtain⟨c,r,e,_⟩:=nP h;rw[e];simp
 ·unfold lU;split
  ·exact .inr ⟨rfl,rfl⟩
  ·rename_i h;obtain⟨c,r,e,hc⟩:=nP h
   exact .inl fun x y e2=>by rw[e]at e2;cases e2;exact hc
theorem C1 (n:Nat):num (lU n)=n:=by
 unfold lU;split
 ·rename_i h;subst h;rfl
 ·exact Fd n
theorem yv {b:Bool} {l:List UInt8} (h:∀c r,l=c::r→di c):dG ((if b=true then [45]else [])++l)=l∧bV ((if b=true then [45]else [])++l)=b:=by
 cases b
 ·simp only[Bool.false_eq_true,if_false,List.nil_append]
  cases l with
  |nil=>exact⟨rfl,rfl⟩
  |cons c r=>
   have h1:=h c r rfl;have:(c == 45)=false:=beq_eq_false_iff_ne.2 (fun e=>by subst e;exact absurd h1 (by decide));exact⟨by show(if(c == 45)=true then r else c::r)=_;rw[this];rfl,this⟩
 ·exact⟨rfl,rfl⟩
theorem AU (k:Nat) (l:List UInt8):num (List.replicate k 48++l)=num l:=by
 induction k with
 |zero=>rfl
 |succ k ih=>rw[List.replicate_succ,List.cons_append];exact ih
def CF (l:List UInt8):List UInt8:=l.dropWhile (· == 48)
theorem zy (l:List UInt8):num (CF l)=num l:=by
 induction l with
 |nil=>rfl
 |cons c l ih=>
  unfold CF at *
  by_cases h:c=48
  ·subst h;rw[List.dropWhile_cons_of_pos rfl,ih];rfl
  ·rw[List.dropWhile_cons_of_neg (by simpa using h)]
theorem GV {l:List UInt8} (h:∀c∈l,di c) (hn:CF l≠[]):iC false (CF l):=by
 refine⟨hn,fun c hc=>h c (List.dropWhile_sublist _ |>.subset hc), .inl fun c r e=>?_⟩;have:=List.head?_dropWhile_not (p:=(· == (48:UInt8))) (l:=l);unfold CF at e;rw[e]at this
 simpa using this
def aQ (q:Rat):List AV:=aZ q.num++aZ q.den
def dQ (q:Rat):DV:= .agg (aQ q)
def zt (na:Bool) (xs:List Nat) (nb:Bool) (ys:List Nat):List AV:=aI na xs++aI nb ys
def ES (na:Bool) (xs:List Nat) (nb:Bool) (ys:List Nat):DV:= .agg (zt na xs nb ys)
def lZ:List AV:=[.val (.bool false), .sl 0 [], .val (.bool false), .sl 0 []]
def EP:DV:= .agg lZ
def Sz (k:Nat) (z:Int):Prop:=z.natAbs<4294967296^k
theorem Sz.fit {k:Nat} {z:Int} (h:Sz k z) (hk:k≤2147483648):eB z:= .of_lt h hk
theorem Sz.mono {j k:Nat} {z:Int} (h:Sz j z) (hk:j≤k):Sz k z:=Nat.lt_of_lt_of_le h (Nat.pow_le_pow_right (by decide) hk)
theorem Sz.of_le {k:Nat} {a b:Int} (h:Sz k b) (hl:a.natAbs≤b.natAbs):Sz k a:=Nat.lt_of_le_of_lt hl h
theorem Sz.mul {j k:Nat} {a b:Int} (h:Sz j a) (h':Sz k b):Sz (j+k) (a*b):=by
 unfold Sz at *;rw[Int.natAbs_mul,Nat.pow_add];exact Nat.mul_lt_mul'' h h'
theorem Sz.add {k:Nat} {a b:Int} (h:Sz k a) (h':Sz k b):Sz (k+1) (a+b):=by
 unfold Sz at *;have:=Int.natAbs_add_le a b;have:0<4294967296^k:=Nat.pow_pos (by decide)
 rw[Nat.pow_succ];omega
theorem Sz.neg {k:Nat} {a:Int} (h:Sz k a):Sz k (-a):=by unfold Sz at *;rw[Int.natAbs_neg];exact h
theorem Sz.sub {k:Nat} {a b:Int} (h:Sz k a) (h':Sz k b):Sz (k+1) (a-b):=by rw[Int.sub_eq_add_neg];exact h.add h'.neg
theorem Sz.small {z:Int} (h:z.natAbs<4294967296):Sz 1 z:=by unfold Sz;simpa using h
theorem Sz.i64 {z:Int} (h1: -9223372036854775808≤z) (h2:z<9223372036854775808):Sz 2 z:=by unfold Sz;omega
theorem Sz.gcd {k:Nat} {n d:Int} (h:Sz k d) (hd:d≠0):Sz k (Nat.gcd n.natAbs d.natAbs:Nat):=by
 refine h.of_le ?_;rw[Int.natAbs_natCast];exact Nat.le_of_dvd (by omega) (Nat.gcd_dvd_right _ _)
theorem Sz.digs {k:Nat} {z:Int} (h:Sz k z):(digs z.natAbs).length≤k:=aN h
theorem Sz.of_digs {k:Nat} {z:Int} (h:(Go.Proofs.YtikbnnljjeefgaaGreatDoor.digs z.natAbs).length≤k):Sz k z:=cH h
def iV (k:Nat) (q:Rat):Prop:=Sz k q.num∧Sz k q.den
theorem iV.mono {j k:Nat} {q:Rat} (h:iV j q) (hk:j≤k):iV k q:=⟨h.1.mono hk,h.2.mono hk⟩
theorem iV.divInt {k:Nat} {n d:Int} (h:Sz k n) (h':Sz k d) (hd:d≠0):iV k (Rat.divInt n d):=by
 obtain⟨_,_,h1,h2⟩:=nF (n:=n) (d:=d) hd;have hg:0<(gz n d).natAbs:=by have:=zX (n:=n) hd;omega
 refine⟨h.of_le ?_,h'.of_le ?_⟩
 ·conv=>rhs;rw[h1,Int.natAbs_mul]
  exact Nat.le_mul_of_pos_left _ hg
 ·conv=>rhs;rw[h2,Int.natAbs_mul]
  exact Nat.le_mul_of_pos_left _ hg
theorem iV.add {j k:Nat} {a b:Rat} (h:iV j a) (h':iV k b):iV (j+k+1) (a+b):=by
 rw[← y5];refine .divInt ?_ ((h.2.mul h'.2).mono (by omega)) (by have:=Int.mul_pos (eV a) (eV b);omega);exact Sz.add (h.1.mul h'.2) ((h'.1.mul h.2).mono (by omega))
theorem iV.neg {k:Nat} {a:Rat} (h:iV k a):iV k (-a):=⟨by rw[Rat.neg_num];exact h.1.neg,h.2⟩
theorem iV.sub {j k:Nat} {a b:Rat} (h:iV j a) (h':iV k b):iV (j+k+1) (a-b):=by rw[Rat.sub_eq_add_neg];exact h.add h'.neg
theorem iV.mul {j k:Nat} {a b:Rat} (h:iV j a) (h':iV k b):iV (j+k) (a*b):=by
 rw[← mC];exact .divInt (h.1.mul h'.1) (h.2.mul h'.2) (by have:=Int.mul_pos (eV a) (eV b);omega)
theorem iV.div {j k:Nat} {a b:Rat} (h:iV j a) (h':iV k b) (hb:b≠0):iV (j+k) (a/b):=by
 rw[← yc];have h0:b.num≠0:=fun e=>hb (Rat.num_eq_zero.1 e)
 refine .divInt (h.1.mul h'.2) (h.2.mul h'.1) ?_;exact Int.mul_ne_zero (by have:=eV a;omega) h0
theorem m0 {z:Int}:(!decide (z<0) && decide (digs z.natAbs=[1]))=decide (z=1):=by
 by_cases h:z=1
 ·subst h;rw[show(1:Int).natAbs=1 from rfl,p9 (by decide) (by decide)];rfl
 ·rw[decide_eq_false h]
  by_cases hn:z<0
  ·simp[hn]
  ·have:digs z.natAbs≠[1]:=fun e=>by
    have h1:=congrArg val e;rw[af]at h1
    simp[val]at h1
    omega
   simp[this]
theorem jH {z:Int}:decide (((digs z.natAbs).length:Int)=0)=decide (z=0):=by
 have:=cu (n:=z.natAbs)
 by_cases h:z=0
 ·subst h;rw[decide_eq_true rfl];exact decide_eq_true (by have:=this.2 rfl;omega)
 ·rw[decide_eq_false h];exact decide_eq_false (fun e=>h (by have:=this.1 (by omega);omega))
theorem kr:aa Tryz.prog 132 [] (.one (dZ 1)):=by
 refine kV func132 ?_;refine ae (fR 1 (by decide) (by decide)) rfl rfl rfl rfl rfl rfl rfl ?_;exact kF
theorem yh {na:Bool} {xs:List Nat} {b:Bool} (hb:(!na && decide (xs=[1]))=b):aa Tryz.prog 130 [dI na xs] (.one (dB b)):=by
 subst hb;cases na
 ·match xs with
  | []=>
   refine kU func130 ?_;exact kF
  | [x]=>
   refine kV func130 ?_;refine bJ (cs':=[AV.val (bF x)]) (i:=0) (Nat.lt_succ_self 0) (fun j a h=>by simpa using h) (Nat.lt_succ_self 0) rfl rfl rfl rfl rfl rfl rfl rfl ?_;refine kW ?_;rw[show(!false && decide ([x]=[1]))=decide ((x:Int)=1) by by_cases h:x=1<;>simp[h]<;>omega];exact bO (T:=TT) rfl rfl
  |x::y::r=>
   refine kU func130 ?_;refine kR ?_;refine kI ?_
   iterate 7 refine kO ?_
   refine kB false ?_ ?_
   ·exact decide_eq_false (by simp only[List.length_cons];omega)
   refine kW ?_;rw[show(!false && decide (x::y::r=[1]))=false by simp];exact bO (T:=TT) rfl rfl
 ·refine kU func130 ?_
  exact kF
theorem AO {na:Bool} {xs:List Nat} {b:Bool} (hb:(!na && decide (xs=[1]))=b):aa Tryz.prog 97 [dI na xs] (.one (dB b)):=by
 subst hb
 match xs with
 | []=>
  refine kV func97 ?_;rw[show(!na && decide (([]:List Nat)=[1]))=false by simp];exact bO (T:=TT) rfl rfl
 | [x]=>
  refine kV func97 ?_;refine bJ (cs':=[AV.val (bF x)]) (i:=0) (Nat.lt_succ_self 0) (fun j a h=>by simpa using h) (Nat.lt_succ_self 0) rfl rfl rfl rfl rfl rfl rfl rfl ?_;refine kO ?_
  by_cases h:x=1
  ·refine kT ?_
   refine kW ?_;rw[show(!na && decide ([x]=[1]))=!na by simp[h]];exact bO (T:=TT) rfl rfl
  ·refine kE ?_
   refine kW ?_;rw[show(!na && decide ([x]=[1]))=false by simp[h]];exact bO (T:=TT) rfl rfl
 |x::y::r=>
  refine kU func97 ?_;refine kR ?_;refine kI ?_
  refine kO3 ?_
  refine kB false ?_ ?_
  ·exact decide_eq_false (by simp only[List.length_cons];omega)
  refine kW ?_;rw[show(!na && decide (x::y::r=[1]))=false by simp];exact bO (T:=TT) rfl rfl
theorem bP {z:Int} {b:Bool} (hb:decide (z=1)=b):aa Tryz.prog 130 [dZ z] (.one (dB b)):=yh (by rw[m0,hb])
theorem dA {z:Int} {b:Bool} (hb:decide (z=1)=b):aa Tryz.prog 97 [dZ z] (.one (dB b)):=AO (by rw[m0,hb])
theorem eZ {z:Int} {b:Bool} (hb:decide (z=0)=b):aa Tryz.prog 217 [dZ z] (.one (dB b)):=by
 refine kV func217 ?_;rw[← hb,← jH];exact bO (T:=TT) rfl rfl
theorem mN {a b c:Int} (h1:eB a) (h2:eB b) (hb:b≠0) (h:a.fdiv b=c):aa Tryz.prog 166 [dZ a,dZ b] (.one (dZ c)):=by
 by_cases h1':b=1
 ·subst h1'
  rw[Int.fdiv_one]at h;subst h;refine kV func166 ?_;refine kC (bP (z:=1) (b:=true) rfl) ?_;exact kF
 ·refine kV func166 ?_;refine kQ (bP (z:=b) (b:=false) (decide_eq_false h1')) ?_;refine kC (tS h1 h2 hb h rfl) ?_;exact kF
theorem de {a b c:Int} (h1:eB a) (h2:eB b) (hb:b≠0) (h:a.fdiv b=c):aa Tryz.prog 105 [dZ a,dZ b] (.one (dZ c)):=by
 refine kV func105 ?_;refine kC (sf h1 h2 hb h rfl) ?_;exact kF
theorem D7 {n d:Int} {g:Nat} (hg:Nat.gcd n.natAbs d.natAbs=g) (h:¬d<0):gz n d=g:=by unfold gz;rw[if_neg h,hg]
theorem ED {n d:Int} {g:Nat} (hg:Nat.gcd n.natAbs d.natAbs=g) (h:d<0):gz n d= -(g:Int):=by unfold gz;rw[if_pos h,hg]
theorem iM {k:Nat} {n d:Int} {q:Rat} (h1:Sz k n) (h2:Sz k d) (hk:k≤2147483648) (hd:d≠0) (hq:Rat.divInt n d=q):aa Tryz.prog 139 [dZ n,dZ d] (.one (dQ q)):=by
 subst hq;obtain⟨e1,e2,_,_⟩:=nF (n:=n) hd;have hg0:=zX (n:=n) hd;have hsg:=h2.gcd (n:=n) hd;obtain⟨g,hg⟩:∃g,Nat.gcd n.natAbs d.natAbs=g:=⟨_,rfl⟩;rw[hg]at hsg
 by_cases h:d<0
 ·rw[ED hg h]at e1 e2 hg0
  refine kV func139 ?_;refine kQ (lE (h1.fit hk) (h2.fit hk) hg) ?_;refine eW (T:=TT) rfl ?_ ?_
  ·exact decide_eq_true h
  refine kW ?_;refine kQ (tc (hsg.fit hk)) ?_;refine kQ (mN (h1.fit hk) (hsg.neg.fit hk) hg0 e1) ?_;refine kC (mN (h2.fit hk) (hsg.neg.fit hk) hg0 e2) ?_;exact kF
 ·rw[D7 hg h]at e1 e2 hg0
  refine kV func139 ?_;refine kQ (lE (h1.fit hk) (h2.fit hk) hg) ?_;refine dJ (T:=TT) rfl ?_ ?_
  ·exact decide_eq_false h
  refine kW ?_;refine kQ (mN (h1.fit hk) (hsg.fit hk) hg0 e1) ?_;refine kC (mN (h2.fit hk) (hsg.fit hk) hg0 e2) ?_;exact kF
theorem qx {k:Nat} {n d:Int} {q:Rat} (h1:Sz k n) (h2:Sz k d) (hk:k≤2147483648) (hd:d≠0) (hq:Rat.divInt n d=q):aa Tryz.prog 205 [dZ n,dZ d] (.one (dQ q)):=by
 subst hq;obtain⟨e1,e2,_,_⟩:=nF (n:=n) hd;have hg0:=zX (n:=n) hd;have hsg:=h2.gcd (n:=n) hd;obtain⟨g,hg⟩:∃g,Nat.gcd n.natAbs d.natAbs=g:=⟨_,rfl⟩;rw[hg]at hsg
 by_cases h:d<0
 ·rw[ED hg h]at e1 e2 hg0
  have hs:aa Tryz.prog 96 [dZ d] (.one (dN .i64 (-1))):=by have:=ky d;rwa[Int.sign_eq_neg_one_of_neg h]at this
  refine kV func205 ?_;refine kQ (fA (h1.fit hk) (h2.fit hk) hg) ?_;refine kQ (hs) ?_;refine kQ (mB g) ?_;refine kQ (de (h1.fit hk) (hsg.neg.fit hk) hg0 e1) ?_;refine kC (de (h2.fit hk) (hsg.neg.fit hk) hg0 e2) ?_;exact kF
 ·rw[D7 hg h]at e1 e2 hg0
  have hs:aa Tryz.prog 96 [dZ d] (.one (dN .i64 1)):=by have:=ky d;rwa[Int.sign_eq_one_of_pos (by omega)]at this
  refine kV func205 ?_;refine kQ (fA (h1.fit hk) (h2.fit hk) hg) ?_;refine kQ (hs) ?_;refine kQ (de (h1.fit hk) (hsg.fit hk) hg0 e1) ?_;refine kC (de (h2.fit hk) (hsg.fit hk) hg0 e2) ?_;exact kF
theorem vg (k:Int) (h1: -9223372036854775808≤k) (h2:k<9223372036854775808) {q:Rat} (hq:(k:Rat)=q):aa Tryz.prog 88 [dN .i64 k] (.one (dQ q)):=by
 subst hq;refine kV func88 ?_;refine kQ (fR k h1 h2) ?_;refine kC (kr) ?_;exact kF
theorem jf (k:Int) (h1: -9223372036854775808≤k) (h2:k<9223372036854775808) {q:Rat} (hq:(k:Rat)=q):aa Tryz.prog 64 [dN .i64 k] (.one (dQ q)):=by
 subst hq;refine kV func64 ?_;refine kQ (cS k h1 h2) ?_;refine ae (cS 1 (by decide) (by decide)) rfl rfl rfl rfl rfl rfl rfl ?_;exact kF
theorem C6 {k:Nat} {a q:Rat} (h:iV k a) (hk:k≤2147483648) (hq: -a=q):aa Tryz.prog 218 [dQ a] (.one (dQ q)):=by
 subst hq;refine kV func218 ?_;refine kC (tc (h.1.fit hk)) ?_;exact kF
theorem tM (a:Rat):aa Tryz.prog 87 [dQ a] (.one (dN .i64 (Cd a))):=by
 refine kV func87 ?_;refine kC (y7 a.num) ?_;exact kF
theorem qe (a:Rat):aa Tryz.prog 63 [dQ a] (.one (dN .i64 (Cd a))):=by
 refine kV func63 ?_;refine kC (ky a.num) ?_;exact kF
theorem zH {q:Rat} {n d:Int} (h1:q.num=n) (h2:(q.den:Int)=d):dQ q= .agg (aZ n++aZ d):=by unfold dQ aQ;rw[h1,h2]
theorem Cz (a:Rat):decide ((a.den:Int)=1)=decide (a.den=1):=by by_cases h:a.den=1<;>simp[h]<;>omega
theorem tE {a:Rat} (h:a.den=1):decide ((a.den:Int)=1)=true:=by rw[Cz];exact decide_eq_true h
theorem Ak {a:Rat} (h:¬a.den=1):decide ((a.den:Int)=1)=false:=by rw[Cz];exact decide_eq_false h
theorem Dj {z:Int} (h:z=0):decide (((digs z.natAbs).length:Int)=0)=true:=jH.trans (decide_eq_true h)
theorem tz {z:Int} (h:¬z=0):decide (((digs z.natAbs).length:Int)=0)=false:=jH.trans (decide_eq_false h)
theorem lp (a:Int) (g:Nat):a.fdiv g=a/g:=Int.fdiv_eq_ediv_of_nonneg _ (by omega)
theorem pF (a g:Nat):(a:Int).fdiv g=((a/g:Nat):Int):=by rw[lp];rfl
theorem Eg {j k:Nat} {a b q:Rat} (h:iV j a) (h':iV k b) (hk:j+k≤2147483648) (hq:a*b=q):aa Tryz.prog 91 [dQ a,dQ b] (.one (dQ q)):=by
 subst hq;have d0:(a.den:Int)*b.den≠0:=by have:=Int.mul_pos (eV a) (eV b);omega
 by_cases ha:a.den=1
 ·by_cases hb:b.den=1
  ·rw[zH (nJ ha hb).1 (d:=1) (by rw[(nJ ha hb).2];rfl)]
   refine kV func91 ?_;refine kQ (bP (tE ha)) ?_;refine kQ (bP (tE hb)) ?_;refine ae (fa (h.1.fit (by omega)) (h'.1.fit (by omega))) rfl rfl rfl rfl rfl rfl rfl ?_;refine kW ?_;refine kC (kr) ?_;exact kF
  ·refine kV func91 ?_;refine kQ (bP (tE ha)) ?_;refine kQ (bP (Ak hb)) ?_;refine ae (fa (h.1.fit (by omega)) (h'.1.fit (by omega))) rfl rfl rfl rfl rfl rfl rfl ?_;refine kW ?_;refine ae (fa (h.2.fit (by omega)) (h'.2.fit (by omega))) rfl rfl rfl rfl rfl rfl rfl ?_;refine kW ?_;refine kC (iM (h.1.mul h'.1) (h.2.mul h'.2) hk d0 (mC a b)) ?_;exact kF
 ·refine kV func91 ?_;refine kQ (bP (Ak ha)) ?_;refine ae (fa (h.1.fit (by omega)) (h'.1.fit (by omega))) rfl rfl rfl rfl rfl rfl rfl ?_;refine kW ?_;refine ae (fa (h.2.fit (by omega)) (h'.2.fit (by omega))) rfl rfl rfl rfl rfl rfl rfl ?_;refine kW ?_;refine kC (iM (h.1.mul h'.1) (h.2.mul h'.2) hk d0 (mC a b)) ?_;exact kF
theorem AP {j k:Nat} {a b q:Rat} (h:iV j a) (h':iV k b) (hk:j+k≤2147483648) (hq:a*b=q):aa Tryz.prog 68 [dQ a,dQ b] (.one (dQ q)):=by
 subst hq
 by_cases ha0:a.num=0
 ·have e:a*b=0:=by rw[Rat.num_eq_zero.1 ha0];exact Rat.zero_mul b
  refine kU func68 ?_;refine kR ?_;refine kI ?_
  refine kO4 ?_
  refine kB true ?_ ?_
  ·exact Dj ha0
  refine kW ?_;refine ae (jf 0 (by decide) (by decide) e.symm) rfl rfl rfl rfl rfl rfl rfl ?_;exact kF
 by_cases hb0:b.num=0
 ·have e:a*b=0:=by rw[Rat.num_eq_zero.1 hb0];exact Rat.mul_zero a
  refine kU func68 ?_;refine kR ?_;refine kI ?_
  refine kO4 ?_
  refine kB false ?_ ?_
  ·exact tz ha0
  refine kO5 ?_
  refine kB true ?_ ?_
  ·exact Dj hb0
  refine kW ?_;refine ae (jf 0 (by decide) (by decide) e.symm) rfl rfl rfl rfl rfl rfl rfl ?_;exact kF
 by_cases hab:a.den=1∧b.den=1
 ·rw[zH (nJ hab.1 hab.2).1 (d:=a.den) (by rw[(nJ hab.1 hab.2).2,hab.1])]
  refine kU func68 ?_;refine kR ?_;refine kI ?_
  refine kO4 ?_
  refine kB false ?_ ?_
  ·exact tz ha0
  refine kO5 ?_
  refine kB false ?_ ?_
  ·exact tz hb0
  refine kW ?_;refine kQ (dA (tE hab.1)) ?_;refine kQ (dA (tE hab.2)) ?_;refine ae (eJ (h.1.fit (by omega)) (h'.1.fit (by omega))) rfl rfl rfl rfl rfl rfl rfl ?_;exact kF
 have e:=E6 a b;obtain⟨g,hg⟩:∃g,Nat.gcd a.num.natAbs b.den=g:=⟨_,rfl⟩;obtain⟨t,ht⟩:∃t,Nat.gcd b.num.natAbs a.den=t:=⟨_,rfl⟩;rw[hg,ht]at e;have hgz:Nat.gcd a.num.natAbs (b.den:Int).natAbs=g:=by rw[Int.natAbs_natCast];exact hg
 have htz:Nat.gcd b.num.natAbs (a.den:Int).natAbs=t:=by rw[Int.natAbs_natCast];exact ht
 have hg0:0<g:=by rw[← hg];exact Nat.gcd_pos_of_pos_right _ (Nat.pos_of_ne_zero b.den_nz)
 have ht0:0<t:=by rw[← ht];exact Nat.gcd_pos_of_pos_right _ (Nat.pos_of_ne_zero a.den_nz)
 have sg:Sz k g:=by rw[← hgz];exact h'.2.gcd (by have:=eV b;omega)
 have st:Sz j t:=by rw[← htz];exact h.2.gcd (by have:=eV a;omega)
 have s1:Sz j (a.num/g):=h.1.of_le (Int.natAbs_ediv_le_natAbs _ _);have s2:Sz k (b.num/t):=h'.1.of_le (Int.natAbs_ediv_le_natAbs _ _);have s3:Sz j (a.den/t:Nat):=h.2.of_le (by rw[Int.natAbs_natCast,Int.natAbs_natCast];exact Nat.div_le_self _ _);have s4:Sz k (b.den/g:Nat):=h'.2.of_le (by rw[Int.natAbs_natCast,Int.natAbs_natCast];exact Nat.div_le_self _ _);rw[zH e.1 (d:=(a.den/t:Nat)*(b.den/g:Nat)) (by rw[e.2];rfl)];refine kU func68 ?_;refine kR ?_;refine kI ?_
 refine kO4 ?_
 refine kB false ?_ ?_
 ·exact tz ha0
 refine kO5 ?_
 refine kB false ?_ ?_
 ·exact tz hb0
 refine kW ?_
 by_cases ha:a.den=1
 ·have hb:¬b.den=1:=fun e=>hab ⟨ha,e⟩
  refine kQ (dA (tE ha)) ?_;refine kQ (dA (Ak hb)) ?_;refine ae (fA (h.1.fit (by omega)) (h'.2.fit (by omega)) hgz) rfl rfl rfl rfl rfl rfl rfl ?_;refine kW ?_;refine ae (fA (h'.1.fit (by omega)) (h.2.fit (by omega)) htz) rfl rfl rfl rfl rfl rfl rfl ?_;refine kW ?_;refine ae (de (h.1.fit (by omega)) (sg.fit (by omega)) (by omega) (lp _ _)) rfl rfl rfl rfl rfl rfl rfl ?_;refine kW ?_;refine ae (de (h'.1.fit (by omega)) (st.fit (by omega)) (by omega) (lp _ _)) rfl rfl rfl rfl rfl rfl rfl ?_;refine kW ?_;refine ae (eJ (s1.fit (by omega)) (s2.fit (by omega))) rfl rfl rfl rfl rfl rfl rfl ?_;refine kW ?_;refine ae (de (h.2.fit (by omega)) (st.fit (by omega)) (by omega) (pF _ _)) rfl rfl rfl rfl rfl rfl rfl ?_;refine kW ?_
  refine ae (de (h'.2.fit (by omega)) (sg.fit (by omega)) (by omega) (pF _ _)) rfl rfl rfl rfl rfl rfl rfl ?_;refine kW ?_;refine ae (eJ (s3.fit (by omega)) (s4.fit (by omega))) rfl rfl rfl rfl rfl rfl rfl ?_;exact kF
 ·refine kC (dA (Ak ha)) ?_
  refine kW ?_;refine ae (fA (h.1.fit (by omega)) (h'.2.fit (by omega)) hgz) rfl rfl rfl rfl rfl rfl rfl ?_;refine kW ?_;refine ae (fA (h'.1.fit (by omega)) (h.2.fit (by omega)) htz) rfl rfl rfl rfl rfl rfl rfl ?_;refine kW ?_;refine ae (de (h.1.fit (by omega)) (sg.fit (by omega)) (by omega) (lp _ _)) rfl rfl rfl rfl rfl rfl rfl ?_;refine kW ?_;refine ae (de (h'.1.fit (by omega)) (st.fit (by omega)) (by omega) (lp _ _)) rfl rfl rfl rfl rfl rfl rfl ?_;refine kW ?_;refine ae (eJ (s1.fit (by omega)) (s2.fit (by omega))) rfl rfl rfl rfl rfl rfl rfl ?_;refine kW ?_;refine ae (de (h.2.fit (by omega)) (st.fit (by omega)) (by omega) (pF _ _)) rfl rfl rfl rfl rfl rfl rfl ?_;refine kW ?_
  refine ae (de (h'.2.fit (by omega)) (sg.fit (by omega)) (by omega) (pF _ _)) rfl rfl rfl rfl rfl rfl rfl ?_;refine kW ?_;refine ae (eJ (s3.fit (by omega)) (s4.fit (by omega))) rfl rfl rfl rfl rfl rfl rfl ?_;exact kF
section
open Go.RowKit Go.Shelf
attribute [local go_sem] Oper.semAt_some
abbrev DD (M:Nat) (x:Nat × Nat):Array Value:= #[.int .i64 (x.1:Int),bF (x.2%M)]
theorem uR {M:Nat} {xs:List Nat} (h0:0<M) (h:∀x∈xs,x<M) (i:Nat):xs.getD i 0<M:=by
 rw[List.getD_eq_getElem?_getD];cases hx:xs[i]? with
 |none=>exact h0
 |some x=>exact h x (List.mem_of_getElem? hx)
set_option maxRecDepth 100000 in
theorem AR (F:Fence) (n:Nat) (h8:F.fn 167) (hro:F.round=none) (hn:1≤n) (l Bs:Nat) (A:Option Addr) (len cap:Nat) (xs:List Nat) (M:Nat) (hM0:0<M) (hM:∀x∈xs,x<M) (w:World) (hx:ay w A len cap xs) (J Jx:List (Nat × Nat)→World→Prop)
 (hY:∀pre x W,J pre W→pre.length<len→YieldAt F (n-1) Tryz.prog l (DD M x) W fun e W'=>
  (e= .returned (.bool true)∧J (pre++[x]) W'∧KB w.heap.size Bs W W')∨(e= .returned (.bool false)∧Jx (pre++[x]) W'))
 (W:World) (hbW:aK w W) (hBs:W.cell? ⟨Bs,0,none⟩=some (.slice A len cap)) (h0:J [] W):
 CallsIn F n Tryz.prog 167 #[.func (.yield l) #[] #[], .pointer (some ⟨Bs,0,none⟩)] W fun e W'=>(∃v,e= .returned v) ∧
  ((∃ys,ys=upto (dY xs) len∧J ys W')∨(∃pre,True∧Jx pre W')):=by
 have hcap:=hx.cap;have hlim:=hx.lim;have hlen:=hx.len;have hwd:=hx.wd;have Hx:=Lib.hid hx;have HM:=Lib.hid hM;have Hlen:=Lib.hid hlen;have Hwd:=Lib.hid hwd;clear hx hlen hwd hM;refine callsIn_of_wp func167 rfl h8 ?_ hro
 simp only[ntmps167,List.size_toArray,List.length_cons,List.length_nil,Nat.reduceAdd,Nat.reduceSub,Array.replicate_succ,Array.replicate_zero,List.push_toArray,List.append_toArray,List.nil_append,List.cons_append]
 gi_wp2
 gi_loopw [3] (fun i wr=>∃k:Nat,k≤len∧i= .int .i64 ((len:Int)-1-k)∧J (upto (dY xs) k) wr∧KB w.heap.size Bs W wr)
  (fun i _=>(intOf i+1).toNat)
 case atStart=>exact⟨0,Nat.zero_le _,by go_num,h0,KB.refl _ _ _⟩
 case round=>
  obtain⟨k,hk,rfl,hJs,hnx⟩:=hrel;have hcs:=(hnx.cell 0).trans hBs
  by_cases hlt:k<len
  ·obtain⟨b,off,rfl,hb,hc⟩:=Hx.out.at (by omega)
   have hcx:=(hnx.1.cell (p:=⟨b,off+(len-1-k),none⟩) hb).trans ((hbW.cell (p:=⟨b,off+(len-1-k),none⟩) hb).trans (hc (len-1-k) (by omega)));obtain⟨fn,tmps,assign,body,hy,hR⟩:=hY _ (dY xs k) wr hJs (by rw[oV];exact hlt);have e1:dY xs k=(len-1-k,xs.getD (len-1-k) 0):=by unfold dY;rw[Hlen.out]
   rw[e1]at hy;have e2:((len-1-k:Nat):Int)=(len:Int)-1-k:=by omega
   dsimp only[DD]at hy;rw[e2]at hy;obtain⟨x,hxx⟩:∃x,x=xs.getD (len-1-k) 0:=⟨_,rfl⟩;rw[← hxx]at hy hcx;rw[Nat.mod_eq_of_lt (by rw[hxx];exact uR hM0 HM.out _)]at hy;have g1:(0:Int)≤(len:Int)-1-k:=by omega
   have g2:(len:Int)-1-k<len:=by omega
   have g3:((len:Int)-1-k).toNat=len-1-k:=by omega
   clear e1 e2 hc;have Hxx:=Lib.hid hxx;clear hxx
   gi_wp2
   refine hR.mono ?_;rintro e W3 (⟨rfl,hJ3,hk3⟩| ⟨rfl,hJx3⟩)
   ·gi_wp2
    go_roundw
    case rel=>exact⟨k+1,by omega,by go_num,by rw[oB];exact hJ3,hnx.trans hk3⟩
    case measure=>simp[intOf];omega
   ·gi_wp2
    refine bodyPost_ret (results_none rfl _ _ _) rfl ?_;exact⟨⟨_,rfl⟩, .inr ⟨_,trivial,hJx3⟩⟩
  ·obtain rfl:k=len:=by omega
   have g1:¬((k:Int)≤(k:Int)-1):=by omega
   gi_wp2
   go_end0
   first|exact⟨⟨_,rfl⟩, .inl ⟨_,rfl,hJs⟩⟩|exact⟨⟨_,rfl⟩, .inl hJs⟩
theorem pd (F:Fence) (n:Nat) (h8:F.fn 167) (hro:F.round=none) (hn:1≤n) (Bs:Nat) (A:Option Addr) (len cap:Nat) (xs:List Nat) (M:Nat) (hM0:0<M) (hM:∀x∈xs,x<M) (w0 w:World) (hx:ay w0 A len cap xs) (h0:aK w0 w) (hBs:Bs<w.heap.size) (hc:w.cell? ⟨Bs,0,none⟩=some (.slice A len cap)):
 SeqStopsK F n Tryz.prog 167 #[.pointer (some ⟨Bs,0,none⟩)] (DD M) (KB w0.heap.size Bs) (fun ys=>ys=upto (dY xs) len) (fun _=>True) len w:=fun l J Jx W hW _ _ hY hJ0=>
 AR F n h8 hro hn l Bs A len cap xs M hM0 hM w0 hx J Jx hY W (h0.more hW) ((hW.cell (p:=⟨Bs,0,none⟩) hBs).trans hc) hJ0
end
section
open Go.Shelf Go.RowKit Go.Sort Go.Lib
set_option maxRecDepth 100000 in
theorem rL (u:Nat) (hu64:u<18446744073709551616) (w:World) (htab:Lib.TabIs Tryz.prog w "internal/strconv.uint64pow10" .u64 Lib.pow10Tab):
 Calls Tryz.prog 168 #[.int .u64 u, .int .i64 10] w fun e w'=>e= .returned (.string ⟨(Lib.decDigits u).toArray⟩)∧Below w.heap.size w w':=by
 by_cases hs:u<100
 ·go_enter func168,ntmps168
  go_wp2_with (go_at_call 194;refine(Tryz.internal_strconv_small u hs _).mono ?_;rintro e w' ⟨rfl,rfl⟩)
  go_ret
  exact⟨rfl,Below.refl _ _⟩
 ·have hu1:1≤u:=by omega
  have hnd20:Lib.nDigits u≤20:=by have:=Lib.numDigits_eq u hu1 hu64;split at this<;>omega
  have hal:(Tryz.prog).arrayLen 188=24:=by simp[Program.arrayLen,underlying188]
  have hsl:∀W,(Instr.sliceAt 188 (.pointer (some ⟨w.heap.size,0,none⟩)) none (some (.int .i64 (Lib.nDigits u:Int))) none).run Tryz.prog W= .ok (.slice (some ⟨w.heap.size,0,none⟩) (Lib.nDigits u) 24) W:=fun W=>by
   rw[run_sliceAt_array_h W 188 ⟨w.heap.size,0,none⟩ (by simp[Program.arrayLen,Program.elem,underlying188]) .i64 (Lib.nDigits u:Int) (by omega) (by rw[hal];omega)]
   go_simp
  have hH0:=Lib.holds_zero0 w 188 (Lib.nDigits u) (by omega);have hfmt:=Tryz.internal_strconv_formatBase10 w.heap.size 0 24 u (Array.replicate (Lib.nDigits u) 0) (w.alloc (.cells Lib.zeros24 188)) hH0 (by rw[Array.size_replicate];exact Lib.lt_pow_nDigits u) hu64 (by rw[Array.size_replicate];omega);rw[Array.size_replicate]at hfmt;have HH0:=Lib.hid hH0;have iu:(100:Int)≤(u:Int):=by omega
  clear hH0 hal
  go_enter func168,ntmps168
  go_wp2_with (go_at_call 195;refine(Tryz.internal_strconv_numDigits u hu1 hu64 _ (Lib.tabIs_alloc htab _)).mono ?_;rintro e w' ⟨rfl,rfl⟩)
  go_at_call 196
  refine hfmt.mono ?_;rintro e w' ⟨rfl,k,v',dk,rfl,hF⟩
  have hcv:(convert 50 9 (.slice (some ⟨w.heap.size,0,none⟩) (Lib.nDigits u) 24)).run Tryz.prog ((putRow (fun(b:UInt8)=>Value.int .u8 (b.toNat:Int)) (w.alloc (.cells Lib.zeros24 188)) w.heap.size 0 dk).drewN k)= .ok (.string ⟨(Lib.decDigits u).toArray⟩) ((putRow (fun(b:UInt8)=>Value.int .u8 (b.toNat:Int)) (w.alloc (.cells Lib.zeros24 188)) w.heap.size 0 dk).drewN k):=by
   have h:=run_convert_bytes_back (P:=Tryz.prog) ((putRow (fun(b:UInt8)=>Value.int .u8 (b.toNat:Int)) (w.alloc (.cells Lib.zeros24 188)) w.heap.size 0 dk).drewN k) 50 9 5 ⟨w.heap.size,0,none⟩ 24 (Lib.decDigits u) underlying50 underlying5 underlying9 (fun j hj=>by
    rw[Lib.row_is_numeral hF j hj,Lib.add_plain,World.cell?_drewN];exact cell?_putRow (fun(b:UInt8)=>Value.int .u8 (b.toNat:Int)) _ w.heap.size 0 _ dk HH0.out (by rw[hF.size,Array.size_replicate]) j (by rw[hF.size];rw[Lib.decDigits_length]at hj;exact hj))
   rw[Lib.decDigits_length]at h;exact h
  go_wp2
  go_ret
  obtain⟨os,eo⟩:=Lib.fin_at w (.cells Lib.zeros24 188) dk k 0;exact⟨rfl,by rw[eo];exact Lib.below_grow _ w (Nat.le_refl _) k os⟩
theorem iw (u:Nat) (hu64:u<18446744073709551616) (w:World) (htab:Lib.TabIs Tryz.prog w "internal/strconv.uint64pow10" .u64 Lib.pow10Tab):
 Calls Tryz.prog 142 #[.int .u64 u, .int .i64 10] w fun e w'=>e= .returned (.string ⟨(Lib.decDigits u).toArray⟩)∧Below w.heap.size w w':=by
 go_enter func142,ntmps142
 go_wp2_with (go_at_call 168;refine(rL u hu64 _ htab).mono ?_;rintro e w' ⟨rfl,hb⟩)
 go_ret
 exact⟨rfl,hb⟩
end
section
open Go.Shelf Go.RowKit
theorem wY:((Tryz.prog).info? 52).map (·.size)=some 2:=Tryz.Builder_Extra_169.sizeBuilder
theorem Eu:liesAt Tryz.prog (Tryz.prog).depth 52 (2/(Tryz.prog).cellsOf 52) 0 52 1=true:=by kernel_rfl
theorem qo:((Tryz.prog).info? 5).map (fun i=>(i.zero,i.size,i.bytes))=some (some (.int .u8 0),1,1):=Tryz.Builder_Extra_169.infoByte
set_option maxRecDepth 100000 in
theorem lh (b:Nat) (w:World) (h0:w.cell? ⟨b,0,none⟩=some (.pointer (some ⟨b,0,none⟩))):
 Calls Tryz.prog 85 #[.pointer (some ⟨b,0,none⟩)] w fun e w'=>e= .returned (.tuple #[])∧w'=w:=by
 obtain⟨j,hj,_⟩:=Option.map_eq_some_iff.1 wY
 go_enter func85,ntmps85
 go_wp2
 rw[Lib.run_neq_ptr_same w _ underlying49 hj]
 go_wp2
 go_end0
 exact⟨rfl,rfl⟩
set_option maxRecDepth 100000 in
theorem j8 (b:Nat) (w:World) (h0:w.cell? ⟨b,0,none⟩=some (.pointer none)) (hsh:w.shape? b=some (52,2)) (hfz:w.frozen? ⟨b,0,none⟩=false):
 Calls Tryz.prog 85 #[.pointer (some ⟨b,0,none⟩)] w fun e w'=>e= .returned (.tuple #[])∧w'=w.setCell ⟨b,0,none⟩ (.pointer (some ⟨b,0,none⟩)):=by
 obtain⟨j,hj,hjs⟩:=Option.map_eq_some_iff.1 wY
 go_enter func85,ntmps85
 go_wp2
 rw[Lib.run_to_unsafe w ⟨b,0,none⟩ underlying49 underlying141 hj (by rw[hjs];decide) hsh (Nat.zero_lt_succ 1)]
 simp only[Result.andThen]
 rw[Oper.upon_value]
 go_wp2
 rw[run_callFunc_extern func127 (by kernel_rfl) (by kernel_rfl) (by kernel_rfl) (e:=Extern.AbiNoEscape.same) (by kernel_rfl)];rw[Lib.run_noEscape]
 simp only[Result.andThen]
 rw[Oper.upon_value]
 go_wp2
 rw[Lib.run_from_unsafe w ⟨b,0,none⟩ underlying141 underlying49 hj hsh Eu]
 simp only[Result.andThen]
 rw[Oper.upon_value]
 go_wp2
 go_end0
 exact⟨rfl,rfl⟩
theorem pm (B b:Nat) (bs:List Value) (w:World) (h:Lib.IsBuilderF 52 5 B b bs w):
 Calls Tryz.prog 85 #[.pointer (some ⟨b,0,none⟩)] w fun e w'=>e= .returned (.tuple #[])∧(Lib.BuilderAtF 52 5 B b (.pointer (some ⟨b,0,none⟩)) bs w'∧Below B w w'∧Lib.OthersKept 5 (some b) w w'):=by
 rcases h with h|h
 ·refine(j8 b w h.cell0 h.shape h.frozen0).mono ?_
  rintro e w' ⟨rfl,rfl⟩;exact⟨rfl,h.used _,(Below.refl B w).setCell (p:=⟨b,0,none⟩) h.1 _,(Lib.OthersKept.refl _ _ w).setCell ⟨b,0,none⟩ rfl _⟩
 ·refine(lh b w h.cell0).mono ?_
  rintro e w' ⟨rfl,rfl⟩;exact⟨rfl,h,Below.refl B _,Lib.OthersKept.refl _ _ _⟩
set_option maxRecDepth 100000 in
theorem wM (B b:Nat) (bs:List Value) (c:Int) (w:World) (h:Lib.IsBuilderF 52 5 B b bs w) (hlen:bs.length+1≤140737488355328) (hBw:B≤w.heap.size):
 Calls Tryz.prog 140 #[.pointer (some ⟨b,0,none⟩), .int .u8 c] w fun e w'=>e= .returned .nilIface∧(Lib.BuilderAtF 52 5 B b (.pointer (some ⟨b,0,none⟩)) (bs++[.int .u8 c]) w'∧Below B w w'∧Lib.OthersKept 5 (some b) w w'):=by
 obtain⟨i0,hi,hz0,hz1,hz2⟩:=info_parts qo
 go_enter func140,ntmps140
 go_wp2_with (go_at_call 85;refine(pm B b bs _ h).mono ?_)
 rintro e w1 ⟨rfl,h1,hb1,hk1⟩;obtain⟨hB,v,hbk,hown,hne⟩:=h1;have c0:w1.cell? ⟨b,0,none⟩=some (.pointer (some ⟨b,0,none⟩)):=by rw[Lib.cell_of_heap hbk];rfl
 have c1:w1.cell? ⟨b,1,none⟩=some v:=by rw[Lib.cell_of_heap hbk];rfl
 go_wp2_with (at_builtin;refine wpList_append_ownF _ rfl _ _ 50 rfl B 5 i0 (.int .u8 0) 1 1 underlying50 hi hz0 hz1 hz2 rfl (by decide) _ _ _ rfl (hown.alloc _) ⟨w1.heap.size,0,none⟩ 1 1 [.int .u8 c] rfl rfl ?c1 ?c2 ?c3 ?c4 ?c5 ?_)
 case c1=>
  intro j u hj
  match j,hj with
  |0,hj=>simp at hj;subst hj;simp[Addr.add]
 case c2=>intro u hu;simp at hu;subst hu;rfl
 case c3=>unfold maxLen;omega
 case c4=>omega
 case c5=>have:=hb1.size;simp;omega
 intro v' w2 hown' hgrow _
 have hlt:b<w1.heap.size:=by
  rcases Nat.lt_or_ge b w1.heap.size with h'|h'
  ·exact h'
  ·simp[Array.getElem?_eq_none h']at hbk
 have hb2:w2.heap[b]? =some (.cells #[.pointer (some ⟨b,0,none⟩),v] 52 (0,0)):=by
  rw[hgrow.block b (by simp;omega) (fun e=>hne e.symm),Lib.alloc_old w1 _ b hlt];exact hbk
 have d0:w2.cell? ⟨b,0,none⟩=some (.pointer (some ⟨b,0,none⟩)):=by rw[Lib.cell_of_heap hb2];rfl
 have d1:w2.cell? ⟨b,1,none⟩=some v:=by rw[Lib.cell_of_heap hb2];rfl
 have f1:w2.frozen? ⟨b,1,none⟩=false:=Lib.frozen_of_heap hb2 1
 obtain⟨g,cap,rfl⟩:∃g cap,v'= .slice (some ⟨g,0,none⟩) (bs.length+1) cap:=by
  rcases hown'.2 with⟨_,h0⟩| ⟨g,cap,cur,fz,hv,_⟩
  ·omega
  ·exact⟨g,cap,hv⟩
 go_wp2
 go_ret
 refine⟨rfl,?_,?_,((hk1.alloc _).grown hgrow (Lib.ownsRowF_kind (hown.alloc _))).setCell ⟨b,1,none⟩ rfl _⟩
 ·exact Lib.BuilderAtF.put (T:=52) (e:=5) hB hb2 (bs':=bs++[.int .u8 c]) (by simpa using hown') (by decide)
 ·exact((hb1.alloc (by have:=hb1.size;omega) _).grown hgrow (by have:=hb1.size;simp;omega) (fun k hk=>(hown.lt k hk).1)).setCell (p:=⟨b,1,none⟩) hB _
set_option maxRecDepth 100000 in
theorem ew (B b:Nat) (bs:List Value) (s:ByteArray) (w:World) (h:Lib.IsBuilderF 52 5 B b bs w) (hlen:bs.length+s.size≤140737488355328) (hBw:B≤w.heap.size):
 Calls Tryz.prog 57 #[.pointer (some ⟨b,0,none⟩), .string s] w fun e w'=>e= .returned (.tuple #[.int .i64 s.size, .nilIface])∧(Lib.BuilderAtF 52 5 B b (.pointer (some ⟨b,0,none⟩)) (bs++Lib.strCells s) w'∧Below B w w'∧Lib.OthersKept 5 (some b) w w'):=by
 obtain⟨i0,hi,hz0,hz1,hz2⟩:=info_parts qo
 go_enter func57,ntmps57
 go_wp2_with (go_at_call 85;refine(pm B b bs _ h).mono ?_)
 rintro e w1 ⟨rfl,h1,hb1,hk1⟩;obtain⟨hB,v,hbk,hown,hne⟩:=h1;have c0:w1.cell? ⟨b,0,none⟩=some (.pointer (some ⟨b,0,none⟩)):=by rw[Lib.cell_of_heap hbk];rfl
 have c1:w1.cell? ⟨b,1,none⟩=some v:=by rw[Lib.cell_of_heap hbk];rfl
 go_wp2_with (at_builtin;refine Lib.wpList_append_own_stringF _ rfl _ _ 50 9 rfl B 5 i0 underlying50 underlying9 hi hz0 hz1 hz2 _ _ _ rfl hown s rfl ?c3 ?c4 ?c5 ?_)
 case c3=>unfold maxLen;omega
 case c4=>omega
 case c5=>have:=hb1.size;omega
 intro v' w2 hown' hgrow _
 have hlt:b<w1.heap.size:=by
  rcases Nat.lt_or_ge b w1.heap.size with h'|h'
  ·exact h'
  ·simp[Array.getElem?_eq_none h']at hbk
 have hb2:w2.heap[b]? =some (.cells #[.pointer (some ⟨b,0,none⟩),v] 52 (0,0)):=by
  rw[hgrow.block b hlt (fun e=>hne e.symm)];exact hbk
 have d0:w2.cell? ⟨b,0,none⟩=some (.pointer (some ⟨b,0,none⟩)):=by rw[Lib.cell_of_heap hb2];rfl
 have d1:w2.cell? ⟨b,1,none⟩=some v:=by rw[Lib.cell_of_heap hb2];rfl
 have f1:w2.frozen? ⟨b,1,none⟩=false:=Lib.frozen_of_heap hb2 1
 obtain⟨ao,n',cap,rfl⟩:∃ao n' cap,v'= .slice ao n' cap:=by
  rcases hown'.2 with⟨hv,_⟩| ⟨g,cap,cur,fz,hv,_⟩
  ·exact⟨_,_,_,hv⟩
  ·exact⟨_,_,_,hv⟩
 go_wp2
 go_ret2
 refine⟨rfl,?_,?_,(hk1.grown hgrow (Lib.ownsRowF_kind hown)).setCell ⟨b,1,none⟩ rfl _⟩
 ·exact Lib.BuilderAtF.put (T:=52) (e:=5) hB hb2 (bs':=bs++Lib.strCells s) (by simpa[Lib.strCells_length]using hown') (by decide)
 ·exact(hb1.grown hgrow (by have:=hb1.size;omega) (fun k hk=>(hown.lt k hk).1)).setCell (p:=⟨b,1,none⟩) hB _
end
end Go.Proofs.YtikbnnljjeefgaaGreatDoor
