/- Parts of a proof: contracts of the functions that the laws reach. -/
import Derived.Test.YtnchbpoopnjghaaGreatDoorQZ3
set_option maxHeartbeats 100000000
set_option linter.all false
open Go.Proofs.Tryz
namespace Go.Proofs.YtnchbpoopnjghaaGreatDoor
open Go.RowKit
theorem Lh {q:Rat} {n:Int} {d:Nat} (hd:0<d) (hc:Nat.gcd n.natAbs d=1) (h:n*q.den=q.num*d):q.num=n/\q.den=d:=by
 have hp:(⟨n,d,by omega,hc⟩:Rat)=q:=by
  have h1:=Rat.num_divInt_den (⟨n,d,by omega,hc⟩:Rat);have h2:=Rat.num_divInt_den q;rw[<- h1,<- h2,Rat.divInt_eq_divInt_iff (by show(d:Int)≠0;omega) (by have:=q.den_nz;omega)];exact h
 exact⟨by rw[<- hp],by rw[<- hp]⟩
def gz (n d:Int):Int:=if d<0 then -((Nat.gcd n.natAbs d.natAbs:Nat):Int)else(Nat.gcd n.natAbs d.natAbs:Nat)
theorem zP {n d:Int} (h:d≠0):gz n d≠0:=by
 have:0<Nat.gcd n.natAbs d.natAbs:=Nat.gcd_pos_of_pos_right _ O_
 unfold gz;split <;>omega
theorem qg {a b c:Int} (h:b≠0) (e:a=b*c):a.fdiv b=c:=by rw[e];exact Int.mul_fdiv_cancel_left _ h
theorem mM {n d:Int} (hd:d≠0):n.fdiv (gz n d)=(Rat.divInt n d).num/\d.fdiv (gz n d)=((Rat.divInt n d).den:Int)/\n=gz n d*(Rat.divInt n d).num/\d=gz n d*((Rat.divInt n d).den:Int):=by
 have hg0:=zP (n:=n) hd;obtain⟨a,ha⟩:((Nat.gcd n.natAbs d.natAbs:Nat):Int)∣n:=Int.ofNat_dvd_left.2 (Nat.gcd_dvd_left _ _);obtain⟨b,hb⟩:((Nat.gcd n.natAbs d.natAbs:Nat):Int)∣d:=Int.ofNat_dvd_left.2 (Nat.gcd_dvd_right _ _);have hp:0<Nat.gcd n.natAbs d.natAbs:=Nat.gcd_pos_of_pos_right _ O_
 obtain⟨G,hG⟩:∃G,Nat.gcd n.natAbs d.natAbs=G:=⟨_,rfl⟩;have hG':=hG;rw[hG]at ha hb hp
 have hab:Nat.gcd a.natAbs b.natAbs=1:=by
  rw[ha,hb,Int.natAbs_mul,Int.natAbs_mul,b_,Nat.gcd_mul_left]at hG;exact Nat.eq_of_mul_eq_mul_left hp O_
 obtain⟨s,hs1,hs2⟩:∃s:Int,gz n d=G*s/\(s=1/\0<b∨s= -1/\b<0):=by
  unfold gz;rw[hG'];have hb0:b≠0:=by rintro rfl;simp at hb;omega
  split
  ·refine⟨-1,by omega, .inr ⟨rfl,?_⟩⟩
   rcases Int.lt_trichotomy b 0 with h|h|h
   ·exact h
   ·omega
   ·have:0<(G:Int)*b:=Int.mul_pos O_ h
    omega
  ·refine⟨1,by omega, .inl ⟨rfl,?_⟩⟩
   rcases Int.lt_trichotomy b 0 with h|h|h
   ·have:0<(G:Int)*(-b):=Int.mul_pos O_ O_
    rw[Int.mul_neg]at this;omega
   ·omega
   ·exact h
 have hq:(Rat.divInt n d).num=s*a/\(Rat.divInt n d).den=(s*b).toNat:=by
  refine Lh ?_ ?_ ?_
  ·rcases hs2 with⟨rfl,h⟩| ⟨rfl,h⟩<;>omega
  ·have e:(s*b).toNat=b.natAbs:=by rcases hs2 with⟨rfl,h⟩| ⟨rfl,h⟩<;>omega
   have e2:(s*a).natAbs=a.natAbs:=by rcases hs2 with⟨rfl,h⟩| ⟨rfl,h⟩<;>omega
   rw[e,e2,hab]
  ·have h1:=Rat.num_divInt_den (Rat.divInt n d)
   have h0:((Rat.divInt n d).den:Int)≠0:=by have:=(Rat.divInt n d).den_nz;omega
   have h2:=(Rat.divInt_eq_divInt_iff h0 hd).1 h1
   have h3:((s*b).toNat:Int)=s*b:=by
    have:0<=s*b:=by rcases hs2 with⟨rfl,h⟩| ⟨rfl,h⟩<;>omega
    omega
   rw[h3];generalize(Rat.divInt n d).num=p at *;generalize((Rat.divInt n d).den:Int)=q at *;rw[ha,hb]at h2
   have h4:(G:Int)*(p*b)=G*(a*q):=by
    rw[<- Int.mul_assoc,Int.mul_comm (G:Int) p,Int.mul_assoc,h2,Int.mul_assoc]
   have h5:=Int.eq_of_mul_eq_mul_left O_ h4;rw[Int.mul_assoc,<- h5]
   simp[Int.mul_left_comm,Int.mul_comm]
 have hss:s*s=1:=by rcases hs2 with⟨rfl,_⟩| ⟨rfl,_⟩<;>rfl
 have e1:n=gz n d*(Rat.divInt n d).num:=by
  rw[hs1,hq.1,Int.mul_assoc,<- Int.mul_assoc s s a,hss,Int.one_mul];exact ha
 have e2:d=gz n d*((Rat.divInt n d).den:Int):=by
  have h3:((s*b).toNat:Int)=s*b:=by
   have:0<=s*b:=by rcases hs2 with⟨rfl,h⟩| ⟨rfl,h⟩<;>omega
   omega
  rw[hs1,hq.2,h3,Int.mul_assoc,<- Int.mul_assoc s s b,hss,Int.one_mul];exact hb
 exact⟨qg hg0 e1,qg hg0 e2,e1,e2⟩
theorem rU (q:Rat):Rat.divInt q.num q.den=q:=Rat.num_divInt_den q
theorem bT (q:Rat):0<(q.den:Int):=by have:=q.den_nz;omega
theorem mt (a b:Rat):Rat.divInt (a.num*b.den+b.num*a.den) (a.den*b.den)=a+b:=by
 have h:=Rat.divInt_add_divInt a.num b.num (d₁:=a.den) (d₂:=b.den) (by have:=bT a;omega) (by have:=bT b;omega);rw[Rat.num_divInt_den,Rat.num_divInt_den]at h;exact h.symm
theorem my (a b:Rat):Rat.divInt (a.num*b.num) (a.den*b.den)=a*b:=by
 have h:=Rat.divInt_mul_divInt a.num b.num (d₁:=a.den) (d₂:=b.den);rw[Rat.num_divInt_den,Rat.num_divInt_den]at h;exact h.symm
theorem mA (a b:Rat):Rat.divInt (a.num*b.den) (a.den*b.num)=a/b:=by
 rw[Rat.div_def,Rat.inv_def];have h:=Rat.divInt_mul_divInt a.num b.den (d₁:=a.den) (d₂:=b.num);rw[Rat.num_divInt_den]at h;exact h.symm
theorem sv {q:Rat} {n:Int} (h:q=n):q.num=n/\q.den=1:=by subst h;exact⟨rfl,rfl⟩
theorem ll {q:Rat} (h:q.den=1):q=(q.num:Rat):=Rat.ext rfl h
theorem qL {a b:Rat} (ha:a.den=1) (hb:b.den=1):(a+b).num=a.num+b.num/\(a+b).den=1:=by
 refine sv ?_;rw[ll ha,ll hb]
 simp
theorem ol {a b:Rat} (ha:a.den=1) (hb:b.den=1):(a*b).num=a.num*b.num/\(a*b).den=1:=by
 refine sv ?_;rw[ll ha,ll hb]
 simp
theorem LM {a b:Rat} (h:Nat.gcd a.den b.den=1):(a+b).num=a.num*b.den+b.num*a.den/\(a+b).den=a.den*b.den:=by
 show(Rat.add a b).num=_/\(Rat.add a b).den=_;rw[Rat.add.eq_1,dif_pos h];exact⟨rfl,rfl⟩
theorem ND (n:Int) (d g:Nat) (h1 h2 h3 h4):(Rat.maybeNormalize n d g h1 h2 h3 h4).num=n/g/\(Rat.maybeNormalize n d g h1 h2 h3 h4).den=d/g:=by
 unfold Rat.maybeNormalize
 split
 ·rename_i h;subst h;simp
 ·exact⟨Int.divExact_eq_ediv h1,rfl⟩
theorem Nt {a b:Rat} {g h:Nat} (hg:Nat.gcd a.den b.den=g) (hg1:g≠1) (hh:Nat.gcd (a.num*(b.den/g:Nat)+b.num*(a.den/g:Nat)).natAbs g=h):(a+b).num=(a.num*(b.den/g:Nat)+b.num*(a.den/g:Nat))/h/\(a+b).den=a.den/g*(b.den/h):=by
 subst hg
 have h0:(a+b).num=(a.num*(b.den/Nat.gcd a.den b.den:Nat)+b.num*(a.den/Nat.gcd a.den b.den:Nat))/h/\(a+b).den=a.den/Nat.gcd a.den b.den*b.den/h:=by
  subst hh;show(Rat.add a b).num=_/\(Rat.add a b).den=_;rw[Rat.add.eq_1,dif_neg hg1];exact ND _ _ _ _ _ _ _
 refine⟨h0.1,h0.2.trans ?_⟩;refine Nat.mul_div_assoc _ ?_;rw[<- hh];exact Nat.dvd_trans (Nat.gcd_dvd_right _ _) (Nat.gcd_dvd_right _ _)
theorem Ms (a b:Rat):(a*b).num=(a.num/(Nat.gcd a.num.natAbs b.den:Nat))*(b.num/(Nat.gcd b.num.natAbs a.den:Nat))/\(a*b).den=(a.den/Nat.gcd b.num.natAbs a.den)*(b.den/Nat.gcd a.num.natAbs b.den):=by
 show(Rat.mul a b).num=_/\(Rat.mul a b).den=_;rw[Rat.mul.eq_1]
 simp only[Int.divExact_eq_ediv,Nat.divExact_eq_div]
 exact⟨trivial,trivial⟩
def KQ (q:Rat):Int:=q.num.sign
theorem OT (b:Rat) (h:b≠0):(b⁻¹).num=(if b.num<0 then -(b.den:Int)else b.den)/\((b⁻¹).den:Int)=(if b.num<0 then -b.num else b.num):=by
 have h0:b.num≠0:=fun e=>h (Rat.num_eq_zero.1 e)
 rw[Rat.num_inv,Rat.den_inv,if_neg h0];rcases Int.lt_or_gt_of_ne h0 with h1|h1
 ·rw[if_pos h1,if_pos h1,Int.sign_eq_neg_one_of_neg h1];omega
 ·rw[if_neg O_,if_neg O_,Int.sign_eq_one_of_pos h1];omega
def uM (c:UInt8):Bool:=decide (gv c)
theorem iR {c:UInt8}:uM c=true↔gv c:=decide_eq_true_iff
def fW (t:List UInt8):List UInt8:=t.takeWhile uM
def jL (t:List UInt8):List UInt8:=t.dropWhile uM
theorem rV (t:List UInt8):fW t++jL t=t:=List.takeWhile_append_dropWhile
theorem sj (t:List UInt8):∀c∈fW t,gv c:=fun c hc=>iR.1 (I_.1 (List.all_takeWhile (p:=uM) (l:=t)) c hc)
theorem iY {a b:List UInt8} (h:∀c∈a,gv c):fW (a++b)=a++fW b/\jL (a++b)=jL b:=by
 induction a with
 |nil=>exact⟨rfl,rfl⟩
 |cons x a ih=>
  have hx:=iR.2 (h x S_);obtain⟨h1,h2⟩:=ih (fun c hc=>h c (by simp[hc]));unfold fW jL at *;rw[List.cons_append,List.takeWhile_cons_of_pos hx,List.dropWhile_cons_of_pos hx,h1,h2];exact⟨rfl,rfl⟩
theorem iM {c:UInt8} {b:List UInt8} (h:¬gv c):fW (c::b)=[]/\jL (c::b)=c::b:=by
 have hc:¬uM c=true:=fun e=>h (iR.1 e)
 unfold fW jL;exact⟨List.takeWhile_cons_of_neg hc,List.dropWhile_cons_of_neg hc⟩
theorem FN {a:List UInt8} (h:∀c∈a,gv c):fW a=a/\jL a=[]:=by
 have:=iY (b:=[]) h
 simpa[fW,jL]using this
theorem GB {t:List UInt8} {c:UInt8} {b:List UInt8} (h:jL t=c::b):¬gv c:=by
 intro hc;unfold jL at h;have:=List.head?_dropWhile_not (p:=uM) (l:=t);rw[h]at this
 simp[iR.2 hc]at this
theorem r8 {a:List UInt8} (h:¬∀c∈a,gv c):∃p c r,a=p++c::r/\(∀x∈p,gv x)/\ ¬gv c:=by
 have e:=rV a;cases hr:jL a with
 |nil=>
  rw[hr,c_]at e;exact absurd (fun c hc=>sj a c (by rw[e];exact hc)) h
 |cons c r=>exact⟨fW a,c,r,by rw[<- hr,e],sj a,GB hr⟩
open Classical in
noncomputable def jr (t:List UInt8):Option Rat:=
 if jN false (fW t)then
  match jL t with
  | []=>some ((num (fW t):Int):Rat)
  |c::b=>
   if c=46 then(if b≠[]/\(∀x∈b,gv x)then some (Rat.divInt ((num (fW t)*10^b.length+num b:Nat):Int) ((10^b.length:Nat):Int))else none)
   else if c=47 then(if jN false b/\num b≠0/\num b≠1/\Nat.gcd (num (fW t)) (num b)=1 then some (Rat.divInt (num (fW t):Int) (num b:Int))else none)
   else none
 else none
theorem Tg:¬gv 47:=D_
theorem Wf:¬gv 46:=D_
theorem el {a:List UInt8} (h:jN false a):∀c∈a,gv c:=h.2.1
open Classical in
theorem F2 {a b:List UInt8} (ha:47 ∉ a):jr (a++47::b)=if jN false a/\jN false b/\num b≠0/\num b≠1/\Nat.gcd (num a) (num b)=1 then some (Rat.divInt (num a:Int) (num b:Int))else none:=by
 by_cases h:∀c∈a,gv c
 ·have h1:=iY (b:=47::b) h
  obtain⟨h2,h3⟩:=iM (b:=b) Tg;rw[h2,h3,c_]at h1;unfold jr;rw[h1.1,h1.2]
  by_cases ho:jN false a
  ·rw[if_pos ho]
   dsimp only;rw[if_neg D_,if_pos rfl]
   by_cases hb:jN false b/\num b≠0/\num b≠1/\Nat.gcd (num a) (num b)=1
   ·rw[if_pos hb,if_pos ⟨ho,hb⟩]
   ·rw[if_neg hb,if_neg (fun h=>hb h.2)]
  ·rw[if_neg ho,if_neg (fun h=>ho h.1)]
 ·rw[if_neg (fun e=>h (el e.1))]
  obtain⟨p,c,r,rfl,hp,hc⟩:=r8 h;have h1:=iY (b:=c::(r++47::b)) hp;obtain⟨h2,h3⟩:=iM (b:=r++47::b) hc;rw[h2,h3,c_]at h1;unfold jr;rw[show p++c::r++47::b=p++c::(r++47::b) by simp,h1.1,h1.2]
  split
  ·dsimp only
   split
   ·rw[if_neg (fun e=>Tg (e.2 47 S_))]
   ·rw[if_neg (fun e=>ha (by rw[e];simp))]
  ·rfl
open Classical in
theorem NH {a b:List UInt8} (h47:47 ∉ a++46::b) (ha:46 ∉ a):jr (a++46::b)=if jN false a/\b≠[]/\(∀x∈b,gv x)then some (Rat.divInt ((num a*10^b.length+num b:Nat):Int) ((10^b.length:Nat):Int))else none:=by
 by_cases h:∀c∈a,gv c
 ·have h1:=iY (b:=46::b) h
  obtain⟨h2,h3⟩:=iM (b:=b) Wf;rw[h2,h3,c_]at h1;unfold jr;rw[h1.1,h1.2]
  by_cases ho:jN false a
  ·rw[if_pos ho]
   dsimp only;rw[if_pos rfl]
   by_cases hb:b≠[]/\(∀x∈b,gv x)
   ·rw[if_pos hb,if_pos ⟨ho,hb⟩]
   ·rw[if_neg hb,if_neg (fun h=>hb h.2)]
  ·rw[if_neg ho,if_neg (fun h=>ho h.1)]
 ·rw[if_neg (fun e=>h (el e.1))]
  obtain⟨p,c,r,rfl,hp,hc⟩:=r8 h;have h1:=iY (b:=c::(r++46::b)) hp;obtain⟨h2,h3⟩:=iM (b:=r++46::b) hc;rw[h2,h3,c_]at h1;unfold jr;rw[show p++c::r++46::b=p++c::(r++46::b) by simp,h1.1,h1.2]
  split
  ·dsimp only
   rw[if_neg (fun e=>ha (by rw[e];simp)),if_neg (fun e=>h47 (by rw[e];simp))]
  ·rfl
open Classical in
theorem Jv {a:List UInt8} (h47:47 ∉ a) (h46:46 ∉ a):jr a=if jN false a then some ((num a:Int):Rat)else none:=by
 by_cases h:∀c∈a,gv c
 ·have h1:=FN h
  unfold jr;rw[h1.1,h1.2]
 ·rw[if_neg (fun e=>h (el e))]
  obtain⟨p,c,r,rfl,hp,hc⟩:=r8 h;have h1:=iY (b:=c::r) hp;obtain⟨h2,h3⟩:=iM (b:=r) hc;rw[h2,h3,c_]at h1;unfold jr;rw[h1.1,h1.2]
  split
  ·dsimp only
   rw[if_neg (fun e=>h46 (by rw[e];simp)),if_neg (fun e=>h47 (by rw[e];simp))]
  ·rfl
open Classical in
noncomputable def ge (s:List UInt8):Option Rat:=
 if s.length<=65536 then
  match jr (mK s)with
  |none=>none
  |some q=>if eF s=true then(if q=0 then none else some (-q))else some q
 else none
def BK (n:Nat):List UInt8:=if n=0 then [48]else mE n
theorem Mc (n:Nat):fmt (n:Int)=BK n:=by
 unfold fmt BK
 by_cases h:n=0
 ·subst h;rfl
 ·rw[if_neg O_,if_neg h,if_neg O_,b_];rfl
theorem Gj (z:Int):fmt z=(if z<0 then [45]else [])++BK z.natAbs:=by
 unfold fmt BK
 by_cases h:z=0
 ·subst h;rfl
 ·rw[if_neg h,if_neg (show ¬z.natAbs=0 by omega)]
theorem RY {b:Bool} {l:List UInt8} (h:∀c r,l=c::r->gv c):mK ((if b=true then [45]else [])++l)=l/\eF ((if b=true then [45]else [])++l)=b:=by
 cases b
 ·simp only[Bool.false_eq_true,if_false,List.nil_append]
  cases l with
  |nil=>exact⟨rfl,rfl⟩
  |cons c r=>
   have h1:=h c r rfl;have:(c == 45)=false:=beq_eq_false_iff_ne.2 (fun e=>by subst e;exact absurd h1 D_);exact⟨by show(if(c == 45)=true then r else c::r)=_;rw[this];rfl,this⟩
 ·exact⟨rfl,rfl⟩
def H2 (l:List UInt8):List UInt8:=l.dropWhile (· == 48)
theorem Dz (l:List UInt8):num (H2 l)=num l:=by
 induction l with
 |nil=>rfl
 |cons c l ih=>
  unfold H2 at *
  by_cases h:c=48
  ·subst h;rw[List.dropWhile_cons_of_pos rfl,ih];rfl
  ·rw[List.dropWhile_cons_of_neg (by simpa using h)]
theorem Sq {l:List UInt8} (h:∀c∈l,gv c) (hn:H2 l≠[]):jN false (H2 l):=by
 refine⟨hn,fun c hc=>h c (List.dropWhile_sublist _ |>.subset hc), .inl fun c r e=>?_⟩;have:=List.head?_dropWhile_not (p:=(· == (48:UInt8))) (l:=l);unfold H2 at e;rw[e]at this
 simpa using this
def aQ (q:Rat):List AV:=aZ q.num++aZ q.den
def dQ (q:Rat):DV:= .agg (aQ q)
def ED (na:Bool) (xs:List Nat) (nb:Bool) (ys:List Nat):List AV:=aI na xs++aI nb ys
def Lq (na:Bool) (xs:List Nat) (nb:Bool) (ys:List Nat):DV:= .agg (ED na xs nb ys)
def jq:List AV:=[.val (.bool false), .sl 0 [], .val (.bool false), .sl 0 []]
def GP:DV:= .agg jq
def Sz (k:Nat) (z:Int):Prop:=z.natAbs<4294967296^k
theorem Sz.fit {k:Nat} {z:Int} (h:Sz k z) (hk:k<=2147483648):db z:= .of_lt h hk
theorem Sz.mono {j k:Nat} {z:Int} (h:Sz j z) (hk:j<=k):Sz k z:=k_ h (Nat.pow_le_pow_right D_ hk)
theorem Sz.of_le {k:Nat} {a b:Int} (h:Sz k b) (hl:a.natAbs<=b.natAbs):Sz k a:=Nat.lt_of_le_of_lt hl h
theorem Sz.mul {j k:Nat} {a b:Int} (h:Sz j a) (h':Sz k b):Sz (j+k) (a*b):=by
 unfold Sz at *;rw[Int.natAbs_mul,Nat.pow_add];exact Nat.mul_lt_mul'' h h'
theorem Sz.add {k:Nat} {a b:Int} (h:Sz k a) (h':Sz k b):Sz (k+1) (a+b):=by
 unfold Sz at *;have:=Int.natAbs_add_le a b;have:0<4294967296^k:=Nat.pow_pos D_
 rw[Nat.pow_succ];omega
theorem Sz.neg {k:Nat} {a:Int} (h:Sz k a):Sz k (-a):=by unfold Sz at *;rw[Int.natAbs_neg];exact h
theorem Sz.small {z:Int} (h:z.natAbs<4294967296):Sz 1 z:=by unfold Sz;simpa using h
theorem Sz.i64 {z:Int} (h1: -9223372036854775808<=z) (h2:z<9223372036854775808):Sz 2 z:=by unfold Sz;omega
theorem Sz.gcd {k:Nat} {n d:Int} (h:Sz k d) (hd:d≠0):Sz k (Nat.gcd n.natAbs d.natAbs:Nat):=by
 refine h.of_le ?_;rw[b_];exact Nat.le_of_dvd O_ (Nat.gcd_dvd_right _ _)
theorem Sz.digs {k:Nat} {z:Int} (h:Sz k z):(digs z.natAbs).length<=k:=aS h
theorem Sz.of_digs {k:Nat} {z:Int} (h:(Go.Proofs.YtnchbpoopnjghaaGreatDoor.digs z.natAbs).length<=k):Sz k z:=bX h
def b8 (k:Nat) (q:Rat):Prop:=Sz k q.num/\Sz k q.den
theorem b8.mono {j k:Nat} {q:Rat} (h:b8 j q) (hk:j<=k):b8 k q:=⟨h.1.mono hk,h.2.mono hk⟩
theorem b8.divInt {k:Nat} {n d:Int} (h:Sz k n) (h':Sz k d) (hd:d≠0):b8 k (Rat.divInt n d):=by
 obtain⟨_,_,h1,h2⟩:=mM (n:=n) (d:=d) hd;have hg:0<(gz n d).natAbs:=by have:=zP (n:=n) hd;omega
 refine⟨h.of_le ?_,h'.of_le ?_⟩
 ·conv=>rhs;rw[h1,Int.natAbs_mul]
  exact Nat.le_mul_of_pos_left _ hg
 ·conv=>rhs;rw[h2,Int.natAbs_mul]
  exact Nat.le_mul_of_pos_left _ hg
theorem b8.add {j k:Nat} {a b:Rat} (h:b8 j a) (h':b8 k b):b8 (j+k+1) (a+b):=by
 rw[<- mt];refine .divInt ?_ ((h.2.mul h'.2).mono O_) (by have:=Int.mul_pos (bT a) (bT b);omega);exact Sz.add (h.1.mul h'.2) ((h'.1.mul h.2).mono O_)
theorem b8.neg {k:Nat} {a:Rat} (h:b8 k a):b8 k (-a):=⟨by rw[Rat.neg_num];exact h.1.neg,h.2⟩
theorem b8.mul {j k:Nat} {a b:Rat} (h:b8 j a) (h':b8 k b):b8 (j+k) (a*b):=by
 rw[<- my];exact .divInt (h.1.mul h'.1) (h.2.mul h'.2) (by have:=Int.mul_pos (bT a) (bT b);omega)
theorem b8.div {j k:Nat} {a b:Rat} (h:b8 j a) (h':b8 k b) (hb:b≠0):b8 (j+k) (a/b):=by
 rw[<- mA];have h0:b.num≠0:=fun e=>hb (Rat.num_eq_zero.1 e)
 refine .divInt (h.1.mul h'.2) (h.2.mul h'.1) ?_;exact Int.mul_ne_zero (by have:=bT a;omega) h0
theorem mZ {z:Int}:(!decide (z<0) && decide (digs z.natAbs=[1]))=decide (z=1):=by
 by_cases h:z=1
 ·subst h;rw[show(1:Int).natAbs=1 from rfl,CN D_ D_];rfl
 ·rw[F_ h]
  by_cases hn:z<0
  ·simp[hn]
  ·have:digs z.natAbs≠[1]:=fun e=>by
    have h1:=congrArg val e;rw[ah]at h1
    simp[val]at h1
    omega
   simp[this]
theorem jC {z:Int}:decide (((digs z.natAbs).length:Int)=0)=decide (z=0):=by
 have:=aX (n:=z.natAbs)
 by_cases h:z=0
 ·subst h;rw[T_ rfl];exact T_ (by have:=this.2 rfl;omega)
 ·rw[F_ h];exact F_ (fun e=>h (by have:=this.1 O_;omega))
theorem Ax:aa Tryz.prog 191 [] (.one (dZ 1)):=by
 refine kV func191 ?_;refine ac (d7 1 D_ D_) rfl rfl rfl rfl rfl rfl rfl ?_;exact aj
theorem AO {na:Bool} {xs:List Nat} {b:Bool} (hb:(!na && decide (xs=[1]))=b):aa Tryz.prog 189 [dI na xs] (.one (dB b)):=by
 subst hb;cases na
 ·match xs with
  | []=>
   refine kU func189 ?_;exact aj
  | [x]=>
   refine kV func189 ?_;refine aH (cs':=[AV.val (bZ x)]) (i:=0) (m_ 0) (fun j a h=>by simpa using h) (m_ 0) rfl rfl rfl rfl rfl rfl rfl rfl ?_;refine kW ?_;rw[show(!false && decide ([x]=[1]))=decide ((x:Int)=1) by by_cases h:x=1<;>simp[h]<;>omega];exact bK (T:=TT) rfl rfl
  |x::y::r=>
   refine kU func189 ?_;refine kR ?_;refine kI ?_
   iterate 7 refine kO ?_
   refine kB false ?_ ?_
   ·exact F_ (by simp only[List.length_cons];omega)
   refine kW ?_;rw[show(!false && decide (x::y::r=[1]))=false by simp];exact bK (T:=TT) rfl rfl
 ·refine kU func189 ?_
  exact aj
theorem F7 {na:Bool} {xs:List Nat} {b:Bool} (hb:(!na && decide (xs=[1]))=b):aa Tryz.prog 220 [dI na xs] (.one (dB b)):=by
 subst hb
 match xs with
 | []=>
  refine kV func220 ?_;rw[show(!na && decide (([]:List Nat)=[1]))=false by simp];exact bK (T:=TT) rfl rfl
 | [x]=>
  refine kV func220 ?_;refine aH (cs':=[AV.val (bZ x)]) (i:=0) (m_ 0) (fun j a h=>by simpa using h) (m_ 0) rfl rfl rfl rfl rfl rfl rfl rfl ?_;refine kO ?_
  by_cases h:x=1
  ·refine kT ?_
   refine kW ?_;rw[show(!na && decide ([x]=[1]))=!na by simp[h]];exact bK (T:=TT) rfl rfl
  ·refine kE ?_
   refine kW ?_;rw[show(!na && decide ([x]=[1]))=false by simp[h]];exact bK (T:=TT) rfl rfl
 |x::y::r=>
  refine kU func220 ?_;refine yz ?_;refine kB false ?_ ?_
  ·exact F_ (by simp only[List.length_cons];omega)
  refine kW ?_;rw[show(!na && decide (x::y::r=[1]))=false by simp];exact bK (T:=TT) rfl rfl
theorem bF {z:Int} {b:Bool} (hb:decide (z=1)=b):aa Tryz.prog 189 [dZ z] (.one (dB b)):=AO (by rw[mZ,hb])
theorem bP {z:Int} {b:Bool} (hb:decide (z=1)=b):aa Tryz.prog 220 [dZ z] (.one (dB b)):=F7 (by rw[mZ,hb])
theorem dj {z:Int} {b:Bool} (hb:decide (z=0)=b):aa Tryz.prog 298 [dZ z] (.one (dB b)):=by
 refine kV func298 ?_;rw[<- hb,<- jC];exact bK (T:=TT) rfl rfl
theorem mF {a b c:Int} (h1:db a) (h2:db b) (hb:b≠0) (h:a.fdiv b=c):aa Tryz.prog 261 [dZ a,dZ b] (.one (dZ c)):=by
 by_cases h1':b=1
 ·subst h1'
  rw[Int.fdiv_one]at h;subst h;refine kV func261 ?_;refine kC (bF (z:=1) (b:=true) rfl) ?_;exact aj
 ·refine kV func261 ?_;refine kQ (bF (z:=b) (b:=false) (F_ h1')) ?_;refine kC (wi h1 h2 hb h rfl) ?_;exact aj
theorem di {a b c:Int} (h1:db a) (h2:db b) (hb:b≠0) (h:a.fdiv b=c):aa Tryz.prog 225 [dZ a,dZ b] (.one (dZ c)):=by
 refine kV func225 ?_;refine kC (uF h1 h2 hb h rfl) ?_;exact aj
theorem IR {n d:Int} {g:Nat} (hg:Nat.gcd n.natAbs d.natAbs=g) (h:¬d<0):gz n d=g:=by unfold gz;rw[if_neg h,hg]
theorem JX {n d:Int} {g:Nat} (hg:Nat.gcd n.natAbs d.natAbs=g) (h:d<0):gz n d= -(g:Int):=by unfold gz;rw[if_pos h,hg]
theorem f4 {k:Nat} {n d:Int} {q:Rat} (h1:Sz k n) (h2:Sz k d) (hk:k<=2147483648) (hd:d≠0) (hq:Rat.divInt n d=q):aa Tryz.prog 193 [dZ n,dZ d] (.one (dQ q)):=by
 subst hq;obtain⟨e1,e2,_,_⟩:=mM (n:=n) hd;have hg0:=zP (n:=n) hd;have hsg:=h2.gcd (n:=n) hd;obtain⟨g,hg⟩:∃g,Nat.gcd n.natAbs d.natAbs=g:=⟨_,rfl⟩;rw[hg]at hsg
 by_cases h:d<0
 ·rw[JX hg h]at e1 e2 hg0
  refine kV func193 ?_;refine kQ (lA (h1.fit hk) (h2.fit hk) hg) ?_;refine eE (T:=TT) rfl ?_ ?_
  ·exact T_ h
  refine kW ?_;refine kQ (u9 (hsg.fit hk)) ?_;refine kQ (mF (h1.fit hk) (hsg.neg.fit hk) hg0 e1) ?_;refine kC (mF (h2.fit hk) (hsg.neg.fit hk) hg0 e2) ?_;exact aj
 ·rw[IR hg h]at e1 e2 hg0
  refine kV func193 ?_;refine kQ (lA (h1.fit hk) (h2.fit hk) hg) ?_;refine d4 (T:=TT) rfl ?_ ?_
  ·exact F_ h
  refine kW ?_;refine kQ (mF (h1.fit hk) (hsg.fit hk) hg0 e1) ?_;refine kC (mF (h2.fit hk) (hsg.fit hk) hg0 e2) ?_;exact aj
theorem CI {k:Nat} {n d:Int} {q:Rat} (h1:Sz k n) (h2:Sz k d) (hk:k<=2147483648) (hd:d≠0) (hq:Rat.divInt n d=q):aa Tryz.prog 262 [dZ n,dZ d] (.one (dQ q)):=by
 subst hq;obtain⟨e1,e2,_,_⟩:=mM (n:=n) hd;have hg0:=zP (n:=n) hd;have hsg:=h2.gcd (n:=n) hd;obtain⟨g,hg⟩:∃g,Nat.gcd n.natAbs d.natAbs=g:=⟨_,rfl⟩;rw[hg]at hsg
 by_cases h:d<0
 ·rw[JX hg h]at e1 e2 hg0
  have hs:aa Tryz.prog 100 [dZ d] (.one (dN .i64 (-1))):=by have:=f7 d;rwa[Int.sign_eq_neg_one_of_neg h]at this
  refine N1 ?_;refine kQ (jd g) ?_;refine kQ (di (h1.fit hk) (hsg.neg.fit hk) hg0 e1) ?_;refine kC (di (h2.fit hk) (hsg.neg.fit hk) hg0 e2) ?_;exact aj
 ·rw[IR hg h]at e1 e2 hg0
  have hs:aa Tryz.prog 100 [dZ d] (.one (dN .i64 1)):=by have:=f7 d;rwa[Int.sign_eq_one_of_pos O_]at this
  refine N1 ?_;refine kQ (di (h1.fit hk) (hsg.fit hk) hg0 e1) ?_;refine kC (di (h2.fit hk) (hsg.fit hk) hg0 e2) ?_;exact aj
theorem Sz.of_val {na:Bool} {xs:List Nat} {n:Int} {k:Nat} (hw:Wd xs) (h:xs.length<=k) (hn:bI na xs=n):Sz k n:=by
 rw[<- hn];unfold Sz;rw[eY];exact k_ (fq hw) (Nat.pow_le_pow_right D_ h)
theorem FY {na nb:Bool} {xs ys:List Nat} {n d:Int} {q:Rat} (hw:Wd xs) (hw':Wd ys) (h1:xs.length<=1000) (h2:ys.length<=1000) (hn:bI na xs=n) (hd:bI nb ys=d) (h0:d≠0) (hq:Rat.divInt n d=q):aa Tryz.prog 297 [dI na xs,dI nb ys] (.tup [dQ q,dN .i64 0]):=by
 have s1:Sz 1000 n:=Sz.of_val hw h1 hn;have s2:Sz 1000 d:=Sz.of_val hw' h2 hd;refine OW ?_;refine kQ (dj (F_ h0)) ?_;refine ac (f4 s1 s2 D_ h0 hq) rfl rfl rfl rfl rfl rfl rfl ?_;exact aj
theorem CB {na nb:Bool} {xs ys:List Nat} {n d:Int} (hw:Wd xs) (hw':Wd ys) (h1:xs.length<=1000) (h2:ys.length<=1000) (hn:bI na xs=n) (hd:bI nb ys=d) (h0:d=0):aa Tryz.prog 297 [dI na xs,dI nb ys] (.tup [GP,dN .i64 6]):=by
 refine OW ?_;refine kC (dj (T_ h0)) ?_;exact aj
theorem BI {n d:Int} {q:Rat} (h1:Sz 1000 n) (h2:Sz 1000 d) (h0:d≠0) (hq:Rat.divInt n d=q):aa Tryz.prog 297 [dZ n,dZ d] (.tup [dQ q,dN .i64 0]):=
 FY (ae _) (ae _) h1.digs h2.digs (aV n) (aV d) h0 hq
theorem jD (k:Int) (h1: -9223372036854775808<=k) (h2:k<9223372036854775808) {q:Rat} (hq:(k:Rat)=q):aa Tryz.prog 135 [dN .i64 k] (.one (dQ q)):=by
 subst hq;refine kV func135 ?_;refine kC (d7 k h1 h2) ?_;exact y8
theorem eh (k:Int) (h1: -9223372036854775808<=k) (h2:k<9223372036854775808) {q:Rat} (hq:(k:Rat)=q):aa Tryz.prog 36 [dN .i64 k] (.one (dQ q)):=by
 subst hq;refine kV func36 ?_;refine kQ (ej k h1 h2) ?_;refine ac (ej 1 D_ D_) rfl rfl rfl rfl rfl rfl rfl ?_;exact aj
theorem og (n:Int):Rat.divInt n 0=((0:Int):Rat):=S_
theorem iJ (n d:Int) (h1: -9223372036854775808<=n) (h2:n<9223372036854775808) (h3: -9223372036854775808<=d) (h4:d<9223372036854775808) {q:Rat} (hq:Rat.divInt n d=q):aa Tryz.prog 253 [dN .i64 n,dN .i64 d] (.one (dQ q)):=by
 by_cases h0:d=0
 ·refine O5 ?_
  refine ac (CB (na:=decide (n<0)) (nb:=decide (d<0)) (ae _) (ae _) ((Sz.i64 h1 h2).mono (k:=1000) D_).digs ((Sz.i64 h3 h4).mono (k:=1000) D_).digs (aV n) (aV d) h0) rfl rfl rfl rfl rfl rfl rfl ?_;refine kW ?_;refine ac (jD 0 D_ D_ (q:=q) (by subst h0;rw[<- og n];exact hq)) rfl rfl rfl rfl rfl rfl rfl ?_;exact aj
 ·refine O5 ?_
  refine ac (BI ((Sz.i64 h1 h2).mono D_) ((Sz.i64 h3 h4).mono D_) h0 hq) rfl rfl rfl rfl rfl rfl rfl ?_;exact aj
theorem tt (n d:Int) (h1: -9223372036854775808<=n) (h2:n<9223372036854775808) (h3: -9223372036854775808<=d) (h4:d<9223372036854775808) {q:Rat} (hq:Rat.divInt n d=q):aa Tryz.prog 195 [dN .i64 n,dN .i64 d] (.one (dQ q)):=by
 by_cases h0:d=0
 ·subst h0
  refine kV func195 ?_;refine ac (eh 0 D_ D_ (q:=q) (by rw[<- og n];exact hq)) rfl rfl rfl rfl rfl rfl rfl ?_;exact aj
 ·refine kV func195 ?_;refine d4 (T:=TT) rfl ?_ ?_
  ·exact F_ h0
  refine kW ?_;refine kQ (ej n h1 h2) ?_;refine kQ (ej d h3 h4) ?_;refine ac (CI (Sz.i64 h1 h2) (Sz.i64 h3 h4) D_ h0 hq) rfl rfl rfl rfl rfl rfl rfl ?_;exact aj
theorem Ad {k:Nat} {a q:Rat} (h:b8 k a) (hk:k<=2147483648) (hq: -a=q):aa Tryz.prog 254 [dQ a] (.one (dQ q)):=by
 subst hq;refine kV func254 ?_;refine kC (u9 (h.1.fit hk)) ?_;exact aj
theorem FE {a q:Rat} (hq: -a=q):aa Tryz.prog 197 [dQ a] (.one (dQ q)):=by
 subst hq;refine kV func197 ?_;refine kC (jd a.num) ?_;exact aj
theorem oO (a:Rat):aa Tryz.prog 97 [dQ a] (.one (dN .i64 (KQ a))):=by
 refine kV func97 ?_;refine kC (Ba a.num) ?_;exact aj
theorem mn (a:Rat):aa Tryz.prog 58 [dQ a] (.one (dN .i64 (KQ a))):=by
 refine kV func58 ?_;refine kC (f7 a.num) ?_;exact aj
theorem lV {q:Rat} {n d:Int} (h1:q.num=n) (h2:(q.den:Int)=d):dQ q= .agg (aZ n++aZ d):=by unfold dQ aQ;rw[h1,h2]
theorem K7 (a:Rat):decide ((a.den:Int)=1)=decide (a.den=1):=by by_cases h:a.den=1<;>simp[h]<;>omega
theorem nW {a:Rat} (h:a.den=1):decide ((a.den:Int)=1)=true:=by rw[K7];exact T_ h
theorem nH {a:Rat} (h:¬a.den=1):decide ((a.den:Int)=1)=false:=by rw[K7];exact F_ h
theorem zq {z:Int} (h:z=0):decide (((digs z.natAbs).length:Int)=0)=true:=jC.trans (T_ h)
theorem sG {z:Int} (h:¬z=0):decide (((digs z.natAbs).length:Int)=0)=false:=jC.trans (F_ h)
theorem mG (a:Int) (g:Nat):a.fdiv g=a/g:=Int.fdiv_eq_ediv_of_nonneg _ O_
theorem nO (a g:Nat):(a:Int).fdiv g=((a/g:Nat):Int):=by rw[mG];rfl
theorem nV {j k:Nat} {a b q:Rat} (h:b8 j a) (h':b8 k b) (hk:j+k+1<=2147483648) (hq:a+b=q):aa Tryz.prog 134 [dQ a,dQ b] (.one (dQ q)):=by
 subst hq;have d0:(a.den:Int)*b.den≠0:=by have:=Int.mul_pos (bT a) (bT b);omega
 by_cases ha:a.den=1
 ·by_cases hb:b.den=1
  ·rw[lV (qL ha hb).1 (d:=1) (by rw[(qL ha hb).2];rfl)]
   refine kU func134 ?_;refine D7 ?_;refine kQ (bF (nW hb)) ?_;refine ac (oV (h.1.fit O_) (h'.1.fit O_)) rfl rfl rfl rfl rfl rfl rfl ?_;exact y8
  ·refine kU func134 ?_
   refine D7 ?_;refine kC (bF (nH hb)) ?_;refine U6 ?_;exact aj
 ·refine kV func134 ?_;refine kC (bF (nH ha)) ?_;refine U6 ?_;exact aj
theorem mT {j k:Nat} {a b q:Rat} (h:b8 j a) (h':b8 k b) (hk:j+k<=2147483648) (hq:a*b=q):aa Tryz.prog 176 [dQ a,dQ b] (.one (dQ q)):=by
 subst hq;have d0:(a.den:Int)*b.den≠0:=by have:=Int.mul_pos (bT a) (bT b);omega
 by_cases ha:a.den=1
 ·by_cases hb:b.den=1
  ·rw[lV (ol ha hb).1 (d:=1) (by rw[(ol ha hb).2];rfl)]
   refine kU func176 ?_;refine D7 ?_;refine kQ (bF (nW hb)) ?_;refine ac (dM (h.1.fit O_) (h'.1.fit O_)) rfl rfl rfl rfl rfl rfl rfl ?_;exact y8
  ·refine kU func176 ?_
   refine D7 ?_;refine kC (bF (nH hb)) ?_;refine Oo ?_;exact aj
 ·refine kV func176 ?_;refine kC (bF (nH ha)) ?_;refine Oo ?_;exact aj
theorem AB {j k:Nat} {a b q:Rat} (h:b8 j a) (h':b8 k b) (hk:j+k<=2147483648) (hb:b≠0) (hq:a/b=q):aa Tryz.prog 256 [dQ a,dQ b] (.tup [dQ q,dN .i64 0]):=by
 subst hq;have h0:b.num≠0:=fun e=>hb (Rat.num_eq_zero.1 e)
 refine kV func256 ?_;refine kQ (dj (F_ h0)) ?_;refine ac (dM (h.1.fit O_) (h'.2.fit O_)) rfl rfl rfl rfl rfl rfl rfl ?_;refine kW ?_;refine ac (dM (h.2.fit O_) (h'.1.fit O_)) rfl rfl rfl rfl rfl rfl rfl ?_;refine kW ?_;refine ac (f4 (h.1.mul h'.2) (h.2.mul h'.1) hk (Int.mul_ne_zero (by have:=bT a;omega) h0) (mA a b)) rfl rfl rfl rfl rfl rfl rfl ?_;exact aj
theorem Ft {a b:Rat} (hb:b=0):aa Tryz.prog 256 [dQ a,dQ b] (.tup [GP,dN .i64 6]):=by
 refine kV func256 ?_;refine kC (dj (T_ (Rat.num_eq_zero.2 hb))) ?_;exact aj
theorem FW {j k:Nat} {a b q:Rat} (h:b8 j a) (h':b8 k b) (hk:j+k+1<=2147483648) (hq:a+b=q):aa Tryz.prog 198 [dQ a,dQ b] (.one (dQ q)):=by
 subst hq
 by_cases ha0:a.num=0
 ·have e:a+b=b:=by rw[Rat.num_eq_zero.1 ha0];exact Rat.zero_add b
  rw[e];refine kV func198 ?_;refine eE (T:=TT) rfl ?_ ?_
  ·exact zq ha0
  exact aj
 by_cases hb0:b.num=0
 ·have e:a+b=a:=by rw[Rat.num_eq_zero.1 hb0];exact Rat.add_zero a
  rw[e];refine kV func198 ?_;refine d4 (T:=TT) rfl ?_ ?_
  ·exact sG ha0
  refine kW ?_;refine eE (T:=TT) rfl ?_ ?_
  ·exact zq hb0
  exact aj
 obtain⟨g,hg⟩:∃g,Nat.gcd a.den b.den=g:=⟨_,rfl⟩;have hgz:Nat.gcd (a.den:Int).natAbs (b.den:Int).natAbs=g:=by rw[b_,b_];exact hg
 have hg0:0<g:=by rw[<- hg];exact Nat.gcd_pos_of_pos_right _ (Nat.pos_of_ne_zero b.den_nz)
 have sg:Sz k g:=by rw[<- hgz];exact h'.2.gcd (by have:=bT b;omega)
 by_cases hab:a.den=1/\b.den=1
 ·rw[lV (qL hab.1 hab.2).1 (d:=a.den) (by rw[(qL hab.1 hab.2).2,hab.1])]
  refine JW ?_;refine kQ (bP (nW hab.1)) ?_;refine kQ (bP (nW hab.2)) ?_;refine ac (jf (h.1.fit O_) (h'.1.fit O_)) rfl rfl rfl rfl rfl rfl rfl ?_;exact aj
 by_cases hg1:g=1
 ·have e:=LM (hg.trans hg1)
  rw[lV e.1 (d:=a.den*b.den) (by rw[e.2];rfl)];refine JW ?_
  by_cases ha:a.den=1
  ·have hb:¬b.den=1:=fun e=>hab ⟨ha,e⟩
   refine kQ (bP (nW ha)) ?_;refine kC (bP (nH hb)) ?_;refine Uj ?_;exact aj
  ·refine kC (bP (nH ha)) ?_
   refine Uj ?_;exact aj
 ·have ha:¬a.den=1:=fun e=>hg1 (by rw[<- hg,e,Nat.gcd_one_left])
  obtain⟨x,hx⟩:∃x,a.den/g=x:=⟨_,rfl⟩;obtain⟨y,hy⟩:∃y,b.den/g=y:=⟨_,rfl⟩;have sx:Sz j x:=h.2.of_le (by rw[<- hx,b_,b_];exact Nat.div_le_self _ _);have sy:Sz k y:=h'.2.of_le (by rw[<- hy,b_,b_];exact Nat.div_le_self _ _);obtain⟨n,hn⟩:∃n,a.num*(y:Int)+b.num*(x:Int)=n:=⟨_,rfl⟩;have sn:Sz (j+k+1) n:=by rw[<- hn];exact(h.1.mul sy).add ((h'.1.mul sx).mono O_)
  obtain⟨t,ht⟩:∃t,Nat.gcd n.natAbs g=t:=⟨_,rfl⟩;have ht0:0<t:=by rw[<- ht];exact Nat.gcd_pos_of_pos_right _ hg0
  have htz:Nat.gcd n.natAbs (g:Int).natAbs=t:=by rw[b_];exact ht
  have st:Sz k t:=by rw[<- htz];exact sg.gcd O_
  have e:=Nt (a:=a) (b:=b) hg hg1 (h:=t) (by rw[hx,hy,hn];exact ht);rw[hx,hy,hn]at e;rw[lV e.1 (d:=x*(b.den/t:Nat)) (by rw[e.2];rfl)];have sz:Sz k (b.den/t:Nat):=h'.2.of_le (by rw[b_,b_];exact Nat.div_le_self _ _);refine JW ?_;refine kC (bP (nH ha)) ?_;refine Oa ?_;refine ac (bP (F_ O_)) rfl rfl rfl rfl rfl rfl rfl ?_;refine kW ?_;refine ac (di (h.2.fit O_) (sg.fit O_) O_ ((nO _ _).trans (congrArg _ hx))) rfl rfl rfl rfl rfl rfl rfl ?_;refine kW ?_;refine ac (di (h'.2.fit O_) (sg.fit O_) O_ ((nO _ _).trans (congrArg _ hy))) rfl rfl rfl rfl rfl rfl rfl ?_;refine kW ?_;refine ac (dt (h.1.fit O_) (sy.fit O_)) rfl rfl rfl rfl rfl rfl rfl ?_
  refine kW ?_;refine ac (dt (h'.1.fit O_) (sx.fit O_)) rfl rfl rfl rfl rfl rfl rfl ?_;refine kW ?_;refine ac ((hn ▸ jf ((h.1.mul sy).fit O_) ((h'.1.mul sx).fit O_))) rfl rfl rfl rfl rfl rfl rfl ?_;refine kW ?_;refine ac (gN (sn.fit O_) (sg.fit O_) htz) rfl rfl rfl rfl rfl rfl rfl ?_;refine kW ?_;refine ac (di (sn.fit O_) (st.fit O_) O_ (mG _ _)) rfl rfl rfl rfl rfl rfl rfl ?_;refine kW ?_;refine ac (di (h'.2.fit O_) (st.fit O_) O_ (nO _ _)) rfl rfl rfl rfl rfl rfl rfl ?_;refine kW ?_;refine ac (dt (sx.fit O_) (sz.fit O_)) rfl rfl rfl rfl rfl rfl rfl ?_;exact aj
theorem lj {j k:Nat} {a b q:Rat} (h:b8 j a) (h':b8 k b) (hk:j+k<=2147483648) (hq:a*b=q):aa Tryz.prog 158 [dQ a,dQ b] (.one (dQ q)):=by
 subst hq
 by_cases ha0:a.num=0
 ·have e:a*b=0:=by rw[Rat.num_eq_zero.1 ha0];exact Rat.zero_mul b
  refine kU func158 ?_;refine zp ?_;refine kB true ?_ ?_
  ·exact zq ha0
  exact Ql
 by_cases hb0:b.num=0
 ·have e:a*b=0:=by rw[Rat.num_eq_zero.1 hb0];exact Rat.mul_zero a
  refine JF ?_;refine kB true ?_ ?_
  ·exact zq hb0
  exact Ql
 by_cases hab:a.den=1/\b.den=1
 ·rw[lV (ol hab.1 hab.2).1 (d:=a.den) (by rw[(ol hab.1 hab.2).2,hab.1])]
  refine JF ?_;refine kB false ?_ ?_
  ·exact sG hb0
  refine kW ?_;refine kQ (bP (nW hab.1)) ?_;refine kQ (bP (nW hab.2)) ?_;refine ac (dt (h.1.fit O_) (h'.1.fit O_)) rfl rfl rfl rfl rfl rfl rfl ?_;exact aj
 have e:=Ms a b;obtain⟨g,hg⟩:∃g,Nat.gcd a.num.natAbs b.den=g:=⟨_,rfl⟩;obtain⟨t,ht⟩:∃t,Nat.gcd b.num.natAbs a.den=t:=⟨_,rfl⟩;rw[hg,ht]at e;have hgz:Nat.gcd a.num.natAbs (b.den:Int).natAbs=g:=by rw[b_];exact hg
 have htz:Nat.gcd b.num.natAbs (a.den:Int).natAbs=t:=by rw[b_];exact ht
 have hg0:0<g:=by rw[<- hg];exact Nat.gcd_pos_of_pos_right _ (Nat.pos_of_ne_zero b.den_nz)
 have ht0:0<t:=by rw[<- ht];exact Nat.gcd_pos_of_pos_right _ (Nat.pos_of_ne_zero a.den_nz)
 have sg:Sz k g:=by rw[<- hgz];exact h'.2.gcd (by have:=bT b;omega)
 have st:Sz j t:=by rw[<- htz];exact h.2.gcd (by have:=bT a;omega)
 have s1:Sz j (a.num/g):=h.1.of_le (Int.natAbs_ediv_le_natAbs _ _);have s2:Sz k (b.num/t):=h'.1.of_le (Int.natAbs_ediv_le_natAbs _ _);have s3:Sz j (a.den/t:Nat):=h.2.of_le (by rw[b_,b_];exact Nat.div_le_self _ _);have s4:Sz k (b.den/g:Nat):=h'.2.of_le (by rw[b_,b_];exact Nat.div_le_self _ _);rw[lV e.1 (d:=(a.den/t:Nat)*(b.den/g:Nat)) (by rw[e.2];rfl)];refine JF ?_;refine kB false ?_ ?_
 ·exact sG hb0
 refine kW ?_
 by_cases ha:a.den=1
 ·have hb:¬b.den=1:=fun e=>hab ⟨ha,e⟩
  refine kQ (bP (nW ha)) ?_;refine kC (bP (nH hb)) ?_;refine Th ?_;exact aj
 ·refine kC (bP (nH ha)) ?_
  refine Th ?_;exact aj
theorem Gf {b q:Rat} (hb:b≠0) (hq:b⁻¹=q):aa Tryz.prog 265 [dQ b] (.one (dQ q)):=by
 subst hq;obtain⟨e1,e2⟩:=OT b hb
 by_cases hn:b.num<0
 ·rw[if_pos hn]at e1 e2
  rw[lV e1 e2];refine kV func265 ?_;refine eE (T:=TT) rfl ?_ ?_
  ·exact T_ hn
  refine kW ?_;refine kQ (jd b.den) ?_;refine kC (jd b.num) ?_;exact aj
 ·rw[if_neg hn]at e1 e2
  rw[lV e1 e2];refine kV func265 ?_;refine d4 (T:=TT) rfl ?_ ?_
  ·exact F_ hn
  exact aj
theorem b8.inv {k:Nat} {b:Rat} (h:b8 k b) (hb:b≠0):b8 k b⁻¹:=by
 obtain⟨e1,e2⟩:=OT b hb;unfold b8;rw[e1,e2]
 split
 ·exact⟨h.2.neg,h.1.neg⟩
 ·exact⟨h.2,h.1⟩
theorem vU {j k:Nat} {a b q:Rat} (h:b8 j a) (h':b8 k b) (hk:j+k<=2147483648) (hb:b≠0) (hq:a/b=q):aa Tryz.prog 199 [dQ a,dQ b] (.tup [dQ q,dN .i64 0]):=by
 subst hq;have h0:¬b.num=0:=fun e=>hb (Rat.num_eq_zero.1 e)
 refine kV func199 ?_;refine d4 (T:=TT) rfl ?_ ?_
 ·exact sG h0
 refine kW ?_;refine kQ (Gf hb rfl) ?_;refine kC (lj h (h'.inv hb) hk (Rat.div_def a b).symm) ?_;exact aj
theorem Ck {a b:Rat} (hb:b=0):aa Tryz.prog 199 [dQ a,dQ b] (.tup [GP,dN .i64 6]):=by
 refine kV func199 ?_;refine eE (T:=TT) rfl ?_ ?_
 ·exact zq (Rat.num_eq_zero.2 hb)
 exact aj
section
open Go.RowKit Go.Shelf
attribute [local go_sem] Oper.semAt_some
abbrev Iu (M:Nat) (x:Nat × Nat):Array Value:= #[.int .i64 (x.1:Int),bZ (x.2%M)]
theorem wF {M:Nat} {xs:List Nat} (h0:0<M) (h:∀x∈xs,x<M) (i:Nat):xs.getD i 0<M:=by
 rw[H_];cases hx:xs[i]? with
 |none=>exact h0
 |some x=>exact h x (M_ hx)
set_option maxRecDepth 100000 in
theorem Fs (F:Fence) (n:Nat) (h8:F.fn 286) (hro:F.round=none) (hn:1<=n) (l Bs:Nat) (A:Option Addr) (len cap:Nat) (xs:List Nat) (M:Nat) (hM0:0<M) (hM:∀x∈xs,x<M) (w:World) (hx:bi w A len cap xs) (J Jx:List (Nat × Nat)->World->Prop)
 (hY:∀pre x W,J pre W->pre.length<len->YieldAt F (n-1) Tryz.prog l (Iu M x) W fun e W'=>
  (e= .returned (.bool true)/\J (pre++[x]) W'/\KB w.heap.size Bs W W')∨(e= .returned (.bool false)/\Jx (pre++[x]) W'))
 (W:World) (hbW:f9 w W) (hBs:W.cell? ⟨Bs,0,none⟩=some (.slice A len cap)) (h0:J [] W):
 CallsIn F n Tryz.prog 286 #[.func (.yield l) #[] #[], .pointer (some ⟨Bs,0,none⟩)] W fun e W'=>(∃v,e= .returned v) /\
  ((∃ys,ys=upto (dH xs) len/\J ys W')∨(∃pre,True/\Jx pre W')):=by
 have hcap:=hx.cap;have hlim:=hx.lim;have hlen:=hx.len;have hwd:=hx.wd;have Hx:=Lib.hid hx;have HM:=Lib.hid hM;have Hlen:=Lib.hid hlen;have Hwd:=Lib.hid hwd;clear hx hlen hwd hM;refine callsIn_of_wp func286 rfl h8 ?_ hro
 simp only[ntmps286,List.size_toArray,List.length_cons,List.length_nil,Nat.reduceAdd,Nat.reduceSub,Array.replicate_succ,Array.replicate_zero,List.push_toArray,List.append_toArray,List.nil_append,List.cons_append]
 gi_wp2
 gi_loopw [3] (fun i wr=>∃k:Nat,k<=len/\i= .int .i64 ((len:Int)-1-k)/\J (upto (dH xs) k) wr/\KB w.heap.size Bs W wr)
  (fun i _=>(intOf i+1).toNat)
 case atStart=>exact⟨0,Nat.zero_le _,by go_num,h0,KB.refl _ _ _⟩
 case round=>
  obtain⟨k,hk,rfl,hJs,hnx⟩:=hrel;have hcs:=(hnx.cell 0).trans hBs
  by_cases hlt:k<len
  ·obtain⟨b,off,rfl,hb,hc⟩:=Hx.out.at O_
   have hcx:=(hnx.1.cell (p:=⟨b,off+(len-1-k),none⟩) hb).trans ((hbW.cell (p:=⟨b,off+(len-1-k),none⟩) hb).trans (hc (len-1-k) O_));obtain⟨fn,tmps,assign,body,hy,hR⟩:=hY _ (dH xs k) wr hJs (by rw[pM];exact hlt);have e1:dH xs k=(len-1-k,xs.getD (len-1-k) 0):=by unfold dH;rw[Hlen.out]
   rw[e1]at hy;have e2:((len-1-k:Nat):Int)=(len:Int)-1-k:=O_
   dsimp only[Iu]at hy;rw[e2]at hy;obtain⟨x,hxx⟩:∃x,x=xs.getD (len-1-k) 0:=⟨_,rfl⟩;rw[<- hxx]at hy hcx;rw[Nat.mod_eq_of_lt (by rw[hxx];exact wF hM0 HM.out _)]at hy;have g1:(0:Int)<=(len:Int)-1-k:=O_
   have g2:(len:Int)-1-k<len:=O_
   have g3:((len:Int)-1-k).toNat=len-1-k:=O_
   clear e1 e2 hc;have Hxx:=Lib.hid hxx;clear hxx
   gi_wp2
   refine hR.mono ?_;rintro e W3 (⟨rfl,hJ3,hk3⟩| ⟨rfl,hJx3⟩)
   ·gi_wp2
    go_roundw
    case rel=>exact⟨k+1,by omega,by go_num,by rw[oK];exact hJ3,hnx.trans hk3⟩
    case measure=>simp[intOf];omega
   ·gi_wp2
    refine bodyPost_ret (results_none rfl _ _ _) rfl ?_;exact⟨⟨_,rfl⟩, .inr ⟨_,trivial,hJx3⟩⟩
  ·obtain rfl:k=len:=O_
   have g1:¬((k:Int)<=(k:Int)-1):=O_
   gi_wp2
   go_end0
   first|exact⟨⟨_,rfl⟩, .inl ⟨_,rfl,hJs⟩⟩|exact⟨⟨_,rfl⟩, .inl hJs⟩
theorem pG (F:Fence) (n:Nat) (h8:F.fn 286) (hro:F.round=none) (hn:1<=n) (Bs:Nat) (A:Option Addr) (len cap:Nat) (xs:List Nat) (M:Nat) (hM0:0<M) (hM:∀x∈xs,x<M) (w0 w:World) (hx:bi w0 A len cap xs) (h0:f9 w0 w) (hBs:Bs<w.heap.size) (hc:w.cell? ⟨Bs,0,none⟩=some (.slice A len cap)):
 SeqStopsK F n Tryz.prog 286 #[.pointer (some ⟨Bs,0,none⟩)] (Iu M) (KB w0.heap.size Bs) (fun ys=>ys=upto (dH xs) len) (fun _=>True) len w:=fun l J Jx W hW _ _ hY hJ0=>
 Fs F n h8 hro hn l Bs A len cap xs M hM0 hM w0 hx J Jx hY W (h0.more hW) ((hW.cell (p:=⟨Bs,0,none⟩) hBs).trans hc) hJ0
end
section
open Go.Shelf Go.RowKit Go.Sort Go.Lib
set_option maxRecDepth 100000 in
theorem uU (u:Nat) (hu64:u<18446744073709551616) (w:World) (htab:Lib.TabIs Tryz.prog w "internal/strconv.uint64pow10" .u64 Lib.pow10Tab):
 Calls Tryz.prog 287 #[.int .u64 u, .int .i64 10] w fun e w'=>e= .returned (.string ⟨(Lib.decDigits u).toArray⟩)/\Below w.heap.size w w':=by
 by_cases hs:u<100
 ·go_enter func287,ntmps287
  go_wp2_with (go_at_call 200;refine(Tryz.internal_strconv_small u hs _).mono ?_;rintro e w' ⟨rfl,rfl⟩)
  go_ret
  exact⟨rfl,Below.refl _ _⟩
 ·have hu1:1<=u:=O_
  have hnd20:Lib.nDigits u<=20:=by have:=Lib.numDigits_eq u hu1 hu64;split at this<;>omega
  have hal:(Tryz.prog).arrayLen 209=24:=by simp[Program.arrayLen,underlying209]
  have hsl:∀W,(Instr.sliceAt 209 (.pointer (some ⟨w.heap.size,0,none⟩)) none (some (.int .i64 (Lib.nDigits u:Int))) none).run Tryz.prog W= .ok (.slice (some ⟨w.heap.size,0,none⟩) (Lib.nDigits u) 24) W:=fun W=>by
   rw[run_sliceAt_array_h W 209 ⟨w.heap.size,0,none⟩ (by simp[Program.arrayLen,Program.elem,underlying209]) .i64 (Lib.nDigits u:Int) O_ (by rw[hal];omega)]
   go_simp
  have hH0:=Lib.holds_zero0 w 209 (Lib.nDigits u) O_;have hfmt:=Tryz.internal_strconv_formatBase10 w.heap.size 0 24 u (Array.replicate (Lib.nDigits u) 0) (w.alloc (.cells Lib.zeros24 209)) hH0 (by rw[Array.size_replicate];exact Lib.lt_pow_nDigits u) hu64 (by rw[Array.size_replicate];omega);rw[Array.size_replicate]at hfmt;have HH0:=Lib.hid hH0;have iu:(100:Int)<=(u:Int):=O_
  clear hH0 hal
  go_enter func287,ntmps287
  go_wp2_with (go_at_call 201;refine(Tryz.internal_strconv_numDigits u hu1 hu64 _ (Lib.tabIs_alloc htab _)).mono ?_;rintro e w' ⟨rfl,rfl⟩)
  go_at_call 202
  refine hfmt.mono ?_;rintro e w' ⟨rfl,k,v',dk,rfl,hF⟩
  have hcv:(convert 137 9 (.slice (some ⟨w.heap.size,0,none⟩) (Lib.nDigits u) 24)).run Tryz.prog ((putRow (fun(b:UInt8)=>Value.int .u8 (b.toNat:Int)) (w.alloc (.cells Lib.zeros24 209)) w.heap.size 0 dk).drewN k)= .ok (.string ⟨(Lib.decDigits u).toArray⟩) ((putRow (fun(b:UInt8)=>Value.int .u8 (b.toNat:Int)) (w.alloc (.cells Lib.zeros24 209)) w.heap.size 0 dk).drewN k):=by
   have h:=run_convert_bytes_back (P:=Tryz.prog) ((putRow (fun(b:UInt8)=>Value.int .u8 (b.toNat:Int)) (w.alloc (.cells Lib.zeros24 209)) w.heap.size 0 dk).drewN k) 137 9 5 ⟨w.heap.size,0,none⟩ 24 (Lib.decDigits u) underlying137 underlying5 underlying9 (fun j hj=>by
    rw[Lib.row_is_numeral hF j hj,Lib.add_plain,World.cell?_drewN];exact cell?_putRow (fun(b:UInt8)=>Value.int .u8 (b.toNat:Int)) _ w.heap.size 0 _ dk HH0.out (by rw[hF.size,Array.size_replicate]) j (by rw[hF.size];rw[Lib.decDigits_length]at hj;exact hj))
   rw[Lib.decDigits_length]at h;exact h
  go_wp2
  go_ret
  obtain⟨os,eo⟩:=Lib.fin_at w (.cells Lib.zeros24 209) dk k 0;exact⟨rfl,by rw[eo];exact Lib.below_grow _ w (l_ _) k os⟩
theorem gK (u:Nat) (hu64:u<18446744073709551616) (w:World) (htab:Lib.TabIs Tryz.prog w "internal/strconv.uint64pow10" .u64 Lib.pow10Tab):
 Calls Tryz.prog 239 #[.int .u64 u, .int .i64 10] w fun e w'=>e= .returned (.string ⟨(Lib.decDigits u).toArray⟩)/\Below w.heap.size w w':=by
 go_enter func239,ntmps239
 go_wp2_with (go_at_call 287;refine(uU u hu64 _ htab).mono ?_;rintro e w' ⟨rfl,hb⟩)
 go_ret
 exact⟨rfl,hb⟩
end
section
open Go.Shelf Go.RowKit
theorem Ao:((Tryz.prog).info? 139).map (·.size)=some 2:=Tryz.Builder_Extra_169.sizeBuilder
theorem Kr:liesAt Tryz.prog (Tryz.prog).depth 139 (2/(Tryz.prog).cellsOf 139) 0 139 1=true:=by kernel_rfl
theorem tG:((Tryz.prog).info? 5).map (fun i=>(i.zero,i.size,i.bytes))=some (some (.int .u8 0),1,1):=Tryz.Builder_Extra_169.infoByte
set_option maxRecDepth 100000 in
theorem jY (b:Nat) (w:World) (h0:w.cell? ⟨b,0,none⟩=some (.pointer (some ⟨b,0,none⟩))):
 Calls Tryz.prog 145 #[.pointer (some ⟨b,0,none⟩)] w fun e w'=>e= .returned (.tuple #[])/\w'=w:=by
 obtain⟨j,hj,_⟩:=Option.map_eq_some_iff.1 Ao
 go_enter func145,ntmps145
 go_wp2
 rw[Lib.run_neq_ptr_same w _ underlying136 hj]
 go_wp2
 go_end0
 exact⟨rfl,rfl⟩
set_option maxRecDepth 100000 in
theorem jF (b:Nat) (w:World) (h0:w.cell? ⟨b,0,none⟩=some (.pointer none)) (hsh:w.shape? b=some (139,2)) (hfz:w.frozen? ⟨b,0,none⟩=false):
 Calls Tryz.prog 145 #[.pointer (some ⟨b,0,none⟩)] w fun e w'=>e= .returned (.tuple #[])/\w'=w.setCell ⟨b,0,none⟩ (.pointer (some ⟨b,0,none⟩)):=by
 obtain⟨j,hj,hjs⟩:=Option.map_eq_some_iff.1 Ao
 go_enter func145,ntmps145
 go_wp2
 rw[Lib.run_to_unsafe w ⟨b,0,none⟩ underlying136 underlying214 hj (by rw[hjs];decide) hsh (Z_ 1)]
 simp only[Result.andThen]
 rw[Oper.upon_value]
 go_wp2
 rw[run_callFunc_extern func204 (by kernel_rfl) (by kernel_rfl) (by kernel_rfl) (e:=Extern.AbiNoEscape.same) (by kernel_rfl)];rw[Lib.run_noEscape]
 simp only[Result.andThen]
 rw[Oper.upon_value]
 go_wp2
 rw[Lib.run_from_unsafe w ⟨b,0,none⟩ underlying214 underlying136 hj hsh Kr]
 simp only[Result.andThen]
 rw[Oper.upon_value]
 go_wp2
 go_end0
 exact⟨rfl,rfl⟩
theorem pK (B b:Nat) (bs:List Value) (w:World) (h:Lib.IsBuilderF 139 5 B b bs w):
 Calls Tryz.prog 145 #[.pointer (some ⟨b,0,none⟩)] w fun e w'=>e= .returned (.tuple #[])/\(Lib.BuilderAtF 139 5 B b (.pointer (some ⟨b,0,none⟩)) bs w'/\Below B w w'/\Lib.OthersKept 5 (some b) w w'):=by
 rcases h with h|h
 ·refine(jF b w h.cell0 h.shape h.frozen0).mono ?_
  rintro e w' ⟨rfl,rfl⟩;exact⟨rfl,h.used _,(Below.refl B w).setCell (p:=⟨b,0,none⟩) h.1 _,(Lib.OthersKept.refl _ _ w).setCell ⟨b,0,none⟩ rfl _⟩
 ·refine(jY b w h.cell0).mono ?_
  rintro e w' ⟨rfl,rfl⟩;exact⟨rfl,h,Below.refl B _,Lib.OthersKept.refl _ _ _⟩
set_option maxRecDepth 100000 in
theorem zn (B b:Nat) (bs:List Value) (c:Int) (w:World) (h:Lib.IsBuilderF 139 5 B b bs w) (hlen:bs.length+1<=140737488355328) (hBw:B<=w.heap.size):
 Calls Tryz.prog 237 #[.pointer (some ⟨b,0,none⟩), .int .u8 c] w fun e w'=>e= .returned .nilIface/\(Lib.BuilderAtF 139 5 B b (.pointer (some ⟨b,0,none⟩)) (bs++[.int .u8 c]) w'/\Below B w w'/\Lib.OthersKept 5 (some b) w w'):=by
 obtain⟨i0,hi,hz0,hz1,hz2⟩:=info_parts tG
 go_enter func237,ntmps237
 go_wp2_with (go_at_call 145;refine(pK B b bs _ h).mono ?_)
 rintro e w1 ⟨rfl,h1,hb1,hk1⟩;obtain⟨hB,v,hbk,hown,hne⟩:=h1;have c0:w1.cell? ⟨b,0,none⟩=some (.pointer (some ⟨b,0,none⟩)):=by rw[Lib.cell_of_heap hbk];rfl
 have c1:w1.cell? ⟨b,1,none⟩=some v:=by rw[Lib.cell_of_heap hbk];rfl
 go_wp2_with (at_builtin;refine wpList_append_ownF _ rfl _ _ 137 rfl B 5 i0 (.int .u8 0) 1 1 underlying137 hi hz0 hz1 hz2 rfl D_ _ _ _ rfl (hown.alloc _) ⟨w1.heap.size,0,none⟩ 1 1 [.int .u8 c] rfl rfl ?c1 ?c2 ?c3 ?c4 ?c5 ?_)
 case c1=>
  intro j u hj
  match j,hj with
  |0,hj=>simp at hj;subst hj;simp[Addr.add]
 case c2=>intro u hu;simp at hu;subst hu;rfl
 case c3=>unfold maxLen;omega
 case c4=>omega
 case c5=>have:=hb1.size;simp;omega
 intro v' w2 hown' hgrow _
 have hlt:b<w1.heap.size:=by
  exact PL
 have hb2:w2.heap[b]? =some (.cells #[.pointer (some ⟨b,0,none⟩),v] 139 (0,0)):=by
  rw[hgrow.block b (by simp;omega) (fun e=>hne e.symm),Lib.alloc_old w1 _ b hlt];exact hbk
 have d0:w2.cell? ⟨b,0,none⟩=some (.pointer (some ⟨b,0,none⟩)):=by rw[Lib.cell_of_heap hb2];rfl
 have d1:w2.cell? ⟨b,1,none⟩=some v:=by rw[Lib.cell_of_heap hb2];rfl
 have f1:w2.frozen? ⟨b,1,none⟩=false:=Lib.frozen_of_heap hb2 1
 obtain⟨g,cap,rfl⟩:∃g cap,v'= .slice (some ⟨g,0,none⟩) (bs.length+1) cap:=by
  rcases hown'.2 with⟨_,h0⟩| ⟨g,cap,cur,fz,hv,_⟩
  ·omega
  ·exact⟨g,cap,hv⟩
 go_wp2
 go_ret
 refine⟨rfl,?_,?_,((hk1.alloc _).grown hgrow (Lib.ownsRowF_kind (hown.alloc _))).setCell ⟨b,1,none⟩ rfl _⟩
 ·exact Lib.BuilderAtF.put (T:=139) (e:=5) hB hb2 (bs':=bs++[.int .u8 c]) (by simpa using hown') D_
 ·exact((hb1.alloc (by have:=hb1.size;omega) _).grown hgrow (by have:=hb1.size;simp;omega) (fun k hk=>(hown.lt k hk).1)).setCell (p:=⟨b,1,none⟩) hB _
set_option maxRecDepth 100000 in
theorem eg (B b:Nat) (bs:List Value) (s:ByteArray) (w:World) (h:Lib.IsBuilderF 139 5 B b bs w) (hlen:bs.length+s.size<=140737488355328) (hBw:B<=w.heap.size):
 Calls Tryz.prog 103 #[.pointer (some ⟨b,0,none⟩), .string s] w fun e w'=>e= .returned (.tuple #[.int .i64 s.size, .nilIface])/\(Lib.BuilderAtF 139 5 B b (.pointer (some ⟨b,0,none⟩)) (bs++Lib.strCells s) w'/\Below B w w'/\Lib.OthersKept 5 (some b) w w'):=by
 obtain⟨i0,hi,hz0,hz1,hz2⟩:=info_parts tG
 go_enter func103,ntmps103
 go_wp2_with (go_at_call 145;refine(pK B b bs _ h).mono ?_)
 rintro e w1 ⟨rfl,h1,hb1,hk1⟩;obtain⟨hB,v,hbk,hown,hne⟩:=h1;have c0:w1.cell? ⟨b,0,none⟩=some (.pointer (some ⟨b,0,none⟩)):=by rw[Lib.cell_of_heap hbk];rfl
 have c1:w1.cell? ⟨b,1,none⟩=some v:=by rw[Lib.cell_of_heap hbk];rfl
 go_wp2_with (at_builtin;refine Lib.wpList_append_own_stringF _ rfl _ _ 137 9 rfl B 5 i0 underlying137 underlying9 hi hz0 hz1 hz2 _ _ _ rfl hown s rfl ?c3 ?c4 ?c5 ?_)
 case c3=>unfold maxLen;omega
 case c4=>omega
 case c5=>have:=hb1.size;omega
 intro v' w2 hown' hgrow _
 have hlt:b<w1.heap.size:=by
  exact PL
 have hb2:w2.heap[b]? =some (.cells #[.pointer (some ⟨b,0,none⟩),v] 139 (0,0)):=by
  rw[hgrow.block b hlt (fun e=>hne e.symm)];exact hbk
 have d0:w2.cell? ⟨b,0,none⟩=some (.pointer (some ⟨b,0,none⟩)):=by rw[Lib.cell_of_heap hb2];rfl
 have d1:w2.cell? ⟨b,1,none⟩=some v:=by rw[Lib.cell_of_heap hb2];rfl
 have f1:w2.frozen? ⟨b,1,none⟩=false:=Lib.frozen_of_heap hb2 1
 obtain⟨ao,n',cap,rfl⟩:∃ao n' cap,v'= .slice ao n' cap:=by
  rcases hown'.2 with⟨hv,_⟩| ⟨g,cap,cur,fz,hv,_⟩
  ·exact⟨_,_,_,hv⟩
  ·exact⟨_,_,_,hv⟩
 go_wp2
 go_ret2
 refine⟨rfl,?_,?_,(hk1.grown hgrow (Lib.ownsRowF_kind hown)).setCell ⟨b,1,none⟩ rfl _⟩
 ·exact Lib.BuilderAtF.put (T:=139) (e:=5) hB hb2 (bs':=bs++Lib.strCells s) (by simpa[Lib.strCells_length]using hown') D_
 ·exact(hb1.grown hgrow (by have:=hb1.size;omega) (fun k hk=>(hown.lt k hk).1)).setCell (p:=⟨b,1,none⟩) hB _
end
end Go.Proofs.YtnchbpoopnjghaaGreatDoor
