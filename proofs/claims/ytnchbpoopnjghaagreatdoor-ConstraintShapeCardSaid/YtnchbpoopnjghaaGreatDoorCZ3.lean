/- Parts of a proof: contracts of the functions that the laws reach. -/
import Derived.Test.YtnchbpoopnjghaaGreatDoorCZ2
set_option maxHeartbeats 100000000
set_option maxRecDepth 100000
set_option linter.all false
open Go.Proofs.Tryz
namespace Go.Proofs.YtnchbpoopnjghaaGreatDoor
open Go.RowKit
theorem kL {a b:Int} (h1:iV a) (h2:iV b) {g:Nat} (hg:Nat.gcd a.natAbs b.natAbs=g):aa Tryz.prog 231 [dZ a,dZ b] (.one (dZ g)):=by
 have:=x6 (na:=decide (a<0)) (nb:=decide (b<0)) (aH a.natAbs) (aH b.natAbs) h1 h2;rw[az,az,hg]at this;exact this
theorem vr {a b q r:Int} (h1:iV a) (h2:iV b) (h0:b≠0) (hq:a.fdiv b=q) (hr:a.fmod b=r):aa Tryz.prog 299 [dZ a,dZ b] (.tup [dZ q,dZ r,dN .i64 0]):=
 xy (aH _) (aH _) h1 h2 (by rw[bA];exact h0) (by rw[bA,bA];exact hq) (by rw[bA,bA];exact hr)
theorem DY {a:Int} {k K:Nat} (hk:k<=4096) (hK:K<=2147483648) (hb:(max 1 a.natAbs)^k<4294967296^K) (h1:iV a) {z:Int} (hz:a^k=z):aa Tryz.prog 357 [dZ a,dN .i64 k] (.tup [dZ z,dN .i64 0]):=
 ⟨av func357 rfl rfl,fun S w vs hS hv=>by
  match vs,hv with
  | [v,u],⟨h,h3,_⟩=>
   obtain rfl:=aT h3;have:=PX v _ _ k K w (zT h) hk hK (by rw[az];exact hb) h1;rw[bA,hz]at this;exact this.mono fun e w' he=>Ow hS he⟩
theorem F7 {q:Rat} {n:Int} {d:Nat} (hd:0<d) (hc:Nat.gcd n.natAbs d=1) (h:n*q.den=q.num*d):q.num=n/\q.den=d:=by
 have hp:(⟨n,d,by omega,hc⟩:Rat)=q:=by
  have h1:=Rat.num_divInt_den (⟨n,d,by omega,hc⟩:Rat);have h2:=Rat.num_divInt_den q;rw[<- h1,<- h2,Rat.divInt_eq_divInt_iff (by show(d:Int)≠0;omega) (by have:=q.den_nz;omega)];exact h
 exact⟨by rw[<- hp],by rw[<- hp]⟩
def gz (n d:Int):Int:=if d<0 then -((Nat.gcd n.natAbs d.natAbs:Nat):Int)else(Nat.gcd n.natAbs d.natAbs:Nat)
theorem Gp {n d:Int} (h:d≠0):gz n d≠0:=by
 have:0<Nat.gcd n.natAbs d.natAbs:=Nat.gcd_pos_of_pos_right _ (by omega)
 unfold gz;split <;>omega
theorem oA {a b c:Int} (h:b≠0) (e:a=b*c):a.fdiv b=c:=by rw[e];exact Int.mul_fdiv_cancel_left _ h
theorem xI {n d:Int} (hd:d≠0):n.fdiv (gz n d)=(Rat.divInt n d).num/\d.fdiv (gz n d)=((Rat.divInt n d).den:Int)/\n=gz n d*(Rat.divInt n d).num/\d=gz n d*((Rat.divInt n d).den:Int):=by
 have hg0:=Gp (n:=n) hd;obtain⟨a,ha⟩:((Nat.gcd n.natAbs d.natAbs:Nat):Int)∣n:=Int.ofNat_dvd_left.2 (Nat.gcd_dvd_left _ _);obtain⟨b,hb⟩:((Nat.gcd n.natAbs d.natAbs:Nat):Int)∣d:=Int.ofNat_dvd_left.2 (Nat.gcd_dvd_right _ _);have hp:0<Nat.gcd n.natAbs d.natAbs:=Nat.gcd_pos_of_pos_right _ (by omega)
 obtain⟨G,hG⟩:∃G,Nat.gcd n.natAbs d.natAbs=G:=⟨_,rfl⟩;have hG':=hG;rw[hG]at ha hb hp
 have hab:Nat.gcd a.natAbs b.natAbs=1:=by
  rw[ha,hb,Int.natAbs_mul,Int.natAbs_mul,Int.natAbs_natCast,Nat.gcd_mul_left]at hG;exact Nat.eq_of_mul_eq_mul_left hp (by omega)
 obtain⟨s,hs1,hs2⟩:∃s:Int,gz n d=G*s/\(s=1/\0<b∨s= -1/\b<0):=by
  unfold gz;rw[hG'];have hb0:b≠0:=by rintro rfl;simp at hb;omega
  split
  ·refine⟨-1,by omega, .inr ⟨rfl,?_⟩⟩
   rcases Int.lt_trichotomy b 0 with h|h|h
   ·exact h
   ·omega
   ·have:0<(G:Int)*b:=Int.mul_pos (by omega) h
    omega
  ·refine⟨1,by omega, .inl ⟨rfl,?_⟩⟩
   rcases Int.lt_trichotomy b 0 with h|h|h
   ·have:0<(G:Int)*(-b):=Int.mul_pos (by omega) (by omega)
    rw[Int.mul_neg]at this;omega
   ·omega
   ·exact h
 have hq:(Rat.divInt n d).num=s*a/\(Rat.divInt n d).den=(s*b).toNat:=by
  refine F7 ?_ ?_ ?_
  ·rcases hs2 with⟨rfl,h⟩| ⟨rfl,h⟩<;>omega
  ·have e:(s*b).toNat=b.natAbs:=by rcases hs2 with⟨rfl,h⟩| ⟨rfl,h⟩<;>omega
   have e2:(s*a).natAbs=a.natAbs:=by rcases hs2 with⟨rfl,h⟩| ⟨rfl,h⟩<;>omega
   rw[e,e2,hab]
  ·have h1:=Rat.num_divInt_den (Rat.divInt n d)
   have h0:((Rat.divInt n d).den:Int)≠0:=by have:=(Rat.divInt n d).den_nz;omega
   have h2:=(Rat.divInt_eq_divInt_iff h0 hd).1 h1
   have h3:((s*b).toNat:Int)=s*b:=by
    have:0<=s*b:=by rcases hs2 with⟨rfl,h⟩| ⟨rfl,h⟩<;>omega
    omega
   rw[h3];generalize(Rat.divInt n d).num=p at *;generalize((Rat.divInt n d).den:Int)=q at *;rw[ha,hb]at h2
   have h4:(G:Int)*(p*b)=G*(a*q):=by
    rw[<- Int.mul_assoc,Int.mul_comm (G:Int) p,Int.mul_assoc,h2,Int.mul_assoc]
   have h5:=Int.eq_of_mul_eq_mul_left (by omega) h4;rw[Int.mul_assoc,<- h5]
   simp[Int.mul_left_comm,Int.mul_comm]
 have hss:s*s=1:=by rcases hs2 with⟨rfl,_⟩| ⟨rfl,_⟩<;>rfl
 have e1:n=gz n d*(Rat.divInt n d).num:=by
  rw[hs1,hq.1,Int.mul_assoc,<- Int.mul_assoc s s a,hss,Int.one_mul];exact ha
 have e2:d=gz n d*((Rat.divInt n d).den:Int):=by
  have h3:((s*b).toNat:Int)=s*b:=by
   have:0<=s*b:=by rcases hs2 with⟨rfl,h⟩| ⟨rfl,h⟩<;>omega
   omega
  rw[hs1,hq.2,h3,Int.mul_assoc,<- Int.mul_assoc s s b,hss,Int.one_mul];exact hb
 exact⟨oA hg0 e1,oA hg0 e2,e1,e2⟩
theorem qx (q:Rat):Rat.divInt q.num q.den=q:=Rat.num_divInt_den q
theorem du (q:Rat):0<(q.den:Int):=by have:=q.den_nz;omega
theorem qF (a b:Rat):Rat.divInt (a.num*b.den+b.num*a.den) (a.den*b.den)=a+b:=by
 have h:=Rat.divInt_add_divInt a.num b.num (d₁:=a.den) (d₂:=b.den) (by have:=du a;omega) (by have:=du b;omega);rw[Rat.num_divInt_den,Rat.num_divInt_den]at h;exact h.symm
theorem rL (a b:Rat):Rat.divInt (a.num*b.num) (a.den*b.den)=a*b:=by
 have h:=Rat.divInt_mul_divInt a.num b.num (d₁:=a.den) (d₂:=b.den);rw[Rat.num_divInt_den,Rat.num_divInt_den]at h;exact h.symm
theorem rh (a b:Rat):Rat.divInt (a.num*b.den) (a.den*b.num)=a/b:=by
 rw[Rat.div_def,Rat.inv_def];have h:=Rat.divInt_mul_divInt a.num b.den (d₁:=a.den) (d₂:=b.num);rw[Rat.num_divInt_den]at h;exact h.symm
theorem rK {q:Rat} {n:Int} (h:q=n):q.num=n/\q.den=1:=by subst h;exact⟨rfl,rfl⟩
theorem kd {q:Rat} (h:q.den=1):q=(q.num:Rat):=Rat.ext rfl h
theorem B0 {a b:Rat} (ha:a.den=1) (hb:b.den=1):(a+b).num=a.num+b.num/\(a+b).den=1:=by
 refine rK ?_;rw[kd ha,kd hb]
 simp
theorem xv {a b:Rat} (ha:a.den=1) (hb:b.den=1):(a*b).num=a.num*b.num/\(a*b).den=1:=by
 refine rK ?_;rw[kd ha,kd hb]
 simp
def PR (q:Rat):Int:=q.num.sign
def sF (c:UInt8):Bool:=decide (fS c)
theorem iC {c:UInt8}:sF c=true↔fS c:=decide_eq_true_iff
def fB (t:List UInt8):List UInt8:=t.takeWhile sF
def jr (t:List UInt8):List UInt8:=t.dropWhile sF
theorem qD (t:List UInt8):fB t++jr t=t:=List.takeWhile_append_dropWhile
theorem q7 (t:List UInt8):∀c∈fB t,fS c:=fun c hc=>iC.1 (List.all_eq_true.1 (List.all_takeWhile (p:=sF) (l:=t)) c hc)
theorem iA {a b:List UInt8} (h:∀c∈a,fS c):fB (a++b)=a++fB b/\jr (a++b)=jr b:=by
 induction a with
 |nil=>exact⟨rfl,rfl⟩
 |cons x a ih=>
  have hx:=iC.2 (h x (by simp));obtain⟨h1,h2⟩:=ih (fun c hc=>h c (by simp[hc]));unfold fB jr at *;rw[List.cons_append,List.takeWhile_cons_of_pos hx,List.dropWhile_cons_of_pos hx,h1,h2];exact⟨rfl,rfl⟩
theorem io {c:UInt8} {b:List UInt8} (h:¬fS c):fB (c::b)=[]/\jr (c::b)=c::b:=by
 have hc:¬sF c=true:=fun e=>h (iC.1 e)
 unfold fB jr;exact⟨List.takeWhile_cons_of_neg hc,List.dropWhile_cons_of_neg hc⟩
theorem D5 {a:List UInt8} (h:∀c∈a,fS c):fB a=a/\jr a=[]:=by
 have:=iA (b:=[]) h
 simpa[fB,jr]using this
theorem Em {t:List UInt8} {c:UInt8} {b:List UInt8} (h:jr t=c::b):¬fS c:=by
 intro hc;unfold jr at h;have:=List.head?_dropWhile_not (p:=sF) (l:=t);rw[h]at this
 simp[iC.2 hc]at this
theorem pT {a:List UInt8} (h:¬∀c∈a,fS c):∃p c r,a=p++c::r/\(∀x∈p,fS x)/\ ¬fS c:=by
 have e:=qD a;cases hr:jr a with
 |nil=>
  rw[hr,List.append_nil]at e;exact absurd (fun c hc=>q7 a c (by rw[e];exact hc)) h
 |cons c r=>exact⟨fB a,c,r,by rw[<- hr,e],q7 a,Em hr⟩
open Classical in
noncomputable def je (t:List UInt8):Option Rat:=
 if jq false (fB t)then
  match jr t with
  | []=>some ((num (fB t):Int):Rat)
  |c::b=>
   if c=46 then(if b≠[]/\(∀x∈b,fS x)then some (Rat.divInt ((num (fB t)*10^b.length+num b:Nat):Int) ((10^b.length:Nat):Int))else none)
   else if c=47 then(if jq false b/\num b≠0/\num b≠1/\Nat.gcd (num (fB t)) (num b)=1 then some (Rat.divInt (num (fB t):Int) (num b:Int))else none)
   else none
 else none
theorem Qi:¬fS 47:=by decide
theorem SQ:¬fS 46:=by decide
theorem dt {a:List UInt8} (h:jq false a):∀c∈a,fS c:=h.2.1
open Classical in
theorem DQ {a b:List UInt8} (ha:47 ∉ a):je (a++47::b)=if jq false a/\jq false b/\num b≠0/\num b≠1/\Nat.gcd (num a) (num b)=1 then some (Rat.divInt (num a:Int) (num b:Int))else none:=by
 by_cases h:∀c∈a,fS c
 ·have h1:=iA (b:=47::b) h
  obtain⟨h2,h3⟩:=io (b:=b) Qi;rw[h2,h3,List.append_nil]at h1;unfold je;rw[h1.1,h1.2]
  by_cases ho:jq false a
  ·rw[if_pos ho]
   dsimp only;rw[if_neg (by decide),if_pos rfl]
   by_cases hb:jq false b/\num b≠0/\num b≠1/\Nat.gcd (num a) (num b)=1
   ·rw[if_pos hb,if_pos ⟨ho,hb⟩]
   ·rw[if_neg hb,if_neg (fun h=>hb h.2)]
  ·rw[if_neg ho,if_neg (fun h=>ho h.1)]
 ·rw[if_neg (fun e=>h (dt e.1))]
  obtain⟨p,c,r,rfl,hp,hc⟩:=pT h;have h1:=iA (b:=c::(r++47::b)) hp;obtain⟨h2,h3⟩:=io (b:=r++47::b) hc;rw[h2,h3,List.append_nil]at h1;unfold je;rw[show p++c::r++47::b=p++c::(r++47::b) by simp,h1.1,h1.2]
  split
  ·dsimp only
   split
   ·rw[if_neg (fun e=>Qi (e.2 47 (by simp)))]
   ·rw[if_neg (fun e=>ha (by rw[e];simp))]
  ·rfl
open Classical in
theorem Le {a b:List UInt8} (h47:47 ∉ a++46::b) (ha:46 ∉ a):je (a++46::b)=if jq false a/\b≠[]/\(∀x∈b,fS x)then some (Rat.divInt ((num a*10^b.length+num b:Nat):Int) ((10^b.length:Nat):Int))else none:=by
 by_cases h:∀c∈a,fS c
 ·have h1:=iA (b:=46::b) h
  obtain⟨h2,h3⟩:=io (b:=b) SQ;rw[h2,h3,List.append_nil]at h1;unfold je;rw[h1.1,h1.2]
  by_cases ho:jq false a
  ·rw[if_pos ho]
   dsimp only;rw[if_pos rfl]
   by_cases hb:b≠[]/\(∀x∈b,fS x)
   ·rw[if_pos hb,if_pos ⟨ho,hb⟩]
   ·rw[if_neg hb,if_neg (fun h=>hb h.2)]
  ·rw[if_neg ho,if_neg (fun h=>ho h.1)]
 ·rw[if_neg (fun e=>h (dt e.1))]
  obtain⟨p,c,r,rfl,hp,hc⟩:=pT h;have h1:=iA (b:=c::(r++46::b)) hp;obtain⟨h2,h3⟩:=io (b:=r++46::b) hc;rw[h2,h3,List.append_nil]at h1;unfold je;rw[show p++c::r++46::b=p++c::(r++46::b) by simp,h1.1,h1.2]
  split
  ·dsimp only
   rw[if_neg (fun e=>ha (by rw[e];simp)),if_neg (fun e=>h47 (by rw[e];simp))]
  ·rfl
open Classical in
theorem GL {a:List UInt8} (h47:47 ∉ a) (h46:46 ∉ a):je a=if jq false a then some ((num a:Int):Rat)else none:=by
 by_cases h:∀c∈a,fS c
 ·have h1:=D5 h
  unfold je;rw[h1.1,h1.2]
 ·rw[if_neg (fun e=>h (dt e))]
  obtain⟨p,c,r,rfl,hp,hc⟩:=pT h;have h1:=iA (b:=c::r) hp;obtain⟨h2,h3⟩:=io (b:=r) hc;rw[h2,h3,List.append_nil]at h1;unfold je;rw[h1.1,h1.2]
  split
  ·dsimp only
   rw[if_neg (fun e=>h46 (by rw[e];simp)),if_neg (fun e=>h47 (by rw[e];simp))]
  ·rfl
open Classical in
noncomputable def fG (s:List UInt8):Option Rat:=
 if s.length<=65536 then
  match je (mO s)with
  |none=>none
  |some q=>if dO s=true then(if q=0 then none else some (-q))else some q
 else none
def An (n:Nat):List UInt8:=if n=0 then [48]else nH n
theorem KP (n:Nat):fmt (n:Int)=An n:=by
 unfold fmt An
 by_cases h:n=0
 ·subst h;rfl
 ·rw[if_neg (by omega),if_neg h,if_neg (by omega),Int.natAbs_natCast];rfl
theorem Dv (z:Int):fmt z=(if z<0 then [45]else [])++An z.natAbs:=by
 unfold fmt An
 by_cases h:z=0
 ·subst h;rfl
 ·rw[if_neg h,if_neg (show ¬z.natAbs=0 by omega)]
theorem OZ {b:Bool} {l:List UInt8} (h:∀c r,l=c::r->fS c):mO ((if b=true then [45]else [])++l)=l/\dO ((if b=true then [45]else [])++l)=b:=by
 cases b
 ·simp only[Bool.false_eq_true,if_false,List.nil_append]
  cases l with
  |nil=>exact⟨rfl,rfl⟩
  |cons c r=>
   have h1:=h c r rfl;have:(c == 45)=false:=beq_eq_false_iff_ne.2 (fun e=>by subst e;exact absurd h1 (by decide));exact⟨by show(if(c == 45)=true then r else c::r)=_;rw[this];rfl,this⟩
 ·exact⟨rfl,rfl⟩
def IG (l:List UInt8):List UInt8:=l.dropWhile (· == 48)
theorem CP (l:List UInt8):num (IG l)=num l:=by
 induction l with
 |nil=>rfl
 |cons c l ih=>
  unfold IG at *
  by_cases h:c=48
  ·subst h;rw[List.dropWhile_cons_of_pos rfl,ih];rfl
  ·rw[List.dropWhile_cons_of_neg (by simpa using h)]
theorem OP {l:List UInt8} (h:∀c∈l,fS c) (hn:IG l≠[]):jq false (IG l):=by
 refine⟨hn,fun c hc=>h c (List.dropWhile_sublist _ |>.subset hc), .inl fun c r e=>?_⟩;have:=List.head?_dropWhile_not (p:=(· == (48:UInt8))) (l:=l);unfold IG at e;rw[e]at this
 simpa using this
def aQ (q:Rat):List AV:=aZ q.num++aZ q.den
def dQ (q:Rat):DV:= .agg (aQ q)
def yQ (na:Bool) (xs:List Nat) (nb:Bool) (ys:List Nat):List AV:=aI na xs++aI nb ys
def M2 (na:Bool) (xs:List Nat) (nb:Bool) (ys:List Nat):DV:= .agg (yQ na xs nb ys)
def jb:List AV:=[.val (.bool false), .sl 0 [], .val (.bool false), .sl 0 []]
def F9:DV:= .agg jb
def Sz (k:Nat) (z:Int):Prop:=z.natAbs<4294967296^k
theorem Sz.fit {k:Nat} {z:Int} (h:Sz k z) (hk:k<=2147483648):iV z:= .of_lt h hk
theorem Sz.mono {j k:Nat} {z:Int} (h:Sz j z) (hk:j<=k):Sz k z:=Nat.lt_of_lt_of_le h (Nat.pow_le_pow_right (by decide) hk)
theorem Sz.of_le {k:Nat} {a b:Int} (h:Sz k b) (hl:a.natAbs<=b.natAbs):Sz k a:=Nat.lt_of_le_of_lt hl h
theorem Sz.mul {j k:Nat} {a b:Int} (h:Sz j a) (h':Sz k b):Sz (j+k) (a*b):=by
 unfold Sz at *;rw[Int.natAbs_mul,Nat.pow_add];exact Nat.mul_lt_mul'' h h'
theorem Sz.add {k:Nat} {a b:Int} (h:Sz k a) (h':Sz k b):Sz (k+1) (a+b):=by
 unfold Sz at *;have:=Int.natAbs_add_le a b;have:0<4294967296^k:=Nat.pow_pos (by decide)
 rw[Nat.pow_succ];omega
theorem Sz.neg {k:Nat} {a:Int} (h:Sz k a):Sz k (-a):=by unfold Sz at *;rw[Int.natAbs_neg];exact h
theorem Sz.small {z:Int} (h:z.natAbs<4294967296):Sz 1 z:=by unfold Sz;simpa using h
theorem Sz.i64 {z:Int} (h1: -9223372036854775808<=z) (h2:z<9223372036854775808):Sz 2 z:=by unfold Sz;omega
theorem Sz.gcd {k:Nat} {n d:Int} (h:Sz k d) (hd:d≠0):Sz k (Nat.gcd n.natAbs d.natAbs:Nat):=by
 refine h.of_le ?_;rw[Int.natAbs_natCast];exact Nat.le_of_dvd (by omega) (Nat.gcd_dvd_right _ _)
theorem Sz.digs {k:Nat} {z:Int} (h:Sz k z):(digs z.natAbs).length<=k:=a8 h
theorem Sz.of_digs {k:Nat} {z:Int} (h:(Go.Proofs.YtnchbpoopnjghaaGreatDoor.digs z.natAbs).length<=k):Sz k z:=dc h
def dJ (k:Nat) (q:Rat):Prop:=Sz k q.num/\Sz k q.den
theorem dJ.mono {j k:Nat} {q:Rat} (h:dJ j q) (hk:j<=k):dJ k q:=⟨h.1.mono hk,h.2.mono hk⟩
theorem dJ.divInt {k:Nat} {n d:Int} (h:Sz k n) (h':Sz k d) (hd:d≠0):dJ k (Rat.divInt n d):=by
 obtain⟨_,_,h1,h2⟩:=xI (n:=n) (d:=d) hd;have hg:0<(gz n d).natAbs:=by have:=Gp (n:=n) hd;omega
 refine⟨h.of_le ?_,h'.of_le ?_⟩
 ·conv=>rhs;rw[h1,Int.natAbs_mul]
  exact Nat.le_mul_of_pos_left _ hg
 ·conv=>rhs;rw[h2,Int.natAbs_mul]
  exact Nat.le_mul_of_pos_left _ hg
theorem dJ.add {j k:Nat} {a b:Rat} (h:dJ j a) (h':dJ k b):dJ (j+k+1) (a+b):=by
 rw[<- qF];refine .divInt ?_ ((h.2.mul h'.2).mono (by omega)) (by have:=Int.mul_pos (du a) (du b);omega);exact Sz.add (h.1.mul h'.2) ((h'.1.mul h.2).mono (by omega))
theorem dJ.neg {k:Nat} {a:Rat} (h:dJ k a):dJ k (-a):=⟨by rw[Rat.neg_num];exact h.1.neg,h.2⟩
theorem dJ.mul {j k:Nat} {a b:Rat} (h:dJ j a) (h':dJ k b):dJ (j+k) (a*b):=by
 rw[<- rL];exact .divInt (h.1.mul h'.1) (h.2.mul h'.2) (by have:=Int.mul_pos (du a) (du b);omega)
theorem dJ.div {j k:Nat} {a b:Rat} (h:dJ j a) (h':dJ k b) (hb:b≠0):dJ (j+k) (a/b):=by
 rw[<- rh];have h0:b.num≠0:=fun e=>hb (Rat.num_eq_zero.1 e)
 refine .divInt (h.1.mul h'.2) (h.2.mul h'.1) ?_;exact Int.mul_ne_zero (by have:=du a;omega) h0
theorem uP {z:Int}:(!decide (z<0) && decide (digs z.natAbs=[1]))=decide (z=1):=by
 by_cases h:z=1
 ·subst h;rw[show(1:Int).natAbs=1 from rfl,zM (by decide) (by decide)];rfl
 ·rw[decide_eq_false h]
  by_cases hn:z<0
  ·simp[hn]
  ·have:digs z.natAbs≠[1]:=fun e=>by
    have h1:=congrArg val e;rw[az]at h1
    simp[val]at h1
    omega
   simp[this]
theorem uC {z:Int}:decide (((digs z.natAbs).length:Int)=0)=decide (z=0):=by
 have:=fm (n:=z.natAbs)
 by_cases h:z=0
 ·subst h;rw[decide_eq_true rfl];exact decide_eq_true (by have:=this.2 rfl;omega)
 ·rw[decide_eq_false h];exact decide_eq_false (fun e=>h (by have:=this.1 (by omega);omega))
theorem x7:aa Tryz.prog 191 [] (.one (dZ 1)):=by
 refine kV func191 ?_;refine am (dM 1 (by decide) (by decide)) rfl rfl rfl rfl rfl rfl rfl ?_;exact ar
theorem AQ {na:Bool} {xs:List Nat} {b:Bool} (hb:(!na && decide (xs=[1]))=b):aa Tryz.prog 189 [dI na xs] (.one (dB b)):=by
 subst hb;cases na
 ·match xs with
  | []=>
   refine kU func189 ?_;exact ar
  | [x]=>
   refine kV func189 ?_;refine aP (cs':=[AV.val (bU x)]) (i:=0) (Nat.lt_succ_self 0) (fun j a h=>by simpa using h) (Nat.lt_succ_self 0) rfl rfl rfl rfl rfl rfl rfl rfl ?_;refine kW ?_;rw[show(!false && decide ([x]=[1]))=decide ((x:Int)=1) by by_cases h:x=1<;>simp[h]<;>omega];exact dx (T:=TT) rfl rfl
  |x::y::r=>
   refine kU func189 ?_;refine kR ?_;refine kI ?_
   iterate 7 refine kO ?_
   refine kB false ?_ ?_
   ·exact decide_eq_false (by simp only[List.length_cons];omega)
   refine kW ?_;rw[show(!false && decide (x::y::r=[1]))=false by simp];exact dx (T:=TT) rfl rfl
 ·refine kU func189 ?_
  exact ar
theorem bg {z:Int} {b:Bool} (hb:decide (z=1)=b):aa Tryz.prog 189 [dZ z] (.one (dB b)):=AQ (by rw[uP,hb])
theorem bY {z:Int} {b:Bool} (hb:decide (z=0)=b):aa Tryz.prog 298 [dZ z] (.one (dB b)):=by
 refine kV func298 ?_;rw[<- hb,<- uC];exact dx (T:=TT) rfl rfl
theorem mt {a b c:Int} (h1:iV a) (h2:iV b) (hb:b≠0) (h:a.fdiv b=c):aa Tryz.prog 261 [dZ a,dZ b] (.one (dZ c)):=by
 by_cases h1':b=1
 ·subst h1'
  rw[Int.fdiv_one]at h;subst h;refine kV func261 ?_;refine kC (bg (z:=1) (b:=true) rfl) ?_;exact ar
 ·refine kV func261 ?_;refine kQ (bg (z:=b) (b:=false) (decide_eq_false h1')) ?_;refine kC (vr h1 h2 hb h rfl) ?_;exact ar
theorem N1 {n d:Int} {g:Nat} (hg:Nat.gcd n.natAbs d.natAbs=g) (h:¬d<0):gz n d=g:=by unfold gz;rw[if_neg h,hg]
theorem NP {n d:Int} {g:Nat} (hg:Nat.gcd n.natAbs d.natAbs=g) (h:d<0):gz n d= -(g:Int):=by unfold gz;rw[if_pos h,hg]
theorem fA {k:Nat} {n d:Int} {q:Rat} (h1:Sz k n) (h2:Sz k d) (hk:k<=2147483648) (hd:d≠0) (hq:Rat.divInt n d=q):aa Tryz.prog 193 [dZ n,dZ d] (.one (dQ q)):=by
 subst hq;obtain⟨e1,e2,_,_⟩:=xI (n:=n) hd;have hg0:=Gp (n:=n) hd;have hsg:=h2.gcd (n:=n) hd;obtain⟨g,hg⟩:∃g,Nat.gcd n.natAbs d.natAbs=g:=⟨_,rfl⟩;rw[hg]at hsg
 by_cases h:d<0
 ·rw[NP hg h]at e1 e2 hg0
  refine kV func193 ?_;refine kQ (kL (h1.fit hk) (h2.fit hk) hg) ?_;refine gL (T:=TT) rfl ?_ ?_
  ·exact decide_eq_true h
  refine kW ?_;refine kQ (tG (hsg.fit hk)) ?_;refine kQ (mt (h1.fit hk) (hsg.neg.fit hk) hg0 e1) ?_;refine kC (mt (h2.fit hk) (hsg.neg.fit hk) hg0 e2) ?_;exact ar
 ·rw[N1 hg h]at e1 e2 hg0
  refine kV func193 ?_;refine kQ (kL (h1.fit hk) (h2.fit hk) hg) ?_;refine iR (T:=TT) rfl ?_ ?_
  ·exact decide_eq_false h
  refine kW ?_;refine kQ (mt (h1.fit hk) (hsg.fit hk) hg0 e1) ?_;refine kC (mt (h2.fit hk) (hsg.fit hk) hg0 e2) ?_;exact ar
theorem Sz.of_val {na:Bool} {xs:List Nat} {n:Int} {k:Nat} (hw:Wd xs) (h:xs.length<=k) (hn:aN na xs=n):Sz k n:=by
 rw[<- hn];unfold Sz;rw[da];exact Nat.lt_of_lt_of_le (fK hw) (Nat.pow_le_pow_right (by decide) h)
theorem DA {na nb:Bool} {xs ys:List Nat} {n d:Int} {q:Rat} (hw:Wd xs) (hw':Wd ys) (h1:xs.length<=1000) (h2:ys.length<=1000) (hn:aN na xs=n) (hd:aN nb ys=d) (h0:d≠0) (hq:Rat.divInt n d=q):aa Tryz.prog 297 [dI na xs,dI nb ys] (.tup [dQ q,dN .i64 0]):=by
 have s1:Sz 1000 n:=Sz.of_val hw h1 hn;have s2:Sz 1000 d:=Sz.of_val hw' h2 hd;refine Bk ?_;refine kQ (bY (decide_eq_false h0)) ?_;refine am (fA s1 s2 (by decide) h0 hq) rfl rfl rfl rfl rfl rfl rfl ?_;exact ar
theorem AI {na nb:Bool} {xs ys:List Nat} {n d:Int} (hw:Wd xs) (hw':Wd ys) (h1:xs.length<=1000) (h2:ys.length<=1000) (hn:aN na xs=n) (hd:aN nb ys=d) (h0:d=0):aa Tryz.prog 297 [dI na xs,dI nb ys] (.tup [F9,dN .i64 6]):=by
 refine Bk ?_;refine kC (bY (decide_eq_true h0)) ?_;exact ar
theorem zS {n d:Int} {q:Rat} (h1:Sz 1000 n) (h2:Sz 1000 d) (h0:d≠0) (hq:Rat.divInt n d=q):aa Tryz.prog 297 [dZ n,dZ d] (.tup [dQ q,dN .i64 0]):=
 DA (aH _) (aH _) h1.digs h2.digs (bA n) (bA d) h0 hq
theorem iS (k:Int) (h1: -9223372036854775808<=k) (h2:k<9223372036854775808) {q:Rat} (hq:(k:Rat)=q):aa Tryz.prog 135 [dN .i64 k] (.one (dQ q)):=by
 subst hq;refine kV func135 ?_;refine kC (dM k h1 h2) ?_;exact MV
theorem r8 (k:Int) (h1: -9223372036854775808<=k) (h2:k<9223372036854775808) {q:Rat} (hq:(k:Rat)=q):aa Tryz.prog 36 [dN .i64 k] (.one (dQ q)):=by
 subst hq;refine kV func36 ?_;refine kQ (ld k h1 h2) ?_;refine am (ld 1 (by decide) (by decide)) rfl rfl rfl rfl rfl rfl rfl ?_;exact ar
theorem uE (n:Int):Rat.divInt n 0=((0:Int):Rat):=by simp
theorem ir (n d:Int) (h1: -9223372036854775808<=n) (h2:n<9223372036854775808) (h3: -9223372036854775808<=d) (h4:d<9223372036854775808) {q:Rat} (hq:Rat.divInt n d=q):aa Tryz.prog 253 [dN .i64 n,dN .i64 d] (.one (dQ q)):=by
 by_cases h0:d=0
 ·refine Ni ?_
  refine am (AI (na:=decide (n<0)) (nb:=decide (d<0)) (aH _) (aH _) ((Sz.i64 h1 h2).mono (k:=1000) (by decide)).digs ((Sz.i64 h3 h4).mono (k:=1000) (by decide)).digs (bA n) (bA d) h0) rfl rfl rfl rfl rfl rfl rfl ?_;refine kW ?_;refine am (iS 0 (by decide) (by decide) (q:=q) (by subst h0;rw[<- uE n];exact hq)) rfl rfl rfl rfl rfl rfl rfl ?_;exact ar
 ·refine Ni ?_
  refine am (zS ((Sz.i64 h1 h2).mono (by decide)) ((Sz.i64 h3 h4).mono (by decide)) h0 hq) rfl rfl rfl rfl rfl rfl rfl ?_;exact ar
theorem xt {k:Nat} {a q:Rat} (h:dJ k a) (hk:k<=2147483648) (hq: -a=q):aa Tryz.prog 254 [dQ a] (.one (dQ q)):=by
 subst hq;refine kV func254 ?_;refine kC (tG (h.1.fit hk)) ?_;exact ar
theorem np (a:Rat):aa Tryz.prog 97 [dQ a] (.one (dN .i64 (PR a))):=by
 refine kV func97 ?_;refine kC (zf a.num) ?_;exact ar
theorem IX {q:Rat} {n d:Int} (h1:q.num=n) (h2:(q.den:Int)=d):dQ q= .agg (aZ n++aZ d):=by unfold dQ aQ;rw[h1,h2]
theorem HL (a:Rat):decide ((a.den:Int)=1)=decide (a.den=1):=by by_cases h:a.den=1<;>simp[h]<;>omega
theorem H3 {a:Rat} (h:a.den=1):decide ((a.den:Int)=1)=true:=by rw[HL];exact decide_eq_true h
theorem Bz {a:Rat} (h:¬a.den=1):decide ((a.den:Int)=1)=false:=by rw[HL];exact decide_eq_false h
theorem l8 {j k:Nat} {a b q:Rat} (h:dJ j a) (h':dJ k b) (hk:j+k+1<=2147483648) (hq:a+b=q):aa Tryz.prog 134 [dQ a,dQ b] (.one (dQ q)):=by
 subst hq;have d0:(a.den:Int)*b.den≠0:=by have:=Int.mul_pos (du a) (du b);omega
 by_cases ha:a.den=1
 ·by_cases hb:b.den=1
  ·rw[IX (B0 ha hb).1 (d:=1) (by rw[(B0 ha hb).2];rfl)]
   refine kU func134 ?_;refine BY ?_;refine kQ (bg (H3 hb)) ?_;refine am (oe (h.1.fit (by omega)) (h'.1.fit (by omega))) rfl rfl rfl rfl rfl rfl rfl ?_;exact MV
  ·refine kU func134 ?_
   refine BY ?_;refine kC (bg (Bz hb)) ?_;refine QL ?_;exact ar
 ·refine kV func134 ?_;refine kC (bg (Bz ha)) ?_;refine QL ?_;exact ar
theorem qC {j k:Nat} {a b q:Rat} (h:dJ j a) (h':dJ k b) (hk:j+k<=2147483648) (hq:a*b=q):aa Tryz.prog 176 [dQ a,dQ b] (.one (dQ q)):=by
 subst hq;have d0:(a.den:Int)*b.den≠0:=by have:=Int.mul_pos (du a) (du b);omega
 by_cases ha:a.den=1
 ·by_cases hb:b.den=1
  ·rw[IX (xv ha hb).1 (d:=1) (by rw[(xv ha hb).2];rfl)]
   refine kU func176 ?_;refine BY ?_;refine kQ (bg (H3 hb)) ?_;refine am (dp (h.1.fit (by omega)) (h'.1.fit (by omega))) rfl rfl rfl rfl rfl rfl rfl ?_;exact MV
  ·refine kU func176 ?_
   refine BY ?_;refine kC (bg (Bz hb)) ?_;refine Qs ?_;exact ar
 ·refine kV func176 ?_;refine kC (bg (Bz ha)) ?_;refine Qs ?_;exact ar
theorem wL {j k:Nat} {a b q:Rat} (h:dJ j a) (h':dJ k b) (hk:j+k<=2147483648) (hb:b≠0) (hq:a/b=q):aa Tryz.prog 256 [dQ a,dQ b] (.tup [dQ q,dN .i64 0]):=by
 subst hq;have h0:b.num≠0:=fun e=>hb (Rat.num_eq_zero.1 e)
 refine kV func256 ?_;refine kQ (bY (decide_eq_false h0)) ?_;refine am (dp (h.1.fit (by omega)) (h'.2.fit (by omega))) rfl rfl rfl rfl rfl rfl rfl ?_;refine kW ?_;refine am (dp (h.2.fit (by omega)) (h'.1.fit (by omega))) rfl rfl rfl rfl rfl rfl rfl ?_;refine kW ?_;refine am (fA (h.1.mul h'.2) (h.2.mul h'.1) hk (Int.mul_ne_zero (by have:=du a;omega) h0) (rh a b)) rfl rfl rfl rfl rfl rfl rfl ?_;exact ar
theorem Dm {a b:Rat} (hb:b=0):aa Tryz.prog 256 [dQ a,dQ b] (.tup [F9,dN .i64 6]):=by
 refine kV func256 ?_;refine kC (bY (decide_eq_true (Rat.num_eq_zero.2 hb))) ?_;exact ar
section
open Go.RowKit Go.Shelf
attribute [local go_sem] Oper.semAt_some
abbrev G5 (M:Nat) (x:Nat × Nat):Array Value:= #[.int .i64 (x.1:Int),bU (x.2%M)]
theorem ul {M:Nat} {xs:List Nat} (h0:0<M) (h:∀x∈xs,x<M) (i:Nat):xs.getD i 0<M:=by
 rw[List.getD_eq_getElem?_getD];cases hx:xs[i]? with
 |none=>exact h0
 |some x=>exact h x (List.mem_of_getElem? hx)
set_option maxRecDepth 100000 in
theorem Ee (F:Fence) (n:Nat) (h8:F.fn 286) (hro:F.round=none) (hn:1<=n) (l Bs:Nat) (A:Option Addr) (len cap:Nat) (xs:List Nat) (M:Nat) (hM0:0<M) (hM:∀x∈xs,x<M) (w:World) (hx:bc w A len cap xs) (J Jx:List (Nat × Nat)->World->Prop)
 (hY:∀pre x W,J pre W->pre.length<len->YieldAt F (n-1) Tryz.prog l (G5 M x) W fun e W'=>
  (e= .returned (.bool true)/\J (pre++[x]) W'/\KB w.heap.size Bs W W')∨(e= .returned (.bool false)/\Jx (pre++[x]) W'))
 (W:World) (hbW:bw w W) (hBs:W.cell? ⟨Bs,0,none⟩=some (.slice A len cap)) (h0:J [] W):
 CallsIn F n Tryz.prog 286 #[.func (.yield l) #[] #[], .pointer (some ⟨Bs,0,none⟩)] W fun e W'=>(∃v,e= .returned v) /\
  ((∃ys,ys=upto (cU xs) len/\J ys W')∨(∃pre,True/\Jx pre W')):=by
 have hcap:=hx.cap;have hlim:=hx.lim;have hlen:=hx.len;have hwd:=hx.wd;have Hx:=Lib.hid hx;have HM:=Lib.hid hM;have Hlen:=Lib.hid hlen;have Hwd:=Lib.hid hwd;clear hx hlen hwd hM;refine callsIn_of_wp func286 rfl h8 ?_ hro
 simp only[ntmps286,List.size_toArray,List.length_cons,List.length_nil,Nat.reduceAdd,Nat.reduceSub,Array.replicate_succ,Array.replicate_zero,List.push_toArray,List.append_toArray,List.nil_append,List.cons_append]
 gi_wp2
 gi_loopw [3] (fun i wr=>∃k:Nat,k<=len/\i= .int .i64 ((len:Int)-1-k)/\J (upto (cU xs) k) wr/\KB w.heap.size Bs W wr)
  (fun i _=>(intOf i+1).toNat)
 case atStart=>exact⟨0,Nat.zero_le _,by go_num,h0,KB.refl _ _ _⟩
 case round=>
  obtain⟨k,hk,rfl,hJs,hnx⟩:=hrel;have hcs:=(hnx.cell 0).trans hBs
  by_cases hlt:k<len
  ·obtain⟨b,off,rfl,hb,hc⟩:=Hx.out.at (by omega)
   have hcx:=(hnx.1.cell (p:=⟨b,off+(len-1-k),none⟩) hb).trans ((hbW.cell (p:=⟨b,off+(len-1-k),none⟩) hb).trans (hc (len-1-k) (by omega)));obtain⟨fn,tmps,assign,body,hy,hR⟩:=hY _ (cU xs k) wr hJs (by rw[oL];exact hlt);have e1:cU xs k=(len-1-k,xs.getD (len-1-k) 0):=by unfold cU;rw[Hlen.out]
   rw[e1]at hy;have e2:((len-1-k:Nat):Int)=(len:Int)-1-k:=by omega
   dsimp only[G5]at hy;rw[e2]at hy;obtain⟨x,hxx⟩:∃x,x=xs.getD (len-1-k) 0:=⟨_,rfl⟩;rw[<- hxx]at hy hcx;rw[Nat.mod_eq_of_lt (by rw[hxx];exact ul hM0 HM.out _)]at hy;have g1:(0:Int)<=(len:Int)-1-k:=by omega
   have g2:(len:Int)-1-k<len:=by omega
   have g3:((len:Int)-1-k).toNat=len-1-k:=by omega
   clear e1 e2 hc;have Hxx:=Lib.hid hxx;clear hxx
   gi_wp2
   refine hR.mono ?_;rintro e W3 (⟨rfl,hJ3,hk3⟩| ⟨rfl,hJx3⟩)
   ·gi_wp2
    go_roundw
    case rel=>exact⟨k+1,by omega,by go_num,by rw[nv];exact hJ3,hnx.trans hk3⟩
    case measure=>simp[intOf];omega
   ·gi_wp2
    refine bodyPost_ret (results_none rfl _ _ _) rfl ?_;exact⟨⟨_,rfl⟩, .inr ⟨_,trivial,hJx3⟩⟩
  ·obtain rfl:k=len:=by omega
   have g1:¬((k:Int)<=(k:Int)-1):=by omega
   gi_wp2
   go_end0
   first|exact⟨⟨_,rfl⟩, .inl ⟨_,rfl,hJs⟩⟩|exact⟨⟨_,rfl⟩, .inl hJs⟩
theorem oC (F:Fence) (n:Nat) (h8:F.fn 286) (hro:F.round=none) (hn:1<=n) (Bs:Nat) (A:Option Addr) (len cap:Nat) (xs:List Nat) (M:Nat) (hM0:0<M) (hM:∀x∈xs,x<M) (w0 w:World) (hx:bc w0 A len cap xs) (h0:bw w0 w) (hBs:Bs<w.heap.size) (hc:w.cell? ⟨Bs,0,none⟩=some (.slice A len cap)):
 SeqStopsK F n Tryz.prog 286 #[.pointer (some ⟨Bs,0,none⟩)] (G5 M) (KB w0.heap.size Bs) (fun ys=>ys=upto (cU xs) len) (fun _=>True) len w:=fun l J Jx W hW _ _ hY hJ0=>
 Ee F n h8 hro hn l Bs A len cap xs M hM0 hM w0 hx J Jx hY W (h0.more hW) ((hW.cell (p:=⟨Bs,0,none⟩) hBs).trans hc) hJ0
end
section
open Go.Shelf Go.RowKit Go.Sort Go.Lib
set_option maxRecDepth 100000 in
theorem sC (u:Nat) (hu64:u<18446744073709551616) (w:World) (htab:Lib.TabIs Tryz.prog w "internal/strconv.uint64pow10" .u64 Lib.pow10Tab):
 Calls Tryz.prog 287 #[.int .u64 u, .int .i64 10] w fun e w'=>e= .returned (.string ⟨(Lib.decDigits u).toArray⟩)/\Below w.heap.size w w':=by
 by_cases hs:u<100
 ·go_enter func287,ntmps287
  go_wp2_with (go_at_call 200;refine(Tryz.internal_strconv_small u hs _).mono ?_;rintro e w' ⟨rfl,rfl⟩)
  go_ret
  exact⟨rfl,Below.refl _ _⟩
 ·have hu1:1<=u:=by omega
  have hnd20:Lib.nDigits u<=20:=by have:=Lib.numDigits_eq u hu1 hu64;split at this<;>omega
  have hal:(Tryz.prog).arrayLen 209=24:=by simp[Program.arrayLen,underlying209]
  have hsl:∀W,(Instr.sliceAt 209 (.pointer (some ⟨w.heap.size,0,none⟩)) none (some (.int .i64 (Lib.nDigits u:Int))) none).run Tryz.prog W= .ok (.slice (some ⟨w.heap.size,0,none⟩) (Lib.nDigits u) 24) W:=fun W=>by
   rw[run_sliceAt_array_h W 209 ⟨w.heap.size,0,none⟩ (by simp[Program.arrayLen,Program.elem,underlying209]) .i64 (Lib.nDigits u:Int) (by omega) (by rw[hal];omega)]
   go_simp
  have hH0:=Lib.holds_zero0 w 209 (Lib.nDigits u) (by omega);have hfmt:=Tryz.internal_strconv_formatBase10 w.heap.size 0 24 u (Array.replicate (Lib.nDigits u) 0) (w.alloc (.cells Lib.zeros24 209)) hH0 (by rw[Array.size_replicate];exact Lib.lt_pow_nDigits u) hu64 (by rw[Array.size_replicate];omega);rw[Array.size_replicate]at hfmt;have HH0:=Lib.hid hH0;have iu:(100:Int)<=(u:Int):=by omega
  clear hH0 hal
  go_enter func287,ntmps287
  go_wp2_with (go_at_call 201;refine(Tryz.internal_strconv_numDigits u hu1 hu64 _ (Lib.tabIs_alloc htab _)).mono ?_;rintro e w' ⟨rfl,rfl⟩)
  go_at_call 202
  refine hfmt.mono ?_;rintro e w' ⟨rfl,k,v',dk,rfl,hF⟩
  have hcv:(convert 137 9 (.slice (some ⟨w.heap.size,0,none⟩) (Lib.nDigits u) 24)).run Tryz.prog ((putRow (fun(b:UInt8)=>Value.int .u8 (b.toNat:Int)) (w.alloc (.cells Lib.zeros24 209)) w.heap.size 0 dk).drewN k)= .ok (.string ⟨(Lib.decDigits u).toArray⟩) ((putRow (fun(b:UInt8)=>Value.int .u8 (b.toNat:Int)) (w.alloc (.cells Lib.zeros24 209)) w.heap.size 0 dk).drewN k):=by
   have h:=run_convert_bytes_back (P:=Tryz.prog) ((putRow (fun(b:UInt8)=>Value.int .u8 (b.toNat:Int)) (w.alloc (.cells Lib.zeros24 209)) w.heap.size 0 dk).drewN k) 137 9 5 ⟨w.heap.size,0,none⟩ 24 (Lib.decDigits u) underlying137 underlying5 underlying9 (fun j hj=>by
    rw[Lib.row_is_numeral hF j hj,Lib.add_plain,World.cell?_drewN];exact cell?_putRow (fun(b:UInt8)=>Value.int .u8 (b.toNat:Int)) _ w.heap.size 0 _ dk HH0.out (by rw[hF.size,Array.size_replicate]) j (by rw[hF.size];rw[Lib.decDigits_length]at hj;exact hj))
   rw[Lib.decDigits_length]at h;exact h
  go_wp2
  go_ret
  obtain⟨os,eo⟩:=Lib.fin_at w (.cells Lib.zeros24 209) dk k 0;exact⟨rfl,by rw[eo];exact Lib.below_grow _ w (Nat.le_refl _) k os⟩
theorem gx (u:Nat) (hu64:u<18446744073709551616) (w:World) (htab:Lib.TabIs Tryz.prog w "internal/strconv.uint64pow10" .u64 Lib.pow10Tab):
 Calls Tryz.prog 239 #[.int .u64 u, .int .i64 10] w fun e w'=>e= .returned (.string ⟨(Lib.decDigits u).toArray⟩)/\Below w.heap.size w w':=by
 go_enter func239,ntmps239
 go_wp2_with (go_at_call 287;refine(sC u hu64 _ htab).mono ?_;rintro e w' ⟨rfl,hb⟩)
 go_ret
 exact⟨rfl,hb⟩
end
section
open Go.Shelf Go.RowKit
theorem yu:((Tryz.prog).info? 139).map (·.size)=some 2:=Tryz.Builder_Extra_169.sizeBuilder
theorem E4:liesAt Tryz.prog (Tryz.prog).depth 139 (2/(Tryz.prog).cellsOf 139) 0 139 1=true:=by kernel_rfl
theorem rW:((Tryz.prog).info? 5).map (fun i=>(i.zero,i.size,i.bytes))=some (some (.int .u8 0),1,1):=Tryz.Builder_Extra_169.infoByte
set_option maxRecDepth 100000 in
theorem jC (b:Nat) (w:World) (h0:w.cell? ⟨b,0,none⟩=some (.pointer (some ⟨b,0,none⟩))):
 Calls Tryz.prog 145 #[.pointer (some ⟨b,0,none⟩)] w fun e w'=>e= .returned (.tuple #[])/\w'=w:=by
 obtain⟨j,hj,_⟩:=Option.map_eq_some_iff.1 yu
 go_enter func145,ntmps145
 go_wp2
 rw[Lib.run_neq_ptr_same w _ underlying136 hj]
 go_wp2
 go_end0
 exact⟨rfl,rfl⟩
set_option maxRecDepth 100000 in
theorem jp (b:Nat) (w:World) (h0:w.cell? ⟨b,0,none⟩=some (.pointer none)) (hsh:w.shape? b=some (139,2)) (hfz:w.frozen? ⟨b,0,none⟩=false):
 Calls Tryz.prog 145 #[.pointer (some ⟨b,0,none⟩)] w fun e w'=>e= .returned (.tuple #[])/\w'=w.setCell ⟨b,0,none⟩ (.pointer (some ⟨b,0,none⟩)):=by
 obtain⟨j,hj,hjs⟩:=Option.map_eq_some_iff.1 yu
 go_enter func145,ntmps145
 go_wp2
 rw[Lib.run_to_unsafe w ⟨b,0,none⟩ underlying136 underlying214 hj (by rw[hjs];decide) hsh (Nat.zero_lt_succ 1)]
 simp only[Result.andThen]
 rw[Oper.upon_value]
 go_wp2
 rw[run_callFunc_extern func204 (by kernel_rfl) (by kernel_rfl) (by kernel_rfl) (e:=Extern.AbiNoEscape.same) (by kernel_rfl)];rw[Lib.run_noEscape]
 simp only[Result.andThen]
 rw[Oper.upon_value]
 go_wp2
 rw[Lib.run_from_unsafe w ⟨b,0,none⟩ underlying214 underlying136 hj hsh E4]
 simp only[Result.andThen]
 rw[Oper.upon_value]
 go_wp2
 go_end0
 exact⟨rfl,rfl⟩
theorem oM (B b:Nat) (bs:List Value) (w:World) (h:Lib.IsBuilderF 139 5 B b bs w):
 Calls Tryz.prog 145 #[.pointer (some ⟨b,0,none⟩)] w fun e w'=>e= .returned (.tuple #[])/\(Lib.BuilderAtF 139 5 B b (.pointer (some ⟨b,0,none⟩)) bs w'/\Below B w w'/\Lib.OthersKept 5 (some b) w w'):=by
 rcases h with h|h
 ·refine(jp b w h.cell0 h.shape h.frozen0).mono ?_
  rintro e w' ⟨rfl,rfl⟩;exact⟨rfl,h.used _,(Below.refl B w).setCell (p:=⟨b,0,none⟩) h.1 _,(Lib.OthersKept.refl _ _ w).setCell ⟨b,0,none⟩ rfl _⟩
 ·refine(jC b w h.cell0).mono ?_
  rintro e w' ⟨rfl,rfl⟩;exact⟨rfl,h,Below.refl B _,Lib.OthersKept.refl _ _ _⟩
set_option maxRecDepth 100000 in
theorem xw (B b:Nat) (bs:List Value) (c:Int) (w:World) (h:Lib.IsBuilderF 139 5 B b bs w) (hlen:bs.length+1<=140737488355328) (hBw:B<=w.heap.size):
 Calls Tryz.prog 237 #[.pointer (some ⟨b,0,none⟩), .int .u8 c] w fun e w'=>e= .returned .nilIface/\(Lib.BuilderAtF 139 5 B b (.pointer (some ⟨b,0,none⟩)) (bs++[.int .u8 c]) w'/\Below B w w'/\Lib.OthersKept 5 (some b) w w'):=by
 obtain⟨i0,hi,hz0,hz1,hz2⟩:=info_parts rW
 go_enter func237,ntmps237
 go_wp2_with (go_at_call 145;refine(oM B b bs _ h).mono ?_)
 rintro e w1 ⟨rfl,h1,hb1,hk1⟩;obtain⟨hB,v,hbk,hown,hne⟩:=h1;have c0:w1.cell? ⟨b,0,none⟩=some (.pointer (some ⟨b,0,none⟩)):=by rw[Lib.cell_of_heap hbk];rfl
 have c1:w1.cell? ⟨b,1,none⟩=some v:=by rw[Lib.cell_of_heap hbk];rfl
 go_wp2_with (at_builtin;refine wpList_append_ownF _ rfl _ _ 137 rfl B 5 i0 (.int .u8 0) 1 1 underlying137 hi hz0 hz1 hz2 rfl (by decide) _ _ _ rfl (hown.alloc _) ⟨w1.heap.size,0,none⟩ 1 1 [.int .u8 c] rfl rfl ?c1 ?c2 ?c3 ?c4 ?c5 ?_)
 case c1=>
  intro j u hj
  match j,hj with
  |0,hj=>simp at hj;subst hj;simp[Addr.add]
 case c2=>intro u hu;simp at hu;subst hu;rfl
 case c3=>unfold maxLen;omega
 case c4=>omega
 case c5=>have:=hb1.size;simp;omega
 intro v' w2 hown' hgrow _
 have hlt:b<w1.heap.size:=by
  exact Mn
 have hb2:w2.heap[b]? =some (.cells #[.pointer (some ⟨b,0,none⟩),v] 139 (0,0)):=by
  rw[hgrow.block b (by simp;omega) (fun e=>hne e.symm),Lib.alloc_old w1 _ b hlt];exact hbk
 have d0:w2.cell? ⟨b,0,none⟩=some (.pointer (some ⟨b,0,none⟩)):=by rw[Lib.cell_of_heap hb2];rfl
 have d1:w2.cell? ⟨b,1,none⟩=some v:=by rw[Lib.cell_of_heap hb2];rfl
 have f1:w2.frozen? ⟨b,1,none⟩=false:=Lib.frozen_of_heap hb2 1
 obtain⟨g,cap,rfl⟩:∃g cap,v'= .slice (some ⟨g,0,none⟩) (bs.length+1) cap:=by
  rcases hown'.2 with⟨_,h0⟩| ⟨g,cap,cur,fz,hv,_⟩
  ·omega
  ·exact⟨g,cap,hv⟩
 go_wp2
 go_ret
 refine⟨rfl,?_,?_,((hk1.alloc _).grown hgrow (Lib.ownsRowF_kind (hown.alloc _))).setCell ⟨b,1,none⟩ rfl _⟩
 ·exact Lib.BuilderAtF.put (T:=139) (e:=5) hB hb2 (bs':=bs++[.int .u8 c]) (by simpa using hown') (by decide)
 ·exact((hb1.alloc (by have:=hb1.size;omega) _).grown hgrow (by have:=hb1.size;simp;omega) (fun k hk=>(hown.lt k hk).1)).setCell (p:=⟨b,1,none⟩) hB _
set_option maxRecDepth 100000 in
theorem dq (B b:Nat) (bs:List Value) (s:ByteArray) (w:World) (h:Lib.IsBuilderF 139 5 B b bs w) (hlen:bs.length+s.size<=140737488355328) (hBw:B<=w.heap.size):
 Calls Tryz.prog 103 #[.pointer (some ⟨b,0,none⟩), .string s] w fun e w'=>e= .returned (.tuple #[.int .i64 s.size, .nilIface])/\(Lib.BuilderAtF 139 5 B b (.pointer (some ⟨b,0,none⟩)) (bs++Lib.strCells s) w'/\Below B w w'/\Lib.OthersKept 5 (some b) w w'):=by
 obtain⟨i0,hi,hz0,hz1,hz2⟩:=info_parts rW
 go_enter func103,ntmps103
 go_wp2_with (go_at_call 145;refine(oM B b bs _ h).mono ?_)
 rintro e w1 ⟨rfl,h1,hb1,hk1⟩;obtain⟨hB,v,hbk,hown,hne⟩:=h1;have c0:w1.cell? ⟨b,0,none⟩=some (.pointer (some ⟨b,0,none⟩)):=by rw[Lib.cell_of_heap hbk];rfl
 have c1:w1.cell? ⟨b,1,none⟩=some v:=by rw[Lib.cell_of_heap hbk];rfl
 go_wp2_with (at_builtin;refine Lib.wpList_append_own_stringF _ rfl _ _ 137 9 rfl B 5 i0 underlying137 underlying9 hi hz0 hz1 hz2 _ _ _ rfl hown s rfl ?c3 ?c4 ?c5 ?_)
 case c3=>unfold maxLen;omega
 case c4=>omega
 case c5=>have:=hb1.size;omega
 intro v' w2 hown' hgrow _
 have hlt:b<w1.heap.size:=by
  exact Mn
 have hb2:w2.heap[b]? =some (.cells #[.pointer (some ⟨b,0,none⟩),v] 139 (0,0)):=by
  rw[hgrow.block b hlt (fun e=>hne e.symm)];exact hbk
 have d0:w2.cell? ⟨b,0,none⟩=some (.pointer (some ⟨b,0,none⟩)):=by rw[Lib.cell_of_heap hb2];rfl
 have d1:w2.cell? ⟨b,1,none⟩=some v:=by rw[Lib.cell_of_heap hb2];rfl
 have f1:w2.frozen? ⟨b,1,none⟩=false:=Lib.frozen_of_heap hb2 1
 obtain⟨ao,n',cap,rfl⟩:∃ao n' cap,v'= .slice ao n' cap:=by
  rcases hown'.2 with⟨hv,_⟩| ⟨g,cap,cur,fz,hv,_⟩
  ·exact⟨_,_,_,hv⟩
  ·exact⟨_,_,_,hv⟩
 go_wp2
 go_ret2
 refine⟨rfl,?_,?_,(hk1.grown hgrow (Lib.ownsRowF_kind hown)).setCell ⟨b,1,none⟩ rfl _⟩
 ·exact Lib.BuilderAtF.put (T:=139) (e:=5) hB hb2 (bs':=bs++Lib.strCells s) (by simpa[Lib.strCells_length]using hown') (by decide)
 ·exact(hb1.grown hgrow (by have:=hb1.size;omega) (fun k hk=>(hown.lt k hk).1)).setCell (p:=⟨b,1,none⟩) hB _
end
end Go.Proofs.YtnchbpoopnjghaaGreatDoor
