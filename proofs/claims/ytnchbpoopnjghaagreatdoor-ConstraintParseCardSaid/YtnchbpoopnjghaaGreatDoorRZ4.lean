/- Parts of a proof: contracts of the functions that the laws reach. -/
import Derived.Test.YtnchbpoopnjghaaGreatDoorRZ3
set_option maxHeartbeats 100000000
set_option linter.all false
open Go.Proofs.Tryz
namespace Go.Proofs.YtnchbpoopnjghaaGreatDoor
open Go.RowKit
def G9{q:Rat}{n:Int}{d:Nat}(f:0<d)(a:Nat.gcd n.natAbs d=1)(h:n*q.den=q.num*d):q.num=n/\q.den=d:=by
 have b:(⟨n,d,by omega,a⟩:Rat)=q:=by have c:=Rat.num_divInt_den (⟨n,d,by omega,a⟩:Rat);have e:=Rat.num_divInt_den q;rw[<- c,<- e,Rat.divInt_eq_divInt_iff (by show(d:Int)≠0;omega) (by have:=q.den_nz;omega)];exact h
 exact⟨by rw[<- b],by rw[<- b]⟩
def gz(n d:Int):Int:=if d<0 then -((Nat.gcd n.natAbs d.natAbs:Nat):Int)else(Nat.gcd n.natAbs d.natAbs:Nat)
def D4{n d:Int}(h:d≠0):gz n d≠0:=by have:0<Nat.gcd n.natAbs d.natAbs:=Nat.gcd_pos_of_pos_right _ O_;unfold gz;split <;>omega
def qa{a b c:Int}(h:b≠0)(e:a=b*c):a.fdiv b=c:=by rw[e];exact Int.mul_fdiv_cancel_left _ h
def sK{n d:Int}(y:d≠0):n.fdiv (gz n d)=(Rat.divInt n d).num/\d.fdiv (gz n d)=((Rat.divInt n d).den:Int)/\n=gz n d*(Rat.divInt n d).num/\d=gz n d*((Rat.divInt n d).den:Int):=by
 have g:=D4 (n:=n) y;obtain⟨a,r⟩:((Nat.gcd n.natAbs d.natAbs:Nat):Int)∣n:=Int.ofNat_dvd_left.2 (Nat.gcd_dvd_left _ _);obtain⟨b,f⟩:((Nat.gcd n.natAbs d.natAbs:Nat):Int)∣d:=Int.ofNat_dvd_left.2 (Nat.gcd_dvd_right _ _);have z:0<Nat.gcd n.natAbs d.natAbs:=Nat.gcd_pos_of_pos_right _ O_;obtain⟨G,hG⟩:∃G,Nat.gcd n.natAbs d.natAbs=G:=⟨_,rfl⟩;have u:=hG;rw[hG]at r f z;have v:Nat.gcd a.natAbs b.natAbs=1:=by rw[r,f,Int.natAbs_mul,Int.natAbs_mul,b_,Nat.gcd_mul_left]at hG;exact Nat.eq_of_mul_eq_mul_left z O_
 obtain⟨s,i,c⟩:∃s:Int,gz n d=G*s/\(s=1/\0<b∨s= -1/\b<0):=by
  unfold gz;rw[u];have E:b≠0:=by rintro rfl;simp at f;omega
  split
  ·refine⟨-1,by omega, .inr ⟨rfl,?_⟩⟩;rcases Int.lt_trichotomy b 0 with h|h|h
   ·exact h
   ·omega
   ·have:0<(G:Int)*b:=Int.mul_pos O_ h;omega
  ·refine⟨1,by omega, .inl ⟨rfl,?_⟩⟩;rcases Int.lt_trichotomy b 0 with h|h|h
   ·have:0<(G:Int)*(-b):=Int.mul_pos O_ O_;rw[Int.mul_neg]at this;omega
   ·omega
   ·exact h
 have A:(Rat.divInt n d).num=s*a/\(Rat.divInt n d).den=(s*b).toNat:=by
  refine G9 ?_ ?_ ?_
  ·rcases c with⟨rfl,h⟩| ⟨rfl,h⟩<;>omega
  ·have e:(s*b).toNat=b.natAbs:=by rcases c with⟨rfl,h⟩| ⟨rfl,h⟩<;>omega
   have m:(s*a).natAbs=a.natAbs:=by rcases c with⟨rfl,h⟩| ⟨rfl,h⟩<;>omega
   rw[e,m,v]
  ·have B:=Rat.num_divInt_den (Rat.divInt n d);have h0:((Rat.divInt n d).den:Int)≠0:=by have:=(Rat.divInt n d).den_nz;omega
   have x:=(Rat.divInt_eq_divInt_iff h0 y).1 B;have t:((s*b).toNat:Int)=s*b:=by
    have:0<=s*b:=by rcases c with⟨rfl,h⟩| ⟨rfl,h⟩<;>omega
    omega
   rw[t];generalize(Rat.divInt n d).num=p at *;generalize((Rat.divInt n d).den:Int)=q at *;rw[r,f]at x;have C:(G:Int)*(p*b)=G*(a*q):=by rw[<- Int.mul_assoc,Int.mul_comm (G:Int) p,Int.mul_assoc,x,Int.mul_assoc]
   have D:=Int.eq_of_mul_eq_mul_left O_ C;rw[Int.mul_assoc,<- D];simp[Int.mul_left_comm,Int.mul_comm]
 have j:s*s=1:=by rcases c with⟨rfl,_⟩| ⟨rfl,_⟩<;>rfl
 have w:n=gz n d*(Rat.divInt n d).num:=by rw[i,A.1,Int.mul_assoc,<- Int.mul_assoc s s a,j,Int.one_mul];exact r
 have m:d=gz n d*((Rat.divInt n d).den:Int):=by
  have t:((s*b).toNat:Int)=s*b:=by
   have:0<=s*b:=by rcases c with⟨rfl,h⟩| ⟨rfl,h⟩<;>omega
   omega
  rw[i,A.2,t,Int.mul_assoc,<- Int.mul_assoc s s b,j,Int.one_mul];exact f
 exact⟨qa g w,qa g m,w,m⟩
def kS(q:Rat):Rat.divInt q.num q.den=q:=Rat.num_divInt_den q
def iD(q:Rat):0<(q.den:Int):=by have:=q.den_nz;omega
def tT(a b:Rat):Rat.divInt (a.num*b.num) (a.den*b.den)=a*b:=by have h:=Rat.divInt_mul_divInt a.num b.num (d₁:=a.den) (d₂:=b.den);rw[Rat.num_divInt_den,Rat.num_divInt_den]at h;exact h.symm
def AT{q:Rat}{n:Int}(h:q=n):q.num=n/\q.den=1:=by subst h;exact⟨rfl,rfl⟩
def vQ{q:Rat}(h:q.den=1):q=(q.num:Rat):=Rat.ext rfl h
def nU{a b:Rat}(c:a.den=1)(d:b.den=1):(a*b).num=a.num*b.num/\(a*b).den=1:=by refine AT ?_;rw[vQ c,vQ d];simp
def Lu(a b:Rat):(a*b).num=(a.num/(Nat.gcd a.num.natAbs b.den:Nat))*(b.num/(Nat.gcd b.num.natAbs a.den:Nat))/\(a*b).den=(a.den/Nat.gcd b.num.natAbs a.den)*(b.den/Nat.gcd a.num.natAbs b.den):=by show(Rat.mul a b).num=_/\(Rat.mul a b).den=_;rw[Rat.mul.eq_1];simp only[Int.divExact_eq_ediv,Nat.divExact_eq_div];exact⟨trivial,trivial⟩
def N1(q:Rat):Int:=q.num.sign
def zP(c:UInt8):Bool:=decide (cM c)
def jc{c:UInt8}:zP c=true↔cM c:=decide_eq_true_iff
def eB(t:List UInt8):List UInt8:=t.takeWhile zP
def jt(t:List UInt8):List UInt8:=t.dropWhile zP
def ip(t:List UInt8):eB t++jt t=t:=List.takeWhile_append_dropWhile
def kh(t:List UInt8):∀c∈eB t,cM c:=fun c a=>jc.1 (I_.1 (List.all_takeWhile (p:=zP) (l:=t)) c a)
def gZ{a b:List UInt8}(h:∀c∈a,cM c):eB (a++b)=a++eB b/\jt (a++b)=jt b:=by
 induction a with
 |nil=>exact⟨rfl,rfl⟩
 |cons x a i=>have d:=jc.2 (h x S_);obtain⟨e,f⟩:=i (fun c g=>h c (by simp[g]));unfold eB jt at *;rw[List.cons_append,List.takeWhile_cons_of_pos d,List.dropWhile_cons_of_pos d,e,f];exact⟨rfl,rfl⟩
def gU{c:UInt8}{b:List UInt8}(h:¬cM c):eB (c::b)=[]/\jt (c::b)=c::b:=by have a:¬zP c=true:=fun e=>h (jc.1 e);unfold eB jt;exact⟨List.takeWhile_cons_of_neg a,List.dropWhile_cons_of_neg a⟩
def pm{a:List UInt8}(h:∀c∈a,cM c):eB a=a/\jt a=[]:=by have:=gZ (b:=[]) h;simpa[eB,jt]using this
def FX{t:List UInt8}{c:UInt8}{b:List UInt8}(h:jt t=c::b):¬cM c:=by intro a;unfold jt at h;have:=List.head?_dropWhile_not (p:=zP) (l:=t);rw[h]at this;simp[jc.2 a]at this
def sF{a:List UInt8}(h:¬∀c∈a,cM c):∃p c r,a=p++c::r/\(∀x∈p,cM x)/\ ¬cM c:=by
 have e:=ip a;cases hr:jt a with
 |nil=>rw[hr,c_]at e;exact absurd (fun c b=>kh a c (by rw[e];exact b)) h
 |cons c r=>exact⟨eB a,c,r,by rw[<- hr,e],kh a,FX hr⟩
open Classical in
noncomputable def fJ(t:List UInt8):Option Rat:=
 if iz false (eB t)then
  match jt t with
  | []=>some ((num (eB t):Int):Rat)
  |c::b=>
   if c=46 then(if b≠[]/\(∀x∈b,cM x)then some (Rat.divInt ((num (eB t)*10^b.length+num b:Nat):Int) ((10^b.length:Nat):Int))else none)
   else if c=47 then(if iz false b/\num b≠0/\num b≠1/\Nat.gcd (num (eB t)) (num b)=1 then some (Rat.divInt (num (eB t):Int) (num b:Int))else none)
   else none
 else none
def Gr:¬cM 47:=D_
def Qt:¬cM 46:=D_
def d7{a:List UInt8}(h:iz false a):∀c∈a,cM c:=h.2.1
open Classical in
def Fz{a b:List UInt8}(ha:47 ∉ a):fJ (a++47::b)=if iz false a/\iz false b/\num b≠0/\num b≠1/\Nat.gcd (num a) (num b)=1 then some (Rat.divInt (num a:Int) (num b:Int))else none:=by
 by_cases h:∀c∈a,cM c
 ·have h1:=gZ (b:=47::b) h;obtain⟨h2,h3⟩:=gU (b:=b) Gr;rw[h2,h3,c_]at h1;unfold fJ;rw[h1.1,h1.2];by_cases ho:iz false a
  ·rw[if_pos ho];dsimp only;rw[if_neg D_,if_pos rfl];by_cases hb:iz false b/\num b≠0/\num b≠1/\Nat.gcd (num a) (num b)=1
   ·rw[if_pos hb,if_pos ⟨ho,hb⟩]
   ·rw[if_neg hb,if_neg (fun h=>hb h.2)]
  ·rw[if_neg ho,if_neg (fun h=>ho h.1)]
 ·rw[if_neg (fun e=>h (d7 e.1))];obtain⟨p,c,r,rfl,hp,hc⟩:=sF h;have h1:=gZ (b:=c::(r++47::b)) hp;obtain⟨h2,h3⟩:=gU (b:=r++47::b) hc;rw[h2,h3,c_]at h1;unfold fJ;rw[show p++c::r++47::b=p++c::(r++47::b) by simp,h1.1,h1.2];split
  ·dsimp only;split
   ·rw[if_neg (fun e=>Gr (e.2 47 S_))]
   ·rw[if_neg (fun e=>ha (by rw[e];simp))]
  ·rfl
open Classical in
def Dx{a b:List UInt8}(h47:47 ∉ a++46::b)(ha:46 ∉ a):fJ (a++46::b)=if iz false a/\b≠[]/\(∀x∈b,cM x)then some (Rat.divInt ((num a*10^b.length+num b:Nat):Int) ((10^b.length:Nat):Int))else none:=by
 by_cases h:∀c∈a,cM c
 ·have h1:=gZ (b:=46::b) h;obtain⟨h2,h3⟩:=gU (b:=b) Qt;rw[h2,h3,c_]at h1;unfold fJ;rw[h1.1,h1.2];by_cases ho:iz false a
  ·rw[if_pos ho];dsimp only;rw[if_pos rfl];by_cases hb:b≠[]/\(∀x∈b,cM x)
   ·rw[if_pos hb,if_pos ⟨ho,hb⟩]
   ·rw[if_neg hb,if_neg (fun h=>hb h.2)]
  ·rw[if_neg ho,if_neg (fun h=>ho h.1)]
 ·rw[if_neg (fun e=>h (d7 e.1))];obtain⟨p,c,r,rfl,hp,hc⟩:=sF h;have h1:=gZ (b:=c::(r++46::b)) hp;obtain⟨h2,h3⟩:=gU (b:=r++46::b) hc;rw[h2,h3,c_]at h1;unfold fJ;rw[show p++c::r++46::b=p++c::(r++46::b) by simp,h1.1,h1.2];split
  ·dsimp only;rw[if_neg (fun e=>ha (by rw[e];simp)),if_neg (fun e=>h47 (by rw[e];simp))]
  ·rfl
open Classical in
def yH{a:List UInt8}(h47:47 ∉ a)(h46:46 ∉ a):fJ a=if iz false a then some ((num a:Int):Rat)else none:=by
 by_cases h:∀c∈a,cM c
 ·have h1:=pm h;unfold fJ;rw[h1.1,h1.2]
 ·rw[if_neg (fun e=>h (d7 e))];obtain⟨p,c,r,rfl,hp,hc⟩:=sF h;have h1:=gZ (b:=c::r) hp;obtain⟨h2,h3⟩:=gU (b:=r) hc;rw[h2,h3,c_]at h1;unfold fJ;rw[h1.1,h1.2];split
  ·dsimp only;rw[if_neg (fun e=>h46 (by rw[e];simp)),if_neg (fun e=>h47 (by rw[e];simp))]
  ·rfl
open Classical in
noncomputable def b8(s:List UInt8):Option Rat:=
 if s.length<=65536 then
  match fJ (dA s)with
  |none=>none
  |some q=>if bL s=true then(if q=0 then none else some (-q))else some q
 else none
def jQ(n:Nat):List UInt8:=if n=0 then [48]else ka n
def rB(n:Nat):fmt (n:Int)=jQ n:=by
 unfold fmt jQ;by_cases h:n=0
 ·subst h;rfl
 ·rw[if_neg O_,if_neg h,if_neg O_,b_];rfl
def Fx(z:Int):fmt z=(if z<0 then [45]else [])++jQ z.natAbs:=by
 unfold fmt jQ;by_cases h:z=0
 ·subst h;rfl
 ·rw[if_neg h,if_neg (show ¬z.natAbs=0 by omega)]
def nX(n:Nat):∀c∈jQ n,cM c:=by
 unfold jQ;split
 ·intro c a;simp at a;subst a;decide
 ·exact Ms n
def DM(n:Nat):iz false (jQ n):=by
 refine⟨?_,nX n,?_⟩
 ·unfold jQ;split
  ·simp
  ·rename_i h;obtain⟨c,r,e,_⟩:=nC h;rw[e];simp
 ·unfold jQ;split
  ·exact .inr ⟨rfl,rfl⟩
  ·rename_i h;obtain⟨c,r,e,b⟩:=nC h;exact .inl fun x y a=>by rw[e]at a;cases a;exact b
def AA(n:Nat):num (jQ n)=n:=by
 unfold jQ;split
 ·rename_i h;subst h;rfl
 ·exact LH n
def Li(n:Nat){c:UInt8}(a:¬cM c):c ∉ jQ n:=fun h=>a (nX n c h)
def CJ{b:Bool}{l:List UInt8}(h:∀c r,l=c::r->cM c):dA ((if b=true then [45]else [])++l)=l/\bL ((if b=true then [45]else [])++l)=b:=by
 cases b
 ·simp only[Bool.false_eq_true,if_false,List.nil_append];cases l with
  |nil=>exact⟨rfl,rfl⟩
  |cons c r=>have a:=h c r rfl;have:(c == 45)=false:=beq_eq_false_iff_ne.2 (fun e=>by subst e;exact absurd a D_);exact⟨by show(if(c == 45)=true then r else c::r)=_;rw[this];rfl,this⟩
 ·exact⟨rfl,rfl⟩
def Ge(k:Nat)(l:List UInt8):num (List.replicate k 48++l)=num l:=by
 induction k with
 |zero=>rfl
 |succ k a=>rw[List.replicate_succ,List.cons_append];exact a
def JJ(l:List UInt8):List UInt8:=l.dropWhile (· == 48)
def DC(l:List UInt8):num (JJ l)=num l:=by
 induction l with
 |nil=>rfl
 |cons c l a=>
  unfold JJ at *
  by_cases h:c=48
  ·subst h;rw[List.dropWhile_cons_of_pos rfl,a];rfl
  ·rw[List.dropWhile_cons_of_neg (by simpa using h)]
def QF{l:List UInt8}(h:∀c∈l,cM c)(b:JJ l≠[]):iz false (JJ l):=by refine⟨b,fun c a=>h c (List.dropWhile_sublist _ |>.subset a), .inl fun c r e=>?_⟩;have:=List.head?_dropWhile_not (p:=(· == (48:UInt8))) (l:=l);unfold JJ at e;rw[e]at this;simpa using this
def aQ(q:Rat):List AV:=aZ q.num++aZ q.den
def dQ(q:Rat):DV:= .agg (aQ q)
def FH(na:Bool)(xs:List Nat)(nb:Bool)(ys:List Nat):List AV:=aI na xs++aI nb ys
def Gp(na:Bool)(xs:List Nat)(nb:Bool)(ys:List Nat):DV:= .agg (FH na xs nb ys)
def pk:List AV:=[.val (.bool false), .sl 0 [], .val (.bool false), .sl 0 []]
def HI:DV:= .agg pk
def Sz(k:Nat)(z:Int):Prop:=z.natAbs<4294967296^k
def Sz.fit{k:Nat}{z:Int}(h:Sz k z)(a:k<=2147483648):bZ z:= .of_lt h a
def Sz.mono{j k:Nat}{z:Int}(h:Sz j z)(a:j<=k):Sz k z:=k_ h (Nat.pow_le_pow_right D_ a)
def Sz.of_le{k:Nat}{a b:Int}(h:Sz k b)(c:a.natAbs<=b.natAbs):Sz k a:=Nat.lt_of_le_of_lt c h
def Sz.mul{j k:Nat}{a b:Int}(h:Sz j a)(c:Sz k b):Sz (j+k) (a*b):=by unfold Sz at *;rw[Int.natAbs_mul,Nat.pow_add];exact Nat.mul_lt_mul'' h c
def Sz.add{k:Nat}{a b:Int}(h:Sz k a)(c:Sz k b):Sz (k+1) (a+b):=by unfold Sz at *;have:=Int.natAbs_add_le a b;have:0<4294967296^k:=Nat.pow_pos D_;rw[Nat.pow_succ];omega
def Sz.neg{k:Nat}{a:Int}(h:Sz k a):Sz k (-a):=by unfold Sz at *;rw[Int.natAbs_neg];exact h
def Sz.small{z:Int}(h:z.natAbs<4294967296):Sz 1 z:=by unfold Sz;simpa using h
def Sz.gcd{k:Nat}{n d:Int}(h:Sz k d)(a:d≠0):Sz k (Nat.gcd n.natAbs d.natAbs:Nat):=by refine h.of_le ?_;rw[b_];exact Nat.le_of_dvd O_ (Nat.gcd_dvd_right _ _)
def Sz.digs{k:Nat}{z:Int}(h:Sz k z):(digs z.natAbs).length<=k:=aL h
def Sz.of_digs{k:Nat}{z:Int}(h:(Go.Proofs.YtnchbpoopnjghaaGreatDoor.digs z.natAbs).length<=k):Sz k z:=bE h
def nz(k:Nat)(q:Rat):Prop:=Sz k q.num/\Sz k q.den
def nz.divInt{k:Nat}{n d:Int}(h:Sz k n)(c:Sz k d)(a:d≠0):nz k (Rat.divInt n d):=by
 obtain⟨_,_,e,f⟩:=sK (n:=n) (d:=d) a;have b:0<(gz n d).natAbs:=by have:=D4 (n:=n) a;omega
 refine⟨h.of_le ?_,c.of_le ?_⟩
 ·conv=>rhs;rw[e,Int.natAbs_mul]
  exact Nat.le_mul_of_pos_left _ b
 ·conv=>rhs;rw[f,Int.natAbs_mul]
  exact Nat.le_mul_of_pos_left _ b
def nz.neg{k:Nat}{a:Rat}(h:nz k a):nz k (-a):=⟨by rw[Rat.neg_num];exact h.1.neg,h.2⟩
def nz.mul{j k:Nat}{a b:Rat}(h:nz j a)(c:nz k b):nz (j+k) (a*b):=by rw[<- tT];exact .divInt (h.1.mul c.1) (h.2.mul c.2) (by have:=Int.mul_pos (iD a) (iD b);omega)
def oy{z:Int}:(!decide (z<0) && decide (digs z.natAbs=[1]))=decide (z=1):=by
 by_cases h:z=1
 ·subst h;rw[show(1:Int).natAbs=1 from rfl,BH D_ D_];rfl
 ·rw[F_ h];by_cases b:z<0
  ·simp[b]
  ·have:digs z.natAbs≠[1]:=fun e=>by have a:=congrArg val e;rw[ae]at a;simp[val]at a;omega
   simp[this]
def jH{z:Int}:decide (((digs z.natAbs).length:Int)=0)=decide (z=0):=by
 have:=aU (n:=z.natAbs);by_cases h:z=0
 ·subst h;rw[T_ rfl];exact T_ (by have:=this.2 rfl;omega)
 ·rw[F_ h];exact F_ (fun e=>h (by have:=this.1 O_;omega))
def Am:aa prog 191 [] (.one (dZ 1)):=by refine kV func191 ?_;refine ac (fx 1 D_ D_) rfl rfl rfl rfl rfl rfl rfl ?_;exact am
def Bt{na:Bool}{xs:List Nat}{b:Bool}(c:(!na && decide (xs=[1]))=b):aa prog 189 [dI na xs] (.one (dB b)):=by
 subst c;cases na
 ·match xs with
  | []=>refine kU func189 ?_;exact am
  | [x]=>refine kV func189 ?_;refine aS (cs':=[AV.val (bP x)]) (i:=0) (m_ 0) (fun j a h=>by simpa using h) (m_ 0) rfl rfl rfl rfl rfl rfl rfl rfl ?_;refine kW ?_;rw[show(!false && decide ([x]=[1]))=decide ((x:Int)=1) by by_cases h:x=1<;>simp[h]<;>omega];exact co (T:=TT) rfl rfl
  |x::y::r=>
   refine kU func189 ?_;refine kR ?_;refine kI ?_;iterate 7 refine kO ?_
   refine kB false ?_ ?_
   ·exact F_ (by simp only[List.length_cons];omega)
   refine kW ?_;rw[show(!false && decide (x::y::r=[1]))=false by simp];exact co (T:=TT) rfl rfl
 ·refine kU func189 ?_;exact am
def FI{na:Bool}{xs:List Nat}{b:Bool}(c:(!na && decide (xs=[1]))=b):aa prog 220 [dI na xs] (.one (dB b)):=by
 subst c
 match xs with
 | []=>refine kV func220 ?_;rw[show(!na && decide (([]:List Nat)=[1]))=false by simp];exact co (T:=TT) rfl rfl
 | [x]=>
  refine kV func220 ?_;refine aS (cs':=[AV.val (bP x)]) (i:=0) (m_ 0) (fun j a h=>by simpa using h) (m_ 0) rfl rfl rfl rfl rfl rfl rfl rfl ?_;refine kO ?_;by_cases h:x=1
  ·refine kT ?_;refine kW ?_;rw[show(!na && decide ([x]=[1]))=!na by simp[h]];exact co (T:=TT) rfl rfl
  ·refine kE ?_;refine kW ?_;rw[show(!na && decide ([x]=[1]))=false by simp[h]];exact co (T:=TT) rfl rfl
 |x::y::r=>
  refine kU func220 ?_;refine kR ?_;refine kI ?_;refine kO3 ?_;refine kB false ?_ ?_
  ·exact F_ (by simp only[List.length_cons];omega)
  refine kW ?_;rw[show(!na && decide (x::y::r=[1]))=false by simp];exact co (T:=TT) rfl rfl
def bK{z:Int}{b:Bool}(a:decide (z=1)=b):aa prog 189 [dZ z] (.one (dB b)):=Bt (by rw[oy,a])
def dh{z:Int}{b:Bool}(a:decide (z=1)=b):aa prog 220 [dZ z] (.one (dB b)):=FI (by rw[oy,a])
def gH{z:Int}{b:Bool}(a:decide (z=0)=b):aa prog 298 [dZ z] (.one (dB b)):=by refine kV func298 ?_;rw[<- a,<- jH];exact co (T:=TT) rfl rfl
def oM{a b c:Int}(f:bZ a)(g:bZ b)(i:b≠0)(h:a.fdiv b=c):aa prog 261 [dZ a,dZ b] (.one (dZ c)):=by
 by_cases d:b=1
 ·subst d;rw[Int.fdiv_one]at h;subst h;refine kV func261 ?_;refine kC (bK (z:=1) (b:=true) rfl) ?_;exact am
 ·refine kV func261 ?_;refine kQ (bK (z:=b) (b:=false) (F_ d)) ?_;refine kC (xk f g i h rfl) ?_;exact am
def eY{a b c:Int}(d:bZ a)(f:bZ b)(g:b≠0)(h:a.fdiv b=c):aa prog 225 [dZ a,dZ b] (.one (dZ c)):=by refine kV func225 ?_;refine kC (uC d f g h rfl) ?_;exact am
def Ig{n d:Int}{g:Nat}(a:Nat.gcd n.natAbs d.natAbs=g)(h:¬d<0):gz n d=g:=by unfold gz;rw[if_neg h,a]
def Ks{n d:Int}{g:Nat}(a:Nat.gcd n.natAbs d.natAbs=g)(h:d<0):gz n d= -(g:Int):=by unfold gz;rw[if_pos h,a]
def qk{k:Nat}{n d:Int}{q:Rat}(r:Sz k n)(f:Sz k d)(b:k<=2147483648)(t:d≠0)(u:Rat.divInt n d=q):aa prog 193 [dZ n,dZ d] (.one (dQ q)):=by
 subst u;obtain⟨j,m,_,_⟩:=sK (n:=n) t;have a:=D4 (n:=n) t;have c:=f.gcd (n:=n) t;obtain⟨g,i⟩:∃g,Nat.gcd n.natAbs d.natAbs=g:=⟨_,rfl⟩;rw[i]at c;by_cases h:d<0
 ·rw[Ks i h]at j m a;refine kV func193 ?_;refine kQ (lR (r.fit b) (f.fit b) i) ?_;refine fX (T:=TT) rfl ?_ ?_
  ·exact T_ h
  refine kW ?_;refine kQ (uY (c.fit b)) ?_;refine kQ (oM (r.fit b) (c.neg.fit b) a j) ?_;refine kC (oM (f.fit b) (c.neg.fit b) a m) ?_;exact am
 ·rw[Ig i h]at j m a;refine kV func193 ?_;refine kQ (lR (r.fit b) (f.fit b) i) ?_;refine eR (T:=TT) rfl ?_ ?_
  ·exact F_ h
  refine kW ?_;refine kQ (oM (r.fit b) (c.fit b) a j) ?_;refine kC (oM (f.fit b) (c.fit b) a m) ?_;exact am
def tX{k:Nat}{n d:Int}{q:Rat}(h1:Sz k n)(h2:Sz k d)(hk:k<=2147483648)(i:d≠0)(j:Rat.divInt n d=q):aa prog 262 [dZ n,dZ d] (.one (dQ q)):=by
 subst j;obtain⟨c,f,_,_⟩:=sK (n:=n) i;have a:=D4 (n:=n) i;have b:=h2.gcd (n:=n) i;obtain⟨g,hg⟩:∃g,Nat.gcd n.natAbs d.natAbs=g:=⟨_,rfl⟩;rw[hg]at b;by_cases h:d<0
 ·rw[Ks hg h]at c f a;have hs:aa prog 100 [dZ d] (.one (dN .i64 (-1))):=by have:=gg d;rwa[Int.sign_eq_neg_one_of_neg h]at this
  refine P7 ?_;refine kQ (mC g) ?_;refine kQ (eY (h1.fit hk) (b.neg.fit hk) a c) ?_;refine kC (eY (h2.fit hk) (b.neg.fit hk) a f) ?_;exact am
 ·rw[Ig hg h]at c f a;have hs:aa prog 100 [dZ d] (.one (dN .i64 1)):=by have:=gg d;rwa[Int.sign_eq_one_of_pos O_]at this
  refine P7 ?_;refine kQ (eY (h1.fit hk) (b.fit hk) a c) ?_;refine kC (eY (h2.fit hk) (b.fit hk) a f) ?_;exact am
def xu(k:Int)(a: -9223372036854775808<=k)(b:k<9223372036854775808){q:Rat}(c:(k:Rat)=q):aa prog 135 [dN .i64 k] (.one (dQ q)):=by subst c;refine kV func135 ?_;refine kC (fx k a b) ?_;exact DX
def mh(k:Int)(a: -9223372036854775808<=k)(b:k<9223372036854775808){q:Rat}(c:(k:Rat)=q):aa prog 36 [dN .i64 k] (.one (dQ q)):=by subst c;refine kV func36 ?_;refine kC (c8 k a b) ?_;refine KY ?_;exact am
def GK{k:Nat}{a q:Rat}(h:nz k a)(b:k<=2147483648)(c: -a=q):aa prog 254 [dQ a] (.one (dQ q)):=by subst c;refine kV func254 ?_;refine kC (uY (h.1.fit b)) ?_;exact am
def vF(a:Rat):aa prog 97 [dQ a] (.one (dN .i64 (N1 a))):=by refine kV func97 ?_;refine kC (Bu a.num) ?_;exact am
def sU(a:Rat):aa prog 58 [dQ a] (.one (dN .i64 (N1 a))):=by refine kV func58 ?_;refine kC (gg a.num) ?_;exact am
def C8{q:Rat}{n d:Int}(a:q.num=n)(b:(q.den:Int)=d):dQ q= .agg (aZ n++aZ d):=by unfold dQ aQ;rw[a,b]
def Ij(a:Rat):decide ((a.den:Int)=1)=decide (a.den=1):=by by_cases h:a.den=1<;>simp[h]<;>omega
def vq{a:Rat}(h:a.den=1):decide ((a.den:Int)=1)=true:=by rw[Ij];exact T_ h
def C0{a:Rat}(h:¬a.den=1):decide ((a.den:Int)=1)=false:=by rw[Ij];exact F_ h
def G5{z:Int}(h:z=0):decide (((digs z.natAbs).length:Int)=0)=true:=jH.trans (T_ h)
def C4{z:Int}(h:¬z=0):decide (((digs z.natAbs).length:Int)=0)=false:=jH.trans (F_ h)
def tI(a:Int)(g:Nat):a.fdiv g=a/g:=Int.fdiv_eq_ediv_of_nonneg _ O_
def D6(a g:Nat):(a:Int).fdiv g=((a/g:Nat):Int):=by rw[tI];rfl
def IB{j k:Nat}{a b q:Rat}(h:nz j a)(h':nz k b)(hk:j+k<=2147483648)(g:a*b=q):aa prog 176 [dQ a,dQ b] (.one (dQ q)):=by
 subst g;have d0:(a.den:Int)*b.den≠0:=by have:=Int.mul_pos (iD a) (iD b);omega
 by_cases c:a.den=1
 ·by_cases f:b.den=1
  ·rw[C8 (nU c f).1 (d:=1) (by rw[(nU c f).2];rfl)];refine kV func176 ?_;refine kQ (bK (vq c)) ?_;refine kQ (bK (vq f)) ?_;refine ac (gS (h.1.fit O_) (h'.1.fit O_)) rfl rfl rfl rfl rfl rfl rfl ?_;exact DX
  ·refine kV func176 ?_;refine kQ (bK (vq c)) ?_;refine kC (bK (C0 f)) ?_;refine SA ?_;exact am
 ·refine kV func176 ?_;refine kC (bK (C0 c)) ?_;refine SA ?_;exact am
def Fj{j k:Nat}{a b q:Rat}(h:nz j a)(h':nz k b)(y:j+k<=2147483648)(w:a*b=q):aa prog 158 [dQ a,dQ b] (.one (dQ q)):=by
 subst w;by_cases ha0:a.num=0
 ·have e:a*b=0:=by rw[Rat.num_eq_zero.1 ha0];exact Rat.zero_mul b
  refine kU func158 ?_;refine pi ?_;refine kB true ?_ ?_
  ·exact G5 ha0
  exact NP
 by_cases f:b.num=0
 ·have e:a*b=0:=by rw[Rat.num_eq_zero.1 f];exact Rat.mul_zero a
  refine HH ?_;refine kB true ?_ ?_
  ·exact G5 f
  exact NP
 by_cases c:a.den=1/\b.den=1
 ·rw[C8 (nU c.1 c.2).1 (d:=a.den) (by rw[(nU c.1 c.2).2,c.1])];refine HH ?_;refine kB false ?_ ?_
  ·exact C4 f
  refine kW ?_;refine kQ (dh (vq c.1)) ?_;refine kQ (dh (vq c.2)) ?_;refine ac (eT (h.1.fit O_) (h'.1.fit O_)) rfl rfl rfl rfl rfl rfl rfl ?_;exact am
 have e:=Lu a b;obtain⟨g,m⟩:∃g,Nat.gcd a.num.natAbs b.den=g:=⟨_,rfl⟩;obtain⟨t,r⟩:∃t,Nat.gcd b.num.natAbs a.den=t:=⟨_,rfl⟩;rw[m,r]at e;have hgz:Nat.gcd a.num.natAbs (b.den:Int).natAbs=g:=by rw[b_];exact m
 have htz:Nat.gcd b.num.natAbs (a.den:Int).natAbs=t:=by rw[b_];exact r
 have v:0<g:=by rw[<- m];exact Nat.gcd_pos_of_pos_right _ (Nat.pos_of_ne_zero b.den_nz)
 have x:0<t:=by rw[<- r];exact Nat.gcd_pos_of_pos_right _ (Nat.pos_of_ne_zero a.den_nz)
 have sg:Sz k g:=by rw[<- hgz];exact h'.2.gcd (by have:=iD b;omega)
 have st:Sz j t:=by rw[<- htz];exact h.2.gcd (by have:=iD a;omega)
 have s1:Sz j (a.num/g):=h.1.of_le (Int.natAbs_ediv_le_natAbs _ _);have s2:Sz k (b.num/t):=h'.1.of_le (Int.natAbs_ediv_le_natAbs _ _);have s3:Sz j (a.den/t:Nat):=h.2.of_le (by rw[b_,b_];exact Nat.div_le_self _ _);have s4:Sz k (b.den/g:Nat):=h'.2.of_le (by rw[b_,b_];exact Nat.div_le_self _ _);rw[C8 e.1 (d:=(a.den/t:Nat)*(b.den/g:Nat)) (by rw[e.2];rfl)];refine HH ?_;refine kB false ?_ ?_
 ·exact C4 f
 refine kW ?_;by_cases i:a.den=1
 ·have u:¬b.den=1:=fun e=>c ⟨i,e⟩;refine kQ (dh (vq i)) ?_;refine kC (dh (C0 u)) ?_;refine SB ?_;exact am
 ·refine kC (dh (C0 i)) ?_;refine SB ?_;exact am
def CG(s:List UInt8):aa prog 109 [dL s,dL [45]] (.tup [dL (dA s),dB (bL s)]):=
 ⟨aD func109 rfl rfl,fun S w q t p=>by
  match q,p with
  | [v,u],⟨a,b,_⟩=>
   obtain rfl:=bc a;obtain rfl:=bc b;refine(Tryz.strings_CutPrefix (Bs s) (Bs [45]) w).mono ?_;rintro e y ⟨rfl,rfl⟩;have g:(⟨(Lib.trimPrefix (Bs s).data.toList (Bs [45]).data.toList).toArray⟩:ByteArray)=Bs (dA s):=by
    unfold Bs;congr 2;cases s with
    |nil=>rfl
    |cons c r=>
     by_cases h:c=45
     ·simp[Lib.trimPrefix,Lib.hasPrefix,dA,h,List.isPrefixOf]
     ·have m:¬45=c:=fun e=>h e.symm;simp[Lib.trimPrefix,Lib.hasPrefix,dA,h,m,List.isPrefixOf]
   have j:Lib.hasPrefix (Bs s).data.toList (Bs [45]).data.toList=bL s:=by
    cases s with
    |nil=>rfl
    |cons c r=>
     by_cases h:c=45
     ·simp[Bs,Lib.hasPrefix,bL,h,List.isPrefixOf]
     ·have d:(45 == c)=false:=beq_eq_false_iff_ne.2 fun e=>h e.symm;have f:(c == 45)=false:=beq_eq_false_iff_ne.2 h;simp[Bs,Lib.hasPrefix,bL,d,f,List.isPrefixOf]
   rw[g,j];refine⟨_,rfl,⟨[.string (Bs (dA s)), .bool (bL s)],rfl,rfl,fun i x u a b=>?_⟩,Below.refl _ _⟩
   match i with
   |0=>simp at a b;subst a b;exact AV.M.val rfl
   |1=>simp at a b;subst a b;exact AV.M.val rfl
   |i+2=>simp at a⟩
def pV:List Nat->TV
 | []=> .nil
 |a::r=> .own 1000001 (a::r).length 1 135
def pX:List Nat->Option (List AV)
 | []=>none
 |a::r=>some ((a::r).map fun x:Nat=>AV.val (bP x))
def m8(a b:List UInt8):num (a++b)=num a*10^b.length+num b:=by
 have:∀n(b:List UInt8),b.length=n->num (a++b)=num a*10^b.length+num b:=by
  intro n;induction n with
  |zero=>intro b d;rw[E_ d];simp[num]
  |succ n g=>
   intro b d;obtain⟨f,c,rfl⟩:∃e c,b=e++[c]:=by
    rcases List.eq_nil_or_concat b with h| ⟨e,c,h⟩
    ·subst h;simp at d
    ·exact⟨e,c,by simpa using h⟩
   rw[<- e_,f9,g f (by simpa using d),f9,L_,List.length_singleton,Nat.pow_succ];generalize num a=x,10^f.length=y;rw[<- Nat.mul_assoc,Nat.mul_comm (x*y) 10];omega
 exact this _ b rfl
def Jo{m:List Nat}(h:0<m.length):pV m= .own 1000001 m.length 1 135:=by
 cases m with
 |nil=>exact absurd h D_
 |cons a r=>rfl
def Gu{m:List Nat}(h:0<m.length):pX m=some (m.map fun x:Nat=>AV.val (bP x)):=by
 cases m with
 |nil=>exact absurd h D_
 |cons a r=>rfl
def yr{F C c w i v t:Nat}(a:F<=1000000000)(d:c<4294967296)(e:w<4294967296)(h:v+4294967296^i*c=F*t+C):(c+w*F)/4294967296<4294967296/\v+4294967296^i*((c+w*F)%4294967296)+4294967296^(i+1)*((c+w*F)/4294967296)=F*(t+4294967296^i*w)+C:=by have b:w*F<=4294967295*1000000000:=Nat.mul_le_mul O_ a;refine⟨by omega,?_⟩;rw[Nat.pow_succ,Nat.mul_assoc,Nat.add_assoc,<- Nat.mul_add,Nat.mod_add_div,Nat.mul_add,<- Nat.add_assoc,h,Nat.mul_add];rw[<- Nat.mul_assoc (4294967296^i),Nat.mul_comm (4294967296^i*w) F];omega
def ku(s:List UInt8):aa prog 346 [dL s] (.tup [dZ (pz s).1,dN .i64 (pz s).2]):=by
 have z0:dZ 0= .agg [.val (.bool false), .sl 0 []]:=by unfold dZ;rw[e0]
 have hsz:=an s;by_cases hl:s.length<=65536
 ·have cf:=lI s;refine kU func346 ?_;refine M7 ?_;refine bB ?_;refine kW ?_;refine kC (CG s) ?_;refine kN ?_;by_cases g:dA s≠[]/\((∀c r,dA s=c::r->c≠48)∨((dA s).length=1/\bL s=false))
  ·refine ks ⟨[(2, .box 0 0),(3, .d (dN .i64 0)),(4, .d (dL (dA s))),(5, .d (dB (bL s)))],[(0,some [.val (.bool false), .sl 0 []])]⟩ (fun s' hw=>?_) (fun R hR hret=>?_)
   ·refine qH ?_;refine kN ?_;refine bH ?_;refine bR (T:=TT) ?_;refine av (List UInt8 × List Nat) (fun p=>∃A,dA s=A++p.1/\(∀c∈A,cM c)/\val p.2=num A/\Wd p.2/\p.2.length<=A.length) (fun p=>⟨[(2, .box 0 0),(3, .d (dN .i64 0)),(5, .d (dB (bL s))),(4, .d (dL p.1)),(6,pV p.2)],[(0,some [.val (.bool false), .sl 0 []]),(1000001,pX p.2)]⟩) (fun p=>p.1.length) (dA s,[]) ⟨[],rfl,by simp,rfl,Wd.nil,l_ _⟩ kw ?_;rintro⟨f,m⟩ ⟨A,D,Y,z,N,ao⟩;dsimp only at D z N ao ⊢;have Z:=congrArg List.length D;rw[L_]at Z;have br:=an f;refine kR ?_;refine fH rfl (fun h=>?_) (fun h=>?_)
    ·have h:=h_ h;have hr0:0<f.length:=O_;refine bB ?_;obtain⟨nn,cj⟩:∃nn,(f.length-1)%9+1=nn:=⟨_,rfl⟩;have bk:nn<=9:=O_;have hnr:nn<=f.length:=by have:=Nat.mod_le (f.length-1) 9;omega
     have b0:((f.length-1:Nat):Int).tmod 9=((f.length-1)%9:Nat):=by rw[show(9:Int)=((9:Nat):Int) from rfl,Int.ofNat_tmod]
     refine bR (T:=TT) ?_;refine nB ?_;refine bW (v':= .int .i64 ((f.length-1:Nat))) rfl rfl rfl rfl ?_ ?_
     ·exact congrArg (Value.int .i64) (by rw[br,IntWalk.i64_in _ O_];omega)
     refine aj rfl rfl rfl rfl ?_ rfl rfl (tN D_) ?_
     ·rfl
     refine kJ nn ?_;refine kN ?_;refine kR ?_;refine H4 ⟨[(2, .box 0 0),(3, .d (dN .i64 0)),(5, .d (dB (bL s))),(4, .d (dL f)),(7, .d (dN .i64 nn)),(8, .d (dN .u64 (num (f.take nn)))),(9, .d (dN .u64 (10^nn:Nat))),(6,pV m)],[(0,some [.val (.bool false), .sl 0 []]),(1000001,pX m)]⟩ (∀c∈f.take nn,cM c) (fun bb s' hw=>?_) (fun R hR hret=>?_)
     ·have b4:=tZ;have w:∀c∈A++f.take nn,cM c:=fun c u=>(List.mem_append.1 u).elim (Y c) (bb c);have G:dA s=(A++f.take nn)++f.drop nn:=by rw[e_,List.take_append_drop];exact D
      have E:(A++f.take nn).length=A.length+nn:=by rw[L_,U_,Nat.min_eq_left hnr]
      have O:(f.drop nn).length<f.length:=by rw[n_];omega
      obtain⟨C,hC⟩:∃C,num (f.take nn)=C:=⟨_,rfl⟩;obtain⟨F,hF⟩:∃F,10^nn=F:=⟨_,rfl⟩;have X:F<=1000000000:=by rw[<- hF];exact Nat.pow_le_pow_right D_ bk
      have b3:C<F:=by rw[<- hC,<- hF];have:=tZ _ (f.take nn) rfl (fun c u=>w c (List.mem_append.2 (.inr u)));rwa[U_,Nat.min_eq_left hnr]at this
      have v:num (A++f.take nn)=F*num A+C:=by rw[m8,U_,Nat.min_eq_left hnr,hF,hC,Nat.mul_comm]
      rw[hC,hF]at hw;cases m with
      |nil=>
       have U:num A=0:=z.symm;refine bH ?_;refine qH ?_;refine kN ?_;refine bR (T:=TT) ?_;refine av Unit (fun _=>True) (fun _=>⟨[(2, .box 0 0),(3, .d (dN .i64 0)),(5, .d (dB (bL s))),(4, .d (dL f)),(7, .d (dN .i64 nn)),(8, .d (dN .u64 C)),(6, .nil),(70, .d (dN .i64 0)),(71, .d (dN .i64 0))],[(0,some [.val (.bool false), .sl 0 []])]⟩) (fun _=>0) () trivial kw ?_;rintro _ _;refine kR ?_;refine dX (T:=TT) rfl ?_;refine iy ?_;have cd:(F*0:Nat)+C=C:=O_;refine tw ?_;by_cases a4:C=0
       ·refine kE ?_;refine kN ?_;refine dX (T:=TT) rfl ?_;refine bB ?_;refine E0 ?_;refine D9 ?_;refine⟨(f.drop nn,[]),⟨A++f.take nn,G,w,?_,Wd.nil,Nat.zero_le _⟩,O,weak ⟨rfl,rfl,rfl,rfl,rfl,trivial⟩ ⟨rfl,trivial⟩ rfl⟩;rw[v,U,a4];rfl
       ·have b9:0<C:=O_;refine kT ?_;refine kN ?_;refine eG (T:=TT) rfl ?_;refine E0 ?_;refine bW (v':= .int .u32 C) rfl rfl rfl rfl ?_ ?_
        ·exact congrArg (Value.int .u32) (by rw[IntWalk.u32_in _ O_])
        refine kO ?_;refine OG D_ D_ rfl rfl rfl rfl rfl rfl rfl rfl rfl rfl rfl (.nil rfl rfl) rfl rfl ?_;refine kN ?_;refine E0 ?_;refine D9 ?_;refine⟨(f.drop nn,[C]),⟨A++f.take nn,G,w,?_, .cons O_ .nil,by rw[E];show 1<=_;omega⟩,O,?_⟩
        ·rw[v,U];simp[val]
        ·refine au.trans (b:=⟨[(2, .box 0 0),(3, .d (dN .i64 0)),(5, .d (dB (bL s))),(4, .d (dL (f.drop nn))),(6, .own 1027004 1 1 135)],[(0,some [.val (.bool false), .sl 0 []]),(1027004,some [.val (bP C)])]⟩) kw ((a8 (q:=6) (j:=1027004) (j':=1000001) (m:=1) (k:=1) (e:=135) (cs:=[.val (bP C)]) rfl rfl rfl rfl).trans kw)
      |cons x r=>
       obtain⟨m,hm⟩:∃m,x::r=m:=⟨_,rfl⟩;have al:0<m.length:=by rw[<- hm];simp
       rw[hm,Jo al,Gu al]at hw;rw[hm]at z N ao;clear hm;refine bH ?_;refine qH ?_;refine kN ?_;refine bR (T:=TT) ?_;refine av (List Nat × Nat) (fun p=>p.1.length<=m.length/\Wd p.1/\p.2<4294967296/\val p.1+4294967296^p.1.length*p.2=F*val (m.take p.1.length)+C) (fun p=>⟨[(2, .box 0 0),(3, .d (dN .i64 0)),(5, .d (dB (bL s))),(4, .d (dL f)),(7, .d (dN .i64 nn)),(8, .d (dN .u64 p.2)),(9, .d (dN .u64 F)),(6, .own 1000001 m.length 1 135),(70, .d (dN .i64 m.length)),(71, .d (dN .i64 p.1.length))],[(0,some [.val (.bool false), .sl 0 []]),(1000001,some ((p.1++m.drop p.1.length).map fun x:Nat=>AV.val (bP x)))]⟩) (fun p=>m.length-p.1.length) ([],C) ⟨by simp, .nil,by show C<_;omega,by simp[val]⟩ kw ?_;rintro⟨xs,c⟩ ⟨bN,S,u,heq⟩;dsimp only at bN S u heq ⊢;refine kR ?_;refine bH ?_;refine fH rfl (fun h=>?_) (fun h=>?_)
       ·have h:=h_ h;have y:xs.length<m.length:=O_;refine bB ?_;refine bH ?_;refine bR (T:=TT) ?_;refine kR ?_;refine A7 ?_;refine kO3 ?_;refine Hn (i:=xs.length) y rfl rfl rfl rfl rfl rfl rfl rfl rfl ?_;have ag:((xs++m.drop xs.length).map fun x:Nat=>AV.val (bP x))[xs.length*1]? =some (.val (bP m[xs.length])):=by rw[o_,List.getElem?_map,g_ (l_ _),Nat.sub_self,List.getElem?_drop,Nat.add_zero,Q_ y];rfl
        have a2:m[xs.length]<4294967296:=N _ (List.getElem_mem y);obtain⟨V,L⟩:=yr X u a2 heq;have bx:m[xs.length]*F<=4294967295*1000000000:=Nat.mul_le_mul O_ X;refine MP ag rfl rfl rfl rfl rfl rfl rfl rfl rfl ?_;obtain⟨W,hW⟩:∃W,m[xs.length]=W:=⟨_,rfl⟩;obtain⟨p,I⟩:∃p,W*F=p:=⟨_,rfl⟩;have bo:(W:Int)*(F:Nat)=(p:Nat):=by rw[<- I,Int.natCast_mul]
        have bs:val (m.take (xs.length+1))=val (m.take xs.length)+4294967296^xs.length*W:=by rw[ai,H_,Q_ y,hW];rfl
        rw[hW,I]at bx V L;rw[hW];rw[hW]at a2;obtain⟨t,ht⟩:∃t,c+p=t:=⟨_,rfl⟩;rw[ht]at V L;refine bW (v':= .int .u64 W) rfl rfl rfl rfl ?_ ?_
        ·exact congrArg (Value.int .u64) (by rw[IntWalk.u64_in _ O_])
        refine kO ?_;refine bW (v':= .int .u64 p) rfl rfl rfl rfl ?_ ?_
        ·exact congrArg (Value.int .u64) (by rw[bo,IntWalk.u64_in _ O_])
        refine bW (v':= .int .u64 t) rfl rfl rfl rfl ?_ ?_
        ·exact congrArg (Value.int .u64) (by rw[IntWalk.u64_in _ O_];omega)
        refine kN ?_;refine A7 ?_;refine kO3 ?_;refine bW (v':= .int .u32 ((t%4294967296:Nat))) rfl rfl rfl rfl ?_ ?_
        ·exact congrArg (Value.int .u32) (by rw[IntKind.wrap_u32];omega)
        refine Hn (i:=xs.length) y rfl rfl rfl rfl rfl rfl rfl rfl rfl ?_;have bq:dJ ((xs++m.drop xs.length).map fun x:Nat=>AV.val (bP x)) (xs.length*1) [.val (bP (t%4294967296))]=((xs++[t%4294967296])++m.drop (xs++[t%4294967296]).length).map fun x:Nat=>AV.val (bP x):=by unfold dJ;rw[o_,<- List.map_take,<- List.map_drop,List.take_left,List.length_singleton,<- List.drop_drop,List.drop_left,List.drop_drop,L_,List.length_singleton,List.map_append,List.map_append];rfl
        refine Kr (by rw[j_,L_,n_];omega) bq rfl rfl rfl rfl rfl rfl rfl rfl rfl rfl ?_;refine kN ?_;refine bz rfl ?_;refine kO ?_;refine bW (v':= .int .u64 ((t/4294967296:Nat))) rfl rfl rfl rfl ?_ ?_
        ·exact congrArg (Value.int .u64) (by rw[show(2:Int)^min (Int.toNat 32) IntKind.u64.bits=4294967296 by decide,Int.fdiv_eq_ediv_of_nonneg _ D_];omega)
        refine kN ?_;refine bz rfl ?_;refine bW (v':= .int .i64 ((xs++[t%4294967296]).length)) rfl rfl rfl rfl ?_ ?_
        ·exact congrArg (Value.int .i64) (by rw[IntWalk.i64_in _ O_];simp)
        refine kN ?_;refine⟨(xs++[t%4294967296],t/4294967296),⟨by rw[L_];exact y,S.append (.cons O_ .nil),V,?_⟩,?_,weak ⟨rfl,rfl,rfl,rfl,rfl,rfl,rfl,rfl,rfl,rfl,trivial⟩ ⟨rfl,rfl,trivial⟩ rfl⟩
        ·show val (xs++[t%4294967296])+_=_;rw[L_,List.length_singleton,bs,bV,<- L];simp[val]
        ·dsimp only;rw[L_,List.length_singleton];omega
       ·have h:=of_decide_eq_false h;have y:xs.length=m.length:=O_;rw[y,List.drop_length,c_];rw[y,List.take_length,z]at heq;have a3:0<xs.length:=O_;refine iy ?_;refine tw ?_;by_cases a9:c=0
        ·refine kE ?_;refine kN ?_;refine dX (T:=TT) rfl ?_;refine bB ?_;refine E0 ?_;refine D9 ?_;refine⟨(f.drop nn,xs),⟨A++f.take nn,G,w,?_,S,by rw[E,y];omega⟩,O,?_⟩
         ·rw[v,<- heq,a9];rfl
         ·dsimp only;rw[Jo a3,Gu a3,y];exact kw
        ·have cc:0<c:=O_;refine kT ?_;refine kN ?_;refine eG (T:=TT) rfl ?_;refine E0 ?_;refine bW (v':= .int .u32 c) rfl rfl rfl rfl ?_ ?_
         ·exact congrArg (Value.int .u32) (by rw[IntWalk.u32_in _ O_])
         refine kO ?_;refine OG D_ (by show(m.length+1)*4<=_;omega) rfl rfl rfl rfl rfl rfl rfl rfl rfl rfl rfl (.own rfl rfl) rfl rfl ?_;refine kN ?_;refine E0 ?_;refine D9 ?_;have bj:(xs++[c]).length=m.length+1:=by rw[L_,y];rfl
         have hb:((xs.map fun x:Nat=>AV.val (bP x)).take (m.length*1)++[.val (bP c)])=(xs++[c]).map fun x:Nat=>AV.val (bP x):=by rw[o_,<- y,K_ S_,List.map_append];rfl
         refine⟨(f.drop nn,xs++[c]),⟨A++f.take nn,G,w,?_,S.append (.cons u .nil),by rw[E];dsimp only;omega⟩,O,?_⟩
         ·rw[v,<- heq];show val (xs++[c])=_;rw[bV,y];simp[val]
         ·dsimp only;rw[Jo O_,Gu O_,bj,<- hb];refine au.trans (b:=⟨[(2, .box 0 0),(3, .d (dN .i64 0)),(5, .d (dB (bL s))),(4, .d (dL (f.drop nn))),(6, .own 1027004 (m.length+1) 1 135)],[(0,some [.val (.bool false), .sl 0 []]),(1027004,some ((xs.map fun x:Nat=>AV.val (bP x)).take (m.length*1)++[.val (bP c)]))]⟩) kw ((a8 (q:=6) (j:=1027004) (j':=1000001) (m:=m.length+1) (k:=1) (e:=135) (cs:=(xs.map fun x:Nat=>AV.val (bP x)).take (m.length*1)++[.val (bP c)]) rfl rfl rfl rfl).trans kw)
     ·refine kR ?_;refine bR (T:=TT) ?_;refine av Nat (fun i=>i<=nn/\ ∀c∈f.take i,cM c) (fun i=>⟨[(2, .box 0 0),(3, .d (dN .i64 0)),(5, .d (dB (bL s))),(4, .d (dL f)),(7, .d (dN .i64 nn)),(8, .d (dN .u64 (num (f.take i)))),(9, .d (dN .u64 (10^i:Nat))),(46, .d (dN .i64 nn)),(47, .d (dN .i64 i)),(6,pV m)],[(0,some [.val (.bool false), .sl 0 []]),(1000001,pX m)]⟩) (fun i=>nn-i) 0 ⟨by omega,by simp⟩ (weak ⟨rfl,rfl,rfl,rfl,rfl,rfl,rfl,rfl,rfl,rfl,trivial⟩ (by cases m<;>first|exact⟨rfl,rfl,trivial⟩|exact⟨rfl,trivial⟩) (by cases m<;>rfl)) ?_;rintro i ⟨y,hd⟩;refine kR ?_;refine bH ?_;refine fH rfl (fun h=>?_) (fun h=>?_)
      ·have h:=h_ h;have y:i<nn:=O_;have Q:i<f.length:=O_;refine bB ?_;refine bH ?_;refine bR (T:=TT) ?_;refine kR ?_;refine nB ?_;refine bU ah (i:=i) (c:=f[i]) (Q_ Q) rfl rfl rfl rfl rfl rfl rfl rfl ?_;refine kN ?_;have hmem:f[i]∈dA s:=by rw[D,List.mem_append];exact .inr (List.getElem_mem Q)
       refine tw ?_;by_cases B:f[i].toNat<48
       ·have J:¬pok s:=fun I=>by have:=(I.2.2.1 _ hmem).1;omega
        rw[jB J,z0]at hret;refine kT ?_;exact EE
       ·refine kE ?_;refine kO2 ?_;by_cases b2:f[i].toNat > 57
        ·have J:¬pok s:=fun I=>by have:=(I.2.2.1 _ hmem).2;omega
         rw[jB J,z0]at hret;refine kT ?_;exact EE
        ·refine kE ?_;have hD:cM f[i]:=⟨by omega,by omega⟩;have ci:=DL hD;have bp:num (f.take (i+1))=10*num (f.take i)+dv f[i]:=by rw[List.take_succ_eq_append_getElem Q,f9]
         have ca:=tZ _ _ rfl hd;have cb:10^(f.take i).length<=10^8:=Nat.pow_le_pow_right D_ (by rw[U_];omega);have a5:10^i<=10^8:=Nat.pow_le_pow_right D_ O_;refine kN ?_;refine dX (T:=TT) rfl ?_;refine bB ?_;refine A7 ?_;refine kO ?_;refine bW (v':= .int .u64 ((10*num (f.take i):Nat))) rfl rfl rfl rfl ?_ ?_
         ·exact congrArg (Value.int .u64) (by rw[IntWalk.u64_in _ O_];omega)
         refine kO ?_;refine bW (v':= .int .u8 ((dv f[i]:Nat))) rfl rfl rfl rfl ?_ ?_
         ·exact congrArg (Value.int .u8) (by rw[IntWalk.u8_in _ O_];unfold dv;omega)
         refine bW (v':= .int .u64 ((dv f[i]:Nat))) rfl rfl rfl rfl ?_ ?_
         ·exact congrArg (Value.int .u64) (by rw[IntWalk.u64_in _ O_])
         refine bW (v':= .int .u64 ((num (f.take (i+1)):Nat))) rfl rfl rfl rfl ?_ ?_
         ·exact congrArg (Value.int .u64) (by rw[bp,IntWalk.u64_in _ O_];omega)
         refine kN ?_;refine bz rfl ?_;refine kO ?_;refine bW (v':= .int .u64 ((10^(i+1):Nat))) rfl rfl rfl rfl ?_ ?_
         ·exact congrArg (Value.int .u64) (by rw[Nat.pow_succ];generalize 10^i=pw at a5 ⊢;rw[IntWalk.u64_in _ O_];omega)
         refine kN ?_;refine bz rfl ?_;refine kJ ((i+1:Nat)) ?_;refine kN ?_;refine⟨i+1,⟨y,fun c u=>?_⟩,by omega,weak ⟨rfl,rfl,rfl,rfl,rfl,rfl,rfl,rfl,rfl,rfl,trivial⟩ (by cases m<;>first|exact⟨rfl,rfl,trivial⟩|exact⟨rfl,trivial⟩) (by cases m<;>rfl)⟩;rw[List.take_succ_eq_append_getElem Q,List.mem_append]at u;rcases u with u|u
         ·exact hd c u
         ·rw[d_]at u;rw[u];exact hD
      ·have h:=of_decide_eq_false h;have be:i=nn:=O_;subst be;refine iy ?_;exact hR hd _ (weak ⟨rfl,rfl,rfl,rfl,rfl,rfl,rfl,rfl,trivial⟩ (by cases m<;>first|exact⟨rfl,rfl,trivial⟩|exact⟨rfl,trivial⟩) (by cases m<;>rfl))
    ·have h:=of_decide_eq_false h;have hr0:f.length=0:=O_;obtain rfl:=E_ hr0;rw[c_]at D;have bm:pok s:=⟨hl,g.1,by rw[D];exact Y,g.2⟩;have hz:bv (bL s) m=kd (bL s) (num (dA s)):=by unfold bv kd;rw[z,D]
     rw[J9 bm];refine iy ?_;cases m with
     |nil=>refine kW ?_;refine kC (bg (neg:=bL s) (xs:=[]) Wd.nil hz) ?_;exact am
     |cons x r=>refine bH ?_;refine iU (ep (q:=6) rfl rfl) rfl ?_;refine kW ?_;refine kC (bg (neg:=bL s) (xs:=x::r) N hz) ?_;exact am
   ·clear hret;cases I:dA s with
    |nil=>exact absurd I g.1
    |cons c r=>
     refine A7 ?_;refine kO ?_;have a1:=an (c::r);have hfin:TV.d (dL (c::r))=TV.d (dL (dA s)):=by rw[I]
     refine aj rfl rfl rfl rfl rfl rfl rfl ((jj (a:=c::r) (b:=[])).trans (congrArg (fun b=>some (Value.bool b)) (F_ S_))) ?_;refine kO2 ?_;refine Lr ?_;by_cases B:c=48
     ·subst B;have ad:((48:UInt8)::r).length=1/\bL s=false:=by
       rcases g.2 with h|h
       ·exact absurd rfl (h _ _ I)
       ·rw[I]at h;exact h
      refine kO4 ?_;refine kE ?_;have b1:TV.d (dB false)=TV.d (dB (bL s)):=by rw[ad.2]
      generalize bL s=ng at *;obtain rfl:=ad.2;exact Oa
     ·have hn:c.toNat≠48:=fun e=>B (UInt8.toNat_inj.1 e);refine kB false ?_ ?_
      ·exact beq_eq_false_iff_ne.2 O_
      exact Oa
  ·rw[jB (fun h=>g ⟨h.2.1,h.2.2.2⟩),z0];cases I:dA s with
   |nil=>refine tw ?_;refine aj rfl rfl rfl rfl rfl rfl rfl (jj (a:=[]) (b:=[])) ?_;exact am
   |cons c r=>
    have u:c=48/\(1<(c::r).length∨bL s=true):=by
     refine Classical.byContradiction fun a0=>g ⟨by rw[I];simp,?_⟩;rw[I];by_cases B:c=48
     ·refine .inr ⟨?_,?_⟩
      ·apply Classical.byContradiction;intro h1;exact a0 ⟨B, .inl (by simp at h1 ⊢;exact List.length_pos_iff.2 h1)⟩
      ·cases hq:bL s
       ·rfl
       ·exact absurd ⟨B, .inr hq⟩ a0
     ·exact .inl fun x q e=>by cases e;exact B
    obtain⟨rfl,u⟩:=u;have a1:=an ((48:UInt8)::r);refine tw ?_;refine aj rfl rfl rfl rfl rfl rfl rfl ((jj (a:=48::r) (b:=[])).trans (congrArg (fun b=>some (Value.bool b)) (F_ S_))) ?_;refine kO2 ?_;refine bU ah (i:=0) (c:=48) rfl rfl rfl rfl rfl rfl rfl rfl rfl ?_;refine kO4 ?_;by_cases h1:1<((48:UInt8)::r).length
    ·refine kT ?_;exact am
    ·refine kE ?_;have hq:bL s=true:=u.resolve_left h1;rw[hq];exact am
 ·rw[jB (fun h=>hl h.1),z0];refine kU func346 ?_;refine Dz ?_;exact am
def Sj(l:List UInt8):List AV:=l.map fun c=>AV.val (.int .u8 c.toNat)
def UX(l:List UInt8):DV:= .leaf (.sl l.length (Sj l))
def QZ{l:List UInt8}{i:Nat}{c:UInt8}(h:l[i]? =some c):∀(j:Nat)(a:AV),[AV.val (.int .u8 c.toNat)][j]? =some a->(Sj l)[i*1+j]? =some a:=by
 intro j a b
 match j,b with
 |0,b=>unfold Sj;rw[o_,Nat.add_zero,List.getElem?_map,h];exact b
section
variable {P:Program}{T:TypeId->Option Ty}{n:Nat}{ops:Array Oper}{id:Nat}{draw:Bool}{K:AS->Prop}{s:AS}{k:Nat}{o:Oper}{os:List Oper}{fps:List FP}
def SM(y:∀t d,T t=some d->bl P t d){t D e:TypeId}{ty p I:Ty}{x:Operand}{l:List UInt8}(hl:l.length<=9223372036854775807)(J:gd ops s o=some true)(E:o.op= .convert t D x)(N:T t=some ty)(O:ty.isStr=true)(S:T D=some p)(q:p.elem=some (e,1))(Q:T e=some I)(R:I.ik=some .u8)(r:s.ev x= .d (.leaf (.val (vL l))))(u:aO n o.dst=true)(L:gO draw ops (aH ops o ⟨.d (UX l),none⟩ []) k fps=true)(h:aw P T n ops id draw K (k+1) os (s.eff o.dst ⟨.d (UX l),none⟩) (aH ops o ⟨.d (UX l),none⟩ []::fps)):aw P T n ops id draw K k (o::os) s fps:=by
 refine .run J (.gen fun s2 Y _=>?_) u L h;have hx:=(aP Y (x:=x) (by simp[E,Op.operands])).trans r;have Z:=jv (y _ _ N) O;obtain⟨d,X,_,A,_⟩:=(y _ _ S).und;obtain⟨rfl,_⟩:=A e 1 q;obtain⟨d2,z,_,_,_,_,_,B,_⟩:=(y _ _ Q).und;obtain rfl:=B _ R;refine ar fun n S0 w0 g a w G=>?_;have hsz:=an l;have j:=grownCap_ge w l.length 0 e;have m:=grownCap_le_maxLen w l.length 0 e (by unfold maxLen;omega);obtain⟨C,F⟩:∃C,grownCap w l.length 0 e=C:=⟨_,rfl⟩;rw[F]at j m;have hrun:=run_bytes_of_string w t D e (Bs l) Z X z;rw[hsz,F]at hrun;have V:Below w.heap.size w (w.drew.alloc (.cells (bytesRow (Bs l) C) e ((bytesRow (Bs l) C).size,(bytesRow (Bs l) C).size+1))):=((Below.refl _ w).drew).alloc (l_ _) _;refine⟨.slice (some ⟨w.heap.size,0,none⟩) l.length C,_,?_,V,?_⟩
 ·unfold execOp;rw[E];simp only[bn G hx,vL,Y_,hrun,R_,a_]
 ·refine AV.M.sl (fun i=> .int .u8 ((l.getD i 0).toNat:Int)) j (by unfold maxLen at m;omega) ?_ (by show w.heap.size<(w.heap.push _).size;simp) (fun i c f=>?_) (fun i c f=>?_)
  ·intro U;exact absurd (G.own_lt U) (Nat.lt_irrefl _)
  ·have b:i<l.length:=by have:=(G_.1 f).1;simpa[Sj]using this
   have u:(w.drew.alloc (.cells (bytesRow (Bs l) C) e ((bytesRow (Bs l) C).size,(bytesRow (Bs l) C).size+1))).heap[w.heap.size]? =some (.cells (bytesRow (Bs l) C) e ((bytesRow (Bs l) C).size,(bytesRow (Bs l) C).size+1)):=heap_alloc_new w.drew _;rw[J_];simp only[World.cell?,u];have:=bytesRow_at (Bs l) C i (by show i<(Bs l).data.size;simpa[Bs]using b);show(match(bytesRow (Bs l) C)[i]? with|v=>v)=_;refine Eq.trans this ?_;simp[Bs,b]
  ·have b:i<l.length:=by have:=(G_.1 f).1;simpa[Sj]using this
   have:c= .val (.int .u8 ((l.getD i 0).toNat:Int)):=by unfold Sj at f;rw[List.getElem?_map,Q_ b]at f;simp at f;rw[<- f];simp[b]
   rw[this];exact .val rfl
end
def oe(l:List UInt8)(c:UInt8):aa prog 148 [dL l,dL [c]] (.one (dN .i64 (Lib.indexByte l c))):=by
 refine⟨aD func148 rfl rfl,fun S w f g d=>?_⟩
 match f,d with
 | [v,u],⟨a,b,_⟩=>obtain rfl:=bc a;obtain rfl:=bc b;refine(Tryz.stringslite_Index_one (Bs l) c w).mono ?_;rintro e h ⟨rfl,rfl⟩;exact⟨_,rfl,AV.M.val rfl,Below.refl _ _⟩
def wO{l:List UInt8}{c:UInt8}(h:c ∉ l):Lib.indexByte l c= -1:=by
 induction l with
 |nil=>rfl
 |cons b l d=>have a:(b == c)=false:=beq_eq_false_iff_ne.2 (fun e=>h (by simp[e]));unfold Lib.indexByte;rw[a,d (fun e=>h (by simp[e]))];rfl
def wz{a b:List UInt8}{c:UInt8}(h:c ∉ a):Lib.indexByte (a++c::b) c=a.length:=by
 induction a with
 |nil=>simp[Lib.indexByte]
 |cons x a f=>have d:(x == c)=false:=beq_eq_false_iff_ne.2 (fun e=>h (by simp[e]));rw[List.cons_append];unfold Lib.indexByte;rw[d,f (fun e=>h (by simp[e]))];have:(((a.length:Nat):Int) == -1)=false:=beq_eq_false_iff_ne.2 O_;simp only[Bool.false_eq_true,if_false,this];simp
def K8{a b:List UInt8}{c:UInt8}(h:c ∉ a)(g:a.length+b.length<=1000000000):aa prog 107 [dL (a++c::b),dL [c]] (.tup [dL a,dL b,dB true]):=by
 have c1:=oe (a++c::b) c;rw[wz h]at c1;have d:(a++c::b).take a.length=a:=S_;have f:(a++c::b).drop (a.length+1)=b:=by rw[<- List.drop_drop];simp
 refine kU func107 ?_;refine pN ?_;refine IK ah (l:=a++c::b) (i:=a.length) S_ rfl rfl rfl rfl rfl rfl rfl rfl ?_;refine kO4 ?_;refine bW (v':= .int .i64 (((a.length+1:Nat):Int))) rfl rfl rfl rfl ?_ ?_
 ·exact congrArg (Value.int .i64) (by show IntKind.i64.wrap ((a.length:Int)+1)=_;rw[IntWalk.i64_in _ O_];omega)
 refine qW ah (l:=a++c::b) (i:=a.length+1) S_ rfl rfl rfl rfl rfl rfl rfl rfl ?_;refine kW ?_;rw[d,f];exact co (T:=TT) rfl rfl
def Ba{a:List UInt8}{c:UInt8}(h:c ∉ a):aa prog 107 [dL a,dL [c]] (.tup [dL a,dL [],dB false]):=by have c1:=oe a c;rw[wO h]at c1;refine kU func107 ?_;exact rV
def Rj{a b:List UInt8}{c:UInt8}(h:c ∉ a)(d:a.length+b.length<=1000000000):aa prog 64 [dL (a++c::b),dL [c]] (.tup [dL a,dL b,dB true]):=by refine kV func64 ?_;refine kC (K8 h d) ?_;exact am
def oU{a:List UInt8}{c:UInt8}(h:c ∉ a):aa prog 64 [dL a,dL [c]] (.tup [dL a,dL [],dB false]):=by refine kV func64 ?_;refine kC (Ba h) ?_;exact am
def ny(l:List UInt8):aa prog 345 [dL l,dL [48]] (.one (dL (l.dropWhile (· == 48)))):=by
 refine⟨aD func345 rfl rfl,fun S w d f c=>?_⟩
 match d,c with
 | [v,u],⟨a,b,_⟩=>obtain rfl:=bc a;obtain rfl:=bc b;refine(Tryz.strings_TrimLeft_one (Bs l) 48 D_ w).mono ?_;rintro e g ⟨rfl,rfl⟩;exact⟨_,rfl,AV.M.val rfl,Below.refl _ _⟩
def fL(na:Bool)(xs:List Nat)(nb:Bool)(ys:List Nat):Bool:=eV na xs && eV nb ys && decide (0<bv nb ys) && decide (Nat.gcd (val xs) (val ys)=1)
def qI{na:Bool}{xs:List Nat}(d:Wd xs)(h:eV na xs=true):xs=digs (bv na xs).natAbs/\na=decide (bv na xs<0):=by
 unfold eV at h;rw[B_]at h;have c:=h_ h.1;have b:=(kl d).1;rw[c,List.take_length]at b;rw[fN];refine⟨b,?_⟩;cases na
 ·exact(F_ (by unfold bv;simp)).symm
 ·have a:=h.2;simp at a;have:val xs≠0:=fun e=>by rw[b]at a;unfold trim at a;rw[e,aG]at a;simp at a
  exact(T_ (by unfold bv;simp;omega)).symm
def pI{na nb:Bool}{xs ys:List Nat}(m:Wd xs)(a:Wd ys)(h:fL na xs nb ys=true):∃q:Rat,FH na xs nb ys=aQ q/\xs=digs q.num.natAbs/\ys=digs (q.den:Int).natAbs:=by
 unfold fL at h;simp only[B_,decide_eq_true_eq]at h;obtain⟨⟨⟨g,i⟩,p⟩,j⟩:=h;obtain⟨b,e⟩:=qI m g;obtain⟨c,f⟩:=qI a i;have d:((bv nb ys).toNat:Int)=bv nb ys:=O_;refine⟨⟨bv na xs,(bv nb ys).toNat,by omega,?_⟩,?_,b,?_⟩
 ·rw[fN,show(bv nb ys).toNat=(bv nb ys).natAbs by omega,fN];exact j
 ·show aI na xs++aI nb ys=aZ (bv na xs)++aZ ((bv nb ys).toNat:Int);rw[d];unfold aZ;rw[<- b,<- e,<- c,<- f]
 ·show ys=digs ((bv nb ys).toNat:Int).natAbs;rw[d];exact c
def mB(q:Rat):fL (decide (q.num<0)) (digs q.num.natAbs) (decide ((q.den:Int)<0)) (digs (q.den:Int).natAbs)=true:=by unfold fL;rw[s7,s7,a6,ae,ae,T_ (iD q),T_ (by rw[b_];exact q.reduced)];rfl
def qe{na nb:Bool}{xs ys:List Nat}(hw:Wd xs)(hw':Wd ys)(d:mn xs)(f:mn ys){b:Bool}(g:fL na xs nb ys=b):aa prog 173 [Gp na xs nb ys] (.one (dB b)):=by
 subst g;unfold fL;cases c1:eV na xs
 ·refine HQ ?_;exact am
 cases c2:eV nb ys
 ·refine HQ ?_;refine kW ?_;refine kC (mK (na:=nb) hw' c2) ?_;exact am
 by_cases a:0<bv nb ys
 ·have i:decide (Nat.gcd (val xs) (val ys)=1)=decide (((Nat.gcd (val xs) (val ys):Nat):Int)=1):=by by_cases h:Nat.gcd (val xs) (val ys)=1<;>simp[h]<;>omega
  rw[T_ a,i];refine OQ ?_;refine kQ (jd (na:=nb) hw' (Int.sign_eq_one_of_pos a)) ?_;refine kQ (yl (na:=na) (nb:=nb) hw hw' d f) ?_;refine kC (bK rfl) ?_;exact am
 ·rw[F_ a];obtain⟨z,j,c⟩:∃z,(bv nb ys).sign=z/\ ¬z > 0:=⟨_,rfl,fun h=>a (Int.sign_pos_iff.1 h)⟩;refine OQ ?_;refine kC (jd (na:=nb) hw' j) ?_;refine kB false ?_ ?_
  ·exact F_ c
  exact am
def ye{k:Nat}(q:Rat)(h:nz k q)(a:k<=2147483648):aa prog 173 [dQ q] (.one (dB true)):=qe (ab _) (ab _) (V_ h.1.digs a) (V_ h.2.digs a) (mB q)
def nE{na nb:Bool}{xs ys:List Nat}(hw:Wd xs)(hw':Wd ys)(d:mn xs)(f:mn ys){b:Bool}(g:fL na xs nb ys=b):aa prog 155 [Gp na xs nb ys] (.one (dB b)):=by
 subst g;unfold fL;cases c1:eV na xs
 ·refine GS ?_;exact am
 cases c2:eV nb ys
 ·refine GS ?_;refine kW ?_;refine kC (lf (na:=nb) hw' c2) ?_;exact am
 by_cases a:0<bv nb ys
 ·have i:decide (Nat.gcd (val xs) (val ys)=1)=decide (((Nat.gcd (val xs) (val ys):Nat):Int)=1):=by by_cases h:Nat.gcd (val xs) (val ys)=1<;>simp[h]<;>omega
  rw[T_ a,i];refine Od ?_;refine kQ (m0 (na:=nb) hw' (Int.sign_eq_one_of_pos a)) ?_;refine kQ (u3 (na:=na) (nb:=nb) hw hw' d f) ?_;refine kC (dh rfl) ?_;exact am
 ·rw[F_ a];obtain⟨z,j,c⟩:∃z,(bv nb ys).sign=z/\ ¬z > 0:=⟨_,rfl,fun h=>a (Int.sign_pos_iff.1 h)⟩;refine Od ?_;refine kC (m0 (na:=nb) hw' j) ?_;refine kB false ?_ ?_
  ·exact F_ c
  exact am
def xz{k:Nat}(q:Rat)(h:nz k q)(a:k<=2147483648):aa prog 155 [dQ q] (.one (dB true)):=nE (ab _) (ab _) (V_ h.1.digs a) (V_ h.2.digs a) (mB q)
def Qf{xs:List Nat}{i x:Nat}(h:xs[i]? =some x):∀(j:Nat)(a:AV),[AV.val (bP x)][j]? =some a->(xs.map fun x:Nat=>AV.val (bP x))[i*1+j]? =some a:=by
 intro j a b
 match j,b with
 |0,b=>rw[o_,Nat.add_zero,List.getElem?_map,h];exact b
def AG{na nb:Bool}{xs ys:List Nat}(h:xs≠ys):sameB na nb xs ys=false:=by unfold sameB;rw[F_ h,Bool.and_false]
def kz{na:Bool}{xs ys:List Nat}(h:xs=ys):sameB na na xs ys=true:=by unfold sameB;rw[T_ h];cases na<;>rfl
def fW{na nb:Bool}{xs ys:List Nat}(g:xs.length<=2147483648){b:Bool}(f:sameB na nb xs ys=b):aa prog 59 [dI na xs,dI nb ys] (.one (dB b)):=by
 subst f;by_cases c:na=nb
 ·subst c;by_cases a:xs.length=ys.length
  ·cases na
   ·refine Da ?_;refine kB false ?_ ?_
    ·exact(by simp[a])
    refine kW ?_;refine av Nat (fun j=>j<=xs.length/\ ∀i,i<j->xs[i]? =ys[i]?) (fun j=>⟨[(2, .box 0 0),(3, .box 1 0),(5, .d (dN .i64 j))],[(0,some (aI false xs)),(1,some (aI false ys))]⟩) (fun j=>xs.length-j) 0 ⟨Nat.zero_le _,fun i h=>absurd h (Nat.not_lt_zero _)⟩ kw ?_;exact VL
   ·refine Da ?_;refine kB false ?_ ?_
    ·exact(by simp[a])
    refine kW ?_;refine av Nat (fun j=>j<=xs.length/\ ∀i,i<j->xs[i]? =ys[i]?) (fun j=>⟨[(2, .box 0 0),(3, .box 1 0),(5, .d (dN .i64 j))],[(0,some (aI true xs)),(1,some (aI true ys))]⟩) (fun j=>xs.length-j) 0 ⟨Nat.zero_le _,fun i h=>absurd h (Nat.not_lt_zero _)⟩ kw ?_;exact VL
  ·rw[AG (fun e=>a (by rw[e]))];cases na
   ·refine Da ?_;refine ox ?_;exact am
   ·refine Da ?_;refine ox ?_;exact am
 ·have e:sameB na nb xs ys=false:=by unfold sameB;cases na<;>cases nb<;>first|rfl|exact absurd rfl c
  rw[e];cases na<;>cases nb
  ·exact absurd rfl c
  ·refine kU func59 ?_;exact am
  ·refine kU func59 ?_;exact am
  ·exact absurd rfl c
def Ey{z:Int}{k:Nat}(h:Sz k z):(fmt z).length<=10*k+2:=by
 have a:(ka z.natAbs).length<=10*k:=rh _ _ (k_ h (by rw[Nat.pow_mul];exact Nat.pow_le_pow_left D_ _));unfold fmt;split
 ·simp
 ·rw[L_];have:(if z<0 then [45]else []:List UInt8).length<=1:=by split <;>simp
  omega
def RZ:dZ 0= .agg [.val (.bool false), .sl 0 []]:=by unfold dZ;rw[e0]
def zA(l:List UInt8):Bool:=l.all zP && !decide (l=[])
def iv{l:List UInt8}:zA l=true↔(∀c∈l,cM c)/\l≠[]:=by unfold zA;simp[I_,jc]
def eZ{l:List UInt8}(C:l.length<=1000000000){b:Bool}(y:zA l=b):aa prog 344 [dL l] (.one (dB b)):=by
 subst y;have hsz:=an l;refine kV func344 ?_;refine SM ah (l:=l) O_ rfl rfl rfl rfl rfl rfl rfl rfl rfl rfl rfl ?_;refine kW ?_;refine av Nat (fun j=>j<=l.length/\ ∀i c,i<j->l[i]? =some c->cM c) (fun j=>⟨[(0, .d (dL l)),(6, .d (UX l)),(7, .d (dN .i64 l.length)),(8, .d (dN .i64 j))],[]⟩) (fun j=>l.length-j) 0 ⟨Nat.zero_le _,fun i c h=>absurd h (Nat.not_lt_zero _)⟩ kw ?_;rintro j ⟨B,f⟩;refine kW ?_;refine fH rfl (fun h=>?_) (fun h=>?_)
 ·have g:j<l.length:=by have:=h_ h;omega
  obtain⟨c,r⟩:∃c,l[j]=c:=⟨_,rfl⟩;have hcj:l[j]? =some c:=by rw[Q_ g,r]
  refine kW ?_;refine aS (cs':=[AV.val (.int .u8 c.toNat)]) g (QZ hcj) (m_ 0) rfl rfl rfl rfl rfl rfl rfl rfl ?_;refine kN ?_;refine kI ?_;refine kO ?_;by_cases z:c.toNat<48
  ·exact NS
  ·refine kE ?_;refine kO2 ?_;by_cases A:57<c.toNat
   ·exact NS
   ·refine kE ?_;refine kW ?_;refine⟨j+1,⟨g,fun i v m u=>?_⟩,by omega,weak ⟨rfl,rfl,rfl,?_,trivial⟩ trivial rfl⟩
    ·rcases Nat.lt_succ_iff_lt_or_eq.1 m with w|rfl
     ·exact f i v w u
     ·have:v=c:=by rw[hcj]at u;exact(Option.some.inj u).symm
      rw[this];unfold cM;omega
    ·exact aq O_ O_
 ·have t:j=l.length:=by have:=of_decide_eq_false h;omega
  refine iy ?_;refine kI ?_;refine kO ?_;refine aj rfl rfl rfl rfl rfl rfl rfl (og (a:=l) (b:=[])) ?_;refine kW ?_;have x:l.all zP=true:=I_.2 fun c r=>jc.2 (by obtain⟨i,m⟩:=W_ r;exact f i c (by rw[t];exact(G_.1 m).1) m)
  rw[show zA l=!decide (l=[]) by unfold zA;rw[x];rfl];exact co (T:=TT) rfl rfl
def LB{l:List UInt8}(h:∀c∈l,cM c):bL l=false/\dA l=l:=by have:=CJ (b:=false) (l:=l) (fun c r e=>h c (by rw[e];simp));simp at this;exact⟨this.2,this.1⟩
open Classical in
def sI{l:List UInt8}(h:∀c∈l,cM c)(hl:l.length<=65536):pz l=if iz false l then((num l:Int),0)else(0,2):=by
 obtain⟨h1,h2⟩:=LB h;by_cases ho:iz false l
 ·rw[if_pos ho,J9 ⟨hl,by rw[h1,h2];exact ho⟩,h1,h2];rfl
 ·rw[if_neg ho,jB (fun e=>ho (by have:=e.2;rwa[h1,h2]at this))]
def j1{l:List UInt8}(a:l.length<=65536)(h:iz false l):aa prog 335 [dL l] (.tup [dZ (num l),dB true]):=by have c1:=ku l;rw[sI (d7 h) a,if_pos h]at c1;refine kV func335 ?_;refine ac (eZ (b:=true) (V_ a D_) (iv.2 ⟨d7 h,h.1⟩)) rfl rfl rfl rfl rfl rfl rfl ?_;exact rV
def eW{l:List UInt8}(c:l.length<=65536)(h:¬iz false l):aa prog 335 [dL l] (.tup [dZ 0,dB false]):=by
 by_cases a:zA l=true
 ·have c1:=ku l;rw[sI (iv.1 a).1 c,if_neg h]at c1;refine kV func335 ?_;refine ac (eZ (b:=true) (V_ c D_) a) rfl rfl rfl rfl rfl rfl rfl ?_;exact rV
 ·rw[RZ];refine kV func335 ?_;refine ac (eZ (b:=false) (V_ c D_) (by simpa using a)) rfl rfl rfl rfl rfl rfl rfl ?_;exact am
def zi(k:Nat):(max 1 (10:Int).natAbs)^k<4294967296^(k+1):=by show 10^k<_;have a:(10:Nat)^k<=4294967296^k:=Nat.pow_le_pow_left D_ _;have b:0<(4294967296:Nat)^k:=Nat.pow_pos D_;rw[Nat.pow_succ];omega
def tW(k:Nat):Sz (k+1) ((10:Int)^k):=by unfold Sz;rw[Int.natAbs_pow];exact zi k
def UK:bZ 10:= .small D_
def Sz.of_pow{k j e:Nat}{y:Int}(h:Sz k y)(b:k+e<=j):Sz j (y*10^e):=by refine Sz.mono (j:=k+e) ?_ b;unfold Sz at *;rw[Int.natAbs_mul,Int.natAbs_pow,Nat.pow_add];have a:(10:Int).natAbs^e<=4294967296^e:=Nat.pow_le_pow_left D_ _;exact Nat.lt_of_le_of_lt (Nat.mul_le_mul_left _ a) (Nat.mul_lt_mul_of_pos_right h (Nat.pow_pos D_))
def O4(e:Nat)(a:e<=4096):∃t:Int,(∀y:Int,∀m,e<=m->y*t*10^(m-e)=y*10^m)/\(∀(k j:Nat)(y:Int),Sz k y->k+e<=j->Sz j (y*t))/\bZ t/\(10:Int)^e=t/\aa prog 357 [dZ 10,dN .i64 e] (.tup [dZ t,dN .i64 0]):=by refine⟨10^e,fun y m hm=>?_,fun k j y h hj=>h.of_pow hj,(tW e).fit O_,rfl,EJ a O_ (zi e) UK rfl⟩;rw[Int.mul_assoc,<- Int.pow_add,show e+(m-e)=m by omega]
def Ck{n:Nat}(r:n<=65536){z:Int}(g:(10:Int)^n=z):aa prog 347 [dN .i64 n] (.one (dZ z)):=by
 refine kV func347 ?_;refine kQ Am ?_;refine av (Nat × Int) (fun p=>p.1<=n/\p.2*10^p.1=z/\Sz (n-p.1+1) p.2) (fun p=>⟨[(0, .d (dN .i64 p.1)),(2, .box 0 0),(3, .box 1001 0)],[(0,some [.val (.bool false), .sl 0 []]),(1001,some (aZ p.2))]⟩) (fun p=>p.1) (n,1) ⟨l_ _,by rw[Int.one_mul];exact g,(Sz.small (z:=1) D_).mono O_⟩ kw ?_;rintro⟨m,y⟩ ⟨c,a,hs⟩;dsimp only at c a hs ⊢;refine kW ?_;refine fH rfl (fun h=>?_) (fun h=>?_)
 ·have b:4096<m:=by have:=h_ h;omega
  obtain⟨t,i,j,t3,_,t4⟩:=O4 4096 (l_ _);refine Qn ?_;refine⟨(m-4096,y*t),⟨by omega,?_,?_⟩,by dsimp only;omega,weak ⟨?_,rfl,rfl,trivial⟩ ⟨rfl,rfl,trivial⟩ rfl⟩
  ·exact(i y m O_).trans a
  ·exact j _ _ y hs (by dsimp only;omega)
  ·exact aq O_ O_
 ·have b:m<=4096:=by have:=of_decide_eq_false h;omega
  obtain⟨t,_,_,t3,f,t4⟩:=O4 m b;refine iy ?_;refine Qn ?_;rw[<- a,f];exact co (T:=TT) rfl rfl
def el{l:List UInt8}(h:∀c∈l,cM c):Sz l.length (num l:Int):=by unfold Sz;rw[b_];exact k_ (tZ _ l rfl h) (Nat.pow_le_pow_left D_ _)
def xr{a b:List UInt8}(y:a.length+b.length<=65536)(ha:iz false a)(r:b≠[])(f:∀x∈b,cM x){q:Rat}(hq:Rat.divInt ((num a*10^b.length+num b:Nat):Int) ((10^b.length:Nat):Int)=q):aa prog 334 [dL a,dL b] (.tup [dQ q,dB true]):=by
 obtain⟨p,hp⟩:∃p,(10:Int)^b.length=p:=⟨_,rfl⟩;have d:((10^b.length:Nat):Int)=p:=by rw[<- hp,Int.natCast_pow];rfl
 have hp0:p≠0:=by rw[<- d];have:=Nat.pow_pos (a:=10) (n:=b.length) D_;omega
 have sp:Sz (b.length+1) p:=by rw[<- hp];exact tW _
 have sa:=el (d7 ha);have t:=el f;have v:((num a*10^b.length+num b:Nat):Int)=(num a:Int)*p+num b:=by rw[Int.natCast_add,Int.natCast_mul,d]
 rw[v,d]at hq;have sn:Sz (a.length+b.length+2) ((num a:Int)*p+num b):=(sa.mul sp).add (t.mono O_);have i:=ku (JJ b);have w:(JJ b).length<=b.length:=(List.dropWhile_sublist _).length_le;have m:∀c∈JJ b,cM c:=fun c u=>f c ((List.dropWhile_sublist _).subset u);rw[sI m O_,DC]at i;by_cases g:JJ b=[]
 ·have j:num b=0:=by rw[<- DC,g];rfl
  rw[j]at hq sn;refine JC ?_;refine ac (eZ (b:=true) O_ (iv.2 ⟨f,r⟩)) rfl rfl rfl rfl rfl rfl rfl ?_;refine kW ?_;refine kC (ny b) ?_;refine kN ?_;refine iY ?_;refine aj rfl rfl rfl rfl rfl rfl rfl (ee (a:=JJ b) (b:=[]) g) ?_;refine PA ?_;refine ac (zS (na:=decide ((num a:Int)*p<0)) (xs:=digs ((num a:Int)*p).natAbs) (nb:=false) (ys:=[]) (ab _) Wd.nil ((sa.mul sp).fit O_) (by unfold mn;simp) (z:=(num a:Int)*p+(0:Nat)) (by rw[a6];rfl)) rfl rfl rfl rfl rfl rfl rfl ?_;exact Oo
 ·rw[if_pos (QF f g)]at i;refine JC ?_;refine ac (eZ (b:=true) O_ (iv.2 ⟨f,r⟩)) rfl rfl rfl rfl rfl rfl rfl ?_;refine kW ?_;refine kC (ny b) ?_;refine kN ?_;refine iY ?_;refine aj rfl rfl rfl rfl rfl rfl rfl (eM (a:=JJ b) (b:=[]) g) ?_;refine kW ?_;refine kC i ?_;refine PA ?_;refine ac (ES ((sa.mul sp).fit O_) (t.fit O_)) rfl rfl rfl rfl rfl rfl rfl ?_;exact Oo
def uH{a b:List UInt8}(c:a.length+b.length<=65536)(h:¬(iz false a/\b≠[]/\ ∀x∈b,cM x)):aa prog 334 [dL a,dL b] (.tup [HI,dB false]):=by
 by_cases ha:iz false a
 ·refine JC ?_;refine ac (eZ (l:=b) (b:=false) O_ (Bool.eq_false_iff.2 fun hb=>h ⟨ha,(iv.1 hb).2,(iv.1 hb).1⟩)) rfl rfl rfl rfl rfl rfl rfl ?_;exact am
 ·refine kV func334 ?_;refine ac (eW O_ ha) rfl rfl rfl rfl rfl rfl rfl ?_;exact am
def uG{a b:List UInt8}(t:a.length+b.length<=65536)(h:iz false a/\iz false b/\num b≠0/\num b≠1/\Nat.gcd (num a) (num b)=1){q:Rat}(i:Rat.divInt (num a:Int) (num b:Int)=q):aa prog 333 [dL a,dL b] (.tup [dQ q,dB true]):=by
 obtain⟨h1,h2,f,r,c⟩:=h;have j:=el (d7 h1);have m:=el (d7 h2);have e:q.num=num a/\q.den=num b:=by
  refine G9 (Nat.pos_of_ne_zero f) (by rw[b_];exact c) ?_;have h0:(q.den:Int)≠0:=by have:=iD q;omega
  have:=(Rat.divInt_eq_divInt_iff h0 (show(num b:Int)≠0 by omega)).1 ((kS q).trans i.symm);exact this.symm
 rw[C8 e.1 (d:=num b) (by rw[e.2])];refine Pu ?_;refine ac (lR (j.fit O_) (m.fit O_) (g:=1) (by rw[b_,b_];exact c)) rfl rfl rfl rfl rfl rfl rfl ?_;refine kW ?_;refine kC (bK (b:=true) rfl) ?_;exact am
def si{a b:List UInt8}(r:a.length+b.length<=65536)(h:¬(iz false a/\iz false b/\num b≠0/\num b≠1/\Nat.gcd (num a) (num b)=1)):aa prog 333 [dL a,dL b] (.tup [HI,dB false]):=by
 by_cases h1:iz false a
 ·by_cases h2:iz false b
  ·have j:=el (d7 h1);have m:=el (d7 h2);by_cases d:num b=0
   ·refine GC ?_;refine Kb ?_;refine kW ?_;refine ac (gH (T_ (show(num b:Int)=0 by omega))) rfl rfl rfl rfl rfl rfl rfl ?_;exact am
   ·by_cases f:num b=1
    ·refine Um ?_;refine ac (bK (T_ (show(num b:Int)=1 by omega))) rfl rfl rfl rfl rfl rfl rfl ?_;exact am
    ·obtain⟨g,c⟩:∃g,Nat.gcd (num a) (num b)=g:=⟨_,rfl⟩;have i:g≠1:=fun e=>h ⟨h1,h2,d,f,c.trans e⟩;refine Pu ?_;refine ac (lR (j.fit O_) (m.fit O_) (g:=g) (by rw[b_,b_];exact c)) rfl rfl rfl rfl rfl rfl rfl ?_;refine kW ?_;refine ac (bK (F_ (show ¬(g:Int)=1 by omega))) rfl rfl rfl rfl rfl rfl rfl ?_;exact am
  ·refine GC ?_;refine ac (eW O_ h2) rfl rfl rfl rfl rfl rfl rfl ?_;exact am
 ·by_cases h2:iz false b
  ·refine kV func333 ?_;refine ac (eW O_ h1) rfl rfl rfl rfl rfl rfl rfl ?_;refine kW ?_;refine Kb ?_;exact am
  ·refine kV func333 ?_;refine ac (eW O_ h1) rfl rfl rfl rfl rfl rfl rfl ?_;refine kW ?_;refine ac (eW O_ h2) rfl rfl rfl rfl rfl rfl rfl ?_;exact am
def yO{c:UInt8}{t:List UInt8}(h:c∈t):∃a b,t=a++c::b/\c ∉ a:=by
 induction t with
 |nil=>cases h
 |cons x t i=>
  by_cases d:x=c
  ·subst d;exact⟨[],t,rfl,by simp⟩
  ·have f:c∈t:=by
    rcases f_.1 h with e|e
    ·exact absurd e.symm d
    ·exact e
   obtain⟨a,b,rfl,g⟩:=i f;exact⟨x::a,b,rfl,fun e=>by
    rcases f_.1 e with e|e
    ·exact d e.symm
    ·exact g e⟩
def mb{t:List UInt8}(f:t.length<=65536):(∃q,fJ t=some q/\nz 200000 q/\aa prog 329 [dL t] (.tup [dQ q,dB true]))∨(fJ t=none/\ ∃x,(x=HI∨x= .agg (aZ 0++aZ 1))/\aa prog 329 [dL t] (.tup [x,dB false])):=by
 by_cases h47:47∈t
 ·obtain⟨a,b,rfl,ha⟩:=yO h47;have c:a.length+b.length<=65536:=by simp at f;omega
  rw[Fz ha];by_cases h:iz false a/\iz false b/\num b≠0/\num b≠1/\Nat.gcd (num a) (num b)=1
  ·rw[if_pos h];refine .inl ⟨_,rfl, .divInt ((el (d7 h.1)).mono O_) ((el (d7 h.2.1)).mono O_) (by have:=h.2.2.1;omega),?_⟩;refine kU func329 ?_;refine EF ?_;refine kC (uG c h rfl) ?_;exact am
  ·rw[if_neg h];refine .inr ⟨rfl,HI, .inl rfl,?_⟩;refine kU func329 ?_;refine EF ?_;refine kC (si c h) ?_;exact am
 by_cases d:46∈t
 ·obtain⟨a,b,rfl,ha⟩:=yO d;have c:a.length+b.length<=65536:=by simp at f;omega
  rw[Dx h47 ha];by_cases h:iz false a/\b≠[]/\ ∀x∈b,cM x
  ·rw[if_pos h];have g:((10^b.length:Nat):Int)≠0:=by have:=Nat.pow_pos (a:=10) (n:=b.length) D_;omega
   have i:Sz 200000 ((10^b.length:Nat):Int):=by rw[Int.natCast_pow];exact(tW b.length).mono O_
   have m:Sz 200000 ((num a*10^b.length+num b:Nat):Int):=by rw[Int.natCast_add,Int.natCast_mul,Int.natCast_pow];exact(((el (d7 h.1)).of_pow (j:=131072) O_).add ((el h.2.2).mono O_)).mono O_
   refine .inl ⟨_,rfl, .divInt m i g,?_⟩;refine Eb ?_;refine EF ?_;refine kC (xr c h.1 h.2.1 h.2.2 rfl) ?_;exact am
  ·rw[if_neg h];refine .inr ⟨rfl,HI, .inl rfl,?_⟩;refine Eb ?_;refine EF ?_;refine kC (uH c h) ?_;exact am
 rw[yH h47 d];by_cases h:iz false t
 ·rw[if_pos h];refine .inl ⟨_,rfl,⟨(el (d7 h)).mono O_,(Sz.small (z:=1) D_).mono O_⟩,?_⟩;refine Eb ?_;refine kW ?_;refine kQ (oU d) ?_;refine kC (j1 f h) ?_;exact DX
 ·rw[if_neg h];refine .inr ⟨rfl,_, .inr rfl,?_⟩;refine Eb ?_;refine kW ?_;refine kQ (oU d) ?_;refine kC (eW f h) ?_;exact DX
def CD{s:List UInt8}{q:Rat}(h:b8 s=some q):aa prog 313 [dL s] (.tup [dQ q,dN .i64 0]):=by
 have hsz:=an s;unfold b8 at h;split at h
 ·rename_i f;have c:=lI s;rcases mb (t:=dA s) O_ with⟨p,a,d,c1⟩| ⟨a,_⟩
  ·rw[a]at h;dsimp only at h;cases hn:bL s
   ·rw[hn]at h;simp only[Bool.false_eq_true,if_false,X_]at h;subst h;refine Kg ?_;refine kN ?_;refine kI ?_;refine kO3 ?_;refine kB false ?_ ?_
    ·exact hn
    refine kW ?_;refine eR (T:=TT) rfl ?_ ?_
    ·exact hn
    exact am
   ·rw[hn]at h;simp only[if_true]at h;split at h
    ·cases h
    ·rename_i b;cases h;have h0:¬p.num=0:=fun e=>b (Rat.num_eq_zero.1 e);refine Kg ?_;refine kN ?_;refine kI ?_;refine kO3 ?_;refine kB true ?_ ?_
     ·exact hn
     refine kW ?_;refine kQ (gH (F_ h0)) ?_;refine fX (T:=TT) rfl ?_ ?_
     ·exact hn
     refine kW ?_;refine ac (GK d D_ rfl) rfl rfl rfl rfl rfl rfl rfl ?_;exact am
  ·rw[a]at h;cases h
 ·cases h
def Aj{s:List UInt8}(h:b8 s=none):aa prog 313 [dL s] (.tup [HI,dN .i64 2]):=by
 have hsz:=an s;by_cases d:s.length<=65536
 ·have c:=lI s;unfold b8 at h;rw[if_pos d]at h;rcases mb (t:=dA s) O_ with⟨p,b,g,c1⟩| ⟨b,x,f,c1⟩
  ·rw[b]at h;dsimp only at h;cases hn:bL s
   ·rw[hn]at h;simp at h
   ·rw[hn]at h;simp only[if_true]at h;split at h
    ·rename_i a;have h0:p.num=0:=Rat.num_eq_zero.2 a;refine Kg ?_;refine kN ?_;refine kI ?_;refine kO3 ?_;refine kB true ?_ ?_
     ·exact hn
     refine kW ?_;refine kC (gH (T_ h0)) ?_;exact am
    ·cases h
  ·rcases f with rfl|rfl
   ·refine Kg ?_;exact am
   ·refine Kg ?_;exact am
 ·refine kV func313 ?_;refine kC (CG s) ?_;refine Dz ?_;exact am
section
open Go.ChangeShapes Go.WideShapes Go.ChangeAt Go.RowKit Go.Joins
def Dp(P:Program):Nat->Nat->List Field->Bool
 |a,b,[]=>Nat.beq a b
 |a,b,f::r=>Nat.beq f.offset a && Dp P (a+P.cellsOf f.type) b r
def y3{w:World}{a:Addr}{k:Nat}{l:List Value}(h:w.cells? 0 a k=some l):l.length=k/\ ∀(i:Nat)(v:Value),l[i]? =some v->w.cell? (a.add i)=some v:=by
 unfold World.cells? at h;rw[if_pos (Nat.zero_le _)]at h;have:∀(b:List Nat)(l:List Value),b.mapM (fun i=>w.cell? (a.add i))=some l->l.length=b.length/\ ∀(i:Nat)(v:Value),l[i]? =some v-> ∃x,b[i]? =some x/\w.cell? (a.add x)=some v:=by
  intro b;induction b with
  |nil=>intro l h;simp at h;subst h;exact⟨rfl,fun i v h=>by simp at h⟩
  |cons x b q=>
   intro l h;simp only[List.mapM_cons,Option.bind_eq_bind]at h;cases c:w.cell? (a.add x)with
   |none=>rw[c]at h;simp at h
   |some v=>
    cases d:b.mapM (fun i=>w.cell? (a.add i))with
    |none=>rw[c,d]at h;simp at h
    |some r=>
     rw[c,d]at h;simp at h;subst h;obtain⟨f,g⟩:=q r d;refine⟨by simp[f],fun i u e=>?_⟩;cases i with
     |zero=>simp at e;subst e;exact⟨x,rfl,c⟩
     |succ i=>simpa using g i u (by simpa using e)
 obtain⟨c,d⟩:=this _ _ h;refine⟨by simpa using c,fun i v m=>?_⟩;obtain⟨x,p,j⟩:=d i v m;have:x=i:=by have:=(G_.1 p).2;simpa using this.symm
 rw[<- this];exact j
def yt{α β:Type}{f:α->Option β}:∀{a:List α}{b:List β},a.mapM f=some b->a.length=b.length/\ ∀(i:Nat)(x:α),a[i]? =some x-> ∃y,b[i]? =some y/\f x=some y
 | [],b,h=>by simp at h;subst h;exact⟨rfl,fun i x h=>by simp at h⟩
 |x::a,b,h=>by
  simp only[List.mapM_cons,Option.bind_eq_bind]at h;cases h1:f x with
  |none=>rw[h1]at h;simp at h
  |some y=>
   cases h2:a.mapM f with
   |none=>rw[h1,h2]at h;simp at h
   |some l=>
    rw[h1,h2]at h;simp at h;subst h;obtain⟨d,e⟩:=yt h2;refine⟨by simp[d],fun i z c=>?_⟩;cases i with
    |zero=>simp at c;subst c;exact⟨y,rfl,h1⟩
    |succ i=>simpa using e i z (by simpa using c)
def yz{rows:List (List AV)}{k:Nat}(h:∀r∈rows,r.length=k):∀(i:Nat)(r:List AV),rows[i]? =some r-> ∀j,j<k->rows.flatten[i*k+j]? =r[j]?:=by
 induction rows with
 |nil=>intro i r a;simp at a
 |cons x rows c=>
  intro i r a j b;have d:=h x S_;simp only[List.flatten_cons];cases i with
  |zero=>simp at a;subst a;rw[Nat.zero_mul,J_,List.getElem?_append_left O_]
  |succ i=>rw[g_ (by rw[Nat.add_mul];omega)];have:=c (fun r a=>h r (by simp[a])) i r (by simpa using a) j b;rw[<- this];congr 1;rw[Nat.add_mul];omega
def lx{rows:List (List AV)}{k:Nat}(h:∀r∈rows,r.length=k):rows.flatten.length=rows.length*k:=by
 induction rows with
 |nil=>simp
 |cons x rows b=>rw[List.flatten_cons,L_,b (fun r a=>h r (by simp[a])),h x S_,List.length_cons,Nat.add_mul];omega
def TY{P:Program}{W:World}{e:TypeId}{a:Addr}{len cap:Nat}{rows:List (List AV)}(j:cap<=9223372036854775807)(x:len<=cap)(B:rows.length=len)(hsz:∀r∈rows,r.length=P.cellsOf e)(Q:∀i r,rows[i]? =some r-> ∃y:List Value,W.cells? 0 (a.add (i*P.cellsOf e)) (P.cellsOf e)=some y/\CM (fun _=>False) W r y):AV.M (fun _=>False) W (.sl len rows.flatten) (.slice (some a) len cap):=by
 by_cases h0:len*P.cellsOf e=0
 ·have:rows.flatten=[]:=E_ (by rw[lx hsz,B];exact h0);rw[this];exact .emp x j (fun h=>by cases h)
 ·have hlen:0<len:=by
   rcases Nat.eq_zero_or_pos len with h|h
   ·rw[h,Nat.zero_mul]at h0;exact absurd rfl h0
   ·exact h
  have w:0<P.cellsOf e:=by
   rcases Nat.eq_zero_or_pos (P.cellsOf e)with h|h
   ·rw[h,Nat.mul_zero]at h0;exact absurd rfl h0
   ·exact h
  have d:∀q c,rows.flatten[q]? =some c-> ∃v,W.cell? (a.add q)=some v/\AV.M (fun _=>False) W c v:=by
   intro q c t;have C:q<len*P.cellsOf e:=by have:=(G_.1 t).1;rwa[lx hsz,B]at this
   have R:q/P.cellsOf e<len:=Nat.div_lt_of_lt_mul (by rw[Nat.mul_comm];exact C);have O:q%P.cellsOf e<P.cellsOf e:=Nat.mod_lt _ w;have G:q=q/P.cellsOf e*P.cellsOf e+q%P.cellsOf e:=by have:=Nat.div_add_mod q (P.cellsOf e);rw[Nat.mul_comm]at this;omega
   have f:rows[q/P.cellsOf e]? =some (rows[q/P.cellsOf e]'(by omega)):=S_;have g:=yz hsz _ _ f (q%P.cellsOf e) O;rw[<- G,t]at g;obtain⟨y,p,A⟩:=Q _ _ f;have J:=(y3 p);have F:y[q%P.cellsOf e]? =some (y[q%P.cellsOf e]'(by omega)):=S_;refine⟨_,?_,A.2 _ c _ g.symm F⟩;have L:=J.2 _ _ F;have I:(a.add (q/P.cellsOf e*P.cellsOf e)).add (q%P.cellsOf e)=a.add q:=by
    unfold Addr.add;by_cases z:q/P.cellsOf e*P.cellsOf e=0
    ·by_cases u:q%P.cellsOf e=0
     ·rw[if_pos z,if_pos u,if_pos O_]
     ·rw[if_pos z,if_neg u,if_neg O_];simp <;>omega
    ·by_cases u:q%P.cellsOf e=0
     ·rw[if_neg z,if_pos u,if_neg O_];simp <;>omega
     ·rw[if_neg z,if_neg u,if_neg O_];simp <;>omega
   rwa[I]at L
  have N:0<rows.flatten.length:=by rw[lx hsz,B];exact Nat.mul_pos hlen w
  obtain⟨S,g,_⟩:=d 0 rows.flatten[0] S_;have e0:a.add 0=a:=rfl;rw[e0]at g;obtain⟨b,E,m⟩:=a;have D:m=none:=by
   cases m with
   |none=>rfl
   |some q=>
    unfold World.cell? at g;split at g
    ·simp at g
    ·cases g
  subst D;refine AV.M.sl (fun q=>(W.cell? ⟨b,E+q,none⟩).getD undef) x j (fun h=>h) (World.block_lt_of_cell? W _ g) (fun q c t=>?_) (fun q c t=>?_)
  ·obtain⟨v,p,_⟩:=d q c t;rw[bt]at p;rw[p];rfl
  ·obtain⟨v,p,A⟩:=d q c t;rw[bt]at p;rw[p];exact A
section
variable {H:Type}{enc:TypeId × Value->H}{W:World}{P:Program}
end
end
inductive Rx where
 |mk (op:Int) (na:Bool) (xs:List Nat) (nb:Bool) (ys:List Nat) (nm:List UInt8) (args:List Rx)
mutual
def aR:Rx->List AV
 | .mk e b f c g d a=>[.val (.int .i64 e)]++FH b f c g++[.val (vL d), .sl a.length (gc a)]
def gc:List Rx->List AV
 | []=>[]
 |x::r=>aR x++gc r
end
def dR(x:Rx):DV:= .agg (aR x)
def GG(x:Rx):(aR x).length=7:=by obtain⟨e,b,f,c,g,d,a⟩:=x;rfl
def fO:∀(l:List Rx)(i:Nat)(x:Rx),l[i]? =some x-> ∀(j:Nat)(a:AV),(aR x)[j]? =some a->(gc l)[i*7+j]? =some a
 | [],i,x,h,_,_,_=>by simp at h
 |y::l,0,x,h,j,a,b=>by simp at h;subst h;simp only[gc,Nat.zero_mul,J_];rw[List.getElem?_append_left (G_.1 b).1];exact b
 |y::l,i+1,x,h,j,a,b=>by simp only[gc];rw[g_ (by rw[GG,Nat.add_mul];omega),GG,show(i+1)*7+j-7=i*7+j by rw[Nat.add_mul];omega];exact fO l i x (by simpa using h) j a b
inductive vY:Rx->Prop
 |mk {op:Int} {na:Bool} {xs:List Nat} {nb:Bool} {ys:List Nat} {nm:List UInt8} {args:List Rx}: -9223372036854775808<=op->op<=9223372036854775807->Wd xs->Wd ys->nm.length<=9223372036854775807->args.length<=9223372036854775807->(∀x∈args,vY x)->vY (.mk op na xs nb ys nm args)
def below_grow(w:World)(k:Nat)(os:Array Obj):Below w.heap.size w (Go.Sort.grow (w.drewN k) os):=by
 refine⟨rfl,rfl,rfl,?_,fun b a=>?_⟩
 ·show w.heap.size<=(w.heap++os).size;simp
 ·show(w.heap++os)[b]? =w.heap[b]?;rw[Array.getElem?_append_left a]
def JO(p:Int):Lib.itoa p=fmt p:=by
 have a:∀n:Nat,n≠0->Lib.decDigits n=ka n:=by
  intro n;induction n using Nat.strongRecOn with
  |_ n b=>
   intro h0;rw[fk,dr h0];by_cases h:n<10
   ·rw[li h,Nat.div_eq_of_lt h,cZ,Nat.mod_eq_of_lt h];rfl
   ·rw[BY O_,<- fk,b (n/10) O_ O_]
 unfold Lib.itoa fmt;by_cases h:p<0
 ·rw[if_pos h,if_neg O_,if_pos h,a _ O_];rfl
 ·rw[if_neg h];by_cases h0:p=0
  ·subst h0;rw[if_pos rfl,show(0:Int).toNat=0 from rfl,fk,li D_];rfl
  ·rw[if_neg h0,if_neg h,show p.toNat=p.natAbs by omega,a _ O_];rfl
def BN{p:Int}(h0: -9223372036854775808<=p)(a:p<=9223372036854775807):aa prog 101 [dN .i64 p] (.one (dL (fmt p))):=by
 refine⟨aD func101 rfl rfl,fun S w d b c=>?_⟩
 match d,c with
 | [v],⟨h,_⟩=>obtain rfl:=bc h;refine(Tryz.internal_strconv_Itoa p h0 a w b.1.here).mono ?_;rintro e f ⟨rfl,k,os,rfl⟩;refine⟨_,rfl,?_,below_grow _ _ _⟩;rw[JO];exact AV.M.val rfl
def Es{p:Int}(h0: -9223372036854775808<=p)(a:p<=9223372036854775807):aa prog 60 [dN .i64 p] (.one (dL (fmt p))):=by refine kV func60 ?_;refine kC (BN h0 a) ?_;exact am
inductive B4 where
 |add
 |sub
 |mul
 |div
def B4.code:B4->Int
 | .add=>4
 | .sub=>5
 | .mul=>6
 | .div=>7
inductive Ex where
 |num (v:Rat) (u:List UInt8)
 |nam (s:List UInt8)
 |neg (a:Ex)
 |bin (k:B4) (a b:Ex)
def rx:Ex->Rx
 | .num v u=> .mk 1 (decide (v.num<0)) (digs v.num.natAbs) (decide ((v.den:Int)<0)) (digs (v.den:Int).natAbs) u []
 | .nam s=> .mk 2 false [] false [] s []
 | .neg a=> .mk 3 false [] false [] [] [rx a]
 | .bin k a b=> .mk k.code false [] false [] [] [rx a,rx b]
def aE(e:Ex):List AV:=aR (rx e)
def dE(e:Ex):DV:= .agg (aE e)
def pK(a:Ex):aE (.neg a)=[.val (.int .i64 3)]++pk++[.val (vL []), .sl 1 (aE a)]:=by show [.val (.int .i64 3)]++FH false [] false []++[.val (vL []), .sl 1 (aR (rx a)++[])]=_;rw[c_];rfl
def mS(k:B4)(a b:Ex):aE (.bin k a b)=[.val (.int .i64 k.code)]++pk++[.val (vL []), .sl 2 (aE a++aE b)]:=by show [.val (.int .i64 k.code)]++FH false [] false []++[.val (vL []), .sl 2 (aR (rx a)++(aR (rx b)++[]))]=_;rw[c_];rfl
abbrev EL:=List (List UInt8 × (Rat × Int))
section
variable {l:EL}
def af(o:Int)(na:Bool)(xs:List Nat)(nb:Bool)(ys:List Nat)(a:List UInt8)(n:Nat)(cs:List AV):List AV:=[.val (.int .i64 o), .val (.bool na),aW xs, .val (.bool nb),aW ys, .val (vL a), .sl n cs]
def aM(a:Ex):∃o na xs nb ys nm n b,aE a=af o na xs nb ys nm n b:=by unfold aE;generalize rx a=x;exact N9
def Ll(a:List AV):∀(j:Nat)(x:AV),a[j]? =some x->a[0*7+j]? =some x:=fun j x h=>by rw[Nat.zero_mul,J_];exact h
def nF(a b:List AV):∀(j:Nat)(x:AV),a[j]? =some x->(a++b)[0*7+j]? =some x:=fun j x h=>by rw[Nat.zero_mul,J_,List.getElem?_append_left (G_.1 h).1];exact h
def oB{a:List AV}(b:List AV)(c:a.length=7):∀(j:Nat)(x:AV),b[j]? =some x->(a++b)[1*7+j]? =some x:=fun j x h=>by rw[g_ (by rw[c];omega),c,show 1*7+j-7=j by omega];exact h
end
section
variable {l:EL}
end
section
variable {P:Program}{T:TypeId->Option Ty}{n:Nat}{ops:Array Oper}{id:Nat}{draw:Bool}{K:AS->Prop}{s:AS}{k:Nat}{o:Oper}{os:List Oper}{fps:List FP}
def P4{x y:Operand}{ts:Array TypeId}{a b m:Int}(f:max a b=m)(p:gd ops s o=some true)(c:o.op= .call ⟨.builtin .max,#[x,y],ts⟩)(t:s.ev x= .d (dN .i64 a))(u:s.ev y= .d (dN .i64 b))(q:aO n o.dst=true)(r:gO draw ops (aH ops o ⟨.d (dN .i64 m),none⟩ []) k fps=true)(h:aw P T n ops id draw K (k+1) os (s.eff o.dst ⟨.d (dN .i64 m),none⟩) (aH ops o ⟨.d (dN .i64 m),none⟩ []::fps)):aw P T n ops id draw K k (o::os) s fps:=by
 subst f;refine .run p (.gen fun C j _=>?_) q r h;have v:=(aP j (x:=x) (by simp[c,Op.operands,Call.operands])).trans t;have z:=(aP j (x:=y) (by simp[c,Op.operands,Call.operands])).trans u;refine ar fun n A D g B w i=>⟨.int .i64 (max a b),w,?_,Below.refl _ _,AV.M.val rfl⟩;have f:(Builtin.max2 (.int .i64 a) (.int .i64 b)).run P w= .ok (.int .i64 (max a b)) w:=by
  have e:max a b=if b > a then b else a:=by split <;>omega
  rw[e];rfl
 simp[execOp,c,resolve,invoke,builtin,Builtin.max_,bn i v,bn i z,Y_,f]
end
def iN{p:Rx->Prop}(h:∀e b f c g d a,(∀y∈a,p y)->p (.mk e b f c g d a)):∀x,p x
 | .mk e b f c g d a=>h e b f c g d a (fun y i=>iN h y)
decreasing_by
 have:=List.sizeOf_lt_of_mem i;simp;omega
def aJ(x:Rx):∃o na xs nb ys nm n a,aR x=af o na xs nb ys nm n a:=by exact N9
mutual
def jx:Rx->Nat
 | .mk _ _ _ _ _ _ a=>lV a+1
def lV:List Rx->Nat
 | []=>0
 |x::r=>jx x+lV r
end
mutual
def pZ:Rx->Nat
 | .mk _ _ _ _ _ _ a=>lU a+1
def lU:List Rx->Nat
 | []=>0
 |y::r=>max (pZ y) (lU r)
end
def HO:∀x,pZ x<=jx x:=by
 refine iN fun p i q j t m a e=>?_;have c:∀l:List Rx,(∀y∈l,pZ y<=jx y)->lU l<=lV l:=by
  intro l;induction l with
  |nil=>intro _;exact l_ _
  |cons y r b=>intro h;have f:=h y S_;have g:=b fun z d=>h z (by simp[d]);rw[lU,lV];omega
 rw[pZ,jx];have:=c a e;omega
def rD:∀{l:List Rx}{y:Rx},y∈l->jx y<=lV l
 |a::l,y,h=>by
  rw[lV];rcases f_.1 h with rfl|h
  ·omega
  ·have:=rD h;omega
def xp:∀{l:List Rx}{y:Rx},y∈l->pZ y<=lU l
 |a::l,y,h=>by
  rw[lU];rcases f_.1 h with rfl|h
  ·omega
  ·have:=xp h;omega
def ym:∀(x:Rx),vY x->jx x<=1000000->aa prog 90 [dR x] (.one (dN .i64 (pZ x))):=by
 refine iN fun op na xs nb ys nm args A t z=>?_;have r:=HO (.mk op na xs nb ys nm args);obtain⟨_,_,_,_,_,hlen,f⟩:=t;rw[jx]at z;rw[pZ,jx]at r;refine C2 ?_;refine kV func90 ?_;refine av (Nat × Nat) (fun s=>s.1<=args.length/\s.2<=lU args/\max s.2 (lU (args.drop s.1))=lU args) (fun s=>⟨[(1, .box 0 0),(2, .d (dN .i64 0)),(3, .d (dN .i64 s.2)),(4, .d (dN .i64 s.1))],[(0,some (af op na xs nb ys nm args.length (gc args)))]⟩) (fun s=>args.length-s.1) (0,0) ⟨Nat.zero_le _,Nat.zero_le _,Nat.zero_max _⟩
  kw ?_
 rintro⟨i,d⟩ ⟨y,v,h2⟩;dsimp only at y v h2 ⊢;refine kI ?_;refine kO4 ?_;by_cases hlt:i<args.length
 ·refine kT ?_;obtain⟨o1,na1,xs1,nb1,ys1,nm1,n1,cs1,u⟩:=aJ args[i];have t:args[i]? =some args[i]:=by simp[hlt]
  have hat:∀(j:Nat)(a:AV),(af o1 na1 xs1 nb1 ys1 nm1 n1 cs1)[j]? =some a->(gc args)[i*7+j]? =some a:=fun j a h=>fO args i args[i] t j a (by rw[u];exact h);have g:=List.getElem_mem hlt;have hsz:=rD g;have w:=xp g;have c:=A args[i] g (f _ g) O_;rw[show dR args[i]= .agg (af o1 na1 xs1 nb1 ys1 nm1 n1 cs1) from congrArg DV.agg u]at c;rw[List.drop_eq_getElem_cons hlt,lU]at h2;generalize pZ args[i]=k at *;refine kW ?_;refine x4 ?_;refine kO ?_;refine kC c ?_;refine P4 (a:=d) (b:=k) (m:=(max d k:Nat)) O_ rfl rfl rfl rfl rfl rfl ?_;refine kW ?_;exact⟨(i+1,max d k),⟨hlt,by dsimp only;omega,by dsimp only;omega⟩,by dsimp only;omega,weak ⟨rfl,rfl,rfl,aq O_ O_,trivial⟩ ⟨rfl,trivial⟩ rfl⟩
 ·exact Ow
end Go.Proofs.YtnchbpoopnjghaaGreatDoor
