/- Parts of a proof: contracts of the functions that the laws reach. -/
import Derived.Test.YtnchbpoopnjghaaGreatDoorRAmI
set_option maxHeartbeats 100000000
set_option linter.all false
open Go.Proofs.Tryz
namespace Go.Proofs.YtnchbpoopnjghaaGreatDoor
open Go.RowKit
def dW(xs:List Nat):DV:= .leaf (aW xs)
def C1{S:Nat->Prop}{w w':World}{e:Ending}{q r:Nat}(h:db S w)(g:j2 q r w e w'):FA S (.tup [dW (digs q),dW (digs r)]) w e w':=by
 obtain⟨A,n,c,B,m,d,rfl,j,g,f⟩:=g;refine⟨_,rfl,⟨[.slice A n c, .slice B m d],rfl,rfl,fun i x u a b=>?_⟩,f⟩
 match i with
 |0=>simp at a b;subst a b;exact mc (h.grow f) j
 |1=>simp at a b;subst a b;exact mc (h.grow f) g
 |i+2=>simp at a
def cg{xs:List Nat}(f:Wd xs):aa prog 194 [dW xs] (.one (dW (trim xs))):=
 ⟨aD func194 rfl rfl,fun S w g b d=>by
  match g,d with
  | [v],⟨h,_⟩=>obtain⟨A,n,c,rfl,a⟩:=fB h f;refine(gk A n c xs w a).mono ?_;rintro e i ⟨rfl,rfl⟩;exact⟨_,rfl,mc b a.trim,Below.refl _ _⟩⟩
def mP{xs:List Nat}(f:Wd xs):aa prog 172 [dW xs] (.one (dW (trim xs))):=
 ⟨aD func172 rfl rfl,fun S w g b d=>by
  match g,d with
  | [v],⟨h,_⟩=>obtain⟨A,n,c,rfl,a⟩:=fB h f;refine(dm A n c xs w a).mono ?_;rintro e i ⟨rfl,rfl⟩;exact⟨_,rfl,mc b a.trim,Below.refl _ _⟩⟩
def qP{a b:Nat}(h:(digs a).length<=2147483648)(j:0<b):aa prog 282 [dW (digs a),dW (digs b)] (.tup [dW (digs (a/b)),dW (digs (a%b))]):=
 ⟨aD func282 rfl rfl,fun S w t i p=>by
  match t,p with
  | [v,u],⟨f,g,_⟩=>obtain⟨A,n,c,rfl,q⟩:=fB f (ab _);obtain⟨B,m,d,rfl,r⟩:=fB g (ab _);exact(Td h j A n c B m d w q r).mono fun e x l=>C1 i l⟩
def nv{a b:Nat}(h:(digs a).length<=2147483648)(j:0<b):aa prog 277 [dW (digs a),dW (digs b)] (.tup [dW (digs (a/b)),dW (digs (a%b))]):=
 ⟨aD func277 rfl rfl,fun S w t i p=>by
  match t,p with
  | [v,u],⟨f,g,_⟩=>obtain⟨A,n,c,rfl,q⟩:=fB f (ab _);obtain⟨B,m,d,rfl,r⟩:=fB g (ab _);exact(Q3 h j A n c B m d w q r).mono fun e x l=>C1 i l⟩
def bg{neg:Bool}{xs:List Nat}(h:Wd xs){z:Int}(j:bv neg xs=z):aa prog 232 [dB neg,dW xs] (.one (dZ z)):=
 ⟨aD func232 rfl rfl,fun S w l d g=>by
  match l,g with
  | [v,u],⟨a,b,_⟩=>obtain rfl:=bc a;obtain⟨A,n,c,rfl,i⟩:=fB b h;exact(B9 i j).mono fun e m f=>yy d f⟩
def bD{neg:Bool}{xs:List Nat}(h:Wd xs){z:Int}(j:bv neg xs=z):aa prog 122 [dB neg,dW xs] (.one (dZ z)):=
 ⟨aD func122 rfl rfl,fun S w l d g=>by
  match l,g with
  | [v,u],⟨a,b,_⟩=>obtain rfl:=bc a;obtain⟨A,n,c,rfl,i⟩:=fB b h;exact(Ax i j).mono fun e m f=>yy d f⟩
def sX{xs:List Nat}(i:Wd xs)(f:xs.length<=4294967296):aa prog 236 [dW xs] (.one (dW xs)):=
 ⟨aD func236 rfl rfl,fun S w l d g=>by
  match l,g with
  | [v],⟨h,_⟩=>obtain⟨A,n,c,rfl,b⟩:=fB h i;refine(oS A n c xs w b (by rw[<- b.len];exact f)).mono ?_;rintro e r ⟨m,q,p,t,rfl,j,rfl,a⟩;exact⟨_,rfl,mc (d.grow a) j,a⟩⟩
def vH{xs:List Nat}(g:Wd xs)(d:xs.length<=2):aa prog 283 [dW xs] (.one (dN .u64 (val xs))):=
 ⟨aD func283 rfl rfl,fun S w i j f=>by
  match i,f with
  | [v],⟨h,_⟩=>obtain⟨A,n,c,rfl,a⟩:=fB h g;refine(n5 A n c xs w a (by rw[<- a.len];exact d)).mono ?_;rintro e l ⟨rfl,b⟩;exact⟨_,rfl,AV.M.val rfl,b⟩⟩
def ln(n:Nat)(c:n<18446744073709551616):aa prog 233 [dN .u64 n] (.one (dW (digs n))):=
 ⟨aD func233 rfl rfl,fun S w g b d=>by
  match g,d with
  | [v],⟨h,_⟩=>obtain rfl:=bc h;refine(jS n c w).mono ?_;rintro e m ⟨i,l,j,p,rfl,f,rfl,a⟩;exact⟨_,rfl,mc (b.grow a) f,a⟩⟩
def aU{n:Nat}:(digs n).length=0↔n=0:=by
 constructor
 ·intro h;exact ga.1 (E_ h)
 ·rintro rfl;rw[aG];rfl
def Ie(xs:List Nat):trim xs=digs (val xs):=rfl
def mn(xs:List Nat):Prop:=xs.length<=2147483648
def bZ(z:Int):Prop:=(digs z.natAbs).length<=2147483648
def bZ.of_lt{z:Int}{k:Nat}(h:z.natAbs<4294967296^k)(a:k<=2147483648):bZ z:=V_ (aL h) a
def bZ.small{z:Int}(h:z.natAbs<4294967296):bZ z:= .of_lt (k:=1) (by simpa using h) D_
def bZ.le{a b:Int}(h:bZ b)(c:a.natAbs<=b.natAbs):bZ a:=V_ (lA c) h
def dG{xs:List Nat}(a:Wd xs)(h:mn xs):(digs (val xs)).length<=2147483648:=by have:=bJ a;unfold trim at this;unfold mn at h;omega
def p6{S:Nat->Prop}{w w':World}{e:Ending}{zs:List Nat}(b:db S w)(d:jo (fun x=>x=zs) w e w'):FA S (.one (dW zs)) w e w':=by obtain⟨A,n,c,x,rfl,f,rfl,a⟩:=d;exact⟨_,rfl,mc (b.grow a) f,a⟩
def PZ{f:FuncId}{xs ys:List Nat}{r:RV}{R:World->Ending->World->Prop}(g:∀a w,(callFunc f a).run prog w= .ok (.enter f a) w)(x:Wd xs)(i:Wd ys)(h:∀A B n m c d w,a7 w A n c xs->a7 w B m d ys->Calls prog f #[.slice A n c, .slice B m d] w (R w))(p:∀S w e b,db S w->R w e b->FA S r w e b):aa prog f [dW xs,dW ys] r:=
 ⟨g,fun S w C q t=>by
  match C,t with
  | [v,u],⟨j,l,_⟩=>obtain⟨A,n,c,rfl,y⟩:=fB j x;obtain⟨B,m,d,rfl,z⟩:=fB l i;exact(h A B n m c d w y z).mono fun e b g=>p S w e b q g⟩
def u6{a b:Nat}(g:(digs a).length<=4294967296)(i:(digs b).length<=4294967296):aa prog 257 [dW (digs a),dW (digs b)] (.one (dW (digs (a+b)))):=
 PZ (aD func257 rfl rfl) (ab a) (ab b) (fun A B n m c d w e f=>Nh A B n m c d a b w e f (by rw[<- e.len];exact g) (by rw[<- f.len];exact i)) (fun _ _ _ _ j h=>p6 j h)
def BF{a b:Nat}(g:(digs a).length<=4294967296)(i:(digs b).length<=4294967296):aa prog 300 [dW (digs a),dW (digs b)] (.one (dW (digs (a+b)))):=
 PZ (aD func300 rfl rfl) (ab a) (ab b) (fun A B n m c d w e f=>by have:=MW A B n m c d _ _ w e f (by rw[<- e.len];exact g) (by rw[<- f.len];exact i);rwa[ae,ae]at this) (fun _ _ _ _ j h=>p6 j h)
def mZ{a b:Nat}(e:b<=a)(g:(digs a).length<=4294967296):aa prog 258 [dW (digs a),dW (digs b)] (.one (dW (digs (a-b)))):=
 PZ (aD func258 rfl rfl) (ab a) (ab b) (fun A B n m c d w f j=>by have:=Mt A B n m c d _ _ w f j (by rw[ae,ae];exact e) (by rw[<- f.len];exact g);rwa[ae,ae]at this) (fun _ _ _ _ i h=>p6 i h)
def CK{a b:Nat}(g:(digs a).length<=4294967296)(i:(digs b).length<=4294967296):aa prog 259 [dW (digs a),dW (digs b)] (.one (dW (digs (a*b)))):=
 PZ (aD func259 rfl rfl) (ab a) (ab b) (fun A B n m c d w e f=>by have:=Mr A B n m c d _ _ w e f (by rw[<- e.len];exact g) (by rw[<- f.len];exact i);rwa[ae,ae]at this) (fun _ _ _ _ j h=>p6 j h)
def n6{xs ys:List Nat}(b:Wd xs)(a:Wd ys){z:Int}(i:iQ xs ys=z):aa prog 235 [dW xs,dW ys] (.one (dN .i64 z)):=
 PZ (aD func235 rfl rfl) b a (fun A B n m c d w f g=>lE A B n m c d xs ys w f g) (fun S w e l j h=>by obtain⟨rfl,n,rfl⟩:=h;exact⟨_,rfl,by rw[i];exact AV.M.val rfl,Below.drewN (Below.refl _ _) n⟩)
def qc{a b:Nat}(e:b<=a)(g:(digs a).length<=4294967296):aa prog 301 [dW (digs a),dW (digs b)] (.one (dW (digs (a-b)))):=
 PZ (aD func301 rfl rfl) (ab a) (ab b) (fun A B n m c d w f j=>by have:=I8 A B n m c d _ _ w f j (by rw[ae,ae];exact e) (by rw[<- f.len];exact g);rwa[ae,ae]at this) (fun _ _ _ _ i h=>p6 i h)
def y7{a b:Nat}(g:(digs a).length<=4294967296)(i:(digs b).length<=4294967296):aa prog 278 [dW (digs a),dW (digs b)] (.one (dW (digs (a*b)))):=
 PZ (aD func278 rfl rfl) (ab a) (ab b) (fun A B n m c d w e f=>by have:=IZ A B n m c d _ _ w e f (by rw[<- e.len];exact g) (by rw[<- f.len];exact i);rwa[ae,ae]at this) (fun _ _ _ _ j h=>p6 j h)
def ml{xs ys:List Nat}(b:Wd xs)(a:Wd ys){z:Int}(i:iQ xs ys=z):aa prog 222 [dW xs,dW ys] (.one (dN .i64 z)):=
 PZ (aD func222 rfl rfl) b a (fun A B n m c d w f g=>tG A B n m c d xs ys w f g) (fun S w e l j h=>by obtain⟨rfl,n,rfl⟩:=h;exact⟨_,rfl,by rw[i];exact AV.M.val rfl,Below.drewN (Below.refl _ _) n⟩)
def sZ(a b:Int):aa prog 234 [dN .i64 a,dN .i64 b] (.one (dN .i64 (bG a b))):=
 ⟨aD func234 rfl rfl,fun S w g h f=>by
  match g,f with
  | [v,u],⟨c,d,_⟩=>obtain rfl:=bc c;obtain rfl:=bc d;refine(qx a b w).mono ?_;rintro e i ⟨rfl,rfl⟩;exact⟨_,rfl,AV.M.val rfl,Below.refl _ _⟩⟩
def qN(n:Nat)(c:n<18446744073709551616):aa prog 123 [dN .u64 n] (.one (dW (digs n))):=
 ⟨aD func123 rfl rfl,fun S w g b d=>by
  match g,d with
  | [v],⟨h,_⟩=>obtain rfl:=bc h;refine(nJ n c w).mono ?_;rintro e m ⟨i,l,j,p,rfl,f,rfl,a⟩;exact⟨_,rfl,mc (b.grow a) f,a⟩⟩
def xX{neg:Bool}{n:Nat}{z:Int}(h:(if neg=true then -(n:Int)else n)=z):bv neg (digs n)=z:=by rw[zp];exact h
def eh(na:Bool)(xs:List Nat):bv na xs=if na=true then -(val xs:Int)else(val xs:Int):=rfl
def zt{na:Bool}{xs:List Nat}:bv na xs=0↔val xs=0:=by unfold bv;cases na<;>simp
def KI{a b:Int}(h:a<b):bG a b<0:=by unfold bG;rw[if_pos h];decide
def GV{a b:Int}(h:¬a<b):¬bG a b<0:=by unfold bG;rw[if_neg h];split <;>decide
def FK{na:Bool}{xs:List Nat}(b:Wd xs)(d:mn xs){z:Int}(c:bv na xs=z):aa prog 326 [dI na xs] (.one (dZ z)):=by have g:=dG b d;have f:aa prog 194 [dW xs] (.one (dW (digs (val xs)))):=cg b;rw[eh]at c;generalize val xs=a at *;refine kV func326 ?_;refine kC f ?_;refine ac (sX (ab a) O_) rfl rfl rfl rfl rfl rfl rfl ?_;refine kC (bg (neg:=na) (ab a) (xX c)) ?_;exact am
def BI{a:Int}(b:bZ a):aa prog 326 [dZ a] (.one (dZ a)):=FK (ab _) b (by rw[a6])
def GY{na:Bool}{xs:List Nat}(c:Wd xs)(d:mn xs){z:Int}(b: -(bv na xs)=z):aa prog 260 [dI na xs] (.one (dZ z)):=by
 have g:=dG c d;have f:aa prog 194 [dW xs] (.one (dW (digs (val xs)))):=cg c;rw[eh]at b;generalize val xs=a at *;cases na;all_goals
  refine kV func260 ?_;refine kC f ?_;refine ac (sX (ab a) O_) rfl rfl rfl rfl rfl rfl rfl ?_
 ·refine ac (bg (neg:=true) (ab a) (xX (by simpa using b))) rfl rfl rfl rfl rfl rfl rfl ?_;exact am
 ·refine ac (bg (neg:=false) (ab a) (xX (by simpa using b))) rfl rfl rfl rfl rfl rfl rfl ?_;exact am
def uY{a:Int}(b:bZ a):aa prog 260 [dZ a] (.one (dZ (-a))):=GY (ab _) b (by rw[a6])
def ek{na:Bool}{xs:List Nat}(a:Wd xs){z:Int}(b:bv na xs=z):aa prog 143 [dI na xs] (.one (dZ z)):=by refine kV func143 ?_;refine kC (bD a b) ?_;exact am
def vG{na:Bool}{xs:List Nat}(b:Wd xs){z:Int}(a: -(bv na xs)=z):aa prog 263 [dI na xs] (.one (dZ z)):=by
 rw[eh]at a;cases na;all_goals
  refine kV func263 ?_
 ·refine ac (bD (neg:=true) (z:=z) b (by rw[eh];simpa using a)) rfl rfl rfl rfl rfl rfl rfl ?_;exact am
 ·refine ac (bD (neg:=false) (z:=z) b (by rw[eh];simpa using a)) rfl rfl rfl rfl rfl rfl rfl ?_;exact am
def mC(a:Int):aa prog 263 [dZ a] (.one (dZ (-a))):=vG (ab _) (by rw[a6])
def zS{na nb:Bool}{xs ys:List Nat}(g:Wd xs)(d:Wd ys)(i:mn xs)(j:mn ys){z:Int}(f:bv na xs+bv nb ys=z):aa prog 190 [dI na xs,dI nb ys] (.one (dZ z)):=by
 have m:=dG g i;have r:=dG d j;have t1:aa prog 194 [dW xs] (.one (dW (digs (val xs)))):=cg g;have t2:aa prog 194 [dW ys] (.one (dW (digs (val ys)))):=cg d;rw[eh,eh]at f;generalize val xs=a at *;generalize val ys=b at *
 by_cases hn:na=nb
 ·subst hn;refine I7 ?_;refine kB true ?_ ?_
  ·exact(by simp)
  refine kW ?_;refine ac (u6 (a:=a) (b:=b) O_ O_) rfl rfl rfl rfl rfl rfl rfl ?_;refine ac (bg (neg:=na) (ab (a+b)) (xX (z:=z) (by cases na<;>simp at f ⊢ <;>omega))) rfl rfl rfl rfl rfl rfl rfl ?_;exact am
 ·have c:=n6 (ab a) (ab b) (gV a b);by_cases l:a<b
  ·refine I7 ?_;refine Il ?_;refine kC c ?_;refine kB true ?_ ?_
   ·exact T_ (KI O_)
   refine kW ?_;refine ac (mZ (a:=b) (b:=a) O_ O_) rfl rfl rfl rfl rfl rfl rfl ?_;refine ac (bg (neg:=nb) (ab (b-a)) (xX (z:=z) (by cases na<;>cases nb<;>simp at f hn ⊢ <;>omega))) rfl rfl rfl rfl rfl rfl rfl ?_;exact am
  ·refine I7 ?_;refine Il ?_;refine kC c ?_;refine kB false ?_ ?_
   ·exact F_ (GV O_)
   refine kW ?_;refine ac (mZ (a:=a) (b:=b) O_ O_) rfl rfl rfl rfl rfl rfl rfl ?_;refine ac (bg (neg:=na) (ab (a-b)) (xX (z:=z) (by cases na<;>cases nb<;>simp at f hn ⊢ <;>omega))) rfl rfl rfl rfl rfl rfl rfl ?_;exact am
def ES{a b:Int}(c:bZ a)(d:bZ b):aa prog 190 [dZ a,dZ b] (.one (dZ (a+b))):=zS (ab _) (ab _) c d (by rw[a6,a6])
def Gs{na nb:Bool}{xs ys:List Nat}(d:Wd xs)(c:Wd ys)(f:mn xs)(g:mn ys){z:Int}(i:bv na xs*bv nb ys=z):aa prog 192 [dI na xs,dI nb ys] (.one (dZ z)):=by have m:=dG d f;have q:=dG c g;have j:aa prog 194 [dW xs] (.one (dW (digs (val xs)))):=cg d;have l:aa prog 194 [dW ys] (.one (dW (digs (val ys)))):=cg c;have h:=(NI na nb xs ys (digs (val xs*val ys)) (ae _)).trans i;generalize val xs=a at *;generalize val ys=b at *;refine kV func192 ?_;refine kQ j ?_;refine kC l ?_;refine ac (CK (a:=a) (b:=b) O_ O_) rfl rfl rfl rfl rfl rfl rfl ?_;refine kC (bg (neg:=!(na == nb)) (ab (a*b)) h) ?_;exact am
def gS{a b:Int}(c:bZ a)(d:bZ b):aa prog 192 [dZ a,dZ b] (.one (dZ (a*b))):=Gs (ab _) (ab _) c d (by rw[a6,a6])
def v6{na nb:Bool}{xs ys:List Nat}(i:Wd xs)(d:Wd ys)(m:mn xs)(r:mn ys){z:Int}(u:bv na xs+bv nb ys=z):aa prog 264 [dI na xs,dI nb ys] (.one (dZ z)):=by
 have j:=dG i m;have l:=dG d r;have n1:=ek (na:=na) i rfl;have n2:=ek (na:=nb) d rfl;have f:(bv na xs).natAbs=val xs:=by rw[eh];cases na<;>simp
 have g:(bv nb ys).natAbs=val ys:=by rw[eh];cases nb<;>simp
 rw[<- f]at j;rw[<- g]at l;generalize bv na xs=a at *;generalize bv nb ys=b at *;clear f g;by_cases hn:decide (a<0)=decide (b<0)
 ·refine kU func264 ?_;refine yu ?_;refine kG ?_;refine kO4 ?_;refine kB true ?_ ?_
  ·exact(by rw[hn];simp)
  refine kW ?_;refine ac (BF (a:=a.natAbs) (b:=b.natAbs) O_ O_) rfl rfl rfl rfl rfl rfl rfl ?_;refine ac (bD (neg:=decide (a<0)) (ab (a.natAbs+b.natAbs)) (xX (z:=z) (by simp at hn;split <;>simp_all <;>omega))) rfl rfl rfl rfl rfl rfl rfl ?_;exact am
 ·have c:=ml (ab a.natAbs) (ab b.natAbs) (gV a.natAbs b.natAbs);by_cases t:a.natAbs<b.natAbs
  ·refine O1 ?_;refine kB false ?_ ?_
   ·exact F_ (by have:=KI (show(a.natAbs:Int)<b.natAbs by omega);omega)
   refine kW ?_;refine ac (qc (a:=b.natAbs) (b:=a.natAbs) O_ O_) rfl rfl rfl rfl rfl rfl rfl ?_;refine ac (bD (neg:=decide (b<0)) (ab (b.natAbs-a.natAbs)) (xX (z:=z) (by simp at hn;split <;>simp_all <;>omega))) rfl rfl rfl rfl rfl rfl rfl ?_;exact am
  ·refine O1 ?_;refine kB true ?_ ?_
   ·exact T_ (by have:=GV (show ¬(a.natAbs:Int)<b.natAbs by omega);omega)
   refine kW ?_;refine ac (qc (a:=a.natAbs) (b:=b.natAbs) O_ O_) rfl rfl rfl rfl rfl rfl rfl ?_;refine ac (bD (neg:=decide (a<0)) (ab (a.natAbs-b.natAbs)) (xX (z:=z) (by simp at hn;split <;>simp_all <;>omega))) rfl rfl rfl rfl rfl rfl rfl ?_;exact am
def mx{a b:Int}(c:bZ a)(d:bZ b):aa prog 264 [dZ a,dZ b] (.one (dZ (a+b))):=v6 (ab _) (ab _) c d (by rw[a6,a6])
def EO{na nb:Bool}{xs ys:List Nat}(h:Wd xs)(a:Wd ys)(f:mn xs)(g:mn ys){z:Int}(j:bv na xs-bv nb ys=z):aa prog 311 [dI na xs,dI nb ys] (.one (dZ z)):=by
 have i:=vG (na:=nb) a rfl;have b:(-(bv nb ys)).natAbs=val ys:=by rw[eh];cases nb<;>simp
 have d:mn (digs (-(bv nb ys)).natAbs):=by rw[b];exact dG a g
 have c:=v6 (na:=na) (nb:=decide (-(bv nb ys)<0)) h (ab (-(bv nb ys)).natAbs) f d (z:=z) (by rw[a6];omega);refine kV func311 ?_;refine kC i ?_;refine kC c ?_;exact am
def ua{a b:Int}(c:bZ a)(d:bZ b):aa prog 311 [dZ a,dZ b] (.one (dZ (a-b))):=EO (ab _) (ab _) c d (by rw[a6,a6])
def FL{na nb:Bool}{xs ys:List Nat}(g:Wd xs)(c:Wd ys)(l:mn xs)(m:mn ys){z:Int}(t:bv na xs*bv nb ys=z):aa prog 224 [dI na xs,dI nb ys] (.one (dZ z)):=by
 have i:=dG g l;have j:=dG c m;have n1:=ek (na:=na) g rfl;have n2:=ek (na:=nb) c rfl;have d:(bv na xs).natAbs=val xs:=by rw[eh];cases na<;>simp
 have f:(bv nb ys).natAbs=val ys:=by rw[eh];cases nb<;>simp
 rw[<- d]at i;rw[<- f]at j;generalize bv na xs=a at *;generalize bv nb ys=b at *;clear d f;have r:bv (!(decide (a<0) == decide (b<0))) (digs (a.natAbs*b.natAbs))=z:=by have:=FM a b;rw[ae,ae]at this;exact this.trans t
 refine kU func224 ?_;refine yu ?_;refine kW ?_;refine ac (y7 (a:=a.natAbs) (b:=b.natAbs) O_ O_) rfl rfl rfl rfl rfl rfl rfl ?_;refine kC (bD (neg:=!(decide (a<0) == decide (b<0))) (ab (a.natAbs*b.natAbs)) r) ?_;exact am
def eT{a b:Int}(c:bZ a)(d:bZ b):aa prog 224 [dZ a,dZ b] (.one (dZ (a*b))):=FL (ab _) (ab _) c d (by rw[a6,a6])
def jd{na:Bool}{xs:List Nat}(d:Wd xs){z:Int}(a:(bv na xs).sign=z):aa prog 136 [dI na xs] (.one (dN .i64 z)):=by
 have t1:aa prog 194 [dW xs] (.one (dW (digs (val xs)))):=cg d;by_cases h0:val xs=0
 ·obtain rfl:z=0:=by rw[<- a,zt.2 h0];rfl
  have b:(digs (val xs)).length=0:=aU.2 h0;refine kU func136 ?_;refine D8 ?_;refine kT ?_;exact am
 ·have b:(digs (val xs)).length≠0:=fun h=>h0 (aU.1 h);have c:0<(val xs:Int):=O_;rw[eh]at a;cases na with
  |true=>
   obtain rfl:z= -1:=by rw[<- a,if_pos rfl];exact Int.sign_eq_neg_one_of_neg O_
   refine kU func136 ?_;refine D8 ?_;refine kE ?_;exact am
  |false=>
   obtain rfl:z=1:=by rw[<- a,if_neg D_];exact Int.sign_eq_one_of_pos c
   refine kU func136 ?_;refine D8 ?_;refine kE ?_;exact am
def Bu(a:Int):aa prog 136 [dZ a] (.one (dN .i64 a.sign)):=jd (ab _) (by rw[a6])
def m0{na:Bool}{xs:List Nat}(d:Wd xs){z:Int}(b:(bv na xs).sign=z):aa prog 100 [dI na xs] (.one (dN .i64 z)):=by
 have c:=ek (na:=na) d rfl;generalize bv na xs=a at *;have f:(digs a.natAbs).length=0↔a.natAbs=0:=aU;rcases Int.lt_trichotomy a 0 with h|h|h
 ·obtain rfl:z= -1:=b.symm.trans (Int.sign_eq_neg_one_of_neg h);refine kV func100 ?_;refine kC c ?_;refine kG ?_;refine BJ ?_;refine fX (T:=TT) rfl ?_ ?_
  ·exact T_ h
  exact am
 ·obtain rfl:z=0:=b.symm.trans (by rw[h];rfl);refine kV func100 ?_;refine kC c ?_;refine kG ?_;refine kO3 ?_;refine kT ?_;exact am
 ·obtain rfl:z=1:=b.symm.trans (Int.sign_eq_one_of_pos h);refine kV func100 ?_;refine kC c ?_;refine kG ?_;refine kO3 ?_;refine kE ?_;refine M7 ?_;exact am
def gg(a:Int):aa prog 100 [dZ a] (.one (dN .i64 a.sign)):=m0 (ab _) (by rw[a6])
def Kv{na nb:Bool}{xs ys:List Nat}(l:Wd xs)(d:Wd ys){z:Int}(r:bG (bv na xs) (bv nb ys)=z):aa prog 175 [dI na xs,dI nb ys] (.one (dN .i64 z)):=by
 have s1:=jd (na:=na) l rfl;have s2:=jd (na:=nb) d rfl;have u:aa prog 194 [dW xs] (.one (dW (digs (val xs)))):=cg l;have v:aa prog 194 [dW ys] (.one (dW (digs (val ys)))):=cg d;have b:=Q5 na nb xs ys;have heq:=QT na nb xs ys;have j:=Gi na xs;rw[Ao]at b heq j;rw[Ao,r]at b heq;have m:bG (val xs) (val ys)= -1∨bG (val xs) (val ys)=0∨bG (val xs) (val ys)=1:=by unfold bG;split;exact .inl rfl;split;exact .inr (.inr rfl);exact .inr (.inl rfl)
 have c:=n6 (ab (val xs)) (ab (val ys)) (gV (val xs) (val ys));generalize bG (val xs) (val ys)=o at *;generalize(bv na xs).sign=s at *;generalize(bv nb ys).sign=t at *;have i:=sZ s t;by_cases a:s=t
 ·have g:=heq s rfl a.symm;refine kU func175 ?_;refine C7 ?_;refine kG ?_;refine kO2 ?_;refine kB false ?_ ?_
  ·exact(by simp[a])
  refine kG ?_;refine kW ?_;refine kQ u ?_;refine kC v ?_;refine kC c ?_;refine bW (v':= .int .i64 z) rfl rfl rfl rfl ?_ ?_
  ·exact congrArg (Value.int .i64) (by rw[<- g];rw[IntWalk.i64_in _ (by rcases j with h|h|h<;>rcases m with f|f|f<;>rw[h,f]<;>decide)])
  exact am
 ·rw[b a]at i;refine kU func175 ?_;refine C7 ?_;refine kG ?_;refine kO2 ?_;refine kB true ?_ ?_
  ·exact(by simp[a])
  refine kW ?_;refine kC i ?_;exact am
def FB(a b:Int):aa prog 175 [dZ a,dZ b] (.one (dN .i64 (bG a b))):=Kv (ab _) (ab _) (by rw[a6,a6])
def Mf(xs:List Nat)(i:Nat)(h:i<xs.length):∀(j:Nat)(a:AV),[AV.val (bP (xs.getD i 0))][j]? =some a->(xs.map fun x:Nat=>AV.val (bP x))[i*1+j]? =some a:=fun j a b=>by
 cases j with
 |zero=>simp at b;subst b;simp[h]
 |succ j=>simp at b
def Vh(x:Nat):((x:Int) != 0)=!decide (x=0):=by
 by_cases h:x=0
 ·subst h;rfl
 ·rw[F_ h];simpa using h
def Vl{z:Int}{p:Prop}[Decidable p](h:z=0↔p):(z == 0)=decide p:=by
 by_cases a:p
 ·rw[h.2 a,T_ a];rfl
 ·rw[F_ a];simpa using fun e=>a (h.1 e)
def MT{f:FuncId}{na:Bool}{xs:List Nat}{ds:List DV}{r:RV}(p:∀c w,(callFunc f c).run prog w= .ok (.enter f c) w)(h:xs.length<=9223372036854775807->aa prog f (dI na xs::ds) r):aa prog f (dI na xs::ds) r:=
 ⟨p,fun S w i m y=>by
  match i,y with
  |v::i,⟨g,j⟩=>
   obtain⟨e,z,q,t⟩:=id g;have l:e.length=2:=q.symm;have d:=t 1 (aW xs) e[1] rfl (Q_ O_);refine(h ?_).calls S w _ m ⟨g,j⟩;unfold aW at d;generalize e[1]=u at d;generalize(xs.map fun x:Nat=>AV.val (bP x))=cs at d;cases d with
   |emp a b _=>omega
   |sl f a b _ _ _ _=>omega⟩
def mK{na:Bool}{xs:List Nat}(m:Wd xs){b:Bool}(a:eV na xs=b):aa prog 230 [dI na xs] (.one (dB b)):=by
 refine MT (aD func230 rfl rfl) fun l=>?_;rcases Nat.eq_zero_or_pos xs.length with h0|h0
 ·obtain rfl:=E_ h0;have c:trim ([]:List Nat)=[]:=by rw[Ie];exact aG
  have a:(!na)=b:=by rw[<- a];unfold eV;rw[c];cases na<;>rfl
  subst a;cases na;all_goals
   refine kU func230 ?_;exact kF
 ·have g:=HZ m h0;have j:=Mf xs (xs.length-1) O_;unfold eV at a;rw[T_ h0,Bool.or_true,Bool.and_true]at a;rw[<- a];obtain⟨d,f⟩:∃d,decide ((trim xs).length=xs.length)=d:=⟨_,rfl⟩;rw[f];have r:(!decide (xs.getD (xs.length-1) 0=0))=d:=by
   rw[<- f];by_cases h:xs.getD (xs.length-1) 0=0
   ·rw[T_ h,F_ (fun e=>g.1 e h)];rfl
   ·rw[F_ h,T_ (g.2 h)];rfl
  generalize xs.getD (xs.length-1) 0=x at *;cases na;all_goals
   refine kU func230 ?_;iterate 3 refine kG ?_
   refine kO ?_;refine kE ?_;iterate 7 refine kO ?_
   refine kT ?_;refine kO4 ?_;refine kJ ((xs.length-1:Nat)) ?_;refine aS (i:=xs.length-1) (cs':=[AV.val (bP x)]) O_ j (Z_ 0) rfl rfl rfl rfl rfl rfl rfl rfl ?_;refine kO ?_;refine bW (v':= .bool d) rfl rfl rfl rfl ?_ ?_
   ·exact congrArg Value.bool (by rw[<- r];exact Vh x)
   exact kF
def lf{na:Bool}{xs:List Nat}(d:Wd xs){b:Bool}(a:eV na xs=b):aa prog 219 [dI na xs] (.one (dB b)):=by
 have t1:=mP d;unfold eV at a;by_cases c:(trim xs).length=xs.length
 ·rw[T_ c,Bool.true_and]at a;cases na with
  |false=>obtain rfl:true=b:=a;refine Ik ?_;refine kT ?_;exact am
  |true=>
   rw[show(!true || decide (0<xs.length))=decide (0<xs.length) from rfl]at a;subst a;refine Ik ?_;refine kT ?_;iterate 8 refine kO ?_
   refine bW (v':= .bool (decide (0<xs.length))) rfl rfl rfl rfl ?_ ?_
   ·exact congrArg Value.bool S_
   exact am
 ·rw[F_ c,Bool.false_and]at a;subst a;refine Ik ?_;refine kE ?_;exact am
def Mk{na nb:Bool}{xs ys:List Nat}{b:Bool}(i:Wd xs)(d:Wd ys)(a:sameB na nb xs ys=b):aa prog 156 [dI na xs,dI nb ys] (.one (dB b)):=by
 have c:=ml i d rfl;have j:=oE i d;unfold sameB at a;by_cases g:na=nb
 ·subst g;rw[beq_self_eq_true,Bool.true_and]at a;generalize iQ xs ys=z at *;refine kU func156 ?_;iterate 2 refine kG ?_
  refine kO4 ?_;refine kB true ?_ ?_
  ·exact(by simp)
  refine kO5 ?_;refine kC c ?_;refine bW (v':= .bool b) rfl rfl rfl rfl ?_ ?_
  ·exact congrArg Value.bool (by rw[<- a];exact Vl j)
  exact am
 ·have f:(na == nb)=false:=by simpa using g
  rw[f,Bool.false_and]at a;subst a;refine kU func156 ?_;iterate 2 refine kG ?_
  refine kO4 ?_;refine kB false ?_ ?_
  ·exact f
  exact am
def KM(a b:Int):aa prog 156 [dZ a,dZ b] (.one (dB (decide (a=b)))):=Mk (ab _) (ab _) (Fr a b)
def fx(k:Int)(a: -9223372036854775808<=k)(b:k<9223372036854775808):aa prog 174 [dN .i64 k] (.one (dZ k)):=by
 by_cases h:k<0
 ·refine kU func174 ?_;iterate 3 refine kG ?_
  refine kO ?_;refine kB true ?_ ?_
  ·exact T_ h
  refine kG ?_;refine kO ?_;refine Pg ?_;refine kG ?_;refine kO ?_;refine kB true ?_ ?_
  ·exact T_ h
  refine kO ?_;refine ac (ln k.natAbs O_) rfl rfl rfl rfl rfl rfl rfl ?_;refine ac (bg (neg:=true) (ab k.natAbs) (xX (z:=k) (by rw[if_pos rfl];omega))) rfl rfl rfl rfl rfl rfl rfl ?_;exact am
 ·refine kU func174 ?_;iterate 2 refine kG ?_
  refine Ox ?_;refine kG ?_;refine kO ?_;refine kB false ?_ ?_
  ·exact F_ h
  refine kG ?_;refine kO ?_;refine kB false ?_ ?_
  ·exact F_ h
  refine kO ?_;refine ac (ln k.natAbs O_) rfl rfl rfl rfl rfl rfl rfl ?_;refine ac (bg (neg:=false) (ab k.natAbs) (xX (z:=k) (by rw[if_neg D_];omega))) rfl rfl rfl rfl rfl rfl rfl ?_;exact am
def c8(k:Int)(a: -9223372036854775808<=k)(b:k<9223372036854775808):aa prog 82 [dN .i64 k] (.one (dZ k)):=by
 by_cases h:k<0
 ·refine kU func82 ?_;iterate 2 refine kG ?_
  refine kO ?_;refine kB true ?_ ?_
  ·exact T_ h
  refine kG ?_;refine kO2 ?_;refine Pg ?_;refine ac (qN k.natAbs O_) rfl rfl rfl rfl rfl rfl rfl ?_;refine ac (bD (neg:=true) (ab k.natAbs) (xX (z:=k) (by rw[if_pos rfl];omega))) rfl rfl rfl rfl rfl rfl rfl ?_;exact am
 ·refine kU func82 ?_;iterate 2 refine kG ?_
  refine kO ?_;refine kB false ?_ ?_
  ·exact F_ h
  refine kG ?_;refine Ox ?_;refine ac (qN k.natAbs O_) rfl rfl rfl rfl rfl rfl rfl ?_;refine ac (bD (neg:=false) (ab k.natAbs) (xX (z:=k) (by rw[if_neg D_];omega))) rfl rfl rfl rfl rfl rfl rfl ?_;exact am
def vh:digs 1=[1]:=by rw[f4 D_,show 1/4294967296=0 from rfl,aG]
def zG{na nb:Bool}{xs ys:List Nat}(G:Wd xs)(j:Wd ys)(I:mn xs)(J:mn ys)(h0:bv nb ys≠0){q r:Int}(B:(bv na xs).fdiv (bv nb ys)=q)(C:(bv na xs).fmod (bv nb ys)=r):aa prog 299 [dI na xs,dI nb ys] (.tup [dZ q,dZ r,dN .i64 0]):=by
 have D:=dG G I;have X:=dG j J;have t1:aa prog 194 [dW xs] (.one (dW (digs (val xs)))):=cg G;have t2:aa prog 194 [dW ys] (.one (dW (digs (val ys)))):=cg j;have V:val ys≠0:=fun e=>h0 (zt.2 e);rw[eh,eh]at B C;generalize val xs=a at *;generalize val ys=b at *;have d:=qP (a:=a) (b:=b) D O_;have L:(digs b).length≠0:=fun h=>V (aU.1 h);have N:=Nat.mod_lt a (show 0<b by omega);have g:=Nat.div_add_mod a b;have S:(digs (a%b)).length=0↔a%b=0:=aU;have O:(digs (a/b)).length<=2147483648:=V_ (lA (Nat.div_le_self a b)) D;have c:((b*(a/b)+a%b:Nat):Int)=a:=by rw[g]
 rw[Int.natCast_add,Int.natCast_mul]at c;have m:∀(Q R:Int),(if na=true then -(a:Int)else a)=Q*(if nb=true then -(b:Int)else b)+R->((0<=R/\R<(if nb=true then -(b:Int)else b))∨((if nb=true then -(b:Int)else b)<R/\R<=0))->Q=q/\R=r:=fun Q R E F=>⟨(fd E F).1.symm.trans B,(fd E F).2.symm.trans C⟩;clear B C g h0;generalize a/b=u at *;generalize a%b=v at *
 by_cases w:na=nb∨v=0
 ·have l:(if(!(na == nb))=true then -(u:Int)else u)=q/\(if nb=true then -(v:Int)else v)=r:=by
   refine m _ _ ?_ ?_
   ·have x:(b:Int)*u=(u:Int)*b:=Int.mul_comm _ _;rw[x]at c;generalize i:(u:Int)*b=p at *;have y: -(u:Int)*b= -p:=by rw[Int.neg_mul,i]
    have z:(u:Int)* -b= -p:=by rw[Int.mul_neg,i]
    have A: -(u:Int)* -b=p:=by rw[Int.neg_mul_neg,i]
    cases na<;>cases nb<;>simp only[Bool.false_eq_true,if_false,if_true,beq_self_eq_true,Bool.not_true,Bool.not_false,reduceCtorEq,false_or,i,y,z,A,show(false == true)=false from rfl,show(true == false)=false from rfl]at w ⊢ <;>omega
   ·cases nb<;>simp <;>omega
  have s1:=bg (neg:=!(na == nb)) (ab u) (xX l.1);have s2:=bg (neg:=nb) (ab v) (xX l.2);by_cases f:na=nb
  ·subst f;refine G2 ?_;refine kB false ?_ ?_
   ·exact(by simp)
   refine C7 ?_;exact am
  ·have U:=w.resolve_left f;refine G2 ?_;refine kB true ?_ ?_
   ·exact(by simpa using f)
   refine BJ ?_;refine kQ s1 ?_;refine kC s2 ?_;exact am
 ·have f:¬na=nb:=fun h=>w (.inl h);have Y:v≠0:=fun h=>w (.inr h);have l:(if(!(na == nb))=true then -((u+1:Nat):Int)else((u+1:Nat):Int))=q/\(if nb=true then -((b-v:Nat):Int)else((b-v:Nat):Int))=r:=by
   refine m _ _ ?_ ?_
   ·have x:(b:Int)*u=(u:Int)*b:=Int.mul_comm _ _;rw[x]at c;have t:((u+1:Nat):Int)*b=(u:Int)*b+b:=by rw[Int.natCast_add,Int.add_mul];simp
    generalize i:(u:Int)*b=p at *;have y: -((u+1:Nat):Int)*b= -(p+b):=by rw[Int.neg_mul,t]
    have z:((u+1:Nat):Int)* -b= -(p+b):=by rw[Int.mul_neg,t]
    have A: -((u+1:Nat):Int)* -b=p+b:=by rw[Int.neg_mul_neg,t]
    cases na<;>cases nb<;>simp only[Bool.false_eq_true,if_false,if_true,beq_self_eq_true,Bool.not_true,Bool.not_false,reduceCtorEq,not_true_eq_false,t,y,z,A,show(false == true)=false from rfl,show(true == false)=false from rfl]at f ⊢ <;>omega
   ·cases nb<;>simp <;>omega
  have s1:=bg (neg:=!(na == nb)) (ab (u+1)) (xX l.1);have s2:=bg (neg:=nb) (ab (b-v)) (xX l.2);have H:=u6 (a:=u) (b:=1) O_ (by rw[vh];decide);rw[vh]at H;have W:=mZ (a:=b) (b:=v) O_ O_;refine G2 ?_;refine kB true ?_ ?_
  ·exact(by simpa using f)
  refine kO3 ?_;refine kX ?_;refine kQ H ?_;refine kC W ?_;refine C7 ?_;exact am
def Vb(r b:Int):(r.sign*b.sign<0↔(r<0/\0<b)∨(0<r/\b<0))/\ -1<=r.sign*b.sign/\r.sign*b.sign<=1:=by
 have a:∀x:Int,(x<0/\x.sign= -1)∨(x=0/\x.sign=0)∨(0<x/\x.sign=1):=fun x=>by
  rcases Int.lt_trichotomy x 0 with h|h|h
  ·exact .inl ⟨h,Int.sign_eq_neg_one_of_neg h⟩
  ·exact .inr (.inl ⟨h,by rw[h];rfl⟩)
  ·exact .inr (.inr ⟨h,Int.sign_eq_one_of_pos h⟩)
 rcases a r with⟨e,c⟩| ⟨e,c⟩| ⟨e,c⟩<;>rcases a b with⟨f,d⟩| ⟨f,d⟩| ⟨f,d⟩<;>rw[c,d]<;>simp <;>omega
def xW{na nb:Bool}{xs ys:List Nat}(O:Wd xs)(j:Wd ys)(W:mn xs)(X:mn ys)(h0:bv nb ys≠0){q r:Int}(hq:(bv na xs).fdiv (bv nb ys)=q)(hr:(bv na xs).fmod (bv nb ys)=r):aa prog 279 [dI na xs,dI nb ys] (.tup [dZ q,dZ r,dN .i64 0]):=by
 have x:=dG O W;have H:=dG j X;have n1:=ek (na:=na) O rfl;have n2:=ek (na:=nb) j rfl;have F:(bv na xs).natAbs=val xs:=by rw[eh];cases na<;>simp
 have G:(bv nb ys).natAbs=val ys:=by rw[eh];cases nb<;>simp
 rw[<- F]at x;rw[<- G]at H;generalize bv na xs=a at *;generalize bv nb ys=b at *;clear F G;have d:=nv (a:=a.natAbs) (b:=b.natAbs) x O_;have Y:(digs b.natAbs).length≠0:=fun h=>h0 (by have:=aU.1 h;omega);have Z:=Nat.mod_lt a.natAbs (show 0<b.natAbs by omega);have g:=Nat.div_add_mod a.natAbs b.natAbs;have C:((b.natAbs*(a.natAbs/b.natAbs)+a.natAbs%b.natAbs:Nat):Int)=a.natAbs:=by rw[g]
 rw[Int.natCast_add,Int.natCast_mul,Int.mul_comm]at C;have hu:a.natAbs/b.natAbs<=a.natAbs:=Nat.div_le_self _ _;generalize a.natAbs/b.natAbs=u at *;generalize a.natAbs%b.natAbs=v at *;clear g;obtain⟨t,D⟩:∃t:Int,(if(!(decide (a<0) == decide (b<0)))=true then -(u:Int)else u)=t:=⟨_,rfl⟩;have s1:=bD (neg:=!(decide (a<0) == decide (b<0))) (ab u) (xX D);have i:t*b=if a<0 then -((u:Int)*b.natAbs)else(u:Int)*b.natAbs:=by
  rw[<- D];by_cases ha:a<0<;>by_cases l:b<0
  ·rw[show(b.natAbs:Int)= -b by omega];simp[ha,l,Int.neg_mul,Int.mul_neg]
  ·rw[show(b.natAbs:Int)=b by omega];simp[ha,l,Int.neg_mul,Int.mul_neg]
  ·rw[show(b.natAbs:Int)= -b by omega];simp[ha,l,Int.neg_mul,Int.mul_neg]
  ·rw[show(b.natAbs:Int)=b by omega];simp[ha,l,Int.neg_mul,Int.mul_neg]
 have al:t.natAbs=u:=by rw[<- D];split <;>omega
 have key:∀(Q R:Int),a=Q*b+R->((0<=R/\R<b)∨(b<R/\R<=0))->Q=q/\R=r:=fun Q R J L=>⟨(fd J L).1.symm.trans hq,(fd J L).2.symm.trans hr⟩;have y:bZ a:=x;have A:bZ b:=H;have I:bZ t:=y.le O_;generalize hp:(u:Int)*b.natAbs=p at *;have ag:0<=p:=by rw[<- hp];exact Int.mul_nonneg O_ O_
 have B:bZ (t*b):=y.le (by rw[i];split <;>omega);have mu:=eT I A;have su:=ua y B;obtain⟨m,N⟩:∃m,a-t*b=m:=⟨_,rfl⟩;rw[N]at su;have hm1:m=if a<0 then -(v:Int)else v:=by rw[<- N,i];split <;>omega
 have sg1:=gg m;have sg2:=gg b;have hs:=Vb m b;have U:bZ m:=A.le (by rw[hm1];split <;>omega);obtain⟨w,hwe⟩:∃w,m.sign*b.sign=w:=⟨_,rfl⟩;rw[hwe]at hs;have b1:(decide (a<0) == decide (a<0))=true:=S_;by_cases f:w<0
 ·have c:t-1=q/\m+b=r:=by
   refine key _ _ ?_ ?_
   ·rw[Int.sub_mul,Int.one_mul];omega
   ·have h3:=hs.1.1 f;exact Pv
  have V:=c8 1 D_ D_;have S:=ua I (bZ.small (z:=1) D_);have E:=mx U A;rw[c.1]at S;rw[c.2]at E;refine kU func279 ?_;refine yu ?_;refine kG ?_;refine BJ ?_;refine SV ?_;refine kB true ?_ ?_
  ·exact T_ f
  refine kW ?_;refine kC V ?_;refine kQ S ?_;refine kC E ?_;exact am
 ·have c:t=q/\m=r:=by refine key _ _ O_ ?_;have h3:¬((m<0/\0<b)∨(0<m/\b<0)):=fun h=>f (hs.1.2 h);exact Pv
  obtain⟨rfl,rfl⟩:=c;refine kU func279 ?_;refine yu ?_;refine kG ?_;refine BJ ?_;refine SV ?_;refine kB false ?_ ?_
  ·exact F_ f
  exact am
def vb{t:TypeId}{x y:Operand}{q:IntKind}{a b:Nat}(c:b≠0):mI .rem t x y (.int q (a:Int)) (.int q (b:Int))=some (.int q ((a%b:Nat):Int)):=by rw[tN O_];rfl
def vo{t:TypeId}{x y:Operand}{a b:Nat}(f:b≠0)(e:a<=1000000):mI .quo t x y (.int .i64 (a:Int)) (.int .i64 (b:Int))=some (.int .i64 ((a/b:Nat):Int)):=by
 show sj (do eqGuard .quo t x y (.int .i64 (a:Int)) (.int .i64 (b:Int));binOp .quo t (.int .i64 (a:Int)) (.int .i64 (b:Int)))=_;have c:(b:Int)≠0:=O_;have d:IntKind.i64.wrap ((a:Int).tdiv (b:Int))=((a/b:Nat):Int):=by have:=Nat.div_le_self a b;rw[show(a:Int).tdiv (b:Int)=((a/b:Nat):Int) from rfl];generalize a/b=u at *;rw[IntWalk.i64_in _ O_]
 have:binOp .quo t (.int .i64 (a:Int)) (.int .i64 (b:Int))= .pure (.int .i64 ((a/b:Nat):Int)):=by simp only[binOp,ne_eq,not_true_eq_false,if_false,Op.intDiv,c,d];rfl
 simp only[this];rfl
def EJ{a:Int}{k K:Nat}(L:k<=4096)(hK:K<=2147483648)(F:(max 1 a.natAbs)^k<4294967296^K)(E:bZ a){z:Int}(O:a^k=z):aa prog 357 [dZ a,dN .i64 k] (.tup [dZ z,dN .i64 0]):=by
 have l:∀i,i<=k->bZ (a^i):=fun i H=>F7 a i k K F H hK;have mul:∀i j,i<=k->j<=k->aa prog 192 [dZ (a^i),dZ (a^j)] (.one (dZ (a^(i+j)))):=fun i j h D=>by have:=gS (l i h) (l j D);rwa[<- Int.pow_add]at this
 have C:=fx 1 D_ D_;have Q:=BI E;subst O;refine kU func357 ?_;refine Ii ?_;refine kY ?_;refine kQ C ?_;refine kQ Q ?_;refine av (Nat × Nat × Nat) (fun p=>p.1+p.2.1*p.2.2=k/\p.2.2<=4096) (fun p=>⟨[(1, .d (dN .i64 p.2.2)),(4, .box 1 0),(6, .box 3003 0),(7, .box 3004 0)],[(1,some [.val (.bool false), .sl 0 []]),(3003,some (aZ (a^p.1))),(3004,some (aZ (a^p.2.1)))]⟩) (fun p=>p.2.2) (0,1,k) ⟨by simp,L⟩ (by show au _ ⟨_,[(1,_),(3003,some (aZ (a^0))),(3004,some (aZ (a^1)))]⟩;rw[Int.pow_zero,Int.pow_succ,Int.pow_zero,Int.one_mul];exact weak ⟨rfl,rfl,rfl,rfl,trivial⟩ ⟨rfl,rfl,rfl,trivial⟩ rfl) ?_
 rintro⟨i,j,m⟩ ⟨f,N⟩;dsimp only at f N ⊢;have hrem:=vb (t:=3) (x:= .tmp 20) (y:= .const (.int .i64 2)) (q:= .i64) (a:=m) (b:=2) D_;have hquo:=vo (t:=3) (x:= .tmp 26) (y:= .const (.int .i64 2)) (a:=m) (b:=2) D_ O_;obtain⟨e,A⟩:∃e,m%2=e:=⟨_,rfl⟩;obtain⟨h,B⟩:∃h,m/2=h:=⟨_,rfl⟩;have g:m=2*h+e/\e<2:=O_;rw[A]at hrem;rw[B]at hquo;clear A B;obtain⟨g,G⟩:=g;by_cases w:m=0
 ·subst w;rw[Nat.mul_zero,Nat.add_zero]at f;subst f;refine kI ?_;refine kO ?_;refine kE ?_;exact am
 have c:j*m=j*(2*h)+j*e:=by rw[g,Nat.mul_add]
 have J:j*(2*h)=(j+j)*h:=by rw[<- Nat.mul_assoc,Nat.mul_two]
 have I:j<=j*m:=Nat.le_mul_of_pos_right j O_;by_cases u:e=1
 ·subst u;rw[o_]at c;by_cases r:h=0
  ·refine PV ?_;refine tn ?_;exact⟨(i+j,j,h),⟨by dsimp only;rw[r,Nat.mul_zero]at c;rw[r,Nat.mul_zero];omega,by dsimp only;omega⟩,by dsimp only;omega,weak ⟨rfl,rfl,rfl,rfl,trivial⟩ ⟨rfl,rfl,rfl,trivial⟩ rfl⟩
  ·have v:j+j<=(j+j)*h:=Nat.le_mul_of_pos_right _ O_;refine PV ?_;refine Aa ?_;refine ac (mul j j O_ O_) rfl rfl rfl rfl rfl rfl rfl ?_;refine kW ?_;exact⟨(i+j,j+j,h),⟨by dsimp only;omega,by dsimp only;omega⟩,by dsimp only;omega,weak ⟨rfl,rfl,rfl,rfl,trivial⟩ ⟨rfl,rfl,rfl,trivial⟩ rfl⟩
 ·obtain rfl:e=0:=O_;rw[Nat.mul_zero,Nat.add_zero]at c;have v:j+j<=(j+j)*h:=Nat.le_mul_of_pos_right _ O_;refine kI ?_;refine kO ?_;refine kT ?_;refine kG ?_;refine kO ?_;refine aj rfl rfl rfl rfl rfl rfl rfl hrem ?_;refine kG ?_;refine kO ?_;refine aj rfl rfl rfl rfl rfl rfl rfl hquo ?_;refine kG ?_;refine Aa ?_;refine ac (mul j j O_ O_) rfl rfl rfl rfl rfl rfl rfl ?_;refine kW ?_;exact⟨(i,j+j,h),⟨by dsimp only;omega,by dsimp only;omega⟩,by dsimp only;omega,weak ⟨rfl,rfl,rfl,rfl,trivial⟩ ⟨rfl,rfl,rfl,trivial⟩ rfl⟩
section
open Go.ChangeShapes Go.WideShapes Go.ChangeAt Go.RowKit Go.Joins
def VY(w:World)(a:db (fun _=>False) w):db (fun _=>False) w:=a
def Fb{f:FuncId}{ds:List DV}(h:aa prog f ds (.one (dB true))){w:World}(a:db (fun _=>False) w){vs:List Value}(g:VM (fun _=>False) w ds vs):Calls prog f vs.toArray w (U5 true w):=
 (h.calls _ w vs (VY w a) g).mono fun e i⟨v,c,d,b⟩=>by obtain rfl:=bc (show AV.M _ _ _ _ from d);exact⟨c,b⟩
end
def sO{a b:Nat}:Nat.gcd b (a%b)=Nat.gcd a b:=by rw[Nat.gcd_comm a b,Nat.gcd_rec b a,Nat.gcd_comm]
def u3{na nb:Bool}{xs ys:List Nat}(j:Wd xs)(b:Wd ys)(r:mn xs)(t:mn ys):aa prog 221 [dI na xs,dI nb ys] (.one (dZ (Nat.gcd (val xs) (val ys)))):=by
 have l:(digs (val xs)).length<=2147483648:=by have:=bJ j;unfold trim at this;unfold mn at r;omega
 have m:(digs (val ys)).length<=2147483648:=by have:=bJ b;unfold trim at this;unfold mn at t;omega
 refine kV func221 ?_;refine kQ (mP j) ?_;refine kQ (mP b) ?_;refine av (Nat × Nat) (fun p=>Nat.gcd p.1 p.2=Nat.gcd (val xs) (val ys)/\(digs p.1).length<=2147483648/\(digs p.2).length<=2147483648) (fun p=>⟨[(4, .box 2 0),(5, .d (dW (digs p.1))),(6, .d (dW (digs p.2)))],[(2,some [.val (.bool false), .sl 0 []])]⟩) (fun p=>p.2) (val xs,val ys) ⟨rfl,l,m⟩ kw ?_;rintro⟨u,v⟩ ⟨c,g,f⟩;dsimp only at c g f ⊢;refine kW ?_;refine fH rfl (fun h=>?_) (fun h=>?_)
 ·have a:0<v:=by
   rcases Nat.eq_zero_or_pos v with a|a
   ·have:=h_ h;rw[aU.2 a]at this;omega
   ·exact a
  refine bB ?_;refine kW ?_;refine kQ (nv g a) ?_;have i:=Nat.mod_lt u a;refine⟨(v,u%v),⟨sO.trans c,f,V_ (iS (Nat.le_of_lt i)) f⟩,i,weak ⟨rfl,rfl,rfl,trivial⟩ ⟨rfl,trivial⟩ rfl⟩
 ·have a:v=0:=by have:=of_decide_eq_false h;exact aU.1 O_
  subst a;rw[Nat.gcd_zero_right]at c;refine iy ?_;refine kW ?_;refine ac (bD (neg:=false) (xs:=digs u) (ab _) (show bv false (digs u)=((Nat.gcd (val xs) (val ys):Nat):Int) by rw[zp,<- c];rfl)) rfl rfl rfl rfl rfl rfl rfl ?_;exact am
def yl{na nb:Bool}{xs ys:List Nat}(r:Wd xs)(g:Wd ys)(x:mn xs)(l:mn ys):aa prog 231 [dI na xs,dI nb ys] (.one (dZ (Nat.gcd (val xs) (val ys)))):=by
 have t:(digs (val xs)).length<=2147483648:=by have:=bJ r;unfold trim at this;unfold mn at x;omega
 have w:(digs (val ys)).length<=2147483648:=by have:=bJ g;unfold trim at this;unfold mn at l;omega
 refine kV func231 ?_;refine kQ (cg r) ?_;refine kQ (cg g) ?_;refine av (Nat × Nat) (fun p=>Nat.gcd p.1 p.2=Nat.gcd (val xs) (val ys)/\(digs p.1).length<=2147483648/\(digs p.2).length<=2147483648) (fun p=>⟨[(4, .box 2 0),(5, .d (dW (digs p.1))),(6, .d (dW (digs p.2)))],[(2,some [.val (.bool false), .sl 0 []])]⟩) (fun p=>p.2) (val xs,val ys) ⟨rfl,t,w⟩ kw ?_;rintro⟨u,v⟩ ⟨hg,g1,g2⟩;dsimp only at hg g1 g2 ⊢;by_cases i:2<(digs v).length∨(2<(digs u).length/\0<(digs v).length)
 ·have hv:0<v:=by
   rcases Nat.eq_zero_or_pos v with hv|hv
   ·rw[hv,aG]at i;simp at i
   ·exact hv
  have hm:=Nat.mod_lt u hv;by_cases l:2<(digs v).length
  ·refine nB ?_;exact PW
  ·have z:2<(digs u).length/\0<(digs v).length:=O_;refine nB ?_;refine kE ?_;refine MX ?_;exact PW
 ·have y:v=0∨(0<v/\(digs v).length<=2/\(digs u).length<=2):=by
   rcases Nat.eq_zero_or_pos v with hv|hv
   ·exact .inl hv
   ·have:0<(digs v).length:=by exact NT
    exact .inr ⟨hv,by omega,by omega⟩
  rcases y with hv| ⟨hv,f,a⟩
  ·subst hv;rw[Nat.gcd_zero_right]at hg;have hl0:(digs 0).length=0:=aU.2 rfl;by_cases a:2<(digs u).length
   ·refine nB ?_;refine kE ?_;refine kO3 ?_;refine kT ?_;refine BJ ?_;refine Qm ?_;refine Q1 ?_;exact am
   ·refine nB ?_;refine kE ?_;refine BJ ?_;refine Qm ?_;refine Q1 ?_;exact am
  ·have j:0<(digs v).length:=by exact NT
   have b:u<18446744073709551616:=by have:=bE a;simpa using this
   have c:v<18446744073709551616:=by have:=bE f;simpa using this
   refine nB ?_;refine kE ?_;refine BJ ?_;refine eR (T:=TT) rfl ?_ ?_
   ·exact beq_eq_false_iff_ne.2 O_
   refine kW ?_;refine kQ (vH (ab u) a) ?_;refine kQ (vH (ab v) f) ?_;rw[ae,ae];refine av (Nat × Nat) (fun p=>Nat.gcd p.1 p.2=Nat.gcd (val xs) (val ys)/\p.1<18446744073709551616/\p.2<18446744073709551616) (fun p=>⟨[(4, .box 2 0),(9, .d (dN .u64 p.1)),(10, .d (dN .u64 p.2))],[(2,some [.val (.bool false), .sl 0 []])]⟩) (fun p=>p.2) (u,v) ⟨hg,b,c⟩ kw ?_;clear hg b c g1 g2 a f j hv i;clear u v;rintro⟨u,v⟩ ⟨hg,m,hv⟩;dsimp only at hg m hv ⊢;rcases Nat.eq_zero_or_pos v with h0|h0
   ·subst h0;rw[Nat.gcd_zero_right]at hg;refine kW ?_;refine kC (ln u m) ?_;refine Q1 ?_;exact am
   ·refine tw ?_;refine kB true ?_ ?_
    ·exact bne_iff_ne.2 O_
    refine kW ?_;refine aj rfl rfl rfl rfl ?_ rfl rfl (tN O_) ?_
    ·rfl
    refine kW ?_;have hm:=Nat.mod_lt u h0;refine⟨(v,u%v),⟨sO.trans hg,hv,by dsimp only;omega⟩,hm,weak ⟨rfl,rfl,?_,trivial⟩ ⟨rfl,trivial⟩ rfl⟩;show TV.d (.leaf (.val (.int .u64 ((u:Int).tmod v))))=TV.d (dN .u64 ((u%v:Nat):Int));rw[Int.ofNat_tmod];rfl
def Bs(l:List UInt8):ByteArray:=⟨l.toArray⟩
def dL(l:List UInt8):DV:=dS (Bs l)
def vL(l:List UInt8):Value:= .string (Bs l)
def Pb(s:ByteArray):Bs s.data.toList=s:=rfl
def an(l:List UInt8):(Bs l).size=l.length:=by simp[Bs,ByteArray.size]
def lM(l:List UInt8):(Bs l).toList=l:=ByteArray.toList_mk l
def Gg(a b:List UInt8):Bs a++Bs b=Bs (a++b):=by apply ByteArray.ext;simp[Bs]
def jy(l:List UInt8)(i j:Nat):(Bs l).extract i j=Bs ((l.take j).drop i):=by apply ByteArray.ext;simp[Bs,ByteArray.data_extract,List.extract_eq_take_drop,List.drop_take]
def jj{t:TypeId}{x y:Operand}{a b:List UInt8}:mI .eql t x y (vL a) (vL b)=some (.bool (decide (a=b))):=by show some (Value.bool ((Bs a).toList == (Bs b).toList))=_;rw[lM,lM];congr 2;by_cases h:a=b<;>simp[h]
def og{t:TypeId}{x y:Operand}{a b:List UInt8}:mI .neq t x y (vL a) (vL b)=some (.bool (!decide (a=b))):=by show some (Value.bool (!((Bs a).toList == (Bs b).toList)))=_;rw[lM,lM];congr 3;by_cases h:a=b<;>simp[h]
def aA{t:TypeId}{x y:Operand}{a b:List UInt8}(h:a.length+b.length<=9223372036854775807):mI .add t x y (vL a) (vL b)=some (vL (a++b)):=by
 have c:¬(((Bs a).size+(Bs b).size:Nat):Int) > IntKind.i64.max:=by rw[an,an,show IntKind.i64.max=9223372036854775807 from by decide];omega
 have:binOp .add t (vL a) (vL b)= .pure (vL (a++b)):=by simp only[binOp,vL,Op.stringOp,c,if_false,Gg];rfl
 show sj (do eqGuard .add t x y (vL a) (vL b);binOp .add t (vL a) (vL b))=_;simp only[this];rfl
section
variable {P:Program}{T:TypeId->Option Ty}{n:Nat}{ops:Array Oper}{id:Nat}{draw:Bool}{K:AS->Prop}{s:AS}{k:Nat}{o:Oper}{os:List Oper}{fps:List FP}
def jv{t:TypeId}{ty:Ty}(b:bl P t ty)(c:ty.isStr=true):P.underlying t=some .string:=by obtain⟨d,e,_,_,_,_,a,_⟩:=b.und;rw[e,a c]
def bU(B:∀t d,T t=some d->bl P t d){t:TypeId}{ty:Ty}{x y:Operand}{l:List UInt8}{c:UInt8}{i:Nat}{ik:IntKind}(j:l[i]? =some c)(p:gd ops s o=some true)(e:o.op= .index t x y)(u:T t=some ty)(v:ty.isStr=true)(z:s.ev x= .d (.leaf (.val (vL l))))(A:s.ev y= .d (.leaf (.val (.int ik (i:Nat)))))(q:aO n o.dst=true)(r:gO draw ops (aH ops o ⟨.d (dN .u8 c.toNat),none⟩ []) k fps=true)(h:aw P T n ops id draw K (k+1) os (s.eff o.dst ⟨.d (dN .u8 c.toNat),none⟩) (aH ops o ⟨.d (dN .u8 c.toNat),none⟩ []::fps)):aw P T n ops id draw K k (o::os) s fps:=by
 refine .run p (.gen fun H m _=>?_) q r h;have E:=(aP m (x:=x) (by simp[e,Op.operands])).trans z;have F:=(aP m (x:=y) (by simp[e,Op.operands])).trans A;have D:=jv (B _ _ u) v;have C:i<l.length:=(G_.1 j).1;refine ar fun n G I g a w f=>⟨.int .u8 c.toNat,w,?_,Below.refl _ _,AV.M.val rfl⟩;unfold execOp;rw[e];have hsz:=an l;have b:(Bs l)[i]'(by rw[hsz];exact C)=c:=by have:=(G_.1 j).2;show(Bs l).data[i]'_=c;simpa[Bs]using this
 simp only[bn f E,bn f F,vL,Y_,run_index_string _ t (Bs l) ik i D];rw[dif_pos (by rw[hsz];omega)];simp only[R_,Int.toNat_natCast,b];rfl
def qW(C:∀t d,T t=some d->bl P t d){t:TypeId}{ty:Ty}{x y:Operand}{l:List UInt8}{i:Nat}{ik:IntKind}(G:i<=l.length)(m:gd ops s o=some true)(b:o.op= .slice t x (some y) none none)(v:T t=some ty)(z:ty.isStr=true)(A:s.ev x= .d (.leaf (.val (vL l))))(B:s.ev y= .d (.leaf (.val (.int ik (i:Nat)))))(r:aO n o.dst=true)(u:gO draw ops (aH ops o ⟨.d (dL (l.drop i)),none⟩ []) k fps=true)(h:aw P T n ops id draw K (k+1) os (s.eff o.dst ⟨.d (dL (l.drop i)),none⟩) (aH ops o ⟨.d (dL (l.drop i)),none⟩ []::fps)):aw P T n ops id draw K k (o::os) s fps:=by
 refine .run m (.gen fun H f _=>?_) r u h;have D:=(aP f (x:=x) (by simp[b,Op.operands])).trans A;have E:=(aP f (x:=y) (by simp[b,Op.operands])).trans B;have hu:=jv (C _ _ v) z;refine ar fun n F I g a w c=>⟨vL (l.drop i),w,?_,Below.refl _ _,AV.M.val rfl⟩;unfold execOp;rw[b];have j:(Instr.sliceAt t (.string (Bs l)) (some (.int ik i)) none none).run P w= .ok (vL (l.drop i)) w:=by refine H6 ?_;rw[run_slice_string_l w t (Bs l) hu ik i O_ (by rw[an];omega),jy,an];simp[vL]
 simp only[bn c D,bn c E,vL,Option.map_some,Option.map_none,Y_,j,R_];rfl
end
def dg(k:Nat):UInt8:=UInt8.ofNat (48+k)
def oc{k:Nat}(h:k<10):(dg k).toNat=48+k:=by unfold dg;rw[UInt8.toNat_ofNat'];omega
def ka(n:Nat):List UInt8:=if _h:n=0 then []else ka (n/10)++[dg (n%10)]
termination_by n
decreasing_by omega
def cZ:ka 0=[]:=by rw[ka];simp
def dr{n:Nat}(h:n≠0):ka n=ka (n/10)++[dg (n%10)]:=by rw[ka];simp[h]
def fmt(z:Int):List UInt8:=if z=0 then [48]else(if z<0 then [45]else [])++ka z.natAbs
def dv(c:UInt8):Nat:=c.toNat-48
def cM(c:UInt8):Prop:=48<=c.toNat/\c.toNat<=57
instance (c:UInt8):Decidable (cM c):=inferInstanceAs (Decidable (_/\_))
def num(l:List UInt8):Nat:=l.foldl (fun a c=>10*a+dv c) 0
def f9(l:List UInt8)(c:UInt8):num (l++[c])=10*num l+dv c:=by simp[num]
def UE{c:UInt8}(h:cM c):dg (dv c)=c:=by unfold dg dv;apply UInt8.toNat_inj.1;rw[UInt8.toNat_ofNat'];unfold cM at h;omega
def DL{c:UInt8}(h:cM c):dv c<10:=by unfold dv;unfold cM at h;omega
def nC{n:Nat}(h:n≠0):∃c r,ka n=c::r/\c≠48:=by
 induction n using Nat.strongRecOn with
 |_ n f=>
  rw[dr h];by_cases a:n/10=0
  ·rw[a,cZ];refine⟨dg (n%10),[],rfl,fun e=>?_⟩;have b:=oc (show n%10<10 by omega);rw[e]at b;have:(48:UInt8).toNat=48:=rfl;omega
  ·obtain⟨c,r,e,d⟩:=f (n/10) O_ a;exact⟨c,r++[dg (n%10)],by rw[e];rfl,d⟩
def wW{l:List UInt8}(g:∀c∈l,cM c){c:UInt8}{r:List UInt8}(h:l=c::r)(f:c≠48):0<num l:=by
 have b:∀(r:List UInt8)(a:Nat),0<a->0<r.foldl (fun a c=>10*a+dv c) a:=by
  intro r;induction r with
  |nil=>intro a h;exact h
  |cons x r i=>intro a h;exact i _ (by dsimp only;omega)
 subst h;have d:=g c S_;refine b r _ ?_;dsimp only;have j:c.toNat≠48:=fun e=>f (UInt8.toNat_inj.1 e);unfold dv;unfold cM at d;omega
def M4:∀(n:Nat)(l:List UInt8),l.length=n->(∀c∈l,cM c)->(∀c r,l=c::r->c≠48)->ka (num l)=l:=by
 intro n;induction n with
 |zero=>intro l hl _ _;rw[E_ hl];exact cZ
 |succ n m=>
  intro l hl b d;obtain⟨l',c,rfl⟩:∃l' c,l=l'++[c]:=by exact P0
  have a:=b c S_;have i:=DL a;have f:l'.length=n:=by simpa using hl
  rw[f9];have g:10*num l'+dv c≠0:=by
   cases l' with
   |nil=>have j:=d c [] rfl;have q:c.toNat≠48:=fun e=>j (UInt8.toNat_inj.1 e);unfold dv;unfold cM at a;omega
   |cons x r=>have:=wW (l:=x::r) (fun c a=>b c (by simp at a ⊢;rcases a with h|h<;>simp[h])) rfl (d x (r++[c]) rfl);omega
  rw[dr g,show(10*num l'+dv c)/10=num l' by omega,show(10*num l'+dv c)%10=dv c by omega,UE a];congr 1;refine m l' f (fun c a=>b c (by simp[a])) (fun x r e=>?_);subst e;exact d x (r++[c]) rfl
def rh:∀(k n:Nat),n<10^k->(ka n).length<=k
 |0,n,h=>by simp at h;subst h;rw[cZ];simp
 |k+1,n,h=>by
  by_cases h0:n=0
  ·subst h0;rw[cZ];simp
  ·rw[dr h0,L_];have:=rh k (n/10) (by rw[Nat.pow_succ]at h;omega);simp;omega
def iz(neg:Bool)(ds:List UInt8):Prop:=ds≠[]/\(∀c∈ds,cM c)/\((∀c r,ds=c::r->c≠48)∨(ds.length=1/\neg=false))
def kd(neg:Bool)(n:Nat):Int:=if neg then -(n:Int)else n
def sg(neg:Bool)(ds:List UInt8):List UInt8:=if neg then 45::ds else ds
def RP{neg:Bool}{ds:List UInt8}(h:iz neg ds):fmt (kd neg (num ds))=sg neg ds:=by
 obtain⟨i,g,a⟩:=h;by_cases d:∀c r,ds=c::r->c≠48
 ·obtain⟨c,r,e⟩:∃c r,ds=c::r:=by cases ds with|nil=>exact absurd rfl i|cons c r=>exact⟨c,r,rfl⟩
  have m:=wW g e (d c r e);have b:=M4 _ ds rfl g d;unfold fmt kd sg;cases neg
  ·refine qL ?_;rw[if_neg O_,if_neg O_,b_,b];rfl
  ·simp only[if_true];rw[if_neg O_,if_pos O_,Int.natAbs_neg,b_,b];rfl
 ·rcases a with a| ⟨a,j⟩
  ·exact absurd a d
  ·subst j
   match ds,a with
   | [c],_=>
    have l:c=48:=by apply Classical.byContradiction;intro f;exact d fun x r e=>by cases e;exact f
    subst l;rfl
def F0{neg:Bool}{ds:List UInt8}(d:∀c∈ds,cM c)(h:fmt (kd neg (num ds))=sg neg ds):iz neg ds:=by
 have i:neg=false-> ∀l:List UInt8,ds≠45::l:=fun _ l e=>by have:=d 45 (by rw[e];simp);unfold cM at this;have m:(45:UInt8).toNat=45:=rfl;omega
 by_cases g:num ds=0
 ·have h0:kd neg (num ds)=0:=by unfold kd;rw[g];cases neg<;>simp
  rw[h0]at h;have a:[48]=sg neg ds:=h;unfold sg at a;cases neg
  ·simp only[Bool.false_eq_true,if_false]at a;rw[<- a]at d ⊢;exact⟨by simp,d, .inr ⟨rfl,rfl⟩⟩
  ·simp only[if_true,List.cons.injEq]at a;exact absurd a.1 D_
 ·obtain⟨c,r,e,j⟩:=nC g;have b:ds=ka (num ds):=by
   unfold fmt kd sg at h;cases neg
   ·simp only[Bool.false_eq_true,if_false]at h;rw[if_neg O_,if_neg O_,b_]at h;exact h.symm
   ·simp only[if_true]at h;rw[if_neg O_,if_pos O_,Int.natAbs_neg,b_]at h;simpa using h.symm
  refine⟨fun f=>?_,d, .inl fun x q f=>?_⟩
  ·rw[<- b,f]at e;cases e
  ·rw[<- b,f]at e;cases e;exact j
def bL:List UInt8->Bool
 |c::_=>c == 45
 | []=>false
def dA:List UInt8->List UInt8
 |c::r=>if c == 45 then r else c::r
 | []=>[]
def M5(s:List UInt8):sg (bL s) (dA s)=s:=by
 cases s with
 |nil=>rfl
 |cons c r=>
  unfold sg bL dA;by_cases h:c=45
  ·subst h;rfl
  ·have:(c == 45)=false:=beq_eq_false_iff_ne.2 h;simp[this]
def lI(s:List UInt8):(dA s).length<=s.length:=by
 cases s with
 |nil=>exact l_ _
 |cons c r=>show(if(c == 45)=true then r else c::r).length<=_;split <;>simp
def R8(s:List UInt8):decide ((dA s).length<s.length)=bL s:=by
 cases s with
 |nil=>rfl
 |cons c r=>
  unfold dA bL;by_cases h:c=45
  ·subst h;simp
  ·have:(c == 45)=false:=beq_eq_false_iff_ne.2 h;simp[this]
def tZ:∀(n:Nat)(l:List UInt8),l.length=n->(∀c∈l,cM c)->num l<10^n:=by
 intro n;induction n with
 |zero=>intro l hl _;rw[E_ hl];decide
 |succ n d=>
  intro l hl b;obtain⟨l',c,rfl⟩:∃l' c,l=l'++[c]:=by exact P0
  have:=d l' (by simpa using hl) (fun c a=>b c (by simp[a]));have a:=DL (b c S_);rw[f9,Nat.pow_succ];omega
def DW{l:List UInt8}(a:∀c∈l,cM c):(digs (num l)).length<=l.length:=by refine aL (k_ (tZ _ l rfl a) ?_);exact Nat.pow_le_pow_left D_ _
def BU{n k:Nat}(h:(digs n).length<=k){m:Nat}(a:m<=10*n+10):(digs m).length<=k+1:=by refine aL (Nat.lt_of_le_of_lt a ?_);have:=bE h;rw[Nat.pow_succ];omega
def pok(s:List UInt8):Prop:=s.length<=65536/\iz (bL s) (dA s)
open Classical in
noncomputable def pz(s:List UInt8):Int × Int:=if pok s then(kd (bL s) (num (dA s)),0)else(0,2)
def J9{s:List UInt8}(h:pok s):pz s=(kd (bL s) (num (dA s)),0):=by unfold pz;rw[if_pos h]
def jB{s:List UInt8}(h:¬pok s):pz s=(0,2):=by unfold pz;rw[if_neg h]
def e0:aZ 0=[.val (.bool false), .sl 0 []]:=by unfold aZ aI aW;rw[show(0:Int).natAbs=0 from rfl,aG];rfl
def dk:Nat->Nat->List UInt8
 |0,_=>[]
 |k+1,c=>dk k (c/10)++[dg (c%10)]
def dd(c:Nat):List UInt8:=if c=0 then [48]else ka c
def F5(k m c:Nat)(b:0<m)(a:c<10^k):ka (m*10^k+c)=ka m++dk k c:=by
 induction k generalizing c with
 |zero=>simp at a;subst a;simp[dk]
 |succ k g=>
  rw[Nat.pow_succ]at a;have f:0<10^k:=Nat.pow_pos D_;have d:0<m*10^k:=Nat.mul_pos b f;have e:m*10^(k+1)+c=10*(m*10^k)+c:=by rw[Nat.pow_succ,<- Nat.mul_assoc,Nat.mul_comm]
  rw[e,dr O_,show(10*(m*10^k)+c)/10=m*10^k+c/10 by omega,show(10*(m*10^k)+c)%10=c%10 by omega,g (c/10) O_,dk,e_]
def Ny(k:Nat):dk k 0=List.replicate k 48:=by
 induction k with
 |zero=>rfl
 |succ k a=>rw[dk,Nat.zero_div,a,List.replicate_succ'];rfl
def li{c:Nat}(h:c<10):dd c=[dg c]:=by
 unfold dd;by_cases h0:c=0
 ·subst h0;rfl
 ·rw[if_neg h0,dr h0,show c/10=0 by omega,cZ,show c%10=c by omega];rfl
def BY{c:Nat}(h:10<=c):dd c=dd (c/10)++[dg (c%10)]:=by unfold dd;rw[if_neg O_,if_neg O_,dr O_]
def OH(k:Nat):∀c,c<10^(k+1)->(dd c).length<=k+1/\dk (k+1) c=List.replicate (k+1-(dd c).length) 48++dd c:=by
 induction k with
 |zero=>
  intro c a;have:c<10:=by simpa using a
  rw[li this,dk,dk,show c%10=c by omega];exact⟨l_ _,rfl⟩
 |succ k d=>
  intro c a;by_cases h:c<10
  ·rw[li h,dk,show c/10=0 by omega,Ny,show c%10=c by omega];exact⟨by simp,by simp⟩
  ·rw[Nat.pow_succ]at a;obtain⟨e,b⟩:=d (c/10) O_;rw[BY O_,dk,b,L_,List.length_singleton];refine⟨by omega,?_⟩;rw[show k+1+1-((dd (c/10)).length+1)=k+1-(dd (c/10)).length by omega,e_]
def fk(u:Nat):Lib.decDigits u=dd u:=by
 induction u using Nat.strongRecOn with
 |_ u a=>
  by_cases h:u<10
  ·rw[Lib.decDigits,dif_pos h,li h];rfl
  ·rw[Lib.decDigits,dif_neg h,BY O_,a _ O_];rfl
def ut(c:Nat):List UInt8:=List.replicate (9-(dd c).length) 48++dd c
def BP(m c:Nat)(b:0<m)(a:c<1000000000):ka (m*1000000000+c)=ka m++ut c:=by have h:=F5 9 m c b (by simpa using a);rw[show(10:Nat)^9=1000000000 from rfl]at h;rw[h,(OH 8 c (by simpa using a)).2];rfl
def wX{c:Nat}(a:c<1000000000):1<=(dd c).length/\(dd c).length<=9:=by
 refine⟨?_,(OH 8 c (by simpa using a)).1⟩;unfold dd;by_cases h0:c=0
 ·rw[if_pos h0];exact l_ _
 ·rw[if_neg h0,dr h0];simp
def ch(n:Nat):List Nat:=if _h:n=0 then []else n%1000000000::ch (n/1000000000)
termination_by n
decreasing_by omega
def lJ:ch 0=[]:=by rw[ch];simp
def rR{n:Nat}(h:n≠0):ch n=n%1000000000::ch (n/1000000000):=by rw[ch];simp[h]
def Sg:List Nat->List UInt8
 | []=>[]
 |c::r=>dd c++r.flatMap ut
def JL{l:List Nat}(h:l≠[])(c:Nat):Sg (l++[c])=Sg l++ut c:=by
 cases l with
 |nil=>exact absurd rfl h
 |cons a r=>simp[Sg,List.flatMap_append]
def IN:∀(k n:Nat),n<1000000000^k->(ch n).length<=k
 |0,n,h=>by simp at h;subst h;rw[lJ];simp
 |k+1,n,h=>by
  by_cases h0:n=0
  ·subst h0;rw[lJ];simp
  ·rw[rR h0];have:=IN k (n/1000000000) (by rw[Nat.pow_succ]at h;omega);simp;omega
def SJ(n:Nat):∀c∈ch n,c<1000000000:=by
 induction n using Nat.strongRecOn with
 |_ n b=>
  by_cases h:n=0
  ·subst h;rw[lJ];simp
  ·rw[rR h];intro c a;rcases f_.1 a with rfl|a
   ·omega
   ·exact b _ O_ c a
def oN{xs:List Nat}(a:Wd xs):(ch (val xs)).length<=2*xs.length:=by refine IN _ _ (k_ (fQ a) ?_);rw[Nat.pow_mul];exact Nat.pow_le_pow_left D_ _
def PN{n:Nat}(h:n≠0):ch n≠[]:=by rw[rR h];simp
def R1(n:Nat):Sg (ch n).reverse=ka n:=by
 induction n using Nat.strongRecOn with
 |_ n b=>
  by_cases h:n=0
  ·subst h;rw[lJ,cZ];rfl
  ·rw[rR h,List.reverse_cons];by_cases a:n/1000000000=0
   ·rw[a,lJ];have:n%1000000000=n:=O_;rw[this];show dd n++[]=_;rw[c_];unfold dd;rw[if_neg h]
   ·rw[JL (by simpa using PN a),b _ O_,<- BP _ _ O_ O_];congr 1;omega
def QR{k:Nat}(h:k<10):cM (dg k):=by unfold cM;rw[oc h];omega
def Ms(n:Nat):∀c∈ka n,cM c:=by
 induction n using Nat.strongRecOn with
 |_ n b=>
  by_cases h:n=0
  ·subst h;rw[cZ];simp
  ·rw[dr h];intro c a;rcases List.mem_append.1 a with a|a
   ·exact b _ O_ c a
   ·rw[d_]at a;rw[a];exact QR O_
def LH(n:Nat):num (ka n)=n:=by
 induction n using Nat.strongRecOn with
 |_ n a=>
  by_cases h:n=0
  ·subst h;rw[cZ];rfl
  ·rw[dr h,f9,a _ O_];unfold dv;rw[oc O_];omega
section
open Go.Shelf Go.RowKit Go.Sort Go.Lib
set_option maxRecDepth 100000 in
def ux(u:Nat)(a:u<18446744073709551616)(w:World)(g:Lib.TabIs prog w "internal/strconv.uint64pow10" .u64 Lib.pow10Tab):
 Calls prog 287 #[.int .u64 u, .int .i64 10] w fun e l=>e= .returned (.string ⟨(Lib.decDigits u).toArray⟩)/\Below w.heap.size w l:=by
 by_cases v:u<100
 ·go_enter func287,ntmps287
  go_wp2_with (go_at_call 200;refine(Tryz.internal_strconv_small u v _).mono ?_;rintro e l ⟨rfl,rfl⟩)
  go_ret
  exact⟨rfl,Below.refl _ _⟩
 ·have i:1<=u:=O_;have q:Lib.nDigits u<=20:=by have:=Lib.numDigits_eq u i a;split at this<;>omega
  have f:(prog).arrayLen 209=24:=by simp[Program.arrayLen,underlying209]
  have x:∀W,(Instr.sliceAt 209 (.pointer (some ⟨w.heap.size,0,none⟩)) none (some (.int .i64 (Lib.nDigits u:Int))) none).run prog W= .ok (.slice (some ⟨w.heap.size,0,none⟩) (Lib.nDigits u) 24) W:=fun W=>by
   rw[run_sliceAt_array_h W 209 ⟨w.heap.size,0,none⟩ (by simp[Program.arrayLen,Program.elem,underlying209]) .i64 (Lib.nDigits u:Int) O_ (by rw[f];omega)]
   go_simp
  have d:=Lib.holds_zero0 w 209 (Lib.nDigits u) O_;have c:=Tryz.internal_strconv_formatBase10 w.heap.size 0 24 u (Array.replicate (Lib.nDigits u) 0) (w.alloc (.cells Lib.zeros24 209)) d (by rw[Array.size_replicate];exact Lib.lt_pow_nDigits u) a (by rw[Array.size_replicate];omega);rw[Array.size_replicate]at c;have HH0:=Lib.hid d;have y:(100:Int)<=(u:Int):=O_;clear d f
  go_enter func287,ntmps287
  go_wp2_with (go_at_call 201;refine(Tryz.internal_strconv_numDigits u i a _ (Lib.tabIs_alloc g _)).mono ?_;rintro e l ⟨rfl,rfl⟩)
  go_at_call 202
  refine c.mono ?_;rintro e l ⟨rfl,k,z,dk,rfl,m⟩;have t:(convert 137 9 (.slice (some ⟨w.heap.size,0,none⟩) (Lib.nDigits u) 24)).run prog ((putRow (fun(b:UInt8)=>Value.int .u8 (b.toNat:Int)) (w.alloc (.cells Lib.zeros24 209)) w.heap.size 0 dk).drewN k)= .ok (.string ⟨(Lib.decDigits u).toArray⟩) ((putRow (fun(b:UInt8)=>Value.int .u8 (b.toNat:Int)) (w.alloc (.cells Lib.zeros24 209)) w.heap.size 0 dk).drewN k):=by
   have h:=run_convert_bytes_back (P:=prog) ((putRow (fun(b:UInt8)=>Value.int .u8 (b.toNat:Int)) (w.alloc (.cells Lib.zeros24 209)) w.heap.size 0 dk).drewN k) 137 9 5 ⟨w.heap.size,0,none⟩ 24 (Lib.decDigits u) underlying137 underlying5 underlying9 (fun j p=>by rw[Lib.row_is_numeral m j p,Lib.add_plain,World.cell?_drewN];exact cell?_putRow (fun(b:UInt8)=>Value.int .u8 (b.toNat:Int)) _ w.heap.size 0 _ dk HH0.out (by rw[m.size,Array.size_replicate]) j (by rw[m.size];rw[Lib.decDigits_length]at p;exact p))
   rw[Lib.decDigits_length]at h;exact h
  go_wp2
  go_ret
  obtain⟨os,r⟩:=Lib.fin_at w (.cells Lib.zeros24 209) dk k 0;exact⟨rfl,by rw[r];exact Lib.below_grow _ w (l_ _) k os⟩
def g8(u:Nat)(b:u<18446744073709551616)(w:World)(a:Lib.TabIs prog w "internal/strconv.uint64pow10" .u64 Lib.pow10Tab):
 Calls prog 239 #[.int .u64 u, .int .i64 10] w fun e c=>e= .returned (.string ⟨(Lib.decDigits u).toArray⟩)/\Below w.heap.size w c:=by
 go_enter func239,ntmps239
 go_wp2_with (go_at_call 287;refine(ux u b _ a).mono ?_;rintro e c ⟨rfl,d⟩)
 go_ret
 exact⟨rfl,d⟩
end
section
open Go.Shelf Go.RowKit
def zZ:((prog).info? 139).map (·.size)=some 2:=Tryz.Builder_Extra_169.sizeBuilder
def In:liesAt prog (prog).depth 139 (2/(prog).cellsOf 139) 0 139 1=true:=by kernel_rfl
def rX:((prog).info? 5).map (fun i=>(i.zero,i.size,i.bytes))=some (some (.int .u8 0),1,1):=Tryz.Builder_Extra_169.infoByte
set_option maxRecDepth 100000 in
def ke(b:Nat)(w:World)(h0:w.cell? ⟨b,0,none⟩=some (.pointer (some ⟨b,0,none⟩))):
 Calls prog 145 #[.pointer (some ⟨b,0,none⟩)] w fun e c=>e= .returned (.tuple #[])/\c=w:=by
 obtain⟨j,a,_⟩:=Option.map_eq_some_iff.1 zZ
 go_enter func145,ntmps145
 go_wp2
 rw[Lib.run_neq_ptr_same w _ underlying136 a]
 go_wp2
 go_end0
 exact⟨rfl,rfl⟩
set_option maxRecDepth 100000 in
def j5(b:Nat)(w:World)(h0:w.cell? ⟨b,0,none⟩=some (.pointer none))(a:w.shape? b=some (139,2))(f:w.frozen? ⟨b,0,none⟩=false):
 Calls prog 145 #[.pointer (some ⟨b,0,none⟩)] w fun e g=>e= .returned (.tuple #[])/\g=w.setCell ⟨b,0,none⟩ (.pointer (some ⟨b,0,none⟩)):=by
 obtain⟨j,d,c⟩:=Option.map_eq_some_iff.1 zZ
 go_enter func145,ntmps145
 go_wp2
 rw[Lib.run_to_unsafe w ⟨b,0,none⟩ underlying136 underlying214 d (by rw[c];decide) a (Z_ 1)];simp only[Result.andThen];rw[Oper.upon_value]
 go_wp2
 rw[run_callFunc_extern func204 (by kernel_rfl) (by kernel_rfl) (by kernel_rfl) (e:=Extern.AbiNoEscape.same) (by kernel_rfl)];rw[Lib.run_noEscape];simp only[Result.andThen];rw[Oper.upon_value]
 go_wp2
 rw[Lib.run_from_unsafe w ⟨b,0,none⟩ underlying214 underlying136 d a In];simp only[Result.andThen];rw[Oper.upon_value]
 go_wp2
 go_end0
 exact⟨rfl,rfl⟩
def qJ(B b:Nat)(c:List Value)(w:World)(h:Lib.IsBuilderF 139 5 B b c w):
 Calls prog 145 #[.pointer (some ⟨b,0,none⟩)] w fun e a=>e= .returned (.tuple #[])/\(Lib.BuilderAtF 139 5 B b (.pointer (some ⟨b,0,none⟩)) c a/\Below B w a/\Lib.OthersKept 5 (some b) w a):=by
 rcases h with h|h
 ·refine(j5 b w h.cell0 h.shape h.frozen0).mono ?_;rintro e a ⟨rfl,rfl⟩;exact⟨rfl,h.used _,(Below.refl B w).setCell (p:=⟨b,0,none⟩) h.1 _,(Lib.OthersKept.refl _ _ w).setCell ⟨b,0,none⟩ rfl _⟩
 ·refine(ke b w h.cell0).mono ?_;rintro e a ⟨rfl,rfl⟩;exact⟨rfl,h,Below.refl B _,Lib.OthersKept.refl _ _ _⟩
set_option maxRecDepth 100000 in
def yo(B b:Nat)(q:List Value)(c:Int)(w:World)(h:Lib.IsBuilderF 139 5 B b q w)(hlen:q.length+1<=140737488355328)(J:B<=w.heap.size):
 Calls prog 237 #[.pointer (some ⟨b,0,none⟩), .int .u8 c] w fun e E=>e= .returned .nilIface/\(Lib.BuilderAtF 139 5 B b (.pointer (some ⟨b,0,none⟩)) (q++[.int .u8 c]) E/\Below B w E/\Lib.OthersKept 5 (some b) w E):=by
 obtain⟨Q,L,A,C,D⟩:=info_parts rX
 go_enter func237,ntmps237
 go_wp2_with (go_at_call 145;refine(qJ B b q _ h).mono ?_)
 rintro e w1 ⟨rfl,I,l,x⟩;obtain⟨F,v,hbk,d,z⟩:=I;have S:w1.cell? ⟨b,0,none⟩=some (.pointer (some ⟨b,0,none⟩)):=by rw[Lib.cell_of_heap hbk];rfl
 have c1:w1.cell? ⟨b,1,none⟩=some v:=by rw[Lib.cell_of_heap hbk];rfl
 go_wp2_with (at_builtin;refine wpList_append_ownF _ rfl _ _ 137 rfl B 5 Q (.int .u8 0) 1 1 underlying137 L A C D rfl D_ _ _ _ rfl (d.alloc _) ⟨w1.heap.size,0,none⟩ 1 1 [.int .u8 c] rfl rfl ?c1 ?c2 ?c3 ?c4 ?c5 ?_)
 case c1=>
  intro j u r
  match j,r with
  |0,r=>simp at r;subst r;simp[Addr.add]
 case c2=>intro u G;simp at G;subst G;rfl
 case c3=>unfold maxLen;omega
 case c4=>omega
 case c5=>have:=l.size;simp;omega
 intro R t f a _;have y:b<w1.heap.size:=by exact OI
 have m:t.heap[b]? =some (.cells #[.pointer (some ⟨b,0,none⟩),v] 139 (0,0)):=by rw[a.block b (by simp;omega) (fun e=>z e.symm),Lib.alloc_old w1 _ b y];exact hbk
 have U:t.cell? ⟨b,0,none⟩=some (.pointer (some ⟨b,0,none⟩)):=by rw[Lib.cell_of_heap m];rfl
 have V:t.cell? ⟨b,1,none⟩=some v:=by rw[Lib.cell_of_heap m];rfl
 have W:t.frozen? ⟨b,1,none⟩=false:=Lib.frozen_of_heap m 1;obtain⟨g,i,rfl⟩:∃g i,R= .slice (some ⟨g,0,none⟩) (q.length+1) i:=by
  rcases f.2 with⟨_,h0⟩| ⟨g,i,H,X,O,_⟩
  ·omega
  ·exact⟨g,i,O⟩
 go_wp2
 go_ret
 refine⟨rfl,?_,?_,((x.alloc _).grown a (Lib.ownsRowF_kind (d.alloc _))).setCell ⟨b,1,none⟩ rfl _⟩
 ·exact Lib.BuilderAtF.put (T:=139) (e:=5) F m (bs':=q++[.int .u8 c]) (by simpa using f) D_
 ·exact((l.alloc (by have:=l.size;omega) _).grown a (by have:=l.size;simp;omega) (fun k N=>(d.lt k N).1)).setCell (p:=⟨b,1,none⟩) F _
set_option maxRecDepth 100000 in
def dM(B b:Nat)(l:List Value)(s:ByteArray)(w:World)(h:Lib.IsBuilderF 139 5 B b l w)(hlen:l.length+s.size<=140737488355328)(H:B<=w.heap.size):
 Calls prog 103 #[.pointer (some ⟨b,0,none⟩), .string s] w fun e A=>e= .returned (.tuple #[.int .i64 s.size, .nilIface])/\(Lib.BuilderAtF 139 5 B b (.pointer (some ⟨b,0,none⟩)) (l++Lib.strCells s) A/\Below B w A/\Lib.OthersKept 5 (some b) w A):=by
 obtain⟨L,I,x,y,z⟩:=info_parts rX
 go_enter func103,ntmps103
 go_wp2_with (go_at_call 145;refine(qJ B b l _ h).mono ?_)
 rintro e w1 ⟨rfl,G,j,q⟩;obtain⟨D,v,hbk,c,t⟩:=G;have O:w1.cell? ⟨b,0,none⟩=some (.pointer (some ⟨b,0,none⟩)):=by rw[Lib.cell_of_heap hbk];rfl
 have Q:w1.cell? ⟨b,1,none⟩=some v:=by rw[Lib.cell_of_heap hbk];rfl
 go_wp2_with (at_builtin;refine Lib.wpList_append_own_stringF _ rfl _ _ 137 9 rfl B 5 L underlying137 underlying9 I x y z _ _ _ rfl c s rfl ?c3 ?c4 ?c5 ?_)
 case c3=>unfold maxLen;omega
 case c4=>omega
 case c5=>have:=j.size;omega
 intro N m d a _;have r:b<w1.heap.size:=by exact OI
 have f:m.heap[b]? =some (.cells #[.pointer (some ⟨b,0,none⟩),v] 139 (0,0)):=by rw[a.block b r (fun e=>t e.symm)];exact hbk
 have R:m.cell? ⟨b,0,none⟩=some (.pointer (some ⟨b,0,none⟩)):=by rw[Lib.cell_of_heap f];rfl
 have S:m.cell? ⟨b,1,none⟩=some v:=by rw[Lib.cell_of_heap f];rfl
 have U:m.frozen? ⟨b,1,none⟩=false:=Lib.frozen_of_heap f 1;obtain⟨C,E,i,rfl⟩:∃C E i,N= .slice C E i:=by
  rcases d.2 with⟨u,_⟩| ⟨g,i,F,V,u,_⟩
  ·exact⟨_,_,_,u⟩
  ·exact⟨_,_,_,u⟩
 go_wp2
 go_ret2
 refine⟨rfl,?_,?_,(q.grown a (Lib.ownsRowF_kind c)).setCell ⟨b,1,none⟩ rfl _⟩
 ·exact Lib.BuilderAtF.put (T:=139) (e:=5) D f (bs':=l++Lib.strCells s) (by simpa[Lib.strCells_length]using d) D_
 ·exact(j.grown a (by have:=j.size;omega) (fun k J=>(c.lt k J).1)).setCell (p:=⟨b,1,none⟩) D _
end
end Go.Proofs.YtnchbpoopnjghaaGreatDoor
