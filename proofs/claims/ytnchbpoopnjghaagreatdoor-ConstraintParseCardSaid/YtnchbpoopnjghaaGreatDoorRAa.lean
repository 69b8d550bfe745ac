/- Plain laws on lists of words: comparison, sums, differences, products. No program in sight. Newton's square root: the plain law. The arithmetic of the division of long numbers (no program in sight). -/
import Derived.Test.YtnchbpoopnjghaaGreatDoorRK
set_option maxHeartbeats 100000000
set_option linter.all false
namespace Go.Proofs.YtnchbpoopnjghaaGreatDoor
def val:List Nat->Nat
 | []=>0
 |x::a=>x+4294967296*val a
def Wd(xs:List Nat):Prop:=∀x∈xs,x<4294967296
def Wd.nil:Wd []:=by intro x h;cases h
def Wd.cons{x:Nat}{xs:List Nat}(h:x<4294967296)(b:Wd xs):Wd (x::xs):=by
 intro y c;rcases List.mem_cons.1 c with rfl|a
 ·exact h
 ·exact b _ a
def Wd.head{x:Nat}{xs:List Nat}(h:Wd (x::xs)):x<4294967296:=h x (by simp)
def Wd.tail{x:Nat}{xs:List Nat}(h:Wd (x::xs)):Wd xs:=fun y a=>h y (by simp[a])
def Wd.append{xs ys:List Nat}(h:Wd xs)(b:Wd ys):Wd (xs++ys):=by
 intro y c;rcases List.mem_append.1 c with a|a
 ·exact h _ a
 ·exact b _ a
def Wd.take{xs:List Nat}(h:Wd xs)(n:Nat):Wd (xs.take n):=fun y a=>h y (List.mem_of_mem_take a)
def Wd.drop{xs:List Nat}(h:Wd xs)(n:Nat):Wd (xs.drop n):=fun y a=>h y (List.mem_of_mem_drop a)
def Wd.at{xs:List Nat}(h:Wd xs){i x:Nat}(hi:xs[i]? =some x):x<4294967296:=h x (List.mem_of_getElem? hi)
def Wd.getD{xs:List Nat}(h:Wd xs)(i:Nat):xs.getD i 0<4294967296:=by
 rw[List.getD_eq_getElem?_getD];cases hx:xs[i]? with
 |none=>simp
 |some x=>simpa using h.at hx
def bV(xs ys:List Nat):val (xs++ys)=val xs+4294967296^xs.length*val ys:=by
 induction xs with
 |nil=>simp[val]
 |cons x xs a=>simp only[List.cons_append,val,a,List.length_cons,Nat.pow_succ];grind
def fQ{xs:List Nat}(h:Wd xs):val xs<4294967296^xs.length:=by
 induction xs with
 |nil=>simp[val]
 |cons x xs a=>have b:=a h.tail;have c:=h.head;simp only[val,List.length_cons,Nat.pow_succ];omega
def digs(n:Nat):List Nat:=if h:n=0 then []else n%4294967296::digs (n/4294967296)
termination_by n
decreasing_by omega
def aG:digs 0=[]:=by rw[digs];simp
def f4{n:Nat}(h:n≠0):digs n=n%4294967296::digs (n/4294967296):=by rw[digs];simp[h]
def ae(n:Nat):val (digs n)=n:=by
 induction n using Nat.strongRecOn with
 |_ n a=>
  by_cases h:n=0
  ·subst h;rw[aG];rfl
  ·rw[f4 h,val,a _ (by omega)];omega
def ab(n:Nat):Wd (digs n):=by
 induction n using Nat.strongRecOn with
 |_ n a=>
  by_cases h:n=0
  ·subst h;rw[aG];exact Wd.nil
  ·rw[f4 h];exact Wd.cons (by omega) (a _ (by omega))
def ga{n:Nat}:digs n=[]↔n=0:=by
 constructor
 ·intro h;have:=ae n;rw[h]at this;simpa[val]using this.symm
 ·rintro rfl;exact aG
def Nz(xs:List Nat):Prop:=xs.getLast? ≠some 0
def wY(n:Nat):Nz (digs n):=by
 induction n using Nat.strongRecOn with
 |_ n d=>
  by_cases h:n=0
  ·subst h;rw[aG];simp[Nz]
  ·rw[f4 h];unfold Nz;by_cases c:n/4294967296=0
   ·rw[c,aG];simp;omega
   ·have b:=d _ (show n/4294967296<n by omega);unfold Nz at b;cases hd:digs (n/4294967296)with
    |nil=>exact absurd (ga.1 hd) c
    |cons a l=>rw[hd]at b;simpa[List.getLast?_cons_cons]using b
def G8{xs:List Nat}(h:Wd xs)(c:Nz xs):digs (val xs)=xs:=by
 induction xs with
 |nil=>simp[val,aG]
 |cons x xs g=>
  have m:=h.head;have k:val (x::xs)≠0:=by
   intro h0;simp only[val]at h0;have f:x=0:=by omega
   have e:val xs=0:=by omega
   by_cases d:xs=[]
   ·subst d;subst f;exact c rfl
   ·have b:Nz xs:=by
     unfold Nz at c ⊢;cases xs with
     |nil=>exact absurd rfl d
     |cons a l=>simpa[List.getLast?_cons_cons]using c
    have:=g h.tail b;rw[e,aG]at this;exact d this.symm
  have b:Nz xs:=by
   unfold Nz at c ⊢;cases xs with
   |nil=>simp
   |cons a l=>simpa[List.getLast?_cons_cons]using c
  rw[f4 k];simp only[val];have i:(x+4294967296*val xs)%4294967296=x:=by omega
  have j:(x+4294967296*val xs)/4294967296=val xs:=by omega
  rw[i,j,g h.tail b]
def trim(xs:List Nat):List Nat:=digs (val xs)
def uV(xs:List Nat):val (xs++[0])=val xs:=by rw[bV];simp[val]
def tp(xs:List Nat):trim (xs++[0])=trim xs:=by unfold trim;rw[uV]
def A2{xs:List Nat}(h:Wd xs)(a:Nz xs):trim xs=xs:=G8 h a
def c6(xs:List Nat):val (trim xs)=val xs:=ae _
def ER(n:Nat):trim (digs n)=digs n:=by unfold trim;rw[ae]
def aL{n k:Nat}(h:n<4294967296^k):(digs n).length<=k:=by
 induction k generalizing n with
 |zero=>simp at h;subst h;rw[aG];simp
 |succ k a=>
  by_cases h0:n=0
  ·subst h0;rw[aG];simp
  ·rw[f4 h0];have:n/4294967296<4294967296^k:=by rw[Nat.div_lt_iff_lt_mul (by omega)];rw[Nat.pow_succ]at h;exact h
   have:=a this;simp;omega
def bJ{xs:List Nat}(h:Wd xs):(trim xs).length<=xs.length:=aL (fQ h)
def bE{n k:Nat}(h:(digs n).length<=k):n<4294967296^k:=by have a:=fQ (ab n);rw[ae]at a;exact Nat.lt_of_lt_of_le a (Nat.pow_le_pow_right (by omega) h)
def kl{xs:List Nat}(h:Wd xs):xs.take (trim xs).length=trim xs/\ ∀i,(trim xs).length<=i->xs.getD i 0=0:=by
 induction xs with
 |nil=>constructor <;>simp[trim,val,aG]
 |cons x xs e=>
  obtain⟨d,c⟩:=e h.tail;have f:=h.head;unfold trim at *
  simp only[val];by_cases h0:x+4294967296*val xs=0
  ·have a:x=0:=by omega
   have b:val xs=0:=by omega
   rw[h0,aG];rw[b,aG]at c;refine⟨rfl,fun i _=>?_⟩;cases i with
   |zero=>simpa using a
   |succ i=>simpa using c i (by simp)
  ·rw[f4 h0];have a:(x+4294967296*val xs)%4294967296=x:=by omega
   have b:(x+4294967296*val xs)/4294967296=val xs:=by omega
   rw[a,b];refine⟨by simp[d],fun i hi=>?_⟩;cases i with
   |zero=>simp at hi
   |succ i=>simpa using c i (by simpa using hi)
def bG(a b:Int):Int:=if a<b then -1 else if b<a then 1 else 0
def iQ(xs ys:List Nat):Int:=if xs.length=ys.length then bG (val xs) (val ys)else bG xs.length ys.length
def ai(xs:List Nat)(i:Nat):val (xs.take (i+1))=val (xs.take i)+4294967296^i*xs.getD i 0:=by
 by_cases h:i<xs.length
 ·rw[List.take_succ_eq_append_getElem h,bV,List.length_take,Nat.min_eq_left (by omega),List.getD_eq_getElem?_getD,List.getElem?_eq_getElem h];simp[val]
 ·rw[List.take_of_length_le (by omega),List.take_of_length_le (by omega),List.getD_eq_getElem?_getD,List.getElem?_eq_none (by omega)];simp
def pu(xs:List Nat)(k:Nat)(h:k<=xs.length):val xs=val (xs.take k)+4294967296^k*val (xs.drop k):=by have:=bV (xs.take k) (xs.drop k);rw[List.take_append_drop,List.length_take,Nat.min_eq_left h]at this;exact this
def kq{xs:List Nat}{k:Nat}(h:val xs<4294967296^k):val (xs.take k)=val xs:=by
 by_cases b:k<=xs.length
 ·have a:=pu xs k b;rcases Nat.eq_zero_or_pos (val (xs.drop k))with h0|h0
  ·rw[a,h0];simp
  ·have:=Nat.mul_le_mul_left (4294967296^k) h0;omega
 ·rw[List.take_of_length_le (by omega)]
def ff{xs:List Nat}(b:Wd xs)(k:Nat):val (xs.take k)<4294967296^k:=by have a:=fQ (b.take k);refine Nat.lt_of_lt_of_le a (Nat.pow_le_pow_right (by omega) ?_);rw[List.length_take];omega
def bQ(xs:List Nat)(k:Nat)(b:0<k)(h:k<=xs.length):xs.drop (k-1)=xs.getD (k-1) 0::xs.drop k:=by
 have a:k-1<xs.length:=by omega
 rw[List.drop_eq_getElem_cons a,List.getD_eq_getElem?_getD,List.getElem?_eq_getElem a];simp[show k-1+1=k by omega]
def l8{xs ys:List Nat}(f:Wd xs){k:Nat}(a:0<k)(b:k<=xs.length)(c:k<=ys.length)(d:xs.drop k=ys.drop k)(e:xs.getD (k-1) 0<ys.getD (k-1) 0):val xs<val ys:=by
 rw[pu xs (k-1) (by omega),pu ys (k-1) (by omega),bQ xs k a b,bQ ys k a c,<- d];simp only[val];have g:=ff f (k-1);have h:4294967296^(k-1)*(xs.getD (k-1) 0+1+4294967296*val (xs.drop k))<=4294967296^(k-1)*(ys.getD (k-1) 0+4294967296*val (xs.drop k)):=
  Nat.mul_le_mul_left _ (by omega)
 have i:4294967296^(k-1)*(xs.getD (k-1) 0+1+4294967296*val (xs.drop k))=4294967296^(k-1)*(xs.getD (k-1) 0+4294967296*val (xs.drop k))+4294967296^(k-1):=by rw[show xs.getD (k-1) 0+1+4294967296*val (xs.drop k)=(xs.getD (k-1) 0+4294967296*val (xs.drop k))+1 by omega,Nat.mul_add,Nat.mul_one]
 omega
def fU{a b:Int}(h:a<b):bG a b= -1:=by unfold bG;rw[if_pos h]
def j0{a b:Int}(h:b<a):bG a b=1:=by unfold bG;rw[if_neg (by omega),if_pos h]
def Eh(a:Int):bG a a=0:=by unfold bG;simp
def gV(a b:Nat):iQ (digs a) (digs b)=bG a b:=by
 have c:∀a b:Nat,(digs a).length<(digs b).length->a<b:=by
  intro a b h;rcases Nat.lt_or_ge a b with d|d
  ·exact d
  ·exfalso;have g:=bE (n:=a) (Nat.le_refl (digs a).length);have i:=aL (n:=b) (k:=(digs a).length) (by omega);omega
 unfold iQ;rw[ae,ae];split
 ·rfl
 ·rename_i f;rcases Nat.lt_or_ge (digs a).length (digs b).length with h|h
  ·rw[fU (by omega),fU (by have:=c a b h;omega)]
  ·have e:(digs b).length<(digs a).length:=by omega
   rw[j0 (by omega),j0 (by have:=c b a e;omega)]
def Ea{xs ys:List Nat}(b:Wd xs)(c:Wd ys)(a:xs.length=ys.length)(h:val xs=val ys):xs=ys:=by
 induction xs generalizing ys with
 |nil=>cases ys with
  |nil=>rfl
  |cons y ys=>simp at a
 |cons x xs d=>
  cases ys with
  |nil=>simp at a
  |cons y ys=>simp only[val]at h;have e:=b.head;have f:=c.head;rw[show x=y by omega,d b.tail c.tail (by simpa using a) (by omega)]
def oE{xs ys:List Nat}(b:Wd xs)(c:Wd ys):iQ xs ys=0↔xs=ys:=by
 constructor
 ·intro h;unfold iQ bG at h;split at h
  ·rename_i a;refine Ea b c a ?_;split at h
   ·omega
   ·split at h<;>omega
  ·exfalso;split at h
   ·omega
   ·split at h<;>omega
 ·rintro rfl;unfold iQ;rw[if_pos rfl,Eh]
def iK(zs:List Nat)(i x:Nat)(h:i<zs.length):val (zs.set i x)+4294967296^i*zs.getD i 0=val zs+4294967296^i*x:=by
 induction zs generalizing i with
 |nil=>simp at h
 |cons z zs c=>
  cases i with
  |zero=>simp[val];omega
  |succ i=>
   have:=c i (by simpa using h);simp only[List.set_cons_succ,val,List.getD_cons_succ,Nat.pow_succ];have a:4294967296^i*4294967296*zs.getD i 0=4294967296*(4294967296^i*zs.getD i 0):=by rw[Nat.mul_comm (4294967296^i),Nat.mul_assoc]
   have b:4294967296^i*4294967296*x=4294967296*(4294967296^i*x):=by rw[Nat.mul_comm (4294967296^i),Nat.mul_assoc]
   rw[a,b];omega
def bf(n:Nat):val (List.replicate n 0)=0:=by
 induction n with
 |zero=>rfl
 |succ n a=>rw[List.replicate_succ,val,a]
def aV(n i:Nat):(List.replicate n 0).getD i 0=0:=by rw[List.getD_eq_getElem?_getD,List.getElem?_replicate];split <;>rfl
def getD_set_ne{zs:List Nat}{i j x:Nat}(h:i≠j):(zs.set i x).getD j 0=zs.getD j 0:=by rw[List.getD_eq_getElem?_getD,List.getD_eq_getElem?_getD,List.getElem?_set_ne h]
def eg{zs:List Nat}{i x:Nat}(h:i<zs.length):(zs.set i x).getD i 0=x:=by rw[List.getD_eq_getElem?_getD,List.getElem?_set_self h];rfl
def aY(i:Nat):4294967296^(i+1)=4294967296*4294967296^i:=by rw[Nat.pow_succ,Nat.mul_comm]
def vz{xs ys zs:List Nat}{i c:Nat}(b:zs.length=i)(h:val zs+4294967296^i*c=val (xs.take i)+val (ys.take i)):
 val (zs++[(c+xs.getD i 0+ys.getD i 0)%4294967296])+4294967296^(i+1)*((c+xs.getD i 0+ys.getD i 0)/4294967296)=val (xs.take (i+1))+val (ys.take (i+1)):=by
 rw[bV,b,ai,ai,aY];generalize a:c+xs.getD i 0+ys.getD i 0=t;have e:t=t%4294967296+4294967296*(t/4294967296):=by omega
 have d:4294967296^i*t=4294967296^i*(t%4294967296)+4294967296*4294967296^i*(t/4294967296):=by exact Su
 have f:4294967296^i*t=4294967296^i*c+4294967296^i*xs.getD i 0+4294967296^i*ys.getD i 0:=by rw[<- a,Nat.mul_add,Nat.mul_add]
 simp only[val,Nat.mul_zero,Nat.add_zero];omega
def JA{xs ys zs:List Nat}{i c:Nat}(hi:i<zs.length)(d:zs.getD i 0=0)(h:val zs+4294967296^i*c=val (xs.take i)+val (ys.take i)):
 val (zs.set i ((c+xs.getD i 0+ys.getD i 0)%4294967296))+4294967296^(i+1)*((c+xs.getD i 0+ys.getD i 0)/4294967296)=val (xs.take (i+1))+val (ys.take (i+1)):=by
 have a:=iK zs i ((c+xs.getD i 0+ys.getD i 0)%4294967296) hi;rw[d]at a;rw[ai,ai,aY];generalize b:c+xs.getD i 0+ys.getD i 0=t at *;have e:t=t%4294967296+4294967296*(t/4294967296):=by omega
 have f:4294967296^i*t=4294967296^i*(t%4294967296)+4294967296*4294967296^i*(t/4294967296):=by exact Su
 have g:4294967296^i*t=4294967296^i*c+4294967296^i*xs.getD i 0+4294967296^i*ys.getD i 0:=by rw[<- b,Nat.mul_add,Nat.mul_add]
 omega
def Jc{zs:List Nat}{i c V:Nat}(hi:i<zs.length)(b:zs.getD i 0=0)(h:val zs+4294967296^i*c=V):val (zs.set i c)=V:=by have a:=iK zs i c hi;rw[b]at a;omega
def CA{xs ys zs:List Nat}{i b d b':Nat}(hi:i<zs.length)(f:zs.getD i 0=0)(h0:val zs+val (ys.take i)=val (xs.take i)+4294967296^i*b)(a:d+ys.getD i 0+b=xs.getD i 0+4294967296*b'):
 val (zs.set i d)+val (ys.take (i+1))=val (xs.take (i+1))+4294967296^(i+1)*b':=by
 have c:=iK zs i d hi;rw[f]at c;rw[ai,ai,aY];have e:=congrArg (fun t=>4294967296^i*t) a;simp only[Nat.mul_add]at e;have g:4294967296^i*(4294967296*b')=4294967296*4294967296^i*b':=by rw[<- Nat.mul_assoc,Nat.mul_comm (4294967296^i)]
 omega
def pM{xs ys zs:List Nat}{n b:Nat}(f:Wd zs)(e:zs.length=n)(c:xs.length=n)(l:val ys<=val xs)(d:Wd xs)(h:val zs+val (ys.take n)=val (xs.take n)+4294967296^n*b):val zs=val xs-val ys:=by
 have g:=fQ d;rw[c]at g;have i:val (ys.take n)=val ys:=kq (by omega);have j:xs.take n=xs:=List.take_of_length_le (by omega);have k:=fQ f;rw[e]at k;rw[i,j]at h;rcases Nat.eq_zero_or_pos b with a|a
 ·subst a;omega
 ·have:=Nat.mul_le_mul_left (4294967296^n) a;omega
def qv{zs ys:List Nat}{i k c x V:Nat}(a:i+k<zs.length)(h:val zs+4294967296^(i+k)*c=V+4294967296^i*(x*val (ys.take k))):
 val (zs.set (i+k) ((c+x*ys.getD k 0+zs.getD (i+k) 0)%4294967296))+4294967296^(i+k+1)*((c+x*ys.getD k 0+zs.getD (i+k) 0)/4294967296)=V+4294967296^i*(x*val (ys.take (k+1))):=by
 generalize b:c+x*ys.getD k 0+zs.getD (i+k) 0=t;have j:=iK zs (i+k) (t%4294967296) a;rw[ai,aY];have e:t=t%4294967296+4294967296*(t/4294967296):=by omega
 have d:4294967296^(i+k)*t=4294967296^(i+k)*(t%4294967296)+4294967296*4294967296^(i+k)*(t/4294967296):=by
  conv=>lhs;rw[e]
  rw[Nat.mul_add];congr 1;rw[Nat.mul_comm 4294967296 (4294967296^(i+k)),Nat.mul_assoc]
 have f:4294967296^(i+k)*t=4294967296^(i+k)*c+4294967296^(i+k)*(x*ys.getD k 0)+4294967296^(i+k)*zs.getD (i+k) 0:=by rw[<- b,Nat.mul_add,Nat.mul_add]
 have g:4294967296^i*(x*(val (ys.take k)+4294967296^k*ys.getD k 0))=4294967296^i*(x*val (ys.take k))+4294967296^(i+k)*(x*ys.getD k 0):=by rw[Nat.pow_add,Nat.mul_add,Nat.mul_add];congr 1;rw[Nat.mul_left_comm x (4294967296^k) (ys.getD k 0),<- Nat.mul_assoc (4294967296^i) (4294967296^k)]
 omega
def zM{zs xs ys:List Nat}{i c:Nat}(hi:i+ys.length<zs.length)(b:zs.getD (i+ys.length) 0=0)(h:val zs+4294967296^(i+ys.length)*c=val (xs.take i)*val ys+4294967296^i*(xs.getD i 0*val (ys.take ys.length))):
 val (zs.set (i+ys.length) c)=val (xs.take (i+1))*val ys:=by
 have a:=iK zs (i+ys.length) c hi;rw[b]at a;rw[List.take_of_length_le (Nat.le_refl _)]at h;rw[ai,Nat.add_mul];have e:4294967296^i*(xs.getD i 0*val ys)=4294967296^i*xs.getD i 0*val ys:=by rw[Nat.mul_assoc]
 omega
def vT{x y z c:Nat}(b:x<4294967296)(d:y<4294967296)(e:z<4294967296)(a:c<4294967296):c+x*y+z<18446744073709551616/\(c+x*y+z)/4294967296<4294967296:=by have h:x*y<=4294967295*4294967295:=Nat.mul_le_mul (by omega) (by omega);omega
structure AN (U V q hi nx u2 u1 u0 W lu lv:Nat):Prop where
 hu:U=lu+W*(u0+4294967296*u1+18446744073709551616*u2)
 hv:V=lv+W*(nx+4294967296*hi)
 hlu:lu<W
 hlv:lv<W
 hq:q=U/V
 hlt:U<V*4294967296
 hhi:2147483648<=hi
 hhi2:hi<4294967296
 hnx:nx<4294967296
 hu0:u0<4294967296
 hu1:u1<4294967296
section
variable {U V q hi nx u2 u1 u0 W lu lv:Nat}
def AN.vpos(h:AN U V q hi nx u2 u1 u0 W lu lv):0<V:=by have a:=h.hv;have b:=h.hlv;have c:=h.hhi;have:W*1<=W*(nx+4294967296*hi):=Nat.mul_le_mul_left _ (by omega);omega
def AN.qlt(h:AN U V q hi nx u2 u1 u0 W lu lv):q<4294967296:=by rw[h.hq];exact(Nat.div_lt_iff_lt_mul h.vpos).2 (by rw[Nat.mul_comm];exact h.hlt)
def AN.u2le(h:AN U V q hi nx u2 u1 u0 W lu lv):u2<=hi:=by
 rcases Nat.lt_or_ge hi u2 with a|a
 ·exfalso;have b:=h.hu;have c:=h.hv;have d:=h.hlt;have e:=h.hlv;have f:W*(18446744073709551616*(hi+1))<=W*(u0+4294967296*u1+18446744073709551616*u2):=Nat.mul_le_mul_left _ (by omega);have g:W*(nx+4294967296*hi)<=W*(4294967295+4294967296*hi):=Nat.mul_le_mul_left _ (by have:=h.hnx;omega);have i:W*(18446744073709551616*(hi+1))=4294967296*(W*(4294967295+4294967296*hi))+4294967296*W:=by grind
  omega
 ·exact a
def AN.less(h:AN U V q hi nx u2 u1 u0 W lu lv){d r:Nat}(g:d*hi+r=u2*4294967296+u1)(a:4294967296<=d∨r*4294967296+u0<d*nx):q<d:=by
 rcases a with a|a
 ·have:=h.qlt;omega
 ·rw[h.hq];refine(Nat.div_lt_iff_lt_mul h.vpos).2 ?_;rw[h.hu,h.hv];have b:d*(nx+4294967296*hi)=d*nx+4294967296*(d*hi):=by grind
  have c:u0+4294967296*u1+18446744073709551616*u2+1<=d*(nx+4294967296*hi):=by rw[b];omega
  have e:=Nat.mul_le_mul_left W c;have f:d*(lv+W*(nx+4294967296*hi))=d*lv+W*(d*(nx+4294967296*hi)):=by grind
  rw[f];rw[Nat.mul_add W _ 1,Nat.mul_one]at e;have:=h.hlu;omega
def AN.close(h:AN U V q hi nx u2 u1 u0 W lu lv){d r:Nat}(o:d*hi+r=u2*4294967296+u1)(m:d<4294967296)(p:q<=d)(n:d*nx<=r*4294967296+u0):d=q∨d=q+1:=by
 have:d<=q+1:=by
  rcases Nat.eq_zero_or_pos d with h0|h0
  ·omega
  ·have l:d-1<=q:=by
    rw[h.hq];refine(Nat.le_div_iff_mul_le h.vpos).2 ?_;rw[h.hu,h.hv];obtain⟨e,rfl⟩:∃e,d=e+1:=⟨d-1,by omega⟩;rw[Nat.add_sub_cancel];have b:(e+1)*(nx+4294967296*hi)=(e+1)*nx+4294967296*((e+1)*hi):=by grind
    have c:(e+1)*(nx+4294967296*hi)<=u0+4294967296*u1+18446744073709551616*u2:=by rw[b];omega
    have f:=Nat.mul_le_mul_left W c;have a:e<=nx+4294967296*hi:=by have:=h.hhi;omega
    have g:e*(lv+W*(nx+4294967296*hi))<=e*(W+W*(nx+4294967296*hi)):=Nat.mul_le_mul_left _ (by have:=h.hlv;omega);have i:e*(W+W*(nx+4294967296*hi))=W*e+W*(e*(nx+4294967296*hi)):=by grind
    have j:W*e<=W*(nx+4294967296*hi):=Nat.mul_le_mul_left _ a;have k:W*((e+1)*(nx+4294967296*hi))=W*(e*(nx+4294967296*hi))+W*(nx+4294967296*hi):=by grind
    omega
   omega
 omega
def AN.far(h:AN U V q hi nx u2 u1 u0 W lu lv){d r:Nat}(i:d*hi+r=u2*4294967296+u1)(j:4294967296<=r):d<4294967296/\d*nx<=r*4294967296+u0:=by
 have c:=h.u2le;have e:=h.hu1;have b:d<4294967296:=by
  rcases Nat.lt_or_ge d 4294967296 with a|a
  ·exact a
  ·have f:=Nat.mul_le_mul_right hi a;have g:=Nat.mul_le_mul_right 4294967296 c;omega
 refine⟨b,?_⟩;have a:d*nx<=4294967295*4294967295:=Nat.mul_le_mul (by omega) (by have:=h.hnx;omega);omega
def AN.begin(h:AN U V q hi nx u2 u1 u0 W lu lv):q<=(u2*4294967296+u1)/hi:=by
 have i:=h.hhi;rw[Nat.le_div_iff_mul_le (by omega),h.hq];have e0:=Nat.div_mul_le_self U V;generalize U/V=t at *;have b:=h.hu;have c:=h.hv;have d:t*V=t*lv+W*(t*(nx+4294967296*hi)):=by rw[c];grind
 rw[d,b]at e0;rcases Nat.lt_or_ge (u2*4294967296+u1) (t*hi)with a|a
 ·exfalso;have e:t*(nx+4294967296*hi)=t*nx+4294967296*(t*hi):=by grind
  have f:u0+4294967296*u1+18446744073709551616*u2+1<=t*(nx+4294967296*hi):=by rw[e];have:=h.hu0;omega
  have g:=Nat.mul_le_mul_left W f;rw[Nat.mul_add W _ 1,Nat.mul_one]at g;have:=h.hlu;omega
 ·exact a
end
def zc{pre us us' post qs:List Nat}{V U0 q:Nat}(e:Wd pre)(_hpost:val post=0)(j:q=val us/V)(h:0<V)(hi:pre.length<qs.length)(a:val (pre++us++post)+V*4294967296^(pre.length+1)*val (qs.drop (pre.length+1))=U0)(k:val us'=val us-V*q):
 val (pre++us'++post)<V*4294967296^pre.length/\val (pre++us'++post)+V*4294967296^pre.length*val ((qs.set pre.length q).drop pre.length)=U0:=by
 have f:=bQ (qs.set pre.length q) (pre.length+1) (Nat.succ_pos _) (by rw[List.length_set];omega);have c:(qs.set pre.length q).drop (pre.length+1)=qs.drop (pre.length+1):=List.drop_set_of_lt (by omega);rw[Nat.add_sub_cancel,eg hi,c]at f;rw[f];simp only[bV,_hpost,Nat.mul_zero,Nat.add_zero,val]at *
 have n:=fQ e;have b:=Nat.div_add_mod (val us) V;have i:=Nat.mod_lt (val us) h;rw[<- j]at b;generalize val us%V=R at *;have d:val us'=R:=by omega
 rw[aY]at a;rw[d];generalize 4294967296^pre.length=B at *;generalize val (qs.drop (pre.length+1))=Q at *;rw[<- b]at a;constructor
 ·have g:B*(R+1)<=B*V:=Nat.mul_le_mul_left _ i;rw[Nat.mul_comm V B];rw[Nat.mul_add,Nat.mul_one]at g;omega
 ·rw[<- a];have l:B*(V*q+R)=B*(V*q)+B*R:=Nat.mul_add _ _ _;have m:V*B*(q+4294967296*Q)=B*(V*q)+V*(4294967296*B)*Q:=by grind
  omega
def BV{pre us post:List Nat}{V:Nat}(c:val post=0)(b:val (pre++us++post)<V*4294967296^(pre.length+1)):val us<V*4294967296:=by
 simp only[bV,c,Nat.mul_zero,Nat.add_zero]at b;rw[aY]at b;have e:V*(4294967296*4294967296^pre.length)=4294967296^pre.length*(V*4294967296):=by grind
 rw[e]at b;exact Nat.lt_of_mul_lt_mul_left (a:=4294967296^pre.length) (by omega)
end Go.Proofs.YtnchbpoopnjghaaGreatDoor
