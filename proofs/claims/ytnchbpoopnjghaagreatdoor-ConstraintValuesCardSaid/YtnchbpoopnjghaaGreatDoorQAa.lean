/- Plain laws on lists of words: comparison, sums, differences, products. No program in sight. Newton's square root: the plain law. The arithmetic of the division of long numbers (no program in sight). -/
import Derived.Test.YtnchbpoopnjghaaGreatDoorQK
set_option maxHeartbeats 100000000
set_option linter.all false
namespace Go.Proofs.YtnchbpoopnjghaaGreatDoor
def val:List Nat->Nat
 | []=>0
 |x::xs=>x+4294967296*val xs
def Wd (xs:List Nat):Prop:=∀x∈xs,x<4294967296
theorem Wd.nil:Wd []:=by intro x h;cases h
theorem Wd.cons {x:Nat} {xs:List Nat} (h:x<4294967296) (hs:Wd xs):Wd (x::xs):=by
 intro y hy;rcases List.mem_cons.1 hy with rfl|h'
 ·exact h
 ·exact hs _ h'
theorem Wd.head {x:Nat} {xs:List Nat} (h:Wd (x::xs)):x<4294967296:=h x (by simp)
theorem Wd.tail {x:Nat} {xs:List Nat} (h:Wd (x::xs)):Wd xs:=fun y hy=>h y (by simp[hy])
theorem Wd.append {xs ys:List Nat} (h:Wd xs) (h':Wd ys):Wd (xs++ys):=by
 intro y hy;rcases List.mem_append.1 hy with h1|h1
 ·exact h _ h1
 ·exact h' _ h1
theorem Wd.take {xs:List Nat} (h:Wd xs) (n:Nat):Wd (xs.take n):=fun y hy=>h y (List.mem_of_mem_take hy)
theorem Wd.drop {xs:List Nat} (h:Wd xs) (n:Nat):Wd (xs.drop n):=fun y hy=>h y (List.mem_of_mem_drop hy)
theorem Wd.at {xs:List Nat} (h:Wd xs) {i x:Nat} (hi:xs[i]? =some x):x<4294967296:=h x (List.mem_of_getElem? hi)
theorem Wd.getD {xs:List Nat} (h:Wd xs) (i:Nat):xs.getD i 0<4294967296:=by
 rw[List.getD_eq_getElem?_getD];cases hx:xs[i]? with
 |none=>simp
 |some x=>simpa using h.at hx
theorem cu (xs ys:List Nat):val (xs++ys)=val xs+4294967296^xs.length*val ys:=by
 induction xs with
 |nil=>simp[val]
 |cons x xs ih=>simp only[List.cons_append,val,ih,List.length_cons,Nat.pow_succ];grind
theorem fq {xs:List Nat} (h:Wd xs):val xs<4294967296^xs.length:=by
 induction xs with
 |nil=>simp[val]
 |cons x xs ih=>
  have h1:=ih h.tail;have h2:=h.head
  simp only[val,List.length_cons,Nat.pow_succ]
  omega
def digs (n:Nat):List Nat:=if h:n=0 then []else n%4294967296::digs (n/4294967296)
termination_by n
decreasing_by omega
theorem aK:digs 0=[]:=by rw[digs];simp
theorem fV {n:Nat} (h:n≠0):digs n=n%4294967296::digs (n/4294967296):=by rw[digs];simp[h]
theorem ah (n:Nat):val (digs n)=n:=by
 induction n using Nat.strongRecOn with
 |_ n ih=>
  by_cases h:n=0
  ·subst h;rw[aK];rfl
  ·rw[fV h,val,ih _ (by omega)];omega
theorem ae (n:Nat):Wd (digs n):=by
 induction n using Nat.strongRecOn with
 |_ n ih=>
  by_cases h:n=0
  ·subst h;rw[aK];exact Wd.nil
  ·rw[fV h];exact Wd.cons (by omega) (ih _ (by omega))
theorem fU {n:Nat}:digs n=[]↔n=0:=by
 constructor
 ·intro h;have:=ah n;rw[h]at this;simpa[val]using this.symm
 ·rintro rfl;exact aK
def Nz (xs:List Nat):Prop:=xs.getLast? ≠some 0
theorem wm (n:Nat):Nz (digs n):=by
 induction n using Nat.strongRecOn with
 |_ n ih=>
  by_cases h:n=0
  ·subst h;rw[aK];simp[Nz]
  ·rw[fV h]
   unfold Nz
   by_cases h2:n/4294967296=0
   ·rw[h2,aK];simp;omega
   ·have h3:=ih _ (show n/4294967296<n by omega)
    unfold Nz at h3;cases hd:digs (n/4294967296)with
    |nil=>exact absurd (fU.1 hd) h2
    |cons a l=>rw[hd]at h3;simpa[List.getLast?_cons_cons]using h3
theorem JU {xs:List Nat} (h:Wd xs) (hz:Nz xs):digs (val xs)=xs:=by
 induction xs with
 |nil=>simp[val,aK]
 |cons x xs ih=>
  have hx:=h.head
  have hv:val (x::xs)≠0:=by
   intro h0
   simp only[val]at h0
   have hx0:x=0:=by omega
   have hv0:val xs=0:=by omega
   by_cases hn:xs=[]
   ·subst hn;subst hx0;exact hz rfl
   ·have hz':Nz xs:=by
     unfold Nz at hz ⊢;cases xs with
     |nil=>exact absurd rfl hn
     |cons a l=>simpa[List.getLast?_cons_cons]using hz
    have:=ih h.tail hz';rw[hv0,aK]at this;exact hn this.symm
  have hz':Nz xs:=by
   unfold Nz at hz ⊢;cases xs with
   |nil=>simp
   |cons a l=>simpa[List.getLast?_cons_cons]using hz
  rw[fV hv]
  simp only[val]
  have e1:(x+4294967296*val xs)%4294967296=x:=by omega
  have e2:(x+4294967296*val xs)/4294967296=val xs:=by omega
  rw[e1,e2,ih h.tail hz']
def trim (xs:List Nat):List Nat:=digs (val xs)
theorem uO (xs:List Nat):val (xs++[0])=val xs:=by rw[cu];simp[val]
theorem ry (xs:List Nat):trim (xs++[0])=trim xs:=by unfold trim;rw[uO]
theorem BS {xs:List Nat} (h:Wd xs) (hz:Nz xs):trim xs=xs:=JU h hz
theorem dm (xs:List Nat):val (trim xs)=val xs:=ah _
theorem GD (n:Nat):trim (digs n)=digs n:=by unfold trim;rw[ah]
theorem aS {n k:Nat} (h:n<4294967296^k):(digs n).length<=k:=by
 induction k generalizing n with
 |zero=>simp at h;subst h;rw[aK];simp
 |succ k ih=>
  by_cases h0:n=0
  ·subst h0;rw[aK];simp
  ·rw[fV h0]
   have:n/4294967296<4294967296^k:=by
    rw[Nat.div_lt_iff_lt_mul (by omega)];rw[Nat.pow_succ]at h;exact h
   have:=ih this
   simp;omega
theorem bR {xs:List Nat} (h:Wd xs):(trim xs).length<=xs.length:=aS (fq h)
theorem bX {n k:Nat} (h:(digs n).length<=k):n<4294967296^k:=by
 have h1:=fq (ae n);rw[ah]at h1;exact Nat.lt_of_lt_of_le h1 (Nat.pow_le_pow_right (by omega) h)
theorem kb {xs:List Nat} (h:Wd xs):xs.take (trim xs).length=trim xs/\ ∀i,(trim xs).length<=i->xs.getD i 0=0:=by
 induction xs with
 |nil=>constructor <;>simp[trim,val,aK]
 |cons x xs ih=>
  obtain⟨h1,h2⟩:=ih h.tail;have hx:=h.head;unfold trim at *
  simp only[val]
  by_cases h0:x+4294967296*val xs=0
  ·have e1:x=0:=by omega
   have e2:val xs=0:=by omega
   rw[h0,aK];rw[e2,aK]at h2;refine⟨rfl,fun i _=>?_⟩;cases i with
   |zero=>simpa using e1
   |succ i=>simpa using h2 i (by simp)
  ·rw[fV h0]
   have e1:(x+4294967296*val xs)%4294967296=x:=by omega
   have e2:(x+4294967296*val xs)/4294967296=val xs:=by omega
   rw[e1,e2];refine⟨by simp[h1],fun i hi=>?_⟩;cases i with
   |zero=>simp at hi
   |succ i=>simpa using h2 i (by simpa using hi)
def bQ (a b:Int):Int:=if a<b then -1 else if b<a then 1 else 0
def iB (xs ys:List Nat):Int:=if xs.length=ys.length then bQ (val xs) (val ys)else bQ xs.length ys.length
theorem an (xs:List Nat) (i:Nat):val (xs.take (i+1))=val (xs.take i)+4294967296^i*xs.getD i 0:=by
 by_cases h:i<xs.length
 ·rw[List.take_succ_eq_append_getElem h,cu,List.length_take,Nat.min_eq_left (by omega),List.getD_eq_getElem?_getD,List.getElem?_eq_getElem h]
  simp[val]
 ·rw[List.take_of_length_le (by omega),List.take_of_length_le (by omega),List.getD_eq_getElem?_getD,List.getElem?_eq_none (by omega)]
  simp
theorem pi (xs:List Nat) (k:Nat) (h:k<=xs.length):val xs=val (xs.take k)+4294967296^k*val (xs.drop k):=by
 have:=cu (xs.take k) (xs.drop k);rw[List.take_append_drop,List.length_take,Nat.min_eq_left h]at this;exact this
theorem kz {xs:List Nat} {k:Nat} (h:val xs<4294967296^k):val (xs.take k)=val xs:=by
 by_cases hk:k<=xs.length
 ·have h1:=pi xs k hk
  rcases Nat.eq_zero_or_pos (val (xs.drop k))with h0|h0
  ·rw[h1,h0];simp
  ·have:=Nat.mul_le_mul_left (4294967296^k) h0
   omega
 ·rw[List.take_of_length_le (by omega)]
theorem fc {xs:List Nat} (hw:Wd xs) (k:Nat):val (xs.take k)<4294967296^k:=by
 have h1:=fq (hw.take k);refine Nat.lt_of_lt_of_le h1 (Nat.pow_le_pow_right (by omega) ?_);rw[List.length_take];omega
theorem cg (xs:List Nat) (k:Nat) (hk:0<k) (h:k<=xs.length):xs.drop (k-1)=xs.getD (k-1) 0::xs.drop k:=by
 have h1:k-1<xs.length:=by omega
 rw[List.drop_eq_getElem_cons h1,List.getD_eq_getElem?_getD,List.getElem?_eq_getElem h1]
 simp[show k-1+1=k by omega]
theorem lT {xs ys:List Nat} (hx:Wd xs) {k:Nat} (hk:0<k) (h1:k<=xs.length) (h2:k<=ys.length) (hd:xs.drop k=ys.drop k)
 (hlt:xs.getD (k-1) 0<ys.getD (k-1) 0):val xs<val ys:=by
 rw[pi xs (k-1) (by omega),pi ys (k-1) (by omega),cg xs k hk h1,cg ys k hk h2,<- hd]
 simp only[val]
 have h3:=fc hx (k-1)
 have h4:4294967296^(k-1)*(xs.getD (k-1) 0+1+4294967296*val (xs.drop k))<=4294967296^(k-1)*(ys.getD (k-1) 0+4294967296*val (xs.drop k)):=
  Nat.mul_le_mul_left _ (by omega)
 have h5:4294967296^(k-1)*(xs.getD (k-1) 0+1+4294967296*val (xs.drop k))=4294967296^(k-1)*(xs.getD (k-1) 0+4294967296*val (xs.drop k))+4294967296^(k-1):=by
  rw[show xs.getD (k-1) 0+1+4294967296*val (xs.drop k)=(xs.getD (k-1) 0+4294967296*val (xs.drop k))+1 by omega,Nat.mul_add,Nat.mul_one]
 omega
theorem fR {a b:Int} (h:a<b):bQ a b= -1:=by unfold bQ;rw[if_pos h]
theorem jv {a b:Int} (h:b<a):bQ a b=1:=by unfold bQ;rw[if_neg (by omega),if_pos h]
theorem Dh (a:Int):bQ a a=0:=by unfold bQ;simp
theorem gD (a b:Nat):iB (digs a) (digs b)=bQ a b:=by
 have key:∀a b:Nat,(digs a).length<(digs b).length->a<b:=by
  intro a b h;rcases Nat.lt_or_ge a b with h1|h1
  ·exact h1
  ·exfalso
   have h2:=bX (n:=a) (Nat.le_refl (digs a).length);have h3:=aS (n:=b) (k:=(digs a).length) (by omega);omega
 unfold iB;rw[ah,ah]
 split
 ·rfl
 ·rename_i hne
  rcases Nat.lt_or_ge (digs a).length (digs b).length with h|h
  ·rw[fR (by omega),fR (by have:=key a b h;omega)]
  ·have h':(digs b).length<(digs a).length:=by omega
   rw[jv (by omega),jv (by have:=key b a h';omega)]
theorem Dy {xs ys:List Nat} (hx:Wd xs) (hy:Wd ys) (hl:xs.length=ys.length) (h:val xs=val ys):xs=ys:=by
 induction xs generalizing ys with
 |nil=>cases ys with
  |nil=>rfl
  |cons y ys=>simp at hl
 |cons x xs ih=>
  cases ys with
  |nil=>simp at hl
  |cons y ys=>
   simp only[val]at h
   have h1:=hx.head;have h2:=hy.head;rw[show x=y by omega,ih hx.tail hy.tail (by simpa using hl) (by omega)]
theorem mW {xs ys:List Nat} (hx:Wd xs) (hy:Wd ys):iB xs ys=0↔xs=ys:=by
 constructor
 ·intro h
  unfold iB bQ at h
  split at h
  ·rename_i hl
   refine Dy hx hy hl ?_
   split at h
   ·omega
   ·split at h<;>omega
  ·exfalso
   split at h
   ·omega
   ·split at h<;>omega
 ·rintro rfl
  unfold iB;rw[if_pos rfl,Dh]
theorem ie (zs:List Nat) (i x:Nat) (h:i<zs.length):val (zs.set i x)+4294967296^i*zs.getD i 0=val zs+4294967296^i*x:=by
 induction zs generalizing i with
 |nil=>simp at h
 |cons z zs ih=>
  cases i with
  |zero=>simp[val];omega
  |succ i=>
   have:=ih i (by simpa using h)
   simp only[List.set_cons_succ,val,List.getD_cons_succ,Nat.pow_succ]
   have e1:4294967296^i*4294967296*zs.getD i 0=4294967296*(4294967296^i*zs.getD i 0):=by rw[Nat.mul_comm (4294967296^i),Nat.mul_assoc]
   have e2:4294967296^i*4294967296*x=4294967296*(4294967296^i*x):=by rw[Nat.mul_comm (4294967296^i),Nat.mul_assoc]
   rw[e1,e2];omega
theorem bv (n:Nat):val (List.replicate n 0)=0:=by
 induction n with
 |zero=>rfl
 |succ n ih=>rw[List.replicate_succ,val,ih]
theorem a6 (n i:Nat):(List.replicate n 0).getD i 0=0:=by
 rw[List.getD_eq_getElem?_getD,List.getElem?_replicate]
 split <;>rfl
theorem getD_set_ne {zs:List Nat} {i j x:Nat} (h:i≠j):(zs.set i x).getD j 0=zs.getD j 0:=by
 rw[List.getD_eq_getElem?_getD,List.getD_eq_getElem?_getD,List.getElem?_set_ne h]
theorem eC {zs:List Nat} {i x:Nat} (h:i<zs.length):(zs.set i x).getD i 0=x:=by
 rw[List.getD_eq_getElem?_getD,List.getElem?_set_self h];rfl
theorem bh (i:Nat):4294967296^(i+1)=4294967296*4294967296^i:=by rw[Nat.pow_succ,Nat.mul_comm]
theorem vY {xs ys zs:List Nat} {i c:Nat} (hz:zs.length=i) (h:val zs+4294967296^i*c=val (xs.take i)+val (ys.take i)):
 val (zs++[(c+xs.getD i 0+ys.getD i 0)%4294967296])+4294967296^(i+1)*((c+xs.getD i 0+ys.getD i 0)/4294967296)=val (xs.take (i+1))+val (ys.take (i+1)):=by
 rw[cu,hz,an,an,bh];generalize ht:c+xs.getD i 0+ys.getD i 0=t;have e:t=t%4294967296+4294967296*(t/4294967296):=by omega
 have e2:4294967296^i*t=4294967296^i*(t%4294967296)+4294967296*4294967296^i*(t/4294967296):=by
  exact UI
 have e3:4294967296^i*t=4294967296^i*c+4294967296^i*xs.getD i 0+4294967296^i*ys.getD i 0:=by rw[<- ht,Nat.mul_add,Nat.mul_add]
 simp only[val,Nat.mul_zero,Nat.add_zero]
 omega
theorem KX {xs ys zs:List Nat} {i c:Nat} (hi:i<zs.length) (hz:zs.getD i 0=0) (h:val zs+4294967296^i*c=val (xs.take i)+val (ys.take i)):
 val (zs.set i ((c+xs.getD i 0+ys.getD i 0)%4294967296))+4294967296^(i+1)*((c+xs.getD i 0+ys.getD i 0)/4294967296)=val (xs.take (i+1))+val (ys.take (i+1)):=by
 have hs:=ie zs i ((c+xs.getD i 0+ys.getD i 0)%4294967296) hi;rw[hz]at hs;rw[an,an,bh];generalize ht:c+xs.getD i 0+ys.getD i 0=t at *;have e:t=t%4294967296+4294967296*(t/4294967296):=by omega
 have e2:4294967296^i*t=4294967296^i*(t%4294967296)+4294967296*4294967296^i*(t/4294967296):=by
  exact UI
 have e3:4294967296^i*t=4294967296^i*c+4294967296^i*xs.getD i 0+4294967296^i*ys.getD i 0:=by rw[<- ht,Nat.mul_add,Nat.mul_add]
 omega
theorem HY {zs:List Nat} {i c V:Nat} (hi:i<zs.length) (hz:zs.getD i 0=0) (h:val zs+4294967296^i*c=V):val (zs.set i c)=V:=by
 have hs:=ie zs i c hi;rw[hz]at hs;omega
theorem Bz {xs ys zs:List Nat} {i b d b':Nat} (hi:i<zs.length) (hz:zs.getD i 0=0) (h0:val zs+val (ys.take i)=val (xs.take i)+4294967296^i*b)
 (hd:d+ys.getD i 0+b=xs.getD i 0+4294967296*b'):
 val (zs.set i d)+val (ys.take (i+1))=val (xs.take (i+1))+4294967296^(i+1)*b':=by
 have hs:=ie zs i d hi;rw[hz]at hs;rw[an,an,bh];have e:=congrArg (fun t=>4294967296^i*t) hd
 simp only[Nat.mul_add]at e
 have e2:4294967296^i*(4294967296*b')=4294967296*4294967296^i*b':=by rw[<- Nat.mul_assoc,Nat.mul_comm (4294967296^i)]
 omega
theorem pk {xs ys zs:List Nat} {n b:Nat} (hzw:Wd zs) (hzl:zs.length=n) (hxl:xs.length=n) (hle:val ys<=val xs) (hxw:Wd xs)
 (h:val zs+val (ys.take n)=val (xs.take n)+4294967296^n*b):val zs=val xs-val ys:=by
 have h1:=fq hxw;rw[hxl]at h1;have h2:val (ys.take n)=val ys:=kz (by omega);have h3:xs.take n=xs:=List.take_of_length_le (by omega);have h4:=fq hzw;rw[hzl]at h4;rw[h2,h3]at h;rcases Nat.eq_zero_or_pos b with hb|hb
 ·subst hb;omega
 ·have:=Nat.mul_le_mul_left (4294967296^n) hb
  omega
theorem pD {zs ys:List Nat} {i k c x V:Nat} (hk:i+k<zs.length)
 (h:val zs+4294967296^(i+k)*c=V+4294967296^i*(x*val (ys.take k))):
 val (zs.set (i+k) ((c+x*ys.getD k 0+zs.getD (i+k) 0)%4294967296))+4294967296^(i+k+1)*((c+x*ys.getD k 0+zs.getD (i+k) 0)/4294967296)=V+4294967296^i*(x*val (ys.take (k+1))):=by
 generalize ht:c+x*ys.getD k 0+zs.getD (i+k) 0=t;have hs:=ie zs (i+k) (t%4294967296) hk;rw[an,bh];have e:t=t%4294967296+4294967296*(t/4294967296):=by omega
 have e2:4294967296^(i+k)*t=4294967296^(i+k)*(t%4294967296)+4294967296*4294967296^(i+k)*(t/4294967296):=by
  conv=>lhs;rw[e]
  rw[Nat.mul_add];congr 1;rw[Nat.mul_comm 4294967296 (4294967296^(i+k)),Nat.mul_assoc]
 have e3:4294967296^(i+k)*t=4294967296^(i+k)*c+4294967296^(i+k)*(x*ys.getD k 0)+4294967296^(i+k)*zs.getD (i+k) 0:=by rw[<- ht,Nat.mul_add,Nat.mul_add]
 have e4:4294967296^i*(x*(val (ys.take k)+4294967296^k*ys.getD k 0))=4294967296^i*(x*val (ys.take k))+4294967296^(i+k)*(x*ys.getD k 0):=by
  rw[Nat.pow_add,Nat.mul_add,Nat.mul_add]
  congr 1
  rw[Nat.mul_left_comm x (4294967296^k) (ys.getD k 0),<- Nat.mul_assoc (4294967296^i) (4294967296^k)]
 omega
theorem yy {zs xs ys:List Nat} {i c:Nat} (hi:i+ys.length<zs.length) (hz:zs.getD (i+ys.length) 0=0)
 (h:val zs+4294967296^(i+ys.length)*c=val (xs.take i)*val ys+4294967296^i*(xs.getD i 0*val (ys.take ys.length))):
 val (zs.set (i+ys.length) c)=val (xs.take (i+1))*val ys:=by
 have hs:=ie zs (i+ys.length) c hi;rw[hz]at hs;rw[List.take_of_length_le (Nat.le_refl _)]at h;rw[an,Nat.add_mul];have e:4294967296^i*(xs.getD i 0*val ys)=4294967296^i*xs.getD i 0*val ys:=by rw[Nat.mul_assoc]
 omega
theorem vG {x y z c:Nat} (hx:x<4294967296) (hy:y<4294967296) (hz:z<4294967296) (hc:c<4294967296):c+x*y+z<18446744073709551616/\(c+x*y+z)/4294967296<4294967296:=by
 have h:x*y<=4294967295*4294967295:=Nat.mul_le_mul (by omega) (by omega);omega
structure AL (U V q hi nx u2 u1 u0 W lu lv:Nat):Prop where
 hu:U=lu+W*(u0+4294967296*u1+18446744073709551616*u2)
 hv:V=lv+W*(nx+4294967296*hi)
 hlu:lu<W
 hlv:lv<W
 hq:q=U/V
 hlt:U<V*4294967296
 hhi:2147483648<=hi
 hhi2:hi<4294967296
 hnx:nx<4294967296
 hu0:u0<4294967296
 hu1:u1<4294967296
section
variable {U V q hi nx u2 u1 u0 W lu lv:Nat}
theorem AL.vpos (h:AL U V q hi nx u2 u1 u0 W lu lv):0<V:=by
 have h1:=h.hv;have h2:=h.hlv;have h3:=h.hhi;have:W*1<=W*(nx+4294967296*hi):=Nat.mul_le_mul_left _ (by omega);omega
theorem AL.qlt (h:AL U V q hi nx u2 u1 u0 W lu lv):q<4294967296:=by
 rw[h.hq];exact(Nat.div_lt_iff_lt_mul h.vpos).2 (by rw[Nat.mul_comm];exact h.hlt)
theorem AL.u2le (h:AL U V q hi nx u2 u1 u0 W lu lv):u2<=hi:=by
 rcases Nat.lt_or_ge hi u2 with h1|h1
 ·exfalso
  have e1:=h.hu;have e2:=h.hv;have e3:=h.hlt;have e4:=h.hlv;have e5:W*(18446744073709551616*(hi+1))<=W*(u0+4294967296*u1+18446744073709551616*u2):=Nat.mul_le_mul_left _ (by omega);have e6:W*(nx+4294967296*hi)<=W*(4294967295+4294967296*hi):=Nat.mul_le_mul_left _ (by have:=h.hnx;omega);have e7:W*(18446744073709551616*(hi+1))=4294967296*(W*(4294967295+4294967296*hi))+4294967296*W:=by grind
  omega
 ·exact h1
theorem AL.less (h:AL U V q hi nx u2 u1 u0 W lu lv) {d r:Nat} (hd:d*hi+r=u2*4294967296+u1) (hc:4294967296<=d∨r*4294967296+u0<d*nx):q<d:=by
 rcases hc with hc|hc
 ·have:=h.qlt;omega
 ·rw[h.hq]
  refine(Nat.div_lt_iff_lt_mul h.vpos).2 ?_;rw[h.hu,h.hv];have e1:d*(nx+4294967296*hi)=d*nx+4294967296*(d*hi):=by grind
  have e2:u0+4294967296*u1+18446744073709551616*u2+1<=d*(nx+4294967296*hi):=by rw[e1];omega
  have e3:=Nat.mul_le_mul_left W e2;have e4:d*(lv+W*(nx+4294967296*hi))=d*lv+W*(d*(nx+4294967296*hi)):=by grind
  rw[e4];rw[Nat.mul_add W _ 1,Nat.mul_one]at e3;have:=h.hlu;omega
theorem AL.close (h:AL U V q hi nx u2 u1 u0 W lu lv) {d r:Nat} (hd:d*hi+r=u2*4294967296+u1) (hb:d<4294967296) (hq:q<=d) (hc:d*nx<=r*4294967296+u0):d=q∨d=q+1:=by
 have:d<=q+1:=by
  rcases Nat.eq_zero_or_pos d with h0|h0
  ·omega
  ·have h1:d-1<=q:=by
    rw[h.hq];refine(Nat.le_div_iff_mul_le h.vpos).2 ?_;rw[h.hu,h.hv];obtain⟨e,rfl⟩:∃e,d=e+1:=⟨d-1,by omega⟩;rw[Nat.add_sub_cancel];have e1:(e+1)*(nx+4294967296*hi)=(e+1)*nx+4294967296*((e+1)*hi):=by grind
    have e2:(e+1)*(nx+4294967296*hi)<=u0+4294967296*u1+18446744073709551616*u2:=by rw[e1];omega
    have e3:=Nat.mul_le_mul_left W e2;have hv2:e<=nx+4294967296*hi:=by have:=h.hhi;omega
    have e4:e*(lv+W*(nx+4294967296*hi))<=e*(W+W*(nx+4294967296*hi)):=Nat.mul_le_mul_left _ (by have:=h.hlv;omega);have e5:e*(W+W*(nx+4294967296*hi))=W*e+W*(e*(nx+4294967296*hi)):=by grind
    have e6:W*e<=W*(nx+4294967296*hi):=Nat.mul_le_mul_left _ hv2;have e7:W*((e+1)*(nx+4294967296*hi))=W*(e*(nx+4294967296*hi))+W*(nx+4294967296*hi):=by grind
    omega
   omega
 omega
theorem AL.far (h:AL U V q hi nx u2 u1 u0 W lu lv) {d r:Nat} (hd:d*hi+r=u2*4294967296+u1) (hr:4294967296<=r):d<4294967296/\d*nx<=r*4294967296+u0:=by
 have h1:=h.u2le;have h2:=h.hu1
 have hlt:d<4294967296:=by
  rcases Nat.lt_or_ge d 4294967296 with h3|h3
  ·exact h3
  ·have h4:=Nat.mul_le_mul_right hi h3
   have h5:=Nat.mul_le_mul_right 4294967296 h1;omega
 refine⟨hlt,?_⟩;have h3:d*nx<=4294967295*4294967295:=Nat.mul_le_mul (by omega) (by have:=h.hnx;omega);omega
theorem AL.begin (h:AL U V q hi nx u2 u1 u0 W lu lv):q<=(u2*4294967296+u1)/hi:=by
 have hp:=h.hhi;rw[Nat.le_div_iff_mul_le (by omega),h.hq];have e0:=Nat.div_mul_le_self U V;generalize U/V=t at *;have e1:=h.hu;have e2:=h.hv;have e3:t*V=t*lv+W*(t*(nx+4294967296*hi)):=by rw[e2];grind
 rw[e3,e1]at e0;rcases Nat.lt_or_ge (u2*4294967296+u1) (t*hi)with h1|h1
 ·exfalso
  have e4:t*(nx+4294967296*hi)=t*nx+4294967296*(t*hi):=by grind
  have e5:u0+4294967296*u1+18446744073709551616*u2+1<=t*(nx+4294967296*hi):=by rw[e4];have:=h.hu0;omega
  have e6:=Nat.mul_le_mul_left W e5;rw[Nat.mul_add W _ 1,Nat.mul_one]at e6;have:=h.hlu;omega
 ·exact h1
end
theorem yE {pre us us' post qs:List Nat} {V U0 q:Nat} (hwp:Wd pre) (_hpost:val post=0) (hq:q=val us/V) (hV:0<V)
 (hi:pre.length<qs.length)
 (hsum:val (pre++us++post)+V*4294967296^(pre.length+1)*val (qs.drop (pre.length+1))=U0) (hv':val us'=val us-V*q):
 val (pre++us'++post)<V*4294967296^pre.length/\val (pre++us'++post)+V*4294967296^pre.length*val ((qs.set pre.length q).drop pre.length)=U0:=by
 have hd:=cg (qs.set pre.length q) (pre.length+1) (Nat.succ_pos _) (by rw[List.length_set];omega);have hds:(qs.set pre.length q).drop (pre.length+1)=qs.drop (pre.length+1):=List.drop_set_of_lt (by omega);rw[Nat.add_sub_cancel,eC hi,hds]at hd;rw[hd]
 simp only[cu,_hpost,Nat.mul_zero,Nat.add_zero,val]at *
 have hp:=fq hwp;have hqV:=Nat.div_add_mod (val us) V;have hm:=Nat.mod_lt (val us) hV;rw[<- hq]at hqV;generalize val us%V=R at *;have hv2:val us'=R:=by omega
 rw[bh]at hsum;rw[hv2];generalize 4294967296^pre.length=B at *;generalize val (qs.drop (pre.length+1))=Q at *;rw[<- hqV]at hsum
 constructor
 ·have h1:B*(R+1)<=B*V:=Nat.mul_le_mul_left _ hm
  rw[Nat.mul_comm V B];rw[Nat.mul_add,Nat.mul_one]at h1;omega
 ·rw[<- hsum]
  have e1:B*(V*q+R)=B*(V*q)+B*R:=Nat.mul_add _ _ _;have e2:V*B*(q+4294967296*Q)=B*(V*q)+V*(4294967296*B)*Q:=by grind
  omega
theorem CA {pre us post:List Nat} {V:Nat} (hpost:val post=0) (hlt:val (pre++us++post)<V*4294967296^(pre.length+1)):val us<V*4294967296:=by
 simp only[cu,hpost,Nat.mul_zero,Nat.add_zero]at hlt
 rw[bh]at hlt;have e:V*(4294967296*4294967296^pre.length)=4294967296^pre.length*(V*4294967296):=by grind
 rw[e]at hlt;exact Nat.lt_of_mul_lt_mul_left (a:=4294967296^pre.length) (by omega)
end Go.Proofs.YtnchbpoopnjghaaGreatDoor
