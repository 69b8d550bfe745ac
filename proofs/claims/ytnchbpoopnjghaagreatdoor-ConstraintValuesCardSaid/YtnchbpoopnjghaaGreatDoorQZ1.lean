/- Parts of a proof: contracts of the functions that the laws reach. -/
import Derived.Test.YtnchbpoopnjghaaGreatDoorQAmI
set_option maxHeartbeats 100000000
set_option linter.all false
open Go.Proofs.Tryz
namespace Go.Proofs.YtnchbpoopnjghaaGreatDoor
open Go.RowKit
def dW (xs:List Nat):DV:= .leaf (aW xs)
theorem Dt {S:Nat->Prop} {w w':World} {e:Ending} {q r:Nat} (h:dU S w) (hr:jG q r w e w'):F4 S (.tup [dW (digs q),dW (digs r)]) w e w':=by
 obtain⟨A,n,c,B,m,d,rfl,hq,hr,hb⟩:=hr;refine⟨_,rfl,⟨[.slice A n c, .slice B m d],rfl,rfl,fun i x u h1 h2=>?_⟩,hb⟩
 match i with
 |0=>simp at h1 h2;subst h1 h2;exact lI (h.grow hb) hq
 |1=>simp at h1 h2;subst h1 h2;exact lI (h.grow hb) hr
 |i+2=>simp at h1
theorem cZ {xs:List Nat} (hw:Wd xs):aa Tryz.prog 194 [dW xs] (.one (dW (trim xs))):=
 ⟨aG func194 rfl rfl,fun S w vs hS hv=>by
  match vs,hv with
  | [v],⟨h,_⟩=>
   obtain⟨A,n,c,rfl,hx⟩:=fD h hw;refine(gi A n c xs w hx).mono ?_;rintro e w' ⟨rfl,rfl⟩;exact⟨_,rfl,lI hS hx.trim,Below.refl _ _⟩⟩
theorem l5 {xs:List Nat} (hw:Wd xs):aa Tryz.prog 172 [dW xs] (.one (dW (trim xs))):=
 ⟨aG func172 rfl rfl,fun S w vs hS hv=>by
  match vs,hv with
  | [v],⟨h,_⟩=>
   obtain⟨A,n,c,rfl,hx⟩:=fD h hw;refine(dz A n c xs w hx).mono ?_;rintro e w' ⟨rfl,rfl⟩;exact⟨_,rfl,lI hS hx.trim,Below.refl _ _⟩⟩
theorem pN {a b:Nat} (h:(digs a).length<=2147483648) (hb:0<b):aa Tryz.prog 282 [dW (digs a),dW (digs b)] (.tup [dW (digs (a/b)),dW (digs (a%b))]):=
 ⟨aG func282 rfl rfl,fun S w vs hS hv=>by
  match vs,hv with
  | [v,u],⟨h1,h2,_⟩=>
   obtain⟨A,n,c,rfl,hx⟩:=fD h1 (ae _);obtain⟨B,m,d,rfl,hy⟩:=fD h2 (ae _);exact(Vc h hb A n c B m d w hx hy).mono fun e w' he=>Dt hS he⟩
theorem nE {a b:Nat} (h:(digs a).length<=2147483648) (hb:0<b):aa Tryz.prog 277 [dW (digs a),dW (digs b)] (.tup [dW (digs (a/b)),dW (digs (a%b))]):=
 ⟨aG func277 rfl rfl,fun S w vs hS hv=>by
  match vs,hv with
  | [v,u],⟨h1,h2,_⟩=>
   obtain⟨A,n,c,rfl,hx⟩:=fD h1 (ae _);obtain⟨B,m,d,rfl,hy⟩:=fD h2 (ae _);exact(R8 h hb A n c B m d w hx hy).mono fun e w' he=>Dt hS he⟩
theorem bw {neg:Bool} {xs:List Nat} (hw:Wd xs) {z:Int} (hz:bI neg xs=z):aa Tryz.prog 232 [dB neg,dW xs] (.one (dZ z)):=
 ⟨aG func232 rfl rfl,fun S w vs hS hv=>by
  match vs,hv with
  | [v,u],⟨h1,h2,_⟩=>
   obtain rfl:=bc h1;obtain⟨A,n,c,rfl,hx⟩:=fD h2 hw;exact(B9 hx hz).mono fun e w' he=>yf hS he⟩
theorem bO {neg:Bool} {xs:List Nat} (hw:Wd xs) {z:Int} (hz:bI neg xs=z):aa Tryz.prog 122 [dB neg,dW xs] (.one (dZ z)):=
 ⟨aG func122 rfl rfl,fun S w vs hS hv=>by
  match vs,hv with
  | [v,u],⟨h1,h2,_⟩=>
   obtain rfl:=bc h1;obtain⟨A,n,c,rfl,hx⟩:=fD h2 hw;exact(yv hx hz).mono fun e w' he=>yf hS he⟩
theorem tA {xs:List Nat} (hw:Wd xs) (hl:xs.length<=4294967296):aa Tryz.prog 236 [dW xs] (.one (dW xs)):=
 ⟨aG func236 rfl rfl,fun S w vs hS hv=>by
  match vs,hv with
  | [v],⟨h,_⟩=>
   obtain⟨A,n,c,rfl,hx⟩:=fD h hw;refine(oA A n c xs w hx (by rw[<- hx.len];exact hl)).mono ?_;rintro e w' ⟨A',n',c',zs,rfl,hz,rfl,hb⟩;exact⟨_,rfl,lI (hS.grow hb) hz,hb⟩⟩
theorem vI {xs:List Nat} (hw:Wd xs) (hl:xs.length<=2):aa Tryz.prog 283 [dW xs] (.one (dN .u64 (val xs))):=
 ⟨aG func283 rfl rfl,fun S w vs hS hv=>by
  match vs,hv with
  | [v],⟨h,_⟩=>
   obtain⟨A,n,c,rfl,hx⟩:=fD h hw;refine(sA A n c xs w hx (by rw[<- hx.len];exact hl)).mono ?_;rintro e w' ⟨rfl,hb⟩;exact⟨_,rfl,AV.M.val rfl,hb⟩⟩
theorem ke (n:Nat) (hn:n<18446744073709551616):aa Tryz.prog 233 [dN .u64 n] (.one (dW (digs n))):=
 ⟨aG func233 rfl rfl,fun S w vs hS hv=>by
  match vs,hv with
  | [v],⟨h,_⟩=>
   obtain rfl:=bc h;refine(jg n hn w).mono ?_;rintro e w' ⟨A',n',c',zs,rfl,hz,rfl,hb⟩;exact⟨_,rfl,lI (hS.grow hb) hz,hb⟩⟩
theorem aX {n:Nat}:(digs n).length=0↔n=0:=by
 constructor
 ·intro h;exact fU.1 (E_ h)
 ·rintro rfl;rw[aK];rfl
theorem KG (xs:List Nat):trim xs=digs (val xs):=rfl
def lx (xs:List Nat):Prop:=xs.length<=2147483648
def db (z:Int):Prop:=(digs z.natAbs).length<=2147483648
theorem db.of_lt {z:Int} {k:Nat} (h:z.natAbs<4294967296^k) (hk:k<=2147483648):db z:=V_ (aS h) hk
theorem db.small {z:Int} (h:z.natAbs<4294967296):db z:= .of_lt (k:=1) (by simpa using h) D_
theorem db.le {a b:Int} (h:db b) (hl:a.natAbs<=b.natAbs):db a:=V_ (lq hl) h
theorem dV {xs:List Nat} (hw:Wd xs) (h:lx xs):(digs (val xs)).length<=2147483648:=by have:=bR hw;unfold trim at this;unfold lx at h;omega
theorem ph {S:Nat->Prop} {w w':World} {e:Ending} {zs:List Nat} (hS:dU S w) (hr:js (fun x=>x=zs) w e w'):F4 S (.one (dW zs)) w e w':=by
 obtain⟨A,n,c,x,rfl,hz,rfl,hb⟩:=hr;exact⟨_,rfl,lI (hS.grow hb) hz,hb⟩
theorem Pv {f:FuncId} {xs ys:List Nat} {r:RV} {R:World->Ending->World->Prop} (he:∀args w,(callFunc f args).run Tryz.prog w= .ok (.enter f args) w) (hw:Wd xs) (hw':Wd ys) (h:∀A B n m c d w,bi w A n c xs->bi w B m d ys->Calls Tryz.prog f #[.slice A n c, .slice B m d] w (R w)) (hR:∀S w e w',dU S w->R w e w'->F4 S r w e w'):aa Tryz.prog f [dW xs,dW ys] r:=
 ⟨he,fun S w vs hS hv=>by
  match vs,hv with
  | [v,u],⟨h1,h2,_⟩=>
   obtain⟨A,n,c,rfl,hx⟩:=fD h1 hw;obtain⟨B,m,d,rfl,hy⟩:=fD h2 hw';exact(h A B n m c d w hx hy).mono fun e w' he=>hR S w e w' hS he⟩
theorem vq {a b:Nat} (h1:(digs a).length<=4294967296) (h2:(digs b).length<=4294967296):aa Tryz.prog 257 [dW (digs a),dW (digs b)] (.one (dW (digs (a+b)))):=
 Pv (aG func257 rfl rfl) (ae a) (ae b) (fun A B n m c d w hx hy=>NI A B n m c d a b w hx hy (by rw[<- hx.len];exact h1) (by rw[<- hy.len];exact h2)) (fun _ _ _ _ hS h=>ph hS h)
theorem BE {a b:Nat} (h1:(digs a).length<=4294967296) (h2:(digs b).length<=4294967296):aa Tryz.prog 300 [dW (digs a),dW (digs b)] (.one (dW (digs (a+b)))):=
 Pv (aG func300 rfl rfl) (ae a) (ae b) (fun A B n m c d w hx hy=>by have:=Mo A B n m c d _ _ w hx hy (by rw[<- hx.len];exact h1) (by rw[<- hy.len];exact h2);rwa[ah,ah]at this) (fun _ _ _ _ hS h=>ph hS h)
theorem mB {a b:Nat} (hle:b<=a) (h1:(digs a).length<=4294967296):aa Tryz.prog 258 [dW (digs a),dW (digs b)] (.one (dW (digs (a-b)))):=
 Pv (aG func258 rfl rfl) (ae a) (ae b) (fun A B n m c d w hx hy=>by have:=MW A B n m c d _ _ w hx hy (by rw[ah,ah];exact hle) (by rw[<- hx.len];exact h1);rwa[ah,ah]at this) (fun _ _ _ _ hS h=>ph hS h)
theorem B7 {a b:Nat} (h1:(digs a).length<=4294967296) (h2:(digs b).length<=4294967296):aa Tryz.prog 259 [dW (digs a),dW (digs b)] (.one (dW (digs (a*b)))):=
 Pv (aG func259 rfl rfl) (ae a) (ae b) (fun A B n m c d w hx hy=>by have:=M7 A B n m c d _ _ w hx hy (by rw[<- hx.len];exact h1) (by rw[<- hy.len];exact h2);rwa[ah,ah]at this) (fun _ _ _ _ hS h=>ph hS h)
theorem nh {xs ys:List Nat} (hw:Wd xs) (hw':Wd ys) {z:Int} (hz:iB xs ys=z):aa Tryz.prog 235 [dW xs,dW ys] (.one (dN .i64 z)):=
 Pv (aG func235 rfl rfl) hw hw' (fun A B n m c d w hx hy=>lf A B n m c d xs ys w hx hy) (fun S w e w' hS h=>by
  obtain⟨rfl,n,rfl⟩:=h;exact⟨_,rfl,by rw[hz];exact AV.M.val rfl,Below.drewN (Below.refl _ _) n⟩)
theorem qc {a b:Nat} (hle:b<=a) (h1:(digs a).length<=4294967296):aa Tryz.prog 301 [dW (digs a),dW (digs b)] (.one (dW (digs (a-b)))):=
 Pv (aG func301 rfl rfl) (ae a) (ae b) (fun A B n m c d w hx hy=>by have:=Kv A B n m c d _ _ w hx hy (by rw[ah,ah];exact hle) (by rw[<- hx.len];exact h1);rwa[ah,ah]at this) (fun _ _ _ _ hS h=>ph hS h)
theorem yn {a b:Nat} (h1:(digs a).length<=4294967296) (h2:(digs b).length<=4294967296):aa Tryz.prog 278 [dW (digs a),dW (digs b)] (.one (dW (digs (a*b)))):=
 Pv (aG func278 rfl rfl) (ae a) (ae b) (fun A B n m c d w hx hy=>by have:=I7 A B n m c d _ _ w hx hy (by rw[<- hx.len];exact h1) (by rw[<- hy.len];exact h2);rwa[ah,ah]at this) (fun _ _ _ _ hS h=>ph hS h)
theorem lH {xs ys:List Nat} (hw:Wd xs) (hw':Wd ys) {z:Int} (hz:iB xs ys=z):aa Tryz.prog 222 [dW xs,dW ys] (.one (dN .i64 z)):=
 Pv (aG func222 rfl rfl) hw hw' (fun A B n m c d w hx hy=>rT A B n m c d xs ys w hx hy) (fun S w e w' hS h=>by
  obtain⟨rfl,n,rfl⟩:=h;exact⟨_,rfl,by rw[hz];exact AV.M.val rfl,Below.drewN (Below.refl _ _) n⟩)
theorem rA (a b:Int):aa Tryz.prog 234 [dN .i64 a,dN .i64 b] (.one (dN .i64 (bQ a b))):=
 ⟨aG func234 rfl rfl,fun S w vs hS hv=>by
  match vs,hv with
  | [v,u],⟨h1,h2,_⟩=>
   obtain rfl:=bc h1;obtain rfl:=bc h2;refine(p9 a b w).mono ?_;rintro e w' ⟨rfl,rfl⟩;exact⟨_,rfl,AV.M.val rfl,Below.refl _ _⟩⟩
theorem pB (n:Nat) (hn:n<18446744073709551616):aa Tryz.prog 123 [dN .u64 n] (.one (dW (digs n))):=
 ⟨aG func123 rfl rfl,fun S w vs hS hv=>by
  match vs,hv with
  | [v],⟨h,_⟩=>
   obtain rfl:=bc h;refine(n6 n hn w).mono ?_;rintro e w' ⟨A',n',c',zs,rfl,hz,rfl,hb⟩;exact⟨_,rfl,lI (hS.grow hb) hz,hb⟩⟩
theorem xZ {neg:Bool} {n:Nat} {z:Int} (h:(if neg=true then -(n:Int)else n)=z):bI neg (digs n)=z:=by rw[zj];exact h
theorem eD (na:Bool) (xs:List Nat):bI na xs=if na=true then -(val xs:Int)else(val xs:Int):=rfl
theorem zJ {na:Bool} {xs:List Nat}:bI na xs=0↔val xs=0:=by unfold bI;cases na<;>simp
theorem Jh {a b:Int} (h:a<b):bQ a b<0:=by unfold bQ;rw[if_pos h];decide
theorem Hg {a b:Int} (h:¬a<b):¬bQ a b<0:=by unfold bQ;rw[if_neg h];split <;>decide
theorem po {na:Bool} {xs:List Nat} (hw:Wd xs) (h1:lx xs) {z:Int} (hz:bI na xs=z):aa Tryz.prog 326 [dI na xs] (.one (dZ z)):=by
 have f1:=dV hw h1;have t1:aa Tryz.prog 194 [dW xs] (.one (dW (digs (val xs)))):=cZ hw;rw[eD]at hz;generalize val xs=a at *;refine kV func326 ?_;refine kC (t1) ?_;refine ac (tA (ae a) O_) rfl rfl rfl rfl rfl rfl rfl ?_;refine kC (bw (neg:=na) (ae a) (xZ hz)) ?_;exact aj
theorem Ci {a:Int} (h1:db a):aa Tryz.prog 326 [dZ a] (.one (dZ a)):=po (ae _) h1 (by rw[aV])
theorem I2 {na:Bool} {xs:List Nat} (hw:Wd xs) (h1:lx xs) {z:Int} (hz: -(bI na xs)=z):aa Tryz.prog 260 [dI na xs] (.one (dZ z)):=by
 have f1:=dV hw h1;have t1:aa Tryz.prog 194 [dW xs] (.one (dW (digs (val xs)))):=cZ hw;rw[eD]at hz;generalize val xs=a at *;cases na
 all_goals
  refine kV func260 ?_;refine kC (t1) ?_;refine ac (tA (ae a) O_) rfl rfl rfl rfl rfl rfl rfl ?_
 ·refine ac (bw (neg:=true) (ae a) (xZ (by simpa using hz))) rfl rfl rfl rfl rfl rfl rfl ?_
  exact aj
 ·refine ac (bw (neg:=false) (ae a) (xZ (by simpa using hz))) rfl rfl rfl rfl rfl rfl rfl ?_
  exact aj
theorem u9 {a:Int} (h1:db a):aa Tryz.prog 260 [dZ a] (.one (dZ (-a))):=I2 (ae _) h1 (by rw[aV])
theorem eu {na:Bool} {xs:List Nat} (hw:Wd xs) {z:Int} (hz:bI na xs=z):aa Tryz.prog 143 [dI na xs] (.one (dZ z)):=by
 refine kV func143 ?_;refine kC (bO hw hz) ?_;exact aj
theorem vh {na:Bool} {xs:List Nat} (hw:Wd xs) {z:Int} (hz: -(bI na xs)=z):aa Tryz.prog 263 [dI na xs] (.one (dZ z)):=by
 rw[eD]at hz;cases na
 all_goals
  refine kV func263 ?_
 ·refine ac (bO (neg:=true) (z:=z) hw (by rw[eD];simpa using hz)) rfl rfl rfl rfl rfl rfl rfl ?_
  exact aj
 ·refine ac (bO (neg:=false) (z:=z) hw (by rw[eD];simpa using hz)) rfl rfl rfl rfl rfl rfl rfl ?_
  exact aj
theorem jd (a:Int):aa Tryz.prog 263 [dZ a] (.one (dZ (-a))):=vh (ae _) (by rw[aV])
theorem z8 {na nb:Bool} {xs ys:List Nat} (hw:Wd xs) (hw':Wd ys) (h1:lx xs) (h2:lx ys) {z:Int} (hz:bI na xs+bI nb ys=z):aa Tryz.prog 190 [dI na xs,dI nb ys] (.one (dZ z)):=by
 have f1:=dV hw h1;have f2:=dV hw' h2;have t1:aa Tryz.prog 194 [dW xs] (.one (dW (digs (val xs)))):=cZ hw;have t2:aa Tryz.prog 194 [dW ys] (.one (dW (digs (val ys)))):=cZ hw';rw[eD,eD]at hz;generalize val xs=a at *;generalize val ys=b at *
 by_cases hn:na=nb
 ·subst hn
  refine HQ ?_;refine kB true ?_ ?_
  ·exact(by simp)
  refine kW ?_;refine ac (vq (a:=a) (b:=b) O_ O_) rfl rfl rfl rfl rfl rfl rfl ?_;refine ac (bw (neg:=na) (ae (a+b)) (xZ (z:=z) (by cases na<;>simp at hz ⊢ <;>omega))) rfl rfl rfl rfl rfl rfl rfl ?_;exact aj
 ·have c:=nh (ae a) (ae b) (gD a b)
  by_cases hab:a<b
  ·refine HQ ?_
   refine KZ ?_;refine kC (c) ?_;refine kB true ?_ ?_
   ·exact T_ (Jh O_)
   refine kW ?_;refine ac (mB (a:=b) (b:=a) O_ O_) rfl rfl rfl rfl rfl rfl rfl ?_;refine ac (bw (neg:=nb) (ae (b-a)) (xZ (z:=z) (by cases na<;>cases nb<;>simp at hz hn ⊢ <;>omega))) rfl rfl rfl rfl rfl rfl rfl ?_;exact aj
  ·refine HQ ?_
   refine KZ ?_;refine kC (c) ?_;refine kB false ?_ ?_
   ·exact F_ (Hg O_)
   refine kW ?_;refine ac (mB (a:=a) (b:=b) O_ O_) rfl rfl rfl rfl rfl rfl rfl ?_;refine ac (bw (neg:=na) (ae (a-b)) (xZ (z:=z) (by cases na<;>cases nb<;>simp at hz hn ⊢ <;>omega))) rfl rfl rfl rfl rfl rfl rfl ?_;exact aj
theorem oV {a b:Int} (h1:db a) (h2:db b):aa Tryz.prog 190 [dZ a,dZ b] (.one (dZ (a+b))):=z8 (ae _) (ae _) h1 h2 (by rw[aV,aV])
theorem JQ {na nb:Bool} {xs ys:List Nat} (hw:Wd xs) (hw':Wd ys) (h1:lx xs) (h2:lx ys) {z:Int} (hz:bI na xs*bI nb ys=z):aa Tryz.prog 192 [dI na xs,dI nb ys] (.one (dZ z)):=by
 have f1:=dV hw h1;have f2:=dV hw' h2;have t1:aa Tryz.prog 194 [dW xs] (.one (dW (digs (val xs)))):=cZ hw;have t2:aa Tryz.prog 194 [dW ys] (.one (dW (digs (val ys)))):=cZ hw';have hm:=(NK na nb xs ys (digs (val xs*val ys)) (ah _)).trans hz;generalize val xs=a at *;generalize val ys=b at *;refine kV func192 ?_;refine kQ (t1) ?_;refine kC (t2) ?_;refine ac (B7 (a:=a) (b:=b) O_ O_) rfl rfl rfl rfl rfl rfl rfl ?_;refine kC (bw (neg:=!(na == nb)) (ae (a*b)) hm) ?_;exact aj
theorem dM {a b:Int} (h1:db a) (h2:db b):aa Tryz.prog 192 [dZ a,dZ b] (.one (dZ (a*b))):=JQ (ae _) (ae _) h1 h2 (by rw[aV,aV])
theorem vg {na nb:Bool} {xs ys:List Nat} (hw:Wd xs) (hw':Wd ys) (h1:lx xs) (h2:lx ys) {z:Int} (hz:bI na xs+bI nb ys=z):aa Tryz.prog 264 [dI na xs,dI nb ys] (.one (dZ z)):=by
 have f1:=dV hw h1;have f2:=dV hw' h2;have n1:=eu (na:=na) hw rfl;have n2:=eu (na:=nb) hw' rfl;have e1:(bI na xs).natAbs=val xs:=by rw[eD];cases na<;>simp
 have e2:(bI nb ys).natAbs=val ys:=by rw[eD];cases nb<;>simp
 rw[<- e1]at f1;rw[<- e2]at f2;generalize bI na xs=a at *;generalize bI nb ys=b at *;clear e1 e2
 by_cases hn:decide (a<0)=decide (b<0)
 ·refine kU func264 ?_
  refine y2 ?_;refine kG ?_
  refine kO4 ?_
  refine kB true ?_ ?_
  ·exact(by rw[hn];simp)
  refine kW ?_;refine ac (BE (a:=a.natAbs) (b:=b.natAbs) O_ O_) rfl rfl rfl rfl rfl rfl rfl ?_;refine ac (bO (neg:=decide (a<0)) (ae (a.natAbs+b.natAbs)) (xZ (z:=z) (by simp at hn;split <;>simp_all <;>omega))) rfl rfl rfl rfl rfl rfl rfl ?_;exact aj
 ·have c:=lH (ae a.natAbs) (ae b.natAbs) (gD a.natAbs b.natAbs)
  by_cases hab:a.natAbs<b.natAbs
  ·refine NQ ?_
   refine kB false ?_ ?_
   ·exact F_ (by have:=Jh (show(a.natAbs:Int)<b.natAbs by omega);omega)
   refine kW ?_;refine ac (qc (a:=b.natAbs) (b:=a.natAbs) O_ O_) rfl rfl rfl rfl rfl rfl rfl ?_;refine ac (bO (neg:=decide (b<0)) (ae (b.natAbs-a.natAbs)) (xZ (z:=z) (by simp at hn;split <;>simp_all <;>omega))) rfl rfl rfl rfl rfl rfl rfl ?_;exact aj
  ·refine NQ ?_
   refine kB true ?_ ?_
   ·exact T_ (by have:=Hg (show ¬(a.natAbs:Int)<b.natAbs by omega);omega)
   refine kW ?_;refine ac (qc (a:=a.natAbs) (b:=b.natAbs) O_ O_) rfl rfl rfl rfl rfl rfl rfl ?_;refine ac (bO (neg:=decide (a<0)) (ae (a.natAbs-b.natAbs)) (xZ (z:=z) (by simp at hn;split <;>simp_all <;>omega))) rfl rfl rfl rfl rfl rfl rfl ?_;exact aj
theorem jf {a b:Int} (h1:db a) (h2:db b):aa Tryz.prog 264 [dZ a,dZ b] (.one (dZ (a+b))):=vg (ae _) (ae _) h1 h2 (by rw[aV,aV])
theorem Gg {na nb:Bool} {xs ys:List Nat} (hw:Wd xs) (hw':Wd ys) (h1:lx xs) (h2:lx ys) {z:Int} (hz:bI na xs-bI nb ys=z):aa Tryz.prog 311 [dI na xs,dI nb ys] (.one (dZ z)):=by
 have n2:=vh (na:=nb) hw' rfl;have e2:(-(bI nb ys)).natAbs=val ys:=by rw[eD];cases nb<;>simp
 have f2:lx (digs (-(bI nb ys)).natAbs):=by rw[e2];exact dV hw' h2
 have c:=vg (na:=na) (nb:=decide (-(bI nb ys)<0)) hw (ae (-(bI nb ys)).natAbs) h1 f2 (z:=z) (by rw[aV];omega);refine kV func311 ?_;refine kC (n2) ?_;refine kC (c) ?_;exact aj
theorem rh {a b:Int} (h1:db a) (h2:db b):aa Tryz.prog 311 [dZ a,dZ b] (.one (dZ (a-b))):=Gg (ae _) (ae _) h1 h2 (by rw[aV,aV])
theorem Ge {na nb:Bool} {xs ys:List Nat} (hw:Wd xs) (hw':Wd ys) (h1:lx xs) (h2:lx ys) {z:Int} (hz:bI na xs*bI nb ys=z):aa Tryz.prog 224 [dI na xs,dI nb ys] (.one (dZ z)):=by
 have f1:=dV hw h1;have f2:=dV hw' h2;have n1:=eu (na:=na) hw rfl;have n2:=eu (na:=nb) hw' rfl;have e1:(bI na xs).natAbs=val xs:=by rw[eD];cases na<;>simp
 have e2:(bI nb ys).natAbs=val ys:=by rw[eD];cases nb<;>simp
 rw[<- e1]at f1;rw[<- e2]at f2;generalize bI na xs=a at *;generalize bI nb ys=b at *;clear e1 e2
 have hm:bI (!(decide (a<0) == decide (b<0))) (digs (a.natAbs*b.natAbs))=z:=by
  have:=E4 a b;rw[ah,ah]at this;exact this.trans hz
 refine kU func224 ?_;refine y2 ?_;refine kW ?_;refine ac (yn (a:=a.natAbs) (b:=b.natAbs) O_ O_) rfl rfl rfl rfl rfl rfl rfl ?_;refine kC (bO (neg:=!(decide (a<0) == decide (b<0))) (ae (a.natAbs*b.natAbs)) hm) ?_;exact aj
theorem dt {a b:Int} (h1:db a) (h2:db b):aa Tryz.prog 224 [dZ a,dZ b] (.one (dZ (a*b))):=Ge (ae _) (ae _) h1 h2 (by rw[aV,aV])
theorem iP {na:Bool} {xs:List Nat} (hw:Wd xs) {z:Int} (hz:(bI na xs).sign=z):aa Tryz.prog 136 [dI na xs] (.one (dN .i64 z)):=by
 have t1:aa Tryz.prog 194 [dW xs] (.one (dW (digs (val xs)))):=cZ hw
 by_cases h0:val xs=0
 ·obtain rfl:z=0:=by rw[<- hz,zJ.2 h0];rfl
  have hl:(digs (val xs)).length=0:=aX.2 h0;refine kV func136 ?_;refine kC (t1) ?_;refine kO ?_;refine kT ?_;exact aj
 ·have hl:(digs (val xs)).length≠0:=fun h=>h0 (aX.1 h)
  have hp:0<(val xs:Int):=O_
  rw[eD]at hz;cases na with
  |true=>
   obtain rfl:z= -1:=by rw[<- hz,if_pos rfl];exact Int.sign_eq_neg_one_of_neg O_
   refine kV func136 ?_;refine kC (t1) ?_;refine kO ?_;refine kE ?_;exact aj
  |false=>
   obtain rfl:z=1:=by rw[<- hz,if_neg D_];exact Int.sign_eq_one_of_pos hp
   refine kV func136 ?_;refine kC (t1) ?_;refine kO ?_;refine kE ?_;exact aj
theorem Ba (a:Int):aa Tryz.prog 136 [dZ a] (.one (dN .i64 a.sign)):=iP (ae _) (by rw[aV])
theorem l8 {na:Bool} {xs:List Nat} (hw:Wd xs) {z:Int} (hz:(bI na xs).sign=z):aa Tryz.prog 100 [dI na xs] (.one (dN .i64 z)):=by
 have n1:=eu (na:=na) hw rfl;generalize bI na xs=a at *;have hd:(digs a.natAbs).length=0↔a.natAbs=0:=aX;rcases Int.lt_trichotomy a 0 with h|h|h
 ·obtain rfl:z= -1:=hz.symm.trans (Int.sign_eq_neg_one_of_neg h)
  refine kV func100 ?_;refine kC (n1) ?_;refine kG ?_;refine FL ?_;refine eE (T:=TT) rfl ?_ ?_
  ·exact T_ h
  exact aj
 ·obtain rfl:z=0:=hz.symm.trans (by rw[h];rfl)
  refine kV func100 ?_;refine kC (n1) ?_;refine kG ?_
  refine kO3 ?_
  refine kT ?_;exact aj
 ·obtain rfl:z=1:=hz.symm.trans (Int.sign_eq_one_of_pos h)
  refine kV func100 ?_;refine kC (n1) ?_;refine kG ?_
  refine kO3 ?_
  refine kE ?_;refine qz ?_;exact aj
theorem f7 (a:Int):aa Tryz.prog 100 [dZ a] (.one (dN .i64 a.sign)):=l8 (ae _) (by rw[aV])
theorem K3 {na nb:Bool} {xs ys:List Nat} (hw:Wd xs) (hw':Wd ys) {z:Int} (hz:bQ (bI na xs) (bI nb ys)=z):aa Tryz.prog 175 [dI na xs,dI nb ys] (.one (dN .i64 z)):=by
 have s1:=iP (na:=na) hw rfl;have s2:=iP (na:=nb) hw' rfl;have t1:aa Tryz.prog 194 [dW xs] (.one (dW (digs (val xs)))):=cZ hw;have t2:aa Tryz.prog 194 [dW ys] (.one (dW (digs (val ys)))):=cZ hw';have hne:=Rb na nb xs ys;have heq:=Si na nb xs ys;have hr:=FQ na xs;rw[zd]at hne heq hr;rw[zd,hz]at hne heq;have ho:bQ (val xs) (val ys)= -1∨bQ (val xs) (val ys)=0∨bQ (val xs) (val ys)=1:=by unfold bQ;split;exact .inl rfl;split;exact .inr (.inr rfl);exact .inr (.inl rfl)
 have c:=nh (ae (val xs)) (ae (val ys)) (gD (val xs) (val ys));generalize bQ (val xs) (val ys)=o at *;generalize(bI na xs).sign=s at *;generalize(bI nb ys).sign=t at *;have cc:=rA s t
 by_cases hst:s=t
 ·have hso:=heq s rfl hst.symm
  refine kU func175 ?_;refine Eb ?_;refine kG ?_
  refine kO2 ?_
  refine kB false ?_ ?_
  ·exact(by simp[hst])
  refine kG ?_;refine kW ?_;refine kQ (t1) ?_;refine kC (t2) ?_;refine kC (c) ?_;refine cU (v':= .int .i64 (z)) rfl rfl rfl rfl ?_ ?_
  ·exact congrArg (Value.int .i64) (by rw[<- hso];rw[IntWalk.i64_in _ (by rcases hr with h|h|h<;>rcases ho with h'|h'|h'<;>rw[h,h']<;>decide)])
  exact aj
 ·rw[hne hst]at cc
  refine kU func175 ?_;refine Eb ?_;refine kG ?_
  refine kO2 ?_
  refine kB true ?_ ?_
  ·exact(by simp[hst])
  refine kW ?_;refine kC (cc) ?_;exact aj
theorem Fr (a b:Int):aa Tryz.prog 175 [dZ a,dZ b] (.one (dN .i64 (bQ a b))):=K3 (ae _) (ae _) (by rw[aV,aV])
theorem NJ (xs:List Nat) (i:Nat) (h:i<xs.length):∀(j:Nat) (a:AV),[AV.val (bZ (xs.getD i 0))][j]? =some a->(xs.map fun x:Nat=>AV.val (bZ x))[i*1+j]? =some a:=fun j a hj=>by
 cases j with
 |zero=>simp at hj;subst hj;simp[h]
 |succ j=>simp at hj
theorem VY (x:Nat):((x:Int) != 0)=!decide (x=0):=by
 by_cases h:x=0
 ·subst h;rfl
 ·rw[F_ h]
  simpa using h
theorem VU {z:Int} {p:Prop} [Decidable p] (h:z=0↔p):(z == 0)=decide p:=by
 by_cases hp:p
 ·rw[h.2 hp,T_ hp];rfl
 ·rw[F_ hp]
  simpa using fun e=>hp (h.1 e)
theorem Mr {f:FuncId} {na:Bool} {xs:List Nat} {ds:List DV} {r:RV} (he:∀args w,(callFunc f args).run Tryz.prog w= .ok (.enter f args) w) (h:xs.length<=9223372036854775807->aa Tryz.prog f (dI na xs::ds) r):aa Tryz.prog f (dI na xs::ds) r:=
 ⟨he,fun S w vs hS hv=>by
  match vs,hv with
  |v::vs,⟨h1,h2⟩=>
   obtain⟨us,hu,hl,hm⟩:=id h1;have h2u:us.length=2:=hl.symm;have hx:=hm 1 (aW xs) us[1] rfl (Q_ O_);refine(h ?_).calls S w _ hS ⟨h1,h2⟩;unfold aW at hx;generalize us[1]=u at hx;generalize(xs.map fun x:Nat=>AV.val (bZ x))=cs at hx;cases hx with
   |emp a b _=>omega
   |sl f a b _ _ _ _=>omega⟩
theorem me {na:Bool} {xs:List Nat} (hw:Wd xs) {b:Bool} (hb:eV na xs=b):aa Tryz.prog 230 [dI na xs] (.one (dB b)):=by
 refine Mr (aG func230 rfl rfl) fun hll=>?_
 rcases Nat.eq_zero_or_pos xs.length with h0|h0
 ·obtain rfl:=E_ h0
  have h00:trim ([]:List Nat)=[]:=by rw[KG];exact aK
  have hb:(!na)=b:=by rw[<- hb];unfold eV;rw[h00];cases na<;>rfl
  subst hb;cases na
  all_goals
   refine kU func230 ?_;exact kF
 ·have ht:=Ji hw h0
  have hg:=NJ xs (xs.length-1) O_;unfold eV at hb;rw[T_ h0,Bool.or_true,Bool.and_true]at hb;rw[<- hb];obtain⟨d,hd⟩:∃d,decide ((trim xs).length=xs.length)=d:=⟨_,rfl⟩;rw[hd]
  have hx:(!decide (xs.getD (xs.length-1) 0=0))=d:=by
   rw[<- hd]
   by_cases h:xs.getD (xs.length-1) 0=0
   ·rw[T_ h,F_ (fun e=>ht.1 e h)];rfl
   ·rw[F_ h,T_ (ht.2 h)];rfl
  generalize xs.getD (xs.length-1) 0=x at *;cases na
  all_goals
   refine kU func230 ?_
   iterate 3 refine kG ?_
   refine kO ?_;refine kE ?_
   iterate 7 refine kO ?_
   refine kT ?_
   refine kO4 ?_
   refine kJ ((xs.length-1:Nat)) ?_;refine aH (i:=xs.length-1) (cs':=[AV.val (bZ x)]) O_ hg (Z_ 0) rfl rfl rfl rfl rfl rfl rfl rfl ?_;refine kO ?_;refine cU (v':= .bool d) rfl rfl rfl rfl ?_ ?_
   ·exact congrArg Value.bool (by rw[<- hx];exact VY x)
   exact kF
theorem kM {na:Bool} {xs:List Nat} (hw:Wd xs) {b:Bool} (hb:eV na xs=b):aa Tryz.prog 219 [dI na xs] (.one (dB b)):=by
 have t1:=l5 hw;unfold eV at hb
 by_cases ht:(trim xs).length=xs.length
 ·rw[T_ ht,Bool.true_and]at hb
  cases na with
  |false=>
   obtain rfl:true=b:=hb;refine JA ?_;refine kT ?_;exact aj
  |true=>
   rw[show(!true || decide (0<xs.length))=decide (0<xs.length) from rfl]at hb;subst hb;refine JA ?_;refine kT ?_
   iterate 8 refine kO ?_
   refine cU (v':= .bool (decide (0<xs.length))) rfl rfl rfl rfl ?_ ?_
   ·exact congrArg Value.bool S_
   exact aj
 ·rw[F_ ht,Bool.false_and]at hb
  subst hb;refine JA ?_;refine kE ?_;exact aj
theorem LO {na nb:Bool} {xs ys:List Nat} {b:Bool} (hw:Wd xs) (hw':Wd ys) (hb:sameB na nb xs ys=b):aa Tryz.prog 156 [dI na xs,dI nb ys] (.one (dB b)):=by
 have c:=lH hw hw' rfl;have hz:=mW hw hw';unfold sameB at hb
 by_cases hn:na=nb
 ·subst hn
  rw[beq_self_eq_true,Bool.true_and]at hb;generalize iB xs ys=z at *;refine kU func156 ?_
  iterate 2 refine kG ?_
  refine kO4 ?_
  refine kB true ?_ ?_
  ·exact(by simp)
  refine kO5 ?_
  refine kC (c) ?_;refine cU (v':= .bool b) rfl rfl rfl rfl ?_ ?_
  ·exact congrArg Value.bool (by rw[<- hb];exact VU hz)
  exact aj
 ·have hf:(na == nb)=false:=by simpa using hn
  rw[hf,Bool.false_and]at hb;subst hb;refine kU func156 ?_
  iterate 2 refine kG ?_
  refine kO4 ?_
  refine kB false ?_ ?_
  ·exact hf
  exact aj
theorem Ld (a b:Int):aa Tryz.prog 156 [dZ a,dZ b] (.one (dB (decide (a=b)))):=LO (ae _) (ae _) (FK a b)
theorem d7 (k:Int) (h1: -9223372036854775808<=k) (h2:k<9223372036854775808):aa Tryz.prog 174 [dN .i64 k] (.one (dZ k)):=by
 by_cases h:k<0
 ·refine kU func174 ?_
  iterate 3 refine kG ?_
  refine kO ?_;refine kB true ?_ ?_
  ·exact T_ h
  refine kG ?_;refine kO ?_;refine QP ?_;refine kG ?_;refine kO ?_;refine kB true ?_ ?_
  ·exact T_ h
  refine kO ?_;refine ac (ke k.natAbs O_) rfl rfl rfl rfl rfl rfl rfl ?_;refine ac (bw (neg:=true) (ae k.natAbs) (xZ (z:=k) (by rw[if_pos rfl];omega))) rfl rfl rfl rfl rfl rfl rfl ?_;exact aj
 ·refine kU func174 ?_
  iterate 2 refine kG ?_
  refine Qs ?_;refine kG ?_;refine kO ?_;refine kB false ?_ ?_
  ·exact F_ h
  refine kG ?_;refine kO ?_;refine kB false ?_ ?_
  ·exact F_ h
  refine kO ?_;refine ac (ke k.natAbs O_) rfl rfl rfl rfl rfl rfl rfl ?_;refine ac (bw (neg:=false) (ae k.natAbs) (xZ (z:=k) (by rw[if_neg D_];omega))) rfl rfl rfl rfl rfl rfl rfl ?_;exact aj
theorem ej (k:Int) (h1: -9223372036854775808<=k) (h2:k<9223372036854775808):aa Tryz.prog 82 [dN .i64 k] (.one (dZ k)):=by
 by_cases h:k<0
 ·refine kU func82 ?_
  iterate 2 refine kG ?_
  refine kO ?_;refine kB true ?_ ?_
  ·exact T_ h
  refine kG ?_
  refine kO2 ?_
  refine QP ?_;refine ac (pB k.natAbs O_) rfl rfl rfl rfl rfl rfl rfl ?_;refine ac (bO (neg:=true) (ae k.natAbs) (xZ (z:=k) (by rw[if_pos rfl];omega))) rfl rfl rfl rfl rfl rfl rfl ?_;exact aj
 ·refine kU func82 ?_
  iterate 2 refine kG ?_
  refine kO ?_;refine kB false ?_ ?_
  ·exact F_ h
  refine kG ?_;refine Qs ?_;refine ac (pB k.natAbs O_) rfl rfl rfl rfl rfl rfl rfl ?_;refine ac (bO (neg:=false) (ae k.natAbs) (xZ (z:=k) (by rw[if_neg D_];omega))) rfl rfl rfl rfl rfl rfl rfl ?_;exact aj
theorem vS:digs 1=[1]:=by rw[fV D_,show 1/4294967296=0 from rfl,aK]
theorem yb {na nb:Bool} {xs ys:List Nat} (hw:Wd xs) (hw':Wd ys) (h1:lx xs) (h2:lx ys) (h0:bI nb ys≠0) {q r:Int} (hq:(bI na xs).fdiv (bI nb ys)=q) (hr:(bI na xs).fmod (bI nb ys)=r):aa Tryz.prog 299 [dI na xs,dI nb ys] (.tup [dZ q,dZ r,dN .i64 0]):=by
 have f1:=dV hw h1;have f2:=dV hw' h2;have t1:aa Tryz.prog 194 [dW xs] (.one (dW (digs (val xs)))):=cZ hw;have t2:aa Tryz.prog 194 [dW ys] (.one (dW (digs (val ys)))):=cZ hw';have hy:val ys≠0:=fun e=>h0 (zJ.2 e)
 rw[eD,eD]at hq hr;generalize val xs=a at *;generalize val ys=b at *;have d:=pN (a:=a) (b:=b) f1 O_;have hbl:(digs b).length≠0:=fun h=>hy (aX.1 h)
 have hml:=Nat.mod_lt a (show 0<b by omega);have hdm:=Nat.div_add_mod a b;have hrl:(digs (a%b)).length=0↔a%b=0:=aX;have hq1:(digs (a/b)).length<=2147483648:=V_ (lq (Nat.div_le_self a b)) f1;have hdi:((b*(a/b)+a%b:Nat):Int)=a:=by rw[hdm]
 rw[Int.natCast_add,Int.natCast_mul]at hdi;have key:∀(Q R:Int),(if na=true then -(a:Int)else a)=Q*(if nb=true then -(b:Int)else b)+R->((0<=R/\R<(if nb=true then -(b:Int)else b))∨((if nb=true then -(b:Int)else b)<R/\R<=0))->Q=q/\R=r:=fun Q R g1 g2=>⟨(fd g1 g2).1.symm.trans hq,(fd g1 g2).2.symm.trans hr⟩
 clear hq hr hdm h0;generalize a/b=u at *;generalize a%b=v at *
 by_cases hs:na=nb∨v=0
 ·have hz:(if(!(na == nb))=true then -(u:Int)else u)=q/\(if nb=true then -(v:Int)else v)=r:=by
   refine key _ _ ?_ ?_
   ·have e1:(b:Int)*u=(u:Int)*b:=Int.mul_comm _ _
    rw[e1]at hdi;generalize hp:(u:Int)*b=p at *;have e2: -(u:Int)*b= -p:=by rw[Int.neg_mul,hp]
    have e3:(u:Int)* -b= -p:=by rw[Int.mul_neg,hp]
    have e4: -(u:Int)* -b=p:=by rw[Int.neg_mul_neg,hp]
    cases na<;>cases nb<;>simp only[Bool.false_eq_true,if_false,if_true,beq_self_eq_true,Bool.not_true,Bool.not_false,reduceCtorEq,false_or,hp,e2,e3,e4,show(false == true)=false from rfl,show(true == false)=false from rfl]at hs ⊢ <;>omega
   ·cases nb<;>simp <;>omega
  have s1:=bw (neg:=!(na == nb)) (ae u) (xZ hz.1);have s2:=bw (neg:=nb) (ae v) (xZ hz.2)
  by_cases hn:na=nb
  ·subst hn
   refine Ln ?_;refine kB false ?_ ?_
   ·exact(by simp)
   refine Eb ?_;exact aj
  ·have hv0:=hs.resolve_left hn
   refine Ln ?_;refine kB true ?_ ?_
   ·exact(by simpa using hn)
   refine FL ?_;refine kQ (s1) ?_;refine kC (s2) ?_;exact aj
 ·have hn:¬na=nb:=fun h=>hs (.inl h)
  have hv:v≠0:=fun h=>hs (.inr h)
  have hz:(if(!(na == nb))=true then -((u+1:Nat):Int)else((u+1:Nat):Int))=q/\(if nb=true then -((b-v:Nat):Int)else((b-v:Nat):Int))=r:=by
   refine key _ _ ?_ ?_
   ·have e1:(b:Int)*u=(u:Int)*b:=Int.mul_comm _ _
    rw[e1]at hdi;have e5:((u+1:Nat):Int)*b=(u:Int)*b+b:=by rw[Int.natCast_add,Int.add_mul];simp
    generalize hp:(u:Int)*b=p at *;have e2: -((u+1:Nat):Int)*b= -(p+b):=by rw[Int.neg_mul,e5]
    have e3:((u+1:Nat):Int)* -b= -(p+b):=by rw[Int.mul_neg,e5]
    have e4: -((u+1:Nat):Int)* -b=p+b:=by rw[Int.neg_mul_neg,e5]
    cases na<;>cases nb<;>simp only[Bool.false_eq_true,if_false,if_true,beq_self_eq_true,Bool.not_true,Bool.not_false,reduceCtorEq,not_true_eq_false,e5,e2,e3,e4,show(false == true)=false from rfl,show(true == false)=false from rfl]at hn ⊢ <;>omega
   ·cases nb<;>simp <;>omega
  have s1:=bw (neg:=!(na == nb)) (ae (u+1)) (xZ hz.1);have s2:=bw (neg:=nb) (ae (b-v)) (xZ hz.2);have pl:=vq (a:=u) (b:=1) O_ (by rw[vS];decide);rw[vS]at pl;have mi:=mB (a:=b) (b:=v) O_ O_;refine Ln ?_;refine kB true ?_ ?_
  ·exact(by simpa using hn)
  refine kO3 ?_
  refine kX ?_;refine kQ (pl) ?_;refine kC (mi) ?_;refine Eb ?_;exact aj
theorem Wb (r b:Int):(r.sign*b.sign<0↔(r<0/\0<b)∨(0<r/\b<0))/\ -1<=r.sign*b.sign/\r.sign*b.sign<=1:=by
 have key:∀x:Int,(x<0/\x.sign= -1)∨(x=0/\x.sign=0)∨(0<x/\x.sign=1):=fun x=>by
  rcases Int.lt_trichotomy x 0 with h|h|h
  ·exact .inl ⟨h,Int.sign_eq_neg_one_of_neg h⟩
  ·exact .inr (.inl ⟨h,by rw[h];rfl⟩)
  ·exact .inr (.inr ⟨h,Int.sign_eq_one_of_pos h⟩)
 rcases key r with⟨h1,e1⟩| ⟨h1,e1⟩| ⟨h1,e1⟩<;>rcases key b with⟨h2,e2⟩| ⟨h2,e2⟩| ⟨h2,e2⟩<;>rw[e1,e2]<;>simp <;>omega
theorem wt {na nb:Bool} {xs ys:List Nat} (hw:Wd xs) (hw':Wd ys) (h1:lx xs) (h2:lx ys) (h0:bI nb ys≠0) {q r:Int} (hq:(bI na xs).fdiv (bI nb ys)=q) (hr:(bI na xs).fmod (bI nb ys)=r):aa Tryz.prog 279 [dI na xs,dI nb ys] (.tup [dZ q,dZ r,dN .i64 0]):=by
 have f1:=dV hw h1;have f2:=dV hw' h2;have n1:=eu (na:=na) hw rfl;have n2:=eu (na:=nb) hw' rfl;have e1:(bI na xs).natAbs=val xs:=by rw[eD];cases na<;>simp
 have e2:(bI nb ys).natAbs=val ys:=by rw[eD];cases nb<;>simp
 rw[<- e1]at f1;rw[<- e2]at f2;generalize bI na xs=a at *;generalize bI nb ys=b at *;clear e1 e2;have d:=nE (a:=a.natAbs) (b:=b.natAbs) f1 O_;have hbl:(digs b.natAbs).length≠0:=fun h=>h0 (by have:=aX.1 h;omega)
 have hml:=Nat.mod_lt a.natAbs (show 0<b.natAbs by omega);have hdm:=Nat.div_add_mod a.natAbs b.natAbs;have hdi:((b.natAbs*(a.natAbs/b.natAbs)+a.natAbs%b.natAbs:Nat):Int)=a.natAbs:=by rw[hdm]
 rw[Int.natCast_add,Int.natCast_mul,Int.mul_comm]at hdi;have hu:a.natAbs/b.natAbs<=a.natAbs:=Nat.div_le_self _ _;generalize a.natAbs/b.natAbs=u at *;generalize a.natAbs%b.natAbs=v at *;clear hdm;obtain⟨t,ht⟩:∃t:Int,(if(!(decide (a<0) == decide (b<0)))=true then -(u:Int)else u)=t:=⟨_,rfl⟩;have s1:=bO (neg:=!(decide (a<0) == decide (b<0))) (ae u) (xZ ht)
 have htb:t*b=if a<0 then -((u:Int)*b.natAbs)else(u:Int)*b.natAbs:=by
  rw[<- ht]
  by_cases ha:a<0<;>by_cases hb:b<0
  ·rw[show(b.natAbs:Int)= -b by omega];simp[ha,hb,Int.neg_mul,Int.mul_neg]
  ·rw[show(b.natAbs:Int)=b by omega];simp[ha,hb,Int.neg_mul,Int.mul_neg]
  ·rw[show(b.natAbs:Int)= -b by omega];simp[ha,hb,Int.neg_mul,Int.mul_neg]
  ·rw[show(b.natAbs:Int)=b by omega];simp[ha,hb,Int.neg_mul,Int.mul_neg]
 have htn:t.natAbs=u:=by rw[<- ht];split <;>omega
 have key:∀(Q R:Int),a=Q*b+R->((0<=R/\R<b)∨(b<R/\R<=0))->Q=q/\R=r:=fun Q R g1 g2=>⟨(fd g1 g2).1.symm.trans hq,(fd g1 g2).2.symm.trans hr⟩
 have fa:db a:=f1;have fb:db b:=f2;have ft:db t:=fa.le O_;generalize hp:(u:Int)*b.natAbs=p at *;have hp0:0<=p:=by rw[<- hp];exact Int.mul_nonneg O_ O_
 have ftb:db (t*b):=fa.le (by rw[htb];split <;>omega);have mu:=dt ft fb;have su:=rh fa ftb;obtain⟨m,hm⟩:∃m,a-t*b=m:=⟨_,rfl⟩;rw[hm]at su;have hm1:m=if a<0 then -(v:Int)else v:=by rw[<- hm,htb];split <;>omega
 have sg1:=f7 m;have sg2:=f7 b;have hs:=Wb m b;have fm:db m:=fb.le (by rw[hm1];split <;>omega);obtain⟨w,hwe⟩:∃w,m.sign*b.sign=w:=⟨_,rfl⟩;rw[hwe]at hs;have b1:(decide (a<0) == decide (a<0))=true:=S_
 by_cases hw0:w<0
 ·have hkey:t-1=q/\m+b=r:=by
   refine key _ _ ?_ ?_
   ·rw[Int.sub_mul,Int.one_mul];omega
   ·have h3:=hs.1.1 hw0
    exact N4
  have fr:=ej 1 D_ D_;have sb:=rh ft (db.small (z:=1) D_);have ad:=jf fm fb;rw[hkey.1]at sb;rw[hkey.2]at ad;refine kU func279 ?_;refine y2 ?_;refine kG ?_;refine FL ?_;refine Ok ?_;refine kB true ?_ ?_
  ·exact T_ hw0
  refine kW ?_;refine kC (fr) ?_;refine kQ (sb) ?_;refine kC (ad) ?_;exact aj
 ·have hkey:t=q/\m=r:=by
   refine key _ _ O_ ?_;have h3:¬((m<0/\0<b)∨(0<m/\b<0)):=fun h=>hw0 (hs.1.2 h)
   exact N4
  obtain⟨rfl,rfl⟩:=hkey;refine kU func279 ?_;refine y2 ?_;refine kG ?_;refine FL ?_;refine Ok ?_;refine kB false ?_ ?_
  ·exact F_ hw0
  exact aj
theorem Gz {t:TypeId} {x y:Operand} {q:IntKind} {a b:Nat} (hb:b≠0):j7 .rem t x y (.int q (a:Int)) (.int q (b:Int))=some (.int q ((a%b:Nat):Int)):=by
 rw[sP O_];rfl
theorem Fx {t:TypeId} {x y:Operand} {a b:Nat} (hb:b≠0) (ha:a<=1000000):j7 .quo t x y (.int .i64 (a:Int)) (.int .i64 (b:Int))=some (.int .i64 ((a/b:Nat):Int)):=by
 show xK (do eqGuard .quo t x y (.int .i64 (a:Int)) (.int .i64 (b:Int));binOp .quo t (.int .i64 (a:Int)) (.int .i64 (b:Int)))=_;have h1:(b:Int)≠0:=O_
 have h2:IntKind.i64.wrap ((a:Int).tdiv (b:Int))=((a/b:Nat):Int):=by
  have:=Nat.div_le_self a b;rw[show(a:Int).tdiv (b:Int)=((a/b:Nat):Int) from rfl];generalize a/b=u at *;rw[IntWalk.i64_in _ O_]
 have:binOp .quo t (.int .i64 (a:Int)) (.int .i64 (b:Int))= .pure (.int .i64 ((a/b:Nat):Int)):=by
  simp only[binOp,ne_eq,not_true_eq_false,if_false,Op.intDiv,h1,h2]
  rfl
 simp only[this]
 rfl
theorem FI {a:Int} {k K:Nat} (hk:k<=4096) (hK:K<=2147483648) (hb:(max 1 a.natAbs)^k<4294967296^K) (h1:db a) {z:Int} (hz:a^k=z):aa Tryz.prog 357 [dZ a,dN .i64 k] (.tup [dZ z,dN .i64 0]):=by
 have fit:∀i,i<=k->db (a^i):=fun i hi=>F8 a i k K hb hi hK
 have mul:∀i j,i<=k->j<=k->aa Tryz.prog 192 [dZ (a^i),dZ (a^j)] (.one (dZ (a^(i+j)))):=fun i j h h'=>by
  have:=dM (fit i h) (fit j h')
  rwa[<- Int.pow_add]at this
 have fr:=d7 1 D_ D_;have no:=Ci h1;subst hz;refine kU func357 ?_
 iterate 2 refine kG ?_
 refine kO ?_;refine kE ?_;refine Ss ?_;refine kQ (fr) ?_;refine kQ (no) ?_
 refine aq (Nat × Nat × Nat) (fun p=>p.1+p.2.1*p.2.2=k/\p.2.2<=4096) (fun p=>⟨[(1, .d (dN .i64 p.2.2)),(4, .box 1 0),(6, .box 3003 0),(7, .box 3004 0)],[(1,some [.val (.bool false), .sl 0 []]),(3003,some (aZ (a^p.1))),(3004,some (aZ (a^p.2.1)))]⟩) (fun p=>p.2.2) (0,1,k) ⟨by simp,hk⟩ (by
  show aM _ ⟨_,[(1,_),(3003,some (aZ (a^0))),(3004,some (aZ (a^1)))]⟩;rw[Int.pow_zero,Int.pow_succ,Int.pow_zero,Int.one_mul];exact weak ⟨rfl,rfl,rfl,rfl,trivial⟩ ⟨rfl,rfl,rfl,trivial⟩ rfl) ?_
 rintro⟨i,j,m⟩ ⟨hk2,hm⟩;dsimp only at hk2 hm ⊢;have hrem:=Gz (t:=3) (x:= .tmp 20) (y:= .const (.int .i64 2)) (q:= .i64) (a:=m) (b:=2) D_;have hquo:=Fx (t:=3) (x:= .tmp 26) (y:= .const (.int .i64 2)) (a:=m) (b:=2) D_ O_;obtain⟨e,he⟩:∃e,m%2=e:=⟨_,rfl⟩;obtain⟨h,hh⟩:∃h,m/2=h:=⟨_,rfl⟩;have hm2:m=2*h+e/\e<2:=O_
 rw[he]at hrem;rw[hh]at hquo;clear he hh;obtain⟨hm2,he2⟩:=hm2
 by_cases hm0:m=0
 ·subst hm0
  rw[Nat.mul_zero,Nat.add_zero]at hk2;subst hk2;refine kI ?_;refine kO ?_;refine kE ?_;exact aj
 have hjm:j*m=j*(2*h)+j*e:=by rw[hm2,Nat.mul_add]
 have hj2:j*(2*h)=(j+j)*h:=by rw[<- Nat.mul_assoc,Nat.mul_two]
 have hj0:j<=j*m:=Nat.le_mul_of_pos_right j O_
 by_cases he1:e=1
 ·subst he1
  rw[o_]at hjm
  by_cases hh0:h=0
  ·refine On ?_
   refine Cy ?_;exact⟨(i+j,j,h),⟨by dsimp only;rw[hh0,Nat.mul_zero]at hjm;rw[hh0,Nat.mul_zero];omega,by dsimp only;omega⟩,by dsimp only;omega,weak ⟨rfl,rfl,rfl,rfl,trivial⟩ ⟨rfl,rfl,rfl,trivial⟩ rfl⟩
  ·have hjh:j+j<=(j+j)*h:=Nat.le_mul_of_pos_right _ O_
   refine On ?_;refine F6 ?_;refine ac (mul j j O_ O_) rfl rfl rfl rfl rfl rfl rfl ?_;refine kW ?_;exact⟨(i+j,j+j,h),⟨by dsimp only;omega,by dsimp only;omega⟩,by dsimp only;omega,weak ⟨rfl,rfl,rfl,rfl,trivial⟩ ⟨rfl,rfl,rfl,trivial⟩ rfl⟩
 ·obtain rfl:e=0:=O_
  rw[Nat.mul_zero,Nat.add_zero]at hjm;have hjh:j+j<=(j+j)*h:=Nat.le_mul_of_pos_right _ O_;refine kI ?_;refine kO ?_;refine kT ?_;refine kG ?_;refine kO ?_;refine ax rfl rfl rfl rfl rfl rfl rfl hrem ?_;refine kG ?_;refine kO ?_;refine ax rfl rfl rfl rfl rfl rfl rfl hquo ?_;refine kG ?_;refine F6 ?_;refine ac (mul j j O_ O_) rfl rfl rfl rfl rfl rfl rfl ?_;refine kW ?_;exact⟨(i,j+j,h),⟨by dsimp only;omega,by dsimp only;omega⟩,by dsimp only;omega,weak ⟨rfl,rfl,rfl,rfl,trivial⟩ ⟨rfl,rfl,rfl,trivial⟩ rfl⟩
section
open Go.ChangeShapes Go.WideShapes Go.ChangeAt Go.RowKit Go.Joins
theorem WV (w:World) (hT:dU (fun _=>False) w):dU (fun _=>False) w:=hT
theorem Gx {f:FuncId} {ds:List DV} (h:aa Tryz.prog f ds (.one (dB true))) {w:World} (hT:dU (fun _=>False) w) {vs:List Value} (hv:VM (fun _=>False) w ds vs):Calls Tryz.prog f vs.toArray w (V2 true w):=
 (h.calls _ w vs (WV w hT) hv).mono fun e w' ⟨v,he,hm,hb⟩=>by
  obtain rfl:=bc (show AV.M _ _ _ _ from hm);exact⟨he,hb⟩
end
theorem tI {a b:Nat}:Nat.gcd b (a%b)=Nat.gcd a b:=by rw[Nat.gcd_comm a b,Nat.gcd_rec b a,Nat.gcd_comm]
theorem vj {na nb:Bool} {xs ys:List Nat} (hw:Wd xs) (hw':Wd ys) (h1:lx xs) (h2:lx ys):aa Tryz.prog 221 [dI na xs,dI nb ys] (.one (dZ (Nat.gcd (val xs) (val ys)))):=by
 have f1:(digs (val xs)).length<=2147483648:=by have:=bR hw;unfold trim at this;unfold lx at h1;omega
 have f2:(digs (val ys)).length<=2147483648:=by have:=bR hw';unfold trim at this;unfold lx at h2;omega
 refine kV func221 ?_;refine kQ (l5 hw) ?_;refine kQ (l5 hw') ?_;refine aq (Nat × Nat) (fun p=>Nat.gcd p.1 p.2=Nat.gcd (val xs) (val ys)/\(digs p.1).length<=2147483648/\(digs p.2).length<=2147483648) (fun p=>⟨[(4, .box 2 0),(5, .d (dW (digs p.1))),(6, .d (dW (digs p.2)))],[(2,some [.val (.bool false), .sl 0 []])]⟩) (fun p=>p.2) (val xs,val ys) ⟨rfl,f1,f2⟩ kw ?_;rintro⟨u,v⟩ ⟨hg,g1,g2⟩;dsimp only at hg g1 g2 ⊢;refine kW ?_;refine ir rfl (fun h=>?_) (fun h=>?_)
 ·have hv:0<v:=by
   rcases Nat.eq_zero_or_pos v with hv|hv
   ·have:=h_ h;rw[aX.2 hv]at this;omega
   ·exact hv
  refine dp ?_;refine kW ?_;refine kQ (nE g1 hv) ?_;have hm:=Nat.mod_lt u hv;refine⟨(v,u%v),⟨tI.trans hg,g2,V_ (iC (Nat.le_of_lt hm)) g2⟩,hm,weak ⟨rfl,rfl,rfl,trivial⟩ ⟨rfl,trivial⟩ rfl⟩
 ·have hv:v=0:=by
   have:=of_decide_eq_false h;exact aX.1 O_
  subst hv;rw[Nat.gcd_zero_right]at hg;refine iA ?_;refine kW ?_;refine ac (bO (neg:=false) (xs:=digs u) (ae _) (show bI false (digs u)=((Nat.gcd (val xs) (val ys):Nat):Int) by rw[zj,<- hg];rfl)) rfl rfl rfl rfl rfl rfl rfl ?_;exact aj
theorem At {na nb:Bool} {xs ys:List Nat} (hw:Wd xs) (hw':Wd ys) (h1:lx xs) (h2:lx ys):aa Tryz.prog 231 [dI na xs,dI nb ys] (.one (dZ (Nat.gcd (val xs) (val ys)))):=by
 have f1:(digs (val xs)).length<=2147483648:=by have:=bR hw;unfold trim at this;unfold lx at h1;omega
 have f2:(digs (val ys)).length<=2147483648:=by have:=bR hw';unfold trim at this;unfold lx at h2;omega
 refine kV func231 ?_;refine kQ (cZ hw) ?_;refine kQ (cZ hw') ?_;refine aq (Nat × Nat) (fun p=>Nat.gcd p.1 p.2=Nat.gcd (val xs) (val ys)/\(digs p.1).length<=2147483648/\(digs p.2).length<=2147483648) (fun p=>⟨[(4, .box 2 0),(5, .d (dW (digs p.1))),(6, .d (dW (digs p.2)))],[(2,some [.val (.bool false), .sl 0 []])]⟩) (fun p=>p.2) (val xs,val ys) ⟨rfl,f1,f2⟩ kw ?_;rintro⟨u,v⟩ ⟨hg,g1,g2⟩;dsimp only at hg g1 g2 ⊢
 by_cases hb:2<(digs v).length∨(2<(digs u).length/\0<(digs v).length)
 ·have hv:0<v:=by
   rcases Nat.eq_zero_or_pos v with hv|hv
   ·rw[hv,aK]at hb;simp at hb
   ·exact hv
  have hm:=Nat.mod_lt u hv
  by_cases h2:2<(digs v).length
  ·refine rH ?_
   exact Oz
  ·have h3:2<(digs u).length/\0<(digs v).length:=O_
   refine rH ?_;refine kE ?_;refine u6 ?_;exact Oz
 ·have hz:v=0∨(0<v/\(digs v).length<=2/\(digs u).length<=2):=by
   rcases Nat.eq_zero_or_pos v with hv|hv
   ·exact .inl hv
   ·have:0<(digs v).length:=by
     exact O1
    exact .inr ⟨hv,by omega,by omega⟩
  rcases hz with hv| ⟨hv,hv2,hu2⟩
  ·subst hv
   rw[Nat.gcd_zero_right]at hg;have hl0:(digs 0).length=0:=aX.2 rfl
   by_cases hu2:2<(digs u).length
   ·refine rH ?_
    refine kE ?_;refine u6 ?_;refine kY ?_;refine N7 ?_;refine Rq ?_;exact aj
   ·refine rH ?_
    refine kE ?_;refine FL ?_;refine N7 ?_;refine Rq ?_;exact aj
  ·have hvl:0<(digs v).length:=by
    exact O1
   have hu64:u<18446744073709551616:=by have:=bX hu2;simpa using this
   have hv64:v<18446744073709551616:=by have:=bX hv2;simpa using this
   refine rH ?_;refine kE ?_;refine FL ?_;refine d4 (T:=TT) rfl ?_ ?_
   ·exact beq_eq_false_iff_ne.2 O_
   refine kW ?_;refine kQ (vI (ae u) hu2) ?_;refine kQ (vI (ae v) hv2) ?_;rw[ah,ah];refine aq (Nat × Nat) (fun p=>Nat.gcd p.1 p.2=Nat.gcd (val xs) (val ys)/\p.1<18446744073709551616/\p.2<18446744073709551616) (fun p=>⟨[(4, .box 2 0),(9, .d (dN .u64 p.1)),(10, .d (dN .u64 p.2))],[(2,some [.val (.bool false), .sl 0 []])]⟩) (fun p=>p.2) (u,v) ⟨hg,hu64,hv64⟩ kw ?_;clear hg hu64 hv64 g1 g2 hu2 hv2 hvl hv hb;clear u v;rintro⟨u,v⟩ ⟨hg,hu,hv⟩;dsimp only at hg hu hv ⊢;rcases Nat.eq_zero_or_pos v with h0|h0
   ·subst h0
    rw[Nat.gcd_zero_right]at hg;refine kW ?_;refine kC (ke u hu) ?_;refine Rq ?_;exact aj
   ·refine tM ?_
    refine kB true ?_ ?_
    ·exact bne_iff_ne.2 O_
    refine kW ?_;refine ax rfl rfl rfl rfl ?_ rfl rfl (sP O_) ?_
    ·rfl
    refine kW ?_;have hm:=Nat.mod_lt u h0;refine⟨(v,u%v),⟨tI.trans hg,hv,by dsimp only;omega⟩,hm,weak ⟨rfl,rfl,?_,trivial⟩ ⟨rfl,trivial⟩ rfl⟩;show TV.d (.leaf (.val (.int .u64 ((u:Int).tmod v))))=TV.d (dN .u64 ((u%v:Nat):Int));rw[Int.ofNat_tmod];rfl
def Bs (l:List UInt8):ByteArray:=⟨l.toArray⟩
def dL (l:List UInt8):DV:=dS (Bs l)
def vL (l:List UInt8):Value:= .string (Bs l)
theorem O6 (s:ByteArray):Bs s.data.toList=s:=rfl
theorem aJ (l:List UInt8):(Bs l).size=l.length:=by simp[Bs,ByteArray.size]
theorem fM (l:List UInt8):(Bs l).toList=l:=ByteArray.toList_mk l
theorem E2 (a b:List UInt8):Bs a++Bs b=Bs (a++b):=by
 apply ByteArray.ext
 simp[Bs]
theorem mq (l:List UInt8) (i j:Nat):(Bs l).extract i j=Bs ((l.take j).drop i):=by
 apply ByteArray.ext
 simp[Bs,ByteArray.data_extract,List.extract_eq_take_drop,List.drop_take]
theorem iN {t:TypeId} {x y:Operand} {a b:List UInt8}:j7 .eql t x y (vL a) (vL b)=some (.bool (decide (a=b))):=by
 show some (Value.bool ((Bs a).toList == (Bs b).toList))=_;rw[fM,fM]
 congr 2
 by_cases h:a=b<;>simp[h]
theorem tX {t:TypeId} {x y:Operand} {a b:List UInt8}:j7 .neq t x y (vL a) (vL b)=some (.bool (!decide (a=b))):=by
 show some (Value.bool (!((Bs a).toList == (Bs b).toList)))=_;rw[fM,fM]
 congr 3
 by_cases h:a=b<;>simp[h]
theorem dG {t:TypeId} {x y:Operand} {a b:List UInt8} (h:a.length+b.length<=9223372036854775807):j7 .add t x y (vL a) (vL b)=some (vL (a++b)):=by
 have h1:¬(((Bs a).size+(Bs b).size:Nat):Int) > IntKind.i64.max:=by
  rw[aJ,aJ,show IntKind.i64.max=9223372036854775807 from by decide];omega
 have:binOp .add t (vL a) (vL b)= .pure (vL (a++b)):=by
  simp only[binOp,vL,Op.stringOp,h1,if_false,E2]
  rfl
 show xK (do eqGuard .add t x y (vL a) (vL b);binOp .add t (vL a) (vL b))=_
 simp only[this]
 rfl
section
variable {P:Program} {T:TypeId->Option Ty} {n:Nat} {ops:Array Oper} {id:Nat} {draw:Bool} {K:AS->Prop} {s:AS} {k:Nat} {o:Oper} {os:List Oper} {fps:List FP}
theorem pm {t:TypeId} {ty:Ty} (hT:a8 P t ty) (hs:ty.isStr=true):P.underlying t=some .string:=by
 obtain⟨d,hu,_,_,_,_,hst,_⟩:=hT.und;rw[hu,hst hs]
theorem gL (hT:∀t d,T t=some d->a8 P t d) {t:TypeId} {ty:Ty} {x y:Operand} {l:List UInt8} {c:UInt8} {i:Nat} {ik:IntKind} (hi:l[i]? =some c) (h1:gd ops s o=some true) (h2:o.op= .index t x y) (h5:T t=some ty) (h6:ty.isStr=true) (h7:s.ev x= .d (.leaf (.val (vL l)))) (h8:s.ev y= .d (.leaf (.val (.int ik (i:Nat)))))
 (h3:aL n o.dst=true) (h4:fg draw ops (aA ops o ⟨.d (dN .u8 c.toNat),none⟩ []) k fps=true) (h:ar P T n ops id draw K (k+1) os (s.eff o.dst ⟨.d (dN .u8 c.toNat),none⟩) (aA ops o ⟨.d (dN .u8 c.toNat),none⟩ []::fps)):ar P T n ops id draw K k (o::os) s fps:=by
 refine .run h1 (.gen fun s2 ht _=>?_) h3 h4 h;have hx:=(aw ht (x:=x) (by simp[h2,Op.operands])).trans h7;have hy:=(aw ht (x:=y) (by simp[h2,Op.operands])).trans h8;have hu:=pm (hT _ _ h5) h6;have hl:i<l.length:=(G_.1 hi).1
 refine ak fun n S0 w0 g a w hM=>⟨.int .u8 c.toNat,w,?_,Below.refl _ _,AV.M.val rfl⟩
 unfold execOp;rw[h2];have hsz:=aJ l
 have hget:(Bs l)[i]'(by rw[hsz];exact hl)=c:=by
  have:=(G_.1 hi).2;show(Bs l).data[i]'_=c
  simpa[Bs]using this
 simp only[a7 hM hx,a7 hM hy,vL,Y_,run_index_string _ t (Bs l) ik i hu]
 rw[dif_pos (by rw[hsz];omega)]
 simp only[R_,Int.toNat_natCast,hget]
 rfl
theorem zi (hT:∀t d,T t=some d->a8 P t d) {t:TypeId} {ty:Ty} {x y:Operand} {l:List UInt8} {i:Nat} {ik:IntKind} (hi:i<=l.length) (h1:gd ops s o=some true) (h2:o.op= .slice t x (some y) none none) (h5:T t=some ty) (h6:ty.isStr=true) (h7:s.ev x= .d (.leaf (.val (vL l)))) (h8:s.ev y= .d (.leaf (.val (.int ik (i:Nat)))))
 (h3:aL n o.dst=true) (h4:fg draw ops (aA ops o ⟨.d (dL (l.drop i)),none⟩ []) k fps=true) (h:ar P T n ops id draw K (k+1) os (s.eff o.dst ⟨.d (dL (l.drop i)),none⟩) (aA ops o ⟨.d (dL (l.drop i)),none⟩ []::fps)):ar P T n ops id draw K k (o::os) s fps:=by
 refine .run h1 (.gen fun s2 ht _=>?_) h3 h4 h;have hx:=(aw ht (x:=x) (by simp[h2,Op.operands])).trans h7;have hy:=(aw ht (x:=y) (by simp[h2,Op.operands])).trans h8;have hu:=pm (hT _ _ h5) h6;refine ak fun n S0 w0 g a w hM=>⟨vL (l.drop i),w,?_,Below.refl _ _,AV.M.val rfl⟩
 unfold execOp;rw[h2]
 have e1:(Instr.sliceAt t (.string (Bs l)) (some (.int ik i)) none none).run P w= .ok (vL (l.drop i)) w:=by
  refine ET ?_;rw[run_slice_string_l w t (Bs l) hu ik i O_ (by rw[aJ];omega),mq,aJ]
  simp[vL]
 simp only[a7 hM hx,a7 hM hy,vL,Option.map_some,Option.map_none,Y_,e1,R_]
 rfl
end
section
variable {P:Program} {T:TypeId->Option Ty} {n:Nat} {s:AS}
theorem lL {x y:Code} {Q:AX->AS->Prop} (σ:AS) (hy:∀s',aM s' σ->fP P T n y Q s') (hx:∀R:AX->AS->Prop,(∀s',aM s' σ->R .normal s')->R .ret=Q .ret->fP P T n x R s):fP P T n (.seq x y) Q s:=bu (hx _ hy rfl)
theorem Rp {x y:Code} {Q:AX->AS->Prop} (σ:AS) (φ:Prop) (hy:φ-> ∀s',aM s' σ->fP P T n y Q s') (hx:∀R:AX->AS->Prop,(φ-> ∀s',aM s' σ->R .normal s')->R .ret=Q .ret->fP P T n x R s):fP P T n (.seq x y) Q s:=bu (hx _ hy rfl)
theorem aM.trans {a b c:AS} (h:aM a b) (h':aM b c):aM a c:=fun n S0 w0 x w m=>h' n S0 w0 x w (h n S0 w0 x w m)
theorem MG.rename {S0:Nat->Prop} {w0:eR} {g:Nat->Nat} {a:Act} {w:World} (h:MG n S0 w0 g s a w) {j j':Nat} {cs:List AV} (hj:s.bx j=some cs) (hn:ap s.b j'=none) (hw:bL j'=bL j) (hrv:iF j'=false) (hlb:cM j'=false):
 ∃g',MG n S0 w0 g' ⟨s.t,(j',some cs)::(j,none)::s.b⟩ a w/\(∀(m k e:Nat) (v:Value),TV.M (Own S0 g s) g s w (.own j m k e) v->TV.M (Own S0 g' ⟨s.t,(j',some cs)::(j,none)::s.b⟩) g' ⟨s.t,(j',some cs)::(j,none)::s.b⟩ w (.own j' m k e) v)/\ ∀i,i≠j'->g' i=g i:=by
 have hjj:j'≠j:=fun e=>by
  subst e;obtain⟨x,hx⟩:=AS.kn_of hj;rw[hn]at hx;cases hx
 have hkn:∀i,s.kn i->i≠j':=fun i ⟨x,hx⟩ e=>by subst e;rw[hn]at hx;cases hx
 have hbx:∀i ci,(AS.mk s.t ((j',some cs)::(j,none)::s.b)).bx i=some ci->(i=j'/\ci=cs)∨(i≠j'/\i≠j/\s.bx i=some ci):=fun i ci hi=>by
  by_cases e1:i=j'
  ·subst e1;rw[AS.bx_same]at hi;cases hi;exact .inl ⟨rfl,rfl⟩
  ·rw[AS.bx_ne _ s.t _ _ e1]at hi
   by_cases e2:i=j
   ·subst e2;rw[AS.bx_dead]at hi;cases hi
   ·rw[AS.bx_ne _ s.t _ _ e2]at hi;exact .inr ⟨e1,e2,hi⟩
 have hO:Own S0 (fun i=>if i=j' then g j else g i) (AS.mk s.t ((j',some cs)::(j,none)::s.b))=Own S0 g s:=by
  funext b
  apply propext
  constructor
  ·rintro(h0| ⟨i,ci,hi,e0⟩)
   ·exact .inl h0
   ·rcases hbx i ci hi with⟨rfl,rfl⟩| ⟨h1,h2,h3⟩
    ·simp only[if_true]at e0;exact .inr ⟨j,ci,hj,e0⟩
    ·simp only[h1,if_false]at e0;exact .inr ⟨i,ci,h3,e0⟩
  ·rintro(h0| ⟨i,ci,hi,e0⟩)
   ·exact .inl h0
   ·by_cases e2:i=j
    ·subst e2
     exact .inr ⟨j',cs,AS.bx_same _ _ _ _,by simp only[if_true];exact e0⟩
    ·have h1:=hkn i (AS.kn_of hi)
     refine .inr ⟨i,ci,?_,by simp only[h1,if_false];exact e0⟩;rw[AS.bx_ne _ s.t _ _ h1,AS.bx_ne _ s.t _ _ e2];exact hi
 have hF:iX s (AS.mk s.t ((j',some cs)::(j,none)::s.b)) g (fun i=>if i=j' then g j else g i) w w:=⟨fun z hz=>AS.kn_cons (t:=s.t) _ (AS.kn_cons (t:=s.t) _ hz),fun z cz hk hz=>by
  rcases hbx z cz hz with⟨e1,_⟩| ⟨h1,h2,h3⟩
  ·exact absurd e1 (hkn z hk)
  ·exact⟨cz,h3,l_ _,by simp only[h1,if_false],fun a1 e1 h4=>⟨a1,h4,rfl⟩⟩⟩
 refine⟨fun i=>if i=j' then g j else g i,⟨fun i=>?_,fun i ci hi=>?_,fun i i' ci ci' hi hi' e0=>?_,h.grow,h.df.agree hF,h.sz,h.cl,h.tg,fun k cs hk=>by rw[hO];exact(h.gl k cs hk).agree (bY.refl _ _) (fun _ _ h=>h) hF,fun i q ci h1 h2 hi=>by
  rcases hbx i ci hi with⟨e1,_⟩| ⟨h3,h4,h5⟩
  ·subst e1;rw[hrv]at h1;cases h1
  ·simp only[h3,if_false];exact h.gp i q ci h1 h2 h5,h.nk⟩,fun m k e v hm=>?_,fun i hi=>by simp only[hi,if_false]⟩
 ·rw[hO]
  exact(h.tm i).agree (bY.refl _ _) (fun _ _ h=>h) hF
 ·rw[hO]
  rcases hbx i ci hi with⟨rfl,rfl⟩| ⟨h1,h2,h3⟩
  ·simp only[if_true]
   obtain⟨h1,arr,e1,h4,h5,h6,_⟩:=h.bm j ci hj;exact⟨h1,arr,e1,h4,h5,fun hb=>h6 (by rw[<- hw];exact hb),fun hl=>absurd hl (by rw[hlb];decide),fun ht=>absurd (nB ht) (by rw[hlb];decide)⟩
  ·simp only[h1,if_false]
   obtain⟨h4,h5⟩:=h.bm i ci h3;exact⟨h4,h5.agree rfl (bY.refl _ _) (fun _ _ h=>h) hF⟩
 ·rcases hbx i ci hi with⟨e1,_⟩| ⟨h1,h2,h3⟩<;>rcases hbx i' ci' hi' with⟨e1',_⟩| ⟨h1',h2',h3'⟩
  ·rw[e1,e1']
  ·rw[if_pos e1,if_neg h1']at e0
   exact absurd (h.inj j i' cs ci' hj h3' e0).symm h2'
  ·rw[if_neg h1,if_pos e1']at e0
   exact absurd (h.inj i j ci cs h3 hj e0) h2
  ·rw[if_neg h1,if_neg h1']at e0
   exact h.inj i i' ci ci' h3 h3' e0
 ·obtain⟨c,e1,e2,e3,e4,e5⟩:=hm.2 cs hj
  refine⟨⟨_,am _ _ _⟩,fun ci hc=>?_⟩;rw[AS.bx_same]at hc;cases hc
  simp only[if_true]
  exact⟨c,e1,e2,e3,e4,e5⟩
theorem MG.reslot {S0:Nat->Prop} {w0:eR} {g:Nat->Nat} {a:Act} {w:World} (h:MG n S0 w0 g s a w) {q:Nat} {x:TV} (hx:TV.M (Own S0 g s) g s w x (a.tmps.getD q Go.undef)) (hx1:pf x=true) (hx2:pf (s.tv q)=true):MG n S0 w0 g ⟨(q,x)::s.t,s.b⟩ a w:=by
 refine⟨fun i=>?_,fun i ci hi=>?_,h.inj,h.grow,?_,h.sz,h.cl,h.tg,fun k cs hk=>(h.gl k cs hk).sameB rfl,h.gp,h.nk⟩
 ·by_cases hi:q=i
  ·subst hi
   have e0:(AS.mk ((q,x)::s.t) s.b).tv q=x:=by simp[AS.tv,am]
   rw[e0];exact hx.sameB rfl
  ·have e0:(AS.mk ((q,x)::s.t) s.b).tv i=s.tv i:=by simp[AS.tv,au _ _ hi]
   rw[e0];exact(h.tm i).sameB rfl
 ·obtain⟨h1,h2⟩:=h.bm i ci hi
  exact⟨h1,h2.sameB rfl⟩
 ·by_cases hi:q=DK
  ·have e0:(AS.mk ((q,x)::s.t) s.b).tv DK=x:=by rw[<- hi];simp[AS.tv,am]
   rw[e0];have h0:=h.df;rw[<- hi]at h0;exact(AI.no hx1).2 ((AI.no hx2).1 h0)
  ·have e0:(AS.mk ((q,x)::s.t) s.b).tv DK=s.tv DK:=by simp[AS.tv,au _ _ hi]
   rw[e0];exact h.df.sameB rfl
theorem aD {q j j' m k e:Nat} {cs:List AV} (hq:s.tv q= .own j m k e) (hj:s.bx j=some cs) (hn:ap s.b j'=none) (hw:bL j'=bL j) (hrv:iF j'=false:=by rfl) (hlb:cM j'=false:=by rfl):aM s ⟨(q, .own j' m k e)::s.t,(j',some cs)::(j,none)::s.b⟩:=by
 rintro n S0 w0 a w ⟨g,h⟩;obtain⟨g',h1,h2,_⟩:=h.rename hj hn hw hrv hlb;have hm:=h.tm q;rw[hq]at hm;exact⟨g',h1.reslot (h2 m k e _ hm) rfl (by show pf (s.tv q)=true;rw[hq];rfl)⟩
theorem oj {i off j j' m k e:Nat} {cb cs:List AV} (hlbi:cM i=true) (hi:s.bx i=some cb) (hq:cb[off]? =some (.ow j m k e)) (hj:s.bx j=some cs) (hn:ap s.b j'=none) (hw:bL j'=bL j) (hij:Nat.beq i j=false) (hrv:iF j'=false:=by rfl) (hlb:cM j'=false:=by rfl):
 aM s ⟨s.t,(i,some (cb.set off (.ow j' m k e)))::(j',some cs)::(j,none)::s.b⟩:=by
 rintro n S0 w0 a w ⟨g,h⟩;have hij:i≠j:=fun e=>by subst e;simp at hij
 have hij':i≠j':=fun e=>by subst e;obtain⟨x,hx⟩:=AS.kn_of hi;rw[hn]at hx;cases hx
 obtain⟨g',h1,h2,h3⟩:=h.rename hj hn hw hrv hlb;obtain⟨_,arr,e0,k1,k2,k3,k4,_⟩:=h.bm i cb hi;refine⟨g',h1.recell (by rw[AS.bx_ne _ s.t _ _ hij',AS.bx_ne _ s.t _ _ hij];exact hi) fun arr' e1 q1 v hlt hv=>?_⟩;rw[h3 i hij',k1]at q1
 injection q1 with q1
 injection q1 with q1 q1'
 subst q1 q1';exact⟨.ow (k2.2 off _ v hq hv).plain,fun _=>h2 m k e v (k4 hlbi off _ v hq hv)⟩
theorem Ek {i off:Nat} {cb:List AV} (hi:s.bx i=some cb) (hq:cb[off]? =some .nl):aM s ⟨s.t,(i,some (cb.set off (.sl 0 [])))::s.b⟩:=by
 rintro n S0 w0 a w ⟨g,h⟩;obtain⟨_,arr,e0,k1,k2,_⟩:=h.bm i cb hi;refine⟨g,h.recell hi fun arr' e1 q1 v hlt hv=>?_⟩;rw[k1]at q1
 injection q1 with q1
 injection q1 with q1 q1'
 subst q1 q1';have:=k2.2 off _ v hq hv;cases this;exact⟨.emp (l_ _) D_ (fun _=>rfl),fun _=>trivial⟩
theorem xN {i off j m k e:Nat} {cb cs:List AV} (hlbi:cM i=true) (hi:s.bx i=some cb) (hq:cb[off]? =some (.ow j m k e)) (hj:s.bx j=some cs) (hij:Nat.beq i j=false):aM s ⟨s.t,(i,some (cb.set off (.sl m cs)))::(j,none)::s.b⟩:=by
 rintro n S0 w0 a w ⟨g,h⟩;exact⟨g,h.freezeC hlbi hi hq hj (fun e=>by subst e;simp at hij)⟩
end
section
variable {P:Program} {T:TypeId->Option Ty} {n:Nat} {ops:Array Oper} {id:Nat} {draw:Bool} {K:AS->Prop} {s:AS} {k:Nat} {o:Oper} {os:List Oper} {fps:List FP}
theorem Df {t:TypeId} {ty:Ty} {x:Operand} {i off:Nat} {cs:List AV} {a:AV} (ha:cs[off]? =some a) (h1:gd ops s o=some true) (h2:o.op= .load t x) (h5:T t=some ty) (h6:ty.agg=false) (h7:ty.size=1) (h8:s.ev x= .box i off) (h9:s.bx i=some cs)
 (h3:aL n o.dst=true) (h4:fg draw ops (aA ops o ⟨.d (.leaf a),none⟩ [i]) k fps=true) (h:ar P T n ops id draw K (k+1) os (s.eff o.dst ⟨.d (.leaf a),none⟩) (aA ops o ⟨.d (.leaf a),none⟩ [i]::fps)) (hlb:cM i=false:=by rfl):ar P T n ops id draw K k (o::os) s fps:=by
 refine gT h1 ?_ h3 h4 h;obtain⟨hl,hg⟩:=G_.1 ha;have hb:Nat.ble (off+1) cs.length=true:=Nat.ble_eq_true_of_le hl
 have hd:(cs.drop off).take 1=[a]:=by
  rw[List.drop_eq_getElem_cons hl,hg];rfl
 unfold fv
 simp only[h2,h5,h8,h9,h6,h7,hb,hd,hlb]
 rfl
theorem Aq {t:TypeId} {ty:Ty} {x y:Operand} {i off:Nat} {cs cs':List AV} {a:AV} (hl:off<cs.length) (hs:bz cs off [a]=cs') (h1:gd ops s o=some true) (h2:o.op= .store t x y) (h0:o.dst=none) (h5:T t=some ty) (h7:ty.size=1) (h8:s.ev x= .box i off) (h9:s.bx i=some cs) (h10:KE (s.ev y)=some (.leaf a)) (h11:Vq i [a]=true)
 (h4:fg draw ops (aA ops o ⟨.junk,some [(i,some cs')]⟩ [i]) k fps=true) (h:ar P T n ops id draw K (k+1) os (s.eff o.dst ⟨.junk,some [(i,some cs')]⟩) (aA ops o ⟨.junk,some [(i,some cs')]⟩ [i]::fps)) (hlb:cM i=false:=by rfl):ar P T n ops id draw K k (o::os) s fps:=by
 refine gT h1 ?_ (by rw[h0];rfl) h4 h;have hb:Nat.ble (off+1) cs.length=true:=Nat.ble_eq_true_of_le hl;unfold fv
 simp only[h0,h2,h5,h8,h9,h7,hb,h10,DV.cells,h11,hs,hlb,Lz]
 rfl
end
theorem aU {t:TypeId} {x y:Operand} {a b:List UInt8} (h:a=b):j7 .eql t x y (vL a) (vL b)=some (.bool true):=by rw[iN,T_ h]
theorem bC {t:TypeId} {x y:Operand} {a b:List UInt8} (h:a≠b):j7 .eql t x y (vL a) (vL b)=some (.bool false):=by rw[iN,F_ h]
theorem mS {t:TypeId} {x y:Operand} {a b:List UInt8} (h:a≠b):j7 .neq t x y (vL a) (vL b)=some (.bool true):=by rw[tX,F_ h];rfl
theorem kf {t:TypeId} {x y:Operand} {a b:List UInt8} (h:a=b):j7 .neq t x y (vL a) (vL b)=some (.bool false):=by rw[tX,T_ h];rfl
section
variable {P:Program} {T:TypeId->Option Ty} {n:Nat} {ops:Array Oper} {id:Nat} {draw:Bool} {K:AS->Prop} {s:AS} {k:Nat} {o:Oper} {os:List Oper} {fps:List FP}
theorem PX (hT:∀t d,T t=some d->a8 P t d) {t:TypeId} {ty:Ty} {x y:Operand} {l:List UInt8} {i:Nat} {ik:IntKind} (hi:i<=l.length) (h1:gd ops s o=some true) (h2:o.op= .slice t x none (some y) none) (h5:T t=some ty) (h6:ty.isStr=true) (h7:s.ev x= .d (.leaf (.val (vL l)))) (h8:s.ev y= .d (.leaf (.val (.int ik (i:Nat)))))
 (h3:aL n o.dst=true) (h4:fg draw ops (aA ops o ⟨.d (dL (l.take i)),none⟩ []) k fps=true) (h:ar P T n ops id draw K (k+1) os (s.eff o.dst ⟨.d (dL (l.take i)),none⟩) (aA ops o ⟨.d (dL (l.take i)),none⟩ []::fps)):ar P T n ops id draw K k (o::os) s fps:=by
 refine .run h1 (.gen fun s2 ht _=>?_) h3 h4 h;have hx:=(aw ht (x:=x) (by simp[h2,Op.operands])).trans h7;have hy:=(aw ht (x:=y) (by simp[h2,Op.operands])).trans h8;have hu:=pm (hT _ _ h5) h6;refine ak fun n S0 w0 g a w hM=>⟨vL (l.take i),w,?_,Below.refl _ _,AV.M.val rfl⟩
 unfold execOp;rw[h2]
 have e1:(Instr.sliceAt t (.string (Bs l)) none (some (.int ik i)) none).run P w= .ok (vL (l.take i)) w:=by
  refine ET ?_;rw[run_slice_string_h w t (Bs l) hu ik i O_ (by rw[aJ];omega),mq]
  simp[vL]
 simp only[a7 hM hx,a7 hM hy,vL,Option.map_some,Option.map_none,Y_,e1,R_]
 rfl
end
end Go.Proofs.YtnchbpoopnjghaaGreatDoor
