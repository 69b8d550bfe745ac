/- Mul of the program. Norm and Neg of both packages. Mul of the reference. Integers out of machine numbers. short of the reference: the number of at most two words. slices.Backward over words, and toUint of the program, which ranges over it. -/
import Derived.Test.YtnchbpoopnjghaaGreatDoorCAd
set_option maxHeartbeats 100000000
set_option maxRecDepth 100000
set_option linter.all false
open Go.Proofs.Tryz
namespace Go.Proofs.YtnchbpoopnjghaaGreatDoor
open Go.RowKit
section
attribute [local go_sem ↓] Go.wp_at_zero Go.wp_at_succ
theorem bu {neg:Bool} {A:Option Addr} {n c:Nat} {xs:List Nat} {w:World} {z:Int} (h:bc w A n c xs) (hz:aN neg xs=z):Calls Tryz.prog 232 #[.bool neg, .slice A n c] w (dH z w):=hz ▸ G6 neg A n c xs w h
theorem oK {neg:Bool} {A:Option Addr} {n c:Nat} {xs:List Nat} {w:World} {z:Int} (h:bc w A n c xs) (hz:aN neg xs=z):Calls Tryz.prog 122 #[.bool neg, .slice A n c] w (dH z w):=hz ▸ D9 neg A n c xs w h
theorem dG {xs:List Nat} (h:Wd xs) (h1:xs.length<=2147483648):(trim xs).length<=4294967296:=by have:=b4 h;omega
theorem Lt (na nb:Bool) (xs ys zs:List Nat) (h:val zs=val xs*val ys):aN (!(na == nb)) zs=aN na xs*aN nb ys:=by
 unfold aN;rw[h];cases na<;>cases nb<;>simp[Int.neg_mul,Int.mul_neg]
theorem MT (va vb:Value) (na nb:Bool) (xs ys:List Nat) (w:World) (ha:dh w va na xs) (hb:dh w vb nb ys) (h1:xs.length<=2147483648) (h2:ys.length<=2147483648):
 Calls Tryz.prog 192 #[va,vb] w (dH (aN na xs*aN nb ys) w):=by
 obtain⟨A,n,c,rfl,hx⟩:=ha;obtain⟨B,m,d,rfl,hy⟩:=hb;obtain⟨W,hW⟩:∃W,W=((w.alloc (.cells #[.bool na, .slice A n c] 36)).alloc (.cells #[.bool nb, .slice B m d] 36)).alloc (.cells #[.bool false, .slice none 0 0] 36):=⟨_,rfl⟩;obtain⟨⟨ca0,ca1,cb0,cb1⟩,⟨cr0,cr1,fr0,fr1⟩,hbW⟩:=kH w _ _ _ _ _ _ _ W hW;have hl1:=dG hx.wd h1;have hl2:=dG hy.wd h2;have hE:bw W W.drew:=(bw.refl W).drew;have Hx:=Lib.hid hx;have Hy:=Lib.hid hy;obtain⟨z,hz⟩:∃z,z=aN na xs*aN nb ys:=⟨_,rfl⟩;rw[<- hz];have hz1:aN (!(na == nb)) (digs (val (trim xs)*val (trim ys)))=z:=by rw[hz];exact Lt na nb xs ys _ (by rw[az,aJ,aJ])
 have Hz:=Lib.hid hz1;clear hx hy hz hz1
 go_enter func192,ntmps192
 go_wp2_with fail
 rw[<- hW];clear hW
 go_region_held3 (fun w'=>w'.cell? ⟨w.heap.size,0,none⟩=some (.bool na)/\w'.cell? ⟨w.heap.size,1,none⟩=some (.slice A n c)/\w'.cell? ⟨w.heap.size+1,0,none⟩=some (.bool nb)/\w'.cell? ⟨w.heap.size+1,1,none⟩=some (.slice B m d)/\bw w w')
  (first|exact⟨ca0,ca1,cb0,cb1,hbW.drew⟩|assumption|exact TD (by assumption) (by assumption)|exact um (by assumption) (by omega) (by dsimp only;omega) (by dsimp only;omega) (by dsimp only;omega) (by dsimp only;omega))
  (first
   |((go_at_call 194;(with_reducible refine(bv A n c xs _ (Hx.out.below (JE (by assumption)))).mono ?_);rintro e w' ⟨rfl,rfl⟩))
   |((go_at_call 194;(with_reducible refine(bv B m d ys _ (Hy.out.below (JE (by assumption)))).mono ?_);rintro e w' ⟨rfl,rfl⟩))
   |((go_at_call 259;(with_reducible refine(JL _ _ _ _ _ _ (trim xs) (trim ys) _ (Hx.out.trim.below (JE (by assumption))) (Hy.out.trim.below (JE (by assumption))) hl1 hl2).mono ?_);rintro e w1 ⟨A1,n1,c1,zs,rfl,hw1,rfl,hb1⟩;have hE1:=bw.more (by assumption) hb1))
   |((go_at_call 232;(with_reducible refine(bu (by assumption) Hz.out).mono ?_);rintro e w2 ⟨v2,rfl,⟨A2,n2,c2,rfl,hw2⟩,hb2⟩;have hE2:=bw.more (by assumption) hb2;have su0:=kc cr0 hE2;have su1:=kc cr1 hE2;have sf0:=kf cr0 fr0 hE2;have sf1:=kf cr1 fr1 hE2)))
 go_wp2_with fail
 exact bodyPost_ret (v:= .agg #[.bool (decide (z<0)), .slice A2 n2 c2]) (by simp[results,results192,go_sem,su0,su1]) rfl (jf su0 su1 hw2 (hbW.trans hE2) (by omega))
end
section
attribute [local go_sem ↓] Go.wp_at_zero Go.wp_at_succ
theorem FZ (na:Bool) (xs zs:List Nat) (h:val zs=val xs):aN na zs=aN na xs:=by unfold aN;rw[h]
theorem Lj (na:Bool) (xs zs:List Nat) (h:val zs=val xs):aN (!na) zs= -aN na xs:=by unfold aN;rw[h];cases na<;>simp
theorem IC (va:Value) (na:Bool) (xs:List Nat) (w:World) (ha:dh w va na xs) (h1:xs.length<=2147483648):
 Calls Tryz.prog 326 #[va] w (dH (aN na xs) w):=by
 obtain⟨A,n,c,rfl,hx⟩:=ha;obtain⟨W,hW⟩:∃W,W=(w.alloc (.cells #[.bool na, .slice A n c] 36)).alloc (.cells #[.bool false, .slice none 0 0] 36):=⟨_,rfl⟩;obtain⟨⟨ca0,ca1⟩,⟨cr0,cr1,fr0,fr1⟩,hbW⟩:=uB w _ _ _ _ _ W hW;have hl1:=dG hx.wd h1;have hE:bw W W.drew:=(bw.refl W).drew;have Hx:=Lib.hid hx;obtain⟨z,hz⟩:∃z,z=aN na xs:=⟨_,rfl⟩;rw[<- hz];have hz1:aN (na) (trim xs)=z:=(FZ na xs _ (aJ xs)).trans hz.symm;have Hz:=Lib.hid hz1;clear hx hz hz1
 go_enter func326,ntmps326
 go_wp2_with fail
 rw[<- hW];clear hW
 go_region_held3 (fun w'=>w'.cell? ⟨w.heap.size,0,none⟩=some (.bool na)/\w'.cell? ⟨w.heap.size,1,none⟩=some (.slice A n c)/\bw w w')
  (first|exact⟨ca0,ca1,hbW.drew⟩|assumption|exact NI (by assumption) (by assumption)|exact IN (by assumption) (by omega) (by dsimp only;omega) (by dsimp only;omega))
  (first
   |((go_at_call 194;(with_reducible refine(bv A n c xs _ (Hx.out.below (Kc (by assumption)))).mono ?_);rintro e w' ⟨rfl,rfl⟩))
   |((go_at_call 236;(with_reducible refine(iD _ _ _ (trim xs) _ (Hx.out.trim.below (Kc (by assumption))) hl1).mono ?_);rintro e w1 ⟨A1,n1,c1,zs,rfl,hw1,rfl,hb1⟩;have hE1:=bw.more (by assumption) hb1))
   |((go_at_call 232;(with_reducible refine(bu (by assumption) Hz.out).mono ?_);rintro e w2 ⟨v2,rfl,⟨A2,n2,c2,rfl,hw2⟩,hb2⟩;have hE2:=bw.more (by assumption) hb2;have su0:=kc cr0 hE2;have su1:=kc cr1 hE2;have sf0:=kf cr0 fr0 hE2;have sf1:=kf cr1 fr1 hE2)))
 go_wp2_with fail
 exact bodyPost_ret (v:= .agg #[.bool (decide (z<0)), .slice A2 n2 c2]) (by simp[results,results326,go_sem,su0,su1]) rfl (jf su0 su1 hw2 (hbW.trans hE2) (by omega))
theorem Rt (va:Value) (na:Bool) (xs:List Nat) (w:World) (ha:dh w va na xs) (h1:xs.length<=2147483648):
 Calls Tryz.prog 260 #[va] w (dH (-aN na xs) w):=by
 obtain⟨A,n,c,rfl,hx⟩:=ha;obtain⟨W,hW⟩:∃W,W=(w.alloc (.cells #[.bool na, .slice A n c] 36)).alloc (.cells #[.bool false, .slice none 0 0] 36):=⟨_,rfl⟩;obtain⟨⟨ca0,ca1⟩,⟨cr0,cr1,fr0,fr1⟩,hbW⟩:=uB w _ _ _ _ _ W hW;have hl1:=dG hx.wd h1;have hE:bw W W.drew:=(bw.refl W).drew;have Hx:=Lib.hid hx;obtain⟨z,hz⟩:∃z,z= -aN na xs:=⟨_,rfl⟩;rw[<- hz];have hz1:aN (!na) (trim xs)=z:=(Lj na xs _ (aJ xs)).trans hz.symm;have Hz:=Lib.hid hz1;clear hx hz hz1
 go_enter func260,ntmps260
 go_wp2_with fail
 rw[<- hW];clear hW
 go_region_held3 (fun w'=>w'.cell? ⟨w.heap.size,0,none⟩=some (.bool na)/\w'.cell? ⟨w.heap.size,1,none⟩=some (.slice A n c)/\bw w w')
  (first|exact⟨ca0,ca1,hbW.drew⟩|assumption|exact NI (by assumption) (by assumption)|exact IN (by assumption) (by omega) (by dsimp only;omega) (by dsimp only;omega))
  (first
   |((go_at_call 194;(with_reducible refine(bv A n c xs _ (Hx.out.below (Kc (by assumption)))).mono ?_);rintro e w' ⟨rfl,rfl⟩))
   |((go_at_call 236;(with_reducible refine(iD _ _ _ (trim xs) _ (Hx.out.trim.below (Kc (by assumption))) hl1).mono ?_);rintro e w1 ⟨A1,n1,c1,zs,rfl,hw1,rfl,hb1⟩;have hE1:=bw.more (by assumption) hb1))
   |((go_at_call 232;(with_reducible refine(bu (by assumption) Hz.out).mono ?_);rintro e w2 ⟨v2,rfl,⟨A2,n2,c2,rfl,hw2⟩,hb2⟩;have hE2:=bw.more (by assumption) hb2;have su0:=kc cr0 hE2;have su1:=kc cr1 hE2;have sf0:=kf cr0 fr0 hE2;have sf1:=kf cr1 fr1 hE2)))
 go_wp2_with fail
 exact bodyPost_ret (v:= .agg #[.bool (decide (z<0)), .slice A2 n2 c2]) (by simp[results,results260,go_sem,su0,su1]) rfl (jf su0 su1 hw2 (hbW.trans hE2) (by omega))
end
theorem Bn (n:Nat):val [n%4294967296,n/4294967296]=n:=by
 simp only[val]
 omega
theorem GZ (n:Nat) (h:n<18446744073709551616):Wd [n%4294967296,n/4294967296]:=
 Wd.cons (by omega) (Wd.cons (by omega) Wd.nil)
theorem fh (n:Nat) (h:n<18446744073709551616) (w:World):Calls Tryz.prog 233 #[.int .u64 (n:Int)] w (qo (fun zs=>zs=digs n) w):=by
 have hr:fL (w.alloc (.cells #[.int .u32 ((n:Int)%4294967296), .int .u32 ((n:Int)/4294967296)] 135)) w.heap.size [n%4294967296,n/4294967296]:=by
  exact Rh
 have hw:=hr.wrd' (n:=2) (GZ n h) rfl (by omega);have htr:trim [n%4294967296,n/4294967296]=digs n:=by unfold trim;rw[Bn n]
 have hw3:=hw.trim;rw[htr]at hw3;have hb:Below w.heap.size w (w.alloc (.cells #[.int .u32 ((n:Int)%4294967296), .int .u32 ((n:Int)/4294967296)] 135)):=(Below.refl _ _).alloc (Nat.le_refl _) _;have Hw:=Lib.hid hw;have Htr:=Lib.hid htr;have Hw3:=Lib.hid hw3;have Hb:=Lib.hid hb;clear hr hw htr hw3 hb;have e1:(n:Int)/4294967296%4294967296=(n:Int)/4294967296:=by omega
 have h0:(0:Int)<=n:=by omega
 have h1:(n:Int)<18446744073709551616:=by omega
 go_enter func233,ntmps233
 go_wp2_with (go_at_call 194;(with_reducible refine(bv _ _ _ _ _ Hw.out).mono ?_);rw[Htr.out];rintro e w' ⟨rfl,rfl⟩)
 exact Po
theorem xP (n:Nat) (h:n<18446744073709551616) (w:World):Calls Tryz.prog 123 #[.int .u64 (n:Int)] w (qo (fun zs=>zs=digs n) w):=by
 have hr:fL (w.alloc (.cells #[.int .u32 ((n:Int)%4294967296), .int .u32 ((n:Int)/4294967296)] 135)) w.heap.size [n%4294967296,n/4294967296]:=by
  exact Rh
 have hw:=hr.wrd' (n:=2) (GZ n h) rfl (by omega);have htr:trim [n%4294967296,n/4294967296]=digs n:=by unfold trim;rw[Bn n]
 have hw3:=hw.trim;rw[htr]at hw3;have hb:Below w.heap.size w (w.alloc (.cells #[.int .u32 ((n:Int)%4294967296), .int .u32 ((n:Int)/4294967296)] 135)):=(Below.refl _ _).alloc (Nat.le_refl _) _;have Hw:=Lib.hid hw;have Htr:=Lib.hid htr;have Hw3:=Lib.hid hw3;have Hb:=Lib.hid hb;clear hr hw htr hw3 hb;have e1:(n:Int)/4294967296%4294967296=(n:Int)/4294967296:=by omega
 have h0:(0:Int)<=n:=by omega
 have h1:(n:Int)<18446744073709551616:=by omega
 go_enter func123,ntmps123
 go_wp2_with (go_at_call 172;(with_reducible refine(pi _ _ _ _ _ Hw.out).mono ?_);rw[Htr.out];rintro e w' ⟨rfl,rfl⟩)
 exact Po
theorem Cd (w:World) (r0 r1:Value) (t:TypeId):((w.alloc (.cells #[r0,r1] t)).cell? ⟨w.heap.size,0,none⟩=some r0/\(w.alloc (.cells #[r0,r1] t)).cell? ⟨w.heap.size,1,none⟩=some r1) /\
 ((w.alloc (.cells #[r0,r1] t)).frozen? ⟨w.heap.size,0,none⟩=false/\(w.alloc (.cells #[r0,r1] t)).frozen? ⟨w.heap.size,1,none⟩=false)/\bw w (w.alloc (.cells #[r0,r1] t)):=by
 refine⟨?_,?_,(bw.refl w).alloc _⟩<;>simp[go_sem]
theorem wu (n:Int):aN (decide (n<0)) (digs n.natAbs)=n:=by
 unfold aN;rw[az]
 by_cases h:n<0<;>simp[h]<;>omega
theorem kv (z:Int):IntKind.u64.wrap z=z%18446744073709551616:=IntKind.wrap_u64 z
theorem tH (n:Int) (hlo: -9223372036854775808<=n) (hhi:n<9223372036854775808) (w:World):Calls Tryz.prog 174 #[.int .i64 n] w (dH n w):=by
 obtain⟨⟨cr0,cr1⟩,⟨fr0,fr1⟩,hbW⟩:=Cd w (.bool false) (.slice none 0 0) 36;obtain⟨W,hW⟩:∃W,W=w.alloc (.cells #[.bool false, .slice none 0 0] 36):=⟨_,rfl⟩;rw[<- hW]at cr0 cr1 fr0 fr1 hbW;have HW:=Lib.hid hW;obtain⟨m,hm⟩:∃m:Nat,m=n.natAbs:=⟨_,rfl⟩;have hmb:m<18446744073709551616:=by omega
 have hfin:aN (decide (n<0)) (digs m)=n:=by rw[hm];exact wu n
 have Hfin:=Lib.hid hfin;clear hW hfin
 by_cases h:n<0
 ·have e1:IntKind.u64.wrap (-(IntKind.u64.wrap n))=(m:Int):=by rw[kv,kv];omega
  have ed:decide (n<0)=true:=by simp[h]
  rw[ed]at Hfin;clear hm
  go_enter func174,ntmps174
  go_wp2_with (first
   |(go_at_call 233;rw[<- HW.out];(with_reducible refine(fh m hmb _).mono ?_);rintro e w1 ⟨A1,n1,c1,zs,rfl,hw1,rfl,hE1⟩)
   |(go_at_call 232;(with_reducible refine(bu (by assumption) Hfin.out).mono ?_);rintro e w2 ⟨v2,rfl,⟨A2,n2,c2,rfl,hw2⟩,hb2⟩;have hE2:=bw.more hE1 hb2;have su0:=kc cr0 hE2;have su1:=kc cr1 hE2;have sf0:=kf cr0 fr0 hE2;have sf1:=kf cr1 fr1 hE2))
  exact bodyPost_ret (v:= .agg #[.bool true, .slice A2 n2 c2]) (by simp[results,results174,go_sem,su0,su1]) rfl (l7 ed su0 su1 hw2 (hbW.trans hE2) (Nat.le_refl _))
 ·have e1:IntKind.u64.wrap n=(m:Int):=by rw[kv];omega
  have ed:decide (n<0)=false:=by simp[h]
  rw[ed]at Hfin;clear hm
  go_enter func174,ntmps174
  go_wp2_with (first
   |(go_at_call 233;rw[<- HW.out];(with_reducible refine(fh m hmb _).mono ?_);rintro e w1 ⟨A1,n1,c1,zs,rfl,hw1,rfl,hE1⟩)
   |(go_at_call 232;(with_reducible refine(bu (by assumption) Hfin.out).mono ?_);rintro e w2 ⟨v2,rfl,⟨A2,n2,c2,rfl,hw2⟩,hb2⟩;have hE2:=bw.more hE1 hb2;have su0:=kc cr0 hE2;have su1:=kc cr1 hE2;have sf0:=kf cr0 fr0 hE2;have sf1:=kf cr1 fr1 hE2))
  exact bodyPost_ret (v:= .agg #[.bool false, .slice A2 n2 c2]) (by simp[results,results174,go_sem,su0,su1]) rfl (l7 ed su0 su1 hw2 (hbW.trans hE2) (Nat.le_refl _))
theorem yY (n:Int) (hlo: -9223372036854775808<=n) (hhi:n<9223372036854775808) (w:World):Calls Tryz.prog 82 #[.int .i64 n] w (dH n w):=by
 obtain⟨⟨cr0,cr1⟩,⟨fr0,fr1⟩,hbW⟩:=Cd w (.bool false) (.slice none 0 0) 36;obtain⟨W,hW⟩:∃W,W=w.alloc (.cells #[.bool false, .slice none 0 0] 36):=⟨_,rfl⟩;rw[<- hW]at cr0 cr1 fr0 fr1 hbW;have HW:=Lib.hid hW;obtain⟨m,hm⟩:∃m:Nat,m=n.natAbs:=⟨_,rfl⟩;have hmb:m<18446744073709551616:=by omega
 have hfin:aN (decide (n<0)) (digs m)=n:=by rw[hm];exact wu n
 have Hfin:=Lib.hid hfin;clear hW hfin
 by_cases h:n<0
 ·have e1:IntKind.u64.wrap (-(IntKind.u64.wrap n))=(m:Int):=by rw[kv,kv];omega
  have ed:decide (n<0)=true:=by simp[h]
  rw[ed]at Hfin;clear hm
  go_enter func82,ntmps82
  go_wp2_with (first
   |(go_at_call 123;rw[<- HW.out];(with_reducible refine(xP m hmb _).mono ?_);rintro e w1 ⟨A1,n1,c1,zs,rfl,hw1,rfl,hE1⟩)
   |(go_at_call 122;(with_reducible refine(oK (by assumption) Hfin.out).mono ?_);rintro e w2 ⟨v2,rfl,⟨A2,n2,c2,rfl,hw2⟩,hb2⟩;have hE2:=bw.more hE1 hb2;have su0:=kc cr0 hE2;have su1:=kc cr1 hE2;have sf0:=kf cr0 fr0 hE2;have sf1:=kf cr1 fr1 hE2))
  exact bodyPost_ret (v:= .agg #[.bool true, .slice A2 n2 c2]) (by simp[results,results82,go_sem,su0,su1]) rfl (l7 ed su0 su1 hw2 (hbW.trans hE2) (Nat.le_refl _))
 ·have e1:IntKind.u64.wrap n=(m:Int):=by rw[kv];omega
  have ed:decide (n<0)=false:=by simp[h]
  rw[ed]at Hfin;clear hm
  go_enter func82,ntmps82
  go_wp2_with (first
   |(go_at_call 123;rw[<- HW.out];(with_reducible refine(xP m hmb _).mono ?_);rintro e w1 ⟨A1,n1,c1,zs,rfl,hw1,rfl,hE1⟩)
   |(go_at_call 122;(with_reducible refine(oK (by assumption) Hfin.out).mono ?_);rintro e w2 ⟨v2,rfl,⟨A2,n2,c2,rfl,hw2⟩,hb2⟩;have hE2:=bw.more hE1 hb2;have su0:=kc cr0 hE2;have su1:=kc cr1 hE2;have sf0:=kf cr0 fr0 hE2;have sf1:=kf cr1 fr1 hE2))
  exact bodyPost_ret (v:= .agg #[.bool false, .slice A2 n2 c2]) (by simp[results,results82,go_sem,su0,su1]) rfl (l7 ed su0 su1 hw2 (hbW.trans hE2) (Nat.le_refl _))
theorem mZ (a x:Nat) (ha:a<4294967296) (hx:x<4294967296):bits BinOp.or IntKind.u64 ((a:Int)*4294967296) (x:Int)=((a*4294967296+x:Nat):Int):=by
 have e:(a:Int)*4294967296=((a*4294967296:Nat):Int):=by omega
 rw[e,u64_or_nat _ _ (by omega) (by omega)]
 congr 1
 have h:=Nat.shiftLeft_add_eq_or_of_lt (i:=32) (b:=x) (Nat.lt_of_lt_of_eq hx (by decide)) a;rw[Nat.shiftLeft_eq]at h;exact h.symm
section
open Go.RowKit Go.Shelf
attribute [local go_sem] Oper.semAt_some
def upto {α:Type} (f:Nat->α) (k:Nat):List α:=(List.range k).map f
theorem nv {α:Type} (f:Nat->α) (k:Nat):upto f (k+1)=upto f k++[f k]:=by simp[upto,List.range_succ]
theorem oL {α:Type} (f:Nat->α) (k:Nat):(upto f k).length=k:=by simp[upto]
def cU (xs:List Nat) (j:Nat):Nat × Nat:=(xs.length-1-j,xs.getD (xs.length-1-j) 0)
abbrev E9 (x:Nat × Nat):Array Value:= #[.int .i64 (x.1:Int),bU (x.2%4294967296)]
def KB (n₀ Bs:Nat) (A B:World):Prop:=Below n₀ A B/\B.heap[Bs]? =A.heap[Bs]?
theorem KB.refl (n₀ Bs:Nat) (A:World):KB n₀ Bs A A:=⟨Below.refl _ _,rfl⟩
theorem KB.trans {n₀ Bs:Nat} {A B C:World} (h:KB n₀ Bs A B) (k:KB n₀ Bs B C):KB n₀ Bs A C:=⟨h.1.trans k.1,k.2.trans h.2⟩
theorem KB.put {n₀ Bs:Nat} {w:World} (hn:n₀<=w.heap.size) (hB:Bs<w.heap.size) (W:World) (l:Nat) (o o':Obj) (hl:w.heap.size<=l) (h:W.heap[l]? =some o) (h1:o.isCells=false) (h2:o.isWalk=false):KB n₀ Bs W (W.putObj l o'):=
 ⟨belowK_b hn W l o o' hl h h1 h2,World.putObj_heap_other (by omega)⟩
theorem KB.cell {n₀ Bs:Nat} {A B:World} (h:KB n₀ Bs A B) (i:Nat):B.cell? ⟨Bs,i,none⟩=A.cell? ⟨Bs,i,none⟩:=World.cell?_of_block (a:=⟨Bs,i,none⟩) h.2
set_option maxRecDepth 100000 in
theorem FG (F:Fence) (n:Nat) (h8:F.fn 286) (hro:F.round=none) (hn:1<=n) (l Bs:Nat) (A:Option Addr) (len cap:Nat) (xs:List Nat) (w:World) (hx:bc w A len cap xs) (J Jx:List (Nat × Nat)->World->Prop)
 (hY:∀pre x W,J pre W->pre.length<len->YieldAt F (n-1) Tryz.prog l (E9 x) W fun e W'=>
  (e= .returned (.bool true)/\J (pre++[x]) W'/\KB w.heap.size Bs W W')∨(e= .returned (.bool false)/\Jx (pre++[x]) W'))
 (W:World) (hbW:bw w W) (hBs:W.cell? ⟨Bs,0,none⟩=some (.slice A len cap)) (h0:J [] W):
 CallsIn F n Tryz.prog 286 #[.func (.yield l) #[] #[], .pointer (some ⟨Bs,0,none⟩)] W fun e W'=>(∃v,e= .returned v) /\
  ((∃ys,ys=upto (cU xs) len/\J ys W')∨(∃pre,True/\Jx pre W')):=by
 have hcap:=hx.cap;have hlim:=hx.lim;have hlen:=hx.len;have hwd:=hx.wd;have Hx:=Lib.hid hx;have Hlen:=Lib.hid hlen;have Hwd:=Lib.hid hwd;clear hx hlen hwd;refine callsIn_of_wp func286 rfl h8 ?_ hro
 simp only[ntmps286,List.size_toArray,List.length_cons,List.length_nil,Nat.reduceAdd,Nat.reduceSub,Array.replicate_succ,Array.replicate_zero,List.push_toArray,List.append_toArray,List.nil_append,List.cons_append]
 gi_wp2
 gi_loopw [3] (fun i wr=>∃k:Nat,k<=len/\i= .int .i64 ((len:Int)-1-k)/\J (upto (cU xs) k) wr/\KB w.heap.size Bs W wr)
  (fun i _=>(intOf i+1).toNat)
 case atStart=>exact⟨0,Nat.zero_le _,by go_num,h0,KB.refl _ _ _⟩
 case round=>
  obtain⟨k,hk,rfl,hJs,hnx⟩:=hrel;have hcs:=(hnx.cell 0).trans hBs
  by_cases hlt:k<len
  ·obtain⟨b,off,rfl,hb,hc⟩:=Hx.out.at (by omega)
   have hcx:=(hnx.1.cell (p:=⟨b,off+(len-1-k),none⟩) hb).trans ((hbW.cell (p:=⟨b,off+(len-1-k),none⟩) hb).trans (hc (len-1-k) (by omega)));obtain⟨fn,tmps,assign,body,hy,hR⟩:=hY _ (cU xs k) wr hJs (by rw[oL];exact hlt);have e1:cU xs k=(len-1-k,xs.getD (len-1-k) 0):=by unfold cU;rw[Hlen.out]
   rw[e1]at hy;have e2:((len-1-k:Nat):Int)=(len:Int)-1-k:=by omega
   dsimp only[E9]at hy;rw[e2]at hy;obtain⟨x,hxx⟩:∃x,x=xs.getD (len-1-k) 0:=⟨_,rfl⟩;rw[<- hxx]at hy hcx;rw[Nat.mod_eq_of_lt (by rw[hxx];exact Hwd.out.getD _)]at hy;have g1:(0:Int)<=(len:Int)-1-k:=by omega
   have g2:(len:Int)-1-k<len:=by omega
   have g3:((len:Int)-1-k).toNat=len-1-k:=by omega
   clear e1 e2 hc;have Hxx:=Lib.hid hxx;clear hxx
   gi_wp2
   refine hR.mono ?_;rintro e W3 (⟨rfl,hJ3,hk3⟩| ⟨rfl,hJx3⟩)
   ·gi_wp2
    go_roundw
    case rel=>exact⟨k+1,by omega,by go_num,by rw[nv];exact hJ3,hnx.trans hk3⟩
    case measure=>simp[intOf];omega
   ·gi_wp2
    refine bodyPost_ret (results_none rfl _ _ _) rfl ?_;exact⟨⟨_,rfl⟩, .inr ⟨_,trivial,hJx3⟩⟩
  ·obtain rfl:k=len:=by omega
   have g1:¬((k:Int)<=(k:Int)-1):=by omega
   gi_wp2
   go_end0
   first|exact⟨⟨_,rfl⟩, .inl ⟨_,rfl,hJs⟩⟩|exact⟨⟨_,rfl⟩, .inl hJs⟩
theorem jz (F:Fence) (n:Nat) (h5:F.fn 238) (hro:F.round=none) (a:Option Addr) (len cap:Nat) (w:World):
 CallsIn F n Tryz.prog 238 #[.slice a len cap] w fun e w'=>e= .returned (.func (.func 286) #[] #[.pointer (some ⟨w.heap.size,0,none⟩)])/\w'=w.alloc (.cells #[.slice a len cap] 34):=by
 refine callsIn_of_wp func238 rfl h5 ?_ hro
 simp only[ntmps238,List.size_toArray,List.length_cons,List.length_nil,Nat.reduceAdd,Nat.reduceSub,Array.replicate_succ,Array.replicate_zero,List.push_toArray,List.append_toArray,List.nil_append,List.cons_append]
 gi_wp2
 go_ret
 exact⟨rfl,rfl⟩
theorem y8 (F:Fence) (n:Nat) (h8:F.fn 286) (hro:F.round=none) (hn:1<=n) (Bs:Nat) (A:Option Addr) (len cap:Nat) (xs:List Nat) (w0 w:World) (hx:bc w0 A len cap xs) (h0:bw w0 w) (hBs:Bs<w.heap.size) (hc:w.cell? ⟨Bs,0,none⟩=some (.slice A len cap)):
 SeqStopsK F n Tryz.prog 286 #[.pointer (some ⟨Bs,0,none⟩)] E9 (KB w0.heap.size Bs) (fun ys=>ys=upto (cU xs) len) (fun _=>True) len w:=fun l J Jx W hW _ _ hY hJ0=>
 FG F n h8 hro hn l Bs A len cap xs w0 hx J Jx hY W (h0.more hW) ((hW.cell (p:=⟨Bs,0,none⟩) hBs).trans hc) hJ0
def u6 (l:List (Nat × Nat)):Nat:=l.foldl (fun a p=>a*4294967296+p.2%4294967296) 0
theorem tM (l:List (Nat × Nat)) (p:Nat × Nat):u6 (l++[p])=u6 l*4294967296+p.2%4294967296:=by unfold u6;simp
theorem If (l:List (Nat × Nat)) (h:l.length<2):u6 l<4294967296:=by
 match l,h with
 | [],_=>simp[u6]
 | [p],_=>simp[u6];omega
theorem D2 {xs:List Nat} (hw:Wd xs) (k:Nat) (hk:k<=xs.length):u6 (upto (cU xs) k)=val (xs.drop (xs.length-k)):=by
 induction k with
 |zero=>rw[Nat.sub_zero,List.drop_of_length_le (Nat.le_refl _)];rfl
 |succ k ih=>
  rw[nv,tM,ih (by omega)];have h:=cX xs (xs.length-k) (by omega) (by omega);rw[show xs.length-(k+1)=xs.length-k-1 by omega,h]
  simp only[val]
  have e:(cU xs k).2=xs.getD (xs.length-k-1) 0:=by
   unfold cU;dsimp only;rw[show xs.length-1-k=xs.length-k-1 by omega]
  rw[e,Nat.mod_eq_of_lt (hw.getD _)];omega
set_option maxRecDepth 100000 in
theorem DM (F:Fence) (n:Nat) (h3:F.fn 283) (h5:F.fn 238) (h7:F.fn 286) (hro:F.round=none) (hn:3<=n) (A:Option Addr) (len cap:Nat) (xs:List Nat) (w:World) (hx:bc w A len cap xs) (hl2:len<=2):
 CallsIn F n Tryz.prog 283 #[.slice A len cap] w fun e W'=>e= .returned (.int .u64 (val xs:Int))/\Below w.heap.size w W':=by
 have h1:1<=n:=by omega
 have hlen:=hx.len;have hwd:=hx.wd;have Hx:=Lib.hid hx;have Hlen:=Lib.hid hlen;have Hwd:=Lib.hid hwd;clear hx hlen hwd;refine callsIn_of_wp_marks func283 rfl h3 ?_ hro
 simp only[ntmps283,List.size_toArray,List.length_cons,List.length_nil,Nat.reduceAdd,Nat.reduceSub,Array.replicate_succ,Array.replicate_zero,List.push_toArray,List.append_toArray,List.nil_append,List.cons_append]
 gi_wp2_with (gi_at_call 238;refine(jz F (n-1) h5 hro _ _ _ _).mono ?_;rintro e w' ⟨rfl,rfl⟩)
 have bS:=Boxed.new w 169 (.int .u64 0);have bN:=Boxed.new (w.alloc (.cells #[.int .u64 0] 169)) 34 (.slice A len cap);rw[World.size_alloc]at bN;have hB0:Below w.heap.size w ((w.alloc (.cells #[.int .u64 0] 169)).alloc (.cells #[.slice A len cap] 34)):=((Below.refl _ w).alloc (Nat.le_refl _) _).alloc (by simp) _
 refine wpIn_rangeFunc_ownG hro h1 (gf:=286) (lb:= #[.pointer (some ⟨w.heap.size+1,0,none⟩)]) rfl h7 (enters_of func286 (by kernel_rfl) rfl)
  (y8 F (n-1) h7 hro (by omega) (w.heap.size+1) A len cap xs w _ Hx.out hB0 (by simp) bN.cell) (fun h k=>KB.trans h k) (KB.put (by simp;omega) (by simp)) (Below.refl _ _) (fun _=>rfl)
  (fun pre W=>(W.cell? ⟨w.heap.size,0,none⟩=some (.int .u64 (u6 pre:Int))/\W.frozen? ⟨w.heap.size,0,none⟩=false)/\Below w.heap.size w W)
  (fun _ _ _=>False)
  (OwnFrom.and (Own.from (fun s A B row hs hg hr=>⟨cell_kept hs.1 hg hr,(frozen_kept hs.1 hg hr).trans hs.2⟩) _) (ownFrom_below (Nat.le_refl _) (by simp;omega)))
  (fun _ _ _ _ _ hs _ _=>hs)
  ⟨⟨(bS.alloc (.cells #[.slice A len cap] 34)).cell,(bS.alloc _).frozen⟩,hB0⟩
  (fun x=>{ tmps:= #[.slice A len cap,undef, .int .u64 0, .pointer (some ⟨w.heap.size,0,none⟩),undef,bU (x.2%4294967296), .slice A len cap, .func (.func 286) #[] #[.pointer (some ⟨w.heap.size+1,0,none⟩)], .int .i64 (x.1:Int),bU (x.2%4294967296),undef,undef,undef,undef,undef,undef],defers:=[] }) ?assign ?body ?done ?stop
 case assign=>
  intro l x W K hK
  gi_wp2
  exact hK
 case body=>
  rintro l pre x W ⟨⟨hc,hf⟩,hB⟩ hlt;have ha:=If pre (by omega);have hb:x.2%4294967296<4294967296:=Nat.mod_lt _ (by decide)
  have hs:=tM pre x;generalize x.2%4294967296=y at *;generalize u6 pre=a at *;have Hs:=Lib.hid hs;clear hs
  gi_wp2
  exact⟨(KeepsOthers.setCell _ _ _).from _,⟨(Below.refl w.heap.size W).setCell (p:=⟨w.heap.size,0,none⟩) (Nat.le_refl _) _,Below.heap_setCell _ _ _ _ (by simp)⟩,⟨by rw[World.cell?_setCell_same' _ _ _ (by rw[hc];rfl),mZ a y ha hb,Hs.out],by rw[World.frozen?_setCell];exact hf⟩,hB.setCell (p:=⟨w.heap.size,0,none⟩) (Nat.le_refl _) _⟩
 case done=>
  rintro D ys W hD rfl ⟨⟨hc,_⟩,hB⟩ hK;have he:=D2 Hwd.out len (by rw[Hlen.out];exact Nat.le_refl _);rw[Hlen.out,Nat.sub_self,List.drop_zero]at he
  gi_wp2
  refine⟨by simp, .inl ⟨_,_,rfl,run_takeDeferred hK,?_⟩⟩;refine⟨_,results_tmp rfl _ _ _,?_,?_⟩
  ·rfl
  ·exact hB.trans (belowK_b (w:=w) (Nat.le_refl _) W D _ _ (by simp at hD;omega) hK rfl rfl)
 case stop=>
  rintro D c pre W _ _ h _;exact h.elim
theorem qJ (A:Option Addr) (len cap:Nat) (xs:List Nat) (w:World) (hx:bc w A len cap xs) (hl2:len<=2):
 Calls Tryz.prog 283 #[.slice A len cap] w fun e W'=>e= .returned (.int .u64 (val xs:Int))/\Below w.heap.size w W':=
 callsIn_wide.1 (DM Fence.wide 3 trivial trivial trivial rfl (Nat.le_refl _) A len cap xs w hx hl2)
end
end Go.Proofs.YtnchbpoopnjghaaGreatDoor
