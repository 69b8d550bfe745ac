/- Pow of the reference. Valid, Int64 and Bits of both packages. Int64 of both packages. Bits of the reference. -/
import Derived.Test.YtmkggcjajcdlcaaGreatDoorQAj
set_option maxHeartbeats 100000000
set_option linter.all false
open Go.Proofs.Tryz
namespace Go.Proofs.YtmkggcjajcdlcaaGreatDoor
open Go.RowKit
theorem vG {va vb:Value} {a b:Int} {w:World} (ha:a7 w va a) (hb:a7 w vb b) (h1:(digs a.natAbs).length≤2147483648) (h2:(digs b.natAbs).length≤2147483648):
 Calls Tryz.prog 98 #[va,vb] w (bc (a*b) w):=by
 have:=uD va vb _ _ _ _ w ha hb h1 h2
 rwa[au,au]at this
theorem cG {w:World} {v:Value} {z:Int} {b:Bool} (h:a7 w v z) (hb:decide (z<0)=b):∃A n c,v= .agg #[.bool b, .slice A n c]∧aj w A n c (digs z.natAbs):=by
 obtain⟨A,n,c,h1,h2⟩:=h;exact⟨A,n,c,by rw[h1,hb],h2⟩
theorem gr {w:World} {A:Option Addr} {n c:Nat} {z:Int} {b:Bool} (hb:decide (z<0)=b) (h:aj w A n c (digs z.natAbs)):a7 w (.agg #[.bool b, .slice A n c]) z:=⟨A,n,c,by rw[hb],h⟩
theorem wg (w:World) (a0 a1:Value) (t:TypeId):((w.alloc (.cells #[a0,a1] t)).cell? ⟨w.heap.size,0,none⟩=some a0∧(w.alloc (.cells #[a0,a1] t)).cell? ⟨w.heap.size,1,none⟩=some a1)∧((w.alloc (.cells #[a0,a1] t)).frozen? ⟨w.heap.size,0,none⟩=false∧(w.alloc (.cells #[a0,a1] t)).frozen? ⟨w.heap.size,1,none⟩=false):=by
 simp[go_sem]
section
attribute [local go_sem ↓] Go.wp_at_zero Go.wp_at_succ
def ej (na:Bool) (xs:List Nat):Bool:=decide ((trim xs).length=xs.length) && (!na || decide (0<xs.length))
theorem oM (A:Option Addr) (n c:Nat) (na:Bool) (xs:List Nat) (w:World) (hm:(trim xs).length≠n) (hx:aj w A n c xs):
 Calls Tryz.prog 221 #[.agg #[.bool na, .slice A n c]] w (qE false w):=by
 obtain⟨W,hW⟩:∃W,W=w.alloc (.cells #[.bool na, .slice A n c] 36):=⟨_,rfl⟩;obtain⟨⟨ca0,ca1⟩,⟨fa0,fa1⟩,hbW⟩:=ja w _ _ _ W hW;have hH:=fO ⟨ca0,ca1,hbW⟩ (Below.drew (Below.refl _ _));have Hx:=Lib.hid hx;obtain⟨m,hmm⟩:∃m,m=(trim xs).length:=⟨_,rfl⟩;rw[← hmm]at hm;have Hmm:=Lib.hid hmm;have t0:((m:Int) == n)=false:=by simp;omega
 skip
 have t2:¬m=n:=hm;have t3:(m == n)=false:=(by simp;omega)
 clear hx hmm
 go_enter func221,ntmps221
 go_wp2_with fail
 rw[← hW];clear hW
 have Hq:∀q,Calls Tryz.prog 162 #[.slice A n c] (W.drewN q) fun e w'=>e= .returned (.slice A m c)∧W.drewN q=w':=fun q=>by
  have h:=aX A n c xs _ ((Hx.out.ext hbW).drewN q);rw[← Hmm.out]at h;exact h
 have HQ:=Lib.hid Hq;clear Hq
 go_quiet ((go_at_call 162;exact gu (HQ.out _)))
 go_wp2_with fail
 go_ret
 exact⟨rfl,hbW.trans (aN _ _)⟩
theorem mF (A:Option Addr) (n c:Nat) (na:Bool) (xs:List Nat) (w:World) (hm:(trim xs).length=n) (hna:na=false) (hx:aj w A n c xs):
 Calls Tryz.prog 221 #[.agg #[.bool na, .slice A n c]] w (qE true w):=by
 obtain⟨W,hW⟩:∃W,W=w.alloc (.cells #[.bool na, .slice A n c] 36):=⟨_,rfl⟩;obtain⟨⟨ca0,ca1⟩,⟨fa0,fa1⟩,hbW⟩:=ja w _ _ _ W hW;have hH:=fO ⟨ca0,ca1,hbW⟩ (Below.drew (Below.refl _ _));have Hx:=Lib.hid hx;obtain⟨m,hmm⟩:∃m,m=(trim xs).length:=⟨_,rfl⟩;rw[← hmm]at hm;have Hmm:=Lib.hid hmm;have t0:((m:Int) == n)=true:=by simp;omega
 subst hna
 (have hm':=hm.symm;subst hm')
 clear hx hmm
 go_enter func221,ntmps221
 go_wp2_with fail
 rw[← hW];clear hW
 have Hq:∀q,Calls Tryz.prog 162 #[.slice A n c] (W.drewN q) fun e w'=>e= .returned (.slice A n c)∧W.drewN q=w':=fun q=>by
  have h:=aX A n c xs _ ((Hx.out.ext hbW).drewN q);rw[← Hmm.out]at h;exact h
 have HQ:=Lib.hid Hq;clear Hq
 go_quiet ((go_at_call 162;exact gu (HQ.out _)))
 go_wp2_with fail
 go_ret
 exact⟨rfl,hbW.trans (aN _ _)⟩
theorem nL (A:Option Addr) (n c:Nat) (na:Bool) (xs:List Nat) (w:World) (hm:(trim xs).length=n) (hna:na=true) (h0:0<n) (hx:aj w A n c xs):
 Calls Tryz.prog 221 #[.agg #[.bool na, .slice A n c]] w (qE true w):=by
 obtain⟨W,hW⟩:∃W,W=w.alloc (.cells #[.bool na, .slice A n c] 36):=⟨_,rfl⟩;obtain⟨⟨ca0,ca1⟩,⟨fa0,fa1⟩,hbW⟩:=ja w _ _ _ W hW;have hH:=fO ⟨ca0,ca1,hbW⟩ (Below.drew (Below.refl _ _));have Hx:=Lib.hid hx;obtain⟨m,hmm⟩:∃m,m=(trim xs).length:=⟨_,rfl⟩;rw[← hmm]at hm;have Hmm:=Lib.hid hmm;have t0:((m:Int) == n)=true:=by simp;omega
 subst hna;have t1:(0:Int)<n:=(by omega)
 (have hm':=hm.symm;subst hm')
 clear hx hmm
 go_enter func221,ntmps221
 go_wp2_with fail
 rw[← hW];clear hW
 have Hq:∀q,Calls Tryz.prog 162 #[.slice A n c] (W.drewN q) fun e w'=>e= .returned (.slice A n c)∧W.drewN q=w':=fun q=>by
  have h:=aX A n c xs _ ((Hx.out.ext hbW).drewN q);rw[← Hmm.out]at h;exact h
 have HQ:=Lib.hid Hq;clear Hq
 go_quiet ((go_at_call 162;exact gu (HQ.out _)))
 go_wp2_with fail
 go_ret
 exact⟨rfl,hbW.trans (aN _ _)⟩
theorem nU (A:Option Addr) (n c:Nat) (na:Bool) (xs:List Nat) (w:World) (hm:(trim xs).length=n) (hna:na=true) (h0:¬0<n) (hx:aj w A n c xs):
 Calls Tryz.prog 221 #[.agg #[.bool na, .slice A n c]] w (qE false w):=by
 obtain⟨W,hW⟩:∃W,W=w.alloc (.cells #[.bool na, .slice A n c] 36):=⟨_,rfl⟩;obtain⟨⟨ca0,ca1⟩,⟨fa0,fa1⟩,hbW⟩:=ja w _ _ _ W hW;have hH:=fO ⟨ca0,ca1,hbW⟩ (Below.drew (Below.refl _ _));have Hx:=Lib.hid hx;obtain⟨m,hmm⟩:∃m,m=(trim xs).length:=⟨_,rfl⟩;rw[← hmm]at hm;have Hmm:=Lib.hid hmm;have t0:((m:Int) == n)=true:=by simp;omega
 subst hna;have t1:¬(0:Int)<n:=(by omega)
 (have hm':=hm.symm;subst hm')
 clear hx hmm
 go_enter func221,ntmps221
 go_wp2_with fail
 rw[← hW];clear hW
 have Hq:∀q,Calls Tryz.prog 162 #[.slice A n c] (W.drewN q) fun e w'=>e= .returned (.slice A n c)∧W.drewN q=w':=fun q=>by
  have h:=aX A n c xs _ ((Hx.out.ext hbW).drewN q);rw[← Hmm.out]at h;exact h
 have HQ:=Lib.hid Hq;clear Hq
 go_quiet ((go_at_call 162;exact gu (HQ.out _)))
 go_wp2_with fail
 go_ret
 exact⟨rfl,hbW.trans (aN _ _)⟩
theorem tU (va:Value) (na:Bool) (xs:List Nat) (w:World) (ha:aL w va na xs):Calls Tryz.prog 221 #[va] w (qE (ej na xs) w):=by
 obtain⟨A,n,c,rfl,hx⟩:=ha;have hl:=hx.len;unfold ej;rw[hl]
 by_cases h1:(trim xs).length=n
 ·rw[decide_eq_true h1]
  cases na
  ·exact mF A n c false xs w h1 rfl hx
  ·by_cases h0:0<n
   ·rw[decide_eq_true h0];exact nL A n c true xs w h1 rfl h0 hx
   ·rw[decide_eq_false h0];exact nU A n c true xs w h1 rfl h0 hx
 ·rw[decide_eq_false h1,Bool.false_and]
  exact oM A n c na xs w h1 hx
end
section
attribute [local go_sem ↓] Go.wp_at_zero Go.wp_at_succ
def lX (r:Int) (b:Bool) (w:World) (e:Ending) (w':World):Prop:=e= .returned (.tuple #[.int .i64 r, .bool b])∧Below w.heap.size w w'
theorem ir {A:Option Addr} {n c:Nat} {u:Nat} (h2:n≤2) (W:World) (h:aj W A n c (digs u)):Calls Tryz.prog 152 #[.slice A n c] W fun e W'=>e= .returned (.int .u64 (u:Int))∧Below W.heap.size W W':=by
 have:=iI A n c (digs u) W h h2
 rwa[ac]at this
theorem tk {u:Int} (h:0≤u∧u≤9223372036854775807):IntKind.i64.wrap u=u:=IntWalk.i64_in _ (by omega)
theorem un {u:Int} (h:0≤u∧u≤9223372036854775808):IntKind.i64.wrap (IntKind.u64.wrap (-u))= -u:=by rw[IntKind.wrap_u64,IntKind.wrap_i64];omega
theorem yo {u:Int} (h:0≤u∧u≤9223372036854775807):wrap64 u=u:=by unfold wrap64;omega
theorem xC {u:Int} (h:0≤u∧u≤9223372036854775808):wrap64 (IntKind.u64.wrap (-u))= -u:=by rw[IntKind.wrap_u64];unfold wrap64;omega
set_option maxRecDepth 100000 in
theorem qp (A:Option Addr) (n c:Nat) (na b0:Bool) (xs:List Nat) (u n1:Nat) (w:World) (hx:aj w A n c xs) (_hs:xs.length≤2147483648) (hd:decide (af na xs<0)=b0) (hu0:(af na xs).natAbs=u) (hn1:(digs u).length=n1) (h2:2<n1):
 Calls Tryz.prog 90 #[.agg #[.bool na, .slice A n c]] w (lX (0) false w):=by
 obtain⟨W,hW⟩:∃W,W=w.alloc (.cells #[.bool na, .slice A n c] 36):=⟨_,rfl⟩;obtain⟨⟨ca0,ca1⟩,⟨fa0,fa1⟩,hbW⟩:=ja w _ _ _ W hW;have hc:=gS _ na xs W (cF (hx.ext hbW)) _hs;obtain⟨z,hz⟩:∃z,af na xs=z:=⟨_,rfl⟩;rw[hz]at hc hd hu0;have Hc:=Lib.hid hc;have Hd:=Lib.hid hd;have Hu0:=Lib.hid hu0;have Hn1:=Lib.hid hn1;have t0:(n1:Int) > 2:=(by omega);skip
 skip
 clear hx hc hz hd hu0 hn1;generalize hUU:(u:Int)=U at *;have HUU:=Lib.hid hUU;clear hUU
 go_enter func90,ntmps90
 go_wp2_with fail
 rw[← hW];clear hW
 ((with_reducible refine Hc.out.mono ?_);rintro e w1 ⟨v1,rfl,hv1,hb1⟩;obtain⟨A1,k1,c1,rfl,hw1⟩:=cG hv1 Hd.out;rw[Hu0.out]at hw1;obtain rfl:k1=n1:=(hw1.len.symm.trans Hn1.out);have su0:=kc ca0 hb1;have su1:=kc ca1 hb1;have sf0:=kf ca0 fa0 hb1;have sf1:=kf ca1 fa1 hb1;have hE1:ak w w1:=hbW.more hb1;have HE1:=Lib.hid (hE1.set2 (r:=w.heap.size) (Nat.le_refl _) (.bool b0) (.slice A1 k1 c1));have HW1:=Lib.hid (hw1.set2 (r:=w.heap.size) (aw.mk su0 su1 sf0 sf1) (.bool b0) (.slice A1 k1 c1));have HQ:=Lib.hid ((aw.mk su0 su1 sf0 sf1).cells b0 A1 k1 c1);clear hw1 hv1 hb1)
 go_wp2_with fail
 go_wp2_with fail
 go_ret2
 exact⟨rfl,HE1.out⟩
set_option maxRecDepth 100000 in
theorem nv (A:Option Addr) (n c:Nat) (na b0:Bool) (xs:List Nat) (u n1:Nat) (w:World) (hx:aj w A n c xs) (_hs:xs.length≤2147483648) (hd:decide (af na xs<0)=b0) (hu0:(af na xs).natAbs=u) (hn1:(digs u).length=n1) (h2:n1≤2) (hb:b0=false) (hu:u≤9223372036854775807):
 Calls Tryz.prog 90 #[.agg #[.bool na, .slice A n c]] w (lX (u) true w):=by
 obtain⟨W,hW⟩:∃W,W=w.alloc (.cells #[.bool na, .slice A n c] 36):=⟨_,rfl⟩;obtain⟨⟨ca0,ca1⟩,⟨fa0,fa1⟩,hbW⟩:=ja w _ _ _ W hW;have hc:=gS _ na xs W (cF (hx.ext hbW)) _hs;obtain⟨z,hz⟩:∃z,af na xs=z:=⟨_,rfl⟩;rw[hz]at hc hd hu0;have Hc:=Lib.hid hc;have Hd:=Lib.hid hd;have Hu0:=Lib.hid hu0;have Hn1:=Lib.hid hn1;have t1:(u:Int)≤9223372036854775807:=(by omega);have t0:¬(n1:Int) > 2:=(by omega);subst hb;have Hu:=Lib.hid hu;clear hu
 have HU:Hid (∀{A':Option Addr} {c':Nat} (W':World),aj W' A' n1 c' (digs u)→_):=Lib.hid (fun W' h=>ir h2 W' h);clear hx hc hz hd hu0 hn1;generalize hUU:(u:Int)=U at *;have HUU:=Lib.hid hUU;clear hUU
 go_enter func90,ntmps90
 go_wp2_with fail
 rw[← hW];clear hW
 ((with_reducible refine Hc.out.mono ?_);rintro e w1 ⟨v1,rfl,hv1,hb1⟩;obtain⟨A1,k1,c1,rfl,hw1⟩:=cG hv1 Hd.out;rw[Hu0.out]at hw1;obtain rfl:k1=n1:=(hw1.len.symm.trans Hn1.out);have su0:=kc ca0 hb1;have su1:=kc ca1 hb1;have sf0:=kf ca0 fa0 hb1;have sf1:=kf ca1 fa1 hb1;have hE1:ak w w1:=hbW.more hb1;have HE1:=Lib.hid (hE1.set2 (r:=w.heap.size) (Nat.le_refl _) (.bool false) (.slice A1 k1 c1));have HW1:=Lib.hid (hw1.set2 (r:=w.heap.size) (aw.mk su0 su1 sf0 sf1) (.bool false) (.slice A1 k1 c1));have HQ:=Lib.hid ((aw.mk su0 su1 sf0 sf1).cells false A1 k1 c1);clear hw1 hv1 hb1)
 go_wp2_with fail;(go_at_call 152;(with_reducible refine(HU.out _ HW1.out).mono ?_);rintro e w3 ⟨rfl,hb3⟩;obtain⟨q0,q1⟩:=HQ.out;have p0:=kc q0 hb3;have p1:=kc q1 hb3)
 go_wp2_with fail
 go_ret2
 exact⟨wP (by have hu:=Hu.out;have hUU:=HUU.out;first|(show Value.tuple #[.int .i64 (wrap64 U), .bool true]=_;rw[yo (by omega)])|rw[tk (by omega)]),(HE1.out.more hb3)⟩
set_option maxRecDepth 100000 in
theorem ls (A:Option Addr) (n c:Nat) (na b0:Bool) (xs:List Nat) (u n1:Nat) (w:World) (hx:aj w A n c xs) (_hs:xs.length≤2147483648) (hd:decide (af na xs<0)=b0) (hu0:(af na xs).natAbs=u) (hn1:(digs u).length=n1) (h2:n1≤2) (hb:b0=false) (hu:9223372036854775807<u):
 Calls Tryz.prog 90 #[.agg #[.bool na, .slice A n c]] w (lX (0) false w):=by
 obtain⟨W,hW⟩:∃W,W=w.alloc (.cells #[.bool na, .slice A n c] 36):=⟨_,rfl⟩;obtain⟨⟨ca0,ca1⟩,⟨fa0,fa1⟩,hbW⟩:=ja w _ _ _ W hW;have hc:=gS _ na xs W (cF (hx.ext hbW)) _hs;obtain⟨z,hz⟩:∃z,af na xs=z:=⟨_,rfl⟩;rw[hz]at hc hd hu0;have Hc:=Lib.hid hc;have Hd:=Lib.hid hd;have Hu0:=Lib.hid hu0;have Hn1:=Lib.hid hn1;have t1:¬(u:Int)≤9223372036854775807:=(by omega);have t0:¬(n1:Int) > 2:=(by omega);subst hb;have Hu:=Lib.hid hu;clear hu
 have HU:Hid (∀{A':Option Addr} {c':Nat} (W':World),aj W' A' n1 c' (digs u)→_):=Lib.hid (fun W' h=>ir h2 W' h);clear hx hc hz hd hu0 hn1;generalize hUU:(u:Int)=U at *;have HUU:=Lib.hid hUU;clear hUU
 go_enter func90,ntmps90
 go_wp2_with fail
 rw[← hW];clear hW
 ((with_reducible refine Hc.out.mono ?_);rintro e w1 ⟨v1,rfl,hv1,hb1⟩;obtain⟨A1,k1,c1,rfl,hw1⟩:=cG hv1 Hd.out;rw[Hu0.out]at hw1;obtain rfl:k1=n1:=(hw1.len.symm.trans Hn1.out);have su0:=kc ca0 hb1;have su1:=kc ca1 hb1;have sf0:=kf ca0 fa0 hb1;have sf1:=kf ca1 fa1 hb1;have hE1:ak w w1:=hbW.more hb1;have HE1:=Lib.hid (hE1.set2 (r:=w.heap.size) (Nat.le_refl _) (.bool false) (.slice A1 k1 c1));have HW1:=Lib.hid (hw1.set2 (r:=w.heap.size) (aw.mk su0 su1 sf0 sf1) (.bool false) (.slice A1 k1 c1));have HQ:=Lib.hid ((aw.mk su0 su1 sf0 sf1).cells false A1 k1 c1);clear hw1 hv1 hb1)
 go_wp2_with fail;(go_at_call 152;(with_reducible refine(HU.out _ HW1.out).mono ?_);rintro e w3 ⟨rfl,hb3⟩;obtain⟨q0,q1⟩:=HQ.out;have p0:=kc q0 hb3;have p1:=kc q1 hb3)
 go_wp2_with fail
 go_ret2
 exact⟨rfl,(HE1.out.more hb3)⟩
set_option maxRecDepth 100000 in
theorem mE (A:Option Addr) (n c:Nat) (na b0:Bool) (xs:List Nat) (u n1:Nat) (w:World) (hx:aj w A n c xs) (_hs:xs.length≤2147483648) (hd:decide (af na xs<0)=b0) (hu0:(af na xs).natAbs=u) (hn1:(digs u).length=n1) (h2:n1≤2) (hb:b0=true) (hu:u≤9223372036854775808):
 Calls Tryz.prog 90 #[.agg #[.bool na, .slice A n c]] w (lX (-(u:Int)) true w):=by
 obtain⟨W,hW⟩:∃W,W=w.alloc (.cells #[.bool na, .slice A n c] 36):=⟨_,rfl⟩;obtain⟨⟨ca0,ca1⟩,⟨fa0,fa1⟩,hbW⟩:=ja w _ _ _ W hW;have hc:=gS _ na xs W (cF (hx.ext hbW)) _hs;obtain⟨z,hz⟩:∃z,af na xs=z:=⟨_,rfl⟩;rw[hz]at hc hd hu0;have Hc:=Lib.hid hc;have Hd:=Lib.hid hd;have Hu0:=Lib.hid hu0;have Hn1:=Lib.hid hn1;have t1:(u:Int)≤9223372036854775808:=(by omega);have t0:¬(n1:Int) > 2:=(by omega);subst hb;have Hu:=Lib.hid hu;clear hu
 have HU:Hid (∀{A':Option Addr} {c':Nat} (W':World),aj W' A' n1 c' (digs u)→_):=Lib.hid (fun W' h=>ir h2 W' h);clear hx hc hz hd hu0 hn1;generalize hUU:(u:Int)=U at *;have HUU:=Lib.hid hUU;clear hUU
 go_enter func90,ntmps90
 go_wp2_with fail
 rw[← hW];clear hW
 ((with_reducible refine Hc.out.mono ?_);rintro e w1 ⟨v1,rfl,hv1,hb1⟩;obtain⟨A1,k1,c1,rfl,hw1⟩:=cG hv1 Hd.out;rw[Hu0.out]at hw1;obtain rfl:k1=n1:=(hw1.len.symm.trans Hn1.out);have su0:=kc ca0 hb1;have su1:=kc ca1 hb1;have sf0:=kf ca0 fa0 hb1;have sf1:=kf ca1 fa1 hb1;have hE1:ak w w1:=hbW.more hb1;have HE1:=Lib.hid (hE1.set2 (r:=w.heap.size) (Nat.le_refl _) (.bool true) (.slice A1 k1 c1));have HW1:=Lib.hid (hw1.set2 (r:=w.heap.size) (aw.mk su0 su1 sf0 sf1) (.bool true) (.slice A1 k1 c1));have HQ:=Lib.hid ((aw.mk su0 su1 sf0 sf1).cells true A1 k1 c1);clear hw1 hv1 hb1)
 go_wp2_with fail;(go_at_call 152;(with_reducible refine(HU.out _ HW1.out).mono ?_);rintro e w3 ⟨rfl,hb3⟩;obtain⟨q0,q1⟩:=HQ.out;have p0:=kc q0 hb3;have p1:=kc q1 hb3)
 go_wp2_with fail
 go_ret2
 exact⟨wP (by have hu:=Hu.out;have hUU:=HUU.out;first|rw[un (by omega)]|(show Value.tuple #[.int .i64 (wrap64 (IntKind.u64.wrap (-U))), .bool true]=_;rw[xC (by omega)])),(HE1.out.more hb3)⟩
set_option maxRecDepth 100000 in
theorem lB (A:Option Addr) (n c:Nat) (na b0:Bool) (xs:List Nat) (u n1:Nat) (w:World) (hx:aj w A n c xs) (_hs:xs.length≤2147483648) (hd:decide (af na xs<0)=b0) (hu0:(af na xs).natAbs=u) (hn1:(digs u).length=n1) (h2:n1≤2) (hb:b0=true) (hu:9223372036854775808<u):
 Calls Tryz.prog 90 #[.agg #[.bool na, .slice A n c]] w (lX (0) false w):=by
 obtain⟨W,hW⟩:∃W,W=w.alloc (.cells #[.bool na, .slice A n c] 36):=⟨_,rfl⟩;obtain⟨⟨ca0,ca1⟩,⟨fa0,fa1⟩,hbW⟩:=ja w _ _ _ W hW;have hc:=gS _ na xs W (cF (hx.ext hbW)) _hs;obtain⟨z,hz⟩:∃z,af na xs=z:=⟨_,rfl⟩;rw[hz]at hc hd hu0;have Hc:=Lib.hid hc;have Hd:=Lib.hid hd;have Hu0:=Lib.hid hu0;have Hn1:=Lib.hid hn1;have t1:¬(u:Int)≤9223372036854775808:=(by omega);have t0:¬(n1:Int) > 2:=(by omega);subst hb;have Hu:=Lib.hid hu;clear hu
 have HU:Hid (∀{A':Option Addr} {c':Nat} (W':World),aj W' A' n1 c' (digs u)→_):=Lib.hid (fun W' h=>ir h2 W' h);clear hx hc hz hd hu0 hn1;generalize hUU:(u:Int)=U at *;have HUU:=Lib.hid hUU;clear hUU
 go_enter func90,ntmps90
 go_wp2_with fail
 rw[← hW];clear hW
 ((with_reducible refine Hc.out.mono ?_);rintro e w1 ⟨v1,rfl,hv1,hb1⟩;obtain⟨A1,k1,c1,rfl,hw1⟩:=cG hv1 Hd.out;rw[Hu0.out]at hw1;obtain rfl:k1=n1:=(hw1.len.symm.trans Hn1.out);have su0:=kc ca0 hb1;have su1:=kc ca1 hb1;have sf0:=kf ca0 fa0 hb1;have sf1:=kf ca1 fa1 hb1;have hE1:ak w w1:=hbW.more hb1;have HE1:=Lib.hid (hE1.set2 (r:=w.heap.size) (Nat.le_refl _) (.bool true) (.slice A1 k1 c1));have HW1:=Lib.hid (hw1.set2 (r:=w.heap.size) (aw.mk su0 su1 sf0 sf1) (.bool true) (.slice A1 k1 c1));have HQ:=Lib.hid ((aw.mk su0 su1 sf0 sf1).cells true A1 k1 c1);clear hw1 hv1 hb1)
 go_wp2_with fail;(go_at_call 152;(with_reducible refine(HU.out _ HW1.out).mono ?_);rintro e w3 ⟨rfl,hb3⟩;obtain⟨q0,q1⟩:=HQ.out;have p0:=kc q0 hb3;have p1:=kc q1 hb3)
 go_wp2_with fail
 go_ret2
 exact⟨rfl,(HE1.out.more hb3)⟩
def eN (z:Int):Int × Bool:=if -9223372036854775808≤z∧z≤9223372036854775807 then(z,true)else(0,false)
theorem xx (va:Value) (na:Bool) (xs:List Nat) (w:World) (ha:aL w va na xs) (hs:xs.length≤2147483648):
 Calls Tryz.prog 90 #[va] w (lX (eN (af na xs)).1 (eN (af na xs)).2 w):=by
 obtain⟨A,n,c,rfl,hx⟩:=ha;obtain⟨z,hz⟩:∃z,af na xs=z:=⟨_,rfl⟩
 have big:2<(digs z.natAbs).length→18446744073709551616≤z.natAbs:=by
  intro h;rcases Nat.lt_or_ge z.natAbs 18446744073709551616 with h1|h1
  ·have:=av (n:=z.natAbs) (k:=2) (by omega)
   omega
  ·exact h1
 by_cases h2:2<(digs z.natAbs).length
 ·have:=big h2
  rw[hz,show eN z=(0,false) by unfold eN;rw[if_neg (by omega)]];rw[← hz]at h2;exact qp A n c na _ xs _ _ w hx hs rfl rfl rfl h2
 ·by_cases hn:z<0
  ·by_cases hu:z.natAbs≤9223372036854775808
   ·rw[hz,show eN z=(-(z.natAbs:Int),true) by unfold eN;rw[if_pos (by omega)];congr 1;omega]
    rw[← hz]at h2 hu hn ⊢;exact mE A n c na _ xs _ _ w hx hs rfl rfl rfl (by omega) (decide_eq_true hn) hu
   ·rw[hz,show eN z=(0,false) by unfold eN;rw[if_neg (by omega)]]
    rw[← hz]at h2 hu hn;exact lB A n c na _ xs _ _ w hx hs rfl rfl rfl (by omega) (decide_eq_true hn) (by omega)
  ·by_cases hu:z.natAbs≤9223372036854775807
   ·rw[hz,show eN z=((z.natAbs:Int),true) by unfold eN;rw[if_pos (by omega)];congr 1;omega]
    rw[← hz]at h2 hu hn ⊢;exact nv A n c na _ xs _ _ w hx hs rfl rfl rfl (by omega) (decide_eq_false hn) hu
   ·rw[hz,show eN z=(0,false) by unfold eN;rw[if_neg (by omega)]]
    rw[← hz]at h2 hu hn;exact ls A n c na _ xs _ _ w hx hs rfl rfl rfl (by omega) (decide_eq_false hn) (by omega)
end
theorem oP {y:Nat} (h:0<y):bitLen y=bitLen (y/2)+1:=by
 by_cases h1:y/2=0
 ·have:y=1:=by omega
  subst this;decide
 ·have:=bitLen_shift y 1 h1
  simp only[Nat.pow_one]at this
  omega
theorem lQ (A:Option Addr) (n c v:Nat) (w:World) (hx:aj w A n c (digs v)) (hs:n≤4294967296):
 Calls Tryz.prog 227 #[.slice A n c] w fun e w'=>e= .returned (.int .i64 (bitLen v:Int))∧w=w':=by
 by_cases h0:n=0
 ·have hv:v=0:=by
   have:=hx.len;rw[h0]at this;exact b5.1 (List.eq_nil_of_length_eq_zero this)
  have hb:bitLen v=0:=by rw[hv];rfl
  rw[hb];subst h0;clear hx hv hb
  go_enter func227,ntmps227
  go_wp2
  go_ret
  exact⟨rfl,rfl⟩
 ·have h0':((n:Int) == 0)=false:=by simp;omega
  obtain⟨b1,o1,rfl,_,hc1⟩:=hx.at (by omega);have hc2:=hc1 (n-1) (by omega);clear hc1;have hx1:=hx.wd.getD (n-1);obtain⟨k,hk⟩:∃k,n=k+1:=⟨n-1,by omega⟩;have hb:=f8 hx.wd (iy _) k (by rw[hx.len,hk]);rw[ac]at hb;rw[show n-1=k by omega]at hc2 hx1;generalize(digs v).getD k 0=x at hc2 hx1 hb;have hb32:=eA x hx1;have Hb:=Lib.hid hb.2;have Hk:=Lib.hid hk;have g1:(0:Int)≤(n:Int)-1:=by omega
  have g2:(n:Int)-1<n:=by omega
  have hc3:w.cell? ⟨b1,o1+(n-1),none⟩=some (aS x):=by rw[show n-1=k by omega];exact hc2
  clear hx hb hk hc2
  go_enter func227,ntmps227
  go_wp2
  go_loop [3,4] (fun a i=>∃(j y:Nat),a= .int .i64 j∧i= .int .u32 y∧j+bitLen y=bitLen x∧y<4294967296) (fun _ i=>(intOf i).toNat)
  case atStart=>exact⟨0,x,rfl,rfl,by omega,hx1⟩
  case round=>
   obtain⟨j,y,rfl,rfl,hjy,hy⟩:=hrel;have hj32:j≤32:=by omega
   by_cases hy0:0<y
   ·have hh:=oP hy0
    have t0:(0:Int)<y:=by omega
    have Hjy:=Lib.hid hjy;have Hh:=Lib.hid hh;clear hjy hh
    go_wp2
    go_round
    case rel=>exact⟨j+1,y/2,by go_num,by go_num,by have:=Hjy.out;have:=Hh.out;omega,by omega⟩
    case measure=>simp[intOf];omega
   ·have hy1:y=0:=by omega
    subst hy1;have hj:j=bitLen x:=by rw[show bitLen 0=0 from rfl]at hjy;omega
    have Hj:=Lib.hid hj;clear hjy hj
    go_wp2
    go_ret
    refine⟨rm ?_,rfl⟩;have h1:=Hj.out;have h2:=Hb.out;have h3:=Hk.out
    first|omega|(rw[IntWalk.i64_in _ (by omega)];omega)|(rw[kp (by omega)];omega)
theorem wt (va:Value) (na:Bool) (xs:List Nat) (w:World) (ha:aL w va na xs) (hs:xs.length≤2147483648):
 Calls Tryz.prog 159 #[va] w (i7 (bitLen (val xs)) w):=by
 obtain⟨A,n,c,rfl,hx⟩:=ha;obtain⟨W,hW⟩:∃W,W=w.alloc (.cells #[.bool na, .slice A n c] 36):=⟨_,rfl⟩;obtain⟨⟨ca0,ca1⟩,⟨fa0,fa1⟩,hbW⟩:=ja w _ _ _ W hW;have hl:=aV hx.wd hs;have hlen:=lQ A (trim xs).length c (val xs) W (hx.ext hbW).trim hl;obtain⟨bl,hbl⟩:∃bl,bl=bitLen (val xs):=⟨_,rfl⟩;rw[← hbl]at hlen ⊢;have Hx:=Lib.hid (hx.ext hbW);have Hl:=Lib.hid hlen;clear hx hlen hbl hl
 go_enter func159,ntmps159
 go_wp2_with fail
 rw[← hW];clear hW
 go_wp2_with (first
  |(go_at_call 162;(with_reducible refine(aX A n c xs _ Hx.out).mono ?_);rintro e w' ⟨rfl,rfl⟩)
  |(go_at_call 227;(with_reducible refine Hl.out.mono ?_);rintro e w' ⟨rfl,rfl⟩))
 go_ret
 exact⟨rfl,hbW⟩
end Go.Proofs.YtmkggcjajcdlcaaGreatDoor
