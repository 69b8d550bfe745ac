/- Add of the program. Cmp of the program; Sign, Add, Sub and Cmp of the reference. Sign, Add, Sub and Cmp of the reference. Sub and Cmp of the reference; the sums' law. -/
import Derived.Test.YtikbnnljjeefgaaGreatDoorWAi
set_option maxHeartbeats 100000000
set_option linter.all false
open Go.Proofs.Tryz
namespace Go.Proofs.YtikbnnljjeefgaaGreatDoor
open Go.RowKit
section
attribute [local go_sem ↓] Go.wp_at_zero Go.wp_at_succ
theorem dJ {W w:World} {p1 p2 p3 p4:Addr} {v1 v2 v3 v4:Value} (h:w.cell? p1=some v1∧w.cell? p2=some v2∧w.cell? p3=some v3∧w.cell? p4=some v4∧aJ W w):aJ W w:=h.2.2.2.2
theorem yD (na:Bool) (xs ys zs:List Nat) (h:val zs=val xs+val ys):aq na zs=aq na xs+aq na ys:=by
 unfold aq;rw[h];cases na<;>simp;omega
theorem yi (na:Bool) (xs ys:List Nat) (h:val xs<val ys):aq (!na) (digs (val (trim ys)-val (trim xs)))=aq na xs+aq (!na) ys:=by
 unfold aq;rw[af,aN,aN];cases na<;>simp <;>omega
theorem yw (na:Bool) (xs ys:List Nat) (h:val ys≤val xs):aq na (digs (val (trim xs)-val (trim ys)))=aq na xs+aq (!na) ys:=by
 unfold aq;rw[af,aN,aN];cases na<;>simp <;>omega
theorem lw {na nb:Bool} (h:nb≠na):nb=!na:=by cases na<;>cases nb<;>simp_all
theorem ld (xs ys:List Nat):ib (trim xs) (trim ys)=bQ (val xs) (val ys):=jj _ _
theorem Da (va vb:Value) (na nb:Bool) (xs ys:List Nat) (w:World) (ha:bL w va na xs) (hb:bL w vb nb ys) (h1:xs.length≤2147483648) (h2:ys.length≤2147483648) (hn:na=nb) (z:Int) (hz:z=aq na xs+aq nb ys):
 Calls Tryz.prog 232 #[va,vb] w (b6 z w):=by
 obtain⟨A,n,c,rfl,hx⟩:=ha;obtain⟨B,m,d,rfl,hy⟩:=hb;subst hn;obtain⟨W,hW⟩:∃W,W=((w.alloc (.cells #[.bool na, .slice A n c] 24)).alloc (.cells #[.bool na, .slice B m d] 24)).alloc (.cells #[.bool false, .slice none 0 0] 24):=⟨_,rfl⟩;obtain⟨⟨ca0,ca1,cb0,cb1⟩,⟨cr0,cr1,fr0,fr1⟩,hbW⟩:=hZ w _ _ _ _ _ _ _ W hW;have hl1:=bZ hx.wd h1;have hl2:=bZ hy.wd h2;have Hx:=Lib.hid hx;have Hy:=Lib.hid hy;have hH:=bU ⟨ca0,ca1,cb0,cb1,hbW⟩ (Below.drew (Below.refl _ _));have hcmp:=fun W' (h1:aC W' A (trim xs).length c (trim xs)) (h2:aC W' B (trim ys).length d (trim ys))=>gg A B (trim xs).length (trim ys).length c d (trim xs) (trim ys) W' h1 h2
 rw[ld]at hcmp;obtain⟨o,ho⟩:∃o,o=bQ (val xs) (val ys):=⟨_,rfl⟩;rw[← ho]at hcmp;have HZ:Hid (∀zs,val zs=val (trim xs)+val (trim ys)→aq na zs=z):=fun zs hzs=>(yD na xs ys zs (by rw[hzs,aN,aN])).trans hz.symm
 have Hcmp:=Lib.hid hcmp;have Ho:=Lib.hid ho;have ho1:True:=trivial;have hb0:(na == !na)=false:=by cases na<;>rfl
 clear hx hy hz hcmp ho
 go_enter func232,ntmps232
 go_wp2_with fail
 rw[← hW];clear hW
 go_region_held3 (fun w'=>w'.cell? ⟨w.heap.size,0,none⟩=some (.bool na)∧w'.cell? ⟨w.heap.size,1,none⟩=some (.slice A n c)∧w'.cell? ⟨w.heap.size+1,0,none⟩=some (.bool na)∧w'.cell? ⟨w.heap.size+1,1,none⟩=some (.slice B m d)∧aJ w w')
  (with_reducible first|exact hH|assumption|exact bU (by assumption) (by assumption))
  (first
   |((go_at_call 137;(with_reducible refine(bC A n c xs _ (Hx.out.ext (dJ (by assumption)))).mono ?_);rintro e w' ⟨rfl,rfl⟩))
   |((go_at_call 137;(with_reducible refine(bC B m d ys _ (Hy.out.ext (dJ (by assumption)))).mono ?_);rintro e w' ⟨rfl,rfl⟩)))
 obtain⟨W1,hW1⟩:∃W1,W1=W.drew:=⟨_,rfl⟩;rw[← hW1]at hH ⊢;have hEc:aJ W W1:=by rw[hW1];exact(aJ.refl W).drew
 have hH':=hH;obtain⟨d0,d1,e0,e1,hE1⟩:=hH';clear hW1
 go_wp2_with (go_at_call 136;(with_reducible refine(Hcmp.out _ (Hx.out.trim.ext hE1) (Hy.out.trim.ext hE1)).mono ?_);rintro e w2 ⟨rfl,q,rfl⟩;have hH:=bU hH (bH _ q);have hEc:=hEc.trans (bH _ q))
 skip
 have hH2:=bU hH (Below.drew (Below.refl _ _));have hEd:=aJ.drew hEc;clear d0 d1 e0 e1 hE1 Hcmp hH hEc
 go_region_held3 (fun w'=>w'.cell? ⟨w.heap.size,0,none⟩=some (.bool na)∧w'.cell? ⟨w.heap.size,1,none⟩=some (.slice A n c)∧w'.cell? ⟨w.heap.size+1,0,none⟩=some (.bool na)∧w'.cell? ⟨w.heap.size+1,1,none⟩=some (.slice B m d)∧aJ w w')
  (with_reducible first|exact hH2|assumption|exact bU (by assumption) (by assumption)|exact ju (by assumption) (by omega) (by dsimp only;omega) (by dsimp only;omega) (by dsimp only;omega) (by dsimp only;omega))
  (first
   |((go_at_call 206;(with_reducible refine(E8 _ _ _ _ _ _ (trim xs) (trim ys) _ (Hx.out.trim.ext (dJ (by assumption))) (Hy.out.trim.ext (dJ (by assumption))) hl1 hl2).mono ?_);rintro e w1 ⟨A1,n1,c1,zs,rfl,hw1,⟨hzs,-⟩,hb1⟩;have hzz:=HZ.out zs hzs))
   |((go_at_call 133;(with_reducible refine(bR hw1 hzz).mono ?_);rintro e w2 ⟨v2,rfl,⟨A2,n2,c2,rfl,hw2⟩,hb2⟩;have hE2:=aJ.more (aJ.more hEd hb1) hb2;have su0:=kc cr0 hE2;have su1:=kc cr1 hE2;have sf0:=kf cr0 fr0 hE2;have sf1:=kf cr1 fr1 hE2)))
 go_wp2_with fail
 exact bodyPost_ret (v:= .agg #[.bool (decide (z<0)), .slice A2 n2 c2]) (by simp[results,results232,go_sem,su0,su1]) rfl (eH su0 su1 hw2 (hbW.trans hE2) (by omega))
theorem CA (va vb:Value) (na nb:Bool) (xs ys:List Nat) (w:World) (ha:bL w va na xs) (hb:bL w vb nb ys) (h1:xs.length≤2147483648) (h2:ys.length≤2147483648) (hn:nb=!na) (hl:val xs<val ys) (z:Int) (hz:z=aq na xs+aq nb ys):
 Calls Tryz.prog 232 #[va,vb] w (b6 z w):=by
 obtain⟨A,n,c,rfl,hx⟩:=ha;obtain⟨B,m,d,rfl,hy⟩:=hb;subst hn;obtain⟨W,hW⟩:∃W,W=((w.alloc (.cells #[.bool na, .slice A n c] 24)).alloc (.cells #[.bool (!na), .slice B m d] 24)).alloc (.cells #[.bool false, .slice none 0 0] 24):=⟨_,rfl⟩;obtain⟨⟨ca0,ca1,cb0,cb1⟩,⟨cr0,cr1,fr0,fr1⟩,hbW⟩:=hZ w _ _ _ _ _ _ _ W hW;have hl1:=bZ hx.wd h1;have hl2:=bZ hy.wd h2;have Hx:=Lib.hid hx;have Hy:=Lib.hid hy;have hH:=bU ⟨ca0,ca1,cb0,cb1,hbW⟩ (Below.drew (Below.refl _ _));have hcmp:=fun W' (h1:aC W' A (trim xs).length c (trim xs)) (h2:aC W' B (trim ys).length d (trim ys))=>gg A B (trim xs).length (trim ys).length c d (trim xs) (trim ys) W' h1 h2
 rw[ld]at hcmp;obtain⟨o,ho⟩:∃o,o=bQ (val xs) (val ys):=⟨_,rfl⟩;rw[← ho]at hcmp;have HZ:Hid (aq (!na) (digs (val (trim ys)-val (trim xs)))=z):=(yi na xs ys hl).trans hz.symm;have Hcmp:=Lib.hid hcmp;have Ho:=Lib.hid ho;have HM:=Lib.hid (fun W' h1 h2=>uN B A (trim ys).length (trim xs).length d c (trim ys) (trim xs) W' h1 h2 (by have h3:=aN xs;have h4:=aN ys;omega) hl2);have ho1:o<0:=by have:=fv (a:=(val xs:Int)) (b:=val ys) (by omega);omega
 have hb0:(na == !na)=false:=by cases na<;>rfl
 clear hx hy hz hcmp ho
 go_enter func232,ntmps232
 go_wp2_with fail
 rw[← hW];clear hW
 go_region_held3 (fun w'=>w'.cell? ⟨w.heap.size,0,none⟩=some (.bool na)∧w'.cell? ⟨w.heap.size,1,none⟩=some (.slice A n c)∧w'.cell? ⟨w.heap.size+1,0,none⟩=some (.bool (!na))∧w'.cell? ⟨w.heap.size+1,1,none⟩=some (.slice B m d)∧aJ w w')
  (with_reducible first|exact hH|assumption|exact bU (by assumption) (by assumption))
  (first
   |((go_at_call 137;(with_reducible refine(bC A n c xs _ (Hx.out.ext (dJ (by assumption)))).mono ?_);rintro e w' ⟨rfl,rfl⟩))
   |((go_at_call 137;(with_reducible refine(bC B m d ys _ (Hy.out.ext (dJ (by assumption)))).mono ?_);rintro e w' ⟨rfl,rfl⟩)))
 obtain⟨W1,hW1⟩:∃W1,W1=W.drew:=⟨_,rfl⟩;rw[← hW1]at hH ⊢;have hEc:aJ W W1:=by rw[hW1];exact(aJ.refl W).drew
 have hH':=hH;obtain⟨d0,d1,e0,e1,hE1⟩:=hH';clear hW1
 go_wp2_with (go_at_call 136;(with_reducible refine(Hcmp.out _ (Hx.out.trim.ext hE1) (Hy.out.trim.ext hE1)).mono ?_);rintro e w2 ⟨rfl,q,rfl⟩;have hH:=bU hH (bH _ q);have hEc:=hEc.trans (bH _ q))
 generalize W1.drewN q=W2 at *;have hH2:=bU hH (Below.drew (Below.refl _ _));have hEd:=aJ.drew hEc;clear d0 d1 e0 e1 hE1 Hcmp hH hEc
 go_region_held3 (fun w'=>w'.cell? ⟨w.heap.size,0,none⟩=some (.bool na)∧w'.cell? ⟨w.heap.size,1,none⟩=some (.slice A n c)∧w'.cell? ⟨w.heap.size+1,0,none⟩=some (.bool (!na))∧w'.cell? ⟨w.heap.size+1,1,none⟩=some (.slice B m d)∧aJ w w')
  (with_reducible first|exact hH2|assumption|exact bU (by assumption) (by assumption)|exact ju (by assumption) (by omega) (by dsimp only;omega) (by dsimp only;omega) (by dsimp only;omega) (by dsimp only;omega))
  (first
   |((go_at_call 207;(with_reducible refine(HM.out _ (Hy.out.trim.ext (dJ (by assumption))) (Hx.out.trim.ext (dJ (by assumption)))).mono ?_);rintro e w1 ⟨A1,n1,c1,zs,rfl,hw1,rfl,hb1⟩;have hzz:=HZ.out))
   |((go_at_call 133;(with_reducible refine(bR hw1 hzz).mono ?_);rintro e w2 ⟨v2,rfl,⟨A2,n2,c2,rfl,hw2⟩,hb2⟩;have hE2:=aJ.more (aJ.more hEd hb1) hb2;have su0:=kc cr0 hE2;have su1:=kc cr1 hE2;have sf0:=kf cr0 fr0 hE2;have sf1:=kf cr1 fr1 hE2)))
 go_wp2_with fail
 exact bodyPost_ret (v:= .agg #[.bool (decide (z<0)), .slice A2 n2 c2]) (by simp[results,results232,go_sem,su0,su1]) rfl (eH su0 su1 hw2 (hbW.trans hE2) (by omega))
theorem Do (va vb:Value) (na nb:Bool) (xs ys:List Nat) (w:World) (ha:bL w va na xs) (hb:bL w vb nb ys) (h1:xs.length≤2147483648) (h2:ys.length≤2147483648) (hn:nb=!na) (hl:val ys≤val xs) (z:Int) (hz:z=aq na xs+aq nb ys):
 Calls Tryz.prog 232 #[va,vb] w (b6 z w):=by
 obtain⟨A,n,c,rfl,hx⟩:=ha;obtain⟨B,m,d,rfl,hy⟩:=hb;subst hn;obtain⟨W,hW⟩:∃W,W=((w.alloc (.cells #[.bool na, .slice A n c] 24)).alloc (.cells #[.bool (!na), .slice B m d] 24)).alloc (.cells #[.bool false, .slice none 0 0] 24):=⟨_,rfl⟩;obtain⟨⟨ca0,ca1,cb0,cb1⟩,⟨cr0,cr1,fr0,fr1⟩,hbW⟩:=hZ w _ _ _ _ _ _ _ W hW;have hl1:=bZ hx.wd h1;have hl2:=bZ hy.wd h2;have Hx:=Lib.hid hx;have Hy:=Lib.hid hy;have hH:=bU ⟨ca0,ca1,cb0,cb1,hbW⟩ (Below.drew (Below.refl _ _));have hcmp:=fun W' (h1:aC W' A (trim xs).length c (trim xs)) (h2:aC W' B (trim ys).length d (trim ys))=>gg A B (trim xs).length (trim ys).length c d (trim xs) (trim ys) W' h1 h2
 rw[ld]at hcmp;obtain⟨o,ho⟩:∃o,o=bQ (val xs) (val ys):=⟨_,rfl⟩;rw[← ho]at hcmp;have HZ:Hid (aq na (digs (val (trim xs)-val (trim ys)))=z):=(yw na xs ys hl).trans hz.symm;have Hcmp:=Lib.hid hcmp;have Ho:=Lib.hid ho;have HM:=Lib.hid (fun W' h1 h2=>uN A B (trim xs).length (trim ys).length c d (trim xs) (trim ys) W' h1 h2 (by have h3:=aN xs;have h4:=aN ys;omega) hl1);have ho1:¬o<0:=by have:=gV (a:=(val xs:Int)) (b:=val ys) (by omega);omega
 have hb0:(na == !na)=false:=by cases na<;>rfl
 clear hx hy hz hcmp ho
 go_enter func232,ntmps232
 go_wp2_with fail
 rw[← hW];clear hW
 go_region_held3 (fun w'=>w'.cell? ⟨w.heap.size,0,none⟩=some (.bool na)∧w'.cell? ⟨w.heap.size,1,none⟩=some (.slice A n c)∧w'.cell? ⟨w.heap.size+1,0,none⟩=some (.bool (!na))∧w'.cell? ⟨w.heap.size+1,1,none⟩=some (.slice B m d)∧aJ w w')
  (with_reducible first|exact hH|assumption|exact bU (by assumption) (by assumption))
  (first
   |((go_at_call 137;(with_reducible refine(bC A n c xs _ (Hx.out.ext (dJ (by assumption)))).mono ?_);rintro e w' ⟨rfl,rfl⟩))
   |((go_at_call 137;(with_reducible refine(bC B m d ys _ (Hy.out.ext (dJ (by assumption)))).mono ?_);rintro e w' ⟨rfl,rfl⟩)))
 obtain⟨W1,hW1⟩:∃W1,W1=W.drew:=⟨_,rfl⟩;rw[← hW1]at hH ⊢;have hEc:aJ W W1:=by rw[hW1];exact(aJ.refl W).drew
 have hH':=hH;obtain⟨d0,d1,e0,e1,hE1⟩:=hH';clear hW1
 go_wp2_with (go_at_call 136;(with_reducible refine(Hcmp.out _ (Hx.out.trim.ext hE1) (Hy.out.trim.ext hE1)).mono ?_);rintro e w2 ⟨rfl,q,rfl⟩;have hH:=bU hH (bH _ q);have hEc:=hEc.trans (bH _ q))
 generalize W1.drewN q=W2 at *;have hH2:=bU hH (Below.drew (Below.refl _ _));have hEd:=aJ.drew hEc;clear d0 d1 e0 e1 hE1 Hcmp hH hEc
 go_region_held3 (fun w'=>w'.cell? ⟨w.heap.size,0,none⟩=some (.bool na)∧w'.cell? ⟨w.heap.size,1,none⟩=some (.slice A n c)∧w'.cell? ⟨w.heap.size+1,0,none⟩=some (.bool (!na))∧w'.cell? ⟨w.heap.size+1,1,none⟩=some (.slice B m d)∧aJ w w')
  (with_reducible first|exact hH2|assumption|exact bU (by assumption) (by assumption)|exact ju (by assumption) (by omega) (by dsimp only;omega) (by dsimp only;omega) (by dsimp only;omega) (by dsimp only;omega))
  (first
   |((go_at_call 207;(with_reducible refine(HM.out _ (Hx.out.trim.ext (dJ (by assumption))) (Hy.out.trim.ext (dJ (by assumption)))).mono ?_);rintro e w1 ⟨A1,n1,c1,zs,rfl,hw1,rfl,hb1⟩;have hzz:=HZ.out))
   |((go_at_call 133;(with_reducible refine(bR hw1 hzz).mono ?_);rintro e w2 ⟨v2,rfl,⟨A2,n2,c2,rfl,hw2⟩,hb2⟩;have hE2:=aJ.more (aJ.more hEd hb1) hb2;have su0:=kc cr0 hE2;have su1:=kc cr1 hE2;have sf0:=kf cr0 fr0 hE2;have sf1:=kf cr1 fr1 hE2)))
 go_wp2_with fail
 exact bodyPost_ret (v:= .agg #[.bool (decide (z<0)), .slice A2 n2 c2]) (by simp[results,results232,go_sem,su0,su1]) rfl (eH su0 su1 hw2 (hbW.trans hE2) (by omega))
theorem JO (va vb:Value) (na nb:Bool) (xs ys:List Nat) (w:World) (ha:bL w va na xs) (hb:bL w vb nb ys) (h1:xs.length≤2147483648) (h2:ys.length≤2147483648):
 Calls Tryz.prog 232 #[va,vb] w (b6 (aq na xs+aq nb ys) w):=by
 by_cases hn:nb=na
 ·exact Da va vb na nb xs ys w ha hb h1 h2 hn.symm _ rfl
 ·by_cases hl:val xs<val ys
  ·exact CA va vb na nb xs ys w ha hb h1 h2 (lw hn) hl _ rfl
  ·exact Do va vb na nb xs ys w ha hb h1 h2 (lw hn) (by omega) _ rfl
end
section
attribute [local go_sem ↓] Go.wp_at_zero Go.wp_at_succ
theorem Bc (na:Bool) (xs:List Nat):qz na xs= -1∨qz na xs=0∨qz na xs=1:=by unfold qz;split <;>(try split)<;>simp
theorem Ix (na nb:Bool) (xs ys:List Nat) (h:qz na xs≠qz nb ys):bQ (qz na xs) (qz nb ys)=bQ (aq na xs) (aq nb ys):=by
 unfold qz aq bQ at *;cases na<;>cases nb<;>by_cases h1:val xs=0<;>by_cases h2:val ys=0<;>simp_all <;>(repeat' split)<;>omega
theorem IB (na nb:Bool) (xs ys:List Nat) (s:Int) (h1:qz na xs=s) (h2:qz nb ys=s):s*bQ (val xs) (val ys)=bQ (aq na xs) (aq nb ys):=by
 subst h1;unfold qz aq bQ at *;cases na<;>cases nb<;>by_cases h1:val xs=0<;>by_cases h3:val ys=0<;>simp_all <;>(repeat' split)<;>omega
theorem ED {o:Int} {A B:Option Addr} {n m c d:Nat} {xs ys:List Nat} (ho:bQ (val xs) (val ys)=o) (W:World) (h1:aC W A n c (trim xs)) (h2:aC W B m d (trim ys)):Calls Tryz.prog 136 #[.slice A n c, .slice B m d] W (qd o W):=by
 have:=gg A B n m c d (trim xs) (trim ys) W h1 h2;rw[ld,ho]at this;exact this.mono fun _ _ ⟨he,q,hq⟩=>⟨he,hq ▸ bH _ q⟩
theorem JF (va vb:Value) (na nb:Bool) (xs ys:List Nat) (w:World) (ha:bL w va na xs) (hb:bL w vb nb ys):
 Calls Tryz.prog 90 #[va,vb] w (qd (bQ (aq na xs) (aq nb ys)) w):=by
 obtain⟨A,n,c,rfl,hx⟩:=ha;obtain⟨B,m,d,rfl,hy⟩:=hb;obtain⟨W,hW⟩:∃W,W=(w.alloc (.cells #[.bool na, .slice A n c] 24)).alloc (.cells #[.bool nb, .slice B m d] 24):=⟨_,rfl⟩;obtain⟨⟨ca0,ca1,cb0,cb1⟩,hbW⟩:=wZ w _ _ _ _ _ W hW;have hH:=bU ⟨ca0,ca1,cb0,cb1,hbW⟩ (Below.drew (Below.refl _ _));have hne:=Ix na nb xs ys;have heq:=IB na nb xs ys;have hr1:=Bc na xs;have hs1:=fun W' h=>zi (.agg #[.bool na, .slice A n c]) na xs W' h
 have hs2:=fun W' h=>zi (.agg #[.bool nb, .slice B m d]) nb ys W' h
 obtain⟨s,hs⟩:∃s,s=qz na xs:=⟨_,rfl⟩;obtain⟨t,ht⟩:∃t,t=qz nb ys:=⟨_,rfl⟩;obtain⟨z,hz⟩:∃z,z=bQ (aq na xs) (aq nb ys):=⟨_,rfl⟩;rw[← hz];rw[← hs]at hs1;rw[← ht]at hs2;rw[← hs,← ht,← hz]at hne;rw[← hs]at hr1;have Hx:=Lib.hid hx;have Hy:=Lib.hid hy;have Hs1:=Lib.hid hs1;have Hs2:=Lib.hid hs2;have Hne:=Lib.hid hne
 by_cases hst:s=t
 ·subst hst
  have hz':=heq s hs.symm ht.symm;obtain⟨o,ho⟩:∃o,bQ (val xs) (val ys)=o:=⟨_,rfl⟩;rw[ho,← hz]at hz';have Hcmp:=Lib.hid (ED (A:=A) (B:=B) (n:=(trim xs).length) (m:=(trim ys).length) (c:=c) (d:=d) ho);have hob:=yT (val xs) (val ys);rw[ho]at hob;clear hx hy hs1 hs2 hne heq hs ht hz ho;rcases hr1 with rfl|rfl|rfl
  all_goals(
   have hzz:z=_:=hz'.symm;clear hz';have Hzz:=Lib.hid hzz;clear hzz
   go_enter func90,ntmps90
   go_wp2_with fail
   rw[← hW];clear hW
   go_region_held3 (fun w'=>w'.cell? ⟨w.heap.size,0,none⟩=some (.bool na)∧w'.cell? ⟨w.heap.size,1,none⟩=some (.slice A n c)∧w'.cell? ⟨w.heap.size+1,0,none⟩=some (.bool nb)∧w'.cell? ⟨w.heap.size+1,1,none⟩=some (.slice B m d)∧aJ w w')
    (with_reducible first|exact hH|assumption|exact bU (by assumption) (by assumption))
    (first
     |((go_at_call 129;(with_reducible refine(Hs1.out _ (cI Hx.out (dJ (by assumption)))).mono ?_);rintro e w1 ⟨rfl,hb1⟩;have hH1:=bU hH hb1))
     |((go_at_call 129;(with_reducible refine(Hs2.out _ (cI Hy.out (dJ hH1))).mono ?_);rintro e w2 ⟨rfl,hb2⟩;have hH2:=bU hH1 hb2)))
   have hH3:=bU hH2 (Below.drew (Below.refl _ _));clear hH1
   go_wp2_with fail
   go_region_held3 (fun w'=>w'.cell? ⟨w.heap.size,0,none⟩=some (.bool na)∧w'.cell? ⟨w.heap.size,1,none⟩=some (.slice A n c)∧w'.cell? ⟨w.heap.size+1,0,none⟩=some (.bool nb)∧w'.cell? ⟨w.heap.size+1,1,none⟩=some (.slice B m d)∧aJ w w')
    (with_reducible first|exact hH3|assumption|exact bU (by assumption) (bH _ _)|exact bU (by assumption) (by assumption))
    (first
     |((go_at_call 137;(with_reducible refine(bC A n c xs _ (Hx.out.ext (dJ hH3))).mono ?_);rintro e w' ⟨rfl,rfl⟩))
     |((go_at_call 137;(with_reducible refine(bC B m d ys _ (Hy.out.ext (dJ hH3))).mono ?_);rintro e w' ⟨rfl,rfl⟩))
     |((go_at_call 136;(with_reducible refine(Hcmp.out _ (Hx.out.trim.ext (dJ hH3)) (Hy.out.trim.ext (dJ hH3))).mono ?_);rintro e w3 ⟨rfl,hb3⟩;have hE3:=dJ (bU hH3 hb3))))
   go_wp2_with fail
   go_ret
   refine⟨Au ?_,hE3⟩;have:=Hzz.out
   first|omega|(rw[IntWalk.i64_in _ (by omega)];omega))
 ·have hz':=hne hst
  have Hz:=Lib.hid hz';have hst':(s == t)=false:=by simpa using hst
  clear hx hy hs1 hs2 hne heq hs ht hz hst hz' hr1
  go_enter func90,ntmps90
  go_wp2_with fail
  rw[← hW];clear hW
  go_region_held3 (fun w'=>w'.cell? ⟨w.heap.size,0,none⟩=some (.bool na)∧w'.cell? ⟨w.heap.size,1,none⟩=some (.slice A n c)∧w'.cell? ⟨w.heap.size+1,0,none⟩=some (.bool nb)∧w'.cell? ⟨w.heap.size+1,1,none⟩=some (.slice B m d)∧aJ w w')
   (with_reducible first|exact hH|assumption|exact bU (by assumption) (by assumption))
   (first
    |((go_at_call 129;(with_reducible refine(Hs1.out _ (cI Hx.out (dJ (by assumption)))).mono ?_);rintro e w1 ⟨rfl,hb1⟩;have hH1:=bU hH hb1))
    |((go_at_call 129;(with_reducible refine(Hs2.out _ (cI Hy.out (dJ hH1))).mono ?_);rintro e w2 ⟨rfl,hb2⟩;have hH2:=bU hH1 hb2)))
  go_wp2_with (go_at_call 135;(with_reducible refine(oQ s t _).mono ?_);rintro e w' ⟨rfl,rfl⟩)
  go_ret
  exact⟨Au Hz.out,dJ hH2⟩
end
section
attribute [local go_sem ↓] Go.wp_at_zero Go.wp_at_succ
theorem rO (w:World) (a0 a1:Value) (t:TypeId) (W:World) (hW:W=w.alloc (.cells #[a0,a1] t)):
 (W.cell? ⟨w.heap.size,0,none⟩=some a0∧W.cell? ⟨w.heap.size,1,none⟩=some a1)∧(W.frozen? ⟨w.heap.size,0,none⟩=false∧W.frozen? ⟨w.heap.size,1,none⟩=false)∧aJ w W:=by
 refine⟨?_,?_,by rw[hW];exact(aJ.refl w).alloc _⟩
 ·subst hW;simp[go_sem]
 ·subst hW;simp[go_sem]
theorem uj (va:Value) (na:Bool) (xs:List Nat) (w:World) (ha:bL w va na xs) (hz:aq na xs=0):
 Calls Tryz.prog 96 #[va] w (qd (0) w):=by
 obtain⟨A,n,c,rfl,hx⟩:=ha;obtain⟨W,hW⟩:∃W,W=w.alloc (.cells #[.bool na, .slice A n c] 24):=⟨_,rfl⟩;obtain⟨⟨ca0,ca1⟩,⟨fa0,fa1⟩,hbW⟩:=rO w _ _ _ W hW;have hc:=eG _ na xs W (u7 (hx.ext hbW));obtain⟨z,hzz⟩:∃z,aq na xs=z:=⟨_,rfl⟩;rw[hzz]at hz hc;have hd:decide (z<0)=false:=by simp;omega
 have Hc:=Lib.hid hc;have Hd:=Lib.hid hd;have Hz:=Lib.hid hz;clear hx hc hd hz hzz
 go_enter func96,ntmps96
 go_wp2_with fail
 rw[← hW];clear hW
 go_wp2_with (go_at_call 102;(with_reducible refine Hc.out.mono ?_);rintro e w1 ⟨v1,rfl,⟨A1,n1,c1,rfl,hw1⟩,hb1⟩;rw[Hd.out];have hz:=Hz.out;have hn1:=vx hw1 (by omega);subst hn1;clear hz;have su0:=kc ca0 hb1;have su1:=kc ca1 hb1;have sf0:=kf ca0 fa0 hb1;have sf1:=kf ca1 fa1 hb1;have hE1:aJ w w1:=hbW.more hb1)
 go_ret
 exact⟨rfl,aJ.set2 hE1 (Nat.le_refl _) _ _⟩
theorem wk (va:Value) (na:Bool) (xs:List Nat) (w:World) (ha:bL w va na xs) (hz:aq na xs<0):
 Calls Tryz.prog 96 #[va] w (qd (-1) w):=by
 obtain⟨A,n,c,rfl,hx⟩:=ha;obtain⟨W,hW⟩:∃W,W=w.alloc (.cells #[.bool na, .slice A n c] 24):=⟨_,rfl⟩;obtain⟨⟨ca0,ca1⟩,⟨fa0,fa1⟩,hbW⟩:=rO w _ _ _ W hW;have hc:=eG _ na xs W (u7 (hx.ext hbW));obtain⟨z,hzz⟩:∃z,aq na xs=z:=⟨_,rfl⟩;rw[hzz]at hz hc;have hd:decide (z<0)=true:=by simp;omega
 have Hc:=Lib.hid hc;have Hd:=Lib.hid hd;have Hz:=Lib.hid hz;clear hx hc hd hz hzz
 go_enter func96,ntmps96
 go_wp2_with fail
 rw[← hW];clear hW
 go_wp2_with (go_at_call 102;(with_reducible refine Hc.out.mono ?_);rintro e w1 ⟨v1,rfl,⟨A1,n1,c1,rfl,hw1⟩,hb1⟩;rw[Hd.out];have hz:=Hz.out;have hn1:=m3 hw1 (by omega);have hn2:((n1:Int) == 0)=false:=(by simp;omega);clear hz;have su0:=kc ca0 hb1;have su1:=kc ca1 hb1;have sf0:=kf ca0 fa0 hb1;have sf1:=kf ca1 fa1 hb1;have hE1:aJ w w1:=hbW.more hb1)
 go_ret
 exact⟨rfl,aJ.set2 hE1 (Nat.le_refl _) _ _⟩
theorem xO (va:Value) (na:Bool) (xs:List Nat) (w:World) (ha:bL w va na xs) (hz:0<aq na xs):
 Calls Tryz.prog 96 #[va] w (qd (1) w):=by
 obtain⟨A,n,c,rfl,hx⟩:=ha;obtain⟨W,hW⟩:∃W,W=w.alloc (.cells #[.bool na, .slice A n c] 24):=⟨_,rfl⟩;obtain⟨⟨ca0,ca1⟩,⟨fa0,fa1⟩,hbW⟩:=rO w _ _ _ W hW;have hc:=eG _ na xs W (u7 (hx.ext hbW));obtain⟨z,hzz⟩:∃z,aq na xs=z:=⟨_,rfl⟩;rw[hzz]at hz hc;have hd:decide (z<0)=false:=by simp;omega
 have Hc:=Lib.hid hc;have Hd:=Lib.hid hd;have Hz:=Lib.hid hz;clear hx hc hd hz hzz
 go_enter func96,ntmps96
 go_wp2_with fail
 rw[← hW];clear hW
 go_wp2_with (go_at_call 102;(with_reducible refine Hc.out.mono ?_);rintro e w1 ⟨v1,rfl,⟨A1,n1,c1,rfl,hw1⟩,hb1⟩;rw[Hd.out];have hz:=Hz.out;have hn1:=m3 hw1 (by omega);have hn2:((n1:Int) == 0)=false:=(by simp;omega);clear hz;have su0:=kc ca0 hb1;have su1:=kc ca1 hb1;have sf0:=kf ca0 fa0 hb1;have sf1:=kf ca1 fa1 hb1;have hE1:aJ w w1:=hbW.more hb1)
 go_ret
 exact⟨rfl,aJ.set2 hE1 (Nat.le_refl _) _ _⟩
theorem zV (va:Value) (na:Bool) (xs:List Nat) (w:World) (ha:bL w va na xs):
 Calls Tryz.prog 96 #[va] w (qd (aq na xs).sign w):=by
 rcases Int.lt_trichotomy (aq na xs) 0 with h|h|h
 ·rw[Int.sign_eq_neg_one_of_neg h];exact wk va na xs w ha h
 ·rw[h];exact uj va na xs w ha h
 ·rw[Int.sign_eq_one_of_pos h];exact xO va na xs w ha h
theorem ID (za zb:Int) (h:decide (za<0)=decide (zb<0)):aq (decide (za<0)) (digs (val (digs za.natAbs)+val (digs zb.natAbs)))=za+zb:=by
 unfold aq;rw[af,af,af]
 by_cases h1:za<0<;>by_cases h2:zb<0<;>simp_all <;>omega
theorem Jq (za zb:Int) (h:decide (za<0)≠decide (zb<0)) (hl:zb.natAbs≤za.natAbs):aq (decide (za<0)) (digs (val (digs za.natAbs)-val (digs zb.natAbs)))=za+zb:=by
 unfold aq;rw[af,af,af]
 by_cases h1:za<0<;>by_cases h2:zb<0<;>simp_all <;>omega
theorem I0 (za zb:Int) (h:decide (za<0)≠decide (zb<0)) (hl:za.natAbs<zb.natAbs):aq (decide (zb<0)) (digs (val (digs zb.natAbs)-val (digs za.natAbs)))=za+zb:=by
 unfold aq;rw[af,af,af]
 by_cases h1:za<0<;>by_cases h2:zb<0<;>simp_all <;>omega
theorem gW {w wx:World} {za zb:Int} (h:jL w za zb wx) {ba bb:Bool} (ha:decide (za<0)=ba) (hb:decide (zb<0)=bb):∃A n c B m d,
 (wx.cell? ⟨w.heap.size,0,none⟩=some (.bool ba)∧wx.cell? ⟨w.heap.size,1,none⟩=some (.slice A n c)∧wx.cell? ⟨w.heap.size+1,0,none⟩=some (.bool bb)∧wx.cell? ⟨w.heap.size+1,1,none⟩=some (.slice B m d)∧aJ w wx) ∧
 (wx.cell? ⟨w.heap.size+1+1,0,none⟩=some (.bool false)∧wx.cell? ⟨w.heap.size+1+1,1,none⟩=some (.slice none 0 0)∧wx.frozen? ⟨w.heap.size+1+1,0,none⟩=false∧wx.frozen? ⟨w.heap.size+1+1,1,none⟩=false) ∧
 aC wx A n c (digs za.natAbs)∧aC wx B m d (digs zb.natAbs):=by
 subst ha hb;obtain⟨A,n,c,B,m,d,⟨⟨a0,_⟩,⟨a1,_⟩,⟨a2,_⟩,⟨a3,_⟩,⟨a4,f4⟩,⟨a5,f5⟩⟩,h1,h2,h3⟩:=h;exact⟨A,n,c,B,m,d,⟨a0,a1,a2,a3,h3⟩,⟨a4,a5,f4,f5⟩,h1,h2⟩
theorem wO {o:Int} {A B:Option Addr} {n m c d:Nat} {a b:Nat} (ho:bQ a b=o) (W:World) (h1:aC W A n c (digs a)) (h2:aC W B m d (digs b)):Calls Tryz.prog 101 #[.slice A n c, .slice B m d] W (qd o W):=by
 have:=mb A B n m c d (digs a) (digs b) W h1 h2;rw[jj,ho]at this;exact this.mono fun _ _ ⟨he,q,hq⟩=>⟨he,hq ▸ bH _ q⟩
theorem Be (va vb:Value) (na nb ba:Bool) (xs ys:List Nat) (w:World) (ha:bL w va na xs) (hb:bL w vb nb ys) (h1:xs.length≤2147483648) (h2:ys.length≤2147483648) (hba:decide (aq na xs<0)=ba) (hs:decide (aq nb ys<0)=ba):
 Calls Tryz.prog 180 #[va,vb] w (b6 (aq na xs+aq nb ys) w):=by
 obtain⟨A,n,c,rfl,hx⟩:=ha;obtain⟨B,m,d,rfl,hy⟩:=hb;obtain⟨W,hW⟩:∃W,W=((w.alloc (.cells #[.bool na, .slice A n c] 24)).alloc (.cells #[.bool nb, .slice B m d] 24)).alloc (.cells #[.bool false, .slice none 0 0] 24):=⟨_,rfl⟩;obtain⟨hB,hbW⟩:=ii w _ _ _ _ _ _ _ W hW;have hw:aJ w W.drew:=hbW.drew;have hB0:=fe hB (aJ.refl W).drew;clear hB hbW;have Hx:=Lib.hid hx;have Hy:=Lib.hid hy;have hl1:(digs (aq na xs).natAbs).length≤4294967296:=by rw[b4];exact bZ hx.wd h1
 have hl2:(digs (aq nb ys).natAbs).length≤4294967296:=by rw[b4];exact bZ hy.wd h2
 obtain⟨o,ho⟩:∃o,bQ (aq na xs).natAbs (aq nb ys).natAbs=o:=⟨_,rfl⟩;have ho1:=trivial;have hl:=trivial
 obtain⟨z,hz⟩:∃z,z=aq na xs+aq nb ys:=⟨_,rfl⟩;have hz1:aq ba (digs (val (digs (aq na xs).natAbs)+val (digs (aq nb ys).natAbs)))=z:=(by rw[← hba,hz];exact ID _ _ (hba.trans hs.symm));rw[← hz];have Hz:=Lib.hid hz1;have Hba:=Lib.hid hba;have Hs:=Lib.hid hs;have Ho:=Lib.hid ho;have Hl:=Lib.hid hl;have hb0:(ba == !ba)=false:=by cases ba<;>rfl
 clear hx hy hz hz1 hba hs ho hl
 go_enter func180,ntmps180
 go_wp2_with fail
 rw[← hW];clear hW
 go_cut [5] (fun _ wx=>jL w (aq na xs) (aq nb ys) wx)
 case first=>
  go_region_with (first
   |((go_at_call 102;((with_reducible refine(eG _ na xs _ (cI Hx.out (by assumption))).mono ?_);rintro e w1 ⟨v1,rfl,⟨A1,n1,c1,rfl,hw1⟩,hb1⟩;have hB1:=fe (by assumption) hb1;have hE1:=aJ.more (by assumption) hb1)))
   |((go_at_call 102;(with_reducible refine(eG _ nb ys _ (cI Hy.out (by assumption))).mono ?_);rintro e w2 ⟨v2,rfl,⟨A2,n2,c2,rfl,hw2⟩,hb2⟩;have hB2:=fe (by assumption) hb2;have hE2:=aJ.more (by assumption) hb2)))
  all_goals(go_wp2_with fail;go_meet;first|exact fg (by assumption) (aC.below (by assumption) (by assumption)) (by assumption) (by assumption)|exact fg (by assumption) (by assumption) (aC.below (by assumption) (by assumption)) (by assumption))
 case rest=>
  generalize aq na xs=za at *;generalize aq nb ys=zb at *;obtain⟨A1,n1,c1,B1,m1,d1,hH,⟨cr0,cr1,fr0,fr1⟩,hx1,hy1⟩:=gW hcut Hba.out Hs.out;have hm1:n1≤4294967296:=by rw[← hx1.len];exact hl1
  have hm2:m1≤4294967296:=by rw[← hy1.len];exact hl2
  have Hx1:=Lib.hid hx1;have Hy1:=Lib.hid hy1;have hEw:aJ wc wc:=aJ.refl wc;have hEcw:=dJ hH;clear hcut hx1 hy1 hw hB0;have hH':=hH;obtain⟨d0,d1',e0,e1,hE1⟩:=hH';have Hcmp:=Lib.hid (wO (A:=A1) (B:=B1) (n:=n1) (m:=m1) (c:=c1) (d:=d1) Ho.out)
  go_wp2_with (go_at_call 101;(with_reducible refine(Hcmp.out _ Hx1.out Hy1.out).mono ?_);rintro e w2 ⟨rfl,hb2⟩;have hH:=bU hH hb2;have hEw:aJ wc w2:=hb2)
  have hH2:=bU hH (Below.drew (Below.refl _ _));have hEd:=aJ.drew hEw;have Hx2:=Lib.hid (Hx1.out.ext hEd);have Hy2:=Lib.hid (Hy1.out.ext hEd);clear d0 d1' e0 e1 hE1 Hcmp hH hEw Hx1 Hy1
  skip
  go_region_held3 (fun w'=>w'.cell? ⟨w.heap.size,0,none⟩=some (.bool ba)∧w'.cell? ⟨w.heap.size,1,none⟩=some (.slice A1 n1 c1)∧w'.cell? ⟨w.heap.size+1,0,none⟩=some (.bool ba)∧w'.cell? ⟨w.heap.size+1,1,none⟩=some (.slice B1 m1 d1)∧aJ w w')
   (with_reducible first|exact hH2|assumption|exact bU (by assumption) (by assumption)|exact ju (by assumption) (by omega) (by dsimp only;omega) (by dsimp only;omega) (by dsimp only;omega) (by dsimp only;omega))
   (first
    |((go_at_call 200;(with_reducible refine(Fk _ _ _ _ _ _ (digs za.natAbs) (digs zb.natAbs) _ Hx2.out Hy2.out hm1 hm2).mono ?_);rintro e w1 ⟨A3,n3,c3,zs,rfl,hw1,rfl,hb1⟩))
    |((go_at_call 99;(with_reducible refine(cW hw1 Hz.out).mono ?_);rintro e w2 ⟨v2,rfl,⟨A2,n2,c2,rfl,hw2⟩,hb2⟩;have hE2:=aJ.more (aJ.more hEd hb1) hb2;have su0:=kc cr0 hE2;have su1:=kc cr1 hE2;have sf0:=kf cr0 fr0 hE2;have sf1:=kf cr1 fr1 hE2)))
  go_wp2_with fail
  exact bodyPost_ret (v:= .agg #[.bool (decide (z<0)), .slice A2 n2 c2]) (by simp[results,results180,go_sem,su0,su1]) rfl (eH su0 su1 hw2 (hEcw.trans hE2) (by omega))
theorem A0 (va vb:Value) (na nb ba:Bool) (xs ys:List Nat) (w:World) (ha:bL w va na xs) (hb:bL w vb nb ys) (h1:xs.length≤2147483648) (h2:ys.length≤2147483648) (hba:decide (aq na xs<0)=ba) (hs:decide (aq nb ys<0)=!ba) (hl:(aq nb ys).natAbs≤(aq na xs).natAbs):
 Calls Tryz.prog 180 #[va,vb] w (b6 (aq na xs+aq nb ys) w):=by
 obtain⟨A,n,c,rfl,hx⟩:=ha;obtain⟨B,m,d,rfl,hy⟩:=hb;obtain⟨W,hW⟩:∃W,W=((w.alloc (.cells #[.bool na, .slice A n c] 24)).alloc (.cells #[.bool nb, .slice B m d] 24)).alloc (.cells #[.bool false, .slice none 0 0] 24):=⟨_,rfl⟩;obtain⟨hB,hbW⟩:=ii w _ _ _ _ _ _ _ W hW;have hw:aJ w W.drew:=hbW.drew;have hB0:=fe hB (aJ.refl W).drew;clear hB hbW;have Hx:=Lib.hid hx;have Hy:=Lib.hid hy;have hl1:(digs (aq na xs).natAbs).length≤4294967296:=by rw[b4];exact bZ hx.wd h1
 have hl2:(digs (aq nb ys).natAbs).length≤4294967296:=by rw[b4];exact bZ hy.wd h2
 obtain⟨o,ho⟩:∃o,bQ (aq na xs).natAbs (aq nb ys).natAbs=o:=⟨_,rfl⟩;have ho1:0≤o:=(by have:=gV (a:=((aq na xs).natAbs:Int)) (b:=(aq nb ys).natAbs) (by omega);omega);obtain⟨z,hz⟩:∃z,z=aq na xs+aq nb ys:=⟨_,rfl⟩;have hz1:aq ba (digs (val (digs (aq na xs).natAbs)-val (digs (aq nb ys).natAbs)))=z:=(by rw[← hba,hz];exact Jq _ _ (by rw[hba,hs];cases ba<;>simp) hl);rw[← hz];have Hz:=Lib.hid hz1;have Hba:=Lib.hid hba;have Hs:=Lib.hid hs;have Ho:=Lib.hid ho;have Hl:=Lib.hid hl;have hb0:(ba == !ba)=false:=by cases ba<;>rfl
 clear hx hy hz hz1 hba hs ho hl
 go_enter func180,ntmps180
 go_wp2_with fail
 rw[← hW];clear hW
 go_cut [5] (fun _ wx=>jL w (aq na xs) (aq nb ys) wx)
 case first=>
  go_region_with (first
   |((go_at_call 102;((with_reducible refine(eG _ na xs _ (cI Hx.out (by assumption))).mono ?_);rintro e w1 ⟨v1,rfl,⟨A1,n1,c1,rfl,hw1⟩,hb1⟩;have hB1:=fe (by assumption) hb1;have hE1:=aJ.more (by assumption) hb1)))
   |((go_at_call 102;(with_reducible refine(eG _ nb ys _ (cI Hy.out (by assumption))).mono ?_);rintro e w2 ⟨v2,rfl,⟨A2,n2,c2,rfl,hw2⟩,hb2⟩;have hB2:=fe (by assumption) hb2;have hE2:=aJ.more (by assumption) hb2)))
  all_goals(go_wp2_with fail;go_meet;first|exact fg (by assumption) (aC.below (by assumption) (by assumption)) (by assumption) (by assumption)|exact fg (by assumption) (by assumption) (aC.below (by assumption) (by assumption)) (by assumption))
 case rest=>
  generalize aq na xs=za at *;generalize aq nb ys=zb at *;obtain⟨A1,n1,c1,B1,m1,d1,hH,⟨cr0,cr1,fr0,fr1⟩,hx1,hy1⟩:=gW hcut Hba.out Hs.out;have hm1:n1≤4294967296:=by rw[← hx1.len];exact hl1
  have hm2:m1≤4294967296:=by rw[← hy1.len];exact hl2
  have Hx1:=Lib.hid hx1;have Hy1:=Lib.hid hy1;have hEw:aJ wc wc:=aJ.refl wc;have hEcw:=dJ hH;clear hcut hx1 hy1 hw hB0;have hH':=hH;obtain⟨d0,d1',e0,e1,hE1⟩:=hH';have Hcmp:=Lib.hid (wO (A:=A1) (B:=B1) (n:=n1) (m:=m1) (c:=c1) (d:=d1) Ho.out)
  go_wp2_with (go_at_call 101;(with_reducible refine(Hcmp.out _ Hx1.out Hy1.out).mono ?_);rintro e w2 ⟨rfl,hb2⟩;have hH:=bU hH hb2;have hEw:aJ wc w2:=hb2)
  have hH2:=bU hH (Below.drew (Below.refl _ _));have hEd:=aJ.drew hEw;have Hx2:=Lib.hid (Hx1.out.ext hEd);have Hy2:=Lib.hid (Hy1.out.ext hEd);clear d0 d1' e0 e1 hE1 Hcmp hH hEw Hx1 Hy1;have HM:=Lib.hid (vJ _ _ _ _ _ _ _ _ _ Hx2.out Hy2.out (by rw[af,af];exact Hl.out) hm1)
  go_region_held3 (fun w'=>w'.cell? ⟨w.heap.size,0,none⟩=some (.bool ba)∧w'.cell? ⟨w.heap.size,1,none⟩=some (.slice A1 n1 c1)∧w'.cell? ⟨w.heap.size+1,0,none⟩=some (.bool (!ba))∧w'.cell? ⟨w.heap.size+1,1,none⟩=some (.slice B1 m1 d1)∧aJ w w')
   (with_reducible first|exact hH2|assumption|exact bU (by assumption) (by assumption)|exact ju (by assumption) (by omega) (by dsimp only;omega) (by dsimp only;omega) (by dsimp only;omega) (by dsimp only;omega))
   (first
    |((go_at_call 177;(with_reducible refine HM.out.mono ?_);rintro e w1 ⟨A3,n3,c3,zs,rfl,hw1,rfl,hb1⟩))
    |((go_at_call 99;(with_reducible refine(cW hw1 Hz.out).mono ?_);rintro e w2 ⟨v2,rfl,⟨A2,n2,c2,rfl,hw2⟩,hb2⟩;have hE2:=aJ.more (aJ.more hEd hb1) hb2;have su0:=kc cr0 hE2;have su1:=kc cr1 hE2;have sf0:=kf cr0 fr0 hE2;have sf1:=kf cr1 fr1 hE2)))
  go_wp2_with fail
  exact bodyPost_ret (v:= .agg #[.bool (decide (z<0)), .slice A2 n2 c2]) (by simp[results,results180,go_sem,su0,su1]) rfl (eH su0 su1 hw2 (hEcw.trans hE2) (by omega))
theorem AM (va vb:Value) (na nb ba:Bool) (xs ys:List Nat) (w:World) (ha:bL w va na xs) (hb:bL w vb nb ys) (h1:xs.length≤2147483648) (h2:ys.length≤2147483648) (hba:decide (aq na xs<0)=ba) (hs:decide (aq nb ys<0)=!ba) (hl:(aq na xs).natAbs<(aq nb ys).natAbs):
 Calls Tryz.prog 180 #[va,vb] w (b6 (aq na xs+aq nb ys) w):=by
 obtain⟨A,n,c,rfl,hx⟩:=ha;obtain⟨B,m,d,rfl,hy⟩:=hb;obtain⟨W,hW⟩:∃W,W=((w.alloc (.cells #[.bool na, .slice A n c] 24)).alloc (.cells #[.bool nb, .slice B m d] 24)).alloc (.cells #[.bool false, .slice none 0 0] 24):=⟨_,rfl⟩;obtain⟨hB,hbW⟩:=ii w _ _ _ _ _ _ _ W hW;have hw:aJ w W.drew:=hbW.drew;have hB0:=fe hB (aJ.refl W).drew;clear hB hbW;have Hx:=Lib.hid hx;have Hy:=Lib.hid hy;have hl1:(digs (aq na xs).natAbs).length≤4294967296:=by rw[b4];exact bZ hx.wd h1
 have hl2:(digs (aq nb ys).natAbs).length≤4294967296:=by rw[b4];exact bZ hy.wd h2
 obtain⟨o,ho⟩:∃o,bQ (aq na xs).natAbs (aq nb ys).natAbs=o:=⟨_,rfl⟩;have ho1:¬0≤o:=(by have:=fv (a:=((aq na xs).natAbs:Int)) (b:=(aq nb ys).natAbs) (by omega);omega);obtain⟨z,hz⟩:∃z,z=aq na xs+aq nb ys:=⟨_,rfl⟩;have hz1:aq (!ba) (digs (val (digs (aq nb ys).natAbs)-val (digs (aq na xs).natAbs)))=z:=(by rw[← hs,hz];exact I0 _ _ (by rw[hba,hs];cases ba<;>simp) hl);rw[← hz];have Hz:=Lib.hid hz1;have Hba:=Lib.hid hba;have Hs:=Lib.hid hs;have Ho:=Lib.hid ho;have Hl:=Lib.hid hl;have hb0:(ba == !ba)=false:=by cases ba<;>rfl
 clear hx hy hz hz1 hba hs ho hl
 go_enter func180,ntmps180
 go_wp2_with fail
 rw[← hW];clear hW
 go_cut [5] (fun _ wx=>jL w (aq na xs) (aq nb ys) wx)
 case first=>
  go_region_with (first
   |((go_at_call 102;((with_reducible refine(eG _ na xs _ (cI Hx.out (by assumption))).mono ?_);rintro e w1 ⟨v1,rfl,⟨A1,n1,c1,rfl,hw1⟩,hb1⟩;have hB1:=fe (by assumption) hb1;have hE1:=aJ.more (by assumption) hb1)))
   |((go_at_call 102;(with_reducible refine(eG _ nb ys _ (cI Hy.out (by assumption))).mono ?_);rintro e w2 ⟨v2,rfl,⟨A2,n2,c2,rfl,hw2⟩,hb2⟩;have hB2:=fe (by assumption) hb2;have hE2:=aJ.more (by assumption) hb2)))
  all_goals(go_wp2_with fail;go_meet;first|exact fg (by assumption) (aC.below (by assumption) (by assumption)) (by assumption) (by assumption)|exact fg (by assumption) (by assumption) (aC.below (by assumption) (by assumption)) (by assumption))
 case rest=>
  generalize aq na xs=za at *;generalize aq nb ys=zb at *;obtain⟨A1,n1,c1,B1,m1,d1,hH,⟨cr0,cr1,fr0,fr1⟩,hx1,hy1⟩:=gW hcut Hba.out Hs.out;have hm1:n1≤4294967296:=by rw[← hx1.len];exact hl1
  have hm2:m1≤4294967296:=by rw[← hy1.len];exact hl2
  have Hx1:=Lib.hid hx1;have Hy1:=Lib.hid hy1;have hEw:aJ wc wc:=aJ.refl wc;have hEcw:=dJ hH;clear hcut hx1 hy1 hw hB0;have hH':=hH;obtain⟨d0,d1',e0,e1,hE1⟩:=hH';have Hcmp:=Lib.hid (wO (A:=A1) (B:=B1) (n:=n1) (m:=m1) (c:=c1) (d:=d1) Ho.out)
  go_wp2_with (go_at_call 101;(with_reducible refine(Hcmp.out _ Hx1.out Hy1.out).mono ?_);rintro e w2 ⟨rfl,hb2⟩;have hH:=bU hH hb2;have hEw:aJ wc w2:=hb2)
  have hH2:=bU hH (Below.drew (Below.refl _ _));have hEd:=aJ.drew hEw;have Hx2:=Lib.hid (Hx1.out.ext hEd);have Hy2:=Lib.hid (Hy1.out.ext hEd);clear d0 d1' e0 e1 hE1 Hcmp hH hEw Hx1 Hy1;have HM:=Lib.hid (vJ _ _ _ _ _ _ _ _ _ Hy2.out Hx2.out (by rw[af,af];exact Nat.le_of_lt Hl.out) hm2)
  go_region_held3 (fun w'=>w'.cell? ⟨w.heap.size,0,none⟩=some (.bool ba)∧w'.cell? ⟨w.heap.size,1,none⟩=some (.slice A1 n1 c1)∧w'.cell? ⟨w.heap.size+1,0,none⟩=some (.bool (!ba))∧w'.cell? ⟨w.heap.size+1,1,none⟩=some (.slice B1 m1 d1)∧aJ w w')
   (with_reducible first|exact hH2|assumption|exact bU (by assumption) (by assumption)|exact ju (by assumption) (by omega) (by dsimp only;omega) (by dsimp only;omega) (by dsimp only;omega) (by dsimp only;omega))
   (first
    |((go_at_call 177;(with_reducible refine HM.out.mono ?_);rintro e w1 ⟨A3,n3,c3,zs,rfl,hw1,rfl,hb1⟩))
    |((go_at_call 99;(with_reducible refine(cW hw1 Hz.out).mono ?_);rintro e w2 ⟨v2,rfl,⟨A2,n2,c2,rfl,hw2⟩,hb2⟩;have hE2:=aJ.more (aJ.more hEd hb1) hb2;have su0:=kc cr0 hE2;have su1:=kc cr1 hE2;have sf0:=kf cr0 fr0 hE2;have sf1:=kf cr1 fr1 hE2)))
  go_wp2_with fail
  exact bodyPost_ret (v:= .agg #[.bool (decide (z<0)), .slice A2 n2 c2]) (by simp[results,results180,go_sem,su0,su1]) rfl (eH su0 su1 hw2 (hEcw.trans hE2) (by omega))
theorem yh (va vb:Value) (na nb:Bool) (xs ys:List Nat) (w:World) (ha:bL w va na xs) (hb:bL w vb nb ys) (h1:xs.length≤2147483648) (h2:ys.length≤2147483648):
 Calls Tryz.prog 180 #[va,vb] w (b6 (aq na xs+aq nb ys) w):=by
 by_cases hn:decide (aq nb ys<0)=decide (aq na xs<0)
 ·exact Be va vb na nb _ xs ys w ha hb h1 h2 rfl hn
 ·by_cases hl:(aq na xs).natAbs<(aq nb ys).natAbs
  ·exact AM va vb na nb _ xs ys w ha hb h1 h2 rfl (lw hn) hl
  ·exact A0 va vb na nb _ xs ys w ha hb h1 h2 rfl (lw hn) (by omega)
end
section
attribute [local go_sem ↓] Go.wp_at_zero Go.wp_at_succ
theorem nR {xs:List Nat} (h:Wd xs) (na:Bool) (k:Nat) (h1:xs.length≤k):(digs (aq na xs).natAbs).length≤k:=by
 rw[b4];exact Nat.le_trans (bF h) h1
theorem bL.wd {w:World} {v:Value} {na:Bool} {xs:List Nat} (h:bL w v na xs):Wd xs:=by
 obtain⟨_,_,_,_,h⟩:=h;exact h.wd
theorem Id (va vb:Value) (na nb:Bool) (xs ys:List Nat) (w:World) (ha:bL w va na xs) (hb:bL w vb nb ys) (h1:xs.length≤2147483648) (h2:ys.length≤2147483648):
 Calls Tryz.prog 179 #[va,vb] w (b6 (aq na xs-aq nb ys) w):=by
 have hl2:(digs (-aq nb ys).natAbs).length≤2147483648:=by rw[Int.natAbs_neg];exact nR hb.wd nb _ h2
 obtain⟨A,n,c,rfl,hx⟩:=ha;obtain⟨B,m,d,rfl,hy⟩:=hb;obtain⟨W,hW⟩:∃W,W=((w.alloc (.cells #[.bool na, .slice A n c] 24)).alloc (.cells #[.bool nb, .slice B m d] 24)).alloc (.cells #[.bool false, .slice none 0 0] 24):=⟨_,rfl⟩;obtain⟨⟨ca0,ca1,cb0,cb1⟩,⟨cr0,cr1,fr0,fr1⟩,hbW⟩:=hZ w _ _ _ _ _ _ _ W hW;have hH:=bU ⟨ca0,ca1,cb0,cb1,hbW⟩ (Below.drew (Below.refl _ _));have hEd:aJ W W.drew:=(aJ.refl W).drew;obtain⟨z,hz⟩:∃z,z=aq na xs-aq nb ys:=⟨_,rfl⟩;rw[← hz];have hz':aq na xs+ -aq nb ys=z:=by omega
 have HA:=fun W' v (h:bL W' (.agg #[.bool na, .slice A n c]) na xs) (h':bW W' v (-aq nb ys))=>by
  have:=yh _ _ na _ xs _ W' h h' h1 hl2;rw[aU,hz']at this;exact this
 have HA:=Lib.hid HA;have Hx:=Lib.hid hx;have Hy:=Lib.hid hy;clear hx hy hz hz' hl2
 go_enter func179,ntmps179
 go_wp2_with fail
 rw[← hW];clear hW
 go_region_held3 (fun w'=>w'.cell? ⟨w.heap.size,0,none⟩=some (.bool na)∧w'.cell? ⟨w.heap.size,1,none⟩=some (.slice A n c)∧w'.cell? ⟨w.heap.size+1,0,none⟩=some (.bool nb)∧w'.cell? ⟨w.heap.size+1,1,none⟩=some (.slice B m d)∧aJ w w')
  (with_reducible first|exact hH|assumption|exact bU (by assumption) (by assumption)|exact ju (by assumption) (by omega) (by dsimp only;omega) (by dsimp only;omega) (by dsimp only;omega) (by dsimp only;omega))
  (first
   |((go_at_call 199;(with_reducible refine(DJ _ nb ys _ (cI Hy.out (dJ hH))).mono ?_);rintro e w1 ⟨v1,rfl,hv1,hb1⟩;have hH1:=bU hH hb1;have hE1:=aJ.more hEd hb1))
   |((go_at_call 180;(with_reducible refine(HA.out _ _ (cI Hx.out (dJ hH1)) hv1).mono ?_);rintro e w2 ⟨v2,rfl,⟨A2,n2,c2,rfl,hw2⟩,hb2⟩;have hE2:=aJ.more hE1 hb2;have su0:=kc cr0 hE2;have su1:=kc cr1 hE2;have sf0:=kf cr0 fr0 hE2;have sf1:=kf cr1 fr1 hE2)))
 go_wp2_with fail
 exact bodyPost_ret (v:= .agg #[.bool (decide (z<0)), .slice A2 n2 c2]) (by simp[results,results179,go_sem,su0,su1]) rfl (eH su0 su1 hw2 (hbW.trans hE2) (by omega))
theorem mG {v:Value} {z:Int} {w:World} (h:bW w v z):Calls Tryz.prog 96 #[v] w (qd z.sign w):=by
 have:=zV v _ _ w h
 rwa[aU]at this
end
end Go.Proofs.YtikbnnljjeefgaaGreatDoor
