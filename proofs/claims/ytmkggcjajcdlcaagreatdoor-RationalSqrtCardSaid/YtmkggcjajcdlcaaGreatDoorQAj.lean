/- Add of the program. Cmp of the program; Sign, Add, Sub and Cmp of the reference. Sign, Add, Sub and Cmp of the reference. Sub and Cmp of the reference; the sums' law. -/
import Derived.Test.YtmkggcjajcdlcaaGreatDoorQAi
set_option maxHeartbeats 100000000
set_option linter.all false
open Go.Proofs.Tryz
namespace Go.Proofs.YtmkggcjajcdlcaaGreatDoor
open Go.RowKit
section
attribute [local go_sem ↓] Go.wp_at_zero Go.wp_at_succ
theorem bW {W w:World} {p1 p2 p3 p4:Addr} {v1 v2 v3 v4:Value} (h:w.cell? p1=some v1∧w.cell? p2=some v2∧w.cell? p3=some v3∧w.cell? p4=some v4∧ak W w):ak W w:=h.2.2.2.2
theorem p7 (na:Bool) (xs ys zs:List Nat) (h:val zs=val xs+val ys):af na zs=af na xs+af na ys:=by
 unfold af;rw[h];cases na<;>simp;omega
theorem qy (na:Bool) (xs ys:List Nat) (h:val xs<val ys):af (!na) (digs (val (trim ys)-val (trim xs)))=af na xs+af (!na) ys:=by
 unfold af;rw[ac,aq,aq];cases na<;>simp <;>omega
theorem pM (na:Bool) (xs ys:List Nat) (h:val ys≤val xs):af na (digs (val (trim xs)-val (trim ys)))=af na xs+af (!na) ys:=by
 unfold af;rw[ac,aq,aq];cases na<;>simp <;>omega
theorem gi {na nb:Bool} (h:nb≠na):nb=!na:=by cases na<;>cases nb<;>simp_all
theorem gh (xs ys:List Nat):eV (trim xs) (trim ys)=aO (val xs) (val ys):=dw _ _
theorem uI (va vb:Value) (na nb:Bool) (xs ys:List Nat) (w:World) (ha:aL w va na xs) (hb:aL w vb nb ys) (h1:xs.length≤2147483648) (h2:ys.length≤2147483648) (hn:na=nb) (z:Int) (hz:z=af na xs+af nb ys):
 Calls Tryz.prog 141 #[va,vb] w (bc z w):=by
 obtain⟨A,n,c,rfl,hx⟩:=ha;obtain⟨B,m,d,rfl,hy⟩:=hb;subst hn;obtain⟨W,hW⟩:∃W,W=((w.alloc (.cells #[.bool na, .slice A n c] 36)).alloc (.cells #[.bool na, .slice B m d] 36)).alloc (.cells #[.bool false, .slice none 0 0] 36):=⟨_,rfl⟩;obtain⟨⟨ca0,ca1,cb0,cb1⟩,⟨cr0,cr1,fr0,fr1⟩,hbW⟩:=d4 w _ _ _ _ _ _ _ W hW;have hl1:=aV hx.wd h1;have hl2:=aV hy.wd h2;have Hx:=Lib.hid hx;have Hy:=Lib.hid hy;have hH:=a6 ⟨ca0,ca1,cb0,cb1,hbW⟩ (Below.drew (Below.refl _ _));have hcmp:=fun W' (h1:aj W' A (trim xs).length c (trim xs)) (h2:aj W' B (trim ys).length d (trim ys))=>cH A B (trim xs).length (trim ys).length c d (trim xs) (trim ys) W' h1 h2
 rw[gh]at hcmp;obtain⟨o,ho⟩:∃o,o=aO (val xs) (val ys):=⟨_,rfl⟩;rw[← ho]at hcmp;have HZ:Hid (∀zs,val zs=val (trim xs)+val (trim ys)→af na zs=z):=fun zs hzs=>(p7 na xs ys zs (by rw[hzs,aq,aq])).trans hz.symm
 have Hcmp:=Lib.hid hcmp;have Ho:=Lib.hid ho;have ho1:True:=trivial;have hb0:(na == !na)=false:=by cases na<;>rfl
 clear hx hy hz hcmp ho
 go_enter func141,ntmps141
 go_wp2_with fail
 rw[← hW];clear hW
 go_region_held3 (fun w'=>w'.cell? ⟨w.heap.size,0,none⟩=some (.bool na)∧w'.cell? ⟨w.heap.size,1,none⟩=some (.slice A n c)∧w'.cell? ⟨w.heap.size+1,0,none⟩=some (.bool na)∧w'.cell? ⟨w.heap.size+1,1,none⟩=some (.slice B m d)∧ak w w')
  (with_reducible first|exact hH|assumption|exact a6 (by assumption) (by assumption))
  (first
   |((go_at_call 199;(with_reducible refine(aH A n c xs _ (Hx.out.ext (bW (by assumption)))).mono ?_);rintro e w' ⟨rfl,rfl⟩))
   |((go_at_call 199;(with_reducible refine(aH B m d ys _ (Hy.out.ext (bW (by assumption)))).mono ?_);rintro e w' ⟨rfl,rfl⟩)))
 obtain⟨W1,hW1⟩:∃W1,W1=W.drew:=⟨_,rfl⟩;rw[← hW1]at hH ⊢;have hEc:ak W W1:=by rw[hW1];exact(ak.refl W).drew
 have hH':=hH;obtain⟨d0,d1,e0,e1,hE1⟩:=hH';clear hW1
 go_wp2_with (go_at_call 202;(with_reducible refine(Hcmp.out _ (Hx.out.trim.ext hE1) (Hy.out.trim.ext hE1)).mono ?_);rintro e w2 ⟨rfl,q,rfl⟩;have hH:=a6 hH (aN _ q);have hEc:=hEc.trans (aN _ q))
 skip
 have hH2:=a6 hH (Below.drew (Below.refl _ _));have hEd:=ak.drew hEc;clear d0 d1 e0 e1 hE1 Hcmp hH hEc
 go_region_held3 (fun w'=>w'.cell? ⟨w.heap.size,0,none⟩=some (.bool na)∧w'.cell? ⟨w.heap.size,1,none⟩=some (.slice A n c)∧w'.cell? ⟨w.heap.size+1,0,none⟩=some (.bool na)∧w'.cell? ⟨w.heap.size+1,1,none⟩=some (.slice B m d)∧ak w w')
  (with_reducible first|exact hH2|assumption|exact a6 (by assumption) (by assumption)|exact fh (by assumption) (by omega) (by dsimp only;omega) (by dsimp only;omega) (by dsimp only;omega) (by dsimp only;omega))
  (first
   |((go_at_call 201;(with_reducible refine(m7 _ _ _ _ _ _ (trim xs) (trim ys) _ (Hx.out.trim.ext (bW (by assumption))) (Hy.out.trim.ext (bW (by assumption))) hl1 hl2).mono ?_);rintro e w1 ⟨A1,n1,c1,zs,rfl,hw1,⟨hzs,-⟩,hb1⟩;have hzz:=HZ.out zs hzs))
   |((go_at_call 200;(with_reducible refine(aT hw1 hzz).mono ?_);rintro e w2 ⟨v2,rfl,⟨A2,n2,c2,rfl,hw2⟩,hb2⟩;have hE2:=ak.more (ak.more hEd hb1) hb2;have su0:=kc cr0 hE2;have su1:=kc cr1 hE2;have sf0:=kf cr0 fr0 hE2;have sf1:=kf cr1 fr1 hE2)))
 go_wp2_with fail
 exact bodyPost_ret (v:= .agg #[.bool (decide (z<0)), .slice A2 n2 c2]) (by simp[results,results141,go_sem,su0,su1]) rfl (cu su0 su1 hw2 (hbW.trans hE2) (by omega))
theorem tE (va vb:Value) (na nb:Bool) (xs ys:List Nat) (w:World) (ha:aL w va na xs) (hb:aL w vb nb ys) (h1:xs.length≤2147483648) (h2:ys.length≤2147483648) (hn:nb=!na) (hl:val xs<val ys) (z:Int) (hz:z=af na xs+af nb ys):
 Calls Tryz.prog 141 #[va,vb] w (bc z w):=by
 obtain⟨A,n,c,rfl,hx⟩:=ha;obtain⟨B,m,d,rfl,hy⟩:=hb;subst hn;obtain⟨W,hW⟩:∃W,W=((w.alloc (.cells #[.bool na, .slice A n c] 36)).alloc (.cells #[.bool (!na), .slice B m d] 36)).alloc (.cells #[.bool false, .slice none 0 0] 36):=⟨_,rfl⟩;obtain⟨⟨ca0,ca1,cb0,cb1⟩,⟨cr0,cr1,fr0,fr1⟩,hbW⟩:=d4 w _ _ _ _ _ _ _ W hW;have hl1:=aV hx.wd h1;have hl2:=aV hy.wd h2;have Hx:=Lib.hid hx;have Hy:=Lib.hid hy;have hH:=a6 ⟨ca0,ca1,cb0,cb1,hbW⟩ (Below.drew (Below.refl _ _));have hcmp:=fun W' (h1:aj W' A (trim xs).length c (trim xs)) (h2:aj W' B (trim ys).length d (trim ys))=>cH A B (trim xs).length (trim ys).length c d (trim xs) (trim ys) W' h1 h2
 rw[gh]at hcmp;obtain⟨o,ho⟩:∃o,o=aO (val xs) (val ys):=⟨_,rfl⟩;rw[← ho]at hcmp;have HZ:Hid (af (!na) (digs (val (trim ys)-val (trim xs)))=z):=(qy na xs ys hl).trans hz.symm;have Hcmp:=Lib.hid hcmp;have Ho:=Lib.hid ho;have HM:=Lib.hid (fun W' h1 h2=>nK B A (trim ys).length (trim xs).length d c (trim ys) (trim xs) W' h1 h2 (by have h3:=aq xs;have h4:=aq ys;omega) hl2);have ho1:o<0:=by have:=cO (a:=(val xs:Int)) (b:=val ys) (by omega);omega
 have hb0:(na == !na)=false:=by cases na<;>rfl
 clear hx hy hz hcmp ho
 go_enter func141,ntmps141
 go_wp2_with fail
 rw[← hW];clear hW
 go_region_held3 (fun w'=>w'.cell? ⟨w.heap.size,0,none⟩=some (.bool na)∧w'.cell? ⟨w.heap.size,1,none⟩=some (.slice A n c)∧w'.cell? ⟨w.heap.size+1,0,none⟩=some (.bool (!na))∧w'.cell? ⟨w.heap.size+1,1,none⟩=some (.slice B m d)∧ak w w')
  (with_reducible first|exact hH|assumption|exact a6 (by assumption) (by assumption))
  (first
   |((go_at_call 199;(with_reducible refine(aH A n c xs _ (Hx.out.ext (bW (by assumption)))).mono ?_);rintro e w' ⟨rfl,rfl⟩))
   |((go_at_call 199;(with_reducible refine(aH B m d ys _ (Hy.out.ext (bW (by assumption)))).mono ?_);rintro e w' ⟨rfl,rfl⟩)))
 obtain⟨W1,hW1⟩:∃W1,W1=W.drew:=⟨_,rfl⟩;rw[← hW1]at hH ⊢;have hEc:ak W W1:=by rw[hW1];exact(ak.refl W).drew
 have hH':=hH;obtain⟨d0,d1,e0,e1,hE1⟩:=hH';clear hW1
 go_wp2_with (go_at_call 202;(with_reducible refine(Hcmp.out _ (Hx.out.trim.ext hE1) (Hy.out.trim.ext hE1)).mono ?_);rintro e w2 ⟨rfl,q,rfl⟩;have hH:=a6 hH (aN _ q);have hEc:=hEc.trans (aN _ q))
 generalize W1.drewN q=W2 at *;have hH2:=a6 hH (Below.drew (Below.refl _ _));have hEd:=ak.drew hEc;clear d0 d1 e0 e1 hE1 Hcmp hH hEc
 go_region_held3 (fun w'=>w'.cell? ⟨w.heap.size,0,none⟩=some (.bool na)∧w'.cell? ⟨w.heap.size,1,none⟩=some (.slice A n c)∧w'.cell? ⟨w.heap.size+1,0,none⟩=some (.bool (!na))∧w'.cell? ⟨w.heap.size+1,1,none⟩=some (.slice B m d)∧ak w w')
  (with_reducible first|exact hH2|assumption|exact a6 (by assumption) (by assumption)|exact fh (by assumption) (by omega) (by dsimp only;omega) (by dsimp only;omega) (by dsimp only;omega) (by dsimp only;omega))
  (first
   |((go_at_call 203;(with_reducible refine(HM.out _ (Hy.out.trim.ext (bW (by assumption))) (Hx.out.trim.ext (bW (by assumption)))).mono ?_);rintro e w1 ⟨A1,n1,c1,zs,rfl,hw1,rfl,hb1⟩;have hzz:=HZ.out))
   |((go_at_call 200;(with_reducible refine(aT hw1 hzz).mono ?_);rintro e w2 ⟨v2,rfl,⟨A2,n2,c2,rfl,hw2⟩,hb2⟩;have hE2:=ak.more (ak.more hEd hb1) hb2;have su0:=kc cr0 hE2;have su1:=kc cr1 hE2;have sf0:=kf cr0 fr0 hE2;have sf1:=kf cr1 fr1 hE2)))
 go_wp2_with fail
 exact bodyPost_ret (v:= .agg #[.bool (decide (z<0)), .slice A2 n2 c2]) (by simp[results,results141,go_sem,su0,su1]) rfl (cu su0 su1 hw2 (hbW.trans hE2) (by omega))
theorem tQ (va vb:Value) (na nb:Bool) (xs ys:List Nat) (w:World) (ha:aL w va na xs) (hb:aL w vb nb ys) (h1:xs.length≤2147483648) (h2:ys.length≤2147483648) (hn:nb=!na) (hl:val ys≤val xs) (z:Int) (hz:z=af na xs+af nb ys):
 Calls Tryz.prog 141 #[va,vb] w (bc z w):=by
 obtain⟨A,n,c,rfl,hx⟩:=ha;obtain⟨B,m,d,rfl,hy⟩:=hb;subst hn;obtain⟨W,hW⟩:∃W,W=((w.alloc (.cells #[.bool na, .slice A n c] 36)).alloc (.cells #[.bool (!na), .slice B m d] 36)).alloc (.cells #[.bool false, .slice none 0 0] 36):=⟨_,rfl⟩;obtain⟨⟨ca0,ca1,cb0,cb1⟩,⟨cr0,cr1,fr0,fr1⟩,hbW⟩:=d4 w _ _ _ _ _ _ _ W hW;have hl1:=aV hx.wd h1;have hl2:=aV hy.wd h2;have Hx:=Lib.hid hx;have Hy:=Lib.hid hy;have hH:=a6 ⟨ca0,ca1,cb0,cb1,hbW⟩ (Below.drew (Below.refl _ _));have hcmp:=fun W' (h1:aj W' A (trim xs).length c (trim xs)) (h2:aj W' B (trim ys).length d (trim ys))=>cH A B (trim xs).length (trim ys).length c d (trim xs) (trim ys) W' h1 h2
 rw[gh]at hcmp;obtain⟨o,ho⟩:∃o,o=aO (val xs) (val ys):=⟨_,rfl⟩;rw[← ho]at hcmp;have HZ:Hid (af na (digs (val (trim xs)-val (trim ys)))=z):=(pM na xs ys hl).trans hz.symm;have Hcmp:=Lib.hid hcmp;have Ho:=Lib.hid ho;have HM:=Lib.hid (fun W' h1 h2=>nK A B (trim xs).length (trim ys).length c d (trim xs) (trim ys) W' h1 h2 (by have h3:=aq xs;have h4:=aq ys;omega) hl1);have ho1:¬o<0:=by have:=dy (a:=(val xs:Int)) (b:=val ys) (by omega);omega
 have hb0:(na == !na)=false:=by cases na<;>rfl
 clear hx hy hz hcmp ho
 go_enter func141,ntmps141
 go_wp2_with fail
 rw[← hW];clear hW
 go_region_held3 (fun w'=>w'.cell? ⟨w.heap.size,0,none⟩=some (.bool na)∧w'.cell? ⟨w.heap.size,1,none⟩=some (.slice A n c)∧w'.cell? ⟨w.heap.size+1,0,none⟩=some (.bool (!na))∧w'.cell? ⟨w.heap.size+1,1,none⟩=some (.slice B m d)∧ak w w')
  (with_reducible first|exact hH|assumption|exact a6 (by assumption) (by assumption))
  (first
   |((go_at_call 199;(with_reducible refine(aH A n c xs _ (Hx.out.ext (bW (by assumption)))).mono ?_);rintro e w' ⟨rfl,rfl⟩))
   |((go_at_call 199;(with_reducible refine(aH B m d ys _ (Hy.out.ext (bW (by assumption)))).mono ?_);rintro e w' ⟨rfl,rfl⟩)))
 obtain⟨W1,hW1⟩:∃W1,W1=W.drew:=⟨_,rfl⟩;rw[← hW1]at hH ⊢;have hEc:ak W W1:=by rw[hW1];exact(ak.refl W).drew
 have hH':=hH;obtain⟨d0,d1,e0,e1,hE1⟩:=hH';clear hW1
 go_wp2_with (go_at_call 202;(with_reducible refine(Hcmp.out _ (Hx.out.trim.ext hE1) (Hy.out.trim.ext hE1)).mono ?_);rintro e w2 ⟨rfl,q,rfl⟩;have hH:=a6 hH (aN _ q);have hEc:=hEc.trans (aN _ q))
 generalize W1.drewN q=W2 at *;have hH2:=a6 hH (Below.drew (Below.refl _ _));have hEd:=ak.drew hEc;clear d0 d1 e0 e1 hE1 Hcmp hH hEc
 go_region_held3 (fun w'=>w'.cell? ⟨w.heap.size,0,none⟩=some (.bool na)∧w'.cell? ⟨w.heap.size,1,none⟩=some (.slice A n c)∧w'.cell? ⟨w.heap.size+1,0,none⟩=some (.bool (!na))∧w'.cell? ⟨w.heap.size+1,1,none⟩=some (.slice B m d)∧ak w w')
  (with_reducible first|exact hH2|assumption|exact a6 (by assumption) (by assumption)|exact fh (by assumption) (by omega) (by dsimp only;omega) (by dsimp only;omega) (by dsimp only;omega) (by dsimp only;omega))
  (first
   |((go_at_call 203;(with_reducible refine(HM.out _ (Hx.out.trim.ext (bW (by assumption))) (Hy.out.trim.ext (bW (by assumption)))).mono ?_);rintro e w1 ⟨A1,n1,c1,zs,rfl,hw1,rfl,hb1⟩;have hzz:=HZ.out))
   |((go_at_call 200;(with_reducible refine(aT hw1 hzz).mono ?_);rintro e w2 ⟨v2,rfl,⟨A2,n2,c2,rfl,hw2⟩,hb2⟩;have hE2:=ak.more (ak.more hEd hb1) hb2;have su0:=kc cr0 hE2;have su1:=kc cr1 hE2;have sf0:=kf cr0 fr0 hE2;have sf1:=kf cr1 fr1 hE2)))
 go_wp2_with fail
 exact bodyPost_ret (v:= .agg #[.bool (decide (z<0)), .slice A2 n2 c2]) (by simp[results,results141,go_sem,su0,su1]) rfl (cu su0 su1 hw2 (hbW.trans hE2) (by omega))
theorem xS (va vb:Value) (na nb:Bool) (xs ys:List Nat) (w:World) (ha:aL w va na xs) (hb:aL w vb nb ys) (h1:xs.length≤2147483648) (h2:ys.length≤2147483648):
 Calls Tryz.prog 141 #[va,vb] w (bc (af na xs+af nb ys) w):=by
 by_cases hn:nb=na
 ·exact uI va vb na nb xs ys w ha hb h1 h2 hn.symm _ rfl
 ·by_cases hl:val xs<val ys
  ·exact tE va vb na nb xs ys w ha hb h1 h2 (gi hn) hl _ rfl
  ·exact tQ va vb na nb xs ys w ha hb h1 h2 (gi hn) (by omega) _ rfl
end
section
attribute [local go_sem ↓] Go.wp_at_zero Go.wp_at_succ
theorem sd (na:Bool) (xs:List Nat):iM na xs= -1∨iM na xs=0∨iM na xs=1:=by unfold iM;split <;>(try split)<;>simp
theorem xi (na nb:Bool) (xs ys:List Nat) (h:iM na xs≠iM nb ys):aO (iM na xs) (iM nb ys)=aO (af na xs) (af nb ys):=by
 unfold iM af aO at *;cases na<;>cases nb<;>by_cases h1:val xs=0<;>by_cases h2:val ys=0<;>simp_all <;>(repeat' split)<;>omega
theorem xw (na nb:Bool) (xs ys:List Nat) (s:Int) (h1:iM na xs=s) (h2:iM nb ys=s):s*aO (val xs) (val ys)=aO (af na xs) (af nb ys):=by
 subst h1;unfold iM af aO at *;cases na<;>cases nb<;>by_cases h1:val xs=0<;>by_cases h3:val ys=0<;>simp_all <;>(repeat' split)<;>omega
theorem uh {o:Int} {A B:Option Addr} {n m c d:Nat} {xs ys:List Nat} (ho:aO (val xs) (val ys)=o) (W:World) (h1:aj W A n c (trim xs)) (h2:aj W B m d (trim ys)):Calls Tryz.prog 202 #[.slice A n c, .slice B m d] W (i7 o W):=by
 have:=cH A B n m c d (trim xs) (trim ys) W h1 h2;rw[gh,ho]at this;exact this.mono fun _ _ ⟨he,q,hq⟩=>⟨he,hq ▸ aN _ q⟩
theorem xV (va vb:Value) (na nb:Bool) (xs ys:List Nat) (w:World) (ha:aL w va na xs) (hb:aL w vb nb ys):
 Calls Tryz.prog 157 #[va,vb] w (i7 (aO (af na xs) (af nb ys)) w):=by
 obtain⟨A,n,c,rfl,hx⟩:=ha;obtain⟨B,m,d,rfl,hy⟩:=hb;obtain⟨W,hW⟩:∃W,W=(w.alloc (.cells #[.bool na, .slice A n c] 36)).alloc (.cells #[.bool nb, .slice B m d] 36):=⟨_,rfl⟩;obtain⟨⟨ca0,ca1,cb0,cb1⟩,hbW⟩:=uJ w _ _ _ _ _ W hW;have hH:=a6 ⟨ca0,ca1,cb0,cb1,hbW⟩ (Below.drew (Below.refl _ _));have hne:=xi na nb xs ys;have heq:=xw na nb xs ys;have hr1:=sd na xs;have hs1:=fun W' h=>jO (.agg #[.bool na, .slice A n c]) na xs W' h
 have hs2:=fun W' h=>jO (.agg #[.bool nb, .slice B m d]) nb ys W' h
 obtain⟨s,hs⟩:∃s,s=iM na xs:=⟨_,rfl⟩;obtain⟨t,ht⟩:∃t,t=iM nb ys:=⟨_,rfl⟩;obtain⟨z,hz⟩:∃z,z=aO (af na xs) (af nb ys):=⟨_,rfl⟩;rw[← hz];rw[← hs]at hs1;rw[← ht]at hs2;rw[← hs,← ht,← hz]at hne;rw[← hs]at hr1;have Hx:=Lib.hid hx;have Hy:=Lib.hid hy;have Hs1:=Lib.hid hs1;have Hs2:=Lib.hid hs2;have Hne:=Lib.hid hne
 by_cases hst:s=t
 ·subst hst
  have hz':=heq s hs.symm ht.symm;obtain⟨o,ho⟩:∃o,aO (val xs) (val ys)=o:=⟨_,rfl⟩;rw[ho,← hz]at hz';have Hcmp:=Lib.hid (uh (A:=A) (B:=B) (n:=(trim xs).length) (m:=(trim ys).length) (c:=c) (d:=d) ho);have hob:=qA (val xs) (val ys);rw[ho]at hob;clear hx hy hs1 hs2 hne heq hs ht hz ho;rcases hr1 with rfl|rfl|rfl
  all_goals(
   have hzz:z=_:=hz'.symm;clear hz';have Hzz:=Lib.hid hzz;clear hzz
   go_enter func157,ntmps157
   go_wp2_with fail
   rw[← hW];clear hW
   go_region_held3 (fun w'=>w'.cell? ⟨w.heap.size,0,none⟩=some (.bool na)∧w'.cell? ⟨w.heap.size,1,none⟩=some (.slice A n c)∧w'.cell? ⟨w.heap.size+1,0,none⟩=some (.bool nb)∧w'.cell? ⟨w.heap.size+1,1,none⟩=some (.slice B m d)∧ak w w')
    (with_reducible first|exact hH|assumption|exact a6 (by assumption) (by assumption))
    (first
     |((go_at_call 222;(with_reducible refine(Hs1.out _ (bf Hx.out (bW (by assumption)))).mono ?_);rintro e w1 ⟨rfl,hb1⟩;have hH1:=a6 hH hb1))
     |((go_at_call 222;(with_reducible refine(Hs2.out _ (bf Hy.out (bW hH1))).mono ?_);rintro e w2 ⟨rfl,hb2⟩;have hH2:=a6 hH1 hb2)))
   have hH3:=a6 hH2 (Below.drew (Below.refl _ _));clear hH1
   go_wp2_with fail
   go_region_held3 (fun w'=>w'.cell? ⟨w.heap.size,0,none⟩=some (.bool na)∧w'.cell? ⟨w.heap.size,1,none⟩=some (.slice A n c)∧w'.cell? ⟨w.heap.size+1,0,none⟩=some (.bool nb)∧w'.cell? ⟨w.heap.size+1,1,none⟩=some (.slice B m d)∧ak w w')
    (with_reducible first|exact hH3|assumption|exact a6 (by assumption) (aN _ _)|exact a6 (by assumption) (by assumption))
    (first
     |((go_at_call 199;(with_reducible refine(aH A n c xs _ (Hx.out.ext (bW hH3))).mono ?_);rintro e w' ⟨rfl,rfl⟩))
     |((go_at_call 199;(with_reducible refine(aH B m d ys _ (Hy.out.ext (bW hH3))).mono ?_);rintro e w' ⟨rfl,rfl⟩))
     |((go_at_call 202;(with_reducible refine(Hcmp.out _ (Hx.out.trim.ext (bW hH3)) (Hy.out.trim.ext (bW hH3))).mono ?_);rintro e w3 ⟨rfl,hb3⟩;have hE3:=bW (a6 hH3 hb3))))
   go_wp2_with fail
   go_ret
   refine⟨rm ?_,hE3⟩;have:=Hzz.out
   first|omega|(rw[IntWalk.i64_in _ (by omega)];omega))
 ·have hz':=hne hst
  have Hz:=Lib.hid hz';have hst':(s == t)=false:=by simpa using hst
  clear hx hy hs1 hs2 hne heq hs ht hz hst hz' hr1
  go_enter func157,ntmps157
  go_wp2_with fail
  rw[← hW];clear hW
  go_region_held3 (fun w'=>w'.cell? ⟨w.heap.size,0,none⟩=some (.bool na)∧w'.cell? ⟨w.heap.size,1,none⟩=some (.slice A n c)∧w'.cell? ⟨w.heap.size+1,0,none⟩=some (.bool nb)∧w'.cell? ⟨w.heap.size+1,1,none⟩=some (.slice B m d)∧ak w w')
   (with_reducible first|exact hH|assumption|exact a6 (by assumption) (by assumption))
   (first
    |((go_at_call 222;(with_reducible refine(Hs1.out _ (bf Hx.out (bW (by assumption)))).mono ?_);rintro e w1 ⟨rfl,hb1⟩;have hH1:=a6 hH hb1))
    |((go_at_call 222;(with_reducible refine(Hs2.out _ (bf Hy.out (bW hH1))).mono ?_);rintro e w2 ⟨rfl,hb2⟩;have hH2:=a6 hH1 hb2)))
  go_wp2_with (go_at_call 226;(with_reducible refine(jt s t _).mono ?_);rintro e w' ⟨rfl,rfl⟩)
  go_ret
  exact⟨rm Hz.out,bW hH2⟩
end
section
attribute [local go_sem ↓] Go.wp_at_zero Go.wp_at_succ
theorem ja (w:World) (a0 a1:Value) (t:TypeId) (W:World) (hW:W=w.alloc (.cells #[a0,a1] t)):
 (W.cell? ⟨w.heap.size,0,none⟩=some a0∧W.cell? ⟨w.heap.size,1,none⟩=some a1)∧(W.frozen? ⟨w.heap.size,0,none⟩=false∧W.frozen? ⟨w.heap.size,1,none⟩=false)∧ak w W:=by
 refine⟨?_,?_,by rw[hW];exact(ak.refl w).alloc _⟩
 ·subst hW;simp[go_sem]
 ·subst hW;simp[go_sem]
theorem nF (va:Value) (na:Bool) (xs:List Nat) (w:World) (ha:aL w va na xs) (hz:af na xs=0):
 Calls Tryz.prog 103 #[va] w (i7 (0) w):=by
 obtain⟨A,n,c,rfl,hx⟩:=ha;obtain⟨W,hW⟩:∃W,W=w.alloc (.cells #[.bool na, .slice A n c] 36):=⟨_,rfl⟩;obtain⟨⟨ca0,ca1⟩,⟨fa0,fa1⟩,hbW⟩:=ja w _ _ _ W hW;have hc:=cn _ na xs W (cF (hx.ext hbW));obtain⟨z,hzz⟩:∃z,af na xs=z:=⟨_,rfl⟩;rw[hzz]at hz hc;have hd:decide (z<0)=false:=by simp;omega
 have Hc:=Lib.hid hc;have Hd:=Lib.hid hd;have Hz:=Lib.hid hz;clear hx hc hd hz hzz
 go_enter func103,ntmps103
 go_wp2_with fail
 rw[← hW];clear hW
 go_wp2_with (go_at_call 158;(with_reducible refine Hc.out.mono ?_);rintro e w1 ⟨v1,rfl,⟨A1,n1,c1,rfl,hw1⟩,hb1⟩;rw[Hd.out];have hz:=Hz.out;have hn1:=oX hw1 (by omega);subst hn1;clear hz;have su0:=kc ca0 hb1;have su1:=kc ca1 hb1;have sf0:=kf ca0 fa0 hb1;have sf1:=kf ca1 fa1 hb1;have hE1:ak w w1:=hbW.more hb1)
 go_ret
 exact⟨rfl,ak.set2 hE1 (Nat.le_refl _) _ _⟩
theorem ph (va:Value) (na:Bool) (xs:List Nat) (w:World) (ha:aL w va na xs) (hz:af na xs<0):
 Calls Tryz.prog 103 #[va] w (i7 (-1) w):=by
 obtain⟨A,n,c,rfl,hx⟩:=ha;obtain⟨W,hW⟩:∃W,W=w.alloc (.cells #[.bool na, .slice A n c] 36):=⟨_,rfl⟩;obtain⟨⟨ca0,ca1⟩,⟨fa0,fa1⟩,hbW⟩:=ja w _ _ _ W hW;have hc:=cn _ na xs W (cF (hx.ext hbW));obtain⟨z,hzz⟩:∃z,af na xs=z:=⟨_,rfl⟩;rw[hzz]at hz hc;have hd:decide (z<0)=true:=by simp;omega
 have Hc:=Lib.hid hc;have Hd:=Lib.hid hd;have Hz:=Lib.hid hz;clear hx hc hd hz hzz
 go_enter func103,ntmps103
 go_wp2_with fail
 rw[← hW];clear hW
 go_wp2_with (go_at_call 158;(with_reducible refine Hc.out.mono ?_);rintro e w1 ⟨v1,rfl,⟨A1,n1,c1,rfl,hw1⟩,hb1⟩;rw[Hd.out];have hz:=Hz.out;have hn1:=ic hw1 (by omega);have hn2:((n1:Int) == 0)=false:=(by simp;omega);clear hz;have su0:=kc ca0 hb1;have su1:=kc ca1 hb1;have sf0:=kf ca0 fa0 hb1;have sf1:=kf ca1 fa1 hb1;have hE1:ak w w1:=hbW.more hb1)
 go_ret
 exact⟨rfl,ak.set2 hE1 (Nat.le_refl _) _ _⟩
theorem oV (va:Value) (na:Bool) (xs:List Nat) (w:World) (ha:aL w va na xs) (hz:0<af na xs):
 Calls Tryz.prog 103 #[va] w (i7 (1) w):=by
 obtain⟨A,n,c,rfl,hx⟩:=ha;obtain⟨W,hW⟩:∃W,W=w.alloc (.cells #[.bool na, .slice A n c] 36):=⟨_,rfl⟩;obtain⟨⟨ca0,ca1⟩,⟨fa0,fa1⟩,hbW⟩:=ja w _ _ _ W hW;have hc:=cn _ na xs W (cF (hx.ext hbW));obtain⟨z,hzz⟩:∃z,af na xs=z:=⟨_,rfl⟩;rw[hzz]at hz hc;have hd:decide (z<0)=false:=by simp;omega
 have Hc:=Lib.hid hc;have Hd:=Lib.hid hd;have Hz:=Lib.hid hz;clear hx hc hd hz hzz
 go_enter func103,ntmps103
 go_wp2_with fail
 rw[← hW];clear hW
 go_wp2_with (go_at_call 158;(with_reducible refine Hc.out.mono ?_);rintro e w1 ⟨v1,rfl,⟨A1,n1,c1,rfl,hw1⟩,hb1⟩;rw[Hd.out];have hz:=Hz.out;have hn1:=ic hw1 (by omega);have hn2:((n1:Int) == 0)=false:=(by simp;omega);clear hz;have su0:=kc ca0 hb1;have su1:=kc ca1 hb1;have sf0:=kf ca0 fa0 hb1;have sf1:=kf ca1 fa1 hb1;have hE1:ak w w1:=hbW.more hb1)
 go_ret
 exact⟨rfl,ak.set2 hE1 (Nat.le_refl _) _ _⟩
theorem rj (va:Value) (na:Bool) (xs:List Nat) (w:World) (ha:aL w va na xs):
 Calls Tryz.prog 103 #[va] w (i7 (af na xs).sign w):=by
 rcases Int.lt_trichotomy (af na xs) 0 with h|h|h
 ·rw[Int.sign_eq_neg_one_of_neg h];exact ph va na xs w ha h
 ·rw[h];exact nF va na xs w ha h
 ·rw[Int.sign_eq_one_of_pos h];exact oV va na xs w ha h
theorem rL {va:Value} {na:Bool} {xs:List Nat} {w:World} {z:Int} (ha:aL w va na xs) (hz:af na xs=z):Calls Tryz.prog 158 #[va] w (bc z w):=hz ▸ cn va na xs w ha
theorem nW {na:Bool} {xs:List Nat} {z:Int} (hz:af na xs=z):digs z.natAbs=trim xs:=by rw[← hz,aG];rfl
theorem xa (za zb:Int) (h:decide (za<0)=decide (zb<0)):af (decide (za<0)) (digs (val (digs za.natAbs)+val (digs zb.natAbs)))=za+zb:=by
 unfold af;rw[ac,ac,ac]
 by_cases h1:za<0<;>by_cases h2:zb<0<;>simp_all <;>omega
theorem xW (za zb:Int) (h:decide (za<0)≠decide (zb<0)) (hl:zb.natAbs≤za.natAbs):af (decide (za<0)) (digs (val (digs za.natAbs)-val (digs zb.natAbs)))=za+zb:=by
 unfold af;rw[ac,ac,ac]
 by_cases h1:za<0<;>by_cases h2:zb<0<;>simp_all <;>omega
theorem xJ (za zb:Int) (h:decide (za<0)≠decide (zb<0)) (hl:za.natAbs<zb.natAbs):af (decide (zb<0)) (digs (val (digs zb.natAbs)-val (digs za.natAbs)))=za+zb:=by
 unfold af;rw[ac,ac,ac]
 by_cases h1:za<0<;>by_cases h2:zb<0<;>simp_all <;>omega
theorem dX {w wx:World} {za zb:Int} (h:eY w za zb wx) {ba bb:Bool} (ha:decide (za<0)=ba) (hb:decide (zb<0)=bb):∃A n c B m d,
 (wx.cell? ⟨w.heap.size,0,none⟩=some (.bool ba)∧wx.cell? ⟨w.heap.size,1,none⟩=some (.slice A n c)∧wx.cell? ⟨w.heap.size+1,0,none⟩=some (.bool bb)∧wx.cell? ⟨w.heap.size+1,1,none⟩=some (.slice B m d)∧ak w wx) ∧
 (wx.cell? ⟨w.heap.size+1+1,0,none⟩=some (.bool false)∧wx.cell? ⟨w.heap.size+1+1,1,none⟩=some (.slice none 0 0)∧wx.frozen? ⟨w.heap.size+1+1,0,none⟩=false∧wx.frozen? ⟨w.heap.size+1+1,1,none⟩=false) ∧
 aj wx A n c (digs za.natAbs)∧aj wx B m d (digs zb.natAbs):=by
 subst ha hb;obtain⟨A,n,c,B,m,d,⟨⟨a0,_⟩,⟨a1,_⟩,⟨a2,_⟩,⟨a3,_⟩,⟨a4,f4⟩,⟨a5,f5⟩⟩,h1,h2,h3⟩:=h;exact⟨A,n,c,B,m,d,⟨a0,a1,a2,a3,h3⟩,⟨a4,a5,f4,f5⟩,h1,h2⟩
theorem mP {o:Int} {A B:Option Addr} {n m c d:Nat} {a b:Nat} (ho:aO a b=o) (W:World) (h1:aj W A n c (digs a)) (h2:aj W B m d (digs b)):Calls Tryz.prog 160 #[.slice A n c, .slice B m d] W (i7 o W):=by
 have:=pD A B n m c d (digs a) (digs b) W h1 h2;rw[dw,ho]at this;exact this.mono fun _ _ ⟨he,q,hq⟩=>⟨he,hq ▸ aN _ q⟩
theorem su (va vb:Value) (na nb ba:Bool) (xs ys:List Nat) (w:World) (ha:aL w va na xs) (hb:aL w vb nb ys) (h1:xs.length≤2147483648) (h2:ys.length≤2147483648) (hba:decide (af na xs<0)=ba) (hs:decide (af nb ys<0)=ba):
 Calls Tryz.prog 197 #[va,vb] w (bc (af na xs+af nb ys) w):=by
 obtain⟨A,n,c,rfl,hx⟩:=ha;obtain⟨B,m,d,rfl,hy⟩:=hb;obtain⟨W,hW⟩:∃W,W=((w.alloc (.cells #[.bool na, .slice A n c] 36)).alloc (.cells #[.bool nb, .slice B m d] 36)).alloc (.cells #[.bool false, .slice none 0 0] 36):=⟨_,rfl⟩;obtain⟨hB,hbW⟩:=eu w _ _ _ _ _ _ _ W hW;have hw:ak w W.drew:=hbW.drew;have hB0:=cI hB (ak.refl W).drew;clear hB hbW;have Hx:=Lib.hid hx;have Hy:=Lib.hid hy;have hl1:(digs (af na xs).natAbs).length≤4294967296:=by rw[aG];exact aV hx.wd h1
 have hl2:(digs (af nb ys).natAbs).length≤4294967296:=by rw[aG];exact aV hy.wd h2
 obtain⟨o,ho⟩:∃o,aO (af na xs).natAbs (af nb ys).natAbs=o:=⟨_,rfl⟩;have ho1:=trivial;have hl:=trivial
 obtain⟨z,hz⟩:∃z,z=af na xs+af nb ys:=⟨_,rfl⟩;have hz1:af ba (digs (val (digs (af na xs).natAbs)+val (digs (af nb ys).natAbs)))=z:=(by rw[← hba,hz];exact xa _ _ (hba.trans hs.symm));rw[← hz];have Hz:=Lib.hid hz1;have Hba:=Lib.hid hba;have Hs:=Lib.hid hs;have Ho:=Lib.hid ho;have Hl:=Lib.hid hl;have hb0:(ba == !ba)=false:=by cases ba<;>rfl
 clear hx hy hz hz1 hba hs ho hl
 go_enter func197,ntmps197
 go_wp2_with fail
 rw[← hW];clear hW
 go_cut [5] (fun _ wx=>eY w (af na xs) (af nb ys) wx)
 case first=>
  go_region_with (first
   |((go_at_call 158;((with_reducible refine(cn _ na xs _ (bf Hx.out (by assumption))).mono ?_);rintro e w1 ⟨v1,rfl,⟨A1,n1,c1,rfl,hw1⟩,hb1⟩;have hB1:=cI (by assumption) hb1;have hE1:=ak.more (by assumption) hb1)))
   |((go_at_call 158;(with_reducible refine(cn _ nb ys _ (bf Hy.out (by assumption))).mono ?_);rintro e w2 ⟨v2,rfl,⟨A2,n2,c2,rfl,hw2⟩,hb2⟩;have hB2:=cI (by assumption) hb2;have hE2:=ak.more (by assumption) hb2)))
  all_goals(go_wp2_with fail;go_meet;first|exact cN (by assumption) (aj.below (by assumption) (by assumption)) (by assumption) (by assumption)|exact cN (by assumption) (by assumption) (aj.below (by assumption) (by assumption)) (by assumption))
 case rest=>
  generalize af na xs=za at *;generalize af nb ys=zb at *;obtain⟨A1,n1,c1,B1,m1,d1,hH,⟨cr0,cr1,fr0,fr1⟩,hx1,hy1⟩:=dX hcut Hba.out Hs.out;have hm1:n1≤4294967296:=by rw[← hx1.len];exact hl1
  have hm2:m1≤4294967296:=by rw[← hy1.len];exact hl2
  have Hx1:=Lib.hid hx1;have Hy1:=Lib.hid hy1;have hEw:ak wc wc:=ak.refl wc;have hEcw:=bW hH;clear hcut hx1 hy1 hw hB0;have hH':=hH;obtain⟨d0,d1',e0,e1,hE1⟩:=hH';have Hcmp:=Lib.hid (mP (A:=A1) (B:=B1) (n:=n1) (m:=m1) (c:=c1) (d:=d1) Ho.out)
  go_wp2_with (go_at_call 160;(with_reducible refine(Hcmp.out _ Hx1.out Hy1.out).mono ?_);rintro e w2 ⟨rfl,hb2⟩;have hH:=a6 hH hb2;have hEw:ak wc w2:=hb2)
  have hH2:=a6 hH (Below.drew (Below.refl _ _));have hEd:=ak.drew hEw;have Hx2:=Lib.hid (Hx1.out.ext hEd);have Hy2:=Lib.hid (Hy1.out.ext hEd);clear d0 d1' e0 e1 hE1 Hcmp hH hEw Hx1 Hy1
  skip
  go_region_held3 (fun w'=>w'.cell? ⟨w.heap.size,0,none⟩=some (.bool ba)∧w'.cell? ⟨w.heap.size,1,none⟩=some (.slice A1 n1 c1)∧w'.cell? ⟨w.heap.size+1,0,none⟩=some (.bool ba)∧w'.cell? ⟨w.heap.size+1,1,none⟩=some (.slice B1 m1 d1)∧ak w w')
   (with_reducible first|exact hH2|assumption|exact a6 (by assumption) (by assumption)|exact fh (by assumption) (by omega) (by dsimp only;omega) (by dsimp only;omega) (by dsimp only;omega) (by dsimp only;omega))
   (first
    |((go_at_call 252;(with_reducible refine(vU _ _ _ _ _ _ (digs za.natAbs) (digs zb.natAbs) _ Hx2.out Hy2.out hm1 hm2).mono ?_);rintro e w1 ⟨A3,n3,c3,zs,rfl,hw1,rfl,hb1⟩))
    |((go_at_call 163;(with_reducible refine(bt hw1 Hz.out).mono ?_);rintro e w2 ⟨v2,rfl,⟨A2,n2,c2,rfl,hw2⟩,hb2⟩;have hE2:=ak.more (ak.more hEd hb1) hb2;have su0:=kc cr0 hE2;have su1:=kc cr1 hE2;have sf0:=kf cr0 fr0 hE2;have sf1:=kf cr1 fr1 hE2)))
  go_wp2_with fail
  exact bodyPost_ret (v:= .agg #[.bool (decide (z<0)), .slice A2 n2 c2]) (by simp[results,results197,go_sem,su0,su1]) rfl (cu su0 su1 hw2 (hEcw.trans hE2) (by omega))
theorem sm (va vb:Value) (na nb ba:Bool) (xs ys:List Nat) (w:World) (ha:aL w va na xs) (hb:aL w vb nb ys) (h1:xs.length≤2147483648) (h2:ys.length≤2147483648) (hba:decide (af na xs<0)=ba) (hs:decide (af nb ys<0)=!ba) (hl:(af nb ys).natAbs≤(af na xs).natAbs):
 Calls Tryz.prog 197 #[va,vb] w (bc (af na xs+af nb ys) w):=by
 obtain⟨A,n,c,rfl,hx⟩:=ha;obtain⟨B,m,d,rfl,hy⟩:=hb;obtain⟨W,hW⟩:∃W,W=((w.alloc (.cells #[.bool na, .slice A n c] 36)).alloc (.cells #[.bool nb, .slice B m d] 36)).alloc (.cells #[.bool false, .slice none 0 0] 36):=⟨_,rfl⟩;obtain⟨hB,hbW⟩:=eu w _ _ _ _ _ _ _ W hW;have hw:ak w W.drew:=hbW.drew;have hB0:=cI hB (ak.refl W).drew;clear hB hbW;have Hx:=Lib.hid hx;have Hy:=Lib.hid hy;have hl1:(digs (af na xs).natAbs).length≤4294967296:=by rw[aG];exact aV hx.wd h1
 have hl2:(digs (af nb ys).natAbs).length≤4294967296:=by rw[aG];exact aV hy.wd h2
 obtain⟨o,ho⟩:∃o,aO (af na xs).natAbs (af nb ys).natAbs=o:=⟨_,rfl⟩;have ho1:0≤o:=(by have:=dy (a:=((af na xs).natAbs:Int)) (b:=(af nb ys).natAbs) (by omega);omega);obtain⟨z,hz⟩:∃z,z=af na xs+af nb ys:=⟨_,rfl⟩;have hz1:af ba (digs (val (digs (af na xs).natAbs)-val (digs (af nb ys).natAbs)))=z:=(by rw[← hba,hz];exact xW _ _ (by rw[hba,hs];cases ba<;>simp) hl);rw[← hz];have Hz:=Lib.hid hz1;have Hba:=Lib.hid hba;have Hs:=Lib.hid hs;have Ho:=Lib.hid ho;have Hl:=Lib.hid hl;have hb0:(ba == !ba)=false:=by cases ba<;>rfl
 clear hx hy hz hz1 hba hs ho hl
 go_enter func197,ntmps197
 go_wp2_with fail
 rw[← hW];clear hW
 go_cut [5] (fun _ wx=>eY w (af na xs) (af nb ys) wx)
 case first=>
  go_region_with (first
   |((go_at_call 158;((with_reducible refine(cn _ na xs _ (bf Hx.out (by assumption))).mono ?_);rintro e w1 ⟨v1,rfl,⟨A1,n1,c1,rfl,hw1⟩,hb1⟩;have hB1:=cI (by assumption) hb1;have hE1:=ak.more (by assumption) hb1)))
   |((go_at_call 158;(with_reducible refine(cn _ nb ys _ (bf Hy.out (by assumption))).mono ?_);rintro e w2 ⟨v2,rfl,⟨A2,n2,c2,rfl,hw2⟩,hb2⟩;have hB2:=cI (by assumption) hb2;have hE2:=ak.more (by assumption) hb2)))
  all_goals(go_wp2_with fail;go_meet;first|exact cN (by assumption) (aj.below (by assumption) (by assumption)) (by assumption) (by assumption)|exact cN (by assumption) (by assumption) (aj.below (by assumption) (by assumption)) (by assumption))
 case rest=>
  generalize af na xs=za at *;generalize af nb ys=zb at *;obtain⟨A1,n1,c1,B1,m1,d1,hH,⟨cr0,cr1,fr0,fr1⟩,hx1,hy1⟩:=dX hcut Hba.out Hs.out;have hm1:n1≤4294967296:=by rw[← hx1.len];exact hl1
  have hm2:m1≤4294967296:=by rw[← hy1.len];exact hl2
  have Hx1:=Lib.hid hx1;have Hy1:=Lib.hid hy1;have hEw:ak wc wc:=ak.refl wc;have hEcw:=bW hH;clear hcut hx1 hy1 hw hB0;have hH':=hH;obtain⟨d0,d1',e0,e1,hE1⟩:=hH';have Hcmp:=Lib.hid (mP (A:=A1) (B:=B1) (n:=n1) (m:=m1) (c:=c1) (d:=d1) Ho.out)
  go_wp2_with (go_at_call 160;(with_reducible refine(Hcmp.out _ Hx1.out Hy1.out).mono ?_);rintro e w2 ⟨rfl,hb2⟩;have hH:=a6 hH hb2;have hEw:ak wc w2:=hb2)
  have hH2:=a6 hH (Below.drew (Below.refl _ _));have hEd:=ak.drew hEw;have Hx2:=Lib.hid (Hx1.out.ext hEd);have Hy2:=Lib.hid (Hy1.out.ext hEd);clear d0 d1' e0 e1 hE1 Hcmp hH hEw Hx1 Hy1;have HM:=Lib.hid (oK _ _ _ _ _ _ _ _ _ Hx2.out Hy2.out (by rw[ac,ac];exact Hl.out) hm1)
  go_region_held3 (fun w'=>w'.cell? ⟨w.heap.size,0,none⟩=some (.bool ba)∧w'.cell? ⟨w.heap.size,1,none⟩=some (.slice A1 n1 c1)∧w'.cell? ⟨w.heap.size+1,0,none⟩=some (.bool (!ba))∧w'.cell? ⟨w.heap.size+1,1,none⟩=some (.slice B1 m1 d1)∧ak w w')
   (with_reducible first|exact hH2|assumption|exact a6 (by assumption) (by assumption)|exact fh (by assumption) (by omega) (by dsimp only;omega) (by dsimp only;omega) (by dsimp only;omega) (by dsimp only;omega))
   (first
    |((go_at_call 232;(with_reducible refine HM.out.mono ?_);rintro e w1 ⟨A3,n3,c3,zs,rfl,hw1,rfl,hb1⟩))
    |((go_at_call 163;(with_reducible refine(bt hw1 Hz.out).mono ?_);rintro e w2 ⟨v2,rfl,⟨A2,n2,c2,rfl,hw2⟩,hb2⟩;have hE2:=ak.more (ak.more hEd hb1) hb2;have su0:=kc cr0 hE2;have su1:=kc cr1 hE2;have sf0:=kf cr0 fr0 hE2;have sf1:=kf cr1 fr1 hE2)))
  go_wp2_with fail
  exact bodyPost_ret (v:= .agg #[.bool (decide (z<0)), .slice A2 n2 c2]) (by simp[results,results197,go_sem,su0,su1]) rfl (cu su0 su1 hw2 (hEcw.trans hE2) (by omega))
theorem rW (va vb:Value) (na nb ba:Bool) (xs ys:List Nat) (w:World) (ha:aL w va na xs) (hb:aL w vb nb ys) (h1:xs.length≤2147483648) (h2:ys.length≤2147483648) (hba:decide (af na xs<0)=ba) (hs:decide (af nb ys<0)=!ba) (hl:(af na xs).natAbs<(af nb ys).natAbs):
 Calls Tryz.prog 197 #[va,vb] w (bc (af na xs+af nb ys) w):=by
 obtain⟨A,n,c,rfl,hx⟩:=ha;obtain⟨B,m,d,rfl,hy⟩:=hb;obtain⟨W,hW⟩:∃W,W=((w.alloc (.cells #[.bool na, .slice A n c] 36)).alloc (.cells #[.bool nb, .slice B m d] 36)).alloc (.cells #[.bool false, .slice none 0 0] 36):=⟨_,rfl⟩;obtain⟨hB,hbW⟩:=eu w _ _ _ _ _ _ _ W hW;have hw:ak w W.drew:=hbW.drew;have hB0:=cI hB (ak.refl W).drew;clear hB hbW;have Hx:=Lib.hid hx;have Hy:=Lib.hid hy;have hl1:(digs (af na xs).natAbs).length≤4294967296:=by rw[aG];exact aV hx.wd h1
 have hl2:(digs (af nb ys).natAbs).length≤4294967296:=by rw[aG];exact aV hy.wd h2
 obtain⟨o,ho⟩:∃o,aO (af na xs).natAbs (af nb ys).natAbs=o:=⟨_,rfl⟩;have ho1:¬0≤o:=(by have:=cO (a:=((af na xs).natAbs:Int)) (b:=(af nb ys).natAbs) (by omega);omega);obtain⟨z,hz⟩:∃z,z=af na xs+af nb ys:=⟨_,rfl⟩;have hz1:af (!ba) (digs (val (digs (af nb ys).natAbs)-val (digs (af na xs).natAbs)))=z:=(by rw[← hs,hz];exact xJ _ _ (by rw[hba,hs];cases ba<;>simp) hl);rw[← hz];have Hz:=Lib.hid hz1;have Hba:=Lib.hid hba;have Hs:=Lib.hid hs;have Ho:=Lib.hid ho;have Hl:=Lib.hid hl;have hb0:(ba == !ba)=false:=by cases ba<;>rfl
 clear hx hy hz hz1 hba hs ho hl
 go_enter func197,ntmps197
 go_wp2_with fail
 rw[← hW];clear hW
 go_cut [5] (fun _ wx=>eY w (af na xs) (af nb ys) wx)
 case first=>
  go_region_with (first
   |((go_at_call 158;((with_reducible refine(cn _ na xs _ (bf Hx.out (by assumption))).mono ?_);rintro e w1 ⟨v1,rfl,⟨A1,n1,c1,rfl,hw1⟩,hb1⟩;have hB1:=cI (by assumption) hb1;have hE1:=ak.more (by assumption) hb1)))
   |((go_at_call 158;(with_reducible refine(cn _ nb ys _ (bf Hy.out (by assumption))).mono ?_);rintro e w2 ⟨v2,rfl,⟨A2,n2,c2,rfl,hw2⟩,hb2⟩;have hB2:=cI (by assumption) hb2;have hE2:=ak.more (by assumption) hb2)))
  all_goals(go_wp2_with fail;go_meet;first|exact cN (by assumption) (aj.below (by assumption) (by assumption)) (by assumption) (by assumption)|exact cN (by assumption) (by assumption) (aj.below (by assumption) (by assumption)) (by assumption))
 case rest=>
  generalize af na xs=za at *;generalize af nb ys=zb at *;obtain⟨A1,n1,c1,B1,m1,d1,hH,⟨cr0,cr1,fr0,fr1⟩,hx1,hy1⟩:=dX hcut Hba.out Hs.out;have hm1:n1≤4294967296:=by rw[← hx1.len];exact hl1
  have hm2:m1≤4294967296:=by rw[← hy1.len];exact hl2
  have Hx1:=Lib.hid hx1;have Hy1:=Lib.hid hy1;have hEw:ak wc wc:=ak.refl wc;have hEcw:=bW hH;clear hcut hx1 hy1 hw hB0;have hH':=hH;obtain⟨d0,d1',e0,e1,hE1⟩:=hH';have Hcmp:=Lib.hid (mP (A:=A1) (B:=B1) (n:=n1) (m:=m1) (c:=c1) (d:=d1) Ho.out)
  go_wp2_with (go_at_call 160;(with_reducible refine(Hcmp.out _ Hx1.out Hy1.out).mono ?_);rintro e w2 ⟨rfl,hb2⟩;have hH:=a6 hH hb2;have hEw:ak wc w2:=hb2)
  have hH2:=a6 hH (Below.drew (Below.refl _ _));have hEd:=ak.drew hEw;have Hx2:=Lib.hid (Hx1.out.ext hEd);have Hy2:=Lib.hid (Hy1.out.ext hEd);clear d0 d1' e0 e1 hE1 Hcmp hH hEw Hx1 Hy1;have HM:=Lib.hid (oK _ _ _ _ _ _ _ _ _ Hy2.out Hx2.out (by rw[ac,ac];exact Nat.le_of_lt Hl.out) hm2)
  go_region_held3 (fun w'=>w'.cell? ⟨w.heap.size,0,none⟩=some (.bool ba)∧w'.cell? ⟨w.heap.size,1,none⟩=some (.slice A1 n1 c1)∧w'.cell? ⟨w.heap.size+1,0,none⟩=some (.bool (!ba))∧w'.cell? ⟨w.heap.size+1,1,none⟩=some (.slice B1 m1 d1)∧ak w w')
   (with_reducible first|exact hH2|assumption|exact a6 (by assumption) (by assumption)|exact fh (by assumption) (by omega) (by dsimp only;omega) (by dsimp only;omega) (by dsimp only;omega) (by dsimp only;omega))
   (first
    |((go_at_call 232;(with_reducible refine HM.out.mono ?_);rintro e w1 ⟨A3,n3,c3,zs,rfl,hw1,rfl,hb1⟩))
    |((go_at_call 163;(with_reducible refine(bt hw1 Hz.out).mono ?_);rintro e w2 ⟨v2,rfl,⟨A2,n2,c2,rfl,hw2⟩,hb2⟩;have hE2:=ak.more (ak.more hEd hb1) hb2;have su0:=kc cr0 hE2;have su1:=kc cr1 hE2;have sf0:=kf cr0 fr0 hE2;have sf1:=kf cr1 fr1 hE2)))
  go_wp2_with fail
  exact bodyPost_ret (v:= .agg #[.bool (decide (z<0)), .slice A2 n2 c2]) (by simp[results,results197,go_sem,su0,su1]) rfl (cu su0 su1 hw2 (hEcw.trans hE2) (by omega))
theorem vc (va vb:Value) (na nb:Bool) (xs ys:List Nat) (w:World) (ha:aL w va na xs) (hb:aL w vb nb ys) (h1:xs.length≤2147483648) (h2:ys.length≤2147483648):
 Calls Tryz.prog 197 #[va,vb] w (bc (af na xs+af nb ys) w):=by
 by_cases hn:decide (af nb ys<0)=decide (af na xs<0)
 ·exact su va vb na nb _ xs ys w ha hb h1 h2 rfl hn
 ·by_cases hl:(af na xs).natAbs<(af nb ys).natAbs
  ·exact rW va vb na nb _ xs ys w ha hb h1 h2 rfl (gi hn) hl
  ·exact sm va vb na nb _ xs ys w ha hb h1 h2 rfl (gi hn) (by omega)
end
section
attribute [local go_sem ↓] Go.wp_at_zero Go.wp_at_succ
theorem iO {xs:List Nat} (h:Wd xs) (na:Bool) (k:Nat) (h1:xs.length≤k):(digs (af na xs).natAbs).length≤k:=by
 rw[aG];exact Nat.le_trans (aK h) h1
theorem aL.wd {w:World} {v:Value} {na:Bool} {xs:List Nat} (h:aL w v na xs):Wd xs:=by
 obtain⟨_,_,_,_,h⟩:=h;exact h.wd
theorem wZ (va vb:Value) (na nb:Bool) (xs ys:List Nat) (w:World) (ha:aL w va na xs) (hb:aL w vb nb ys) (h1:xs.length≤2147483648) (h2:ys.length≤2147483648):
 Calls Tryz.prog 234 #[va,vb] w (bc (af na xs-af nb ys) w):=by
 have hl2:(digs (-af nb ys).natAbs).length≤2147483648:=by rw[Int.natAbs_neg];exact iO hb.wd nb _ h2
 obtain⟨A,n,c,rfl,hx⟩:=ha;obtain⟨B,m,d,rfl,hy⟩:=hb;obtain⟨W,hW⟩:∃W,W=((w.alloc (.cells #[.bool na, .slice A n c] 36)).alloc (.cells #[.bool nb, .slice B m d] 36)).alloc (.cells #[.bool false, .slice none 0 0] 36):=⟨_,rfl⟩;obtain⟨⟨ca0,ca1,cb0,cb1⟩,⟨cr0,cr1,fr0,fr1⟩,hbW⟩:=d4 w _ _ _ _ _ _ _ W hW;have hH:=a6 ⟨ca0,ca1,cb0,cb1,hbW⟩ (Below.drew (Below.refl _ _));have hEd:ak W W.drew:=(ak.refl W).drew;obtain⟨z,hz⟩:∃z,z=af na xs-af nb ys:=⟨_,rfl⟩;rw[← hz];have hz':af na xs+ -af nb ys=z:=by omega
 have HA:=fun W' v (h:aL W' (.agg #[.bool na, .slice A n c]) na xs) (h':a7 W' v (-af nb ys))=>by
  have:=vc _ _ na _ xs _ W' h h' h1 hl2;rw[au,hz']at this;exact this
 have HA:=Lib.hid HA;have Hx:=Lib.hid hx;have Hy:=Lib.hid hy;clear hx hy hz hz' hl2
 go_enter func234,ntmps234
 go_wp2_with fail
 rw[← hW];clear hW
 go_region_held3 (fun w'=>w'.cell? ⟨w.heap.size,0,none⟩=some (.bool na)∧w'.cell? ⟨w.heap.size,1,none⟩=some (.slice A n c)∧w'.cell? ⟨w.heap.size+1,0,none⟩=some (.bool nb)∧w'.cell? ⟨w.heap.size+1,1,none⟩=some (.slice B m d)∧ak w w')
  (with_reducible first|exact hH|assumption|exact a6 (by assumption) (by assumption)|exact fh (by assumption) (by omega) (by dsimp only;omega) (by dsimp only;omega) (by dsimp only;omega) (by dsimp only;omega))
  (first
   |((go_at_call 102;(with_reducible refine(tj _ nb ys _ (bf Hy.out (bW hH))).mono ?_);rintro e w1 ⟨v1,rfl,hv1,hb1⟩;have hH1:=a6 hH hb1;have hE1:=ak.more hEd hb1))
   |((go_at_call 197;(with_reducible refine(HA.out _ _ (bf Hx.out (bW hH1)) hv1).mono ?_);rintro e w2 ⟨v2,rfl,⟨A2,n2,c2,rfl,hw2⟩,hb2⟩;have hE2:=ak.more hE1 hb2;have su0:=kc cr0 hE2;have su1:=kc cr1 hE2;have sf0:=kf cr0 fr0 hE2;have sf1:=kf cr1 fr1 hE2)))
 go_wp2_with fail
 exact bodyPost_ret (v:= .agg #[.bool (decide (z<0)), .slice A2 n2 c2]) (by simp[results,results234,go_sem,su0,su1]) rfl (cu su0 su1 hw2 (hbW.trans hE2) (by omega))
theorem it {v:Value} {z:Int} {w:World} (h:a7 w v z):Calls Tryz.prog 103 #[v] w (i7 z.sign w):=by
 have:=rj v _ _ w h
 rwa[au]at this
end
end Go.Proofs.YtmkggcjajcdlcaaGreatDoor
