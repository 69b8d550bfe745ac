/- Add of the program. Cmp of the program; Sign, Add, Sub and Cmp of the reference. Sign, Add, Sub and Cmp of the reference. Sub and Cmp of the reference; the sums' law. -/
import Derived.Test.YtnchbpoopnjghaaGreatDoorCAi
set_option maxHeartbeats 100000000
set_option maxRecDepth 100000
set_option linter.all false
open Go.Proofs.Tryz
namespace Go.Proofs.YtnchbpoopnjghaaGreatDoor
open Go.RowKit
section
attribute [local go_sem ↓] Go.wp_at_zero Go.wp_at_succ
theorem dP {W w:World} {p1 p2 p3 p4:Addr} {v1 v2 v3 v4:Value} (h:w.cell? p1=some v1/\w.cell? p2=some v2/\w.cell? p3=some v3/\w.cell? p4=some v4/\bw W w):bw W w:=h.2.2.2.2
theorem Al (na:Bool) (xs ys zs:List Nat) (h:val zs=val xs+val ys):aN na zs=aN na xs+aN na ys:=by
 unfold aN;rw[h];cases na<;>simp;omega
theorem yW (na:Bool) (xs ys:List Nat) (h:val xs<val ys):aN (!na) (digs (val (trim ys)-val (trim xs)))=aN na xs+aN (!na) ys:=by
 unfold aN;rw[az,aJ,aJ];cases na<;>simp <;>omega
theorem y4 (na:Bool) (xs ys:List Nat) (h:val ys<=val xs):aN na (digs (val (trim xs)-val (trim ys)))=aN na xs+aN (!na) ys:=by
 unfold aN;rw[az,aJ,aJ];cases na<;>simp <;>omega
theorem th {na nb:Bool} (h:nb≠na):nb=!na:=by cases na<;>cases nb<;>simp_all
theorem kp (xs ys:List Nat):my (trim xs) (trim ys)=bF (val xs) (val ys):=kr _ _
theorem Fo (va vb:Value) (na nb:Bool) (xs ys:List Nat) (w:World) (ha:dh w va na xs) (hb:dh w vb nb ys) (h1:xs.length<=2147483648) (h2:ys.length<=2147483648) (hn:na=nb) (z:Int) (hz:z=aN na xs+aN nb ys):
 Calls Tryz.prog 190 #[va,vb] w (dH z w):=by
 obtain⟨A,n,c,rfl,hx⟩:=ha;obtain⟨B,m,d,rfl,hy⟩:=hb;subst hn;obtain⟨W,hW⟩:∃W,W=((w.alloc (.cells #[.bool na, .slice A n c] 36)).alloc (.cells #[.bool na, .slice B m d] 36)).alloc (.cells #[.bool false, .slice none 0 0] 36):=⟨_,rfl⟩;obtain⟨⟨ca0,ca1,cb0,cb1⟩,⟨cr0,cr1,fr0,fr1⟩,hbW⟩:=kH w _ _ _ _ _ _ _ W hW;have hl1:=dG hx.wd h1;have hl2:=dG hy.wd h2;have Hx:=Lib.hid hx;have Hy:=Lib.hid hy;have hH:=TD ⟨ca0,ca1,cb0,cb1,hbW⟩ (Below.drew (Below.refl _ _));have hcmp:=fun W' (h1:bc W' A (trim xs).length c (trim xs)) (h2:bc W' B (trim ys).length d (trim ys))=>fj A B (trim xs).length (trim ys).length c d (trim xs) (trim ys) W' h1 h2
 rw[kp]at hcmp;obtain⟨o,ho⟩:∃o,o=bF (val xs) (val ys):=⟨_,rfl⟩;rw[<- ho]at hcmp;have HZ:Hid (∀zs,val zs=val (trim xs)+val (trim ys)->aN na zs=z):=fun zs hzs=>(Al na xs ys zs (by rw[hzs,aJ,aJ])).trans hz.symm
 have Hcmp:=Lib.hid hcmp;have Ho:=Lib.hid ho;have ho1:True:=trivial;have hb0:(na == !na)=false:=by cases na<;>rfl
 clear hx hy hz hcmp ho
 go_enter func190,ntmps190
 go_wp2_with fail
 rw[<- hW];clear hW
 go_region_held3 (fun w'=>w'.cell? ⟨w.heap.size,0,none⟩=some (.bool na)/\w'.cell? ⟨w.heap.size,1,none⟩=some (.slice A n c)/\w'.cell? ⟨w.heap.size+1,0,none⟩=some (.bool na)/\w'.cell? ⟨w.heap.size+1,1,none⟩=some (.slice B m d)/\bw w w')
  (with_reducible first|exact hH|assumption|exact TD (by assumption) (by assumption))
  (first
   |((go_at_call 194;(with_reducible refine(bv A n c xs _ (Hx.out.ext (dP (by assumption)))).mono ?_);rintro e w' ⟨rfl,rfl⟩))
   |((go_at_call 194;(with_reducible refine(bv B m d ys _ (Hy.out.ext (dP (by assumption)))).mono ?_);rintro e w' ⟨rfl,rfl⟩)))
 obtain⟨W1,hW1⟩:∃W1,W1=W.drew:=⟨_,rfl⟩;rw[<- hW1]at hH ⊢;have hEc:bw W W1:=by rw[hW1];exact(bw.refl W).drew
 have hH':=hH;obtain⟨d0,d1,e0,e1,hE1⟩:=hH';clear hW1
 go_wp2_with (go_at_call 235;(with_reducible refine(Hcmp.out _ (Hx.out.trim.ext hE1) (Hy.out.trim.ext hE1)).mono ?_);rintro e w2 ⟨rfl,q,rfl⟩;have hH:=TD hH (bW _ q);have hEc:=hEc.trans (bW _ q))
 skip
 have hH2:=TD hH (Below.drew (Below.refl _ _));have hEd:=bw.drew hEc;clear d0 d1 e0 e1 hE1 Hcmp hH hEc
 go_region_held3 (fun w'=>w'.cell? ⟨w.heap.size,0,none⟩=some (.bool na)/\w'.cell? ⟨w.heap.size,1,none⟩=some (.slice A n c)/\w'.cell? ⟨w.heap.size+1,0,none⟩=some (.bool na)/\w'.cell? ⟨w.heap.size+1,1,none⟩=some (.slice B m d)/\bw w w')
  (with_reducible first|exact hH2|assumption|exact TD (by assumption) (by assumption)|exact um (by assumption) (by omega) (by dsimp only;omega) (by dsimp only;omega) (by dsimp only;omega) (by dsimp only;omega))
  (first
   |((go_at_call 257;(with_reducible refine(Ix _ _ _ _ _ _ (trim xs) (trim ys) _ (Hx.out.trim.ext (dP (by assumption))) (Hy.out.trim.ext (dP (by assumption))) hl1 hl2).mono ?_);rintro e w1 ⟨A1,n1,c1,zs,rfl,hw1,⟨hzs,-⟩,hb1⟩;have hzz:=HZ.out zs hzs))
   |((go_at_call 232;(with_reducible refine(bu hw1 hzz).mono ?_);rintro e w2 ⟨v2,rfl,⟨A2,n2,c2,rfl,hw2⟩,hb2⟩;have hE2:=bw.more (bw.more hEd hb1) hb2;have su0:=kc cr0 hE2;have su1:=kc cr1 hE2;have sf0:=kf cr0 fr0 hE2;have sf1:=kf cr1 fr1 hE2)))
 go_wp2_with fail
 exact bodyPost_ret (v:= .agg #[.bool (decide (z<0)), .slice A2 n2 c2]) (by simp[results,results190,go_sem,su0,su1]) rfl (jf su0 su1 hw2 (hbW.trans hE2) (by omega))
theorem Id (va vb:Value) (na nb:Bool) (xs ys:List Nat) (w:World) (ha:dh w va na xs) (hb:dh w vb nb ys) (h1:xs.length<=2147483648) (h2:ys.length<=2147483648) (hn:nb=!na) (hl:val xs<val ys) (z:Int) (hz:z=aN na xs+aN nb ys):
 Calls Tryz.prog 190 #[va,vb] w (dH z w):=by
 obtain⟨A,n,c,rfl,hx⟩:=ha;obtain⟨B,m,d,rfl,hy⟩:=hb;subst hn;obtain⟨W,hW⟩:∃W,W=((w.alloc (.cells #[.bool na, .slice A n c] 36)).alloc (.cells #[.bool (!na), .slice B m d] 36)).alloc (.cells #[.bool false, .slice none 0 0] 36):=⟨_,rfl⟩;obtain⟨⟨ca0,ca1,cb0,cb1⟩,⟨cr0,cr1,fr0,fr1⟩,hbW⟩:=kH w _ _ _ _ _ _ _ W hW;have hl1:=dG hx.wd h1;have hl2:=dG hy.wd h2;have Hx:=Lib.hid hx;have Hy:=Lib.hid hy;have hH:=TD ⟨ca0,ca1,cb0,cb1,hbW⟩ (Below.drew (Below.refl _ _));have hcmp:=fun W' (h1:bc W' A (trim xs).length c (trim xs)) (h2:bc W' B (trim ys).length d (trim ys))=>fj A B (trim xs).length (trim ys).length c d (trim xs) (trim ys) W' h1 h2
 rw[kp]at hcmp;obtain⟨o,ho⟩:∃o,o=bF (val xs) (val ys):=⟨_,rfl⟩;rw[<- ho]at hcmp;have HZ:Hid (aN (!na) (digs (val (trim ys)-val (trim xs)))=z):=(yW na xs ys hl).trans hz.symm;have Hcmp:=Lib.hid hcmp;have Ho:=Lib.hid ho;have HM:=Lib.hid (fun W' h1 h2=>ux B A (trim ys).length (trim xs).length d c (trim ys) (trim xs) W' h1 h2 (by have h3:=aJ xs;have h4:=aJ ys;omega) hl2);have ho1:o<0:=by have:=ja (a:=(val xs:Int)) (b:=val ys) (by omega);omega
 have hb0:(na == !na)=false:=by cases na<;>rfl
 clear hx hy hz hcmp ho
 go_enter func190,ntmps190
 go_wp2_with fail
 rw[<- hW];clear hW
 go_region_held3 (fun w'=>w'.cell? ⟨w.heap.size,0,none⟩=some (.bool na)/\w'.cell? ⟨w.heap.size,1,none⟩=some (.slice A n c)/\w'.cell? ⟨w.heap.size+1,0,none⟩=some (.bool (!na))/\w'.cell? ⟨w.heap.size+1,1,none⟩=some (.slice B m d)/\bw w w')
  (with_reducible first|exact hH|assumption|exact TD (by assumption) (by assumption))
  (first
   |((go_at_call 194;(with_reducible refine(bv A n c xs _ (Hx.out.ext (dP (by assumption)))).mono ?_);rintro e w' ⟨rfl,rfl⟩))
   |((go_at_call 194;(with_reducible refine(bv B m d ys _ (Hy.out.ext (dP (by assumption)))).mono ?_);rintro e w' ⟨rfl,rfl⟩)))
 obtain⟨W1,hW1⟩:∃W1,W1=W.drew:=⟨_,rfl⟩;rw[<- hW1]at hH ⊢;have hEc:bw W W1:=by rw[hW1];exact(bw.refl W).drew
 have hH':=hH;obtain⟨d0,d1,e0,e1,hE1⟩:=hH';clear hW1
 go_wp2_with (go_at_call 235;(with_reducible refine(Hcmp.out _ (Hx.out.trim.ext hE1) (Hy.out.trim.ext hE1)).mono ?_);rintro e w2 ⟨rfl,q,rfl⟩;have hH:=TD hH (bW _ q);have hEc:=hEc.trans (bW _ q))
 generalize W1.drewN q=W2 at *;have hH2:=TD hH (Below.drew (Below.refl _ _));have hEd:=bw.drew hEc;clear d0 d1 e0 e1 hE1 Hcmp hH hEc
 go_region_held3 (fun w'=>w'.cell? ⟨w.heap.size,0,none⟩=some (.bool na)/\w'.cell? ⟨w.heap.size,1,none⟩=some (.slice A n c)/\w'.cell? ⟨w.heap.size+1,0,none⟩=some (.bool (!na))/\w'.cell? ⟨w.heap.size+1,1,none⟩=some (.slice B m d)/\bw w w')
  (with_reducible first|exact hH2|assumption|exact TD (by assumption) (by assumption)|exact um (by assumption) (by omega) (by dsimp only;omega) (by dsimp only;omega) (by dsimp only;omega) (by dsimp only;omega))
  (first
   |((go_at_call 258;(with_reducible refine(HM.out _ (Hy.out.trim.ext (dP (by assumption))) (Hx.out.trim.ext (dP (by assumption)))).mono ?_);rintro e w1 ⟨A1,n1,c1,zs,rfl,hw1,rfl,hb1⟩;have hzz:=HZ.out))
   |((go_at_call 232;(with_reducible refine(bu hw1 hzz).mono ?_);rintro e w2 ⟨v2,rfl,⟨A2,n2,c2,rfl,hw2⟩,hb2⟩;have hE2:=bw.more (bw.more hEd hb1) hb2;have su0:=kc cr0 hE2;have su1:=kc cr1 hE2;have sf0:=kf cr0 fr0 hE2;have sf1:=kf cr1 fr1 hE2)))
 go_wp2_with fail
 exact bodyPost_ret (v:= .agg #[.bool (decide (z<0)), .slice A2 n2 c2]) (by simp[results,results190,go_sem,su0,su1]) rfl (jf su0 su1 hw2 (hbW.trans hE2) (by omega))
theorem EH (va vb:Value) (na nb:Bool) (xs ys:List Nat) (w:World) (ha:dh w va na xs) (hb:dh w vb nb ys) (h1:xs.length<=2147483648) (h2:ys.length<=2147483648) (hn:nb=!na) (hl:val ys<=val xs) (z:Int) (hz:z=aN na xs+aN nb ys):
 Calls Tryz.prog 190 #[va,vb] w (dH z w):=by
 obtain⟨A,n,c,rfl,hx⟩:=ha;obtain⟨B,m,d,rfl,hy⟩:=hb;subst hn;obtain⟨W,hW⟩:∃W,W=((w.alloc (.cells #[.bool na, .slice A n c] 36)).alloc (.cells #[.bool (!na), .slice B m d] 36)).alloc (.cells #[.bool false, .slice none 0 0] 36):=⟨_,rfl⟩;obtain⟨⟨ca0,ca1,cb0,cb1⟩,⟨cr0,cr1,fr0,fr1⟩,hbW⟩:=kH w _ _ _ _ _ _ _ W hW;have hl1:=dG hx.wd h1;have hl2:=dG hy.wd h2;have Hx:=Lib.hid hx;have Hy:=Lib.hid hy;have hH:=TD ⟨ca0,ca1,cb0,cb1,hbW⟩ (Below.drew (Below.refl _ _));have hcmp:=fun W' (h1:bc W' A (trim xs).length c (trim xs)) (h2:bc W' B (trim ys).length d (trim ys))=>fj A B (trim xs).length (trim ys).length c d (trim xs) (trim ys) W' h1 h2
 rw[kp]at hcmp;obtain⟨o,ho⟩:∃o,o=bF (val xs) (val ys):=⟨_,rfl⟩;rw[<- ho]at hcmp;have HZ:Hid (aN na (digs (val (trim xs)-val (trim ys)))=z):=(y4 na xs ys hl).trans hz.symm;have Hcmp:=Lib.hid hcmp;have Ho:=Lib.hid ho;have HM:=Lib.hid (fun W' h1 h2=>ux A B (trim xs).length (trim ys).length c d (trim xs) (trim ys) W' h1 h2 (by have h3:=aJ xs;have h4:=aJ ys;omega) hl1);have ho1:¬o<0:=by have:=pC (a:=(val xs:Int)) (b:=val ys) (by omega);omega
 have hb0:(na == !na)=false:=by cases na<;>rfl
 clear hx hy hz hcmp ho
 go_enter func190,ntmps190
 go_wp2_with fail
 rw[<- hW];clear hW
 go_region_held3 (fun w'=>w'.cell? ⟨w.heap.size,0,none⟩=some (.bool na)/\w'.cell? ⟨w.heap.size,1,none⟩=some (.slice A n c)/\w'.cell? ⟨w.heap.size+1,0,none⟩=some (.bool (!na))/\w'.cell? ⟨w.heap.size+1,1,none⟩=some (.slice B m d)/\bw w w')
  (with_reducible first|exact hH|assumption|exact TD (by assumption) (by assumption))
  (first
   |((go_at_call 194;(with_reducible refine(bv A n c xs _ (Hx.out.ext (dP (by assumption)))).mono ?_);rintro e w' ⟨rfl,rfl⟩))
   |((go_at_call 194;(with_reducible refine(bv B m d ys _ (Hy.out.ext (dP (by assumption)))).mono ?_);rintro e w' ⟨rfl,rfl⟩)))
 obtain⟨W1,hW1⟩:∃W1,W1=W.drew:=⟨_,rfl⟩;rw[<- hW1]at hH ⊢;have hEc:bw W W1:=by rw[hW1];exact(bw.refl W).drew
 have hH':=hH;obtain⟨d0,d1,e0,e1,hE1⟩:=hH';clear hW1
 go_wp2_with (go_at_call 235;(with_reducible refine(Hcmp.out _ (Hx.out.trim.ext hE1) (Hy.out.trim.ext hE1)).mono ?_);rintro e w2 ⟨rfl,q,rfl⟩;have hH:=TD hH (bW _ q);have hEc:=hEc.trans (bW _ q))
 generalize W1.drewN q=W2 at *;have hH2:=TD hH (Below.drew (Below.refl _ _));have hEd:=bw.drew hEc;clear d0 d1 e0 e1 hE1 Hcmp hH hEc
 go_region_held3 (fun w'=>w'.cell? ⟨w.heap.size,0,none⟩=some (.bool na)/\w'.cell? ⟨w.heap.size,1,none⟩=some (.slice A n c)/\w'.cell? ⟨w.heap.size+1,0,none⟩=some (.bool (!na))/\w'.cell? ⟨w.heap.size+1,1,none⟩=some (.slice B m d)/\bw w w')
  (with_reducible first|exact hH2|assumption|exact TD (by assumption) (by assumption)|exact um (by assumption) (by omega) (by dsimp only;omega) (by dsimp only;omega) (by dsimp only;omega) (by dsimp only;omega))
  (first
   |((go_at_call 258;(with_reducible refine(HM.out _ (Hx.out.trim.ext (dP (by assumption))) (Hy.out.trim.ext (dP (by assumption)))).mono ?_);rintro e w1 ⟨A1,n1,c1,zs,rfl,hw1,rfl,hb1⟩;have hzz:=HZ.out))
   |((go_at_call 232;(with_reducible refine(bu hw1 hzz).mono ?_);rintro e w2 ⟨v2,rfl,⟨A2,n2,c2,rfl,hw2⟩,hb2⟩;have hE2:=bw.more (bw.more hEd hb1) hb2;have su0:=kc cr0 hE2;have su1:=kc cr1 hE2;have sf0:=kf cr0 fr0 hE2;have sf1:=kf cr1 fr1 hE2)))
 go_wp2_with fail
 exact bodyPost_ret (v:= .agg #[.bool (decide (z<0)), .slice A2 n2 c2]) (by simp[results,results190,go_sem,su0,su1]) rfl (jf su0 su1 hw2 (hbW.trans hE2) (by omega))
theorem P2 (va vb:Value) (na nb:Bool) (xs ys:List Nat) (w:World) (ha:dh w va na xs) (hb:dh w vb nb ys) (h1:xs.length<=2147483648) (h2:ys.length<=2147483648):
 Calls Tryz.prog 190 #[va,vb] w (dH (aN na xs+aN nb ys) w):=by
 by_cases hn:nb=na
 ·exact Fo va vb na nb xs ys w ha hb h1 h2 hn.symm _ rfl
 ·by_cases hl:val xs<val ys
  ·exact Id va vb na nb xs ys w ha hb h1 h2 (th hn) hl _ rfl
  ·exact EH va vb na nb xs ys w ha hb h1 h2 (th hn) (by omega) _ rfl
end
section
attribute [local go_sem ↓] Go.wp_at_zero Go.wp_at_succ
theorem Dn (na:Bool) (xs:List Nat):ry na xs= -1∨ry na xs=0∨ry na xs=1:=by unfold ry;split <;>(try split)<;>simp
theorem Oc (na nb:Bool) (xs ys:List Nat) (h:ry na xs≠ry nb ys):bF (ry na xs) (ry nb ys)=bF (aN na xs) (aN nb ys):=by
 unfold ry aN bF at *;cases na<;>cases nb<;>by_cases h1:val xs=0<;>by_cases h2:val ys=0<;>simp_all <;>(repeat' split)<;>omega
theorem O6 (na nb:Bool) (xs ys:List Nat) (s:Int) (h1:ry na xs=s) (h2:ry nb ys=s):s*bF (val xs) (val ys)=bF (aN na xs) (aN nb ys):=by
 subst h1;unfold ry aN bF at *;cases na<;>cases nb<;>by_cases h1:val xs=0<;>by_cases h3:val ys=0<;>simp_all <;>(repeat' split)<;>omega
theorem IP {o:Int} {A B:Option Addr} {n m c d:Nat} {xs ys:List Nat} (ho:bF (val xs) (val ys)=o) (W:World) (h1:bc W A n c (trim xs)) (h2:bc W B m d (trim ys)):Calls Tryz.prog 235 #[.slice A n c, .slice B m d] W (H0 o W):=by
 have:=fj A B n m c d (trim xs) (trim ys) W h1 h2;rw[kp,ho]at this;exact this.mono fun _ _ ⟨he,q,hq⟩=>⟨he,hq ▸ bW _ q⟩
theorem RO (va vb:Value) (na nb:Bool) (xs ys:List Nat) (w:World) (ha:dh w va na xs) (hb:dh w vb nb ys):
 Calls Tryz.prog 175 #[va,vb] w (H0 (bF (aN na xs) (aN nb ys)) w):=by
 obtain⟨A,n,c,rfl,hx⟩:=ha;obtain⟨B,m,d,rfl,hy⟩:=hb;obtain⟨W,hW⟩:∃W,W=(w.alloc (.cells #[.bool na, .slice A n c] 36)).alloc (.cells #[.bool nb, .slice B m d] 36):=⟨_,rfl⟩;obtain⟨⟨ca0,ca1,cb0,cb1⟩,hbW⟩:=IA w _ _ _ _ _ W hW;have hH:=TD ⟨ca0,ca1,cb0,cb1,hbW⟩ (Below.drew (Below.refl _ _));have hne:=Oc na nb xs ys;have heq:=O6 na nb xs ys;have hr1:=Dn na xs;have hs1:=fun W' h=>zt (.agg #[.bool na, .slice A n c]) na xs W' h
 have hs2:=fun W' h=>zt (.agg #[.bool nb, .slice B m d]) nb ys W' h
 obtain⟨s,hs⟩:∃s,s=ry na xs:=⟨_,rfl⟩;obtain⟨t,ht⟩:∃t,t=ry nb ys:=⟨_,rfl⟩;obtain⟨z,hz⟩:∃z,z=bF (aN na xs) (aN nb ys):=⟨_,rfl⟩;rw[<- hz];rw[<- hs]at hs1;rw[<- ht]at hs2;rw[<- hs,<- ht,<- hz]at hne;rw[<- hs]at hr1;have Hx:=Lib.hid hx;have Hy:=Lib.hid hy;have Hs1:=Lib.hid hs1;have Hs2:=Lib.hid hs2;have Hne:=Lib.hid hne
 by_cases hst:s=t
 ·subst hst
  have hz':=heq s hs.symm ht.symm;obtain⟨o,ho⟩:∃o,bF (val xs) (val ys)=o:=⟨_,rfl⟩;rw[ho,<- hz]at hz';have Hcmp:=Lib.hid (IP (A:=A) (B:=B) (n:=(trim xs).length) (m:=(trim ys).length) (c:=c) (d:=d) ho);have hob:=ze (val xs) (val ys);rw[ho]at hob;clear hx hy hs1 hs2 hne heq hs ht hz ho;rcases hr1 with rfl|rfl|rfl
  all_goals(
   have hzz:z=_:=hz'.symm;clear hz';have Hzz:=Lib.hid hzz;clear hzz
   go_enter func175,ntmps175
   go_wp2_with fail
   rw[<- hW];clear hW
   go_region_held3 (fun w'=>w'.cell? ⟨w.heap.size,0,none⟩=some (.bool na)/\w'.cell? ⟨w.heap.size,1,none⟩=some (.slice A n c)/\w'.cell? ⟨w.heap.size+1,0,none⟩=some (.bool nb)/\w'.cell? ⟨w.heap.size+1,1,none⟩=some (.slice B m d)/\bw w w')
    (with_reducible first|exact hH|assumption|exact TD (by assumption) (by assumption))
    (first
     |((go_at_call 136;(with_reducible refine(Hs1.out _ (jQ Hx.out (dP (by assumption)))).mono ?_);rintro e w1 ⟨rfl,hb1⟩;have hH1:=TD hH hb1))
     |((go_at_call 136;(with_reducible refine(Hs2.out _ (jQ Hy.out (dP hH1))).mono ?_);rintro e w2 ⟨rfl,hb2⟩;have hH2:=TD hH1 hb2)))
   have hH3:=TD hH2 (Below.drew (Below.refl _ _));clear hH1
   go_wp2_with fail
   go_region_held3 (fun w'=>w'.cell? ⟨w.heap.size,0,none⟩=some (.bool na)/\w'.cell? ⟨w.heap.size,1,none⟩=some (.slice A n c)/\w'.cell? ⟨w.heap.size+1,0,none⟩=some (.bool nb)/\w'.cell? ⟨w.heap.size+1,1,none⟩=some (.slice B m d)/\bw w w')
    (with_reducible first|exact hH3|assumption|exact TD (by assumption) (bW _ _)|exact TD (by assumption) (by assumption))
    (first
     |((go_at_call 194;(with_reducible refine(bv A n c xs _ (Hx.out.ext (dP hH3))).mono ?_);rintro e w' ⟨rfl,rfl⟩))
     |((go_at_call 194;(with_reducible refine(bv B m d ys _ (Hy.out.ext (dP hH3))).mono ?_);rintro e w' ⟨rfl,rfl⟩))
     |((go_at_call 235;(with_reducible refine(Hcmp.out _ (Hx.out.trim.ext (dP hH3)) (Hy.out.trim.ext (dP hH3))).mono ?_);rintro e w3 ⟨rfl,hb3⟩;have hE3:=dP (TD hH3 hb3))))
   go_wp2_with fail
   go_ret
   refine⟨Gf ?_,hE3⟩;have:=Hzz.out
   first|omega|(rw[IntWalk.i64_in _ (by omega)];omega))
 ·have hz':=hne hst
  have Hz:=Lib.hid hz';have hst':(s == t)=false:=by simpa using hst
  clear hx hy hs1 hs2 hne heq hs ht hz hst hz' hr1
  go_enter func175,ntmps175
  go_wp2_with fail
  rw[<- hW];clear hW
  go_region_held3 (fun w'=>w'.cell? ⟨w.heap.size,0,none⟩=some (.bool na)/\w'.cell? ⟨w.heap.size,1,none⟩=some (.slice A n c)/\w'.cell? ⟨w.heap.size+1,0,none⟩=some (.bool nb)/\w'.cell? ⟨w.heap.size+1,1,none⟩=some (.slice B m d)/\bw w w')
   (with_reducible first|exact hH|assumption|exact TD (by assumption) (by assumption))
   (first
    |((go_at_call 136;(with_reducible refine(Hs1.out _ (jQ Hx.out (dP (by assumption)))).mono ?_);rintro e w1 ⟨rfl,hb1⟩;have hH1:=TD hH hb1))
    |((go_at_call 136;(with_reducible refine(Hs2.out _ (jQ Hy.out (dP hH1))).mono ?_);rintro e w2 ⟨rfl,hb2⟩;have hH2:=TD hH1 hb2)))
  go_wp2_with (go_at_call 234;(with_reducible refine(oz s t _).mono ?_);rintro e w' ⟨rfl,rfl⟩)
  go_ret
  exact⟨Gf Hz.out,dP hH2⟩
end
section
attribute [local go_sem ↓] Go.wp_at_zero Go.wp_at_succ
theorem OX (w:World) (a0 a1:Value) (t:TypeId) (W:World) (hW:W=w.alloc (.cells #[a0,a1] t)):
 (W.cell? ⟨w.heap.size,0,none⟩=some a0/\W.cell? ⟨w.heap.size,1,none⟩=some a1)/\(W.frozen? ⟨w.heap.size,0,none⟩=false/\W.frozen? ⟨w.heap.size,1,none⟩=false)/\bw w W:=by
 refine⟨?_,?_,by rw[hW];exact(bw.refl w).alloc _⟩
 ·subst hW;simp[go_sem]
 ·subst hW;simp[go_sem]
end
end Go.Proofs.YtnchbpoopnjghaaGreatDoor
