/- Add of the program. Cmp of the program; Sign, Add, Sub and Cmp of the reference. Sign, Add, Sub and Cmp of the reference. Sub and Cmp of the reference; the sums' law. -/
import Derived.Test.YtikbnnljjeefgaaGreatDoorXAi
set_option maxHeartbeats 100000000
set_option linter.all false
open Go.Proofs.Tryz
namespace Go.Proofs.YtikbnnljjeefgaaGreatDoor
open Go.RowKit
section
attribute [local go_sem ↓] Go.wp_at_zero Go.wp_at_succ
theorem dM {W w:World} {p1 p2 p3 p4:Addr} {v1 v2 v3 v4:Value} (h:w.cell? p1=some v1∧w.cell? p2=some v2∧w.cell? p3=some v3∧w.cell? p4=some v4∧aK W w):aK W w:=h.2.2.2.2
theorem yd (na:Bool) (xs ys zs:List Nat) (h:val zs=val xs+val ys):ak na zs=ak na xs+ak na ys:=by
 unfold ak;rw[h];cases na<;>simp;omega
theorem yE (na:Bool) (xs ys:List Nat) (h:val xs<val ys):ak (!na) (digs (val (trim ys)-val (trim xs)))=ak na xs+ak (!na) ys:=by
 unfold ak;rw[af,aM,aM];cases na<;>simp <;>omega
theorem yn (na:Bool) (xs ys:List Nat) (h:val ys≤val xs):ak na (digs (val (trim xs)-val (trim ys)))=ak na xs+ak (!na) ys:=by
 unfold ak;rw[af,aM,aM];cases na<;>simp <;>omega
theorem lH {na nb:Bool} (h:nb≠na):nb=!na:=by cases na<;>cases nb<;>simp_all
theorem lP (xs ys:List Nat):im (trim xs) (trim ys)=bK (val xs) (val ys):=jt _ _
theorem D9 (va vb:Value) (na nb:Bool) (xs ys:List Nat) (w:World) (ha:bI w va na xs) (hb:bI w vb nb ys) (h1:xs.length≤2147483648) (h2:ys.length≤2147483648) (hn:na=nb) (z:Int) (hz:z=ak na xs+ak nb ys):
 Calls Tryz.prog 232 #[va,vb] w (bZ z w):=by
 obtain⟨A,n,c,rfl,hx⟩:=ha;obtain⟨B,m,d,rfl,hy⟩:=hb;subst hn;obtain⟨W,hW⟩:∃W,W=((w.alloc (.cells #[.bool na, .slice A n c] 24)).alloc (.cells #[.bool na, .slice B m d] 24)).alloc (.cells #[.bool false, .slice none 0 0] 24):=⟨_,rfl⟩;obtain⟨⟨ca0,ca1,cb0,cb1⟩,⟨cr0,cr1,fr0,fr1⟩,hbW⟩:=ia w _ _ _ _ _ _ _ W hW;have hl1:=bW hx.wd h1;have hl2:=bW hy.wd h2;have Hx:=Lib.hid hx;have Hy:=Lib.hid hy;have hH:=bR ⟨ca0,ca1,cb0,cb1,hbW⟩ (Below.drew (Below.refl _ _));have hcmp:=fun W' (h1:ay W' A (trim xs).length c (trim xs)) (h2:ay W' B (trim ys).length d (trim ys))=>gh A B (trim xs).length (trim ys).length c d (trim xs) (trim ys) W' h1 h2
 rw[lP]at hcmp;obtain⟨o,ho⟩:∃o,o=bK (val xs) (val ys):=⟨_,rfl⟩;rw[← ho]at hcmp;have HZ:Hid (∀zs,val zs=val (trim xs)+val (trim ys)→ak na zs=z):=fun zs hzs=>(yd na xs ys zs (by rw[hzs,aM,aM])).trans hz.symm
 have Hcmp:=Lib.hid hcmp;have Ho:=Lib.hid ho;have ho1:True:=trivial;have hb0:(na == !na)=false:=by cases na<;>rfl
 clear hx hy hz hcmp ho
 go_enter func232,ntmps232
 go_wp2_with fail
 rw[← hW];clear hW
 go_region_held3 (fun w'=>w'.cell? ⟨w.heap.size,0,none⟩=some (.bool na)∧w'.cell? ⟨w.heap.size,1,none⟩=some (.slice A n c)∧w'.cell? ⟨w.heap.size+1,0,none⟩=some (.bool na)∧w'.cell? ⟨w.heap.size+1,1,none⟩=some (.slice B m d)∧aK w w')
  (with_reducible first|exact hH|assumption|exact bR (by assumption) (by assumption))
  (first
   |((go_at_call 137;(with_reducible refine(bA A n c xs _ (Hx.out.ext (dM (by assumption)))).mono ?_);rintro e w' ⟨rfl,rfl⟩))
   |((go_at_call 137;(with_reducible refine(bA B m d ys _ (Hy.out.ext (dM (by assumption)))).mono ?_);rintro e w' ⟨rfl,rfl⟩)))
 obtain⟨W1,hW1⟩:∃W1,W1=W.drew:=⟨_,rfl⟩;rw[← hW1]at hH ⊢;have hEc:aK W W1:=by rw[hW1];exact(aK.refl W).drew
 have hH':=hH;obtain⟨d0,d1,e0,e1,hE1⟩:=hH';clear hW1
 go_wp2_with (go_at_call 136;(with_reducible refine(Hcmp.out _ (Hx.out.trim.ext hE1) (Hy.out.trim.ext hE1)).mono ?_);rintro e w2 ⟨rfl,q,rfl⟩;have hH:=bR hH (bH _ q);have hEc:=hEc.trans (bH _ q))
 skip
 have hH2:=bR hH (Below.drew (Below.refl _ _));have hEd:=aK.drew hEc;clear d0 d1 e0 e1 hE1 Hcmp hH hEc
 go_region_held3 (fun w'=>w'.cell? ⟨w.heap.size,0,none⟩=some (.bool na)∧w'.cell? ⟨w.heap.size,1,none⟩=some (.slice A n c)∧w'.cell? ⟨w.heap.size+1,0,none⟩=some (.bool na)∧w'.cell? ⟨w.heap.size+1,1,none⟩=some (.slice B m d)∧aK w w')
  (with_reducible first|exact hH2|assumption|exact bR (by assumption) (by assumption)|exact jE (by assumption) (by omega) (by dsimp only;omega) (by dsimp only;omega) (by dsimp only;omega) (by dsimp only;omega))
  (first
   |((go_at_call 206;(with_reducible refine(CO _ _ _ _ _ _ (trim xs) (trim ys) _ (Hx.out.trim.ext (dM (by assumption))) (Hy.out.trim.ext (dM (by assumption))) hl1 hl2).mono ?_);rintro e w1 ⟨A1,n1,c1,zs,rfl,hw1,⟨hzs,-⟩,hb1⟩;have hzz:=HZ.out zs hzs))
   |((go_at_call 133;(with_reducible refine(bM hw1 hzz).mono ?_);rintro e w2 ⟨v2,rfl,⟨A2,n2,c2,rfl,hw2⟩,hb2⟩;have hE2:=aK.more (aK.more hEd hb1) hb2;have su0:=kc cr0 hE2;have su1:=kc cr1 hE2;have sf0:=kf cr0 fr0 hE2;have sf1:=kf cr1 fr1 hE2)))
 go_wp2_with fail
 exact bodyPost_ret (v:= .agg #[.bool (decide (z<0)), .slice A2 n2 c2]) (by simp[results,results232,go_sem,su0,su1]) rfl (eG su0 su1 hw2 (hbW.trans hE2) (by omega))
theorem DU (va vb:Value) (na nb:Bool) (xs ys:List Nat) (w:World) (ha:bI w va na xs) (hb:bI w vb nb ys) (h1:xs.length≤2147483648) (h2:ys.length≤2147483648) (hn:nb=!na) (hl:val xs<val ys) (z:Int) (hz:z=ak na xs+ak nb ys):
 Calls Tryz.prog 232 #[va,vb] w (bZ z w):=by
 obtain⟨A,n,c,rfl,hx⟩:=ha;obtain⟨B,m,d,rfl,hy⟩:=hb;subst hn;obtain⟨W,hW⟩:∃W,W=((w.alloc (.cells #[.bool na, .slice A n c] 24)).alloc (.cells #[.bool (!na), .slice B m d] 24)).alloc (.cells #[.bool false, .slice none 0 0] 24):=⟨_,rfl⟩;obtain⟨⟨ca0,ca1,cb0,cb1⟩,⟨cr0,cr1,fr0,fr1⟩,hbW⟩:=ia w _ _ _ _ _ _ _ W hW;have hl1:=bW hx.wd h1;have hl2:=bW hy.wd h2;have Hx:=Lib.hid hx;have Hy:=Lib.hid hy;have hH:=bR ⟨ca0,ca1,cb0,cb1,hbW⟩ (Below.drew (Below.refl _ _));have hcmp:=fun W' (h1:ay W' A (trim xs).length c (trim xs)) (h2:ay W' B (trim ys).length d (trim ys))=>gh A B (trim xs).length (trim ys).length c d (trim xs) (trim ys) W' h1 h2
 rw[lP]at hcmp;obtain⟨o,ho⟩:∃o,o=bK (val xs) (val ys):=⟨_,rfl⟩;rw[← ho]at hcmp;have HZ:Hid (ak (!na) (digs (val (trim ys)-val (trim xs)))=z):=(yE na xs ys hl).trans hz.symm;have Hcmp:=Lib.hid hcmp;have Ho:=Lib.hid ho;have HM:=Lib.hid (fun W' h1 h2=>tW B A (trim ys).length (trim xs).length d c (trim ys) (trim xs) W' h1 h2 (by have h3:=aM xs;have h4:=aM ys;omega) hl2);have ho1:o<0:=by have:=ft (a:=(val xs:Int)) (b:=val ys) (by omega);omega
 have hb0:(na == !na)=false:=by cases na<;>rfl
 clear hx hy hz hcmp ho
 go_enter func232,ntmps232
 go_wp2_with fail
 rw[← hW];clear hW
 go_region_held3 (fun w'=>w'.cell? ⟨w.heap.size,0,none⟩=some (.bool na)∧w'.cell? ⟨w.heap.size,1,none⟩=some (.slice A n c)∧w'.cell? ⟨w.heap.size+1,0,none⟩=some (.bool (!na))∧w'.cell? ⟨w.heap.size+1,1,none⟩=some (.slice B m d)∧aK w w')
  (with_reducible first|exact hH|assumption|exact bR (by assumption) (by assumption))
  (first
   |((go_at_call 137;(with_reducible refine(bA A n c xs _ (Hx.out.ext (dM (by assumption)))).mono ?_);rintro e w' ⟨rfl,rfl⟩))
   |((go_at_call 137;(with_reducible refine(bA B m d ys _ (Hy.out.ext (dM (by assumption)))).mono ?_);rintro e w' ⟨rfl,rfl⟩)))
 obtain⟨W1,hW1⟩:∃W1,W1=W.drew:=⟨_,rfl⟩;rw[← hW1]at hH ⊢;have hEc:aK W W1:=by rw[hW1];exact(aK.refl W).drew
 have hH':=hH;obtain⟨d0,d1,e0,e1,hE1⟩:=hH';clear hW1
 go_wp2_with (go_at_call 136;(with_reducible refine(Hcmp.out _ (Hx.out.trim.ext hE1) (Hy.out.trim.ext hE1)).mono ?_);rintro e w2 ⟨rfl,q,rfl⟩;have hH:=bR hH (bH _ q);have hEc:=hEc.trans (bH _ q))
 generalize W1.drewN q=W2 at *;have hH2:=bR hH (Below.drew (Below.refl _ _));have hEd:=aK.drew hEc;clear d0 d1 e0 e1 hE1 Hcmp hH hEc
 go_region_held3 (fun w'=>w'.cell? ⟨w.heap.size,0,none⟩=some (.bool na)∧w'.cell? ⟨w.heap.size,1,none⟩=some (.slice A n c)∧w'.cell? ⟨w.heap.size+1,0,none⟩=some (.bool (!na))∧w'.cell? ⟨w.heap.size+1,1,none⟩=some (.slice B m d)∧aK w w')
  (with_reducible first|exact hH2|assumption|exact bR (by assumption) (by assumption)|exact jE (by assumption) (by omega) (by dsimp only;omega) (by dsimp only;omega) (by dsimp only;omega) (by dsimp only;omega))
  (first
   |((go_at_call 207;(with_reducible refine(HM.out _ (Hy.out.trim.ext (dM (by assumption))) (Hx.out.trim.ext (dM (by assumption)))).mono ?_);rintro e w1 ⟨A1,n1,c1,zs,rfl,hw1,rfl,hb1⟩;have hzz:=HZ.out))
   |((go_at_call 133;(with_reducible refine(bM hw1 hzz).mono ?_);rintro e w2 ⟨v2,rfl,⟨A2,n2,c2,rfl,hw2⟩,hb2⟩;have hE2:=aK.more (aK.more hEd hb1) hb2;have su0:=kc cr0 hE2;have su1:=kc cr1 hE2;have sf0:=kf cr0 fr0 hE2;have sf1:=kf cr1 fr1 hE2)))
 go_wp2_with fail
 exact bodyPost_ret (v:= .agg #[.bool (decide (z<0)), .slice A2 n2 c2]) (by simp[results,results232,go_sem,su0,su1]) rfl (eG su0 su1 hw2 (hbW.trans hE2) (by omega))
theorem CS (va vb:Value) (na nb:Bool) (xs ys:List Nat) (w:World) (ha:bI w va na xs) (hb:bI w vb nb ys) (h1:xs.length≤2147483648) (h2:ys.length≤2147483648) (hn:nb=!na) (hl:val ys≤val xs) (z:Int) (hz:z=ak na xs+ak nb ys):
 Calls Tryz.prog 232 #[va,vb] w (bZ z w):=by
 obtain⟨A,n,c,rfl,hx⟩:=ha;obtain⟨B,m,d,rfl,hy⟩:=hb;subst hn;obtain⟨W,hW⟩:∃W,W=((w.alloc (.cells #[.bool na, .slice A n c] 24)).alloc (.cells #[.bool (!na), .slice B m d] 24)).alloc (.cells #[.bool false, .slice none 0 0] 24):=⟨_,rfl⟩;obtain⟨⟨ca0,ca1,cb0,cb1⟩,⟨cr0,cr1,fr0,fr1⟩,hbW⟩:=ia w _ _ _ _ _ _ _ W hW;have hl1:=bW hx.wd h1;have hl2:=bW hy.wd h2;have Hx:=Lib.hid hx;have Hy:=Lib.hid hy;have hH:=bR ⟨ca0,ca1,cb0,cb1,hbW⟩ (Below.drew (Below.refl _ _));have hcmp:=fun W' (h1:ay W' A (trim xs).length c (trim xs)) (h2:ay W' B (trim ys).length d (trim ys))=>gh A B (trim xs).length (trim ys).length c d (trim xs) (trim ys) W' h1 h2
 rw[lP]at hcmp;obtain⟨o,ho⟩:∃o,o=bK (val xs) (val ys):=⟨_,rfl⟩;rw[← ho]at hcmp;have HZ:Hid (ak na (digs (val (trim xs)-val (trim ys)))=z):=(yn na xs ys hl).trans hz.symm;have Hcmp:=Lib.hid hcmp;have Ho:=Lib.hid ho;have HM:=Lib.hid (fun W' h1 h2=>tW A B (trim xs).length (trim ys).length c d (trim xs) (trim ys) W' h1 h2 (by have h3:=aM xs;have h4:=aM ys;omega) hl1);have ho1:¬o<0:=by have:=gT (a:=(val xs:Int)) (b:=val ys) (by omega);omega
 have hb0:(na == !na)=false:=by cases na<;>rfl
 clear hx hy hz hcmp ho
 go_enter func232,ntmps232
 go_wp2_with fail
 rw[← hW];clear hW
 go_region_held3 (fun w'=>w'.cell? ⟨w.heap.size,0,none⟩=some (.bool na)∧w'.cell? ⟨w.heap.size,1,none⟩=some (.slice A n c)∧w'.cell? ⟨w.heap.size+1,0,none⟩=some (.bool (!na))∧w'.cell? ⟨w.heap.size+1,1,none⟩=some (.slice B m d)∧aK w w')
  (with_reducible first|exact hH|assumption|exact bR (by assumption) (by assumption))
  (first
   |((go_at_call 137;(with_reducible refine(bA A n c xs _ (Hx.out.ext (dM (by assumption)))).mono ?_);rintro e w' ⟨rfl,rfl⟩))
   |((go_at_call 137;(with_reducible refine(bA B m d ys _ (Hy.out.ext (dM (by assumption)))).mono ?_);rintro e w' ⟨rfl,rfl⟩)))
 obtain⟨W1,hW1⟩:∃W1,W1=W.drew:=⟨_,rfl⟩;rw[← hW1]at hH ⊢;have hEc:aK W W1:=by rw[hW1];exact(aK.refl W).drew
 have hH':=hH;obtain⟨d0,d1,e0,e1,hE1⟩:=hH';clear hW1
 go_wp2_with (go_at_call 136;(with_reducible refine(Hcmp.out _ (Hx.out.trim.ext hE1) (Hy.out.trim.ext hE1)).mono ?_);rintro e w2 ⟨rfl,q,rfl⟩;have hH:=bR hH (bH _ q);have hEc:=hEc.trans (bH _ q))
 generalize W1.drewN q=W2 at *;have hH2:=bR hH (Below.drew (Below.refl _ _));have hEd:=aK.drew hEc;clear d0 d1 e0 e1 hE1 Hcmp hH hEc
 go_region_held3 (fun w'=>w'.cell? ⟨w.heap.size,0,none⟩=some (.bool na)∧w'.cell? ⟨w.heap.size,1,none⟩=some (.slice A n c)∧w'.cell? ⟨w.heap.size+1,0,none⟩=some (.bool (!na))∧w'.cell? ⟨w.heap.size+1,1,none⟩=some (.slice B m d)∧aK w w')
  (with_reducible first|exact hH2|assumption|exact bR (by assumption) (by assumption)|exact jE (by assumption) (by omega) (by dsimp only;omega) (by dsimp only;omega) (by dsimp only;omega) (by dsimp only;omega))
  (first
   |((go_at_call 207;(with_reducible refine(HM.out _ (Hx.out.trim.ext (dM (by assumption))) (Hy.out.trim.ext (dM (by assumption)))).mono ?_);rintro e w1 ⟨A1,n1,c1,zs,rfl,hw1,rfl,hb1⟩;have hzz:=HZ.out))
   |((go_at_call 133;(with_reducible refine(bM hw1 hzz).mono ?_);rintro e w2 ⟨v2,rfl,⟨A2,n2,c2,rfl,hw2⟩,hb2⟩;have hE2:=aK.more (aK.more hEd hb1) hb2;have su0:=kc cr0 hE2;have su1:=kc cr1 hE2;have sf0:=kf cr0 fr0 hE2;have sf1:=kf cr1 fr1 hE2)))
 go_wp2_with fail
 exact bodyPost_ret (v:= .agg #[.bool (decide (z<0)), .slice A2 n2 c2]) (by simp[results,results232,go_sem,su0,su1]) rfl (eG su0 su1 hw2 (hbW.trans hE2) (by omega))
theorem Jb (va vb:Value) (na nb:Bool) (xs ys:List Nat) (w:World) (ha:bI w va na xs) (hb:bI w vb nb ys) (h1:xs.length≤2147483648) (h2:ys.length≤2147483648):
 Calls Tryz.prog 232 #[va,vb] w (bZ (ak na xs+ak nb ys) w):=by
 by_cases hn:nb=na
 ·exact D9 va vb na nb xs ys w ha hb h1 h2 hn.symm _ rfl
 ·by_cases hl:val xs<val ys
  ·exact DU va vb na nb xs ys w ha hb h1 h2 (lH hn) hl _ rfl
  ·exact CS va vb na nb xs ys w ha hb h1 h2 (lH hn) (by omega) _ rfl
end
section
attribute [local go_sem ↓] Go.wp_at_zero Go.wp_at_succ
theorem BY (na:Bool) (xs:List Nat):qr na xs= -1∨qr na xs=0∨qr na xs=1:=by unfold qr;split <;>(try split)<;>simp
theorem G1 (na nb:Bool) (xs ys:List Nat) (h:qr na xs≠qr nb ys):bK (qr na xs) (qr nb ys)=bK (ak na xs) (ak nb ys):=by
 unfold qr ak bK at *;cases na<;>cases nb<;>by_cases h1:val xs=0<;>by_cases h2:val ys=0<;>simp_all <;>(repeat' split)<;>omega
theorem H5 (na nb:Bool) (xs ys:List Nat) (s:Int) (h1:qr na xs=s) (h2:qr nb ys=s):s*bK (val xs) (val ys)=bK (ak na xs) (ak nb ys):=by
 subst h1;unfold qr ak bK at *;cases na<;>cases nb<;>by_cases h1:val xs=0<;>by_cases h3:val ys=0<;>simp_all <;>(repeat' split)<;>omega
theorem Ea {o:Int} {A B:Option Addr} {n m c d:Nat} {xs ys:List Nat} (ho:bK (val xs) (val ys)=o) (W:World) (h1:ay W A n c (trim xs)) (h2:ay W B m d (trim ys)):Calls Tryz.prog 136 #[.slice A n c, .slice B m d] W (qV o W):=by
 have:=gh A B n m c d (trim xs) (trim ys) W h1 h2;rw[lP,ho]at this;exact this.mono fun _ _ ⟨he,q,hq⟩=>⟨he,hq ▸ bH _ q⟩
theorem IK (va vb:Value) (na nb:Bool) (xs ys:List Nat) (w:World) (ha:bI w va na xs) (hb:bI w vb nb ys):
 Calls Tryz.prog 90 #[va,vb] w (qV (bK (ak na xs) (ak nb ys)) w):=by
 obtain⟨A,n,c,rfl,hx⟩:=ha;obtain⟨B,m,d,rfl,hy⟩:=hb;obtain⟨W,hW⟩:∃W,W=(w.alloc (.cells #[.bool na, .slice A n c] 24)).alloc (.cells #[.bool nb, .slice B m d] 24):=⟨_,rfl⟩;obtain⟨⟨ca0,ca1,cb0,cb1⟩,hbW⟩:=vY w _ _ _ _ _ W hW;have hH:=bR ⟨ca0,ca1,cb0,cb1,hbW⟩ (Below.drew (Below.refl _ _));have hne:=G1 na nb xs ys;have heq:=H5 na nb xs ys;have hr1:=BY na xs;have hs1:=fun W' h=>x9 (.agg #[.bool na, .slice A n c]) na xs W' h
 have hs2:=fun W' h=>x9 (.agg #[.bool nb, .slice B m d]) nb ys W' h
 obtain⟨s,hs⟩:∃s,s=qr na xs:=⟨_,rfl⟩;obtain⟨t,ht⟩:∃t,t=qr nb ys:=⟨_,rfl⟩;obtain⟨z,hz⟩:∃z,z=bK (ak na xs) (ak nb ys):=⟨_,rfl⟩;rw[← hz];rw[← hs]at hs1;rw[← ht]at hs2;rw[← hs,← ht,← hz]at hne;rw[← hs]at hr1;have Hx:=Lib.hid hx;have Hy:=Lib.hid hy;have Hs1:=Lib.hid hs1;have Hs2:=Lib.hid hs2;have Hne:=Lib.hid hne
 by_cases hst:s=t
 ·subst hst
  have hz':=heq s hs.symm ht.symm;obtain⟨o,ho⟩:∃o,bK (val xs) (val ys)=o:=⟨_,rfl⟩;rw[ho,← hz]at hz';have Hcmp:=Lib.hid (Ea (A:=A) (B:=B) (n:=(trim xs).length) (m:=(trim ys).length) (c:=c) (d:=d) ho);have hob:=yi (val xs) (val ys);rw[ho]at hob;clear hx hy hs1 hs2 hne heq hs ht hz ho;rcases hr1 with rfl|rfl|rfl
  all_goals(
   have hzz:z=_:=hz'.symm;clear hz';have Hzz:=Lib.hid hzz;clear hzz
   go_enter func90,ntmps90
   go_wp2_with fail
   rw[← hW];clear hW
   go_region_held3 (fun w'=>w'.cell? ⟨w.heap.size,0,none⟩=some (.bool na)∧w'.cell? ⟨w.heap.size,1,none⟩=some (.slice A n c)∧w'.cell? ⟨w.heap.size+1,0,none⟩=some (.bool nb)∧w'.cell? ⟨w.heap.size+1,1,none⟩=some (.slice B m d)∧aK w w')
    (with_reducible first|exact hH|assumption|exact bR (by assumption) (by assumption))
    (first
     |((go_at_call 129;(with_reducible refine(Hs1.out _ (cI Hx.out (dM (by assumption)))).mono ?_);rintro e w1 ⟨rfl,hb1⟩;have hH1:=bR hH hb1))
     |((go_at_call 129;(with_reducible refine(Hs2.out _ (cI Hy.out (dM hH1))).mono ?_);rintro e w2 ⟨rfl,hb2⟩;have hH2:=bR hH1 hb2)))
   have hH3:=bR hH2 (Below.drew (Below.refl _ _));clear hH1
   go_wp2_with fail
   go_region_held3 (fun w'=>w'.cell? ⟨w.heap.size,0,none⟩=some (.bool na)∧w'.cell? ⟨w.heap.size,1,none⟩=some (.slice A n c)∧w'.cell? ⟨w.heap.size+1,0,none⟩=some (.bool nb)∧w'.cell? ⟨w.heap.size+1,1,none⟩=some (.slice B m d)∧aK w w')
    (with_reducible first|exact hH3|assumption|exact bR (by assumption) (bH _ _)|exact bR (by assumption) (by assumption))
    (first
     |((go_at_call 137;(with_reducible refine(bA A n c xs _ (Hx.out.ext (dM hH3))).mono ?_);rintro e w' ⟨rfl,rfl⟩))
     |((go_at_call 137;(with_reducible refine(bA B m d ys _ (Hy.out.ext (dM hH3))).mono ?_);rintro e w' ⟨rfl,rfl⟩))
     |((go_at_call 136;(with_reducible refine(Hcmp.out _ (Hx.out.trim.ext (dM hH3)) (Hy.out.trim.ext (dM hH3))).mono ?_);rintro e w3 ⟨rfl,hb3⟩;have hE3:=dM (bR hH3 hb3))))
   go_wp2_with fail
   go_ret
   refine⟨zM ?_,hE3⟩;have:=Hzz.out
   first|omega|(rw[IntWalk.i64_in _ (by omega)];omega))
 ·have hz':=hne hst
  have Hz:=Lib.hid hz';have hst':(s == t)=false:=by simpa using hst
  clear hx hy hs1 hs2 hne heq hs ht hz hst hz' hr1
  go_enter func90,ntmps90
  go_wp2_with fail
  rw[← hW];clear hW
  go_region_held3 (fun w'=>w'.cell? ⟨w.heap.size,0,none⟩=some (.bool na)∧w'.cell? ⟨w.heap.size,1,none⟩=some (.slice A n c)∧w'.cell? ⟨w.heap.size+1,0,none⟩=some (.bool nb)∧w'.cell? ⟨w.heap.size+1,1,none⟩=some (.slice B m d)∧aK w w')
   (with_reducible first|exact hH|assumption|exact bR (by assumption) (by assumption))
   (first
    |((go_at_call 129;(with_reducible refine(Hs1.out _ (cI Hx.out (dM (by assumption)))).mono ?_);rintro e w1 ⟨rfl,hb1⟩;have hH1:=bR hH hb1))
    |((go_at_call 129;(with_reducible refine(Hs2.out _ (cI Hy.out (dM hH1))).mono ?_);rintro e w2 ⟨rfl,hb2⟩;have hH2:=bR hH1 hb2)))
  go_wp2_with (go_at_call 135;(with_reducible refine(o0 s t _).mono ?_);rintro e w' ⟨rfl,rfl⟩)
  go_ret
  exact⟨zM Hz.out,dM hH2⟩
end
section
attribute [local go_sem ↓] Go.wp_at_zero Go.wp_at_succ
theorem rY (w:World) (a0 a1:Value) (t:TypeId) (W:World) (hW:W=w.alloc (.cells #[a0,a1] t)):
 (W.cell? ⟨w.heap.size,0,none⟩=some a0∧W.cell? ⟨w.heap.size,1,none⟩=some a1)∧(W.frozen? ⟨w.heap.size,0,none⟩=false∧W.frozen? ⟨w.heap.size,1,none⟩=false)∧aK w W:=by
 refine⟨?_,?_,by rw[hW];exact(aK.refl w).alloc _⟩
 ·subst hW;simp[go_sem]
 ·subst hW;simp[go_sem]
theorem uS (va:Value) (na:Bool) (xs:List Nat) (w:World) (ha:bI w va na xs) (hz:ak na xs=0):
 Calls Tryz.prog 96 #[va] w (qV (0) w):=by
 obtain⟨A,n,c,rfl,hx⟩:=ha;obtain⟨W,hW⟩:∃W,W=w.alloc (.cells #[.bool na, .slice A n c] 24):=⟨_,rfl⟩;obtain⟨⟨ca0,ca1⟩,⟨fa0,fa1⟩,hbW⟩:=rY w _ _ _ W hW;have hc:=eF _ na xs W (uT (hx.ext hbW));obtain⟨z,hzz⟩:∃z,ak na xs=z:=⟨_,rfl⟩;rw[hzz]at hz hc;have hd:decide (z<0)=false:=by simp;omega
 have Hc:=Lib.hid hc;have Hd:=Lib.hid hd;have Hz:=Lib.hid hz;clear hx hc hd hz hzz
 go_enter func96,ntmps96
 go_wp2_with fail
 rw[← hW];clear hW
 go_wp2_with (go_at_call 102;(with_reducible refine Hc.out.mono ?_);rintro e w1 ⟨v1,rfl,⟨A1,n1,c1,rfl,hw1⟩,hb1⟩;rw[Hd.out];have hz:=Hz.out;have hn1:=vH hw1 (by omega);subst hn1;clear hz;have su0:=kc ca0 hb1;have su1:=kc ca1 hb1;have sf0:=kf ca0 fa0 hb1;have sf1:=kf ca1 fa1 hb1;have hE1:aK w w1:=hbW.more hb1)
 go_ret
 exact⟨rfl,aK.set2 hE1 (Nat.le_refl _) _ _⟩
theorem vT (va:Value) (na:Bool) (xs:List Nat) (w:World) (ha:bI w va na xs) (hz:ak na xs<0):
 Calls Tryz.prog 96 #[va] w (qV (-1) w):=by
 obtain⟨A,n,c,rfl,hx⟩:=ha;obtain⟨W,hW⟩:∃W,W=w.alloc (.cells #[.bool na, .slice A n c] 24):=⟨_,rfl⟩;obtain⟨⟨ca0,ca1⟩,⟨fa0,fa1⟩,hbW⟩:=rY w _ _ _ W hW;have hc:=eF _ na xs W (uT (hx.ext hbW));obtain⟨z,hzz⟩:∃z,ak na xs=z:=⟨_,rfl⟩;rw[hzz]at hz hc;have hd:decide (z<0)=true:=by simp;omega
 have Hc:=Lib.hid hc;have Hd:=Lib.hid hd;have Hz:=Lib.hid hz;clear hx hc hd hz hzz
 go_enter func96,ntmps96
 go_wp2_with fail
 rw[← hW];clear hW
 go_wp2_with (go_at_call 102;(with_reducible refine Hc.out.mono ?_);rintro e w1 ⟨v1,rfl,⟨A1,n1,c1,rfl,hw1⟩,hb1⟩;rw[Hd.out];have hz:=Hz.out;have hn1:=nz hw1 (by omega);have hn2:((n1:Int) == 0)=false:=(by simp;omega);clear hz;have su0:=kc ca0 hb1;have su1:=kc ca1 hb1;have sf0:=kf ca0 fa0 hb1;have sf1:=kf ca1 fa1 hb1;have hE1:aK w w1:=hbW.more hb1)
 go_ret
 exact⟨rfl,aK.set2 hE1 (Nat.le_refl _) _ _⟩
theorem vJ (va:Value) (na:Bool) (xs:List Nat) (w:World) (ha:bI w va na xs) (hz:0<ak na xs):
 Calls Tryz.prog 96 #[va] w (qV (1) w):=by
 obtain⟨A,n,c,rfl,hx⟩:=ha;obtain⟨W,hW⟩:∃W,W=w.alloc (.cells #[.bool na, .slice A n c] 24):=⟨_,rfl⟩;obtain⟨⟨ca0,ca1⟩,⟨fa0,fa1⟩,hbW⟩:=rY w _ _ _ W hW;have hc:=eF _ na xs W (uT (hx.ext hbW));obtain⟨z,hzz⟩:∃z,ak na xs=z:=⟨_,rfl⟩;rw[hzz]at hz hc;have hd:decide (z<0)=false:=by simp;omega
 have Hc:=Lib.hid hc;have Hd:=Lib.hid hd;have Hz:=Lib.hid hz;clear hx hc hd hz hzz
 go_enter func96,ntmps96
 go_wp2_with fail
 rw[← hW];clear hW
 go_wp2_with (go_at_call 102;(with_reducible refine Hc.out.mono ?_);rintro e w1 ⟨v1,rfl,⟨A1,n1,c1,rfl,hw1⟩,hb1⟩;rw[Hd.out];have hz:=Hz.out;have hn1:=nz hw1 (by omega);have hn2:((n1:Int) == 0)=false:=(by simp;omega);clear hz;have su0:=kc ca0 hb1;have su1:=kc ca1 hb1;have sf0:=kf ca0 fa0 hb1;have sf1:=kf ca1 fa1 hb1;have hE1:aK w w1:=hbW.more hb1)
 go_ret
 exact⟨rfl,aK.set2 hE1 (Nat.le_refl _) _ _⟩
theorem zI (va:Value) (na:Bool) (xs:List Nat) (w:World) (ha:bI w va na xs):
 Calls Tryz.prog 96 #[va] w (qV (ak na xs).sign w):=by
 rcases Int.lt_trichotomy (ak na xs) 0 with h|h|h
 ·rw[Int.sign_eq_neg_one_of_neg h];exact vT va na xs w ha h
 ·rw[h];exact uS va na xs w ha h
 ·rw[Int.sign_eq_one_of_pos h];exact vJ va na xs w ha h
theorem GX (za zb:Int) (h:decide (za<0)=decide (zb<0)):ak (decide (za<0)) (digs (val (digs za.natAbs)+val (digs zb.natAbs)))=za+zb:=by
 unfold ak;rw[af,af,af]
 by_cases h1:za<0<;>by_cases h2:zb<0<;>simp_all <;>omega
theorem Jj (za zb:Int) (h:decide (za<0)≠decide (zb<0)) (hl:zb.natAbs≤za.natAbs):ak (decide (za<0)) (digs (val (digs za.natAbs)-val (digs zb.natAbs)))=za+zb:=by
 unfold ak;rw[af,af,af]
 by_cases h1:za<0<;>by_cases h2:zb<0<;>simp_all <;>omega
theorem IQ (za zb:Int) (h:decide (za<0)≠decide (zb<0)) (hl:za.natAbs<zb.natAbs):ak (decide (zb<0)) (digs (val (digs zb.natAbs)-val (digs za.natAbs)))=za+zb:=by
 unfold ak;rw[af,af,af]
 by_cases h1:za<0<;>by_cases h2:zb<0<;>simp_all <;>omega
theorem gQ {w wx:World} {za zb:Int} (h:jP w za zb wx) {ba bb:Bool} (ha:decide (za<0)=ba) (hb:decide (zb<0)=bb):∃A n c B m d,
 (wx.cell? ⟨w.heap.size,0,none⟩=some (.bool ba)∧wx.cell? ⟨w.heap.size,1,none⟩=some (.slice A n c)∧wx.cell? ⟨w.heap.size+1,0,none⟩=some (.bool bb)∧wx.cell? ⟨w.heap.size+1,1,none⟩=some (.slice B m d)∧aK w wx) ∧
 (wx.cell? ⟨w.heap.size+1+1,0,none⟩=some (.bool false)∧wx.cell? ⟨w.heap.size+1+1,1,none⟩=some (.slice none 0 0)∧wx.frozen? ⟨w.heap.size+1+1,0,none⟩=false∧wx.frozen? ⟨w.heap.size+1+1,1,none⟩=false) ∧
 ay wx A n c (digs za.natAbs)∧ay wx B m d (digs zb.natAbs):=by
 subst ha hb;obtain⟨A,n,c,B,m,d,⟨⟨a0,_⟩,⟨a1,_⟩,⟨a2,_⟩,⟨a3,_⟩,⟨a4,f4⟩,⟨a5,f5⟩⟩,h1,h2,h3⟩:=h;exact⟨A,n,c,B,m,d,⟨a0,a1,a2,a3,h3⟩,⟨a4,a5,f4,f5⟩,h1,h2⟩
theorem wR {o:Int} {A B:Option Addr} {n m c d:Nat} {a b:Nat} (ho:bK a b=o) (W:World) (h1:ay W A n c (digs a)) (h2:ay W B m d (digs b)):Calls Tryz.prog 101 #[.slice A n c, .slice B m d] W (qV o W):=by
 have:=mD A B n m c d (digs a) (digs b) W h1 h2;rw[jt,ho]at this;exact this.mono fun _ _ ⟨he,q,hq⟩=>⟨he,hq ▸ bH _ q⟩
theorem AC (va vb:Value) (na nb ba:Bool) (xs ys:List Nat) (w:World) (ha:bI w va na xs) (hb:bI w vb nb ys) (h1:xs.length≤2147483648) (h2:ys.length≤2147483648) (hba:decide (ak na xs<0)=ba) (hs:decide (ak nb ys<0)=ba):
 Calls Tryz.prog 180 #[va,vb] w (bZ (ak na xs+ak nb ys) w):=by
 obtain⟨A,n,c,rfl,hx⟩:=ha;obtain⟨B,m,d,rfl,hy⟩:=hb;obtain⟨W,hW⟩:∃W,W=((w.alloc (.cells #[.bool na, .slice A n c] 24)).alloc (.cells #[.bool nb, .slice B m d] 24)).alloc (.cells #[.bool false, .slice none 0 0] 24):=⟨_,rfl⟩;obtain⟨hB,hbW⟩:=ic w _ _ _ _ _ _ _ W hW;have hw:aK w W.drew:=hbW.drew;have hB0:=fe hB (aK.refl W).drew;clear hB hbW;have Hx:=Lib.hid hx;have Hy:=Lib.hid hy;have hl1:(digs (ak na xs).natAbs).length≤4294967296:=by rw[bu];exact bW hx.wd h1
 have hl2:(digs (ak nb ys).natAbs).length≤4294967296:=by rw[bu];exact bW hy.wd h2
 obtain⟨o,ho⟩:∃o,bK (ak na xs).natAbs (ak nb ys).natAbs=o:=⟨_,rfl⟩;have ho1:=trivial;have hl:=trivial
 obtain⟨z,hz⟩:∃z,z=ak na xs+ak nb ys:=⟨_,rfl⟩;have hz1:ak ba (digs (val (digs (ak na xs).natAbs)+val (digs (ak nb ys).natAbs)))=z:=(by rw[← hba,hz];exact GX _ _ (hba.trans hs.symm));rw[← hz];have Hz:=Lib.hid hz1;have Hba:=Lib.hid hba;have Hs:=Lib.hid hs;have Ho:=Lib.hid ho;have Hl:=Lib.hid hl;have hb0:(ba == !ba)=false:=by cases ba<;>rfl
 clear hx hy hz hz1 hba hs ho hl
 go_enter func180,ntmps180
 go_wp2_with fail
 rw[← hW];clear hW
 go_cut [5] (fun _ wx=>jP w (ak na xs) (ak nb ys) wx)
 case first=>
  go_region_with (first
   |((go_at_call 102;((with_reducible refine(eF _ na xs _ (cI Hx.out (by assumption))).mono ?_);rintro e w1 ⟨v1,rfl,⟨A1,n1,c1,rfl,hw1⟩,hb1⟩;have hB1:=fe (by assumption) hb1;have hE1:=aK.more (by assumption) hb1)))
   |((go_at_call 102;(with_reducible refine(eF _ nb ys _ (cI Hy.out (by assumption))).mono ?_);rintro e w2 ⟨v2,rfl,⟨A2,n2,c2,rfl,hw2⟩,hb2⟩;have hB2:=fe (by assumption) hb2;have hE2:=aK.more (by assumption) hb2)))
  all_goals(go_wp2_with fail;go_meet;first|exact fo (by assumption) (ay.below (by assumption) (by assumption)) (by assumption) (by assumption)|exact fo (by assumption) (by assumption) (ay.below (by assumption) (by assumption)) (by assumption))
 case rest=>
  generalize ak na xs=za at *;generalize ak nb ys=zb at *;obtain⟨A1,n1,c1,B1,m1,d1,hH,⟨cr0,cr1,fr0,fr1⟩,hx1,hy1⟩:=gQ hcut Hba.out Hs.out;have hm1:n1≤4294967296:=by rw[← hx1.len];exact hl1
  have hm2:m1≤4294967296:=by rw[← hy1.len];exact hl2
  have Hx1:=Lib.hid hx1;have Hy1:=Lib.hid hy1;have hEw:aK wc wc:=aK.refl wc;have hEcw:=dM hH;clear hcut hx1 hy1 hw hB0;have hH':=hH;obtain⟨d0,d1',e0,e1,hE1⟩:=hH';have Hcmp:=Lib.hid (wR (A:=A1) (B:=B1) (n:=n1) (m:=m1) (c:=c1) (d:=d1) Ho.out)
  go_wp2_with (go_at_call 101;(with_reducible refine(Hcmp.out _ Hx1.out Hy1.out).mono ?_);rintro e w2 ⟨rfl,hb2⟩;have hH:=bR hH hb2;have hEw:aK wc w2:=hb2)
  have hH2:=bR hH (Below.drew (Below.refl _ _));have hEd:=aK.drew hEw;have Hx2:=Lib.hid (Hx1.out.ext hEd);have Hy2:=Lib.hid (Hy1.out.ext hEd);clear d0 d1' e0 e1 hE1 Hcmp hH hEw Hx1 Hy1
  skip
  go_region_held3 (fun w'=>w'.cell? ⟨w.heap.size,0,none⟩=some (.bool ba)∧w'.cell? ⟨w.heap.size,1,none⟩=some (.slice A1 n1 c1)∧w'.cell? ⟨w.heap.size+1,0,none⟩=some (.bool ba)∧w'.cell? ⟨w.heap.size+1,1,none⟩=some (.slice B1 m1 d1)∧aK w w')
   (with_reducible first|exact hH2|assumption|exact bR (by assumption) (by assumption)|exact jE (by assumption) (by omega) (by dsimp only;omega) (by dsimp only;omega) (by dsimp only;omega) (by dsimp only;omega))
   (first
    |((go_at_call 200;(with_reducible refine(EV _ _ _ _ _ _ (digs za.natAbs) (digs zb.natAbs) _ Hx2.out Hy2.out hm1 hm2).mono ?_);rintro e w1 ⟨A3,n3,c3,zs,rfl,hw1,rfl,hb1⟩))
    |((go_at_call 99;(with_reducible refine(cU hw1 Hz.out).mono ?_);rintro e w2 ⟨v2,rfl,⟨A2,n2,c2,rfl,hw2⟩,hb2⟩;have hE2:=aK.more (aK.more hEd hb1) hb2;have su0:=kc cr0 hE2;have su1:=kc cr1 hE2;have sf0:=kf cr0 fr0 hE2;have sf1:=kf cr1 fr1 hE2)))
  go_wp2_with fail
  exact bodyPost_ret (v:= .agg #[.bool (decide (z<0)), .slice A2 n2 c2]) (by simp[results,results180,go_sem,su0,su1]) rfl (eG su0 su1 hw2 (hEcw.trans hE2) (by omega))
theorem Bw (va vb:Value) (na nb ba:Bool) (xs ys:List Nat) (w:World) (ha:bI w va na xs) (hb:bI w vb nb ys) (h1:xs.length≤2147483648) (h2:ys.length≤2147483648) (hba:decide (ak na xs<0)=ba) (hs:decide (ak nb ys<0)=!ba) (hl:(ak nb ys).natAbs≤(ak na xs).natAbs):
 Calls Tryz.prog 180 #[va,vb] w (bZ (ak na xs+ak nb ys) w):=by
 obtain⟨A,n,c,rfl,hx⟩:=ha;obtain⟨B,m,d,rfl,hy⟩:=hb;obtain⟨W,hW⟩:∃W,W=((w.alloc (.cells #[.bool na, .slice A n c] 24)).alloc (.cells #[.bool nb, .slice B m d] 24)).alloc (.cells #[.bool false, .slice none 0 0] 24):=⟨_,rfl⟩;obtain⟨hB,hbW⟩:=ic w _ _ _ _ _ _ _ W hW;have hw:aK w W.drew:=hbW.drew;have hB0:=fe hB (aK.refl W).drew;clear hB hbW;have Hx:=Lib.hid hx;have Hy:=Lib.hid hy;have hl1:(digs (ak na xs).natAbs).length≤4294967296:=by rw[bu];exact bW hx.wd h1
 have hl2:(digs (ak nb ys).natAbs).length≤4294967296:=by rw[bu];exact bW hy.wd h2
 obtain⟨o,ho⟩:∃o,bK (ak na xs).natAbs (ak nb ys).natAbs=o:=⟨_,rfl⟩;have ho1:0≤o:=(by have:=gT (a:=((ak na xs).natAbs:Int)) (b:=(ak nb ys).natAbs) (by omega);omega);obtain⟨z,hz⟩:∃z,z=ak na xs+ak nb ys:=⟨_,rfl⟩;have hz1:ak ba (digs (val (digs (ak na xs).natAbs)-val (digs (ak nb ys).natAbs)))=z:=(by rw[← hba,hz];exact Jj _ _ (by rw[hba,hs];cases ba<;>simp) hl);rw[← hz];have Hz:=Lib.hid hz1;have Hba:=Lib.hid hba;have Hs:=Lib.hid hs;have Ho:=Lib.hid ho;have Hl:=Lib.hid hl;have hb0:(ba == !ba)=false:=by cases ba<;>rfl
 clear hx hy hz hz1 hba hs ho hl
 go_enter func180,ntmps180
 go_wp2_with fail
 rw[← hW];clear hW
 go_cut [5] (fun _ wx=>jP w (ak na xs) (ak nb ys) wx)
 case first=>
  go_region_with (first
   |((go_at_call 102;((with_reducible refine(eF _ na xs _ (cI Hx.out (by assumption))).mono ?_);rintro e w1 ⟨v1,rfl,⟨A1,n1,c1,rfl,hw1⟩,hb1⟩;have hB1:=fe (by assumption) hb1;have hE1:=aK.more (by assumption) hb1)))
   |((go_at_call 102;(with_reducible refine(eF _ nb ys _ (cI Hy.out (by assumption))).mono ?_);rintro e w2 ⟨v2,rfl,⟨A2,n2,c2,rfl,hw2⟩,hb2⟩;have hB2:=fe (by assumption) hb2;have hE2:=aK.more (by assumption) hb2)))
  all_goals(go_wp2_with fail;go_meet;first|exact fo (by assumption) (ay.below (by assumption) (by assumption)) (by assumption) (by assumption)|exact fo (by assumption) (by assumption) (ay.below (by assumption) (by assumption)) (by assumption))
 case rest=>
  generalize ak na xs=za at *;generalize ak nb ys=zb at *;obtain⟨A1,n1,c1,B1,m1,d1,hH,⟨cr0,cr1,fr0,fr1⟩,hx1,hy1⟩:=gQ hcut Hba.out Hs.out;have hm1:n1≤4294967296:=by rw[← hx1.len];exact hl1
  have hm2:m1≤4294967296:=by rw[← hy1.len];exact hl2
  have Hx1:=Lib.hid hx1;have Hy1:=Lib.hid hy1;have hEw:aK wc wc:=aK.refl wc;have hEcw:=dM hH;clear hcut hx1 hy1 hw hB0;have hH':=hH;obtain⟨d0,d1',e0,e1,hE1⟩:=hH';have Hcmp:=Lib.hid (wR (A:=A1) (B:=B1) (n:=n1) (m:=m1) (c:=c1) (d:=d1) Ho.out)
  go_wp2_with (go_at_call 101;(with_reducible refine(Hcmp.out _ Hx1.out Hy1.out).mono ?_);rintro e w2 ⟨rfl,hb2⟩;have hH:=bR hH hb2;have hEw:aK wc w2:=hb2)
  have hH2:=bR hH (Below.drew (Below.refl _ _));have hEd:=aK.drew hEw;have Hx2:=Lib.hid (Hx1.out.ext hEd);have Hy2:=Lib.hid (Hy1.out.ext hEd);clear d0 d1' e0 e1 hE1 Hcmp hH hEw Hx1 Hy1;have HM:=Lib.hid (xw _ _ _ _ _ _ _ _ _ Hx2.out Hy2.out (by rw[af,af];exact Hl.out) hm1)
  go_region_held3 (fun w'=>w'.cell? ⟨w.heap.size,0,none⟩=some (.bool ba)∧w'.cell? ⟨w.heap.size,1,none⟩=some (.slice A1 n1 c1)∧w'.cell? ⟨w.heap.size+1,0,none⟩=some (.bool (!ba))∧w'.cell? ⟨w.heap.size+1,1,none⟩=some (.slice B1 m1 d1)∧aK w w')
   (with_reducible first|exact hH2|assumption|exact bR (by assumption) (by assumption)|exact jE (by assumption) (by omega) (by dsimp only;omega) (by dsimp only;omega) (by dsimp only;omega) (by dsimp only;omega))
   (first
    |((go_at_call 177;(with_reducible refine HM.out.mono ?_);rintro e w1 ⟨A3,n3,c3,zs,rfl,hw1,rfl,hb1⟩))
    |((go_at_call 99;(with_reducible refine(cU hw1 Hz.out).mono ?_);rintro e w2 ⟨v2,rfl,⟨A2,n2,c2,rfl,hw2⟩,hb2⟩;have hE2:=aK.more (aK.more hEd hb1) hb2;have su0:=kc cr0 hE2;have su1:=kc cr1 hE2;have sf0:=kf cr0 fr0 hE2;have sf1:=kf cr1 fr1 hE2)))
  go_wp2_with fail
  exact bodyPost_ret (v:= .agg #[.bool (decide (z<0)), .slice A2 n2 c2]) (by simp[results,results180,go_sem,su0,su1]) rfl (eG su0 su1 hw2 (hEcw.trans hE2) (by omega))
theorem BH (va vb:Value) (na nb ba:Bool) (xs ys:List Nat) (w:World) (ha:bI w va na xs) (hb:bI w vb nb ys) (h1:xs.length≤2147483648) (h2:ys.length≤2147483648) (hba:decide (ak na xs<0)=ba) (hs:decide (ak nb ys<0)=!ba) (hl:(ak na xs).natAbs<(ak nb ys).natAbs):
 Calls Tryz.prog 180 #[va,vb] w (bZ (ak na xs+ak nb ys) w):=by
 obtain⟨A,n,c,rfl,hx⟩:=ha;obtain⟨B,m,d,rfl,hy⟩:=hb;obtain⟨W,hW⟩:∃W,W=((w.alloc (.cells #[.bool na, .slice A n c] 24)).alloc (.cells #[.bool nb, .slice B m d] 24)).alloc (.cells #[.bool false, .slice none 0 0] 24):=⟨_,rfl⟩;obtain⟨hB,hbW⟩:=ic w _ _ _ _ _ _ _ W hW;have hw:aK w W.drew:=hbW.drew;have hB0:=fe hB (aK.refl W).drew;clear hB hbW;have Hx:=Lib.hid hx;have Hy:=Lib.hid hy;have hl1:(digs (ak na xs).natAbs).length≤4294967296:=by rw[bu];exact bW hx.wd h1
 have hl2:(digs (ak nb ys).natAbs).length≤4294967296:=by rw[bu];exact bW hy.wd h2
 obtain⟨o,ho⟩:∃o,bK (ak na xs).natAbs (ak nb ys).natAbs=o:=⟨_,rfl⟩;have ho1:¬0≤o:=(by have:=ft (a:=((ak na xs).natAbs:Int)) (b:=(ak nb ys).natAbs) (by omega);omega);obtain⟨z,hz⟩:∃z,z=ak na xs+ak nb ys:=⟨_,rfl⟩;have hz1:ak (!ba) (digs (val (digs (ak nb ys).natAbs)-val (digs (ak na xs).natAbs)))=z:=(by rw[← hs,hz];exact IQ _ _ (by rw[hba,hs];cases ba<;>simp) hl);rw[← hz];have Hz:=Lib.hid hz1;have Hba:=Lib.hid hba;have Hs:=Lib.hid hs;have Ho:=Lib.hid ho;have Hl:=Lib.hid hl;have hb0:(ba == !ba)=false:=by cases ba<;>rfl
 clear hx hy hz hz1 hba hs ho hl
 go_enter func180,ntmps180
 go_wp2_with fail
 rw[← hW];clear hW
 go_cut [5] (fun _ wx=>jP w (ak na xs) (ak nb ys) wx)
 case first=>
  go_region_with (first
   |((go_at_call 102;((with_reducible refine(eF _ na xs _ (cI Hx.out (by assumption))).mono ?_);rintro e w1 ⟨v1,rfl,⟨A1,n1,c1,rfl,hw1⟩,hb1⟩;have hB1:=fe (by assumption) hb1;have hE1:=aK.more (by assumption) hb1)))
   |((go_at_call 102;(with_reducible refine(eF _ nb ys _ (cI Hy.out (by assumption))).mono ?_);rintro e w2 ⟨v2,rfl,⟨A2,n2,c2,rfl,hw2⟩,hb2⟩;have hB2:=fe (by assumption) hb2;have hE2:=aK.more (by assumption) hb2)))
  all_goals(go_wp2_with fail;go_meet;first|exact fo (by assumption) (ay.below (by assumption) (by assumption)) (by assumption) (by assumption)|exact fo (by assumption) (by assumption) (ay.below (by assumption) (by assumption)) (by assumption))
 case rest=>
  generalize ak na xs=za at *;generalize ak nb ys=zb at *;obtain⟨A1,n1,c1,B1,m1,d1,hH,⟨cr0,cr1,fr0,fr1⟩,hx1,hy1⟩:=gQ hcut Hba.out Hs.out;have hm1:n1≤4294967296:=by rw[← hx1.len];exact hl1
  have hm2:m1≤4294967296:=by rw[← hy1.len];exact hl2
  have Hx1:=Lib.hid hx1;have Hy1:=Lib.hid hy1;have hEw:aK wc wc:=aK.refl wc;have hEcw:=dM hH;clear hcut hx1 hy1 hw hB0;have hH':=hH;obtain⟨d0,d1',e0,e1,hE1⟩:=hH';have Hcmp:=Lib.hid (wR (A:=A1) (B:=B1) (n:=n1) (m:=m1) (c:=c1) (d:=d1) Ho.out)
  go_wp2_with (go_at_call 101;(with_reducible refine(Hcmp.out _ Hx1.out Hy1.out).mono ?_);rintro e w2 ⟨rfl,hb2⟩;have hH:=bR hH hb2;have hEw:aK wc w2:=hb2)
  have hH2:=bR hH (Below.drew (Below.refl _ _));have hEd:=aK.drew hEw;have Hx2:=Lib.hid (Hx1.out.ext hEd);have Hy2:=Lib.hid (Hy1.out.ext hEd);clear d0 d1' e0 e1 hE1 Hcmp hH hEw Hx1 Hy1;have HM:=Lib.hid (xw _ _ _ _ _ _ _ _ _ Hy2.out Hx2.out (by rw[af,af];exact Nat.le_of_lt Hl.out) hm2)
  go_region_held3 (fun w'=>w'.cell? ⟨w.heap.size,0,none⟩=some (.bool ba)∧w'.cell? ⟨w.heap.size,1,none⟩=some (.slice A1 n1 c1)∧w'.cell? ⟨w.heap.size+1,0,none⟩=some (.bool (!ba))∧w'.cell? ⟨w.heap.size+1,1,none⟩=some (.slice B1 m1 d1)∧aK w w')
   (with_reducible first|exact hH2|assumption|exact bR (by assumption) (by assumption)|exact jE (by assumption) (by omega) (by dsimp only;omega) (by dsimp only;omega) (by dsimp only;omega) (by dsimp only;omega))
   (first
    |((go_at_call 177;(with_reducible refine HM.out.mono ?_);rintro e w1 ⟨A3,n3,c3,zs,rfl,hw1,rfl,hb1⟩))
    |((go_at_call 99;(with_reducible refine(cU hw1 Hz.out).mono ?_);rintro e w2 ⟨v2,rfl,⟨A2,n2,c2,rfl,hw2⟩,hb2⟩;have hE2:=aK.more (aK.more hEd hb1) hb2;have su0:=kc cr0 hE2;have su1:=kc cr1 hE2;have sf0:=kf cr0 fr0 hE2;have sf1:=kf cr1 fr1 hE2)))
  go_wp2_with fail
  exact bodyPost_ret (v:= .agg #[.bool (decide (z<0)), .slice A2 n2 c2]) (by simp[results,results180,go_sem,su0,su1]) rfl (eG su0 su1 hw2 (hEcw.trans hE2) (by omega))
theorem yI (va vb:Value) (na nb:Bool) (xs ys:List Nat) (w:World) (ha:bI w va na xs) (hb:bI w vb nb ys) (h1:xs.length≤2147483648) (h2:ys.length≤2147483648):
 Calls Tryz.prog 180 #[va,vb] w (bZ (ak na xs+ak nb ys) w):=by
 by_cases hn:decide (ak nb ys<0)=decide (ak na xs<0)
 ·exact AC va vb na nb _ xs ys w ha hb h1 h2 rfl hn
 ·by_cases hl:(ak na xs).natAbs<(ak nb ys).natAbs
  ·exact BH va vb na nb _ xs ys w ha hb h1 h2 rfl (lH hn) hl
  ·exact Bw va vb na nb _ xs ys w ha hb h1 h2 rfl (lH hn) (by omega)
end
section
attribute [local go_sem ↓] Go.wp_at_zero Go.wp_at_succ
theorem ov {xs:List Nat} (h:Wd xs) (na:Bool) (k:Nat) (h1:xs.length≤k):(digs (ak na xs).natAbs).length≤k:=by
 rw[bu];exact Nat.le_trans (bG h) h1
theorem bI.wd {w:World} {v:Value} {na:Bool} {xs:List Nat} (h:bI w v na xs):Wd xs:=by
 obtain⟨_,_,_,_,h⟩:=h;exact h.wd
theorem HO (va vb:Value) (na nb:Bool) (xs ys:List Nat) (w:World) (ha:bI w va na xs) (hb:bI w vb nb ys) (h1:xs.length≤2147483648) (h2:ys.length≤2147483648):
 Calls Tryz.prog 179 #[va,vb] w (bZ (ak na xs-ak nb ys) w):=by
 have hl2:(digs (-ak nb ys).natAbs).length≤2147483648:=by rw[Int.natAbs_neg];exact ov hb.wd nb _ h2
 obtain⟨A,n,c,rfl,hx⟩:=ha;obtain⟨B,m,d,rfl,hy⟩:=hb;obtain⟨W,hW⟩:∃W,W=((w.alloc (.cells #[.bool na, .slice A n c] 24)).alloc (.cells #[.bool nb, .slice B m d] 24)).alloc (.cells #[.bool false, .slice none 0 0] 24):=⟨_,rfl⟩;obtain⟨⟨ca0,ca1,cb0,cb1⟩,⟨cr0,cr1,fr0,fr1⟩,hbW⟩:=ia w _ _ _ _ _ _ _ W hW;have hH:=bR ⟨ca0,ca1,cb0,cb1,hbW⟩ (Below.drew (Below.refl _ _));have hEd:aK W W.drew:=(aK.refl W).drew;obtain⟨z,hz⟩:∃z,z=ak na xs-ak nb ys:=⟨_,rfl⟩;rw[← hz];have hz':ak na xs+ -ak nb ys=z:=by omega
 have HA:=fun W' v (h:bI W' (.agg #[.bool na, .slice A n c]) na xs) (h':bY W' v (-ak nb ys))=>by
  have:=yI _ _ na _ xs _ W' h h' h1 hl2;rw[aT,hz']at this;exact this
 have HA:=Lib.hid HA;have Hx:=Lib.hid hx;have Hy:=Lib.hid hy;clear hx hy hz hz' hl2
 go_enter func179,ntmps179
 go_wp2_with fail
 rw[← hW];clear hW
 go_region_held3 (fun w'=>w'.cell? ⟨w.heap.size,0,none⟩=some (.bool na)∧w'.cell? ⟨w.heap.size,1,none⟩=some (.slice A n c)∧w'.cell? ⟨w.heap.size+1,0,none⟩=some (.bool nb)∧w'.cell? ⟨w.heap.size+1,1,none⟩=some (.slice B m d)∧aK w w')
  (with_reducible first|exact hH|assumption|exact bR (by assumption) (by assumption)|exact jE (by assumption) (by omega) (by dsimp only;omega) (by dsimp only;omega) (by dsimp only;omega) (by dsimp only;omega))
  (first
   |((go_at_call 199;(with_reducible refine(D5 _ nb ys _ (cI Hy.out (dM hH))).mono ?_);rintro e w1 ⟨v1,rfl,hv1,hb1⟩;have hH1:=bR hH hb1;have hE1:=aK.more hEd hb1))
   |((go_at_call 180;(with_reducible refine(HA.out _ _ (cI Hx.out (dM hH1)) hv1).mono ?_);rintro e w2 ⟨v2,rfl,⟨A2,n2,c2,rfl,hw2⟩,hb2⟩;have hE2:=aK.more hE1 hb2;have su0:=kc cr0 hE2;have su1:=kc cr1 hE2;have sf0:=kf cr0 fr0 hE2;have sf1:=kf cr1 fr1 hE2)))
 go_wp2_with fail
 exact bodyPost_ret (v:= .agg #[.bool (decide (z<0)), .slice A2 n2 c2]) (by simp[results,results179,go_sem,su0,su1]) rfl (eG su0 su1 hw2 (hbW.trans hE2) (by omega))
theorem mZ {v:Value} {z:Int} {w:World} (h:bY w v z):Calls Tryz.prog 96 #[v] w (qV z.sign w):=by
 have:=zI v _ _ w h
 rwa[aT]at this
end
end Go.Proofs.YtikbnnljjeefgaaGreatDoor
