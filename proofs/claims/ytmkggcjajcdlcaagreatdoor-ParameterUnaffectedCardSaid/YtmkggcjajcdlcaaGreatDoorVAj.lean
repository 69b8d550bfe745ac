/- Add of the program. Cmp of the program; Sign, Add, Sub and Cmp of the reference. Sign, Add, Sub and Cmp of the reference. Sub and Cmp of the reference; the sums' law. -/
import Derived.Test.YtmkggcjajcdlcaaGreatDoorVAi
set_option maxHeartbeats 100000000
set_option linter.all false
open Go.Proofs.Tryz
namespace Go.Proofs.YtmkggcjajcdlcaaGreatDoor
open Go.RowKit
section
attribute [local go_sem ↓] Go.wp_at_zero Go.wp_at_succ
theorem dO {W w:World} {p1 p2 p3 p4:Addr} {v1 v2 v3 v4:Value} (h:w.cell? p1=some v1/\w.cell? p2=some v2/\w.cell? p3=some v3/\w.cell? p4=some v4/\aK W w):aK W w:=h.2.2.2.2
theorem Aw (na:Bool) (xs ys zs:List Nat) (h:val zs=val xs+val ys):ap na zs=ap na xs+ap na ys:=by
 unfold ap;rw[h];cases na<;>simp;omega
theorem zZ (na:Bool) (xs ys:List Nat) (h:val xs<val ys):ap (!na) (digs (val (trim ys)-val (trim xs)))=ap na xs+ap (!na) ys:=by
 unfold ap;rw[ae,aM,aM];cases na<;>simp <;>omega
theorem AW (na:Bool) (xs ys:List Nat) (h:val ys<=val xs):ap na (digs (val (trim xs)-val (trim ys)))=ap na xs+ap (!na) ys:=by
 unfold ap;rw[ae,aM,aM];cases na<;>simp <;>omega
theorem ko {na nb:Bool} (h:nb≠na):nb=!na:=by cases na<;>cases nb<;>simp_all
theorem kt (xs ys:List Nat):ic (trim xs) (trim ys)=bL (val xs) (val ys):=iF _ _
theorem He (va vb:Value) (na nb:Bool) (xs ys:List Nat) (w:World) (ha:bH w va na xs) (hb:bH w vb nb ys) (h1:xs.length<=2147483648) (h2:ys.length<=2147483648) (hn:na=nb) (z:Int) (hz:z=ap na xs+ap nb ys):
 Calls Tryz.prog 141 #[va,vb] w (bZ z w):=by
 obtain⟨A,n,c,rfl,hx⟩:=ha;obtain⟨B,m,d,rfl,hy⟩:=hb;subst hn;obtain⟨W,hW⟩:∃W,W=((w.alloc (.cells #[.bool na, .slice A n c] 36)).alloc (.cells #[.bool na, .slice B m d] 36)).alloc (.cells #[.bool false, .slice none 0 0] 36):=⟨_,rfl⟩;obtain⟨⟨ca0,ca1,cb0,cb1⟩,⟨cr0,cr1,fr0,fr1⟩,hbW⟩:=gA w _ _ _ _ _ _ _ W hW;have hl1:=bU hx.wd h1;have hl2:=bU hy.wd h2;have Hx:=Lib.hid hx;have Hy:=Lib.hid hy;have hH:=bT ⟨ca0,ca1,cb0,cb1,hbW⟩ (Below.drew (Below.refl _ _));have hcmp:=fun W' (h1:aC W' A (trim xs).length c (trim xs)) (h2:aC W' B (trim ys).length d (trim ys))=>fR A B (trim xs).length (trim ys).length c d (trim xs) (trim ys) W' h1 h2
 rw[kt]at hcmp;obtain⟨o,ho⟩:∃o,o=bL (val xs) (val ys):=⟨_,rfl⟩;rw[<- ho]at hcmp;have HZ:Hid (∀zs,val zs=val (trim xs)+val (trim ys)->ap na zs=z):=fun zs hzs=>(Aw na xs ys zs (by rw[hzs,aM,aM])).trans hz.symm
 have Hcmp:=Lib.hid hcmp;have Ho:=Lib.hid ho;have ho1:True:=trivial;have hb0:(na == !na)=false:=by cases na<;>rfl
 clear hx hy hz hcmp ho
 go_enter func141,ntmps141
 go_wp2_with fail
 rw[<- hW];clear hW
 go_region_held3 (fun w'=>w'.cell? ⟨w.heap.size,0,none⟩=some (.bool na)/\w'.cell? ⟨w.heap.size,1,none⟩=some (.slice A n c)/\w'.cell? ⟨w.heap.size+1,0,none⟩=some (.bool na)/\w'.cell? ⟨w.heap.size+1,1,none⟩=some (.slice B m d)/\aK w w')
  (with_reducible first|exact hH|assumption|exact bT (by assumption) (by assumption))
  (first
   |((go_at_call 199;(with_reducible refine(bK A n c xs _ (Hx.out.ext (dO (by assumption)))).mono ?_);rintro e w' ⟨rfl,rfl⟩))
   |((go_at_call 199;(with_reducible refine(bK B m d ys _ (Hy.out.ext (dO (by assumption)))).mono ?_);rintro e w' ⟨rfl,rfl⟩)))
 obtain⟨W1,hW1⟩:∃W1,W1=W.drew:=⟨_,rfl⟩;rw[<- hW1]at hH ⊢;have hEc:aK W W1:=by rw[hW1];exact(aK.refl W).drew
 have hH':=hH;obtain⟨d0,d1,e0,e1,hE1⟩:=hH';clear hW1
 go_wp2_with (go_at_call 202;(with_reducible refine(Hcmp.out _ (Hx.out.trim.ext hE1) (Hy.out.trim.ext hE1)).mono ?_);rintro e w2 ⟨rfl,q,rfl⟩;have hH:=bT hH (bW _ q);have hEc:=hEc.trans (bW _ q))
 skip
 have hH2:=bT hH (Below.drew (Below.refl _ _));have hEd:=aK.drew hEc;clear d0 d1 e0 e1 hE1 Hcmp hH hEc
 go_region_held3 (fun w'=>w'.cell? ⟨w.heap.size,0,none⟩=some (.bool na)/\w'.cell? ⟨w.heap.size,1,none⟩=some (.slice A n c)/\w'.cell? ⟨w.heap.size+1,0,none⟩=some (.bool na)/\w'.cell? ⟨w.heap.size+1,1,none⟩=some (.slice B m d)/\aK w w')
  (with_reducible first|exact hH2|assumption|exact bT (by assumption) (by assumption)|exact jM (by assumption) (by omega) (by dsimp only;omega) (by dsimp only;omega) (by dsimp only;omega) (by dsimp only;omega))
  (first
   |((go_at_call 201;(with_reducible refine(G0 _ _ _ _ _ _ (trim xs) (trim ys) _ (Hx.out.trim.ext (dO (by assumption))) (Hy.out.trim.ext (dO (by assumption))) hl1 hl2).mono ?_);rintro e w1 ⟨A1,n1,c1,zs,rfl,hw1,⟨hzs,-⟩,hb1⟩;have hzz:=HZ.out zs hzs))
   |((go_at_call 200;(with_reducible refine(bM hw1 hzz).mono ?_);rintro e w2 ⟨v2,rfl,⟨A2,n2,c2,rfl,hw2⟩,hb2⟩;have hE2:=aK.more (aK.more hEd hb1) hb2;have su0:=kc cr0 hE2;have su1:=kc cr1 hE2;have sf0:=kf cr0 fr0 hE2;have sf1:=kf cr1 fr1 hE2)))
 go_wp2_with fail
 exact bodyPost_ret (v:= .agg #[.bool (decide (z<0)), .slice A2 n2 c2]) (by simp[results,results141,go_sem,su0,su1]) rfl (eW su0 su1 hw2 (hbW.trans hE2) (by omega))
theorem Id (va vb:Value) (na nb:Bool) (xs ys:List Nat) (w:World) (ha:bH w va na xs) (hb:bH w vb nb ys) (h1:xs.length<=2147483648) (h2:ys.length<=2147483648) (hn:nb=!na) (hl:val xs<val ys) (z:Int) (hz:z=ap na xs+ap nb ys):
 Calls Tryz.prog 141 #[va,vb] w (bZ z w):=by
 obtain⟨A,n,c,rfl,hx⟩:=ha;obtain⟨B,m,d,rfl,hy⟩:=hb;subst hn;obtain⟨W,hW⟩:∃W,W=((w.alloc (.cells #[.bool na, .slice A n c] 36)).alloc (.cells #[.bool (!na), .slice B m d] 36)).alloc (.cells #[.bool false, .slice none 0 0] 36):=⟨_,rfl⟩;obtain⟨⟨ca0,ca1,cb0,cb1⟩,⟨cr0,cr1,fr0,fr1⟩,hbW⟩:=gA w _ _ _ _ _ _ _ W hW;have hl1:=bU hx.wd h1;have hl2:=bU hy.wd h2;have Hx:=Lib.hid hx;have Hy:=Lib.hid hy;have hH:=bT ⟨ca0,ca1,cb0,cb1,hbW⟩ (Below.drew (Below.refl _ _));have hcmp:=fun W' (h1:aC W' A (trim xs).length c (trim xs)) (h2:aC W' B (trim ys).length d (trim ys))=>fR A B (trim xs).length (trim ys).length c d (trim xs) (trim ys) W' h1 h2
 rw[kt]at hcmp;obtain⟨o,ho⟩:∃o,o=bL (val xs) (val ys):=⟨_,rfl⟩;rw[<- ho]at hcmp;have HZ:Hid (ap (!na) (digs (val (trim ys)-val (trim xs)))=z):=(zZ na xs ys hl).trans hz.symm;have Hcmp:=Lib.hid hcmp;have Ho:=Lib.hid ho;have HM:=Lib.hid (fun W' h1 h2=>vE B A (trim ys).length (trim xs).length d c (trim ys) (trim xs) W' h1 h2 (by have h3:=aM xs;have h4:=aM ys;omega) hl2);have ho1:o<0:=by have:=eV (a:=(val xs:Int)) (b:=val ys) (by omega);omega
 have hb0:(na == !na)=false:=by cases na<;>rfl
 clear hx hy hz hcmp ho
 go_enter func141,ntmps141
 go_wp2_with fail
 rw[<- hW];clear hW
 go_region_held3 (fun w'=>w'.cell? ⟨w.heap.size,0,none⟩=some (.bool na)/\w'.cell? ⟨w.heap.size,1,none⟩=some (.slice A n c)/\w'.cell? ⟨w.heap.size+1,0,none⟩=some (.bool (!na))/\w'.cell? ⟨w.heap.size+1,1,none⟩=some (.slice B m d)/\aK w w')
  (with_reducible first|exact hH|assumption|exact bT (by assumption) (by assumption))
  (first
   |((go_at_call 199;(with_reducible refine(bK A n c xs _ (Hx.out.ext (dO (by assumption)))).mono ?_);rintro e w' ⟨rfl,rfl⟩))
   |((go_at_call 199;(with_reducible refine(bK B m d ys _ (Hy.out.ext (dO (by assumption)))).mono ?_);rintro e w' ⟨rfl,rfl⟩)))
 obtain⟨W1,hW1⟩:∃W1,W1=W.drew:=⟨_,rfl⟩;rw[<- hW1]at hH ⊢;have hEc:aK W W1:=by rw[hW1];exact(aK.refl W).drew
 have hH':=hH;obtain⟨d0,d1,e0,e1,hE1⟩:=hH';clear hW1
 go_wp2_with (go_at_call 202;(with_reducible refine(Hcmp.out _ (Hx.out.trim.ext hE1) (Hy.out.trim.ext hE1)).mono ?_);rintro e w2 ⟨rfl,q,rfl⟩;have hH:=bT hH (bW _ q);have hEc:=hEc.trans (bW _ q))
 generalize W1.drewN q=W2 at *;have hH2:=bT hH (Below.drew (Below.refl _ _));have hEd:=aK.drew hEc;clear d0 d1 e0 e1 hE1 Hcmp hH hEc
 go_region_held3 (fun w'=>w'.cell? ⟨w.heap.size,0,none⟩=some (.bool na)/\w'.cell? ⟨w.heap.size,1,none⟩=some (.slice A n c)/\w'.cell? ⟨w.heap.size+1,0,none⟩=some (.bool (!na))/\w'.cell? ⟨w.heap.size+1,1,none⟩=some (.slice B m d)/\aK w w')
  (with_reducible first|exact hH2|assumption|exact bT (by assumption) (by assumption)|exact jM (by assumption) (by omega) (by dsimp only;omega) (by dsimp only;omega) (by dsimp only;omega) (by dsimp only;omega))
  (first
   |((go_at_call 203;(with_reducible refine(HM.out _ (Hy.out.trim.ext (dO (by assumption))) (Hx.out.trim.ext (dO (by assumption)))).mono ?_);rintro e w1 ⟨A1,n1,c1,zs,rfl,hw1,rfl,hb1⟩;have hzz:=HZ.out))
   |((go_at_call 200;(with_reducible refine(bM hw1 hzz).mono ?_);rintro e w2 ⟨v2,rfl,⟨A2,n2,c2,rfl,hw2⟩,hb2⟩;have hE2:=aK.more (aK.more hEd hb1) hb2;have su0:=kc cr0 hE2;have su1:=kc cr1 hE2;have sf0:=kf cr0 fr0 hE2;have sf1:=kf cr1 fr1 hE2)))
 go_wp2_with fail
 exact bodyPost_ret (v:= .agg #[.bool (decide (z<0)), .slice A2 n2 c2]) (by simp[results,results141,go_sem,su0,su1]) rfl (eW su0 su1 hw2 (hbW.trans hE2) (by omega))
theorem GB (va vb:Value) (na nb:Bool) (xs ys:List Nat) (w:World) (ha:bH w va na xs) (hb:bH w vb nb ys) (h1:xs.length<=2147483648) (h2:ys.length<=2147483648) (hn:nb=!na) (hl:val ys<=val xs) (z:Int) (hz:z=ap na xs+ap nb ys):
 Calls Tryz.prog 141 #[va,vb] w (bZ z w):=by
 obtain⟨A,n,c,rfl,hx⟩:=ha;obtain⟨B,m,d,rfl,hy⟩:=hb;subst hn;obtain⟨W,hW⟩:∃W,W=((w.alloc (.cells #[.bool na, .slice A n c] 36)).alloc (.cells #[.bool (!na), .slice B m d] 36)).alloc (.cells #[.bool false, .slice none 0 0] 36):=⟨_,rfl⟩;obtain⟨⟨ca0,ca1,cb0,cb1⟩,⟨cr0,cr1,fr0,fr1⟩,hbW⟩:=gA w _ _ _ _ _ _ _ W hW;have hl1:=bU hx.wd h1;have hl2:=bU hy.wd h2;have Hx:=Lib.hid hx;have Hy:=Lib.hid hy;have hH:=bT ⟨ca0,ca1,cb0,cb1,hbW⟩ (Below.drew (Below.refl _ _));have hcmp:=fun W' (h1:aC W' A (trim xs).length c (trim xs)) (h2:aC W' B (trim ys).length d (trim ys))=>fR A B (trim xs).length (trim ys).length c d (trim xs) (trim ys) W' h1 h2
 rw[kt]at hcmp;obtain⟨o,ho⟩:∃o,o=bL (val xs) (val ys):=⟨_,rfl⟩;rw[<- ho]at hcmp;have HZ:Hid (ap na (digs (val (trim xs)-val (trim ys)))=z):=(AW na xs ys hl).trans hz.symm;have Hcmp:=Lib.hid hcmp;have Ho:=Lib.hid ho;have HM:=Lib.hid (fun W' h1 h2=>vE A B (trim xs).length (trim ys).length c d (trim xs) (trim ys) W' h1 h2 (by have h3:=aM xs;have h4:=aM ys;omega) hl1);have ho1:¬o<0:=by have:=gx (a:=(val xs:Int)) (b:=val ys) (by omega);omega
 have hb0:(na == !na)=false:=by cases na<;>rfl
 clear hx hy hz hcmp ho
 go_enter func141,ntmps141
 go_wp2_with fail
 rw[<- hW];clear hW
 go_region_held3 (fun w'=>w'.cell? ⟨w.heap.size,0,none⟩=some (.bool na)/\w'.cell? ⟨w.heap.size,1,none⟩=some (.slice A n c)/\w'.cell? ⟨w.heap.size+1,0,none⟩=some (.bool (!na))/\w'.cell? ⟨w.heap.size+1,1,none⟩=some (.slice B m d)/\aK w w')
  (with_reducible first|exact hH|assumption|exact bT (by assumption) (by assumption))
  (first
   |((go_at_call 199;(with_reducible refine(bK A n c xs _ (Hx.out.ext (dO (by assumption)))).mono ?_);rintro e w' ⟨rfl,rfl⟩))
   |((go_at_call 199;(with_reducible refine(bK B m d ys _ (Hy.out.ext (dO (by assumption)))).mono ?_);rintro e w' ⟨rfl,rfl⟩)))
 obtain⟨W1,hW1⟩:∃W1,W1=W.drew:=⟨_,rfl⟩;rw[<- hW1]at hH ⊢;have hEc:aK W W1:=by rw[hW1];exact(aK.refl W).drew
 have hH':=hH;obtain⟨d0,d1,e0,e1,hE1⟩:=hH';clear hW1
 go_wp2_with (go_at_call 202;(with_reducible refine(Hcmp.out _ (Hx.out.trim.ext hE1) (Hy.out.trim.ext hE1)).mono ?_);rintro e w2 ⟨rfl,q,rfl⟩;have hH:=bT hH (bW _ q);have hEc:=hEc.trans (bW _ q))
 generalize W1.drewN q=W2 at *;have hH2:=bT hH (Below.drew (Below.refl _ _));have hEd:=aK.drew hEc;clear d0 d1 e0 e1 hE1 Hcmp hH hEc
 go_region_held3 (fun w'=>w'.cell? ⟨w.heap.size,0,none⟩=some (.bool na)/\w'.cell? ⟨w.heap.size,1,none⟩=some (.slice A n c)/\w'.cell? ⟨w.heap.size+1,0,none⟩=some (.bool (!na))/\w'.cell? ⟨w.heap.size+1,1,none⟩=some (.slice B m d)/\aK w w')
  (with_reducible first|exact hH2|assumption|exact bT (by assumption) (by assumption)|exact jM (by assumption) (by omega) (by dsimp only;omega) (by dsimp only;omega) (by dsimp only;omega) (by dsimp only;omega))
  (first
   |((go_at_call 203;(with_reducible refine(HM.out _ (Hx.out.trim.ext (dO (by assumption))) (Hy.out.trim.ext (dO (by assumption)))).mono ?_);rintro e w1 ⟨A1,n1,c1,zs,rfl,hw1,rfl,hb1⟩;have hzz:=HZ.out))
   |((go_at_call 200;(with_reducible refine(bM hw1 hzz).mono ?_);rintro e w2 ⟨v2,rfl,⟨A2,n2,c2,rfl,hw2⟩,hb2⟩;have hE2:=aK.more (aK.more hEd hb1) hb2;have su0:=kc cr0 hE2;have su1:=kc cr1 hE2;have sf0:=kf cr0 fr0 hE2;have sf1:=kf cr1 fr1 hE2)))
 go_wp2_with fail
 exact bodyPost_ret (v:= .agg #[.bool (decide (z<0)), .slice A2 n2 c2]) (by simp[results,results141,go_sem,su0,su1]) rfl (eW su0 su1 hw2 (hbW.trans hE2) (by omega))
theorem QE (va vb:Value) (na nb:Bool) (xs ys:List Nat) (w:World) (ha:bH w va na xs) (hb:bH w vb nb ys) (h1:xs.length<=2147483648) (h2:ys.length<=2147483648):
 Calls Tryz.prog 141 #[va,vb] w (bZ (ap na xs+ap nb ys) w):=by
 by_cases hn:nb=na
 ·exact He va vb na nb xs ys w ha hb h1 h2 hn.symm _ rfl
 ·by_cases hl:val xs<val ys
  ·exact Id va vb na nb xs ys w ha hb h1 h2 (ko hn) hl _ rfl
  ·exact GB va vb na nb xs ys w ha hb h1 h2 (ko hn) (by omega) _ rfl
end
section
attribute [local go_sem ↓] Go.wp_at_zero Go.wp_at_succ
theorem EC (na:Bool) (xs:List Nat):qV na xs= -1∨qV na xs=0∨qV na xs=1:=by unfold qV;split <;>(try split)<;>simp
theorem N5 (na nb:Bool) (xs ys:List Nat) (h:qV na xs≠qV nb ys):bL (qV na xs) (qV nb ys)=bL (ap na xs) (ap nb ys):=by
 unfold qV ap bL at *;cases na<;>cases nb<;>by_cases h1:val xs=0<;>by_cases h2:val ys=0<;>simp_all <;>(repeat' split)<;>omega
theorem Oo (na nb:Bool) (xs ys:List Nat) (s:Int) (h1:qV na xs=s) (h2:qV nb ys=s):s*bL (val xs) (val ys)=bL (ap na xs) (ap nb ys):=by
 subst h1;unfold qV ap bL at *;cases na<;>cases nb<;>by_cases h1:val xs=0<;>by_cases h3:val ys=0<;>simp_all <;>(repeat' split)<;>omega
theorem HI {o:Int} {A B:Option Addr} {n m c d:Nat} {xs ys:List Nat} (ho:bL (val xs) (val ys)=o) (W:World) (h1:aC W A n c (trim xs)) (h2:aC W B m d (trim ys)):Calls Tryz.prog 202 #[.slice A n c, .slice B m d] W (rk o W):=by
 have:=fR A B n m c d (trim xs) (trim ys) W h1 h2;rw[kt,ho]at this;exact O9
theorem PR (va vb:Value) (na nb:Bool) (xs ys:List Nat) (w:World) (ha:bH w va na xs) (hb:bH w vb nb ys):
 Calls Tryz.prog 157 #[va,vb] w (rk (bL (ap na xs) (ap nb ys)) w):=by
 obtain⟨A,n,c,rfl,hx⟩:=ha;obtain⟨B,m,d,rfl,hy⟩:=hb;obtain⟨W,hW⟩:∃W,W=(w.alloc (.cells #[.bool na, .slice A n c] 36)).alloc (.cells #[.bool nb, .slice B m d] 36):=⟨_,rfl⟩;obtain⟨⟨ca0,ca1,cb0,cb1⟩,hbW⟩:=x5 w _ _ _ _ _ W hW;have hH:=bT ⟨ca0,ca1,cb0,cb1,hbW⟩ (Below.drew (Below.refl _ _));have hne:=N5 na nb xs ys;have heq:=Oo na nb xs ys;have hr1:=EC na xs;have hs1:=fun W' h=>AU (.agg #[.bool na, .slice A n c]) na xs W' h
 have hs2:=fun W' h=>AU (.agg #[.bool nb, .slice B m d]) nb ys W' h
 obtain⟨s,hs⟩:∃s,s=qV na xs:=⟨_,rfl⟩;obtain⟨t,ht⟩:∃t,t=qV nb ys:=⟨_,rfl⟩;obtain⟨z,hz⟩:∃z,z=bL (ap na xs) (ap nb ys):=⟨_,rfl⟩;rw[<- hz];rw[<- hs]at hs1;rw[<- ht]at hs2;rw[<- hs,<- ht,<- hz]at hne;rw[<- hs]at hr1;have Hx:=Lib.hid hx;have Hy:=Lib.hid hy;have Hs1:=Lib.hid hs1;have Hs2:=Lib.hid hs2;have Hne:=Lib.hid hne
 by_cases hst:s=t
 ·subst hst
  have hz':=heq s hs.symm ht.symm;obtain⟨o,ho⟩:∃o,bL (val xs) (val ys)=o:=⟨_,rfl⟩;rw[ho,<- hz]at hz';have Hcmp:=Lib.hid (HI (A:=A) (B:=B) (n:=(trim xs).length) (m:=(trim ys).length) (c:=c) (d:=d) ho);have hob:=zG (val xs) (val ys);rw[ho]at hob;clear hx hy hs1 hs2 hne heq hs ht hz ho;rcases hr1 with rfl|rfl|rfl
  all_goals(
   have hzz:z=_:=hz'.symm;clear hz';have Hzz:=Lib.hid hzz;clear hzz
   go_enter func157,ntmps157
   go_wp2_with fail
   rw[<- hW];clear hW
   go_region_held3 (fun w'=>w'.cell? ⟨w.heap.size,0,none⟩=some (.bool na)/\w'.cell? ⟨w.heap.size,1,none⟩=some (.slice A n c)/\w'.cell? ⟨w.heap.size+1,0,none⟩=some (.bool nb)/\w'.cell? ⟨w.heap.size+1,1,none⟩=some (.slice B m d)/\aK w w')
    (with_reducible first|exact hH|assumption|exact bT (by assumption) (by assumption))
    (first
     |((go_at_call 222;(with_reducible refine(Hs1.out _ (eM Hx.out (dO (by assumption)))).mono ?_);rintro e w1 ⟨rfl,hb1⟩;have hH1:=bT hH hb1))
     |((go_at_call 222;(with_reducible refine(Hs2.out _ (eM Hy.out (dO hH1))).mono ?_);rintro e w2 ⟨rfl,hb2⟩;have hH2:=bT hH1 hb2)))
   have hH3:=bT hH2 (Below.drew (Below.refl _ _));clear hH1
   go_wp2_with fail
   go_region_held3 (fun w'=>w'.cell? ⟨w.heap.size,0,none⟩=some (.bool na)/\w'.cell? ⟨w.heap.size,1,none⟩=some (.slice A n c)/\w'.cell? ⟨w.heap.size+1,0,none⟩=some (.bool nb)/\w'.cell? ⟨w.heap.size+1,1,none⟩=some (.slice B m d)/\aK w w')
    (with_reducible first|exact hH3|assumption|exact bT (by assumption) (bW _ _)|exact bT (by assumption) (by assumption))
    (first
     |((go_at_call 199;(with_reducible refine(bK A n c xs _ (Hx.out.ext (dO hH3))).mono ?_);rintro e w' ⟨rfl,rfl⟩))
     |((go_at_call 199;(with_reducible refine(bK B m d ys _ (Hy.out.ext (dO hH3))).mono ?_);rintro e w' ⟨rfl,rfl⟩))
     |((go_at_call 202;(with_reducible refine(Hcmp.out _ (Hx.out.trim.ext (dO hH3)) (Hy.out.trim.ext (dO hH3))).mono ?_);rintro e w3 ⟨rfl,hb3⟩;have hE3:=dO (bT hH3 hb3))))
   go_wp2_with fail
   go_ret
   refine⟨Di ?_,hE3⟩;have:=Hzz.out
   first|omega|(rw[IntWalk.i64_in _ (by omega)];omega))
 ·have hz':=hne hst
  have Hz:=Lib.hid hz';have hst':(s == t)=false:=by simpa using hst
  clear hx hy hs1 hs2 hne heq hs ht hz hst hz' hr1
  go_enter func157,ntmps157
  go_wp2_with fail
  rw[<- hW];clear hW
  go_region_held3 (fun w'=>w'.cell? ⟨w.heap.size,0,none⟩=some (.bool na)/\w'.cell? ⟨w.heap.size,1,none⟩=some (.slice A n c)/\w'.cell? ⟨w.heap.size+1,0,none⟩=some (.bool nb)/\w'.cell? ⟨w.heap.size+1,1,none⟩=some (.slice B m d)/\aK w w')
   (with_reducible first|exact hH|assumption|exact bT (by assumption) (by assumption))
   (first
    |((go_at_call 222;(with_reducible refine(Hs1.out _ (eM Hx.out (dO (by assumption)))).mono ?_);rintro e w1 ⟨rfl,hb1⟩;have hH1:=bT hH hb1))
    |((go_at_call 222;(with_reducible refine(Hs2.out _ (eM Hy.out (dO hH1))).mono ?_);rintro e w2 ⟨rfl,hb2⟩;have hH2:=bT hH1 hb2)))
  go_wp2_with (go_at_call 226;(with_reducible refine(oK s t _).mono ?_);rintro e w' ⟨rfl,rfl⟩)
  go_ret
  exact⟨Di Hz.out,dO hH2⟩
end
section
attribute [local go_sem ↓] Go.wp_at_zero Go.wp_at_succ
theorem sL (w:World) (a0 a1:Value) (t:TypeId) (W:World) (hW:W=w.alloc (.cells #[a0,a1] t)):
 (W.cell? ⟨w.heap.size,0,none⟩=some a0/\W.cell? ⟨w.heap.size,1,none⟩=some a1)/\(W.frozen? ⟨w.heap.size,0,none⟩=false/\W.frozen? ⟨w.heap.size,1,none⟩=false)/\aK w W:=by
 refine⟨?_,?_,by rw[hW];exact(aK.refl w).alloc _⟩
 ·subst hW;simp[go_sem]
 ·subst hW;simp[go_sem]
theorem wt (va:Value) (na:Bool) (xs:List Nat) (w:World) (ha:bH w va na xs) (hz:ap na xs=0):
 Calls Tryz.prog 103 #[va] w (rk (0) w):=by
 obtain⟨A,n,c,rfl,hx⟩:=ha;obtain⟨W,hW⟩:∃W,W=w.alloc (.cells #[.bool na, .slice A n c] 36):=⟨_,rfl⟩;obtain⟨⟨ca0,ca1⟩,⟨fa0,fa1⟩,hbW⟩:=sL w _ _ _ W hW;have hc:=iq _ na xs W (wB (hx.ext hbW));obtain⟨z,hzz⟩:∃z,ap na xs=z:=⟨_,rfl⟩;rw[hzz]at hz hc;have hd:decide (z<0)=false:=by simp;omega
 have Hc:=Lib.hid hc;have Hd:=Lib.hid hd;have Hz:=Lib.hid hz;clear hx hc hd hz hzz
 go_enter func103,ntmps103
 go_wp2_with fail
 rw[<- hW];clear hW
 go_wp2_with (go_at_call 158;(with_reducible refine Hc.out.mono ?_);rintro e w1 ⟨v1,rfl,⟨A1,n1,c1,rfl,hw1⟩,hb1⟩;rw[Hd.out];have hz:=Hz.out;have hn1:=yq hw1 (by omega);subst hn1;clear hz;have su0:=kc ca0 hb1;have su1:=kc ca1 hb1;have sf0:=kf ca0 fa0 hb1;have sf1:=kf ca1 fa1 hb1;have hE1:aK w w1:=hbW.more hb1)
 go_ret
 exact⟨rfl,aK.set2 hE1 (Nat.le_refl _) _ _⟩
theorem yH (va:Value) (na:Bool) (xs:List Nat) (w:World) (ha:bH w va na xs) (hz:ap na xs<0):
 Calls Tryz.prog 103 #[va] w (rk (-1) w):=by
 obtain⟨A,n,c,rfl,hx⟩:=ha;obtain⟨W,hW⟩:∃W,W=w.alloc (.cells #[.bool na, .slice A n c] 36):=⟨_,rfl⟩;obtain⟨⟨ca0,ca1⟩,⟨fa0,fa1⟩,hbW⟩:=sL w _ _ _ W hW;have hc:=iq _ na xs W (wB (hx.ext hbW));obtain⟨z,hzz⟩:∃z,ap na xs=z:=⟨_,rfl⟩;rw[hzz]at hz hc;have hd:decide (z<0)=true:=by simp;omega
 have Hc:=Lib.hid hc;have Hd:=Lib.hid hd;have Hz:=Lib.hid hz;clear hx hc hd hz hzz
 go_enter func103,ntmps103
 go_wp2_with fail
 rw[<- hW];clear hW
 go_wp2_with (go_at_call 158;(with_reducible refine Hc.out.mono ?_);rintro e w1 ⟨v1,rfl,⟨A1,n1,c1,rfl,hw1⟩,hb1⟩;rw[Hd.out];have hz:=Hz.out;have hn1:=mx hw1 (by omega);have hn2:((n1:Int) == 0)=false:=(by simp;omega);clear hz;have su0:=kc ca0 hb1;have su1:=kc ca1 hb1;have sf0:=kf ca0 fa0 hb1;have sf1:=kf ca1 fa1 hb1;have hE1:aK w w1:=hbW.more hb1)
 go_ret
 exact⟨rfl,aK.set2 hE1 (Nat.le_refl _) _ _⟩
theorem yc (va:Value) (na:Bool) (xs:List Nat) (w:World) (ha:bH w va na xs) (hz:0<ap na xs):
 Calls Tryz.prog 103 #[va] w (rk (1) w):=by
 obtain⟨A,n,c,rfl,hx⟩:=ha;obtain⟨W,hW⟩:∃W,W=w.alloc (.cells #[.bool na, .slice A n c] 36):=⟨_,rfl⟩;obtain⟨⟨ca0,ca1⟩,⟨fa0,fa1⟩,hbW⟩:=sL w _ _ _ W hW;have hc:=iq _ na xs W (wB (hx.ext hbW));obtain⟨z,hzz⟩:∃z,ap na xs=z:=⟨_,rfl⟩;rw[hzz]at hz hc;have hd:decide (z<0)=false:=by simp;omega
 have Hc:=Lib.hid hc;have Hd:=Lib.hid hd;have Hz:=Lib.hid hz;clear hx hc hd hz hzz
 go_enter func103,ntmps103
 go_wp2_with fail
 rw[<- hW];clear hW
 go_wp2_with (go_at_call 158;(with_reducible refine Hc.out.mono ?_);rintro e w1 ⟨v1,rfl,⟨A1,n1,c1,rfl,hw1⟩,hb1⟩;rw[Hd.out];have hz:=Hz.out;have hn1:=mx hw1 (by omega);have hn2:((n1:Int) == 0)=false:=(by simp;omega);clear hz;have su0:=kc ca0 hb1;have su1:=kc ca1 hb1;have sf0:=kf ca0 fa0 hb1;have sf1:=kf ca1 fa1 hb1;have hE1:aK w w1:=hbW.more hb1)
 go_ret
 exact⟨rfl,aK.set2 hE1 (Nat.le_refl _) _ _⟩
theorem CD (va:Value) (na:Bool) (xs:List Nat) (w:World) (ha:bH w va na xs):
 Calls Tryz.prog 103 #[va] w (rk (ap na xs).sign w):=by
 rcases Int.lt_trichotomy (ap na xs) 0 with h|h|h
 ·rw[Int.sign_eq_neg_one_of_neg h];exact yH va na xs w ha h
 ·rw[h];exact wt va na xs w ha h
 ·rw[Int.sign_eq_one_of_pos h];exact yc va na xs w ha h
theorem O7 (za zb:Int) (h:decide (za<0)=decide (zb<0)):ap (decide (za<0)) (digs (val (digs za.natAbs)+val (digs zb.natAbs)))=za+zb:=by
 exact Pq
theorem QF (za zb:Int) (h:decide (za<0)≠decide (zb<0)) (hl:zb.natAbs<=za.natAbs):ap (decide (za<0)) (digs (val (digs za.natAbs)-val (digs zb.natAbs)))=za+zb:=by
 exact Pq
theorem PW (za zb:Int) (h:decide (za<0)≠decide (zb<0)) (hl:za.natAbs<zb.natAbs):ap (decide (zb<0)) (digs (val (digs zb.natAbs)-val (digs za.natAbs)))=za+zb:=by
 exact Pq
theorem gu {w wx:World} {za zb:Int} (h:i7 w za zb wx) {ba bb:Bool} (ha:decide (za<0)=ba) (hb:decide (zb<0)=bb):∃A n c B m d,
 (wx.cell? ⟨w.heap.size,0,none⟩=some (.bool ba)/\wx.cell? ⟨w.heap.size,1,none⟩=some (.slice A n c)/\wx.cell? ⟨w.heap.size+1,0,none⟩=some (.bool bb)/\wx.cell? ⟨w.heap.size+1,1,none⟩=some (.slice B m d)/\aK w wx) /\
 (wx.cell? ⟨w.heap.size+1+1,0,none⟩=some (.bool false)/\wx.cell? ⟨w.heap.size+1+1,1,none⟩=some (.slice none 0 0)/\wx.frozen? ⟨w.heap.size+1+1,0,none⟩=false/\wx.frozen? ⟨w.heap.size+1+1,1,none⟩=false) /\
 aC wx A n c (digs za.natAbs)/\aC wx B m d (digs zb.natAbs):=by
 subst ha hb;obtain⟨A,n,c,B,m,d,⟨⟨a0,_⟩,⟨a1,_⟩,⟨a2,_⟩,⟨a3,_⟩,⟨a4,f4⟩,⟨a5,f5⟩⟩,h1,h2,h3⟩:=h;exact⟨A,n,c,B,m,d,⟨a0,a1,a2,a3,h3⟩,⟨a4,a5,f4,f5⟩,h1,h2⟩
theorem yL {o:Int} {A B:Option Addr} {n m c d:Nat} {a b:Nat} (ho:bL a b=o) (W:World) (h1:aC W A n c (digs a)) (h2:aC W B m d (digs b)):Calls Tryz.prog 160 #[.slice A n c, .slice B m d] W (rk o W):=by
 have:=l8 A B n m c d (digs a) (digs b) W h1 h2;rw[iF,ho]at this;exact O9
theorem Ff (va vb:Value) (na nb ba:Bool) (xs ys:List Nat) (w:World) (ha:bH w va na xs) (hb:bH w vb nb ys) (h1:xs.length<=2147483648) (h2:ys.length<=2147483648) (hba:decide (ap na xs<0)=ba) (hs:decide (ap nb ys<0)=ba):
 Calls Tryz.prog 197 #[va,vb] w (bZ (ap na xs+ap nb ys) w):=by
 obtain⟨A,n,c,rfl,hx⟩:=ha;obtain⟨B,m,d,rfl,hy⟩:=hb;obtain⟨W,hW⟩:∃W,W=((w.alloc (.cells #[.bool na, .slice A n c] 36)).alloc (.cells #[.bool nb, .slice B m d] 36)).alloc (.cells #[.bool false, .slice none 0 0] 36):=⟨_,rfl⟩;obtain⟨hB,hbW⟩:=gJ w _ _ _ _ _ _ _ W hW;have hw:aK w W.drew:=hbW.drew;have hB0:=iy hB (aK.refl W).drew;clear hB hbW;have Hx:=Lib.hid hx;have Hy:=Lib.hid hy;have hl1:(digs (ap na xs).natAbs).length<=4294967296:=by rw[bD];exact bU hx.wd h1
 have hl2:(digs (ap nb ys).natAbs).length<=4294967296:=by rw[bD];exact bU hy.wd h2
 obtain⟨o,ho⟩:∃o,bL (ap na xs).natAbs (ap nb ys).natAbs=o:=⟨_,rfl⟩;have ho1:=trivial;have hl:=trivial
 obtain⟨z,hz⟩:∃z,z=ap na xs+ap nb ys:=⟨_,rfl⟩;have hz1:ap ba (digs (val (digs (ap na xs).natAbs)+val (digs (ap nb ys).natAbs)))=z:=(by rw[<- hba,hz];exact O7 _ _ (hba.trans hs.symm));rw[<- hz];have Hz:=Lib.hid hz1;have Hba:=Lib.hid hba;have Hs:=Lib.hid hs;have Ho:=Lib.hid ho;have Hl:=Lib.hid hl;have hb0:(ba == !ba)=false:=by cases ba<;>rfl
 clear hx hy hz hz1 hba hs ho hl
 go_enter func197,ntmps197
 go_wp2_with fail
 rw[<- hW];clear hW
 go_cut [5] (fun _ wx=>i7 w (ap na xs) (ap nb ys) wx)
 case first=>
  exact R6
 case rest=>
  generalize ap na xs=za at *;generalize ap nb ys=zb at *;obtain⟨A1,n1,c1,B1,m1,d1,hH,⟨cr0,cr1,fr0,fr1⟩,hx1,hy1⟩:=gu hcut Hba.out Hs.out;have hm1:n1<=4294967296:=by rw[<- hx1.len];exact hl1
  have hm2:m1<=4294967296:=by rw[<- hy1.len];exact hl2
  have Hx1:=Lib.hid hx1;have Hy1:=Lib.hid hy1;have hEw:aK wc wc:=aK.refl wc;have hEcw:=dO hH;clear hcut hx1 hy1 hw hB0;have hH':=hH;obtain⟨d0,d1',e0,e1,hE1⟩:=hH';have Hcmp:=Lib.hid (yL (A:=A1) (B:=B1) (n:=n1) (m:=m1) (c:=c1) (d:=d1) Ho.out)
  go_wp2_with (go_at_call 160;(with_reducible refine(Hcmp.out _ Hx1.out Hy1.out).mono ?_);rintro e w2 ⟨rfl,hb2⟩;have hH:=bT hH hb2;have hEw:aK wc w2:=hb2)
  have hH2:=bT hH (Below.drew (Below.refl _ _));have hEd:=aK.drew hEw;have Hx2:=Lib.hid (Hx1.out.ext hEd);have Hy2:=Lib.hid (Hy1.out.ext hEd);clear d0 d1' e0 e1 hE1 Hcmp hH hEw Hx1 Hy1
  skip
  go_region_held3 (fun w'=>w'.cell? ⟨w.heap.size,0,none⟩=some (.bool ba)/\w'.cell? ⟨w.heap.size,1,none⟩=some (.slice A1 n1 c1)/\w'.cell? ⟨w.heap.size+1,0,none⟩=some (.bool ba)/\w'.cell? ⟨w.heap.size+1,1,none⟩=some (.slice B1 m1 d1)/\aK w w')
   (with_reducible first|exact hH2|assumption|exact bT (by assumption) (by assumption)|exact jM (by assumption) (by omega) (by dsimp only;omega) (by dsimp only;omega) (by dsimp only;omega) (by dsimp only;omega))
   (first
    |((go_at_call 252;(with_reducible refine(KV _ _ _ _ _ _ (digs za.natAbs) (digs zb.natAbs) _ Hx2.out Hy2.out hm1 hm2).mono ?_);rintro e w1 ⟨A3,n3,c3,zs,rfl,hw1,rfl,hb1⟩))
    |((go_at_call 163;(with_reducible refine(dl hw1 Hz.out).mono ?_);rintro e w2 ⟨v2,rfl,⟨A2,n2,c2,rfl,hw2⟩,hb2⟩;have hE2:=aK.more (aK.more hEd hb1) hb2;have su0:=kc cr0 hE2;have su1:=kc cr1 hE2;have sf0:=kf cr0 fr0 hE2;have sf1:=kf cr1 fr1 hE2)))
  exact Rz
theorem E2 (va vb:Value) (na nb ba:Bool) (xs ys:List Nat) (w:World) (ha:bH w va na xs) (hb:bH w vb nb ys) (h1:xs.length<=2147483648) (h2:ys.length<=2147483648) (hba:decide (ap na xs<0)=ba) (hs:decide (ap nb ys<0)=!ba) (hl:(ap nb ys).natAbs<=(ap na xs).natAbs):
 Calls Tryz.prog 197 #[va,vb] w (bZ (ap na xs+ap nb ys) w):=by
 obtain⟨A,n,c,rfl,hx⟩:=ha;obtain⟨B,m,d,rfl,hy⟩:=hb;obtain⟨W,hW⟩:∃W,W=((w.alloc (.cells #[.bool na, .slice A n c] 36)).alloc (.cells #[.bool nb, .slice B m d] 36)).alloc (.cells #[.bool false, .slice none 0 0] 36):=⟨_,rfl⟩;obtain⟨hB,hbW⟩:=gJ w _ _ _ _ _ _ _ W hW;have hw:aK w W.drew:=hbW.drew;have hB0:=iy hB (aK.refl W).drew;clear hB hbW;have Hx:=Lib.hid hx;have Hy:=Lib.hid hy;have hl1:(digs (ap na xs).natAbs).length<=4294967296:=by rw[bD];exact bU hx.wd h1
 have hl2:(digs (ap nb ys).natAbs).length<=4294967296:=by rw[bD];exact bU hy.wd h2
 obtain⟨o,ho⟩:∃o,bL (ap na xs).natAbs (ap nb ys).natAbs=o:=⟨_,rfl⟩;have ho1:0<=o:=(by have:=gx (a:=((ap na xs).natAbs:Int)) (b:=(ap nb ys).natAbs) (by omega);omega);obtain⟨z,hz⟩:∃z,z=ap na xs+ap nb ys:=⟨_,rfl⟩;have hz1:ap ba (digs (val (digs (ap na xs).natAbs)-val (digs (ap nb ys).natAbs)))=z:=(by rw[<- hba,hz];exact QF _ _ (by rw[hba,hs];cases ba<;>simp) hl);rw[<- hz];have Hz:=Lib.hid hz1;have Hba:=Lib.hid hba;have Hs:=Lib.hid hs;have Ho:=Lib.hid ho;have Hl:=Lib.hid hl;have hb0:(ba == !ba)=false:=by cases ba<;>rfl
 clear hx hy hz hz1 hba hs ho hl
 go_enter func197,ntmps197
 go_wp2_with fail
 rw[<- hW];clear hW
 go_cut [5] (fun _ wx=>i7 w (ap na xs) (ap nb ys) wx)
 case first=>
  exact R6
 case rest=>
  generalize ap na xs=za at *;generalize ap nb ys=zb at *;obtain⟨A1,n1,c1,B1,m1,d1,hH,⟨cr0,cr1,fr0,fr1⟩,hx1,hy1⟩:=gu hcut Hba.out Hs.out;have hm1:n1<=4294967296:=by rw[<- hx1.len];exact hl1
  have hm2:m1<=4294967296:=by rw[<- hy1.len];exact hl2
  have Hx1:=Lib.hid hx1;have Hy1:=Lib.hid hy1;have hEw:aK wc wc:=aK.refl wc;have hEcw:=dO hH;clear hcut hx1 hy1 hw hB0;have hH':=hH;obtain⟨d0,d1',e0,e1,hE1⟩:=hH';have Hcmp:=Lib.hid (yL (A:=A1) (B:=B1) (n:=n1) (m:=m1) (c:=c1) (d:=d1) Ho.out)
  go_wp2_with (go_at_call 160;(with_reducible refine(Hcmp.out _ Hx1.out Hy1.out).mono ?_);rintro e w2 ⟨rfl,hb2⟩;have hH:=bT hH hb2;have hEw:aK wc w2:=hb2)
  have hH2:=bT hH (Below.drew (Below.refl _ _));have hEd:=aK.drew hEw;have Hx2:=Lib.hid (Hx1.out.ext hEd);have Hy2:=Lib.hid (Hy1.out.ext hEd);clear d0 d1' e0 e1 hE1 Hcmp hH hEw Hx1 Hy1;have HM:=Lib.hid (yB _ _ _ _ _ _ _ _ _ Hx2.out Hy2.out (by rw[ae,ae];exact Hl.out) hm1);exact RX
theorem Fa (va vb:Value) (na nb ba:Bool) (xs ys:List Nat) (w:World) (ha:bH w va na xs) (hb:bH w vb nb ys) (h1:xs.length<=2147483648) (h2:ys.length<=2147483648) (hba:decide (ap na xs<0)=ba) (hs:decide (ap nb ys<0)=!ba) (hl:(ap na xs).natAbs<(ap nb ys).natAbs):
 Calls Tryz.prog 197 #[va,vb] w (bZ (ap na xs+ap nb ys) w):=by
 obtain⟨A,n,c,rfl,hx⟩:=ha;obtain⟨B,m,d,rfl,hy⟩:=hb;obtain⟨W,hW⟩:∃W,W=((w.alloc (.cells #[.bool na, .slice A n c] 36)).alloc (.cells #[.bool nb, .slice B m d] 36)).alloc (.cells #[.bool false, .slice none 0 0] 36):=⟨_,rfl⟩;obtain⟨hB,hbW⟩:=gJ w _ _ _ _ _ _ _ W hW;have hw:aK w W.drew:=hbW.drew;have hB0:=iy hB (aK.refl W).drew;clear hB hbW;have Hx:=Lib.hid hx;have Hy:=Lib.hid hy;have hl1:(digs (ap na xs).natAbs).length<=4294967296:=by rw[bD];exact bU hx.wd h1
 have hl2:(digs (ap nb ys).natAbs).length<=4294967296:=by rw[bD];exact bU hy.wd h2
 obtain⟨o,ho⟩:∃o,bL (ap na xs).natAbs (ap nb ys).natAbs=o:=⟨_,rfl⟩;have ho1:¬0<=o:=(by have:=eV (a:=((ap na xs).natAbs:Int)) (b:=(ap nb ys).natAbs) (by omega);omega);obtain⟨z,hz⟩:∃z,z=ap na xs+ap nb ys:=⟨_,rfl⟩;have hz1:ap (!ba) (digs (val (digs (ap nb ys).natAbs)-val (digs (ap na xs).natAbs)))=z:=(by rw[<- hs,hz];exact PW _ _ (by rw[hba,hs];cases ba<;>simp) hl);rw[<- hz];have Hz:=Lib.hid hz1;have Hba:=Lib.hid hba;have Hs:=Lib.hid hs;have Ho:=Lib.hid ho;have Hl:=Lib.hid hl;have hb0:(ba == !ba)=false:=by cases ba<;>rfl
 clear hx hy hz hz1 hba hs ho hl
 go_enter func197,ntmps197
 go_wp2_with fail
 rw[<- hW];clear hW
 go_cut [5] (fun _ wx=>i7 w (ap na xs) (ap nb ys) wx)
 case first=>
  exact R6
 case rest=>
  generalize ap na xs=za at *;generalize ap nb ys=zb at *;obtain⟨A1,n1,c1,B1,m1,d1,hH,⟨cr0,cr1,fr0,fr1⟩,hx1,hy1⟩:=gu hcut Hba.out Hs.out;have hm1:n1<=4294967296:=by rw[<- hx1.len];exact hl1
  have hm2:m1<=4294967296:=by rw[<- hy1.len];exact hl2
  have Hx1:=Lib.hid hx1;have Hy1:=Lib.hid hy1;have hEw:aK wc wc:=aK.refl wc;have hEcw:=dO hH;clear hcut hx1 hy1 hw hB0;have hH':=hH;obtain⟨d0,d1',e0,e1,hE1⟩:=hH';have Hcmp:=Lib.hid (yL (A:=A1) (B:=B1) (n:=n1) (m:=m1) (c:=c1) (d:=d1) Ho.out)
  go_wp2_with (go_at_call 160;(with_reducible refine(Hcmp.out _ Hx1.out Hy1.out).mono ?_);rintro e w2 ⟨rfl,hb2⟩;have hH:=bT hH hb2;have hEw:aK wc w2:=hb2)
  have hH2:=bT hH (Below.drew (Below.refl _ _));have hEd:=aK.drew hEw;have Hx2:=Lib.hid (Hx1.out.ext hEd);have Hy2:=Lib.hid (Hy1.out.ext hEd);clear d0 d1' e0 e1 hE1 Hcmp hH hEw Hx1 Hy1;have HM:=Lib.hid (yB _ _ _ _ _ _ _ _ _ Hy2.out Hx2.out (by rw[ae,ae];exact Nat.le_of_lt Hl.out) hm2);exact RX
theorem Bx (va vb:Value) (na nb:Bool) (xs ys:List Nat) (w:World) (ha:bH w va na xs) (hb:bH w vb nb ys) (h1:xs.length<=2147483648) (h2:ys.length<=2147483648):
 Calls Tryz.prog 197 #[va,vb] w (bZ (ap na xs+ap nb ys) w):=by
 by_cases hn:decide (ap nb ys<0)=decide (ap na xs<0)
 ·exact Ff va vb na nb _ xs ys w ha hb h1 h2 rfl hn
 ·by_cases hl:(ap na xs).natAbs<(ap nb ys).natAbs
  ·exact Fa va vb na nb _ xs ys w ha hb h1 h2 rfl (ko hn) hl
  ·exact E2 va vb na nb _ xs ys w ha hb h1 h2 rfl (ko hn) (by omega)
end
section
attribute [local go_sem ↓] Go.wp_at_zero Go.wp_at_succ
theorem oA {xs:List Nat} (h:Wd xs) (na:Bool) (k:Nat) (h1:xs.length<=k):(digs (ap na xs).natAbs).length<=k:=by
 rw[bD];exact Nat.le_trans (bF h) h1
theorem bH.wd {w:World} {v:Value} {na:Bool} {xs:List Nat} (h:bH w v na xs):Wd xs:=by
 obtain⟨_,_,_,_,h⟩:=h;exact h.wd
theorem OC (va vb:Value) (na nb:Bool) (xs ys:List Nat) (w:World) (ha:bH w va na xs) (hb:bH w vb nb ys) (h1:xs.length<=2147483648) (h2:ys.length<=2147483648):
 Calls Tryz.prog 234 #[va,vb] w (bZ (ap na xs-ap nb ys) w):=by
 have hl2:(digs (-ap nb ys).natAbs).length<=2147483648:=by rw[Int.natAbs_neg];exact oA hb.wd nb _ h2
 obtain⟨A,n,c,rfl,hx⟩:=ha;obtain⟨B,m,d,rfl,hy⟩:=hb;obtain⟨W,hW⟩:∃W,W=((w.alloc (.cells #[.bool na, .slice A n c] 36)).alloc (.cells #[.bool nb, .slice B m d] 36)).alloc (.cells #[.bool false, .slice none 0 0] 36):=⟨_,rfl⟩;obtain⟨⟨ca0,ca1,cb0,cb1⟩,⟨cr0,cr1,fr0,fr1⟩,hbW⟩:=gA w _ _ _ _ _ _ _ W hW;have hH:=bT ⟨ca0,ca1,cb0,cb1,hbW⟩ (Below.drew (Below.refl _ _));have hEd:aK W W.drew:=(aK.refl W).drew;obtain⟨z,hz⟩:∃z,z=ap na xs-ap nb ys:=⟨_,rfl⟩;rw[<- hz];have hz':ap na xs+ -ap nb ys=z:=by omega
 have HA:=fun W' v (h:bH W' (.agg #[.bool na, .slice A n c]) na xs) (h':dz W' v (-ap nb ys))=>by
  have:=Bx _ _ na _ xs _ W' h h' h1 hl2;rw[aP,hz']at this;exact this
 have HA:=Lib.hid HA;have Hx:=Lib.hid hx;have Hy:=Lib.hid hy;clear hx hy hz hz' hl2
 go_enter func234,ntmps234
 go_wp2_with fail
 rw[<- hW];clear hW
 go_region_held3 (fun w'=>w'.cell? ⟨w.heap.size,0,none⟩=some (.bool na)/\w'.cell? ⟨w.heap.size,1,none⟩=some (.slice A n c)/\w'.cell? ⟨w.heap.size+1,0,none⟩=some (.bool nb)/\w'.cell? ⟨w.heap.size+1,1,none⟩=some (.slice B m d)/\aK w w')
  (with_reducible first|exact hH|assumption|exact bT (by assumption) (by assumption)|exact jM (by assumption) (by omega) (by dsimp only;omega) (by dsimp only;omega) (by dsimp only;omega) (by dsimp only;omega))
  (first
   |((go_at_call 102;(with_reducible refine(HG _ nb ys _ (eM Hy.out (dO hH))).mono ?_);rintro e w1 ⟨v1,rfl,hv1,hb1⟩;have hH1:=bT hH hb1;have hE1:=aK.more hEd hb1))
   |((go_at_call 197;(with_reducible refine(HA.out _ _ (eM Hx.out (dO hH1)) hv1).mono ?_);rintro e w2 ⟨v2,rfl,⟨A2,n2,c2,rfl,hw2⟩,hb2⟩;have hE2:=aK.more hE1 hb2;have su0:=kc cr0 hE2;have su1:=kc cr1 hE2;have sf0:=kf cr0 fr0 hE2;have sf1:=kf cr1 fr1 hE2)))
 go_wp2_with fail
 exact bodyPost_ret (v:= .agg #[.bool (decide (z<0)), .slice A2 n2 c2]) (by simp[results,results234,go_sem,su0,su1]) rfl (eW su0 su1 hw2 (hbW.trans hE2) (by omega))
theorem mF {v:Value} {z:Int} {w:World} (h:dz w v z):Calls Tryz.prog 103 #[v] w (rk z.sign w):=by
 have:=CD v _ _ w h
 rwa[aP]at this
end
end Go.Proofs.YtmkggcjajcdlcaaGreatDoor
