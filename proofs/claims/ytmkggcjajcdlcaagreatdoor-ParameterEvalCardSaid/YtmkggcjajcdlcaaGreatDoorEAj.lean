/- Add of the program. Cmp of the program; Sign, Add, Sub and Cmp of the reference. Sign, Add, Sub and Cmp of the reference. Sub and Cmp of the reference; the sums' law. -/
import Derived.Test.YtmkggcjajcdlcaaGreatDoorEAi
set_option maxHeartbeats 100000000
set_option linter.all false
open Go.Proofs.Tryz
namespace Go.Proofs.YtmkggcjajcdlcaaGreatDoor
open Go.RowKit
section
attribute [local go_sem ↓] Go.wp_at_zero Go.wp_at_succ
theorem dY {W w:World} {p1 p2 p3 p4:Addr} {v1 v2 v3 v4:Value} (h:w.cell? p1=some v1/\w.cell? p2=some v2/\w.cell? p3=some v3/\w.cell? p4=some v4/\aO W w):aO W w:=h.2.2.2.2
theorem BJ (na:Bool) (xs ys zs:List Nat) (h:val zs=val xs+val ys):ar na zs=ar na xs+ar na ys:=by
 unfold ar;rw[h];cases na<;>simp;omega
theorem CC (na:Bool) (xs ys:List Nat) (h:val xs<val ys):ar (!na) (digs (val (trim ys)-val (trim xs)))=ar na xs+ar (!na) ys:=by
 unfold ar;rw[af,aP,aP];cases na<;>simp <;>omega
theorem Cv (na:Bool) (xs ys:List Nat) (h:val ys<=val xs):ar na (digs (val (trim xs)-val (trim ys)))=ar na xs+ar (!na) ys:=by
 unfold ar;rw[af,aP,aP];cases na<;>simp <;>omega
theorem lP {na nb:Bool} (h:nb≠na):nb=!na:=by cases na<;>cases nb<;>simp_all
theorem lW (xs ys:List Nat):iG (trim xs) (trim ys)=bU (val xs) (val ys):=ji _ _
theorem JL (va vb:Value) (na nb:Bool) (xs ys:List Nat) (w:World) (ha:bP w va na xs) (hb:bP w vb nb ys) (h1:xs.length<=2147483648) (h2:ys.length<=2147483648) (hn:na=nb) (z:Int) (hz:z=ar na xs+ar nb ys):
 Calls Tryz.prog 141 #[va,vb] w (cI z w):=by
 obtain⟨A,n,c,rfl,hx⟩:=ha;obtain⟨B,m,d,rfl,hy⟩:=hb;subst hn;obtain⟨W,hW⟩:∃W,W=((w.alloc (.cells #[.bool na, .slice A n c] 36)).alloc (.cells #[.bool na, .slice B m d] 36)).alloc (.cells #[.bool false, .slice none 0 0] 36):=⟨_,rfl⟩;obtain⟨⟨ca0,ca1,cb0,cb1⟩,⟨cr0,cr1,fr0,fr1⟩,hbW⟩:=gW w _ _ _ _ _ _ _ W hW;have hl1:=bZ hx.wd h1;have hl2:=bZ hy.wd h2;have Hx:=Lib.hid hx;have Hy:=Lib.hid hy;have hH:=b5 ⟨ca0,ca1,cb0,cb1,hbW⟩ (Below.drew (Below.refl _ _));have hcmp:=fun W' (h1:aJ W' A (trim xs).length c (trim xs)) (h2:aJ W' B (trim ys).length d (trim ys))=>gb A B (trim xs).length (trim ys).length c d (trim xs) (trim ys) W' h1 h2
 rw[lW]at hcmp;obtain⟨o,ho⟩:∃o,o=bU (val xs) (val ys):=⟨_,rfl⟩;rw[<- ho]at hcmp;have HZ:Hid (∀zs,val zs=val (trim xs)+val (trim ys)->ar na zs=z):=fun zs hzs=>(BJ na xs ys zs (by rw[hzs,aP,aP])).trans hz.symm
 have Hcmp:=Lib.hid hcmp;have Ho:=Lib.hid ho;have ho1:True:=trivial;have hb0:(na == !na)=false:=by cases na<;>rfl
 clear hx hy hz hcmp ho
 go_enter func141,ntmps141
 go_wp2_with fail
 rw[<- hW];clear hW
 go_region_held3 (fun w'=>w'.cell? ⟨w.heap.size,0,none⟩=some (.bool na)/\w'.cell? ⟨w.heap.size,1,none⟩=some (.slice A n c)/\w'.cell? ⟨w.heap.size+1,0,none⟩=some (.bool na)/\w'.cell? ⟨w.heap.size+1,1,none⟩=some (.slice B m d)/\aO w w')
  (with_reducible first|exact hH|assumption|exact b5 (by assumption) (by assumption))
  (first
   |((go_at_call 199;(with_reducible refine(bV A n c xs _ (Hx.out.ext (dY (by assumption)))).mono ?_);rintro e w' ⟨rfl,rfl⟩))
   |((go_at_call 199;(with_reducible refine(bV B m d ys _ (Hy.out.ext (dY (by assumption)))).mono ?_);rintro e w' ⟨rfl,rfl⟩)))
 obtain⟨W1,hW1⟩:∃W1,W1=W.drew:=⟨_,rfl⟩;rw[<- hW1]at hH ⊢;have hEc:aO W W1:=by rw[hW1];exact(aO.refl W).drew
 have hH':=hH;obtain⟨d0,d1,e0,e1,hE1⟩:=hH';clear hW1
 go_wp2_with (go_at_call 202;(with_reducible refine(Hcmp.out _ (Hx.out.trim.ext hE1) (Hy.out.trim.ext hE1)).mono ?_);rintro e w2 ⟨rfl,q,rfl⟩;have hH:=b5 hH (b8 _ q);have hEc:=hEc.trans (b8 _ q))
 skip
 have hH2:=b5 hH (Below.drew (Below.refl _ _));have hEd:=aO.drew hEc;clear d0 d1 e0 e1 hE1 Hcmp hH hEc
 go_region_held3 (fun w'=>w'.cell? ⟨w.heap.size,0,none⟩=some (.bool na)/\w'.cell? ⟨w.heap.size,1,none⟩=some (.slice A n c)/\w'.cell? ⟨w.heap.size+1,0,none⟩=some (.bool na)/\w'.cell? ⟨w.heap.size+1,1,none⟩=some (.slice B m d)/\aO w w')
  (with_reducible first|exact hH2|assumption|exact b5 (by assumption) (by assumption)|exact kh (by assumption) (by omega) (by dsimp only;omega) (by dsimp only;omega) (by dsimp only;omega) (by dsimp only;omega))
  (first
   |((go_at_call 201;(with_reducible refine(Jn _ _ _ _ _ _ (trim xs) (trim ys) _ (Hx.out.trim.ext (dY (by assumption))) (Hy.out.trim.ext (dY (by assumption))) hl1 hl2).mono ?_);rintro e w1 ⟨A1,n1,c1,zs,rfl,hw1,⟨hzs,-⟩,hb1⟩;have hzz:=HZ.out zs hzs))
   |((go_at_call 200;(with_reducible refine(bT hw1 hzz).mono ?_);rintro e w2 ⟨v2,rfl,⟨A2,n2,c2,rfl,hw2⟩,hb2⟩;have hE2:=aO.more (aO.more hEd hb1) hb2;have su0:=kc cr0 hE2;have su1:=kc cr1 hE2;have sf0:=kf cr0 fr0 hE2;have sf1:=kf cr1 fr1 hE2)))
 go_wp2_with fail
 exact bodyPost_ret (v:= .agg #[.bool (decide (z<0)), .slice A2 n2 c2]) (by simp[results,results141,go_sem,su0,su1]) rfl (fg su0 su1 hw2 (hbW.trans hE2) (by omega))
theorem Jj (va vb:Value) (na nb:Bool) (xs ys:List Nat) (w:World) (ha:bP w va na xs) (hb:bP w vb nb ys) (h1:xs.length<=2147483648) (h2:ys.length<=2147483648) (hn:nb=!na) (hl:val xs<val ys) (z:Int) (hz:z=ar na xs+ar nb ys):
 Calls Tryz.prog 141 #[va,vb] w (cI z w):=by
 obtain⟨A,n,c,rfl,hx⟩:=ha;obtain⟨B,m,d,rfl,hy⟩:=hb;subst hn;obtain⟨W,hW⟩:∃W,W=((w.alloc (.cells #[.bool na, .slice A n c] 36)).alloc (.cells #[.bool (!na), .slice B m d] 36)).alloc (.cells #[.bool false, .slice none 0 0] 36):=⟨_,rfl⟩;obtain⟨⟨ca0,ca1,cb0,cb1⟩,⟨cr0,cr1,fr0,fr1⟩,hbW⟩:=gW w _ _ _ _ _ _ _ W hW;have hl1:=bZ hx.wd h1;have hl2:=bZ hy.wd h2;have Hx:=Lib.hid hx;have Hy:=Lib.hid hy;have hH:=b5 ⟨ca0,ca1,cb0,cb1,hbW⟩ (Below.drew (Below.refl _ _));have hcmp:=fun W' (h1:aJ W' A (trim xs).length c (trim xs)) (h2:aJ W' B (trim ys).length d (trim ys))=>gb A B (trim xs).length (trim ys).length c d (trim xs) (trim ys) W' h1 h2
 rw[lW]at hcmp;obtain⟨o,ho⟩:∃o,o=bU (val xs) (val ys):=⟨_,rfl⟩;rw[<- ho]at hcmp;have HZ:Hid (ar (!na) (digs (val (trim ys)-val (trim xs)))=z):=(CC na xs ys hl).trans hz.symm;have Hcmp:=Lib.hid hcmp;have Ho:=Lib.hid ho;have HM:=Lib.hid (fun W' h1 h2=>xx B A (trim ys).length (trim xs).length d c (trim ys) (trim xs) W' h1 h2 (by have h3:=aP xs;have h4:=aP ys;omega) hl2);have ho1:o<0:=by have:=fe (a:=(val xs:Int)) (b:=val ys) (by omega);omega
 have hb0:(na == !na)=false:=by cases na<;>rfl
 clear hx hy hz hcmp ho
 go_enter func141,ntmps141
 go_wp2_with fail
 rw[<- hW];clear hW
 go_region_held3 (fun w'=>w'.cell? ⟨w.heap.size,0,none⟩=some (.bool na)/\w'.cell? ⟨w.heap.size,1,none⟩=some (.slice A n c)/\w'.cell? ⟨w.heap.size+1,0,none⟩=some (.bool (!na))/\w'.cell? ⟨w.heap.size+1,1,none⟩=some (.slice B m d)/\aO w w')
  (with_reducible first|exact hH|assumption|exact b5 (by assumption) (by assumption))
  (first
   |((go_at_call 199;(with_reducible refine(bV A n c xs _ (Hx.out.ext (dY (by assumption)))).mono ?_);rintro e w' ⟨rfl,rfl⟩))
   |((go_at_call 199;(with_reducible refine(bV B m d ys _ (Hy.out.ext (dY (by assumption)))).mono ?_);rintro e w' ⟨rfl,rfl⟩)))
 obtain⟨W1,hW1⟩:∃W1,W1=W.drew:=⟨_,rfl⟩;rw[<- hW1]at hH ⊢;have hEc:aO W W1:=by rw[hW1];exact(aO.refl W).drew
 have hH':=hH;obtain⟨d0,d1,e0,e1,hE1⟩:=hH';clear hW1
 go_wp2_with (go_at_call 202;(with_reducible refine(Hcmp.out _ (Hx.out.trim.ext hE1) (Hy.out.trim.ext hE1)).mono ?_);rintro e w2 ⟨rfl,q,rfl⟩;have hH:=b5 hH (b8 _ q);have hEc:=hEc.trans (b8 _ q))
 generalize W1.drewN q=W2 at *;have hH2:=b5 hH (Below.drew (Below.refl _ _));have hEd:=aO.drew hEc;clear d0 d1 e0 e1 hE1 Hcmp hH hEc
 go_region_held3 (fun w'=>w'.cell? ⟨w.heap.size,0,none⟩=some (.bool na)/\w'.cell? ⟨w.heap.size,1,none⟩=some (.slice A n c)/\w'.cell? ⟨w.heap.size+1,0,none⟩=some (.bool (!na))/\w'.cell? ⟨w.heap.size+1,1,none⟩=some (.slice B m d)/\aO w w')
  (with_reducible first|exact hH2|assumption|exact b5 (by assumption) (by assumption)|exact kh (by assumption) (by omega) (by dsimp only;omega) (by dsimp only;omega) (by dsimp only;omega) (by dsimp only;omega))
  (first
   |((go_at_call 203;(with_reducible refine(HM.out _ (Hy.out.trim.ext (dY (by assumption))) (Hx.out.trim.ext (dY (by assumption)))).mono ?_);rintro e w1 ⟨A1,n1,c1,zs,rfl,hw1,rfl,hb1⟩;have hzz:=HZ.out))
   |((go_at_call 200;(with_reducible refine(bT hw1 hzz).mono ?_);rintro e w2 ⟨v2,rfl,⟨A2,n2,c2,rfl,hw2⟩,hb2⟩;have hE2:=aO.more (aO.more hEd hb1) hb2;have su0:=kc cr0 hE2;have su1:=kc cr1 hE2;have sf0:=kf cr0 fr0 hE2;have sf1:=kf cr1 fr1 hE2)))
 go_wp2_with fail
 exact bodyPost_ret (v:= .agg #[.bool (decide (z<0)), .slice A2 n2 c2]) (by simp[results,results141,go_sem,su0,su1]) rfl (fg su0 su1 hw2 (hbW.trans hE2) (by omega))
theorem JP (va vb:Value) (na nb:Bool) (xs ys:List Nat) (w:World) (ha:bP w va na xs) (hb:bP w vb nb ys) (h1:xs.length<=2147483648) (h2:ys.length<=2147483648) (hn:nb=!na) (hl:val ys<=val xs) (z:Int) (hz:z=ar na xs+ar nb ys):
 Calls Tryz.prog 141 #[va,vb] w (cI z w):=by
 obtain⟨A,n,c,rfl,hx⟩:=ha;obtain⟨B,m,d,rfl,hy⟩:=hb;subst hn;obtain⟨W,hW⟩:∃W,W=((w.alloc (.cells #[.bool na, .slice A n c] 36)).alloc (.cells #[.bool (!na), .slice B m d] 36)).alloc (.cells #[.bool false, .slice none 0 0] 36):=⟨_,rfl⟩;obtain⟨⟨ca0,ca1,cb0,cb1⟩,⟨cr0,cr1,fr0,fr1⟩,hbW⟩:=gW w _ _ _ _ _ _ _ W hW;have hl1:=bZ hx.wd h1;have hl2:=bZ hy.wd h2;have Hx:=Lib.hid hx;have Hy:=Lib.hid hy;have hH:=b5 ⟨ca0,ca1,cb0,cb1,hbW⟩ (Below.drew (Below.refl _ _));have hcmp:=fun W' (h1:aJ W' A (trim xs).length c (trim xs)) (h2:aJ W' B (trim ys).length d (trim ys))=>gb A B (trim xs).length (trim ys).length c d (trim xs) (trim ys) W' h1 h2
 rw[lW]at hcmp;obtain⟨o,ho⟩:∃o,o=bU (val xs) (val ys):=⟨_,rfl⟩;rw[<- ho]at hcmp;have HZ:Hid (ar na (digs (val (trim xs)-val (trim ys)))=z):=(Cv na xs ys hl).trans hz.symm;have Hcmp:=Lib.hid hcmp;have Ho:=Lib.hid ho;have HM:=Lib.hid (fun W' h1 h2=>xx A B (trim xs).length (trim ys).length c d (trim xs) (trim ys) W' h1 h2 (by have h3:=aP xs;have h4:=aP ys;omega) hl1);have ho1:¬o<0:=by have:=gQ (a:=(val xs:Int)) (b:=val ys) (by omega);omega
 have hb0:(na == !na)=false:=by cases na<;>rfl
 clear hx hy hz hcmp ho
 go_enter func141,ntmps141
 go_wp2_with fail
 rw[<- hW];clear hW
 go_region_held3 (fun w'=>w'.cell? ⟨w.heap.size,0,none⟩=some (.bool na)/\w'.cell? ⟨w.heap.size,1,none⟩=some (.slice A n c)/\w'.cell? ⟨w.heap.size+1,0,none⟩=some (.bool (!na))/\w'.cell? ⟨w.heap.size+1,1,none⟩=some (.slice B m d)/\aO w w')
  (with_reducible first|exact hH|assumption|exact b5 (by assumption) (by assumption))
  (first
   |((go_at_call 199;(with_reducible refine(bV A n c xs _ (Hx.out.ext (dY (by assumption)))).mono ?_);rintro e w' ⟨rfl,rfl⟩))
   |((go_at_call 199;(with_reducible refine(bV B m d ys _ (Hy.out.ext (dY (by assumption)))).mono ?_);rintro e w' ⟨rfl,rfl⟩)))
 obtain⟨W1,hW1⟩:∃W1,W1=W.drew:=⟨_,rfl⟩;rw[<- hW1]at hH ⊢;have hEc:aO W W1:=by rw[hW1];exact(aO.refl W).drew
 have hH':=hH;obtain⟨d0,d1,e0,e1,hE1⟩:=hH';clear hW1
 go_wp2_with (go_at_call 202;(with_reducible refine(Hcmp.out _ (Hx.out.trim.ext hE1) (Hy.out.trim.ext hE1)).mono ?_);rintro e w2 ⟨rfl,q,rfl⟩;have hH:=b5 hH (b8 _ q);have hEc:=hEc.trans (b8 _ q))
 generalize W1.drewN q=W2 at *;have hH2:=b5 hH (Below.drew (Below.refl _ _));have hEd:=aO.drew hEc;clear d0 d1 e0 e1 hE1 Hcmp hH hEc
 go_region_held3 (fun w'=>w'.cell? ⟨w.heap.size,0,none⟩=some (.bool na)/\w'.cell? ⟨w.heap.size,1,none⟩=some (.slice A n c)/\w'.cell? ⟨w.heap.size+1,0,none⟩=some (.bool (!na))/\w'.cell? ⟨w.heap.size+1,1,none⟩=some (.slice B m d)/\aO w w')
  (with_reducible first|exact hH2|assumption|exact b5 (by assumption) (by assumption)|exact kh (by assumption) (by omega) (by dsimp only;omega) (by dsimp only;omega) (by dsimp only;omega) (by dsimp only;omega))
  (first
   |((go_at_call 203;(with_reducible refine(HM.out _ (Hx.out.trim.ext (dY (by assumption))) (Hy.out.trim.ext (dY (by assumption)))).mono ?_);rintro e w1 ⟨A1,n1,c1,zs,rfl,hw1,rfl,hb1⟩;have hzz:=HZ.out))
   |((go_at_call 200;(with_reducible refine(bT hw1 hzz).mono ?_);rintro e w2 ⟨v2,rfl,⟨A2,n2,c2,rfl,hw2⟩,hb2⟩;have hE2:=aO.more (aO.more hEd hb1) hb2;have su0:=kc cr0 hE2;have su1:=kc cr1 hE2;have sf0:=kf cr0 fr0 hE2;have sf1:=kf cr1 fr1 hE2)))
 go_wp2_with fail
 exact bodyPost_ret (v:= .agg #[.bool (decide (z<0)), .slice A2 n2 c2]) (by simp[results,results141,go_sem,su0,su1]) rfl (fg su0 su1 hw2 (hbW.trans hE2) (by omega))
theorem RJ (va vb:Value) (na nb:Bool) (xs ys:List Nat) (w:World) (ha:bP w va na xs) (hb:bP w vb nb ys) (h1:xs.length<=2147483648) (h2:ys.length<=2147483648):
 Calls Tryz.prog 141 #[va,vb] w (cI (ar na xs+ar nb ys) w):=by
 by_cases hn:nb=na
 ·exact JL va vb na nb xs ys w ha hb h1 h2 hn.symm _ rfl
 ·by_cases hl:val xs<val ys
  ·exact Jj va vb na nb xs ys w ha hb h1 h2 (lP hn) hl _ rfl
  ·exact JP va vb na nb xs ys w ha hb h1 h2 (lP hn) (by omega) _ rfl
end
section
attribute [local go_sem ↓] Go.wp_at_zero Go.wp_at_succ
theorem Gu (na:Bool) (xs:List Nat):tt na xs= -1∨tt na xs=0∨tt na xs=1:=by unfold tt;split <;>(try split)<;>simp
theorem Py (na nb:Bool) (xs ys:List Nat) (h:tt na xs≠tt nb ys):bU (tt na xs) (tt nb ys)=bU (ar na xs) (ar nb ys):=by
 unfold tt ar bU at *;cases na<;>cases nb<;>by_cases h1:val xs=0<;>by_cases h2:val ys=0<;>simp_all <;>(repeat' split)<;>omega
theorem Q1 (na nb:Bool) (xs ys:List Nat) (s:Int) (h1:tt na xs=s) (h2:tt nb ys=s):s*bU (val xs) (val ys)=bU (ar na xs) (ar nb ys):=by
 subst h1;unfold tt ar bU at *;cases na<;>cases nb<;>by_cases h1:val xs=0<;>by_cases h3:val ys=0<;>simp_all <;>(repeat' split)<;>omega
theorem It {o:Int} {A B:Option Addr} {n m c d:Nat} {xs ys:List Nat} (ho:bU (val xs) (val ys)=o) (W:World) (h1:aJ W A n c (trim xs)) (h2:aJ W B m d (trim ys)):Calls Tryz.prog 202 #[.slice A n c, .slice B m d] W (tu o W):=by
 have:=gb A B n m c d (trim xs) (trim ys) W h1 h2;rw[lW,ho]at this;exact Qq
theorem Tl (va vb:Value) (na nb:Bool) (xs ys:List Nat) (w:World) (ha:bP w va na xs) (hb:bP w vb nb ys):
 Calls Tryz.prog 157 #[va,vb] w (tu (bU (ar na xs) (ar nb ys)) w):=by
 obtain⟨A,n,c,rfl,hx⟩:=ha;obtain⟨B,m,d,rfl,hy⟩:=hb;obtain⟨W,hW⟩:∃W,W=(w.alloc (.cells #[.bool na, .slice A n c] 36)).alloc (.cells #[.bool nb, .slice B m d] 36):=⟨_,rfl⟩;obtain⟨⟨ca0,ca1,cb0,cb1⟩,hbW⟩:=zG w _ _ _ _ _ W hW;have hH:=b5 ⟨ca0,ca1,cb0,cb1,hbW⟩ (Below.drew (Below.refl _ _));have hne:=Py na nb xs ys;have heq:=Q1 na nb xs ys;have hr1:=Gu na xs;have hs1:=fun W' h=>BI (.agg #[.bool na, .slice A n c]) na xs W' h
 have hs2:=fun W' h=>BI (.agg #[.bool nb, .slice B m d]) nb ys W' h
 obtain⟨s,hs⟩:∃s,s=tt na xs:=⟨_,rfl⟩;obtain⟨t,ht⟩:∃t,t=tt nb ys:=⟨_,rfl⟩;obtain⟨z,hz⟩:∃z,z=bU (ar na xs) (ar nb ys):=⟨_,rfl⟩;rw[<- hz];rw[<- hs]at hs1;rw[<- ht]at hs2;rw[<- hs,<- ht,<- hz]at hne;rw[<- hs]at hr1;have Hx:=Lib.hid hx;have Hy:=Lib.hid hy;have Hs1:=Lib.hid hs1;have Hs2:=Lib.hid hs2;have Hne:=Lib.hid hne
 by_cases hst:s=t
 ·subst hst
  have hz':=heq s hs.symm ht.symm;obtain⟨o,ho⟩:∃o,bU (val xs) (val ys)=o:=⟨_,rfl⟩;rw[ho,<- hz]at hz';have Hcmp:=Lib.hid (It (A:=A) (B:=B) (n:=(trim xs).length) (m:=(trim ys).length) (c:=c) (d:=d) ho);have hob:=CW (val xs) (val ys);rw[ho]at hob;clear hx hy hs1 hs2 hne heq hs ht hz ho;rcases hr1 with rfl|rfl|rfl
  all_goals(
   have hzz:z=_:=hz'.symm;clear hz';have Hzz:=Lib.hid hzz;clear hzz
   go_enter func157,ntmps157
   go_wp2_with fail
   rw[<- hW];clear hW
   go_region_held3 (fun w'=>w'.cell? ⟨w.heap.size,0,none⟩=some (.bool na)/\w'.cell? ⟨w.heap.size,1,none⟩=some (.slice A n c)/\w'.cell? ⟨w.heap.size+1,0,none⟩=some (.bool nb)/\w'.cell? ⟨w.heap.size+1,1,none⟩=some (.slice B m d)/\aO w w')
    (with_reducible first|exact hH|assumption|exact b5 (by assumption) (by assumption))
    (first
     |((go_at_call 222;(with_reducible refine(Hs1.out _ (fc Hx.out (dY (by assumption)))).mono ?_);rintro e w1 ⟨rfl,hb1⟩;have hH1:=b5 hH hb1))
     |((go_at_call 222;(with_reducible refine(Hs2.out _ (fc Hy.out (dY hH1))).mono ?_);rintro e w2 ⟨rfl,hb2⟩;have hH2:=b5 hH1 hb2)))
   have hH3:=b5 hH2 (Below.drew (Below.refl _ _));clear hH1
   go_wp2_with fail
   go_region_held3 (fun w'=>w'.cell? ⟨w.heap.size,0,none⟩=some (.bool na)/\w'.cell? ⟨w.heap.size,1,none⟩=some (.slice A n c)/\w'.cell? ⟨w.heap.size+1,0,none⟩=some (.bool nb)/\w'.cell? ⟨w.heap.size+1,1,none⟩=some (.slice B m d)/\aO w w')
    (with_reducible first|exact hH3|assumption|exact b5 (by assumption) (b8 _ _)|exact b5 (by assumption) (by assumption))
    (first
     |((go_at_call 199;(with_reducible refine(bV A n c xs _ (Hx.out.ext (dY hH3))).mono ?_);rintro e w' ⟨rfl,rfl⟩))
     |((go_at_call 199;(with_reducible refine(bV B m d ys _ (Hy.out.ext (dY hH3))).mono ?_);rintro e w' ⟨rfl,rfl⟩))
     |((go_at_call 202;(with_reducible refine(Hcmp.out _ (Hx.out.trim.ext (dY hH3)) (Hy.out.trim.ext (dY hH3))).mono ?_);rintro e w3 ⟨rfl,hb3⟩;have hE3:=dY (b5 hH3 hb3))))
   go_wp2_with fail
   go_ret
   refine⟨DJ ?_,hE3⟩;have:=Hzz.out
   first|omega|(rw[IntWalk.i64_in _ (by omega)];omega))
 ·have hz':=hne hst
  have Hz:=Lib.hid hz';have hst':(s == t)=false:=by simpa using hst
  clear hx hy hs1 hs2 hne heq hs ht hz hst hz' hr1
  go_enter func157,ntmps157
  go_wp2_with fail
  rw[<- hW];clear hW
  go_region_held3 (fun w'=>w'.cell? ⟨w.heap.size,0,none⟩=some (.bool na)/\w'.cell? ⟨w.heap.size,1,none⟩=some (.slice A n c)/\w'.cell? ⟨w.heap.size+1,0,none⟩=some (.bool nb)/\w'.cell? ⟨w.heap.size+1,1,none⟩=some (.slice B m d)/\aO w w')
   (with_reducible first|exact hH|assumption|exact b5 (by assumption) (by assumption))
   (first
    |((go_at_call 222;(with_reducible refine(Hs1.out _ (fc Hx.out (dY (by assumption)))).mono ?_);rintro e w1 ⟨rfl,hb1⟩;have hH1:=b5 hH hb1))
    |((go_at_call 222;(with_reducible refine(Hs2.out _ (fc Hy.out (dY hH1))).mono ?_);rintro e w2 ⟨rfl,hb2⟩;have hH2:=b5 hH1 hb2)))
  go_wp2_with (go_at_call 226;(with_reducible refine(qe s t _).mono ?_);rintro e w' ⟨rfl,rfl⟩)
  go_ret
  exact⟨DJ Hz.out,dY hH2⟩
end
section
attribute [local go_sem ↓] Go.wp_at_zero Go.wp_at_succ
theorem uB (w:World) (a0 a1:Value) (t:TypeId) (W:World) (hW:W=w.alloc (.cells #[a0,a1] t)):
 (W.cell? ⟨w.heap.size,0,none⟩=some a0/\W.cell? ⟨w.heap.size,1,none⟩=some a1)/\(W.frozen? ⟨w.heap.size,0,none⟩=false/\W.frozen? ⟨w.heap.size,1,none⟩=false)/\aO w W:=by
 refine⟨?_,?_,by rw[hW];exact(aO.refl w).alloc _⟩
 ·subst hW;simp[go_sem]
 ·subst hW;simp[go_sem]
theorem wV (va:Value) (na:Bool) (xs:List Nat) (w:World) (ha:bP w va na xs) (hz:ar na xs=0):
 Calls Tryz.prog 103 #[va] w (tu (0) w):=by
 obtain⟨A,n,c,rfl,hx⟩:=ha;obtain⟨W,hW⟩:∃W,W=w.alloc (.cells #[.bool na, .slice A n c] 36):=⟨_,rfl⟩;obtain⟨⟨ca0,ca1⟩,⟨fa0,fa1⟩,hbW⟩:=uB w _ _ _ W hW;have hc:=iM _ na xs W (ya (hx.ext hbW));obtain⟨z,hzz⟩:∃z,ar na xs=z:=⟨_,rfl⟩;rw[hzz]at hz hc;have hd:decide (z<0)=false:=by simp;omega
 have Hc:=Lib.hid hc;have Hd:=Lib.hid hd;have Hz:=Lib.hid hz;clear hx hc hd hz hzz
 go_enter func103,ntmps103
 go_wp2_with fail
 rw[<- hW];clear hW
 go_wp2_with (go_at_call 158;(with_reducible refine Hc.out.mono ?_);rintro e w1 ⟨v1,rfl,⟨A1,n1,c1,rfl,hw1⟩,hb1⟩;rw[Hd.out];have hz:=Hz.out;have hn1:=Ae hw1 (by omega);subst hn1;clear hz;have su0:=kc ca0 hb1;have su1:=kc ca1 hb1;have sf0:=kf ca0 fa0 hb1;have sf1:=kf ca1 fa1 hb1;have hE1:aO w w1:=hbW.more hb1)
 go_ret
 exact⟨rfl,aO.set2 hE1 (Nat.le_refl _) _ _⟩
theorem zm (va:Value) (na:Bool) (xs:List Nat) (w:World) (ha:bP w va na xs) (hz:ar na xs<0):
 Calls Tryz.prog 103 #[va] w (tu (-1) w):=by
 obtain⟨A,n,c,rfl,hx⟩:=ha;obtain⟨W,hW⟩:∃W,W=w.alloc (.cells #[.bool na, .slice A n c] 36):=⟨_,rfl⟩;obtain⟨⟨ca0,ca1⟩,⟨fa0,fa1⟩,hbW⟩:=uB w _ _ _ W hW;have hc:=iM _ na xs W (ya (hx.ext hbW));obtain⟨z,hzz⟩:∃z,ar na xs=z:=⟨_,rfl⟩;rw[hzz]at hz hc;have hd:decide (z<0)=true:=by simp;omega
 have Hc:=Lib.hid hc;have Hd:=Lib.hid hd;have Hz:=Lib.hid hz;clear hx hc hd hz hzz
 go_enter func103,ntmps103
 go_wp2_with fail
 rw[<- hW];clear hW
 go_wp2_with (go_at_call 158;(with_reducible refine Hc.out.mono ?_);rintro e w1 ⟨v1,rfl,⟨A1,n1,c1,rfl,hw1⟩,hb1⟩;rw[Hd.out];have hz:=Hz.out;have hn1:=ny hw1 (by omega);have hn2:((n1:Int) == 0)=false:=(by simp;omega);clear hz;have su0:=kc ca0 hb1;have su1:=kc ca1 hb1;have sf0:=kf ca0 fa0 hb1;have sf1:=kf ca1 fa1 hb1;have hE1:aO w w1:=hbW.more hb1)
 go_ret
 exact⟨rfl,aO.set2 hE1 (Nat.le_refl _) _ _⟩
theorem zk (va:Value) (na:Bool) (xs:List Nat) (w:World) (ha:bP w va na xs) (hz:0<ar na xs):
 Calls Tryz.prog 103 #[va] w (tu (1) w):=by
 obtain⟨A,n,c,rfl,hx⟩:=ha;obtain⟨W,hW⟩:∃W,W=w.alloc (.cells #[.bool na, .slice A n c] 36):=⟨_,rfl⟩;obtain⟨⟨ca0,ca1⟩,⟨fa0,fa1⟩,hbW⟩:=uB w _ _ _ W hW;have hc:=iM _ na xs W (ya (hx.ext hbW));obtain⟨z,hzz⟩:∃z,ar na xs=z:=⟨_,rfl⟩;rw[hzz]at hz hc;have hd:decide (z<0)=false:=by simp;omega
 have Hc:=Lib.hid hc;have Hd:=Lib.hid hd;have Hz:=Lib.hid hz;clear hx hc hd hz hzz
 go_enter func103,ntmps103
 go_wp2_with fail
 rw[<- hW];clear hW
 go_wp2_with (go_at_call 158;(with_reducible refine Hc.out.mono ?_);rintro e w1 ⟨v1,rfl,⟨A1,n1,c1,rfl,hw1⟩,hb1⟩;rw[Hd.out];have hz:=Hz.out;have hn1:=ny hw1 (by omega);have hn2:((n1:Int) == 0)=false:=(by simp;omega);clear hz;have su0:=kc ca0 hb1;have su1:=kc ca1 hb1;have sf0:=kf ca0 fa0 hb1;have sf1:=kf ca1 fa1 hb1;have hE1:aO w w1:=hbW.more hb1)
 go_ret
 exact⟨rfl,aO.set2 hE1 (Nat.le_refl _) _ _⟩
theorem DE (va:Value) (na:Bool) (xs:List Nat) (w:World) (ha:bP w va na xs):
 Calls Tryz.prog 103 #[va] w (tu (ar na xs).sign w):=by
 rcases Int.lt_trichotomy (ar na xs) 0 with h|h|h
 ·rw[Int.sign_eq_neg_one_of_neg h];exact zm va na xs w ha h
 ·rw[h];exact wV va na xs w ha h
 ·rw[Int.sign_eq_one_of_pos h];exact zk va na xs w ha h
theorem Qi (za zb:Int) (h:decide (za<0)=decide (zb<0)):ar (decide (za<0)) (digs (val (digs za.natAbs)+val (digs zb.natAbs)))=za+zb:=by
 exact PH
theorem RO (za zb:Int) (h:decide (za<0)≠decide (zb<0)) (hl:zb.natAbs<=za.natAbs):ar (decide (za<0)) (digs (val (digs za.natAbs)-val (digs zb.natAbs)))=za+zb:=by
 exact PH
theorem Rd (za zb:Int) (h:decide (za<0)≠decide (zb<0)) (hl:za.natAbs<zb.natAbs):ar (decide (zb<0)) (digs (val (digs zb.natAbs)-val (digs za.natAbs)))=za+zb:=by
 exact PH
theorem gO {w wx:World} {za zb:Int} (h:jO w za zb wx) {ba bb:Bool} (ha:decide (za<0)=ba) (hb:decide (zb<0)=bb):∃A n c B m d,
 (wx.cell? ⟨w.heap.size,0,none⟩=some (.bool ba)/\wx.cell? ⟨w.heap.size,1,none⟩=some (.slice A n c)/\wx.cell? ⟨w.heap.size+1,0,none⟩=some (.bool bb)/\wx.cell? ⟨w.heap.size+1,1,none⟩=some (.slice B m d)/\aO w wx) /\
 (wx.cell? ⟨w.heap.size+1+1,0,none⟩=some (.bool false)/\wx.cell? ⟨w.heap.size+1+1,1,none⟩=some (.slice none 0 0)/\wx.frozen? ⟨w.heap.size+1+1,0,none⟩=false/\wx.frozen? ⟨w.heap.size+1+1,1,none⟩=false) /\
 aJ wx A n c (digs za.natAbs)/\aJ wx B m d (digs zb.natAbs):=by
 subst ha hb;obtain⟨A,n,c,B,m,d,⟨⟨a0,_⟩,⟨a1,_⟩,⟨a2,_⟩,⟨a3,_⟩,⟨a4,f4⟩,⟨a5,f5⟩⟩,h1,h2,h3⟩:=h;exact⟨A,n,c,B,m,d,⟨a0,a1,a2,a3,h3⟩,⟨a4,a5,f4,f5⟩,h1,h2⟩
theorem Ag {o:Int} {A B:Option Addr} {n m c d:Nat} {a b:Nat} (ho:bU a b=o) (W:World) (h1:aJ W A n c (digs a)) (h2:aJ W B m d (digs b)):Calls Tryz.prog 160 #[.slice A n c, .slice B m d] W (tu o W):=by
 have:=m0 A B n m c d (digs a) (digs b) W h1 h2;rw[ji,ho]at this;exact Qq
theorem FB (va vb:Value) (na nb ba:Bool) (xs ys:List Nat) (w:World) (ha:bP w va na xs) (hb:bP w vb nb ys) (h1:xs.length<=2147483648) (h2:ys.length<=2147483648) (hba:decide (ar na xs<0)=ba) (hs:decide (ar nb ys<0)=ba):
 Calls Tryz.prog 197 #[va,vb] w (cI (ar na xs+ar nb ys) w):=by
 obtain⟨A,n,c,rfl,hx⟩:=ha;obtain⟨B,m,d,rfl,hy⟩:=hb;obtain⟨W,hW⟩:∃W,W=((w.alloc (.cells #[.bool na, .slice A n c] 36)).alloc (.cells #[.bool nb, .slice B m d] 36)).alloc (.cells #[.bool false, .slice none 0 0] 36):=⟨_,rfl⟩;obtain⟨hB,hbW⟩:=iD w _ _ _ _ _ _ _ W hW;have hw:aO w W.drew:=hbW.drew;have hB0:=iV hB (aO.refl W).drew;clear hB hbW;have Hx:=Lib.hid hx;have Hy:=Lib.hid hy;have hl1:(digs (ar na xs).natAbs).length<=4294967296:=by rw[bJ];exact bZ hx.wd h1
 have hl2:(digs (ar nb ys).natAbs).length<=4294967296:=by rw[bJ];exact bZ hy.wd h2
 obtain⟨o,ho⟩:∃o,bU (ar na xs).natAbs (ar nb ys).natAbs=o:=⟨_,rfl⟩;have ho1:=trivial;have hl:=trivial
 obtain⟨z,hz⟩:∃z,z=ar na xs+ar nb ys:=⟨_,rfl⟩;have hz1:ar ba (digs (val (digs (ar na xs).natAbs)+val (digs (ar nb ys).natAbs)))=z:=(by rw[<- hba,hz];exact Qi _ _ (hba.trans hs.symm));rw[<- hz];have Hz:=Lib.hid hz1;have Hba:=Lib.hid hba;have Hs:=Lib.hid hs;have Ho:=Lib.hid ho;have Hl:=Lib.hid hl;have hb0:(ba == !ba)=false:=by cases ba<;>rfl
 clear hx hy hz hz1 hba hs ho hl
 go_enter func197,ntmps197
 go_wp2_with fail
 rw[<- hW];clear hW
 go_cut [5] (fun _ wx=>jO w (ar na xs) (ar nb ys) wx)
 case first=>
  exact Tz
 case rest=>
  generalize ar na xs=za at *;generalize ar nb ys=zb at *;obtain⟨A1,n1,c1,B1,m1,d1,hH,⟨cr0,cr1,fr0,fr1⟩,hx1,hy1⟩:=gO hcut Hba.out Hs.out;have hm1:n1<=4294967296:=by rw[<- hx1.len];exact hl1
  have hm2:m1<=4294967296:=by rw[<- hy1.len];exact hl2
  have Hx1:=Lib.hid hx1;have Hy1:=Lib.hid hy1;have hEw:aO wc wc:=aO.refl wc;have hEcw:=dY hH;clear hcut hx1 hy1 hw hB0;have hH':=hH;obtain⟨d0,d1',e0,e1,hE1⟩:=hH';have Hcmp:=Lib.hid (Ag (A:=A1) (B:=B1) (n:=n1) (m:=m1) (c:=c1) (d:=d1) Ho.out)
  go_wp2_with (go_at_call 160;(with_reducible refine(Hcmp.out _ Hx1.out Hy1.out).mono ?_);rintro e w2 ⟨rfl,hb2⟩;have hH:=b5 hH hb2;have hEw:aO wc w2:=hb2)
  have hH2:=b5 hH (Below.drew (Below.refl _ _));have hEd:=aO.drew hEw;have Hx2:=Lib.hid (Hx1.out.ext hEd);have Hy2:=Lib.hid (Hy1.out.ext hEd);clear d0 d1' e0 e1 hE1 Hcmp hH hEw Hx1 Hy1
  skip
  go_region_held3 (fun w'=>w'.cell? ⟨w.heap.size,0,none⟩=some (.bool ba)/\w'.cell? ⟨w.heap.size,1,none⟩=some (.slice A1 n1 c1)/\w'.cell? ⟨w.heap.size+1,0,none⟩=some (.bool ba)/\w'.cell? ⟨w.heap.size+1,1,none⟩=some (.slice B1 m1 d1)/\aO w w')
   (with_reducible first|exact hH2|assumption|exact b5 (by assumption) (by assumption)|exact kh (by assumption) (by omega) (by dsimp only;omega) (by dsimp only;omega) (by dsimp only;omega) (by dsimp only;omega))
   (first
    |((go_at_call 252;(with_reducible refine(Ln _ _ _ _ _ _ (digs za.natAbs) (digs zb.natAbs) _ Hx2.out Hy2.out hm1 hm2).mono ?_);rintro e w1 ⟨A3,n3,c3,zs,rfl,hw1,rfl,hb1⟩))
    |((go_at_call 163;(with_reducible refine(dz hw1 Hz.out).mono ?_);rintro e w2 ⟨v2,rfl,⟨A2,n2,c2,rfl,hw2⟩,hb2⟩;have hE2:=aO.more (aO.more hEd hb1) hb2;have su0:=kc cr0 hE2;have su1:=kc cr1 hE2;have sf0:=kf cr0 fr0 hE2;have sf1:=kf cr1 fr1 hE2)))
  exact SC
theorem GH (va vb:Value) (na nb ba:Bool) (xs ys:List Nat) (w:World) (ha:bP w va na xs) (hb:bP w vb nb ys) (h1:xs.length<=2147483648) (h2:ys.length<=2147483648) (hba:decide (ar na xs<0)=ba) (hs:decide (ar nb ys<0)=!ba) (hl:(ar nb ys).natAbs<=(ar na xs).natAbs):
 Calls Tryz.prog 197 #[va,vb] w (cI (ar na xs+ar nb ys) w):=by
 obtain⟨A,n,c,rfl,hx⟩:=ha;obtain⟨B,m,d,rfl,hy⟩:=hb;obtain⟨W,hW⟩:∃W,W=((w.alloc (.cells #[.bool na, .slice A n c] 36)).alloc (.cells #[.bool nb, .slice B m d] 36)).alloc (.cells #[.bool false, .slice none 0 0] 36):=⟨_,rfl⟩;obtain⟨hB,hbW⟩:=iD w _ _ _ _ _ _ _ W hW;have hw:aO w W.drew:=hbW.drew;have hB0:=iV hB (aO.refl W).drew;clear hB hbW;have Hx:=Lib.hid hx;have Hy:=Lib.hid hy;have hl1:(digs (ar na xs).natAbs).length<=4294967296:=by rw[bJ];exact bZ hx.wd h1
 have hl2:(digs (ar nb ys).natAbs).length<=4294967296:=by rw[bJ];exact bZ hy.wd h2
 obtain⟨o,ho⟩:∃o,bU (ar na xs).natAbs (ar nb ys).natAbs=o:=⟨_,rfl⟩;have ho1:0<=o:=(by have:=gQ (a:=((ar na xs).natAbs:Int)) (b:=(ar nb ys).natAbs) (by omega);omega);obtain⟨z,hz⟩:∃z,z=ar na xs+ar nb ys:=⟨_,rfl⟩;have hz1:ar ba (digs (val (digs (ar na xs).natAbs)-val (digs (ar nb ys).natAbs)))=z:=(by rw[<- hba,hz];exact RO _ _ (by rw[hba,hs];cases ba<;>simp) hl);rw[<- hz];have Hz:=Lib.hid hz1;have Hba:=Lib.hid hba;have Hs:=Lib.hid hs;have Ho:=Lib.hid ho;have Hl:=Lib.hid hl;have hb0:(ba == !ba)=false:=by cases ba<;>rfl
 clear hx hy hz hz1 hba hs ho hl
 go_enter func197,ntmps197
 go_wp2_with fail
 rw[<- hW];clear hW
 go_cut [5] (fun _ wx=>jO w (ar na xs) (ar nb ys) wx)
 case first=>
  exact Tz
 case rest=>
  generalize ar na xs=za at *;generalize ar nb ys=zb at *;obtain⟨A1,n1,c1,B1,m1,d1,hH,⟨cr0,cr1,fr0,fr1⟩,hx1,hy1⟩:=gO hcut Hba.out Hs.out;have hm1:n1<=4294967296:=by rw[<- hx1.len];exact hl1
  have hm2:m1<=4294967296:=by rw[<- hy1.len];exact hl2
  have Hx1:=Lib.hid hx1;have Hy1:=Lib.hid hy1;have hEw:aO wc wc:=aO.refl wc;have hEcw:=dY hH;clear hcut hx1 hy1 hw hB0;have hH':=hH;obtain⟨d0,d1',e0,e1,hE1⟩:=hH';have Hcmp:=Lib.hid (Ag (A:=A1) (B:=B1) (n:=n1) (m:=m1) (c:=c1) (d:=d1) Ho.out)
  go_wp2_with (go_at_call 160;(with_reducible refine(Hcmp.out _ Hx1.out Hy1.out).mono ?_);rintro e w2 ⟨rfl,hb2⟩;have hH:=b5 hH hb2;have hEw:aO wc w2:=hb2)
  have hH2:=b5 hH (Below.drew (Below.refl _ _));have hEd:=aO.drew hEw;have Hx2:=Lib.hid (Hx1.out.ext hEd);have Hy2:=Lib.hid (Hy1.out.ext hEd);clear d0 d1' e0 e1 hE1 Hcmp hH hEw Hx1 Hy1;have HM:=Lib.hid (A6 _ _ _ _ _ _ _ _ _ Hx2.out Hy2.out (by rw[af,af];exact Hl.out) hm1);exact RU
theorem FE (va vb:Value) (na nb ba:Bool) (xs ys:List Nat) (w:World) (ha:bP w va na xs) (hb:bP w vb nb ys) (h1:xs.length<=2147483648) (h2:ys.length<=2147483648) (hba:decide (ar na xs<0)=ba) (hs:decide (ar nb ys<0)=!ba) (hl:(ar na xs).natAbs<(ar nb ys).natAbs):
 Calls Tryz.prog 197 #[va,vb] w (cI (ar na xs+ar nb ys) w):=by
 obtain⟨A,n,c,rfl,hx⟩:=ha;obtain⟨B,m,d,rfl,hy⟩:=hb;obtain⟨W,hW⟩:∃W,W=((w.alloc (.cells #[.bool na, .slice A n c] 36)).alloc (.cells #[.bool nb, .slice B m d] 36)).alloc (.cells #[.bool false, .slice none 0 0] 36):=⟨_,rfl⟩;obtain⟨hB,hbW⟩:=iD w _ _ _ _ _ _ _ W hW;have hw:aO w W.drew:=hbW.drew;have hB0:=iV hB (aO.refl W).drew;clear hB hbW;have Hx:=Lib.hid hx;have Hy:=Lib.hid hy;have hl1:(digs (ar na xs).natAbs).length<=4294967296:=by rw[bJ];exact bZ hx.wd h1
 have hl2:(digs (ar nb ys).natAbs).length<=4294967296:=by rw[bJ];exact bZ hy.wd h2
 obtain⟨o,ho⟩:∃o,bU (ar na xs).natAbs (ar nb ys).natAbs=o:=⟨_,rfl⟩;have ho1:¬0<=o:=(by have:=fe (a:=((ar na xs).natAbs:Int)) (b:=(ar nb ys).natAbs) (by omega);omega);obtain⟨z,hz⟩:∃z,z=ar na xs+ar nb ys:=⟨_,rfl⟩;have hz1:ar (!ba) (digs (val (digs (ar nb ys).natAbs)-val (digs (ar na xs).natAbs)))=z:=(by rw[<- hs,hz];exact Rd _ _ (by rw[hba,hs];cases ba<;>simp) hl);rw[<- hz];have Hz:=Lib.hid hz1;have Hba:=Lib.hid hba;have Hs:=Lib.hid hs;have Ho:=Lib.hid ho;have Hl:=Lib.hid hl;have hb0:(ba == !ba)=false:=by cases ba<;>rfl
 clear hx hy hz hz1 hba hs ho hl
 go_enter func197,ntmps197
 go_wp2_with fail
 rw[<- hW];clear hW
 go_cut [5] (fun _ wx=>jO w (ar na xs) (ar nb ys) wx)
 case first=>
  exact Tz
 case rest=>
  generalize ar na xs=za at *;generalize ar nb ys=zb at *;obtain⟨A1,n1,c1,B1,m1,d1,hH,⟨cr0,cr1,fr0,fr1⟩,hx1,hy1⟩:=gO hcut Hba.out Hs.out;have hm1:n1<=4294967296:=by rw[<- hx1.len];exact hl1
  have hm2:m1<=4294967296:=by rw[<- hy1.len];exact hl2
  have Hx1:=Lib.hid hx1;have Hy1:=Lib.hid hy1;have hEw:aO wc wc:=aO.refl wc;have hEcw:=dY hH;clear hcut hx1 hy1 hw hB0;have hH':=hH;obtain⟨d0,d1',e0,e1,hE1⟩:=hH';have Hcmp:=Lib.hid (Ag (A:=A1) (B:=B1) (n:=n1) (m:=m1) (c:=c1) (d:=d1) Ho.out)
  go_wp2_with (go_at_call 160;(with_reducible refine(Hcmp.out _ Hx1.out Hy1.out).mono ?_);rintro e w2 ⟨rfl,hb2⟩;have hH:=b5 hH hb2;have hEw:aO wc w2:=hb2)
  have hH2:=b5 hH (Below.drew (Below.refl _ _));have hEd:=aO.drew hEw;have Hx2:=Lib.hid (Hx1.out.ext hEd);have Hy2:=Lib.hid (Hy1.out.ext hEd);clear d0 d1' e0 e1 hE1 Hcmp hH hEw Hx1 Hy1;have HM:=Lib.hid (A6 _ _ _ _ _ _ _ _ _ Hy2.out Hx2.out (by rw[af,af];exact Nat.le_of_lt Hl.out) hm2);exact RU
theorem Cf (va vb:Value) (na nb:Bool) (xs ys:List Nat) (w:World) (ha:bP w va na xs) (hb:bP w vb nb ys) (h1:xs.length<=2147483648) (h2:ys.length<=2147483648):
 Calls Tryz.prog 197 #[va,vb] w (cI (ar na xs+ar nb ys) w):=by
 by_cases hn:decide (ar nb ys<0)=decide (ar na xs<0)
 ·exact FB va vb na nb _ xs ys w ha hb h1 h2 rfl hn
 ·by_cases hl:(ar na xs).natAbs<(ar nb ys).natAbs
  ·exact FE va vb na nb _ xs ys w ha hb h1 h2 rfl (lP hn) hl
  ·exact GH va vb na nb _ xs ys w ha hb h1 h2 rfl (lP hn) (by omega)
end
section
attribute [local go_sem ↓] Go.wp_at_zero Go.wp_at_succ
theorem pg {xs:List Nat} (h:Wd xs) (na:Bool) (k:Nat) (h1:xs.length<=k):(digs (ar na xs).natAbs).length<=k:=by
 rw[bJ];exact Nat.le_trans (bL h) h1
theorem bP.wd {w:World} {v:Value} {na:Bool} {xs:List Nat} (h:bP w v na xs):Wd xs:=by
 obtain⟨_,_,_,_,h⟩:=h;exact h.wd
theorem QP (va vb:Value) (na nb:Bool) (xs ys:List Nat) (w:World) (ha:bP w va na xs) (hb:bP w vb nb ys) (h1:xs.length<=2147483648) (h2:ys.length<=2147483648):
 Calls Tryz.prog 234 #[va,vb] w (cI (ar na xs-ar nb ys) w):=by
 have hl2:(digs (-ar nb ys).natAbs).length<=2147483648:=by rw[Int.natAbs_neg];exact pg hb.wd nb _ h2
 obtain⟨A,n,c,rfl,hx⟩:=ha;obtain⟨B,m,d,rfl,hy⟩:=hb;obtain⟨W,hW⟩:∃W,W=((w.alloc (.cells #[.bool na, .slice A n c] 36)).alloc (.cells #[.bool nb, .slice B m d] 36)).alloc (.cells #[.bool false, .slice none 0 0] 36):=⟨_,rfl⟩;obtain⟨⟨ca0,ca1,cb0,cb1⟩,⟨cr0,cr1,fr0,fr1⟩,hbW⟩:=gW w _ _ _ _ _ _ _ W hW;have hH:=b5 ⟨ca0,ca1,cb0,cb1,hbW⟩ (Below.drew (Below.refl _ _));have hEd:aO W W.drew:=(aO.refl W).drew;obtain⟨z,hz⟩:∃z,z=ar na xs-ar nb ys:=⟨_,rfl⟩;rw[<- hz];have hz':ar na xs+ -ar nb ys=z:=by omega
 have HA:=fun W' v (h:bP W' (.agg #[.bool na, .slice A n c]) na xs) (h':ef W' v (-ar nb ys))=>by
  have:=Cf _ _ na _ xs _ W' h h' h1 hl2;rw[aX,hz']at this;exact this
 have HA:=Lib.hid HA;have Hx:=Lib.hid hx;have Hy:=Lib.hid hy;clear hx hy hz hz' hl2
 go_enter func234,ntmps234
 go_wp2_with fail
 rw[<- hW];clear hW
 go_region_held3 (fun w'=>w'.cell? ⟨w.heap.size,0,none⟩=some (.bool na)/\w'.cell? ⟨w.heap.size,1,none⟩=some (.slice A n c)/\w'.cell? ⟨w.heap.size+1,0,none⟩=some (.bool nb)/\w'.cell? ⟨w.heap.size+1,1,none⟩=some (.slice B m d)/\aO w w')
  (with_reducible first|exact hH|assumption|exact b5 (by assumption) (by assumption)|exact kh (by assumption) (by omega) (by dsimp only;omega) (by dsimp only;omega) (by dsimp only;omega) (by dsimp only;omega))
  (first
   |((go_at_call 102;(with_reducible refine(Jt _ nb ys _ (fc Hy.out (dY hH))).mono ?_);rintro e w1 ⟨v1,rfl,hv1,hb1⟩;have hH1:=b5 hH hb1;have hE1:=aO.more hEd hb1))
   |((go_at_call 197;(with_reducible refine(HA.out _ _ (fc Hx.out (dY hH1)) hv1).mono ?_);rintro e w2 ⟨v2,rfl,⟨A2,n2,c2,rfl,hw2⟩,hb2⟩;have hE2:=aO.more hE1 hb2;have su0:=kc cr0 hE2;have su1:=kc cr1 hE2;have sf0:=kf cr0 fr0 hE2;have sf1:=kf cr1 fr1 hE2)))
 go_wp2_with fail
 exact bodyPost_ret (v:= .agg #[.bool (decide (z<0)), .slice A2 n2 c2]) (by simp[results,results234,go_sem,su0,su1]) rfl (fg su0 su1 hw2 (hbW.trans hE2) (by omega))
theorem nu {v:Value} {z:Int} {w:World} (h:ef w v z):Calls Tryz.prog 103 #[v] w (tu z.sign w):=by
 have:=DE v _ _ w h
 rwa[aX]at this
end
end Go.Proofs.YtmkggcjajcdlcaaGreatDoor
