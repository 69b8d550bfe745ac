/- Mul of the program. Norm and Neg of both packages. Mul of the reference. Integers out of machine numbers. short of the reference: the number of at most two words. slices.Backward over words, and toUint of the program, which ranges over it. -/
import Derived.Test.YtmkggcjajcdlcaaGreatDoorEAd
set_option maxHeartbeats 100000000
set_option linter.all false
open Go.Proofs.Tryz
namespace Go.Proofs.YtmkggcjajcdlcaaGreatDoor
open Go.RowKit
section
attribute [local go_sem ↓] Go.wp_at_zero Go.wp_at_succ
theorem bT {neg:Bool} {A:Option Addr} {n c:Nat} {xs:List Nat} {w:World} {z:Int} (h:aJ w A n c xs) (hz:ar neg xs=z):Calls Tryz.prog 200 #[.bool neg, .slice A n c] w (cI z w):=hz ▸ HG neg A n c xs w h
theorem dz {neg:Bool} {A:Option Addr} {n c:Nat} {xs:List Nat} {w:World} {z:Int} (h:aJ w A n c xs) (hz:ar neg xs=z):Calls Tryz.prog 163 #[.bool neg, .slice A n c] w (cI z w):=hz ▸ FW neg A n c xs w h
theorem bZ {xs:List Nat} (h:Wd xs) (h1:xs.length<=2147483648):(trim xs).length<=4294967296:=by have:=bL h;omega
theorem LB (na nb:Bool) (xs ys zs:List Nat) (h:val zs=val xs*val ys):ar (!(na == nb)) zs=ar na xs*ar nb ys:=by
 unfold ar;rw[h];cases na<;>cases nb<;>simp[Int.neg_mul,Int.mul_neg]
theorem S7 (va vb:Value) (na nb:Bool) (xs ys:List Nat) (w:World) (ha:bP w va na xs) (hb:bP w vb nb ys) (h1:xs.length<=2147483648) (h2:ys.length<=2147483648):
 Calls Tryz.prog 143 #[va,vb] w (cI (ar na xs*ar nb ys) w):=by
 obtain⟨A,n,c,rfl,hx⟩:=ha;obtain⟨B,m,d,rfl,hy⟩:=hb;obtain⟨W,hW⟩:∃W,W=((w.alloc (.cells #[.bool na, .slice A n c] 36)).alloc (.cells #[.bool nb, .slice B m d] 36)).alloc (.cells #[.bool false, .slice none 0 0] 36):=⟨_,rfl⟩;obtain⟨⟨ca0,ca1,cb0,cb1⟩,⟨cr0,cr1,fr0,fr1⟩,hbW⟩:=gW w _ _ _ _ _ _ _ W hW;have hl1:=bZ hx.wd h1;have hl2:=bZ hy.wd h2;have hE:aO W W.drew:=(aO.refl W).drew;have Hx:=Lib.hid hx;have Hy:=Lib.hid hy;obtain⟨z,hz⟩:∃z,z=ar na xs*ar nb ys:=⟨_,rfl⟩;rw[<- hz];have hz1:ar (!(na == nb)) (digs (val (trim xs)*val (trim ys)))=z:=by rw[hz];exact LB na nb xs ys _ (by rw[af,aP,aP])
 have Hz:=Lib.hid hz1;clear hx hy hz hz1
 go_enter func143,ntmps143
 go_wp2_with fail
 rw[<- hW];clear hW
 go_region_held3 (fun w'=>w'.cell? ⟨w.heap.size,0,none⟩=some (.bool na)/\w'.cell? ⟨w.heap.size,1,none⟩=some (.slice A n c)/\w'.cell? ⟨w.heap.size+1,0,none⟩=some (.bool nb)/\w'.cell? ⟨w.heap.size+1,1,none⟩=some (.slice B m d)/\aO w w')
  (first|exact⟨ca0,ca1,cb0,cb1,hbW.drew⟩|assumption|exact b5 (by assumption) (by assumption)|exact kh (by assumption) (by omega) (by dsimp only;omega) (by dsimp only;omega) (by dsimp only;omega) (by dsimp only;omega))
  (first
   |((go_at_call 199;(with_reducible refine(bV A n c xs _ (Hx.out.below (Mo (by assumption)))).mono ?_);rintro e w' ⟨rfl,rfl⟩))
   |((go_at_call 199;(with_reducible refine(bV B m d ys _ (Hy.out.below (Mo (by assumption)))).mono ?_);rintro e w' ⟨rfl,rfl⟩))
   |((go_at_call 204;(with_reducible refine(Ls _ _ _ _ _ _ (trim xs) (trim ys) _ (Hx.out.trim.below (Mo (by assumption))) (Hy.out.trim.below (Mo (by assumption))) hl1 hl2).mono ?_);rintro e w1 ⟨A1,n1,c1,zs,rfl,hw1,rfl,hb1⟩;have hE1:=aO.more (by assumption) hb1))
   |((go_at_call 200;(with_reducible refine(bT (by assumption) Hz.out).mono ?_);rintro e w2 ⟨v2,rfl,⟨A2,n2,c2,rfl,hw2⟩,hb2⟩;have hE2:=aO.more (by assumption) hb2;have su0:=kc cr0 hE2;have su1:=kc cr1 hE2;have sf0:=kf cr0 fr0 hE2;have sf1:=kf cr1 fr1 hE2)))
 go_wp2_with fail
 exact bodyPost_ret (v:= .agg #[.bool (decide (z<0)), .slice A2 n2 c2]) (by simp[results,results143,go_sem,su0,su1]) rfl (fg su0 su1 hw2 (hbW.trans hE2) (by omega))
end
section
attribute [local go_sem ↓] Go.wp_at_zero Go.wp_at_succ
theorem KP (na:Bool) (xs zs:List Nat) (h:val zs=val xs):ar na zs=ar na xs:=by unfold ar;rw[h]
theorem EI (na:Bool) (xs zs:List Nat) (h:val zs=val xs):ar (!na) zs= -ar na xs:=by unfold ar;rw[h];cases na<;>simp
theorem PC (va:Value) (na:Bool) (xs:List Nat) (w:World) (ha:bP w va na xs) (h1:xs.length<=2147483648):
 Calls Tryz.prog 151 #[va] w (cI (ar na xs) w):=by
 obtain⟨A,n,c,rfl,hx⟩:=ha;obtain⟨W,hW⟩:∃W,W=(w.alloc (.cells #[.bool na, .slice A n c] 36)).alloc (.cells #[.bool false, .slice none 0 0] 36):=⟨_,rfl⟩;obtain⟨⟨ca0,ca1⟩,⟨cr0,cr1,fr0,fr1⟩,hbW⟩:=rE w _ _ _ _ _ W hW;have hl1:=bZ hx.wd h1;have hE:aO W W.drew:=(aO.refl W).drew;have Hx:=Lib.hid hx;obtain⟨z,hz⟩:∃z,z=ar na xs:=⟨_,rfl⟩;rw[<- hz];have hz1:ar (na) (trim xs)=z:=(KP na xs _ (aP xs)).trans hz.symm;have Hz:=Lib.hid hz1;clear hx hz hz1
 go_enter func151,ntmps151
 go_wp2_with fail
 rw[<- hW];clear hW
 go_region_held3 (fun w'=>w'.cell? ⟨w.heap.size,0,none⟩=some (.bool na)/\w'.cell? ⟨w.heap.size,1,none⟩=some (.slice A n c)/\aO w w')
  (first|exact⟨ca0,ca1,hbW.drew⟩|assumption|exact wE (by assumption) (by assumption)|exact Ib (by assumption) (by omega) (by dsimp only;omega) (by dsimp only;omega))
  (first
   |((go_at_call 199;(with_reducible refine(bV A n c xs _ (Hx.out.below (K8 (by assumption)))).mono ?_);rintro e w' ⟨rfl,rfl⟩))
   |((go_at_call 120;(with_reducible refine(jp _ _ _ (trim xs) _ (Hx.out.trim.below (K8 (by assumption))) hl1).mono ?_);rintro e w1 ⟨A1,n1,c1,zs,rfl,hw1,rfl,hb1⟩;have hE1:=aO.more (by assumption) hb1))
   |((go_at_call 200;(with_reducible refine(bT (by assumption) Hz.out).mono ?_);rintro e w2 ⟨v2,rfl,⟨A2,n2,c2,rfl,hw2⟩,hb2⟩;have hE2:=aO.more (by assumption) hb2;have su0:=kc cr0 hE2;have su1:=kc cr1 hE2;have sf0:=kf cr0 fr0 hE2;have sf1:=kf cr1 fr1 hE2)))
 go_wp2_with fail
 exact bodyPost_ret (v:= .agg #[.bool (decide (z<0)), .slice A2 n2 c2]) (by simp[results,results151,go_sem,su0,su1]) rfl (fg su0 su1 hw2 (hbW.trans hE2) (by omega))
theorem S2 (va:Value) (na:Bool) (xs:List Nat) (w:World) (ha:bP w va na xs) (h1:xs.length<=2147483648):
 Calls Tryz.prog 206 #[va] w (cI (-ar na xs) w):=by
 obtain⟨A,n,c,rfl,hx⟩:=ha;obtain⟨W,hW⟩:∃W,W=(w.alloc (.cells #[.bool na, .slice A n c] 36)).alloc (.cells #[.bool false, .slice none 0 0] 36):=⟨_,rfl⟩;obtain⟨⟨ca0,ca1⟩,⟨cr0,cr1,fr0,fr1⟩,hbW⟩:=rE w _ _ _ _ _ W hW;have hl1:=bZ hx.wd h1;have hE:aO W W.drew:=(aO.refl W).drew;have Hx:=Lib.hid hx;obtain⟨z,hz⟩:∃z,z= -ar na xs:=⟨_,rfl⟩;rw[<- hz];have hz1:ar (!na) (trim xs)=z:=(EI na xs _ (aP xs)).trans hz.symm;have Hz:=Lib.hid hz1;clear hx hz hz1
 go_enter func206,ntmps206
 go_wp2_with fail
 rw[<- hW];clear hW
 go_region_held3 (fun w'=>w'.cell? ⟨w.heap.size,0,none⟩=some (.bool na)/\w'.cell? ⟨w.heap.size,1,none⟩=some (.slice A n c)/\aO w w')
  (first|exact⟨ca0,ca1,hbW.drew⟩|assumption|exact wE (by assumption) (by assumption)|exact Ib (by assumption) (by omega) (by dsimp only;omega) (by dsimp only;omega))
  (first
   |((go_at_call 199;(with_reducible refine(bV A n c xs _ (Hx.out.below (K8 (by assumption)))).mono ?_);rintro e w' ⟨rfl,rfl⟩))
   |((go_at_call 120;(with_reducible refine(jp _ _ _ (trim xs) _ (Hx.out.trim.below (K8 (by assumption))) hl1).mono ?_);rintro e w1 ⟨A1,n1,c1,zs,rfl,hw1,rfl,hb1⟩;have hE1:=aO.more (by assumption) hb1))
   |((go_at_call 200;(with_reducible refine(bT (by assumption) Hz.out).mono ?_);rintro e w2 ⟨v2,rfl,⟨A2,n2,c2,rfl,hw2⟩,hb2⟩;have hE2:=aO.more (by assumption) hb2;have su0:=kc cr0 hE2;have su1:=kc cr1 hE2;have sf0:=kf cr0 fr0 hE2;have sf1:=kf cr1 fr1 hE2)))
 go_wp2_with fail
 exact bodyPost_ret (v:= .agg #[.bool (decide (z<0)), .slice A2 n2 c2]) (by simp[results,results206,go_sem,su0,su1]) rfl (fg su0 su1 hw2 (hbW.trans hE2) (by omega))
theorem iM (va:Value) (na:Bool) (xs:List Nat) (w:World) (ha:bP w va na xs):
 Calls Tryz.prog 158 #[va] w (cI (ar na xs) w):=by
 obtain⟨A,n,c,rfl,hx⟩:=ha;obtain⟨W,hW⟩:∃W,W=(w.alloc (.cells #[.bool na, .slice A n c] 36)).alloc (.cells #[.bool false, .slice none 0 0] 36):=⟨_,rfl⟩;obtain⟨⟨ca0,ca1⟩,⟨cr0,cr1,fr0,fr1⟩,hbW⟩:=rE w _ _ _ _ _ W hW;have hxW:=hx.ext hbW;have Hx:=Lib.hid hxW;obtain⟨z,hz⟩:∃z,z=ar na xs:=⟨_,rfl⟩;rw[<- hz];have hz1:ar (na) xs=z:=Eq.trans (rfl) hz.symm;have Hz:=Lib.hid hz1;have HW:=Lib.hid hW;clear hx hxW hz hz1 hW
 go_enter func158,ntmps158
 go_wp2_with (go_at_call 163;rw[<- HW.out];(with_reducible refine(dz Hx.out Hz.out).mono ?_);rintro e w2 ⟨v2,rfl,⟨A2,n2,c2,rfl,hw2⟩,hE2⟩;have su0:=kc cr0 hE2;have su1:=kc cr1 hE2;have sf0:=kf cr0 fr0 hE2;have sf1:=kf cr1 fr1 hE2)
 exact bodyPost_ret (v:= .agg #[.bool (decide (z<0)), .slice A2 n2 c2]) (by simp[results,results158,go_sem,su0,su1]) rfl (fg su0 su1 hw2 (hbW.trans hE2) (by omega))
theorem Jt (va:Value) (na:Bool) (xs:List Nat) (w:World) (ha:bP w va na xs):
 Calls Tryz.prog 102 #[va] w (cI (-ar na xs) w):=by
 obtain⟨A,n,c,rfl,hx⟩:=ha;obtain⟨W,hW⟩:∃W,W=(w.alloc (.cells #[.bool na, .slice A n c] 36)).alloc (.cells #[.bool false, .slice none 0 0] 36):=⟨_,rfl⟩;obtain⟨⟨ca0,ca1⟩,⟨cr0,cr1,fr0,fr1⟩,hbW⟩:=rE w _ _ _ _ _ W hW;have hxW:=hx.ext hbW;have Hx:=Lib.hid hxW;obtain⟨z,hz⟩:∃z,z= -ar na xs:=⟨_,rfl⟩;rw[<- hz];have hz1:ar (!na) xs=z:=Eq.trans (EI na xs xs rfl) hz.symm;have Hz:=Lib.hid hz1;have HW:=Lib.hid hW;clear hx hxW hz hz1 hW
 go_enter func102,ntmps102
 go_wp2_with (go_at_call 163;rw[<- HW.out];(with_reducible refine(dz Hx.out Hz.out).mono ?_);rintro e w2 ⟨v2,rfl,⟨A2,n2,c2,rfl,hw2⟩,hE2⟩;have su0:=kc cr0 hE2;have su1:=kc cr1 hE2;have sf0:=kf cr0 fr0 hE2;have sf1:=kf cr1 fr1 hE2)
 exact bodyPost_ret (v:= .agg #[.bool (decide (z<0)), .slice A2 n2 c2]) (by simp[results,results102,go_sem,su0,su1]) rfl (fg su0 su1 hw2 (hbW.trans hE2) (by omega))
end
section
attribute [local go_sem ↓] Go.wp_at_zero Go.wp_at_succ
theorem iD (w:World) (a0 a1 b0 b1 r0 r1:Value) (t:TypeId) (W:World) (hW:W=((w.alloc (.cells #[a0,a1] t)).alloc (.cells #[b0,b1] t)).alloc (.cells #[r0,r1] t)):
 ((W.cell? ⟨w.heap.size,0,none⟩=some a0/\W.frozen? ⟨w.heap.size,0,none⟩=false)/\(W.cell? ⟨w.heap.size,1,none⟩=some a1/\W.frozen? ⟨w.heap.size,1,none⟩=false) /\
  (W.cell? ⟨w.heap.size+1,0,none⟩=some b0/\W.frozen? ⟨w.heap.size+1,0,none⟩=false)/\(W.cell? ⟨w.heap.size+1,1,none⟩=some b1/\W.frozen? ⟨w.heap.size+1,1,none⟩=false) /\
  (W.cell? ⟨w.heap.size+1+1,0,none⟩=some r0/\W.frozen? ⟨w.heap.size+1+1,0,none⟩=false)/\(W.cell? ⟨w.heap.size+1+1,1,none⟩=some r1/\W.frozen? ⟨w.heap.size+1+1,1,none⟩=false))/\aO w W:=by
 obtain⟨_,_,h2⟩:=gW w a0 a1 b0 b1 r0 r1 t W hW;refine⟨?_,h2⟩;subst hW
 simp[go_sem]
def jO (w:World) (za zb:Int) (wx:World):Prop:=∃A n c B m d,
 ((wx.cell? ⟨w.heap.size,0,none⟩=some (.bool (decide (za<0)))/\wx.frozen? ⟨w.heap.size,0,none⟩=false)/\(wx.cell? ⟨w.heap.size,1,none⟩=some (.slice A n c)/\wx.frozen? ⟨w.heap.size,1,none⟩=false) /\
  (wx.cell? ⟨w.heap.size+1,0,none⟩=some (.bool (decide (zb<0)))/\wx.frozen? ⟨w.heap.size+1,0,none⟩=false)/\(wx.cell? ⟨w.heap.size+1,1,none⟩=some (.slice B m d)/\wx.frozen? ⟨w.heap.size+1,1,none⟩=false) /\
  (wx.cell? ⟨w.heap.size+1+1,0,none⟩=some (.bool false)/\wx.frozen? ⟨w.heap.size+1+1,0,none⟩=false)/\(wx.cell? ⟨w.heap.size+1+1,1,none⟩=some (.slice none 0 0)/\wx.frozen? ⟨w.heap.size+1+1,1,none⟩=false)) /\
 aJ wx A n c (digs za.natAbs)/\aJ wx B m d (digs zb.natAbs)/\aO w wx
theorem gk {w:World} {p:Addr} {v u:Value} (h:w.cell? p=some v):(w.setCell p u).cell? p=some u:=World.cell?_setCell_same' _ _ _ (by rw[h];rfl)
theorem oV {w w2:World} {za zb:Int} {na nb:Bool} {A B A1 B1:Option Addr} {n c m d n1 c1 m1 d1:Nat}
 (hB:(w2.cell? ⟨w.heap.size,0,none⟩=some (.bool na)/\w2.frozen? ⟨w.heap.size,0,none⟩=false)/\(w2.cell? ⟨w.heap.size,1,none⟩=some (.slice A1 n1 c1)/\w2.frozen? ⟨w.heap.size,1,none⟩=false) /\
  (w2.cell? ⟨w.heap.size+1,0,none⟩=some (.bool nb)/\w2.frozen? ⟨w.heap.size+1,0,none⟩=false)/\(w2.cell? ⟨w.heap.size+1,1,none⟩=some (.slice B1 m1 d1)/\w2.frozen? ⟨w.heap.size+1,1,none⟩=false) /\
  (w2.cell? ⟨w.heap.size+1+1,0,none⟩=some (.bool false)/\w2.frozen? ⟨w.heap.size+1+1,0,none⟩=false)/\(w2.cell? ⟨w.heap.size+1+1,1,none⟩=some (.slice none 0 0)/\w2.frozen? ⟨w.heap.size+1+1,1,none⟩=false))
 (hx:aJ w2 A n c (digs za.natAbs)) (hy:aJ w2 B m d (digs zb.natAbs)) (hE:aO w w2):
 jO w za zb ((((w2.setCell ⟨w.heap.size,0,none⟩ (.bool (decide (za<0)))).setCell ⟨w.heap.size,1,none⟩ (.slice A n c)).setCell ⟨w.heap.size+1,0,none⟩ (.bool (decide (zb<0)))).setCell ⟨w.heap.size+1,1,none⟩ (.slice B m d)):=by
 obtain⟨⟨a0,f0⟩,⟨a1,f1⟩,⟨a2,f2⟩,⟨a3,f3⟩,⟨a4,f4⟩,⟨a5,f5⟩⟩:=hB;have b1:=dm a1 (u:= .bool (decide (za<0))) (q:=⟨w.heap.size,0,none⟩) (by simp);have b2:=dm (dm a2 (u:= .bool (decide (za<0))) (q:=⟨w.heap.size,0,none⟩) (by simp)) (u:= .slice A n c) (q:=⟨w.heap.size,1,none⟩) (by simp);have b3:=dm (dm (dm a3 (u:= .bool (decide (za<0))) (q:=⟨w.heap.size,0,none⟩) (by simp)) (u:= .slice A n c) (q:=⟨w.heap.size,1,none⟩) (by simp)) (u:= .bool (decide (zb<0))) (q:=⟨w.heap.size+1,0,none⟩) (by simp)
 have far:∀{p:Addr} {v:Value},w2.cell? p=some v->p.block≠w.heap.size->p.block≠w.heap.size+1 ->
  ((((w2.setCell ⟨w.heap.size,0,none⟩ (.bool (decide (za<0)))).setCell ⟨w.heap.size,1,none⟩ (.slice A n c)).setCell ⟨w.heap.size+1,0,none⟩ (.bool (decide (zb<0)))).setCell ⟨w.heap.size+1,1,none⟩ (.slice B m d)).cell? p=some v:=by
  intro p v hp h1 h2;exact aL (aL hp h1) h2
 have fr:∀p,((((w2.setCell ⟨w.heap.size,0,none⟩ (.bool (decide (za<0)))).setCell ⟨w.heap.size,1,none⟩ (.slice A n c)).setCell ⟨w.heap.size+1,0,none⟩ (.bool (decide (zb<0)))).setCell ⟨w.heap.size+1,1,none⟩ (.slice B m d)).frozen? p=w2.frozen? p:=by
  intro p;rw[World.frozen?_setCell,World.frozen?_setCell,World.frozen?_setCell,World.frozen?_setCell]
 have st:∀{A':Option Addr} {n' c':Nat} {us:List Nat},aJ w2 A' n' c' us ->
  aJ ((((w2.setCell ⟨w.heap.size,0,none⟩ (.bool (decide (za<0)))).setCell ⟨w.heap.size,1,none⟩ (.slice A n c)).setCell ⟨w.heap.size+1,0,none⟩ (.bool (decide (zb<0)))).setCell ⟨w.heap.size+1,1,none⟩ (.slice B m d)) A' n' c' us:=by
  intro A' n' c' us h;exact(((h.store a0 (by intro x;simp) _).store b1 (by intro x;simp) _).store b2 (by intro x;simp) _).store b3 (by intro x;simp) _
 refine⟨A,n,c,B,m,d,⟨⟨?_,(fr _).trans f0⟩,⟨?_,(fr _).trans f1⟩,⟨?_,(fr _).trans f2⟩,⟨gk b3,(fr _).trans f3⟩,⟨far a4 (by dsimp only;omega) (by dsimp only;omega),(fr _).trans f4⟩,⟨far a5 (by dsimp only;omega) (by dsimp only;omega),(fr _).trans f5⟩⟩,st hx,st hy,
  (((hE.set (p:=⟨w.heap.size,0,none⟩) (Nat.le_refl _) _).set (p:=⟨w.heap.size,1,none⟩) (Nat.le_refl _) _).set (p:=⟨w.heap.size+1,0,none⟩) (by dsimp only;omega) _).set (p:=⟨w.heap.size+1,1,none⟩) (by dsimp only;omega) _⟩
 ·exact aL (dm (gk a0) (by simp)) (by dsimp only;omega)
 ·exact aL (gk b1) (by dsimp only;omega)
 ·exact dm (gk b2) (by simp)
theorem Gq (za zb:Int):ar (!(decide (za<0) == decide (zb<0))) (digs (val (digs za.natAbs)*val (digs zb.natAbs)))=za*zb:=by
 rw[af,af]
 have key:∀x:Int,(if decide (x<0)then -(x.natAbs:Int)else(x.natAbs:Int))=x:=by
  intro x
  by_cases h:x<0<;>simp[h]<;>omega
 have h1:=key za;have h2:=key zb;generalize decide (za<0)=p at *;generalize decide (zb<0)=q at *;generalize za.natAbs=a at *;generalize zb.natAbs=b at *;rw[<- h1,<- h2];unfold ar;rw[af];cases p<;>cases q<;>simp[Int.neg_mul,Int.mul_neg]
theorem Jz (va vb:Value) (na nb:Bool) (xs ys:List Nat) (w:World) (ha:bP w va na xs) (hb:bP w vb nb ys) (h1:xs.length<=2147483648) (h2:ys.length<=2147483648):
 Calls Tryz.prog 98 #[va,vb] w (cI (ar na xs*ar nb ys) w):=by
 obtain⟨A,n,c,rfl,hx⟩:=ha;obtain⟨B,m,d,rfl,hy⟩:=hb;obtain⟨W,hW⟩:∃W,W=((w.alloc (.cells #[.bool na, .slice A n c] 36)).alloc (.cells #[.bool nb, .slice B m d] 36)).alloc (.cells #[.bool false, .slice none 0 0] 36):=⟨_,rfl⟩;obtain⟨hB,hbW⟩:=iD w _ _ _ _ _ _ _ W hW;have hw:aO w W.drew:=hbW.drew;have hB0:=iV hB (aO.refl W).drew;clear hB hbW;have Hx:=Lib.hid hx;have Hy:=Lib.hid hy;obtain⟨z,hz⟩:∃z,z=ar na xs*ar nb ys:=⟨_,rfl⟩;rw[<- hz];have hz1:ar (!(decide (ar na xs<0) == decide (ar nb ys<0))) (digs (val (digs (ar na xs).natAbs)*val (digs (ar nb ys).natAbs)))=z:=by rw[hz];exact Gq _ _
 have Hz:=Lib.hid hz1;clear hx hy hz hz1
 go_enter func98,ntmps98
 go_wp2_with fail
 rw[<- hW];clear hW
 go_cut [5] (fun _ wx=>jO w (ar na xs) (ar nb ys) wx)
 case first=>
  exact Tz
 case rest=>
  obtain⟨A1,n1,c1,B1,m1,d1,⟨⟨ca0,_⟩,⟨ca1,_⟩,⟨cb0,_⟩,⟨cb1,_⟩,⟨cr0,fr0⟩,⟨cr1,fr1⟩⟩,hx1,hy1,hE1⟩:=hcut;have hE:aO wc wc.drew:=(aO.refl wc).drew;have hl1:(digs (ar na xs).natAbs).length<=4294967296:=by rw[bJ];exact bZ Hx.out.wd h1
  have hl2:(digs (ar nb ys).natAbs).length<=4294967296:=by rw[bJ];exact bZ Hy.out.wd h2
  generalize ha:ar na xs=za at *;generalize hb:ar nb ys=zb at *;have Hx1:=Lib.hid hx1;have Hy1:=Lib.hid hy1;clear ha hb hx1 hy1 hw hB0
  go_wp2_with fail
  go_region_held3 (fun w'=>w'.cell? ⟨w.heap.size,0,none⟩=some (.bool (decide (za<0)))/\w'.cell? ⟨w.heap.size,1,none⟩=some (.slice A1 n1 c1)/\w'.cell? ⟨w.heap.size+1,0,none⟩=some (.bool (decide (zb<0)))/\w'.cell? ⟨w.heap.size+1,1,none⟩=some (.slice B1 m1 d1)/\aO w w')
   (first|exact⟨ca0,ca1,cb0,cb1,hE1.drew⟩|assumption|exact b5 (by assumption) (by assumption)|exact kh (by assumption) (by omega) (by dsimp only;omega) (by dsimp only;omega) (by dsimp only;omega) (by dsimp only;omega))
   (first
    |((go_at_call 161;(with_reducible refine(GS _ _ _ _ _ _ _ _ _ (Hx1.out.ext (by assumption)) (Hy1.out.ext (by assumption)) (by rw[<- Hx1.out.len];exact hl1) (by rw[<- Hy1.out.len];exact hl2)).mono ?_);rintro e w1 ⟨A3,n3,c3,zs,rfl,hw1,rfl,hb1⟩;have hE3:=aO.more (by assumption) hb1))
    |((go_at_call 163;(with_reducible refine(dz (by assumption) Hz.out).mono ?_);rintro e w2 ⟨v2,rfl,⟨A2,n2,c2,rfl,hw2⟩,hb2⟩;have hE2:=aO.more (by assumption) hb2;have su0:=kc cr0 hE2;have su1:=kc cr1 hE2;have sf0:=kf cr0 fr0 hE2;have sf1:=kf cr1 fr1 hE2)))
  go_wp2_with fail
  exact bodyPost_ret (v:= .agg #[.bool (decide (z<0)), .slice A2 n2 c2]) (by simp[results,results98,go_sem,su0,su1]) rfl (fg su0 su1 hw2 (hE1.trans hE2) (by omega))
end
theorem Dw (n:Nat):val [n%4294967296,n/4294967296]=n:=by
 simp only[val]
 omega
theorem HI (n:Nat) (h:n<18446744073709551616):Wd [n%4294967296,n/4294967296]:=
 Wd.cons (by omega) (Wd.cons (by omega) Wd.nil)
theorem fV (n:Nat) (h:n<18446744073709551616) (w:World):Calls Tryz.prog 208 #[.int .u64 (n:Int)] w (j9 (fun zs=>zs=digs n) w):=by
 have hr:eR (w.alloc (.cells #[.int .u32 ((n:Int)%4294967296), .int .u32 ((n:Int)/4294967296)] 133)) w.heap.size [n%4294967296,n/4294967296]:=by
  exact So
 have hw:=hr.wrd' (n:=2) (HI n h) rfl (by omega);have htr:trim [n%4294967296,n/4294967296]=digs n:=by unfold trim;rw[Dw n]
 have hw3:=hw.trim;rw[htr]at hw3;have hb:Below w.heap.size w (w.alloc (.cells #[.int .u32 ((n:Int)%4294967296), .int .u32 ((n:Int)/4294967296)] 133)):=(Below.refl _ _).alloc (Nat.le_refl _) _;have Hw:=Lib.hid hw;have Htr:=Lib.hid htr;have Hw3:=Lib.hid hw3;have Hb:=Lib.hid hb;clear hr hw htr hw3 hb;have e1:(n:Int)/4294967296%4294967296=(n:Int)/4294967296:=by omega
 have h0:(0:Int)<=n:=by omega
 have h1:(n:Int)<18446744073709551616:=by omega
 go_enter func208,ntmps208
 go_wp2_with (go_at_call 199;(with_reducible refine(bV _ _ _ _ _ Hw.out).mono ?_);rw[Htr.out];rintro e w' ⟨rfl,rfl⟩)
 exact LR
theorem lE (n:Nat) (h:n<18446744073709551616) (w:World):Calls Tryz.prog 170 #[.int .u64 (n:Int)] w (j9 (fun zs=>zs=digs n) w):=by
 have hr:eR (w.alloc (.cells #[.int .u32 ((n:Int)%4294967296), .int .u32 ((n:Int)/4294967296)] 133)) w.heap.size [n%4294967296,n/4294967296]:=by
  exact So
 have hw:=hr.wrd' (n:=2) (HI n h) rfl (by omega);have htr:trim [n%4294967296,n/4294967296]=digs n:=by unfold trim;rw[Dw n]
 have hw3:=hw.trim;rw[htr]at hw3;have hb:Below w.heap.size w (w.alloc (.cells #[.int .u32 ((n:Int)%4294967296), .int .u32 ((n:Int)/4294967296)] 133)):=(Below.refl _ _).alloc (Nat.le_refl _) _;have Hw:=Lib.hid hw;have Htr:=Lib.hid htr;have Hw3:=Lib.hid hw3;have Hb:=Lib.hid hb;clear hr hw htr hw3 hb;have e1:(n:Int)/4294967296%4294967296=(n:Int)/4294967296:=by omega
 have h0:(0:Int)<=n:=by omega
 have h1:(n:Int)<18446744073709551616:=by omega
 go_enter func170,ntmps170
 go_wp2_with (go_at_call 162;(with_reducible refine(dA _ _ _ _ _ Hw.out).mono ?_);rw[Htr.out];rintro e w' ⟨rfl,rfl⟩)
 exact LR
theorem D9 (w:World) (r0 r1:Value) (t:TypeId):((w.alloc (.cells #[r0,r1] t)).cell? ⟨w.heap.size,0,none⟩=some r0/\(w.alloc (.cells #[r0,r1] t)).cell? ⟨w.heap.size,1,none⟩=some r1) /\
 ((w.alloc (.cells #[r0,r1] t)).frozen? ⟨w.heap.size,0,none⟩=false/\(w.alloc (.cells #[r0,r1] t)).frozen? ⟨w.heap.size,1,none⟩=false)/\aO w (w.alloc (.cells #[r0,r1] t)):=by
 refine⟨?_,?_,(aO.refl w).alloc _⟩<;>simp[go_sem]
theorem zF (n:Int):ar (decide (n<0)) (digs n.natAbs)=n:=by
 unfold ar;rw[af]
 by_cases h:n<0<;>simp[h]<;>omega
theorem lV (z:Int):IntKind.u64.wrap z=z%18446744073709551616:=IntKind.wrap_u64 z
theorem FM (n:Int) (hlo: -9223372036854775808<=n) (hhi:n<9223372036854775808) (w:World):Calls Tryz.prog 146 #[.int .i64 n] w (cI n w):=by
 obtain⟨⟨cr0,cr1⟩,⟨fr0,fr1⟩,hbW⟩:=D9 w (.bool false) (.slice none 0 0) 36;obtain⟨W,hW⟩:∃W,W=w.alloc (.cells #[.bool false, .slice none 0 0] 36):=⟨_,rfl⟩;rw[<- hW]at cr0 cr1 fr0 fr1 hbW;have HW:=Lib.hid hW;obtain⟨m,hm⟩:∃m:Nat,m=n.natAbs:=⟨_,rfl⟩;have hmb:m<18446744073709551616:=by omega
 have hfin:ar (decide (n<0)) (digs m)=n:=by rw[hm];exact zF n
 have Hfin:=Lib.hid hfin;clear hW hfin
 by_cases h:n<0
 ·have e1:IntKind.u64.wrap (-(IntKind.u64.wrap n))=(m:Int):=by rw[lV,lV];omega
  have ed:decide (n<0)=true:=by simp[h]
  rw[ed]at Hfin;clear hm
  go_enter func146,ntmps146
  go_wp2_with (first
   |(go_at_call 208;rw[<- HW.out];(with_reducible refine(fV m hmb _).mono ?_);rintro e w1 ⟨A1,n1,c1,zs,rfl,hw1,rfl,hE1⟩)
   |(go_at_call 200;(with_reducible refine(bT (by assumption) Hfin.out).mono ?_);rintro e w2 ⟨v2,rfl,⟨A2,n2,c2,rfl,hw2⟩,hb2⟩;have hE2:=aO.more hE1 hb2;have su0:=kc cr0 hE2;have su1:=kc cr1 hE2;have sf0:=kf cr0 fr0 hE2;have sf1:=kf cr1 fr1 hE2))
  exact bodyPost_ret (v:= .agg #[.bool true, .slice A2 n2 c2]) (by simp[results,results146,go_sem,su0,su1]) rfl (oX ed su0 su1 hw2 (hbW.trans hE2) (Nat.le_refl _))
 ·have e1:IntKind.u64.wrap n=(m:Int):=by rw[lV];omega
  have ed:decide (n<0)=false:=by simp[h]
  rw[ed]at Hfin;clear hm
  go_enter func146,ntmps146
  go_wp2_with (first
   |(go_at_call 208;rw[<- HW.out];(with_reducible refine(fV m hmb _).mono ?_);rintro e w1 ⟨A1,n1,c1,zs,rfl,hw1,rfl,hE1⟩)
   |(go_at_call 200;(with_reducible refine(bT (by assumption) Hfin.out).mono ?_);rintro e w2 ⟨v2,rfl,⟨A2,n2,c2,rfl,hw2⟩,hb2⟩;have hE2:=aO.more hE1 hb2;have su0:=kc cr0 hE2;have su1:=kc cr1 hE2;have sf0:=kf cr0 fr0 hE2;have sf1:=kf cr1 fr1 hE2))
  exact bodyPost_ret (v:= .agg #[.bool false, .slice A2 n2 c2]) (by simp[results,results146,go_sem,su0,su1]) rfl (oX ed su0 su1 hw2 (hbW.trans hE2) (Nat.le_refl _))
theorem rM (n:Int) (hlo: -9223372036854775808<=n) (hhi:n<9223372036854775808) (w:World):Calls Tryz.prog 105 #[.int .i64 n] w (cI n w):=by
 obtain⟨⟨cr0,cr1⟩,⟨fr0,fr1⟩,hbW⟩:=D9 w (.bool false) (.slice none 0 0) 36;obtain⟨W,hW⟩:∃W,W=w.alloc (.cells #[.bool false, .slice none 0 0] 36):=⟨_,rfl⟩;rw[<- hW]at cr0 cr1 fr0 fr1 hbW;have HW:=Lib.hid hW;obtain⟨m,hm⟩:∃m:Nat,m=n.natAbs:=⟨_,rfl⟩;have hmb:m<18446744073709551616:=by omega
 have hfin:ar (decide (n<0)) (digs m)=n:=by rw[hm];exact zF n
 have Hfin:=Lib.hid hfin;clear hW hfin
 by_cases h:n<0
 ·have e1:IntKind.u64.wrap (-(IntKind.u64.wrap n))=(m:Int):=by rw[lV,lV];omega
  have ed:decide (n<0)=true:=by simp[h]
  rw[ed]at Hfin;clear hm
  go_enter func105,ntmps105
  go_wp2_with (first
   |(go_at_call 170;rw[<- HW.out];(with_reducible refine(lE m hmb _).mono ?_);rintro e w1 ⟨A1,n1,c1,zs,rfl,hw1,rfl,hE1⟩)
   |(go_at_call 163;(with_reducible refine(dz (by assumption) Hfin.out).mono ?_);rintro e w2 ⟨v2,rfl,⟨A2,n2,c2,rfl,hw2⟩,hb2⟩;have hE2:=aO.more hE1 hb2;have su0:=kc cr0 hE2;have su1:=kc cr1 hE2;have sf0:=kf cr0 fr0 hE2;have sf1:=kf cr1 fr1 hE2))
  exact bodyPost_ret (v:= .agg #[.bool true, .slice A2 n2 c2]) (by simp[results,results105,go_sem,su0,su1]) rfl (oX ed su0 su1 hw2 (hbW.trans hE2) (Nat.le_refl _))
 ·have e1:IntKind.u64.wrap n=(m:Int):=by rw[lV];omega
  have ed:decide (n<0)=false:=by simp[h]
  rw[ed]at Hfin;clear hm
  go_enter func105,ntmps105
  go_wp2_with (first
   |(go_at_call 170;rw[<- HW.out];(with_reducible refine(lE m hmb _).mono ?_);rintro e w1 ⟨A1,n1,c1,zs,rfl,hw1,rfl,hE1⟩)
   |(go_at_call 163;(with_reducible refine(dz (by assumption) Hfin.out).mono ?_);rintro e w2 ⟨v2,rfl,⟨A2,n2,c2,rfl,hw2⟩,hb2⟩;have hE2:=aO.more hE1 hb2;have su0:=kc cr0 hE2;have su1:=kc cr1 hE2;have sf0:=kf cr0 fr0 hE2;have sf1:=kf cr1 fr1 hE2))
  exact bodyPost_ret (v:= .agg #[.bool false, .slice A2 n2 c2]) (by simp[results,results105,go_sem,su0,su1]) rfl (oX ed su0 su1 hw2 (hbW.trans hE2) (Nat.le_refl _))
theorem iN (a x:Nat) (ha:a<4294967296) (hx:x<4294967296):bits BinOp.or IntKind.u64 ((a:Int)*4294967296) (x:Int)=((a*4294967296+x:Nat):Int):=by
 have e:(a:Int)*4294967296=((a*4294967296:Nat):Int):=by omega
 rw[e,u64_or_nat _ _ (by omega) (by omega)]
 congr 1
 have h:=Nat.shiftLeft_add_eq_or_of_lt (i:=32) (b:=x) (Nat.lt_of_lt_of_eq hx (by decide)) a;rw[Nat.shiftLeft_eq]at h;exact h.symm
theorem zX (A:Option Addr) (n c:Nat) (xs:List Nat) (w:World) (hx:aJ w A n c xs) (hn:n<=2):
 Calls Tryz.prog 228 #[.slice A n c] w fun e w'=>e= .returned (.int .u64 (val xs))/\w=w':=by
 have Hx:=Lib.hid hx;clear hx
 go_enter func228,ntmps228
 go_wp2
 go_loop [3,4] (fun a i=>∃(k acc:Nat),k<=n/\i= .int .i64 ((k:Int)-1)/\a= .int .u64 acc/\acc=val (xs.drop k)/\acc<4294967296^(n-k)) (fun _ i=>(intOf i+1).toNat)
 case atStart=>exact⟨n,0,Nat.le_refl _,rfl,rfl,by rw[List.drop_of_length_le (by rw[Hx.out.len];exact Nat.le_refl _)];rfl,Nat.pow_pos (by omega)⟩
 case round=>
  obtain⟨k,acc,hk,rfl,rfl,ha,hab⟩:=hrel
  by_cases h0:0<k
  ·obtain⟨b1,o1,rfl,_,hc1⟩:=Hx.out.at (by omega)
   have hc1:=hc1 (k-1) (by omega);have g1:(0:Int)<=(k:Int)-1:=by omega
   have g2:(k:Int)-1<n:=by omega
   have hx1:=Hx.out.wd.getD (k-1);generalize hxx:xs.getD (k-1) 0=x at hc1 hx1
   have hacc:acc<4294967296:=by
    have:4294967296^(n-k)<=4294967296^1:=Nat.pow_le_pow_right (by omega) (by omega);omega
   have Hxx:=Lib.hid hxx;have Ha:=Lib.hid ha;have Hab:=Lib.hid hab;clear hxx ha hab
   go_wp2
   go_round
   case rel=>
    rw[iN acc x hacc hx1];refine⟨k-1,acc*4294967296+x,by omega,by go_num,rfl,?_,?_⟩
    ·rw[cU xs k h0 (by rw[Hx.out.len];exact hk),Hxx.out];simp only[val];rw[<- Ha.out];omega
    ·have e:n-(k-1)=(n-k)+1:=by omega
     rw[e,bl];have:=Hab.out;omega
   case measure=>simp[intOf];omega
  ·have hk0:k=0:=by omega
   subst hk0;have Ha:=Lib.hid ha;clear ha hab
   go_wp2
   go_ret
   exact⟨by rw[show val xs=acc from Ha.out.symm];rfl,rfl⟩
section
open Go.RowKit Go.Shelf
attribute [local go_sem] Oper.semAt_some
def upto {α:Type} (f:Nat->α) (k:Nat):List α:=(List.range k).map f
theorem pR {α:Type} (f:Nat->α) (k:Nat):upto f (k+1)=upto f k++[f k]:=by simp[upto,List.range_succ]
theorem qn {α:Type} (f:Nat->α) (k:Nat):(upto f k).length=k:=by simp[upto]
def d9 (xs:List Nat) (j:Nat):Nat × Nat:=(xs.length-1-j,xs.getD (xs.length-1-j) 0)
abbrev Io (x:Nat × Nat):Array Value:= #[.int .i64 (x.1:Int),dp (x.2%4294967296)]
def KB (n₀ Bs:Nat) (A B:World):Prop:=Below n₀ A B/\B.heap[Bs]? =A.heap[Bs]?
theorem KB.refl (n₀ Bs:Nat) (A:World):KB n₀ Bs A A:=⟨Below.refl _ _,rfl⟩
theorem KB.trans {n₀ Bs:Nat} {A B C:World} (h:KB n₀ Bs A B) (k:KB n₀ Bs B C):KB n₀ Bs A C:=⟨h.1.trans k.1,k.2.trans h.2⟩
theorem KB.put {n₀ Bs:Nat} {w:World} (hn:n₀<=w.heap.size) (hB:Bs<w.heap.size) (W:World) (l:Nat) (o o':Obj) (hl:w.heap.size<=l) (h:W.heap[l]? =some o) (h1:o.isCells=false) (h2:o.isWalk=false):KB n₀ Bs W (W.putObj l o'):=
 ⟨belowK_b hn W l o o' hl h h1 h2,World.putObj_heap_other (by omega)⟩
theorem KB.cell {n₀ Bs:Nat} {A B:World} (h:KB n₀ Bs A B) (i:Nat):B.cell? ⟨Bs,i,none⟩=A.cell? ⟨Bs,i,none⟩:=World.cell?_of_block (a:=⟨Bs,i,none⟩) h.2
set_option maxRecDepth 100000 in
theorem KU (F:Fence) (n:Nat) (h8:F.fn 260) (hro:F.round=none) (hn:1<=n) (l Bs:Nat) (A:Option Addr) (len cap:Nat) (xs:List Nat) (w:World) (hx:aJ w A len cap xs) (J Jx:List (Nat × Nat)->World->Prop)
 (hY:∀pre x W,J pre W->pre.length<len->YieldAt F (n-1) Tryz.prog l (Io x) W fun e W'=>
  (e= .returned (.bool true)/\J (pre++[x]) W'/\KB w.heap.size Bs W W')∨(e= .returned (.bool false)/\Jx (pre++[x]) W'))
 (W:World) (hbW:aO w W) (hBs:W.cell? ⟨Bs,0,none⟩=some (.slice A len cap)) (h0:J [] W):
 CallsIn F n Tryz.prog 260 #[.func (.yield l) #[] #[], .pointer (some ⟨Bs,0,none⟩)] W fun e W'=>(∃v,e= .returned v) /\
  ((∃ys,ys=upto (d9 xs) len/\J ys W')∨(∃pre,True/\Jx pre W')):=by
 have hcap:=hx.cap;have hlim:=hx.lim;have hlen:=hx.len;have hwd:=hx.wd;have Hx:=Lib.hid hx;have Hlen:=Lib.hid hlen;have Hwd:=Lib.hid hwd;clear hx hlen hwd;refine callsIn_of_wp func260 rfl h8 ?_ hro
 simp only[ntmps260,List.size_toArray,List.length_cons,List.length_nil,Nat.reduceAdd,Nat.reduceSub,Array.replicate_succ,Array.replicate_zero,List.push_toArray,List.append_toArray,List.nil_append,List.cons_append]
 gi_wp2
 gi_loopw [3] (fun i wr=>∃k:Nat,k<=len/\i= .int .i64 ((len:Int)-1-k)/\J (upto (d9 xs) k) wr/\KB w.heap.size Bs W wr)
  (fun i _=>(intOf i+1).toNat)
 case atStart=>exact⟨0,Nat.zero_le _,by go_num,h0,KB.refl _ _ _⟩
 case round=>
  obtain⟨k,hk,rfl,hJs,hnx⟩:=hrel;have hcs:=(hnx.cell 0).trans hBs
  by_cases hlt:k<len
  ·obtain⟨b,off,rfl,hb,hc⟩:=Hx.out.at (by omega)
   have hcx:=(hnx.1.cell (p:=⟨b,off+(len-1-k),none⟩) hb).trans ((hbW.cell (p:=⟨b,off+(len-1-k),none⟩) hb).trans (hc (len-1-k) (by omega)));obtain⟨fn,tmps,assign,body,hy,hR⟩:=hY _ (d9 xs k) wr hJs (by rw[qn];exact hlt);have e1:d9 xs k=(len-1-k,xs.getD (len-1-k) 0):=by unfold d9;rw[Hlen.out]
   rw[e1]at hy;have e2:((len-1-k:Nat):Int)=(len:Int)-1-k:=by omega
   dsimp only[Io]at hy;rw[e2]at hy;obtain⟨x,hxx⟩:∃x,x=xs.getD (len-1-k) 0:=⟨_,rfl⟩;rw[<- hxx]at hy hcx;rw[Nat.mod_eq_of_lt (by rw[hxx];exact Hwd.out.getD _)]at hy;have g1:(0:Int)<=(len:Int)-1-k:=by omega
   have g2:(len:Int)-1-k<len:=by omega
   have g3:((len:Int)-1-k).toNat=len-1-k:=by omega
   clear e1 e2 hc;have Hxx:=Lib.hid hxx;clear hxx
   gi_wp2
   refine hR.mono ?_;rintro e W3 (⟨rfl,hJ3,hk3⟩| ⟨rfl,hJx3⟩)
   ·gi_wp2
    go_roundw
    case rel=>exact⟨k+1,by omega,by go_num,by rw[pR];exact hJ3,hnx.trans hk3⟩
    case measure=>simp[intOf];omega
   ·gi_wp2
    refine bodyPost_ret (results_none rfl _ _ _) rfl ?_;exact⟨⟨_,rfl⟩, .inr ⟨_,trivial,hJx3⟩⟩
  ·obtain rfl:k=len:=by omega
   have g1:¬((k:Int)<=(k:Int)-1):=by omega
   gi_wp2
   go_end0
   first|exact⟨⟨_,rfl⟩, .inl ⟨_,rfl,hJs⟩⟩|exact⟨⟨_,rfl⟩, .inl hJs⟩
theorem lC (F:Fence) (n:Nat) (h5:F.fn 214) (hro:F.round=none) (a:Option Addr) (len cap:Nat) (w:World):
 CallsIn F n Tryz.prog 214 #[.slice a len cap] w fun e w'=>e= .returned (.func (.func 260) #[] #[.pointer (some ⟨w.heap.size,0,none⟩)])/\w'=w.alloc (.cells #[.slice a len cap] 34):=by
 refine callsIn_of_wp func214 rfl h5 ?_ hro
 simp only[ntmps214,List.size_toArray,List.length_cons,List.length_nil,Nat.reduceAdd,Nat.reduceSub,Array.replicate_succ,Array.replicate_zero,List.push_toArray,List.append_toArray,List.nil_append,List.cons_append]
 gi_wp2
 go_ret
 exact⟨rfl,rfl⟩
theorem Df (F:Fence) (n:Nat) (h8:F.fn 260) (hro:F.round=none) (hn:1<=n) (Bs:Nat) (A:Option Addr) (len cap:Nat) (xs:List Nat) (w0 w:World) (hx:aJ w0 A len cap xs) (h0:aO w0 w) (hBs:Bs<w.heap.size) (hc:w.cell? ⟨Bs,0,none⟩=some (.slice A len cap)):
 SeqStopsK F n Tryz.prog 260 #[.pointer (some ⟨Bs,0,none⟩)] Io (KB w0.heap.size Bs) (fun ys=>ys=upto (d9 xs) len) (fun _=>True) len w:=fun l J Jx W hW _ _ hY hJ0=>
 KU F n h8 hro hn l Bs A len cap xs w0 hx J Jx hY W (h0.more hW) ((hW.cell (p:=⟨Bs,0,none⟩) hBs).trans hc) hJ0
def wX (l:List (Nat × Nat)):Nat:=l.foldl (fun a p=>a*4294967296+p.2%4294967296) 0
theorem wP (l:List (Nat × Nat)) (p:Nat × Nat):wX (l++[p])=wX l*4294967296+p.2%4294967296:=by unfold wX;simp
theorem G2 (l:List (Nat × Nat)) (h:l.length<2):wX l<4294967296:=by
 match l,h with
 | [],_=>simp[wX]
 | [p],_=>simp[wX];omega
theorem Ga {xs:List Nat} (hw:Wd xs) (k:Nat) (hk:k<=xs.length):wX (upto (d9 xs) k)=val (xs.drop (xs.length-k)):=by
 induction k with
 |zero=>rw[Nat.sub_zero,List.drop_of_length_le (Nat.le_refl _)];rfl
 |succ k ih=>
  rw[pR,wP,ih (by omega)];have h:=cU xs (xs.length-k) (by omega) (by omega);rw[show xs.length-(k+1)=xs.length-k-1 by omega,h]
  simp only[val]
  have e:(d9 xs k).2=xs.getD (xs.length-k-1) 0:=by
   unfold d9;dsimp only;rw[show xs.length-1-k=xs.length-k-1 by omega]
  rw[e,Nat.mod_eq_of_lt (hw.getD _)];omega
set_option maxRecDepth 100000 in
theorem Gi (F:Fence) (n:Nat) (h3:F.fn 152) (h5:F.fn 214) (h7:F.fn 260) (hro:F.round=none) (hn:3<=n) (A:Option Addr) (len cap:Nat) (xs:List Nat) (w:World) (hx:aJ w A len cap xs) (hl2:len<=2):
 CallsIn F n Tryz.prog 152 #[.slice A len cap] w fun e W'=>e= .returned (.int .u64 (val xs:Int))/\Below w.heap.size w W':=by
 have h1:1<=n:=by omega
 have hlen:=hx.len;have hwd:=hx.wd;have Hx:=Lib.hid hx;have Hlen:=Lib.hid hlen;have Hwd:=Lib.hid hwd;clear hx hlen hwd;refine callsIn_of_wp_marks func152 rfl h3 ?_ hro
 simp only[ntmps152,List.size_toArray,List.length_cons,List.length_nil,Nat.reduceAdd,Nat.reduceSub,Array.replicate_succ,Array.replicate_zero,List.push_toArray,List.append_toArray,List.nil_append,List.cons_append]
 gi_wp2_with (gi_at_call 214;refine(lC F (n-1) h5 hro _ _ _ _).mono ?_;rintro e w' ⟨rfl,rfl⟩)
 have bS:=Boxed.new w 148 (.int .u64 0);have bN:=Boxed.new (w.alloc (.cells #[.int .u64 0] 148)) 34 (.slice A len cap);rw[World.size_alloc]at bN;have hB0:Below w.heap.size w ((w.alloc (.cells #[.int .u64 0] 148)).alloc (.cells #[.slice A len cap] 34)):=((Below.refl _ w).alloc (Nat.le_refl _) _).alloc (by simp) _
 refine wpIn_rangeFunc_ownG hro h1 (gf:=260) (lb:= #[.pointer (some ⟨w.heap.size+1,0,none⟩)]) rfl h7 (enters_of func260 (by kernel_rfl) rfl)
  (Df F (n-1) h7 hro (by omega) (w.heap.size+1) A len cap xs w _ Hx.out hB0 (by simp) bN.cell) (fun h k=>KB.trans h k) (KB.put (by simp;omega) (by simp)) (Below.refl _ _) (fun _=>rfl)
  (fun pre W=>(W.cell? ⟨w.heap.size,0,none⟩=some (.int .u64 (wX pre:Int))/\W.frozen? ⟨w.heap.size,0,none⟩=false)/\Below w.heap.size w W)
  (fun _ _ _=>False)
  (OwnFrom.and (Own.from (fun s A B row hs hg hr=>⟨cell_kept hs.1 hg hr,(frozen_kept hs.1 hg hr).trans hs.2⟩) _) (ownFrom_below (Nat.le_refl _) (by simp;omega)))
  (fun _ _ _ _ _ hs _ _=>hs)
  ⟨⟨(bS.alloc (.cells #[.slice A len cap] 34)).cell,(bS.alloc _).frozen⟩,hB0⟩
  (fun x=>{ tmps:= #[.slice A len cap,undef, .int .u64 0, .pointer (some ⟨w.heap.size,0,none⟩),undef,dp (x.2%4294967296), .slice A len cap, .func (.func 260) #[] #[.pointer (some ⟨w.heap.size+1,0,none⟩)], .int .i64 (x.1:Int),dp (x.2%4294967296),undef,undef,undef,undef,undef,undef],defers:=[] }) ?assign ?body ?done ?stop
 case assign=>
  intro l x W K hK
  gi_wp2
  exact hK
 case body=>
  rintro l pre x W ⟨⟨hc,hf⟩,hB⟩ hlt;have ha:=G2 pre (by omega);have hb:x.2%4294967296<4294967296:=Nat.mod_lt _ (by decide)
  have hs:=wP pre x;generalize x.2%4294967296=y at *;generalize wX pre=a at *;have Hs:=Lib.hid hs;clear hs
  gi_wp2
  exact⟨(KeepsOthers.setCell _ _ _).from _,⟨(Below.refl w.heap.size W).setCell (p:=⟨w.heap.size,0,none⟩) (Nat.le_refl _) _,Below.heap_setCell _ _ _ _ (by simp)⟩,⟨by rw[World.cell?_setCell_same' _ _ _ (by rw[hc];rfl),iN a y ha hb,Hs.out],by rw[World.frozen?_setCell];exact hf⟩,hB.setCell (p:=⟨w.heap.size,0,none⟩) (Nat.le_refl _) _⟩
 case done=>
  rintro D ys W hD rfl ⟨⟨hc,_⟩,hB⟩ hK;have he:=Ga Hwd.out len (by rw[Hlen.out];exact Nat.le_refl _);rw[Hlen.out,Nat.sub_self,List.drop_zero]at he
  gi_wp2
  refine⟨by simp, .inl ⟨_,_,rfl,run_takeDeferred hK,?_⟩⟩;refine⟨_,results_tmp rfl _ _ _,?_,?_⟩
  ·rfl
  ·exact hB.trans (belowK_b (w:=w) (Nat.le_refl _) W D _ _ (by simp at hD;omega) hK rfl rfl)
 case stop=>
  rintro D c pre W _ _ h _;exact h.elim
theorem rU (A:Option Addr) (len cap:Nat) (xs:List Nat) (w:World) (hx:aJ w A len cap xs) (hl2:len<=2):
 Calls Tryz.prog 152 #[.slice A len cap] w fun e W'=>e= .returned (.int .u64 (val xs:Int))/\Below w.heap.size w W':=
 callsIn_wide.1 (Gi Fence.wide 3 trivial trivial trivial rfl (Nat.le_refl _) A len cap xs w hx hl2)
end
end Go.Proofs.YtmkggcjajcdlcaaGreatDoor
