/- Mul of the program. Norm and Neg of both packages. Mul of the reference. Integers out of machine numbers. short of the reference: the number of at most two words. slices.Backward over words, and toUint of the program, which ranges over it. -/
import Derived.Test.YtmkggcjajcdlcaaGreatDoorVAd
set_option maxHeartbeats 100000000
set_option linter.all false
open Go.Proofs.Tryz
namespace Go.Proofs.YtmkggcjajcdlcaaGreatDoor
open Go.RowKit
section
attribute [local go_sem ↓] Go.wp_at_zero Go.wp_at_succ
theorem bM {neg:Bool} {A:Option Addr} {n c:Nat} {xs:List Nat} {w:World} {z:Int} (h:aC w A n c xs) (hz:ap neg xs=z):Calls Tryz.prog 200 #[.bool neg, .slice A n c] w (bZ z w):=hz ▸ H6 neg A n c xs w h
theorem dl {neg:Bool} {A:Option Addr} {n c:Nat} {xs:List Nat} {w:World} {z:Int} (h:aC w A n c xs) (hz:ap neg xs=z):Calls Tryz.prog 163 #[.bool neg, .slice A n c] w (bZ z w):=hz ▸ DN neg A n c xs w h
theorem bU {xs:List Nat} (h:Wd xs) (h1:xs.length<=2147483648):(trim xs).length<=4294967296:=by have:=bF h;omega
theorem K7 (na nb:Bool) (xs ys zs:List Nat) (h:val zs=val xs*val ys):ap (!(na == nb)) zs=ap na xs*ap nb ys:=by
 unfold ap;rw[h];cases na<;>cases nb<;>simp[Int.neg_mul,Int.mul_neg]
theorem Qc (va vb:Value) (na nb:Bool) (xs ys:List Nat) (w:World) (ha:bH w va na xs) (hb:bH w vb nb ys) (h1:xs.length<=2147483648) (h2:ys.length<=2147483648):
 Calls Tryz.prog 143 #[va,vb] w (bZ (ap na xs*ap nb ys) w):=by
 obtain⟨A,n,c,rfl,hx⟩:=ha;obtain⟨B,m,d,rfl,hy⟩:=hb;obtain⟨W,hW⟩:∃W,W=((w.alloc (.cells #[.bool na, .slice A n c] 36)).alloc (.cells #[.bool nb, .slice B m d] 36)).alloc (.cells #[.bool false, .slice none 0 0] 36):=⟨_,rfl⟩;obtain⟨⟨ca0,ca1,cb0,cb1⟩,⟨cr0,cr1,fr0,fr1⟩,hbW⟩:=gA w _ _ _ _ _ _ _ W hW;have hl1:=bU hx.wd h1;have hl2:=bU hy.wd h2;have hE:aK W W.drew:=(aK.refl W).drew;have Hx:=Lib.hid hx;have Hy:=Lib.hid hy;obtain⟨z,hz⟩:∃z,z=ap na xs*ap nb ys:=⟨_,rfl⟩;rw[<- hz];have hz1:ap (!(na == nb)) (digs (val (trim xs)*val (trim ys)))=z:=by rw[hz];exact K7 na nb xs ys _ (by rw[ae,aM,aM])
 have Hz:=Lib.hid hz1;clear hx hy hz hz1
 go_enter func143,ntmps143
 go_wp2_with fail
 rw[<- hW];clear hW
 go_region_held3 (fun w'=>w'.cell? ⟨w.heap.size,0,none⟩=some (.bool na)/\w'.cell? ⟨w.heap.size,1,none⟩=some (.slice A n c)/\w'.cell? ⟨w.heap.size+1,0,none⟩=some (.bool nb)/\w'.cell? ⟨w.heap.size+1,1,none⟩=some (.slice B m d)/\aK w w')
  (first|exact⟨ca0,ca1,cb0,cb1,hbW.drew⟩|assumption|exact bT (by assumption) (by assumption)|exact jM (by assumption) (by omega) (by dsimp only;omega) (by dsimp only;omega) (by dsimp only;omega) (by dsimp only;omega))
  (first
   |((go_at_call 199;(with_reducible refine(bK A n c xs _ (Hx.out.below (JR (by assumption)))).mono ?_);rintro e w' ⟨rfl,rfl⟩))
   |((go_at_call 199;(with_reducible refine(bK B m d ys _ (Hy.out.below (JR (by assumption)))).mono ?_);rintro e w' ⟨rfl,rfl⟩))
   |((go_at_call 204;(with_reducible refine(Ls _ _ _ _ _ _ (trim xs) (trim ys) _ (Hx.out.trim.below (JR (by assumption))) (Hy.out.trim.below (JR (by assumption))) hl1 hl2).mono ?_);rintro e w1 ⟨A1,n1,c1,zs,rfl,hw1,rfl,hb1⟩;have hE1:=aK.more (by assumption) hb1))
   |((go_at_call 200;(with_reducible refine(bM (by assumption) Hz.out).mono ?_);rintro e w2 ⟨v2,rfl,⟨A2,n2,c2,rfl,hw2⟩,hb2⟩;have hE2:=aK.more (by assumption) hb2;have su0:=kc cr0 hE2;have su1:=kc cr1 hE2;have sf0:=kf cr0 fr0 hE2;have sf1:=kf cr1 fr1 hE2)))
 go_wp2_with fail
 exact bodyPost_ret (v:= .agg #[.bool (decide (z<0)), .slice A2 n2 c2]) (by simp[results,results143,go_sem,su0,su1]) rfl (eW su0 su1 hw2 (hbW.trans hE2) (by omega))
end
section
attribute [local go_sem ↓] Go.wp_at_zero Go.wp_at_succ
theorem GS (na:Bool) (xs zs:List Nat) (h:val zs=val xs):ap na zs=ap na xs:=by unfold ap;rw[h]
theorem De (na:Bool) (xs zs:List Nat) (h:val zs=val xs):ap (!na) zs= -ap na xs:=by unfold ap;rw[h];cases na<;>simp
theorem Pn (va:Value) (na:Bool) (xs:List Nat) (w:World) (ha:bH w va na xs) (h1:xs.length<=2147483648):
 Calls Tryz.prog 151 #[va] w (bZ (ap na xs) w):=by
 obtain⟨A,n,c,rfl,hx⟩:=ha;obtain⟨W,hW⟩:∃W,W=(w.alloc (.cells #[.bool na, .slice A n c] 36)).alloc (.cells #[.bool false, .slice none 0 0] 36):=⟨_,rfl⟩;obtain⟨⟨ca0,ca1⟩,⟨cr0,cr1,fr0,fr1⟩,hbW⟩:=p7 w _ _ _ _ _ W hW;have hl1:=bU hx.wd h1;have hE:aK W W.drew:=(aK.refl W).drew;have Hx:=Lib.hid hx;obtain⟨z,hz⟩:∃z,z=ap na xs:=⟨_,rfl⟩;rw[<- hz];have hz1:ap (na) (trim xs)=z:=(GS na xs _ (aM xs)).trans hz.symm;have Hz:=Lib.hid hz1;clear hx hz hz1
 go_enter func151,ntmps151
 go_wp2_with fail
 rw[<- hW];clear hW
 go_region_held3 (fun w'=>w'.cell? ⟨w.heap.size,0,none⟩=some (.bool na)/\w'.cell? ⟨w.heap.size,1,none⟩=some (.slice A n c)/\aK w w')
  (first|exact⟨ca0,ca1,hbW.drew⟩|assumption|exact tu (by assumption) (by assumption)|exact GO (by assumption) (by omega) (by dsimp only;omega) (by dsimp only;omega))
  (first
   |((go_at_call 199;(with_reducible refine(bK A n c xs _ (Hx.out.below (JT (by assumption)))).mono ?_);rintro e w' ⟨rfl,rfl⟩))
   |((go_at_call 120;(with_reducible refine(iX _ _ _ (trim xs) _ (Hx.out.trim.below (JT (by assumption))) hl1).mono ?_);rintro e w1 ⟨A1,n1,c1,zs,rfl,hw1,rfl,hb1⟩;have hE1:=aK.more (by assumption) hb1))
   |((go_at_call 200;(with_reducible refine(bM (by assumption) Hz.out).mono ?_);rintro e w2 ⟨v2,rfl,⟨A2,n2,c2,rfl,hw2⟩,hb2⟩;have hE2:=aK.more (by assumption) hb2;have su0:=kc cr0 hE2;have su1:=kc cr1 hE2;have sf0:=kf cr0 fr0 hE2;have sf1:=kf cr1 fr1 hE2)))
 go_wp2_with fail
 exact bodyPost_ret (v:= .agg #[.bool (decide (z<0)), .slice A2 n2 c2]) (by simp[results,results151,go_sem,su0,su1]) rfl (eW su0 su1 hw2 (hbW.trans hE2) (by omega))
theorem Qz (va:Value) (na:Bool) (xs:List Nat) (w:World) (ha:bH w va na xs) (h1:xs.length<=2147483648):
 Calls Tryz.prog 206 #[va] w (bZ (-ap na xs) w):=by
 obtain⟨A,n,c,rfl,hx⟩:=ha;obtain⟨W,hW⟩:∃W,W=(w.alloc (.cells #[.bool na, .slice A n c] 36)).alloc (.cells #[.bool false, .slice none 0 0] 36):=⟨_,rfl⟩;obtain⟨⟨ca0,ca1⟩,⟨cr0,cr1,fr0,fr1⟩,hbW⟩:=p7 w _ _ _ _ _ W hW;have hl1:=bU hx.wd h1;have hE:aK W W.drew:=(aK.refl W).drew;have Hx:=Lib.hid hx;obtain⟨z,hz⟩:∃z,z= -ap na xs:=⟨_,rfl⟩;rw[<- hz];have hz1:ap (!na) (trim xs)=z:=(De na xs _ (aM xs)).trans hz.symm;have Hz:=Lib.hid hz1;clear hx hz hz1
 go_enter func206,ntmps206
 go_wp2_with fail
 rw[<- hW];clear hW
 go_region_held3 (fun w'=>w'.cell? ⟨w.heap.size,0,none⟩=some (.bool na)/\w'.cell? ⟨w.heap.size,1,none⟩=some (.slice A n c)/\aK w w')
  (first|exact⟨ca0,ca1,hbW.drew⟩|assumption|exact tu (by assumption) (by assumption)|exact GO (by assumption) (by omega) (by dsimp only;omega) (by dsimp only;omega))
  (first
   |((go_at_call 199;(with_reducible refine(bK A n c xs _ (Hx.out.below (JT (by assumption)))).mono ?_);rintro e w' ⟨rfl,rfl⟩))
   |((go_at_call 120;(with_reducible refine(iX _ _ _ (trim xs) _ (Hx.out.trim.below (JT (by assumption))) hl1).mono ?_);rintro e w1 ⟨A1,n1,c1,zs,rfl,hw1,rfl,hb1⟩;have hE1:=aK.more (by assumption) hb1))
   |((go_at_call 200;(with_reducible refine(bM (by assumption) Hz.out).mono ?_);rintro e w2 ⟨v2,rfl,⟨A2,n2,c2,rfl,hw2⟩,hb2⟩;have hE2:=aK.more (by assumption) hb2;have su0:=kc cr0 hE2;have su1:=kc cr1 hE2;have sf0:=kf cr0 fr0 hE2;have sf1:=kf cr1 fr1 hE2)))
 go_wp2_with fail
 exact bodyPost_ret (v:= .agg #[.bool (decide (z<0)), .slice A2 n2 c2]) (by simp[results,results206,go_sem,su0,su1]) rfl (eW su0 su1 hw2 (hbW.trans hE2) (by omega))
theorem iq (va:Value) (na:Bool) (xs:List Nat) (w:World) (ha:bH w va na xs):
 Calls Tryz.prog 158 #[va] w (bZ (ap na xs) w):=by
 obtain⟨A,n,c,rfl,hx⟩:=ha;obtain⟨W,hW⟩:∃W,W=(w.alloc (.cells #[.bool na, .slice A n c] 36)).alloc (.cells #[.bool false, .slice none 0 0] 36):=⟨_,rfl⟩;obtain⟨⟨ca0,ca1⟩,⟨cr0,cr1,fr0,fr1⟩,hbW⟩:=p7 w _ _ _ _ _ W hW;have hxW:=hx.ext hbW;have Hx:=Lib.hid hxW;obtain⟨z,hz⟩:∃z,z=ap na xs:=⟨_,rfl⟩;rw[<- hz];have hz1:ap (na) xs=z:=Eq.trans (rfl) hz.symm;have Hz:=Lib.hid hz1;have HW:=Lib.hid hW;clear hx hxW hz hz1 hW
 go_enter func158,ntmps158
 go_wp2_with (go_at_call 163;rw[<- HW.out];(with_reducible refine(dl Hx.out Hz.out).mono ?_);rintro e w2 ⟨v2,rfl,⟨A2,n2,c2,rfl,hw2⟩,hE2⟩;have su0:=kc cr0 hE2;have su1:=kc cr1 hE2;have sf0:=kf cr0 fr0 hE2;have sf1:=kf cr1 fr1 hE2)
 exact bodyPost_ret (v:= .agg #[.bool (decide (z<0)), .slice A2 n2 c2]) (by simp[results,results158,go_sem,su0,su1]) rfl (eW su0 su1 hw2 (hbW.trans hE2) (by omega))
theorem HG (va:Value) (na:Bool) (xs:List Nat) (w:World) (ha:bH w va na xs):
 Calls Tryz.prog 102 #[va] w (bZ (-ap na xs) w):=by
 obtain⟨A,n,c,rfl,hx⟩:=ha;obtain⟨W,hW⟩:∃W,W=(w.alloc (.cells #[.bool na, .slice A n c] 36)).alloc (.cells #[.bool false, .slice none 0 0] 36):=⟨_,rfl⟩;obtain⟨⟨ca0,ca1⟩,⟨cr0,cr1,fr0,fr1⟩,hbW⟩:=p7 w _ _ _ _ _ W hW;have hxW:=hx.ext hbW;have Hx:=Lib.hid hxW;obtain⟨z,hz⟩:∃z,z= -ap na xs:=⟨_,rfl⟩;rw[<- hz];have hz1:ap (!na) xs=z:=Eq.trans (De na xs xs rfl) hz.symm;have Hz:=Lib.hid hz1;have HW:=Lib.hid hW;clear hx hxW hz hz1 hW
 go_enter func102,ntmps102
 go_wp2_with (go_at_call 163;rw[<- HW.out];(with_reducible refine(dl Hx.out Hz.out).mono ?_);rintro e w2 ⟨v2,rfl,⟨A2,n2,c2,rfl,hw2⟩,hE2⟩;have su0:=kc cr0 hE2;have su1:=kc cr1 hE2;have sf0:=kf cr0 fr0 hE2;have sf1:=kf cr1 fr1 hE2)
 exact bodyPost_ret (v:= .agg #[.bool (decide (z<0)), .slice A2 n2 c2]) (by simp[results,results102,go_sem,su0,su1]) rfl (eW su0 su1 hw2 (hbW.trans hE2) (by omega))
end
section
attribute [local go_sem ↓] Go.wp_at_zero Go.wp_at_succ
theorem gJ (w:World) (a0 a1 b0 b1 r0 r1:Value) (t:TypeId) (W:World) (hW:W=((w.alloc (.cells #[a0,a1] t)).alloc (.cells #[b0,b1] t)).alloc (.cells #[r0,r1] t)):
 ((W.cell? ⟨w.heap.size,0,none⟩=some a0/\W.frozen? ⟨w.heap.size,0,none⟩=false)/\(W.cell? ⟨w.heap.size,1,none⟩=some a1/\W.frozen? ⟨w.heap.size,1,none⟩=false) /\
  (W.cell? ⟨w.heap.size+1,0,none⟩=some b0/\W.frozen? ⟨w.heap.size+1,0,none⟩=false)/\(W.cell? ⟨w.heap.size+1,1,none⟩=some b1/\W.frozen? ⟨w.heap.size+1,1,none⟩=false) /\
  (W.cell? ⟨w.heap.size+1+1,0,none⟩=some r0/\W.frozen? ⟨w.heap.size+1+1,0,none⟩=false)/\(W.cell? ⟨w.heap.size+1+1,1,none⟩=some r1/\W.frozen? ⟨w.heap.size+1+1,1,none⟩=false))/\aK w W:=by
 obtain⟨_,_,h2⟩:=gA w a0 a1 b0 b1 r0 r1 t W hW;refine⟨?_,h2⟩;subst hW
 simp[go_sem]
def i7 (w:World) (za zb:Int) (wx:World):Prop:=∃A n c B m d,
 ((wx.cell? ⟨w.heap.size,0,none⟩=some (.bool (decide (za<0)))/\wx.frozen? ⟨w.heap.size,0,none⟩=false)/\(wx.cell? ⟨w.heap.size,1,none⟩=some (.slice A n c)/\wx.frozen? ⟨w.heap.size,1,none⟩=false) /\
  (wx.cell? ⟨w.heap.size+1,0,none⟩=some (.bool (decide (zb<0)))/\wx.frozen? ⟨w.heap.size+1,0,none⟩=false)/\(wx.cell? ⟨w.heap.size+1,1,none⟩=some (.slice B m d)/\wx.frozen? ⟨w.heap.size+1,1,none⟩=false) /\
  (wx.cell? ⟨w.heap.size+1+1,0,none⟩=some (.bool false)/\wx.frozen? ⟨w.heap.size+1+1,0,none⟩=false)/\(wx.cell? ⟨w.heap.size+1+1,1,none⟩=some (.slice none 0 0)/\wx.frozen? ⟨w.heap.size+1+1,1,none⟩=false)) /\
 aC wx A n c (digs za.natAbs)/\aC wx B m d (digs zb.natAbs)/\aK w wx
theorem fU {w:World} {p:Addr} {v u:Value} (h:w.cell? p=some v):(w.setCell p u).cell? p=some u:=World.cell?_setCell_same' _ _ _ (by rw[h];rfl)
theorem mK {w w2:World} {za zb:Int} {na nb:Bool} {A B A1 B1:Option Addr} {n c m d n1 c1 m1 d1:Nat}
 (hB:(w2.cell? ⟨w.heap.size,0,none⟩=some (.bool na)/\w2.frozen? ⟨w.heap.size,0,none⟩=false)/\(w2.cell? ⟨w.heap.size,1,none⟩=some (.slice A1 n1 c1)/\w2.frozen? ⟨w.heap.size,1,none⟩=false) /\
  (w2.cell? ⟨w.heap.size+1,0,none⟩=some (.bool nb)/\w2.frozen? ⟨w.heap.size+1,0,none⟩=false)/\(w2.cell? ⟨w.heap.size+1,1,none⟩=some (.slice B1 m1 d1)/\w2.frozen? ⟨w.heap.size+1,1,none⟩=false) /\
  (w2.cell? ⟨w.heap.size+1+1,0,none⟩=some (.bool false)/\w2.frozen? ⟨w.heap.size+1+1,0,none⟩=false)/\(w2.cell? ⟨w.heap.size+1+1,1,none⟩=some (.slice none 0 0)/\w2.frozen? ⟨w.heap.size+1+1,1,none⟩=false))
 (hx:aC w2 A n c (digs za.natAbs)) (hy:aC w2 B m d (digs zb.natAbs)) (hE:aK w w2):
 i7 w za zb ((((w2.setCell ⟨w.heap.size,0,none⟩ (.bool (decide (za<0)))).setCell ⟨w.heap.size,1,none⟩ (.slice A n c)).setCell ⟨w.heap.size+1,0,none⟩ (.bool (decide (zb<0)))).setCell ⟨w.heap.size+1,1,none⟩ (.slice B m d)):=by
 obtain⟨⟨a0,f0⟩,⟨a1,f1⟩,⟨a2,f2⟩,⟨a3,f3⟩,⟨a4,f4⟩,⟨a5,f5⟩⟩:=hB;have b1:=db a1 (u:= .bool (decide (za<0))) (q:=⟨w.heap.size,0,none⟩) (by simp);have b2:=db (db a2 (u:= .bool (decide (za<0))) (q:=⟨w.heap.size,0,none⟩) (by simp)) (u:= .slice A n c) (q:=⟨w.heap.size,1,none⟩) (by simp);have b3:=db (db (db a3 (u:= .bool (decide (za<0))) (q:=⟨w.heap.size,0,none⟩) (by simp)) (u:= .slice A n c) (q:=⟨w.heap.size,1,none⟩) (by simp)) (u:= .bool (decide (zb<0))) (q:=⟨w.heap.size+1,0,none⟩) (by simp)
 have far:∀{p:Addr} {v:Value},w2.cell? p=some v->p.block≠w.heap.size->p.block≠w.heap.size+1 ->
  ((((w2.setCell ⟨w.heap.size,0,none⟩ (.bool (decide (za<0)))).setCell ⟨w.heap.size,1,none⟩ (.slice A n c)).setCell ⟨w.heap.size+1,0,none⟩ (.bool (decide (zb<0)))).setCell ⟨w.heap.size+1,1,none⟩ (.slice B m d)).cell? p=some v:=by
  intro p v hp h1 h2;exact aH (aH hp h1) h2
 have fr:∀p,((((w2.setCell ⟨w.heap.size,0,none⟩ (.bool (decide (za<0)))).setCell ⟨w.heap.size,1,none⟩ (.slice A n c)).setCell ⟨w.heap.size+1,0,none⟩ (.bool (decide (zb<0)))).setCell ⟨w.heap.size+1,1,none⟩ (.slice B m d)).frozen? p=w2.frozen? p:=by
  intro p;rw[World.frozen?_setCell,World.frozen?_setCell,World.frozen?_setCell,World.frozen?_setCell]
 have st:∀{A':Option Addr} {n' c':Nat} {us:List Nat},aC w2 A' n' c' us ->
  aC ((((w2.setCell ⟨w.heap.size,0,none⟩ (.bool (decide (za<0)))).setCell ⟨w.heap.size,1,none⟩ (.slice A n c)).setCell ⟨w.heap.size+1,0,none⟩ (.bool (decide (zb<0)))).setCell ⟨w.heap.size+1,1,none⟩ (.slice B m d)) A' n' c' us:=by
  intro A' n' c' us h;exact(((h.store a0 (by intro x;simp) _).store b1 (by intro x;simp) _).store b2 (by intro x;simp) _).store b3 (by intro x;simp) _
 refine⟨A,n,c,B,m,d,⟨⟨?_,(fr _).trans f0⟩,⟨?_,(fr _).trans f1⟩,⟨?_,(fr _).trans f2⟩,⟨fU b3,(fr _).trans f3⟩,⟨far a4 (by dsimp only;omega) (by dsimp only;omega),(fr _).trans f4⟩,⟨far a5 (by dsimp only;omega) (by dsimp only;omega),(fr _).trans f5⟩⟩,st hx,st hy,
  (((hE.set (p:=⟨w.heap.size,0,none⟩) (Nat.le_refl _) _).set (p:=⟨w.heap.size,1,none⟩) (Nat.le_refl _) _).set (p:=⟨w.heap.size+1,0,none⟩) (by dsimp only;omega) _).set (p:=⟨w.heap.size+1,1,none⟩) (by dsimp only;omega) _⟩
 ·exact aH (db (fU a0) (by simp)) (by dsimp only;omega)
 ·exact aH (fU b1) (by dsimp only;omega)
 ·exact db (fU b2) (by simp)
theorem D2 (za zb:Int):ap (!(decide (za<0) == decide (zb<0))) (digs (val (digs za.natAbs)*val (digs zb.natAbs)))=za*zb:=by
 rw[ae,ae]
 have key:∀x:Int,(if decide (x<0)then -(x.natAbs:Int)else(x.natAbs:Int))=x:=by
  intro x
  by_cases h:x<0<;>simp[h]<;>omega
 have h1:=key za;have h2:=key zb;generalize decide (za<0)=p at *;generalize decide (zb<0)=q at *;generalize za.natAbs=a at *;generalize zb.natAbs=b at *;rw[<- h1,<- h2];unfold ap;rw[ae];cases p<;>cases q<;>simp[Int.neg_mul,Int.mul_neg]
theorem Gb (va vb:Value) (na nb:Bool) (xs ys:List Nat) (w:World) (ha:bH w va na xs) (hb:bH w vb nb ys) (h1:xs.length<=2147483648) (h2:ys.length<=2147483648):
 Calls Tryz.prog 98 #[va,vb] w (bZ (ap na xs*ap nb ys) w):=by
 obtain⟨A,n,c,rfl,hx⟩:=ha;obtain⟨B,m,d,rfl,hy⟩:=hb;obtain⟨W,hW⟩:∃W,W=((w.alloc (.cells #[.bool na, .slice A n c] 36)).alloc (.cells #[.bool nb, .slice B m d] 36)).alloc (.cells #[.bool false, .slice none 0 0] 36):=⟨_,rfl⟩;obtain⟨hB,hbW⟩:=gJ w _ _ _ _ _ _ _ W hW;have hw:aK w W.drew:=hbW.drew;have hB0:=iy hB (aK.refl W).drew;clear hB hbW;have Hx:=Lib.hid hx;have Hy:=Lib.hid hy;obtain⟨z,hz⟩:∃z,z=ap na xs*ap nb ys:=⟨_,rfl⟩;rw[<- hz];have hz1:ap (!(decide (ap na xs<0) == decide (ap nb ys<0))) (digs (val (digs (ap na xs).natAbs)*val (digs (ap nb ys).natAbs)))=z:=by rw[hz];exact D2 _ _
 have Hz:=Lib.hid hz1;clear hx hy hz hz1
 go_enter func98,ntmps98
 go_wp2_with fail
 rw[<- hW];clear hW
 go_cut [5] (fun _ wx=>i7 w (ap na xs) (ap nb ys) wx)
 case first=>
  exact R6
 case rest=>
  obtain⟨A1,n1,c1,B1,m1,d1,⟨⟨ca0,_⟩,⟨ca1,_⟩,⟨cb0,_⟩,⟨cb1,_⟩,⟨cr0,fr0⟩,⟨cr1,fr1⟩⟩,hx1,hy1,hE1⟩:=hcut;have hE:aK wc wc.drew:=(aK.refl wc).drew;have hl1:(digs (ap na xs).natAbs).length<=4294967296:=by rw[bD];exact bU Hx.out.wd h1
  have hl2:(digs (ap nb ys).natAbs).length<=4294967296:=by rw[bD];exact bU Hy.out.wd h2
  generalize ha:ap na xs=za at *;generalize hb:ap nb ys=zb at *;have Hx1:=Lib.hid hx1;have Hy1:=Lib.hid hy1;clear ha hb hx1 hy1 hw hB0
  go_wp2_with fail
  go_region_held3 (fun w'=>w'.cell? ⟨w.heap.size,0,none⟩=some (.bool (decide (za<0)))/\w'.cell? ⟨w.heap.size,1,none⟩=some (.slice A1 n1 c1)/\w'.cell? ⟨w.heap.size+1,0,none⟩=some (.bool (decide (zb<0)))/\w'.cell? ⟨w.heap.size+1,1,none⟩=some (.slice B1 m1 d1)/\aK w w')
   (first|exact⟨ca0,ca1,cb0,cb1,hE1.drew⟩|assumption|exact bT (by assumption) (by assumption)|exact jM (by assumption) (by omega) (by dsimp only;omega) (by dsimp only;omega) (by dsimp only;omega) (by dsimp only;omega))
   (first
    |((go_at_call 161;(with_reducible refine(GQ _ _ _ _ _ _ _ _ _ (Hx1.out.ext (by assumption)) (Hy1.out.ext (by assumption)) (by rw[<- Hx1.out.len];exact hl1) (by rw[<- Hy1.out.len];exact hl2)).mono ?_);rintro e w1 ⟨A3,n3,c3,zs,rfl,hw1,rfl,hb1⟩;have hE3:=aK.more (by assumption) hb1))
    |((go_at_call 163;(with_reducible refine(dl (by assumption) Hz.out).mono ?_);rintro e w2 ⟨v2,rfl,⟨A2,n2,c2,rfl,hw2⟩,hb2⟩;have hE2:=aK.more (by assumption) hb2;have su0:=kc cr0 hE2;have su1:=kc cr1 hE2;have sf0:=kf cr0 fr0 hE2;have sf1:=kf cr1 fr1 hE2)))
  go_wp2_with fail
  exact bodyPost_ret (v:= .agg #[.bool (decide (z<0)), .slice A2 n2 c2]) (by simp[results,results98,go_sem,su0,su1]) rfl (eW su0 su1 hw2 (hE1.trans hE2) (by omega))
end
theorem C5 (n:Nat):val [n%4294967296,n/4294967296]=n:=by
 simp only[val]
 omega
theorem FZ (n:Nat) (h:n<18446744073709551616):Wd [n%4294967296,n/4294967296]:=
 Wd.cons (by omega) (Wd.cons (by omega) Wd.nil)
theorem fQ (n:Nat) (h:n<18446744073709551616) (w:World):Calls Tryz.prog 208 #[.int .u64 (n:Int)] w (jz (fun zs=>zs=digs n) w):=by
 have hr:eJ (w.alloc (.cells #[.int .u32 ((n:Int)%4294967296), .int .u32 ((n:Int)/4294967296)] 133)) w.heap.size [n%4294967296,n/4294967296]:=by
  exact Ra
 have hw:=hr.wrd' (n:=2) (FZ n h) rfl (by omega);have htr:trim [n%4294967296,n/4294967296]=digs n:=by unfold trim;rw[C5 n]
 have hw3:=hw.trim;rw[htr]at hw3;have hb:Below w.heap.size w (w.alloc (.cells #[.int .u32 ((n:Int)%4294967296), .int .u32 ((n:Int)/4294967296)] 133)):=(Below.refl _ _).alloc (Nat.le_refl _) _;have Hw:=Lib.hid hw;have Htr:=Lib.hid htr;have Hw3:=Lib.hid hw3;have Hb:=Lib.hid hb;clear hr hw htr hw3 hb;have e1:(n:Int)/4294967296%4294967296=(n:Int)/4294967296:=by omega
 have h0:(0:Int)<=n:=by omega
 have h1:(n:Int)<18446744073709551616:=by omega
 go_enter func208,ntmps208
 go_wp2_with (go_at_call 199;(with_reducible refine(bK _ _ _ _ _ Hw.out).mono ?_);rw[Htr.out];rintro e w' ⟨rfl,rfl⟩)
 exact JF
theorem ke (n:Nat) (h:n<18446744073709551616) (w:World):Calls Tryz.prog 170 #[.int .u64 (n:Int)] w (jz (fun zs=>zs=digs n) w):=by
 have hr:eJ (w.alloc (.cells #[.int .u32 ((n:Int)%4294967296), .int .u32 ((n:Int)/4294967296)] 133)) w.heap.size [n%4294967296,n/4294967296]:=by
  exact Ra
 have hw:=hr.wrd' (n:=2) (FZ n h) rfl (by omega);have htr:trim [n%4294967296,n/4294967296]=digs n:=by unfold trim;rw[C5 n]
 have hw3:=hw.trim;rw[htr]at hw3;have hb:Below w.heap.size w (w.alloc (.cells #[.int .u32 ((n:Int)%4294967296), .int .u32 ((n:Int)/4294967296)] 133)):=(Below.refl _ _).alloc (Nat.le_refl _) _;have Hw:=Lib.hid hw;have Htr:=Lib.hid htr;have Hw3:=Lib.hid hw3;have Hb:=Lib.hid hb;clear hr hw htr hw3 hb;have e1:(n:Int)/4294967296%4294967296=(n:Int)/4294967296:=by omega
 have h0:(0:Int)<=n:=by omega
 have h1:(n:Int)<18446744073709551616:=by omega
 go_enter func170,ntmps170
 go_wp2_with (go_at_call 162;(with_reducible refine(dp _ _ _ _ _ Hw.out).mono ?_);rw[Htr.out];rintro e w' ⟨rfl,rfl⟩)
 exact JF
theorem CR (w:World) (r0 r1:Value) (t:TypeId):((w.alloc (.cells #[r0,r1] t)).cell? ⟨w.heap.size,0,none⟩=some r0/\(w.alloc (.cells #[r0,r1] t)).cell? ⟨w.heap.size,1,none⟩=some r1) /\
 ((w.alloc (.cells #[r0,r1] t)).frozen? ⟨w.heap.size,0,none⟩=false/\(w.alloc (.cells #[r0,r1] t)).frozen? ⟨w.heap.size,1,none⟩=false)/\aK w (w.alloc (.cells #[r0,r1] t)):=by
 refine⟨?_,?_,(aK.refl w).alloc _⟩<;>simp[go_sem]
theorem x3 (n:Int):ap (decide (n<0)) (digs n.natAbs)=n:=by
 unfold ap;rw[ae]
 by_cases h:n<0<;>simp[h]<;>omega
theorem ks (z:Int):IntKind.u64.wrap z=z%18446744073709551616:=IntKind.wrap_u64 z
theorem EZ (n:Int) (hlo: -9223372036854775808<=n) (hhi:n<9223372036854775808) (w:World):Calls Tryz.prog 146 #[.int .i64 n] w (bZ n w):=by
 obtain⟨⟨cr0,cr1⟩,⟨fr0,fr1⟩,hbW⟩:=CR w (.bool false) (.slice none 0 0) 36;obtain⟨W,hW⟩:∃W,W=w.alloc (.cells #[.bool false, .slice none 0 0] 36):=⟨_,rfl⟩;rw[<- hW]at cr0 cr1 fr0 fr1 hbW;have HW:=Lib.hid hW;obtain⟨m,hm⟩:∃m:Nat,m=n.natAbs:=⟨_,rfl⟩;have hmb:m<18446744073709551616:=by omega
 have hfin:ap (decide (n<0)) (digs m)=n:=by rw[hm];exact x3 n
 have Hfin:=Lib.hid hfin;clear hW hfin
 by_cases h:n<0
 ·have e1:IntKind.u64.wrap (-(IntKind.u64.wrap n))=(m:Int):=by rw[ks,ks];omega
  have ed:decide (n<0)=true:=by simp[h]
  rw[ed]at Hfin;clear hm
  go_enter func146,ntmps146
  go_wp2_with (first
   |(go_at_call 208;rw[<- HW.out];(with_reducible refine(fQ m hmb _).mono ?_);rintro e w1 ⟨A1,n1,c1,zs,rfl,hw1,rfl,hE1⟩)
   |(go_at_call 200;(with_reducible refine(bM (by assumption) Hfin.out).mono ?_);rintro e w2 ⟨v2,rfl,⟨A2,n2,c2,rfl,hw2⟩,hb2⟩;have hE2:=aK.more hE1 hb2;have su0:=kc cr0 hE2;have su1:=kc cr1 hE2;have sf0:=kf cr0 fr0 hE2;have sf1:=kf cr1 fr1 hE2))
  exact bodyPost_ret (v:= .agg #[.bool true, .slice A2 n2 c2]) (by simp[results,results146,go_sem,su0,su1]) rfl (my ed su0 su1 hw2 (hbW.trans hE2) (Nat.le_refl _))
 ·have e1:IntKind.u64.wrap n=(m:Int):=by rw[ks];omega
  have ed:decide (n<0)=false:=by simp[h]
  rw[ed]at Hfin;clear hm
  go_enter func146,ntmps146
  go_wp2_with (first
   |(go_at_call 208;rw[<- HW.out];(with_reducible refine(fQ m hmb _).mono ?_);rintro e w1 ⟨A1,n1,c1,zs,rfl,hw1,rfl,hE1⟩)
   |(go_at_call 200;(with_reducible refine(bM (by assumption) Hfin.out).mono ?_);rintro e w2 ⟨v2,rfl,⟨A2,n2,c2,rfl,hw2⟩,hb2⟩;have hE2:=aK.more hE1 hb2;have su0:=kc cr0 hE2;have su1:=kc cr1 hE2;have sf0:=kf cr0 fr0 hE2;have sf1:=kf cr1 fr1 hE2))
  exact bodyPost_ret (v:= .agg #[.bool false, .slice A2 n2 c2]) (by simp[results,results146,go_sem,su0,su1]) rfl (my ed su0 su1 hw2 (hbW.trans hE2) (Nat.le_refl _))
theorem qL (n:Int) (hlo: -9223372036854775808<=n) (hhi:n<9223372036854775808) (w:World):Calls Tryz.prog 105 #[.int .i64 n] w (bZ n w):=by
 obtain⟨⟨cr0,cr1⟩,⟨fr0,fr1⟩,hbW⟩:=CR w (.bool false) (.slice none 0 0) 36;obtain⟨W,hW⟩:∃W,W=w.alloc (.cells #[.bool false, .slice none 0 0] 36):=⟨_,rfl⟩;rw[<- hW]at cr0 cr1 fr0 fr1 hbW;have HW:=Lib.hid hW;obtain⟨m,hm⟩:∃m:Nat,m=n.natAbs:=⟨_,rfl⟩;have hmb:m<18446744073709551616:=by omega
 have hfin:ap (decide (n<0)) (digs m)=n:=by rw[hm];exact x3 n
 have Hfin:=Lib.hid hfin;clear hW hfin
 by_cases h:n<0
 ·have e1:IntKind.u64.wrap (-(IntKind.u64.wrap n))=(m:Int):=by rw[ks,ks];omega
  have ed:decide (n<0)=true:=by simp[h]
  rw[ed]at Hfin;clear hm
  go_enter func105,ntmps105
  go_wp2_with (first
   |(go_at_call 170;rw[<- HW.out];(with_reducible refine(ke m hmb _).mono ?_);rintro e w1 ⟨A1,n1,c1,zs,rfl,hw1,rfl,hE1⟩)
   |(go_at_call 163;(with_reducible refine(dl (by assumption) Hfin.out).mono ?_);rintro e w2 ⟨v2,rfl,⟨A2,n2,c2,rfl,hw2⟩,hb2⟩;have hE2:=aK.more hE1 hb2;have su0:=kc cr0 hE2;have su1:=kc cr1 hE2;have sf0:=kf cr0 fr0 hE2;have sf1:=kf cr1 fr1 hE2))
  exact bodyPost_ret (v:= .agg #[.bool true, .slice A2 n2 c2]) (by simp[results,results105,go_sem,su0,su1]) rfl (my ed su0 su1 hw2 (hbW.trans hE2) (Nat.le_refl _))
 ·have e1:IntKind.u64.wrap n=(m:Int):=by rw[ks];omega
  have ed:decide (n<0)=false:=by simp[h]
  rw[ed]at Hfin;clear hm
  go_enter func105,ntmps105
  go_wp2_with (first
   |(go_at_call 170;rw[<- HW.out];(with_reducible refine(ke m hmb _).mono ?_);rintro e w1 ⟨A1,n1,c1,zs,rfl,hw1,rfl,hE1⟩)
   |(go_at_call 163;(with_reducible refine(dl (by assumption) Hfin.out).mono ?_);rintro e w2 ⟨v2,rfl,⟨A2,n2,c2,rfl,hw2⟩,hb2⟩;have hE2:=aK.more hE1 hb2;have su0:=kc cr0 hE2;have su1:=kc cr1 hE2;have sf0:=kf cr0 fr0 hE2;have sf1:=kf cr1 fr1 hE2))
  exact bodyPost_ret (v:= .agg #[.bool false, .slice A2 n2 c2]) (by simp[results,results105,go_sem,su0,su1]) rfl (my ed su0 su1 hw2 (hbW.trans hE2) (Nat.le_refl _))
theorem ii (a x:Nat) (ha:a<4294967296) (hx:x<4294967296):bits BinOp.or IntKind.u64 ((a:Int)*4294967296) (x:Int)=((a*4294967296+x:Nat):Int):=by
 have e:(a:Int)*4294967296=((a*4294967296:Nat):Int):=by omega
 rw[e,u64_or_nat _ _ (by omega) (by omega)]
 congr 1
 have h:=Nat.shiftLeft_add_eq_or_of_lt (i:=32) (b:=x) (Nat.lt_of_lt_of_eq hx (by decide)) a;rw[Nat.shiftLeft_eq]at h;exact h.symm
theorem yg (A:Option Addr) (n c:Nat) (xs:List Nat) (w:World) (hx:aC w A n c xs) (hn:n<=2):
 Calls Tryz.prog 228 #[.slice A n c] w fun e w'=>e= .returned (.int .u64 (val xs))/\w=w':=by
 have Hx:=Lib.hid hx;clear hx
 go_enter func228,ntmps228
 go_wp2
 go_loop [3,4] (fun a i=>∃(k acc:Nat),k<=n/\i= .int .i64 ((k:Int)-1)/\a= .int .u64 acc/\acc=val (xs.drop k)/\acc<4294967296^(n-k)) (fun _ i=>(intOf i+1).toNat)
 case atStart=>exact⟨n,0,Nat.le_refl _,rfl,rfl,by rw[List.drop_of_length_le (by rw[Hx.out.len];exact Nat.le_refl _)];rfl,Nat.pow_pos (by omega)⟩
 case round=>
  obtain⟨k,acc,hk,rfl,rfl,ha,hab⟩:=hrel
  by_cases h0:0<k
  ·obtain⟨b1,o1,rfl,_,hc1⟩:=Hx.out.at (by omega)
   have hc1:=hc1 (k-1) (by omega);have g1:(0:Int)<=(k:Int)-1:=by omega
   have g2:(k:Int)-1<n:=by omega
   have hx1:=Hx.out.wd.getD (k-1);generalize hxx:xs.getD (k-1) 0=x at hc1 hx1
   have hacc:acc<4294967296:=by
    have:4294967296^(n-k)<=4294967296^1:=Nat.pow_le_pow_right (by omega) (by omega);omega
   have Hxx:=Lib.hid hxx;have Ha:=Lib.hid ha;have Hab:=Lib.hid hab;clear hxx ha hab
   go_wp2
   go_round
   case rel=>
    rw[ii acc x hacc hx1];refine⟨k-1,acc*4294967296+x,by omega,by go_num,rfl,?_,?_⟩
    ·rw[cH xs k h0 (by rw[Hx.out.len];exact hk),Hxx.out];simp only[val];rw[<- Ha.out];omega
    ·have e:n-(k-1)=(n-k)+1:=by omega
     rw[e,bc];have:=Hab.out;omega
   case measure=>simp[intOf];omega
  ·have hk0:k=0:=by omega
   subst hk0;have Ha:=Lib.hid ha;clear ha hab
   go_wp2
   go_ret
   exact⟨by rw[show val xs=acc from Ha.out.symm];rfl,rfl⟩
section
open Go.RowKit Go.Shelf
attribute [local go_sem] Oper.semAt_some
def upto {α:Type} (f:Nat->α) (k:Nat):List α:=(List.range k).map f
theorem oh {α:Type} (f:Nat->α) (k:Nat):upto f (k+1)=upto f k++[f k]:=by simp[upto,List.range_succ]
theorem o8 {α:Type} (f:Nat->α) (k:Nat):(upto f k).length=k:=by simp[upto]
def dJ (xs:List Nat) (j:Nat):Nat × Nat:=(xs.length-1-j,xs.getD (xs.length-1-j) 0)
abbrev Hn (x:Nat × Nat):Array Value:= #[.int .i64 (x.1:Int),dh (x.2%4294967296)]
def KB (n₀ Bs:Nat) (A B:World):Prop:=Below n₀ A B/\B.heap[Bs]? =A.heap[Bs]?
theorem KB.refl (n₀ Bs:Nat) (A:World):KB n₀ Bs A A:=⟨Below.refl _ _,rfl⟩
theorem KB.trans {n₀ Bs:Nat} {A B C:World} (h:KB n₀ Bs A B) (k:KB n₀ Bs B C):KB n₀ Bs A C:=⟨h.1.trans k.1,k.2.trans h.2⟩
theorem KB.put {n₀ Bs:Nat} {w:World} (hn:n₀<=w.heap.size) (hB:Bs<w.heap.size) (W:World) (l:Nat) (o o':Obj) (hl:w.heap.size<=l) (h:W.heap[l]? =some o) (h1:o.isCells=false) (h2:o.isWalk=false):KB n₀ Bs W (W.putObj l o'):=
 ⟨belowK_b hn W l o o' hl h h1 h2,World.putObj_heap_other (by omega)⟩
theorem KB.cell {n₀ Bs:Nat} {A B:World} (h:KB n₀ Bs A B) (i:Nat):B.cell? ⟨Bs,i,none⟩=A.cell? ⟨Bs,i,none⟩:=World.cell?_of_block (a:=⟨Bs,i,none⟩) h.2
set_option maxRecDepth 100000 in
theorem IJ (F:Fence) (n:Nat) (h8:F.fn 260) (hro:F.round=none) (hn:1<=n) (l Bs:Nat) (A:Option Addr) (len cap:Nat) (xs:List Nat) (w:World) (hx:aC w A len cap xs) (J Jx:List (Nat × Nat)->World->Prop)
 (hY:∀pre x W,J pre W->pre.length<len->YieldAt F (n-1) Tryz.prog l (Hn x) W fun e W'=>
  (e= .returned (.bool true)/\J (pre++[x]) W'/\KB w.heap.size Bs W W')∨(e= .returned (.bool false)/\Jx (pre++[x]) W'))
 (W:World) (hbW:aK w W) (hBs:W.cell? ⟨Bs,0,none⟩=some (.slice A len cap)) (h0:J [] W):
 CallsIn F n Tryz.prog 260 #[.func (.yield l) #[] #[], .pointer (some ⟨Bs,0,none⟩)] W fun e W'=>(∃v,e= .returned v) /\
  ((∃ys,ys=upto (dJ xs) len/\J ys W')∨(∃pre,True/\Jx pre W')):=by
 have hcap:=hx.cap;have hlim:=hx.lim;have hlen:=hx.len;have hwd:=hx.wd;have Hx:=Lib.hid hx;have Hlen:=Lib.hid hlen;have Hwd:=Lib.hid hwd;clear hx hlen hwd;refine callsIn_of_wp func260 rfl h8 ?_ hro
 simp only[ntmps260,List.size_toArray,List.length_cons,List.length_nil,Nat.reduceAdd,Nat.reduceSub,Array.replicate_succ,Array.replicate_zero,List.push_toArray,List.append_toArray,List.nil_append,List.cons_append]
 gi_wp2
 gi_loopw [3] (fun i wr=>∃k:Nat,k<=len/\i= .int .i64 ((len:Int)-1-k)/\J (upto (dJ xs) k) wr/\KB w.heap.size Bs W wr)
  (fun i _=>(intOf i+1).toNat)
 case atStart=>exact⟨0,Nat.zero_le _,by go_num,h0,KB.refl _ _ _⟩
 case round=>
  obtain⟨k,hk,rfl,hJs,hnx⟩:=hrel;have hcs:=(hnx.cell 0).trans hBs
  by_cases hlt:k<len
  ·obtain⟨b,off,rfl,hb,hc⟩:=Hx.out.at (by omega)
   have hcx:=(hnx.1.cell (p:=⟨b,off+(len-1-k),none⟩) hb).trans ((hbW.cell (p:=⟨b,off+(len-1-k),none⟩) hb).trans (hc (len-1-k) (by omega)));obtain⟨fn,tmps,assign,body,hy,hR⟩:=hY _ (dJ xs k) wr hJs (by rw[o8];exact hlt);have e1:dJ xs k=(len-1-k,xs.getD (len-1-k) 0):=by unfold dJ;rw[Hlen.out]
   rw[e1]at hy;have e2:((len-1-k:Nat):Int)=(len:Int)-1-k:=by omega
   dsimp only[Hn]at hy;rw[e2]at hy;obtain⟨x,hxx⟩:∃x,x=xs.getD (len-1-k) 0:=⟨_,rfl⟩;rw[<- hxx]at hy hcx;rw[Nat.mod_eq_of_lt (by rw[hxx];exact Hwd.out.getD _)]at hy;have g1:(0:Int)<=(len:Int)-1-k:=by omega
   have g2:(len:Int)-1-k<len:=by omega
   have g3:((len:Int)-1-k).toNat=len-1-k:=by omega
   clear e1 e2 hc;have Hxx:=Lib.hid hxx;clear hxx
   gi_wp2
   refine hR.mono ?_;rintro e W3 (⟨rfl,hJ3,hk3⟩| ⟨rfl,hJx3⟩)
   ·gi_wp2
    go_roundw
    case rel=>exact⟨k+1,by omega,by go_num,by rw[oh];exact hJ3,hnx.trans hk3⟩
    case measure=>simp[intOf];omega
   ·gi_wp2
    refine bodyPost_ret (results_none rfl _ _ _) rfl ?_;exact⟨⟨_,rfl⟩, .inr ⟨_,trivial,hJx3⟩⟩
  ·obtain rfl:k=len:=by omega
   have g1:¬((k:Int)<=(k:Int)-1):=by omega
   gi_wp2
   go_end0
   first|exact⟨⟨_,rfl⟩, .inl ⟨_,rfl,hJs⟩⟩|exact⟨⟨_,rfl⟩, .inl hJs⟩
theorem jY (F:Fence) (n:Nat) (h5:F.fn 214) (hro:F.round=none) (a:Option Addr) (len cap:Nat) (w:World):
 CallsIn F n Tryz.prog 214 #[.slice a len cap] w fun e w'=>e= .returned (.func (.func 260) #[] #[.pointer (some ⟨w.heap.size,0,none⟩)])/\w'=w.alloc (.cells #[.slice a len cap] 34):=by
 refine callsIn_of_wp func214 rfl h5 ?_ hro
 simp only[ntmps214,List.size_toArray,List.length_cons,List.length_nil,Nat.reduceAdd,Nat.reduceSub,Array.replicate_succ,Array.replicate_zero,List.push_toArray,List.append_toArray,List.nil_append,List.cons_append]
 gi_wp2
 go_ret
 exact⟨rfl,rfl⟩
theorem AJ (F:Fence) (n:Nat) (h8:F.fn 260) (hro:F.round=none) (hn:1<=n) (Bs:Nat) (A:Option Addr) (len cap:Nat) (xs:List Nat) (w0 w:World) (hx:aC w0 A len cap xs) (h0:aK w0 w) (hBs:Bs<w.heap.size) (hc:w.cell? ⟨Bs,0,none⟩=some (.slice A len cap)):
 SeqStopsK F n Tryz.prog 260 #[.pointer (some ⟨Bs,0,none⟩)] Hn (KB w0.heap.size Bs) (fun ys=>ys=upto (dJ xs) len) (fun _=>True) len w:=fun l J Jx W hW _ _ hY hJ0=>
 IJ F n h8 hro hn l Bs A len cap xs w0 hx J Jx hY W (h0.more hW) ((hW.cell (p:=⟨Bs,0,none⟩) hBs).trans hc) hJ0
def vC (l:List (Nat × Nat)):Nat:=l.foldl (fun a p=>a*4294967296+p.2%4294967296) 0
theorem tL (l:List (Nat × Nat)) (p:Nat × Nat):vC (l++[p])=vC l*4294967296+p.2%4294967296:=by unfold vC;simp
theorem IK (l:List (Nat × Nat)) (h:l.length<2):vC l<4294967296:=by
 match l,h with
 | [],_=>simp[vC]
 | [p],_=>simp[vC];omega
theorem Ei {xs:List Nat} (hw:Wd xs) (k:Nat) (hk:k<=xs.length):vC (upto (dJ xs) k)=val (xs.drop (xs.length-k)):=by
 induction k with
 |zero=>rw[Nat.sub_zero,List.drop_of_length_le (Nat.le_refl _)];rfl
 |succ k ih=>
  rw[oh,tL,ih (by omega)];have h:=cH xs (xs.length-k) (by omega) (by omega);rw[show xs.length-(k+1)=xs.length-k-1 by omega,h]
  simp only[val]
  have e:(dJ xs k).2=xs.getD (xs.length-k-1) 0:=by
   unfold dJ;dsimp only;rw[show xs.length-1-k=xs.length-k-1 by omega]
  rw[e,Nat.mod_eq_of_lt (hw.getD _)];omega
set_option maxRecDepth 100000 in
theorem Eo (F:Fence) (n:Nat) (h3:F.fn 152) (h5:F.fn 214) (h7:F.fn 260) (hro:F.round=none) (hn:3<=n) (A:Option Addr) (len cap:Nat) (xs:List Nat) (w:World) (hx:aC w A len cap xs) (hl2:len<=2):
 CallsIn F n Tryz.prog 152 #[.slice A len cap] w fun e W'=>e= .returned (.int .u64 (val xs:Int))/\Below w.heap.size w W':=by
 have h1:1<=n:=by omega
 have hlen:=hx.len;have hwd:=hx.wd;have Hx:=Lib.hid hx;have Hlen:=Lib.hid hlen;have Hwd:=Lib.hid hwd;clear hx hlen hwd;refine callsIn_of_wp_marks func152 rfl h3 ?_ hro
 simp only[ntmps152,List.size_toArray,List.length_cons,List.length_nil,Nat.reduceAdd,Nat.reduceSub,Array.replicate_succ,Array.replicate_zero,List.push_toArray,List.append_toArray,List.nil_append,List.cons_append]
 gi_wp2_with (gi_at_call 214;refine(jY F (n-1) h5 hro _ _ _ _).mono ?_;rintro e w' ⟨rfl,rfl⟩)
 have bS:=Boxed.new w 148 (.int .u64 0);have bN:=Boxed.new (w.alloc (.cells #[.int .u64 0] 148)) 34 (.slice A len cap);rw[World.size_alloc]at bN;have hB0:Below w.heap.size w ((w.alloc (.cells #[.int .u64 0] 148)).alloc (.cells #[.slice A len cap] 34)):=((Below.refl _ w).alloc (Nat.le_refl _) _).alloc (by simp) _
 refine wpIn_rangeFunc_ownG hro h1 (gf:=260) (lb:= #[.pointer (some ⟨w.heap.size+1,0,none⟩)]) rfl h7 (enters_of func260 (by kernel_rfl) rfl)
  (AJ F (n-1) h7 hro (by omega) (w.heap.size+1) A len cap xs w _ Hx.out hB0 (by simp) bN.cell) (fun h k=>KB.trans h k) (KB.put (by simp;omega) (by simp)) (Below.refl _ _) (fun _=>rfl)
  (fun pre W=>(W.cell? ⟨w.heap.size,0,none⟩=some (.int .u64 (vC pre:Int))/\W.frozen? ⟨w.heap.size,0,none⟩=false)/\Below w.heap.size w W)
  (fun _ _ _=>False)
  (OwnFrom.and (Own.from (fun s A B row hs hg hr=>⟨cell_kept hs.1 hg hr,(frozen_kept hs.1 hg hr).trans hs.2⟩) _) (ownFrom_below (Nat.le_refl _) (by simp;omega)))
  (fun _ _ _ _ _ hs _ _=>hs)
  ⟨⟨(bS.alloc (.cells #[.slice A len cap] 34)).cell,(bS.alloc _).frozen⟩,hB0⟩
  (fun x=>{ tmps:= #[.slice A len cap,undef, .int .u64 0, .pointer (some ⟨w.heap.size,0,none⟩),undef,dh (x.2%4294967296), .slice A len cap, .func (.func 260) #[] #[.pointer (some ⟨w.heap.size+1,0,none⟩)], .int .i64 (x.1:Int),dh (x.2%4294967296),undef,undef,undef,undef,undef,undef],defers:=[] }) ?assign ?body ?done ?stop
 case assign=>
  intro l x W K hK
  gi_wp2
  exact hK
 case body=>
  rintro l pre x W ⟨⟨hc,hf⟩,hB⟩ hlt;have ha:=IK pre (by omega);have hb:x.2%4294967296<4294967296:=Nat.mod_lt _ (by decide)
  have hs:=tL pre x;generalize x.2%4294967296=y at *;generalize vC pre=a at *;have Hs:=Lib.hid hs;clear hs
  gi_wp2
  exact⟨(KeepsOthers.setCell _ _ _).from _,⟨(Below.refl w.heap.size W).setCell (p:=⟨w.heap.size,0,none⟩) (Nat.le_refl _) _,Below.heap_setCell _ _ _ _ (by simp)⟩,⟨by rw[World.cell?_setCell_same' _ _ _ (by rw[hc];rfl),ii a y ha hb,Hs.out],by rw[World.frozen?_setCell];exact hf⟩,hB.setCell (p:=⟨w.heap.size,0,none⟩) (Nat.le_refl _) _⟩
 case done=>
  rintro D ys W hD rfl ⟨⟨hc,_⟩,hB⟩ hK;have he:=Ei Hwd.out len (by rw[Hlen.out];exact Nat.le_refl _);rw[Hlen.out,Nat.sub_self,List.drop_zero]at he
  gi_wp2
  refine⟨by simp, .inl ⟨_,_,rfl,run_takeDeferred hK,?_⟩⟩;refine⟨_,results_tmp rfl _ _ _,?_,?_⟩
  ·rfl
  ·exact hB.trans (belowK_b (w:=w) (Nat.le_refl _) W D _ _ (by simp at hD;omega) hK rfl rfl)
 case stop=>
  rintro D c pre W _ _ h _;exact h.elim
theorem qr (A:Option Addr) (len cap:Nat) (xs:List Nat) (w:World) (hx:aC w A len cap xs) (hl2:len<=2):
 Calls Tryz.prog 152 #[.slice A len cap] w fun e W'=>e= .returned (.int .u64 (val xs:Int))/\Below w.heap.size w W':=
 callsIn_wide.1 (Eo Fence.wide 3 trivial trivial trivial rfl (Nat.le_refl _) A len cap xs w hx hl2)
end
end Go.Proofs.YtmkggcjajcdlcaaGreatDoor
