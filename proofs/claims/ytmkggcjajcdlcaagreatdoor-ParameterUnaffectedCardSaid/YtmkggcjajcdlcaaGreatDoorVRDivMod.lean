/- DivMod of the reference. -/
import Derived.Test.YtmkggcjajcdlcaaGreatDoorVRDivB
import Derived.Test.YtmkggcjajcdlcaaGreatDoorVLSqrt
set_option maxHeartbeats 100000000
set_option linter.all false
open Go.Proofs.Tryz
namespace Go.Proofs.YtmkggcjajcdlcaaGreatDoor
open Go.RowKit
section
attribute [local go_sem ↓] Go.wp_at_zero Go.wp_at_succ
theorem Ka (za zb:Int):ap (!(decide (za<0) == decide (zb<0))) (digs (za.natAbs/zb.natAbs))=za.tdiv zb:=by
 rw[jP]
 by_cases ha:za<0<;>by_cases hb:zb<0
 ·obtain⟨a,rfl⟩:∃a:Nat,za= -(a:Int):=⟨za.natAbs,by omega⟩
  obtain⟨b,rfl⟩:∃b:Nat,zb= -(b:Int):=⟨zb.natAbs,by omega⟩;rw[decide_eq_true ha,decide_eq_true hb,Int.tdiv_neg,Int.neg_tdiv,Int.neg_neg,Int.natAbs_neg,Int.natAbs_neg,Int.natAbs_natCast,Int.natAbs_natCast]
  simp
 ·obtain⟨a,rfl⟩:∃a:Nat,za= -(a:Int):=⟨za.natAbs,by omega⟩
  obtain⟨b,rfl⟩:∃b:Nat,zb=(b:Int):=⟨zb.natAbs,by omega⟩;rw[decide_eq_true ha,decide_eq_false hb,Int.neg_tdiv,Int.natAbs_neg,Int.natAbs_natCast,Int.natAbs_natCast]
  simp
 ·obtain⟨a,rfl⟩:∃a:Nat,za=(a:Int):=⟨za.natAbs,by omega⟩
  obtain⟨b,rfl⟩:∃b:Nat,zb= -(b:Int):=⟨zb.natAbs,by omega⟩;rw[decide_eq_false ha,decide_eq_true hb,Int.tdiv_neg,Int.natAbs_neg,Int.natAbs_natCast,Int.natAbs_natCast]
  simp
 ·obtain⟨a,rfl⟩:∃a:Nat,za=(a:Int):=⟨za.natAbs,by omega⟩
  obtain⟨b,rfl⟩:∃b:Nat,zb=(b:Int):=⟨zb.natAbs,by omega⟩;rw[decide_eq_false ha,decide_eq_false hb,Int.natAbs_natCast,Int.natAbs_natCast]
  simp
theorem nc (r b:Int):r.sign*b.sign<0↔(r<0/\0<b)∨(0<r/\b<0):=by
 rcases Int.lt_trichotomy r 0 with h|h|h<;>rcases Int.lt_trichotomy b 0 with h'|h'|h' <;>
  first
  |(rw[Int.sign_eq_neg_one_of_neg h,Int.sign_eq_neg_one_of_neg h'];omega)
  |(rw[Int.sign_eq_neg_one_of_neg h,Int.sign_eq_one_of_pos h'];omega)
  |(rw[Int.sign_eq_one_of_pos h,Int.sign_eq_neg_one_of_neg h'];omega)
  |(rw[Int.sign_eq_one_of_pos h,Int.sign_eq_one_of_pos h'];omega)
  |(subst h;simp;done)
  |(subst h';simp;done)
  |(subst h;simp;omega)
  |(subst h';simp;omega)
theorem Fx {za zb q0 r0:Int} (hb:zb≠0) (hq:za.tdiv zb=q0) (hr:za-q0*zb=r0):
 r0.natAbs<zb.natAbs/\(r0.sign*zb.sign<0->za.fdiv zb=q0-1/\za.fmod zb=r0+zb)/\(¬r0.sign*zb.sign<0->za.fdiv zb=q0/\za.fmod zb=r0):=by
 have h1:za.tmod zb=r0:=by
  rw[<- hr,<- hq,Int.mul_comm,<- Int.tmod_def]
 have h2:r0.natAbs<zb.natAbs:=by
  rw[<- h1,Int.natAbs_tmod];exact Nat.mod_lt _ (by omega)
 refine⟨h2,fun h=>?_,fun h=>?_⟩
 ·rw[nc]at h
  refine fd ?_ (by omega);have:(q0-1)*zb=q0*zb-zb:=by rw[Int.sub_mul,Int.one_mul]
  omega
 ·rw[nc]at h
  exact fd (by omega) (by omega)
theorem eh {a b:Nat} (h:a<=b):(digs a).length<=(digs b).length:=by
 refine aV (Nat.lt_of_le_of_lt h ?_);exact cI (Nat.le_refl _)
theorem B6 {va vb:Value} {a b z:Int} {w:World} (ha:dz w va a) (hb:dz w vb b) (hz:a-b=z) (h1:(digs a.natAbs).length<=2147483648) (h2:(digs b.natAbs).length<=2147483648):
 Calls Tryz.prog 234 #[va,vb] w (bZ z w):=by
 have:=OC va vb _ _ _ _ w ha hb h1 h2
 rwa[aP,aP,hz]at this
def ij (w wx:World):Prop:=bh wx (w.heap.size+1+1)/\bh wx (w.heap.size+1+1+1)/\aK w wx
theorem ij.more {w w1 w2:World} (h:ij w w1) (hb:Below w1.heap.size w1 w2):ij w w2:=⟨h.1.below hb,h.2.1.below hb,aK.more h.2.2 hb⟩
theorem ij.set2 {w wx:World} {g:Nat} (h:ij w wx) (hg:w.heap.size+4<=g) (u v:Value):ij w ((wx.setCell ⟨g,0,none⟩ u).setCell ⟨g,1,none⟩ v):=
 ⟨h.1.far (by omega) _ _,h.2.1.far (by omega) _ _,aK.set2 h.2.2 (by omega) _ _⟩
theorem zF {W w w1:World} {p1 p2 p3 p4:Addr} {v1 v2 v3 v4:Value} (h:w.cell? p1=some v1/\w.cell? p2=some v2/\w.cell? p3=some v3/\w.cell? p4=some v4/\ij W w) (hb:Below w.heap.size w w1):w1.cell? p1=some v1/\w1.cell? p2=some v2/\w1.cell? p3=some v3/\w1.cell? p4=some v4/\ij W w1:=⟨kc h.1 hb,kc h.2.1 hb,kc h.2.2.1 hb,kc h.2.2.2.1 hb,h.2.2.2.2.more hb⟩
def O3 (V:World) (W:World) (p1 p2 p3 p4 p5 p6:Addr) (v1 v2 v3 v4 v5 v6:Value) (w:World):Prop:=w.cell? p1=some v1/\w.cell? p2=some v2/\w.cell? p3=some v3/\w.cell? p4=some v4/\w.cell? p5=some v5/\w.cell? p6=some v6/\ij W w/\aK V w
theorem DM {V:World} {W:World} {p1 p2 p3 p4 p5 p6:Addr} {v1 v2 v3 v4 v5 v6:Value} (h1:p1.block<V.heap.size) (h2:p2.block<V.heap.size) (h3:p3.block<V.heap.size) (h4:p4.block<V.heap.size) (h5:p5.block<V.heap.size) (h6:p6.block<V.heap.size) (hN:W.heap.size+4<=V.heap.size):LU V.heap.size (O3 V W p1 p2 p3 p4 p5 p6 v1 v2 v3 v4 v5 v6):=
 ⟨fun h hb=>⟨kc h.1 hb,kc h.2.1 hb,kc h.2.2.1 hb,kc h.2.2.2.1 hb,kc h.2.2.2.2.1 hb,kc h.2.2.2.2.2.1 hb,h.2.2.2.2.2.2.1.more hb,aK.more h.2.2.2.2.2.2.2 hb⟩,
  fun h hg _=>⟨aH h.1 (by omega),aH h.2.1 (by omega),aH h.2.2.1 (by omega),aH h.2.2.2.1 (by omega),aH h.2.2.2.2.1 (by omega),aH h.2.2.2.2.2.1 (by omega),h.2.2.2.2.2.2.1.set2 (by omega) _ _,aK.set2 h.2.2.2.2.2.2.2 hg _ _⟩,fun h=>(h.2.2.2.2.2.2.2:Below _ _ _).size⟩
theorem O3.ext {V:World} {W:World} {p1 p2 p3 p4 p5 p6:Addr} {v1 v2 v3 v4 v5 v6:Value} {w:World} (h:O3 V W p1 p2 p3 p4 p5 p6 v1 v2 v3 v4 v5 v6 w):aK V w:=h.2.2.2.2.2.2.2
theorem ep.drew {w:World} {r:Nat} {z:Int} (h:ep w r z):ep w.drew r z:=by
 obtain⟨A,n,c,h0,h1,h2⟩:=h;exact⟨A,n,c,h0,h1,h2.drew⟩
theorem FM {X F:World} {A B:Option Addr} {n c m d rq rr:Nat} {q r:Int} {b1 b2:Bool} (h1:decide (q<0)=b1) (h2:decide (r<0)=b2) (hq:aC X A n c (digs q.natAbs)) (hr:aC X B m d (digs r.natAbs)) (hs:bh X rq/\bh X rr) (hne:rq≠rr)
 (hF:F=(((X.setCell ⟨rq,0,none⟩ (.bool b1)).setCell ⟨rq,1,none⟩ (.slice A n c)).setCell ⟨rr,0,none⟩ (.bool b2)).setCell ⟨rr,1,none⟩ (.slice B m d)∨F=(((X.setCell ⟨rr,0,none⟩ (.bool b2)).setCell ⟨rr,1,none⟩ (.slice B m d)).setCell ⟨rq,0,none⟩ (.bool b1)).setCell ⟨rq,1,none⟩ (.slice A n c)):
 ep F rq q/\ep F rr r:=by
 subst h1 h2;rcases hF with rfl|rfl
 ·exact tM hq hr hs hne
 ·exact lf (tM hr hq (gS hs) (fun e=>hne e.symm))
def tH (V W:World) (p5 p6:Addr) (v5 v6:Value) (w:World):Prop:=w.cell? p5=some v5/\w.cell? p6=some v6/\ij W w/\aK V w
theorem lT {V W w w1:World} {p1 p2 p3 p4 p5 p6:Addr} {v1 v2 v3 v4 v5 v6:Value} (h:w.cell? p1=some v1/\w.cell? p2=some v2/\w.cell? p3=some v3/\w.cell? p4=some v4/\tH V W p5 p6 v5 v6 w) (hb:Below w.heap.size w w1):w1.cell? p1=some v1/\w1.cell? p2=some v2/\w1.cell? p3=some v3/\w1.cell? p4=some v4/\tH V W p5 p6 v5 v6 w1:=
 ⟨kc h.1 hb,kc h.2.1 hb,kc h.2.2.1 hb,kc h.2.2.2.1 hb,kc h.2.2.2.2.1 hb,kc h.2.2.2.2.2.1 hb,h.2.2.2.2.2.2.1.more hb,aK.more h.2.2.2.2.2.2.2 hb⟩
theorem mt {V W w:World} {p1 p2 p3 p4 p5 p6:Addr} {v1 v2 v3 v4 v5 v6:Value} (h:w.cell? p1=some v1/\w.cell? p2=some v2/\w.cell? p3=some v3/\w.cell? p4=some v4/\tH V W p5 p6 v5 v6 w):aK V w:=h.2.2.2.2.2.2.2
theorem Ij (z:Int): -1<=z.sign/\z.sign<=1:=by
 rcases Int.lt_trichotomy z 0 with h|h|h
 ·rw[Int.sign_eq_neg_one_of_neg h];decide
 ·rw[h];decide
 ·rw[Int.sign_eq_one_of_pos h];decide
theorem Et (a b:Int): -1<=a.sign*b.sign/\a.sign*b.sign<=1:=by
 rw[<- Int.sign_mul];exact Ij _
def Qt (w:World) (g9 g10:Nat) (q1 r0 zb:Int) (A4 B1:Option Addr) (n4 c4 m1 d1:Nat) (br bb:Bool) (wx:World):Prop:=
 (wx.cell? ⟨g10,0,none⟩=some (.bool br)/\wx.cell? ⟨g10,1,none⟩=some (.slice A4 n4 c4)/\wx.cell? ⟨w.heap.size+1,0,none⟩=some (.bool bb)/\wx.cell? ⟨w.heap.size+1,1,none⟩=some (.slice B1 m1 d1)) /\
 ep wx g9 q1/\bh wx g10/\ij w wx/\aC wx A4 n4 c4 (digs r0.natAbs)/\aC wx B1 m1 d1 (digs zb.natAbs)
def tW (V w:World) (g9 g10:Nat) (br bb:Bool) (A4 B1:Option Addr) (n4 c4 m1 d1:Nat) (wx:World):Prop:=
 (wx.cell? ⟨g10,0,none⟩=some (.bool br)/\wx.cell? ⟨g10,1,none⟩=some (.slice A4 n4 c4)/\wx.cell? ⟨w.heap.size+1,0,none⟩=some (.bool bb)/\wx.cell? ⟨w.heap.size+1,1,none⟩=some (.slice B1 m1 d1)) /\
 bh wx g9/\bh wx g10/\ij w wx/\aK V wx
section
variable {V w w1 w2:World} {g9 g10:Nat} {br bb bq:Bool} {A3 A4 B1:Option Addr} {n3 c3 n4 c4 m1 d1:Nat}
theorem IY (h:w1.cell? ⟨g9,0,none⟩=some (.bool bq)/\w1.cell? ⟨g9,1,none⟩=some (.slice A3 n3 c3)/\tW V w g9 g10 br bb A4 B1 n4 c4 m1 d1 w1) (hb:Below w1.heap.size w1 w2):w2.cell? ⟨g9,0,none⟩=some (.bool bq)/\w2.cell? ⟨g9,1,none⟩=some (.slice A3 n3 c3)/\tW V w g9 g10 br bb A4 B1 n4 c4 m1 d1 w2:=
 ⟨kc h.1 hb,kc h.2.1 hb,⟨kc h.2.2.1.1 hb,kc h.2.2.1.2.1 hb,kc h.2.2.1.2.2.1 hb,kc h.2.2.1.2.2.2 hb⟩,h.2.2.2.1.below hb,h.2.2.2.2.1.below hb,h.2.2.2.2.2.1.more hb,aK.more h.2.2.2.2.2.2 hb⟩
theorem SL (h:w1.cell? ⟨g9,0,none⟩=some (.bool bq)/\w1.cell? ⟨g9,1,none⟩=some (.slice A3 n3 c3)/\tW V w g9 g10 br bb A4 B1 n4 c4 m1 d1 w1):aK V w1:=h.2.2.2.2.2.2
theorem Rs (h:w1.cell? ⟨g9,0,none⟩=some (.bool bq)/\w1.cell? ⟨g9,1,none⟩=some (.slice A3 n3 c3)/\tW V w g9 g10 br bb A4 B1 n4 c4 m1 d1 w1):bh w1 g9:=h.2.2.2.1
theorem SO {q1 r0 zb:Int} {A5:Option Addr} {n5 c5:Nat} (h:w1.cell? ⟨g9,0,none⟩=some (.bool bq)/\w1.cell? ⟨g9,1,none⟩=some (.slice A3 n3 c3)/\tW V w g9 g10 br bb A4 B1 n4 c4 m1 d1 w1) (hw:aC w1 A5 n5 c5 (digs q1.natAbs)) (hr:aC V A4 n4 c4 (digs r0.natAbs)) (hb:aC V B1 m1 d1 (digs zb.natAbs)) (hN:w.heap.size+4<=g9) (hne:g9≠g10):
 Qt w g9 g10 q1 r0 zb A4 B1 n4 c4 m1 d1 br bb ((w1.setCell ⟨g9,0,none⟩ (.bool (decide (q1<0)))).setCell ⟨g9,1,none⟩ (.slice A5 n5 c5)):=by
 obtain⟨-,-,⟨a0,a1,a2,a3⟩,s9,s10,hD,hE⟩:=h;exact⟨⟨aH a0 (fun e=>hne e.symm),aH a1 (fun e=>hne e.symm),aH a2 (by dsimp only;omega),aH a3 (by dsimp only;omega)⟩,ep.intro hw s9,s10.far (fun e=>hne e.symm) _ _,hD.set2 hN _ _,(hr.ext hE).set2 s9 _ _,(hb.ext hE).set2 s9 _ _⟩
end
set_option maxRecDepth 100000 in
theorem EF (va vb:Value) (na nb:Bool) (xs ys:List Nat) (w:World) (ha:bH w va na xs) (hb:bH w vb nb ys) (h1:xs.length<=2147483648) (h2:ys.length<=2147483648) (hy0:ap nb ys≠0):
 Calls Tryz.prog 165 #[va,vb] w (xx ((ap na xs).fdiv (ap nb ys)) ((ap na xs).fmod (ap nb ys)) w):=by
 obtain⟨A,n,c,rfl,hx⟩:=ha;obtain⟨B,m,d,rfl,hy⟩:=hb;obtain⟨W,hW⟩:∃W,W=(((w.alloc (.cells #[.bool na, .slice A n c] 36)).alloc (.cells #[.bool nb, .slice B m d] 36)).alloc (.cells #[.bool false, .slice none 0 0] 36)).alloc (.cells #[.bool false, .slice none 0 0] 36):=⟨_,rfl⟩;obtain⟨hB,hbW0⟩:=gJ w _ _ _ _ _ _ _ _ rfl;have hB':=hW ▸ iy hB (it _ (.cells #[.bool false, .slice none 0 0] 36));have hbW:aK w W:=by rw[hW];exact hbW0.alloc _
 obtain⟨-,-,⟨cs0,cs1,fs0,fs1⟩,-⟩:=ja w _ _ _ _ _ _ _ _ _ W hW;have hS4:bh W.drew (w.heap.size+1+1+1):=bh.mk cs0 cs1 fs0 fs1;have hw:aK w W.drew:=hbW.drew;have hB0:=iy hB' (aK.refl W).drew;have Hx:=Lib.hid hx;have Hy:=Lib.hid hy;have l1:(digs (ap na xs).natAbs).length<=2147483648:=oA hx.wd na _ h1;have l2:(digs (ap nb ys).natAbs).length<=2147483648:=oA hy.wd nb _ h2;clear hB hB' hbW0 hbW cs0 cs1 fs0 fs1 hx hy h1 h2
 go_enter func165,ntmps165
 go_wp2_with fail
 rw[<- hW];clear hW
 go_cut [9] (fun _ wx=>i7 w (ap na xs) (ap nb ys) wx/\bh wx (w.heap.size+1+1+1))
 case first=>
  go_region_with (first
   |((go_at_call 158;((with_reducible refine(iq _ na xs _ (eM Hx.out (by assumption))).mono ?_);rintro e w1 ⟨v1,rfl,⟨A1,n1,c1,rfl,hw1⟩,hb1⟩;have hB1:=iy (by assumption) hb1;have hE1:=aK.more (by assumption) hb1;have hS1:=bh.below (by assumption) hb1)))
   |((go_at_call 158;(with_reducible refine(iq _ nb ys _ (eM Hy.out (by assumption))).mono ?_);rintro e w2 ⟨v2,rfl,⟨A2,n2,c2,rfl,hw2⟩,hb2⟩;have hB2:=iy (by assumption) hb2;have hE2:=aK.more (by assumption) hb2;have hS2:=bh.below (by assumption) hb2)))
  all_goals(go_wp2_with fail;go_meet;refine⟨?_,(bh.far (by assumption) (by omega) _ _).far (by omega) _ _⟩;first|exact mK (by assumption) (aC.below (by assumption) (by assumption)) (by assumption) (by assumption)|exact mK (by assumption) (by assumption) (aC.below (by assumption) (by assumption)) (by assumption))
 case rest=>
  obtain⟨hcut,hS4⟩:=hcut;generalize ap na xs=za at *;generalize ap nb ys=zb at *;obtain⟨ba,hba⟩:∃b,decide (za<0)=b:=⟨_,rfl⟩;obtain⟨bb,hbb⟩:∃b,decide (zb<0)=b:=⟨_,rfl⟩;obtain⟨A1,n1,c1,B1,m1,d1,⟨e1,e2,e3,e4,hE⟩,⟨cr0,cr1,fr0,fr1⟩,hx1,hy1⟩:=gu hcut hba hbb;have hS3:bh wc (w.heap.size+1+1):=bh.mk cr0 cr1 fr0 fr1
  have hm1:((m1:Int) == 0)=false:=by
   have:=mx hy1 (by omega)
   simp;omega
  have hm2:¬(m1:Int)=0:=by have:=mx hy1 (by omega);omega
  obtain⟨q0,hq0⟩:∃q0,za.tdiv zb=q0:=⟨_,rfl⟩;have hsg:=Ka za zb;rw[hba,hbb,hq0]at hsg;have hdiv:=Fq (a:=za.natAbs) (b:=zb.natAbs) l1 (by omega) A1 n1 c1 B1 m1 d1 wc hx1 hy1;have hH:_/\_/\_/\_/\ij w wc:=⟨e1,e2,e3,e4,hS3,hS4,hE⟩;have Hdiv:=Lib.hid hdiv;have Hsg:=Lib.hid hsg;have Hq0:=Lib.hid hq0;have Hba:=Lib.hid hba;have Hbb:=Lib.hid hbb;have Hx1:=Lib.hid hx1;have Hy1:=Lib.hid hy1;clear hcut hB0 hw hdiv hsg hq0 hba hbb hx1 hy1 hS3 hS4 hE cr0 cr1 fr0 fr1 Hx Hy
  go_wp2_with fail
  ((with_reducible refine Hdiv.out.mono ?_);rintro e w1 ⟨A2,n2,c2,B2,m2,d2,rfl,hw1,hw2,hb1⟩;have hH1:=zF hH hb1;have hE1:aK wc w1:=hb1;have e1:=hH1.1;have e2:=hH1.2.1;have e3:=hH1.2.2.1;have e4:=hH1.2.2.2.1)
  go_wp2_with fail
  obtain⟨bq,hbq⟩:∃b,decide (q0<0)=b:=⟨_,rfl⟩;have Hbq:=Lib.hid hbq;clear hH hbq
  ((with_reducible refine(dl hw1 Hsg.out).mono ?_);rintro e w2 ⟨v2,rfl,hv2,hb2⟩;obtain⟨A3,n3,c3,rfl,hw3⟩:=ur hv2 Hbq.out;have hH2:=zF hH1 hb2;have hE2:=hE1.more hb2;clear hH1 e1 e2 e3 e4 hw1 hw2 hb1 hv2 hb2 hE1)
  have hH3:=zF hH2 (it w2 (.cells #[.bool bq, .slice A3 n3 c3] 36));obtain⟨⟨q1,q2⟩,⟨q3,q4⟩⟩:=JO w2 (.bool bq) (.slice A3 n3 c3) 36;have hw3':=hw3.alloc (.cells #[.bool bq, .slice A3 n3 c3] 36)
  go_wp2_with fail
  obtain⟨W3,hW3⟩:∃W3,W3=w2.alloc (.cells #[.bool bq, .slice A3 n3 c3] 36):=⟨_,rfl⟩;obtain⟨g9,hg9⟩:∃g,g=w2.heap.size:=⟨_,rfl⟩;have hgW:g9<W3.heap.size:=by rw[hW3,hg9];simp
  have hN9':w.heap.size+4<=g9:=by have:=hH2.2.2.2.2.2.1.lt;rw[hg9];omega
  have hS9':bh W3 g9:=by rw[hW3,hg9];exact bh.mk q1 q2 q3 q4
  have Hs9:=Lib.hid hS9';have hE3:aK wc W3:=by rw[hW3];exact hE2.alloc _
  rw[<- hW3,<- hg9]at q1 q2 q3 q4;rw[<- hW3]at hH3 hw3';rw[<- hg9,<- hW3];obtain⟨r0,hr0⟩:∃r0,za-q0*zb=r0:=⟨_,rfl⟩;obtain⟨p0,hp0⟩:∃p0,q0*zb=p0:=⟨_,rfl⟩;have hdm:=Fx hy0 Hq0.out hr0;have vA:=kv Hba.out (Hx1.out.ext hE3);have vB:=kv Hbb.out (Hy1.out.ext hE3);have hvBW0:aC W3 B1 m1 d1 (digs zb.natAbs):=Hy1.out.ext hE3;have vQ:=kv Hbq.out hw3';have nq:q0.natAbs<=za.natAbs:=by rw[<- Hq0.out,Int.natAbs_tdiv];exact Nat.div_le_self _ _
  have l3:(digs q0.natAbs).length<=2147483648:=Nat.le_trans (eh nq) l1
  have np:p0.natAbs<=za.natAbs:=by
   rw[<- hp0,<- Hq0.out,Int.natAbs_mul,Int.natAbs_tdiv];exact Nat.div_mul_le_self _ _
  have l4:(digs p0.natAbs).length<=2147483648:=Nat.le_trans (eh np) l1;have l5:(digs r0.natAbs).length<=2147483648:=Nat.le_trans (eh (Nat.le_of_lt hdm.1)) l2;rw[hp0]at hr0;have Hdm:=Lib.hid hdm;have HvA:=Lib.hid vA;have HvB:=Lib.hid vB;have HvQ:=Lib.hid vQ;have Hl:=Lib.hid (And.intro l3 (And.intro l4 l5));have Hr0:=Lib.hid hr0;have Hp0:=Lib.hid hp0;have hS0:O3 W3 w ⟨w.heap.size,0,none⟩ ⟨w.heap.size,1,none⟩ ⟨w.heap.size+1,0,none⟩ ⟨w.heap.size+1,1,none⟩ ⟨g9,0,none⟩ ⟨g9,1,none⟩ (.bool ba) (.slice A1 n1 c1) (.bool bb) (.slice B1 m1 d1) (.bool bq) (.slice A3 n3 c3) W3:=⟨hH3.1,hH3.2.1,hH3.2.2.1,hH3.2.2.2.1,q1,q2,hH3.2.2.2.2,aK.refl _⟩
  have hKS:LU W3.heap.size (O3 W3 w ⟨w.heap.size,0,none⟩ ⟨w.heap.size,1,none⟩ ⟨w.heap.size+1,0,none⟩ ⟨w.heap.size+1,1,none⟩ ⟨g9,0,none⟩ ⟨g9,1,none⟩ (.bool ba) (.slice A1 n1 c1) (.bool bb) (.slice B1 m1 d1) (.bool bq) (.slice A3 n3 c3)):=by
   have hl:=hH3.2.2.2.2.2.1.lt;exact DM (by dsimp only;omega) (by dsimp only;omega) (by dsimp only;omega) (by dsimp only;omega) hgW hgW (by omega)
  have HS0:=Lib.hid (hKS.grow hS0 (Below.drew (Below.refl _ _)));clear hS9' hW3 hg9 hdm vA vB vQ nq np l3 l4 l5 hr0 hp0 hS0 q1 q2 hH3 hH2 hw3 hw3' hE2 Hx1 Hy1 Hsg hE3
  go_cut [10] (fun v wx=>jd W3.heap.size wx v undef r0/\O3 W3 w ⟨w.heap.size,0,none⟩ ⟨w.heap.size,1,none⟩ ⟨w.heap.size+1,0,none⟩ ⟨w.heap.size+1,1,none⟩ ⟨g9,0,none⟩ ⟨g9,1,none⟩ (.bool ba) (.slice A1 n1 c1) (.bool bb) (.slice B1 m1 d1) (.bool bq) (.slice A3 n3 c3) wx)
  case first=>
   obtain⟨br,hbr⟩:∃b,decide (r0<0)=b:=⟨_,rfl⟩;have Hbr:=Lib.hid hbr;clear hbr;refine wG (by kernel_rfl) (by kernel_rfl) [36,37,38,39,40,10] (kd W3.heap.size [.is 36 (.agg #[.bool ba, .slice A1 n1 c1]), .is 37 (.agg #[.bool bq, .slice A3 n3 c3]), .is 38 (.agg #[.bool bb, .slice B1 m1 d1]), .int 39 p0, .int 40 r0, .box 10, .done 10 r0]) (fun _ w'=>O3 W3 w ⟨w.heap.size,0,none⟩ ⟨w.heap.size,1,none⟩ ⟨w.heap.size+1,0,none⟩ ⟨w.heap.size+1,1,none⟩ ⟨g9,0,none⟩ ⟨g9,1,none⟩ (.bool ba) (.slice A1 n1 c1) (.bool bb) (.slice B1 m1 d1) (.bool bq) (.slice A3 n3 c3) w') (held _) (tZ _ _) HS0.out ⟨?s0,?s1,?s2,?s3,?s4,?s5,?s6,trivial⟩ ?fin
   case s0=>
    intro x wr hB hd κ hκ;have b0:=hB.1;have b1:=hB.2.1;refine⟨?_⟩
    simp only[iM,Act.put,List.setIfInBounds_toArray,List.set_cons_zero,List.set_cons_succ]
    go_simp
    exact hκ _ _ (By x 36 (.agg #[.bool ba, .slice A1 n1 c1])) rfl hB (iG _ _ _) (fun k hk _ _ h=>h.fill (ex:=[0]) (Below.refl _ _) rfl (by simpa using hk))
   case s1=>
    intro x wr hB hd κ hκ;have b0:=hB.2.2.2.2.1;have b1:=hB.2.2.2.2.2.1;refine⟨?_⟩
    simp only[iM,Act.put,List.setIfInBounds_toArray,List.set_cons_zero,List.set_cons_succ]
    go_simp
    exact hκ _ _ (By x 37 (.agg #[.bool bq, .slice A3 n3 c3])) rfl hB (iG _ _ _) (fun k hk _ _ h=>h.fill (ex:=[1]) (Below.refl _ _) rfl (by simpa using hk))
   case s2=>
    intro x wr hB hd κ hκ;have b0:=hB.2.2.1;have b1:=hB.2.2.2.1;refine⟨?_⟩
    simp only[iM,Act.put,List.setIfInBounds_toArray,List.set_cons_zero,List.set_cons_succ]
    go_simp
    exact hκ _ _ (By x 38 (.agg #[.bool bb, .slice B1 m1 d1])) rfl hB (iG _ _ _) (fun k hk _ _ h=>h.fill (ex:=[2]) (Below.refl _ _) rfl (by simpa using hk))
   case s3=>
    intro x wr hB hd κ hκ;have h1:x 37=_:=hd 1 (by decide);have h2:x 38=_:=hd 2 (by decide);refine⟨?_⟩
    simp only[iM,Act.put,List.setIfInBounds_toArray,List.set_cons_zero,List.set_cons_succ]
    go_simp
    refine(Kz (HvQ.out.ext hB.ext) (HvB.out.ext hB.ext) Hl.out.1 l2).mono ?_;rw[Hp0.out];rintro e w2 ⟨v,rfl,hv,hb⟩
    go_simp
    exact hκ _ _ (By x 39 v) (by rw[<- h1,<- h2];rfl) (hKS.grow hB hb) (show dz w2 (By x 39 v 39) p0 by rw[iG];exact hv) (fun k hk _ _ h=>h.fill (ex:=[3]) hb rfl (by simpa using hk))
   case s4=>
    intro x wr hB hd κ hκ;have h1:x 36=_:=hd 0 (by decide);have h2:dz wr (x 39) p0:=hd 3 (by decide);refine⟨?_⟩
    simp only[iM,Act.put,List.setIfInBounds_toArray,List.set_cons_zero,List.set_cons_succ]
    go_simp
    refine(B6 (HvA.out.ext hB.ext) h2 Hr0.out l1 Hl.out.2.1).mono ?_;rintro e w2 ⟨v,rfl,hv,hb⟩
    go_simp
    exact hκ _ _ (By x 40 v) (by rw[<- h1];rfl) (hKS.grow hB hb) (show dz w2 (By x 40 v 40) r0 by rw[iG];exact hv) (fun k hk _ _ h=>h.fill (ex:=[4]) hb rfl (by simpa using hk))
   case s5=>
    intro x wr hB hd κ hκ;refine⟨?_⟩
    simp only[iM,Act.put,List.setIfInBounds_toArray,List.set_cons_zero,List.set_cons_succ]
    go_simp
    exact hκ _ _ (By x 10 (.pointer (some ⟨wr.heap.size,0,none⟩))) rfl (hKS.grow hB (it _ _)) (show j0 _ _ (By x 10 _ 10) undef by rw[iG];exact EP (hKS.size hB)) (fun k hk _ hw h=>h.fill (ex:=[5,6]) (it _ _) rfl (by simp only[List.mem_cons,List.not_mem_nil,or_false,not_or];exact⟨hk,by rintro rfl;exact absurd hw (by decide)⟩))
   case s6=>
    intro x wr hB hd κ hκ;obtain⟨Ar,nr,dr,v0,hw1⟩:dz wr (x 40) r0:=hd 4 (by decide);rw[Hbr.out]at v0;obtain⟨g,e0,e1,e2,e3⟩:j0 _ wr (x 10) undef:=hd 5 (by decide);have e2':=e2;obtain⟨u0,u1,cc0,cc1,ff0,ff1,i0,i1⟩:=e2';clear i0 i1;have hR:=Lib.hid (fun k (hk:kd W3.heap.size [.is 36 (.agg #[.bool ba, .slice A1 n1 c1]), .is 37 (.agg #[.bool bq, .slice A3 n3 c3]), .is 38 (.agg #[.bool bb, .slice B1 m1 d1]), .int 39 p0, .int 40 r0, .box 10, .done 10 r0] k x wr) hne=>kd.store (b:=br) (A:=Ar) (n:=nr) (c:=dr) (ex:=[6]) hk e2 rfl hne);have hF:=jd.mk e0 e1 e2 hw1 e3;rw[Hbr.out]at hF;have HF:=Lib.hid hF;have hB2:=Lib.hid (hKS.store (b:=br) (A:=Ar) (n:=nr) (c:=dr) hB e1 e2);clear hd hB hw1 e3 hF;refine⟨?_⟩
    simp only[iM,Act.put,List.setIfInBounds_toArray,List.set_cons_zero,List.set_cons_succ]
    go_simp
    refine hκ _ _ x ?_ hB2.out HF.out (fun k hk _ hw h=>hR.out k h (by simpa using hk))
    simp only[iM,Act.put,List.setIfInBounds_toArray,List.set_cons_zero,List.set_cons_succ,e0,v0]<;>rfl
   case fin=>
    intro x wr hB hF;have h4:jd W3.heap.size wr (x 10) undef r0:=hF 6 (by decide)
    simp only[iM,Act.put,List.setIfInBounds_toArray,List.set_cons_zero,List.set_cons_succ]
    have hT:=And.intro h4 hB;clear h4 hB hF
    go_wp2_with fail
    go_meet
    exact hT
  case rest=>
   obtain⟨⟨g10,rfl,hg10,hs10,⟨A4,n4,c4,p1,p2,hw4⟩,-⟩,hF⟩:=hcut;obtain⟨br,hbr⟩:∃b,decide (r0<0)=b:=⟨_,rfl⟩;rw[hbr]at p1;have vR:=kv hbr hw4;have vB:=HvB.out.ext hF.ext;have vQ:=HvQ.out.ext hF.ext;have hH:_/\_/\_/\_/\tH wc w ⟨g9,0,none⟩ ⟨g9,1,none⟩ (.bool bq) (.slice A3 n3 c3) wc:=⟨p1,p2,hF.2.2.1,hF.2.2.2.1,hF.2.2.2.2.1,hF.2.2.2.2.2.1,hF.2.2.2.2.2.2.1,aK.refl _⟩;have hHd:=lT hH (Below.drew (Below.refl _ _));obtain⟨sr,hsr⟩:∃sr,r0.sign=sr:=⟨_,rfl⟩;obtain⟨sb,hsb⟩:∃sb,zb.sign=sb:=⟨_,rfl⟩;have hsp:=Et r0 zb;rw[hsr,hsb]at hsp;have hN9:w.heap.size+4<=g9:=hN9';have hN10:w.heap.size+4<=g10:=by omega
   have hne9:g9≠g10:=by omega
   have Hs10:=Lib.hid hs10;have Hs9:=Lib.hid (Hs9.out.below hF.ext);clear hs10;obtain⟨sp,hsp'⟩:∃sp,sr*sb=sp:=⟨_,rfl⟩;rw[hsp']at hsp;have k1:IntKind.i64.wrap (sr*sb)=sp:=by rw[hsp'];exact IntWalk.i64_in _ (by omega)
   have hdm:=Hdm.out;rw[hsr,hsb,hsp']at hdm;have Hdm:=Lib.hid hdm.2;have HsR:=Lib.hid hsr;have HsB:=Lib.hid hsb;have Hsp':=Lib.hid hsp';have VR:=Lib.hid vR;have VB:=Lib.hid vB;have hvBW:aC wc B1 m1 d1 (digs zb.natAbs):=hvBW0.ext hF.ext;have HvBW:=Lib.hid hvBW;have VQ:=Lib.hid vQ;have Hbr:=Lib.hid hbr;have Hw4:=Lib.hid hw4;clear hdm hsr hsb vR vB vQ hbr hw4 hF hKS HS0 HvA HvB HvQ hsp' hsp hH p1 p2
   by_cases hneg:sp<0
   ·have hfd:=Hdm.out.1 hneg
    have Hfd:=Lib.hid hfd;clear hfd
    go_wp2_with fail
    go_region_held3 (fun w'=>w'.cell? ⟨g10,0,none⟩=some (.bool br)/\w'.cell? ⟨g10,1,none⟩=some (.slice A4 n4 c4)/\w'.cell? ⟨w.heap.size+1,0,none⟩=some (.bool bb)/\w'.cell? ⟨w.heap.size+1,1,none⟩=some (.slice B1 m1 d1)/\tH wc w ⟨g9,0,none⟩ ⟨g9,1,none⟩ (.bool bq) (.slice A3 n3 c3) w')
     (with_reducible first|exact hHd|assumption|exact lT (by assumption) (by assumption))
     (first
      |((go_at_call 103;(with_reducible refine(mF (VR.out.ext (mt (by assumption)))).mono ?_);rw[HsR.out];rintro e wa ⟨rfl,hba⟩;have hHa:=lT (by with_reducible assumption) hba))
      |((go_at_call 103;(with_reducible refine(mF (VB.out.ext (mt (by assumption)))).mono ?_);rw[HsB.out];rintro e wb ⟨rfl,hbb⟩;have hHb:=lT (by with_reducible assumption) hbb)))
    have h9:wb.cell? ⟨g9,0,none⟩=some (.bool bq)/\wb.cell? ⟨g9,1,none⟩=some (.slice A3 n3 c3)/\tW wc w g9 g10 br bb A4 B1 n4 c4 m1 d1 wb:=⟨hHb.2.2.2.2.1,hHb.2.2.2.2.2.1,⟨hHb.1,hHb.2.1,hHb.2.2.1,hHb.2.2.2.1⟩,Hs9.out.below (mt hHb),Hs10.out.below (mt hHb),hHb.2.2.2.2.2.2.1,mt hHb⟩;have h90:=IY h9 (Below.drew (Below.refl _ _));obtain⟨q1,hq1⟩:∃q1,q0-1=q1:=⟨_,rfl⟩;obtain⟨r1,hr1⟩:∃r1,r0+zb=r1:=⟨_,rfl⟩;have f3:(digs (1:Int).natAbs).length<=2147483648:=by rw[show(1:Int).natAbs=1 from rfl,rU (by decide) (by decide)];decide
    have Hq1:=Lib.hid hq1;have Hr1:=Lib.hid hr1;have Hf3:=Lib.hid f3;clear hHd hHa hHb hba hbb h9 hq1 hr1 f3
    go_wp2_with fail
    go_cut [47] (fun _ wx=>Qt w g9 g10 q1 r0 zb A4 B1 n4 c4 m1 d1 br bb wx)
    case first=>
     go_region_with (first
      |((go_at_call 105;(with_reducible refine(qL 1 (by decide) (by decide) _).mono ?_);rintro e w8 ⟨v8,rfl,hv8,hb8⟩;have h98:=IY (by assumption) hb8))
      |((go_at_call 234;(with_reducible refine(B6 (VQ.out.ext (SL h98)) hv8 Hq1.out Hl.out.1 Hf3.out).mono ?_);rintro e w9 ⟨v9,rfl,⟨A5,n5,c5,rfl,hw5⟩,hb9⟩;have h99:=IY h98 hb9;obtain⟨uq0,uq1,su0,su1,su2,su3,-,-⟩:=Rs h99)))
     all_goals(go_wp2_with fail;go_meet;exact SO h99 hw5 Hw4.out (HvBW.out) hN9 hne9)
    case rest=>
     obtain⟨⟨p1,p2,p3,p4⟩,⟨Aq,nq,cq,x0,x1,hwq⟩,hs10,hDR,hwr,hwb⟩:=hcut;obtain⟨b1,hb1⟩:∃b,decide (q1<0)=b:=⟨_,rfl⟩;obtain⟨b2,hb2⟩:∃b,decide (r1<0)=b:=⟨_,rfl⟩;rw[hb1]at x0;have vR:=kv Hbr.out hwr;have vB:=kv Hbb.out hwb;have hadd:=KU vR vB Hr1.out Hl.out.2.2 l2;have Hadd:=Lib.hid hadd;have Hb1:=Lib.hid hb1;have Hb2:=Lib.hid hb2;have Hwq:=Lib.hid hwq;have HDR:=Lib.hid hDR;have Hs10':=Lib.hid hs10;clear hadd hb1 hb2 hwq hDR hs10 vR vB hwr hwb
     go_wp2_with fail
     ((with_reducible refine Hadd.out.mono ?_);rintro e w8 ⟨v8,rfl,hv8,hb8⟩;obtain⟨A8,n8,c8,rfl,hw8⟩:=ur hv8 Hb2.out;have x0:=kc x0 hb8;have x1:=kc x1 hb8;have hwq:=Hwq.out.below hb8;have hDR:=HDR.out.more hb8;have hs10:=Hs10'.out.below hb8)
     have hS:=hs10;obtain⟨uq0,uq1,su0,su1,su2,su3,-,-⟩:=hS;have Hs8:=Lib.hid hs10;have HDR8:=Lib.hid hDR;have Hwq8:=Lib.hid hwq;have Hw8:=Lib.hid hw8;clear hv8 hb8 hwq hDR hs10 hw8 HDR Hwq Hs10'
     go_wp2_with fail
     obtain⟨W9,hW9⟩:∃W9,W9=(w8.setCell ⟨g10,0,none⟩ (.bool b2)).setCell ⟨g10,1,none⟩ (.slice A8 n8 c8):=⟨_,rfl⟩;have y0:W9.cell? ⟨g10,0,none⟩=some (.bool b2):=by rw[hW9];exact(Hs8.out.cells _ _ _ _).1
     have y1:W9.cell? ⟨g10,1,none⟩=some (.slice A8 n8 c8):=by rw[hW9];exact(Hs8.out.cells _ _ _ _).2
     have z0:W9.cell? ⟨g9,0,none⟩=some (.bool b1):=by rw[hW9];exact aH x0 hne9
     have z1:W9.cell? ⟨g9,1,none⟩=some (.slice Aq nq cq):=by rw[hW9];exact aH x1 hne9
     have hDR:ij w W9:=by rw[hW9];exact HDR8.out.set2 hN10 _ _
     have hwq:aC W9 Aq nq cq (digs q1.natAbs):=by rw[hW9];exact Hwq8.out.set2 Hs8.out _ _
     have hwr:aC W9 A8 n8 c8 (digs r1.natAbs):=by rw[hW9];exact Hw8.out.set2 Hs8.out _ _
     rw[<- hW9];clear hW9 x0 x1 su0 su1 su2 su3;have hsl:bh W9 (w.heap.size+1+1)/\bh W9 (w.heap.size+1+1+1):=⟨hDR.1,hDR.2.1⟩;have Hsl:=Lib.hid hsl;obtain⟨⟨uq0',uq1',su0,su1,su2,su3,-,-⟩,⟨ur0,ur1,sv0,sv1,sv2,sv3,-,-⟩⟩:=hsl;have HR4:=Lib.hid hwr;have HQ4:=Lib.hid hwq;have HEw:=Lib.hid hDR.2.2;have n1:¬g9=w.heap.size+1+1:=by omega
     have n2:¬g9=w.heap.size+1+1+1:=by omega
     have n3':¬g10=w.heap.size+1+1:=by omega
     have n4':¬g10=w.heap.size+1+1+1:=by omega
     clear hDR hwq hwr p1 p2 p3 p4
     go_region
     go_wp2_with fail
     have hD:=FM Hb1.out Hb2.out HQ4.out HR4.out Hsl.out (by omega) (.inl rfl);have hD:=And.intro hD.1.drew hD.2.drew;rw[Hfd.out.1,Hfd.out.2,Hq1.out,Hr1.out];refine jR (rq:=w.heap.size+1+1) (rr:=w.heap.size+1+1+1) (q:=q1) (r:=r1) hD ?_;intro A5 n5 c5 B5 m5 d5 x0 x1 x2 y0 y1 y2;exact bodyPost_ret (v:= .tuple #[.agg #[.bool (decide (q1<0)), .slice A5 n5 c5], .agg #[.bool (decide (r1<0)), .slice B5 m5 d5], .int .i64 0]) (by simp[results,results165,go_sem,x0,x1,y0,y1]) rfl ⟨_,_,rfl,⟨_,_,_,rfl,x2⟩,⟨_,_,_,rfl,y2⟩,((HEw.out.set2 (by omega) _ _).set2 (by omega) _ _).drew⟩
   ·have hfd:=Hdm.out.2 hneg
    have Hfd:=Lib.hid hfd;clear hfd
    go_wp2_with fail
    go_region_held3 (fun w'=>w'.cell? ⟨g10,0,none⟩=some (.bool br)/\w'.cell? ⟨g10,1,none⟩=some (.slice A4 n4 c4)/\w'.cell? ⟨w.heap.size+1,0,none⟩=some (.bool bb)/\w'.cell? ⟨w.heap.size+1,1,none⟩=some (.slice B1 m1 d1)/\tH wc w ⟨g9,0,none⟩ ⟨g9,1,none⟩ (.bool bq) (.slice A3 n3 c3) w')
     (with_reducible first|exact hHd|assumption|exact lT (by assumption) (by assumption))
     (first
      |((go_at_call 103;(with_reducible refine(mF (VR.out.ext (mt (by assumption)))).mono ?_);rw[HsR.out];rintro e wa ⟨rfl,hba⟩;have hHa:=lT (by with_reducible assumption) hba))
      |((go_at_call 103;(with_reducible refine(mF (VB.out.ext (mt (by assumption)))).mono ?_);rw[HsB.out];rintro e wb ⟨rfl,hbb⟩;have hHb:=lT (by with_reducible assumption) hbb)))
    have hR4:=Hw4.out.below (mt hHb);obtain⟨Aq,nq,cq,eq,hQ4⟩:dz wb (.agg #[.bool bq, .slice A3 n3 c3]) q0:=VQ.out.ext (mt hHb)
    simp only[Value.agg.injEq,Array.mk.injEq,List.cons.injEq,Value.bool.injEq,Value.slice.injEq,and_true]at eq
    obtain⟨-,rfl,rfl,rfl⟩:=eq;have hEw:aK w wb:=hHb.2.2.2.2.2.2.1.2.2;have hsl:bh wb (w.heap.size+1+1)/\bh wb (w.heap.size+1+1+1):=⟨hHb.2.2.2.2.2.2.1.1,hHb.2.2.2.2.2.2.1.2.1⟩;have x0:=hHb.1;have x1:=hHb.2.1;have y0:=hHb.2.2.2.2.1;have y1:=hHb.2.2.2.2.2.1;obtain⟨⟨uq0,uq1,su0,su1,su2,su3,-,-⟩,⟨ur0,ur1,sv0,sv1,sv2,sv3,-,-⟩⟩:=hsl;have hsl:bh wb (w.heap.size+1+1)/\bh wb (w.heap.size+1+1+1):=⟨hHb.2.2.2.2.2.2.1.1,hHb.2.2.2.2.2.2.1.2.1⟩;have Hsl:=Lib.hid hsl;have HR4:=Lib.hid hR4;have HQ4:=Lib.hid hQ4;have HEw:=Lib.hid hEw;have n1:¬g9=w.heap.size+1+1:=by omega
    have n2:¬g9=w.heap.size+1+1+1:=by omega
    have n3':¬g10=w.heap.size+1+1:=by omega
    have n4':¬g10=w.heap.size+1+1+1:=by omega
    clear hHb hHa hHd hR4 hQ4 hEw hsl hba hbb
    go_wp2_with fail
    go_region
    go_wp2_with fail
    have hD:=FM Hbq.out Hbr.out HQ4.out HR4.out Hsl.out (by omega) (.inl rfl);have hD:=And.intro hD.1.drew hD.2.drew;rw[Hfd.out.1,Hfd.out.2];refine jR (rq:=w.heap.size+1+1) (rr:=w.heap.size+1+1+1) (q:=q0) (r:=r0) hD ?_;intro A5 n5 c5 B5 m5 d5 x0 x1 x2 y0 y1 y2;exact bodyPost_ret (v:= .tuple #[.agg #[.bool (decide (q0<0)), .slice A5 n5 c5], .agg #[.bool (decide (r0<0)), .slice B5 m5 d5], .int .i64 0]) (by simp[results,results165,go_sem,x0,x1,y0,y1]) rfl ⟨_,_,rfl,⟨_,_,_,rfl,x2⟩,⟨_,_,_,rfl,y2⟩,((HEw.out.set2 (by omega) _ _).set2 (by omega) _ _).drew⟩
end
end Go.Proofs.YtmkggcjajcdlcaaGreatDoor
