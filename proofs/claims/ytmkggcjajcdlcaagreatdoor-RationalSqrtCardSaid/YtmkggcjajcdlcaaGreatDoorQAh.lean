/- Same of the reference, same of the laws. cp of the laws. small of the laws. Parse of the program at the two texts of awake. Sqrt of the program, leaning on what divide gives. -/
import Derived.Test.YtmkggcjajcdlcaaGreatDoorQAg
import Derived.Deep.AppendLies
import Derived.Test.YtmkggcjajcdlcaaGreatDoorQAa
set_option maxHeartbeats 100000000
set_option linter.all false
open Go.Proofs.Tryz
namespace Go.Proofs.YtmkggcjajcdlcaaGreatDoor
open Go.RowKit
section
attribute [local go_sem ↓] Go.wp_at_zero Go.wp_at_succ
def qE (b:Bool) (w:World) (e:Ending) (w':World):Prop:=e= .returned (.bool b)∧Below w.heap.size w w'
def sameB (na nb:Bool) (xs ys:List Nat):Bool:=na == nb && decide (xs=ys)
theorem uJ (w:World) (a0 a1 b0 b1:Value) (t:TypeId) (W:World) (hW:W=(w.alloc (.cells #[a0,a1] t)).alloc (.cells #[b0,b1] t)):
 (W.cell? ⟨w.heap.size,0,none⟩=some a0∧W.cell? ⟨w.heap.size,1,none⟩=some a1∧W.cell? ⟨w.heap.size+1,0,none⟩=some b0∧W.cell? ⟨w.heap.size+1,1,none⟩=some b1)∧ak w W:=by
 have h0:ak w W:=by rw[hW];exact((ak.refl w).alloc _).alloc _
 refine⟨?_,h0⟩;subst hW;simp[go_sem]
theorem r5 (x y:Int):sameB (decide (x<0)) (decide (y<0)) (digs x.natAbs) (digs y.natAbs)=decide (x=y):=by
 unfold sameB
 by_cases h:x=y
 ·subst h;simp
 ·have:¬(decide (x<0)=decide (y<0)∧digs x.natAbs=digs y.natAbs):=by
   rintro⟨h1,h2⟩;have h3:x.natAbs=y.natAbs:=by rw[← ac x.natAbs,h2,ac]
   have h4:(x<0)↔(y<0):=by simpa using h1
   apply h
   omega
  rw[decide_eq_false h];cases hb:(decide (x<0) == decide (y<0) && decide (digs x.natAbs=digs y.natAbs))
  ·rfl
  ·rw[Bool.and_eq_true]at hb
   exact absurd ⟨by simpa using hb.1,by simpa using hb.2⟩ this
end
section
attribute [local go_sem ↓] Go.wp_at_zero Go.wp_at_succ
def x8 (na:Bool) (xs:List Nat) (w:World) (e:Ending) (w':World):Prop:=∃v,e= .returned v∧aL w' v na xs∧Below w.heap.size w w'
end
def od (z:Int) (n:Int) (w:World) (e:Ending) (w':World):Prop:=∃v,e= .returned (.tuple #[v, .int .i64 n])∧a7 w' v z∧Below w.heap.size w w'
theorem lY (w:World):a7 w (.agg #[.bool false, .slice none 0 0]) 0:=⟨none,0,0,by simp,by rw[show(0:Int).natAbs=0 from rfl,ar];exact .nil _⟩
theorem xd (va:Value) (xs:List Nat) (w:World) (ha:aL w va false xs) (hs:xs.length≤2147483)
 (hok:∀b,0<b→lV (val xs) b) (h0:0<val xs):
 Calls Tryz.prog 156 #[va] w fun e w'=>∃r:Nat,r*r≤val xs∧val xs<(r+1)*(r+1)∧od r 0 w e w':=by
 obtain⟨A,n,c,rfl,hx⟩:=ha;obtain⟨W,hW⟩:∃W,W=(w.alloc (.cells #[.bool false, .slice A n c] 36)).alloc (.cells #[.bool false, .slice none 0 0] 36):=⟨_,rfl⟩;obtain⟨⟨ca0,ca1⟩,⟨cr0,cr1,fr0,fr1⟩,hbW⟩:=dC w _ _ _ _ _ W hW;have hsg:iM false xs=1:=by unfold iM;rw[if_neg (by omega)];rfl
 have hbl:bitLen (val xs)<4294967296:=by
  rcases Nat.lt_or_ge (bitLen (val xs)) 4294967296 with h|h
  ·exact h
  ·exfalso
   have h1:=(bitLen_spec (val xs)).2 (by omega);have h2:=cw hx.wd;rw[show(4294967296:Nat)=2^32 by decide,← Nat.pow_mul]at h2;have h3:2^(32*xs.length)≤2^(bitLen (val xs)-1):=Nat.pow_le_pow_right (by decide) (by omega);omega
 have hsc:=jO (.agg #[.bool false, .slice A n c]) false xs W (cF (hx.ext hbW));rw[hsg]at hsc
 have hup:val xs<(2^(bitLen (val xs)/2+1)+1)*(2^(bitLen (val xs)/2+1)+1):=by
  have h1:=(bitLen_spec (val xs)).1
  have h2:2^bitLen (val xs)≤2^(bitLen (val xs)/2+1)*2^(bitLen (val xs)/2+1):=by
   rw[← Nat.pow_add];exact Nat.pow_le_pow_right (by decide) (by omega)
  have h3:2^(bitLen (val xs)/2+1)*2^(bitLen (val xs)/2+1)≤(2^(bitLen (val xs)/2+1)+1)*(2^(bitLen (val xs)/2+1)+1):=Nat.mul_le_mul (Nat.le_succ _) (Nat.le_succ _);omega
 have hbc:=fun W' h=>wW (.agg #[.bool false, .slice A n c]) false xs W' h (by omega)
 obtain⟨bl,hble⟩:∃bl,bl=bitLen (val xs):=⟨_,rfl⟩;rw[← hble]at hbl hup hbc;obtain⟨nn,hnn⟩:∃nn,nn=bl/2+1:=⟨_,rfl⟩;rw[← hnn]at hup;have hn1:(bl:Int)/2+1=nn:=by omega
 have hn2:nn≤4294967296:=by omega
 have Hx:=Lib.hid (hx.ext hbW);have Hsc:=Lib.hid hsc;have Hbc:=Lib.hid hbc;have Hup:=Lib.hid hup;have Hok:=Lib.hid hok;clear hx hsc hbc hup hok hsg hble hnn
 go_enter func156,ntmps156
 go_wp2_with fail
 rw[← hW];clear hW
 go_wp2_with (first
  |(go_at_call 222;(with_reducible refine Hsc.out.mono ?_);rintro e w1 ⟨rfl,hb1⟩;have hE1:ak W w1:=hb1;have k0:=kc ca0 hb1;have k1:=kc ca1 hb1)
  |(go_at_call 223;(with_reducible refine(Hbc.out _ (bf Hx.out hE1)).mono ?_);rintro e w2 ⟨rfl,hb2⟩;have hE2:ak W w2:=hE1.more hb2)
  |(go_at_call 224;(with_reducible refine(rQ nn _ hn2).mono ?_);rintro e w3 ⟨A3,n3,c3,zs,rfl,hw3,⟨hv3,hl3,hz3⟩,hb3⟩;have hE3:ak W w3:=hE2.more hb3;have m0:=kc ca0 hE3;have m1:=kc ca1 hE3))
 have hzs:zs=digs (2^nn):=by rw[← hv3];exact(pa hw3.wd hz3).symm
 have hlt:2^nn<4294967296^(nn/32+1):=by rw[← hv3,← hl3];exact cw hw3.wd
 subst hzs;have Hlt:=Lib.hid hlt;have Hw3:=Lib.hid hw3;clear hlt hw3 hv3 hz3 hl3 hE1 hE2 k0 k1 hb1 hb2 hb3
 go_loopg [5] (2^nn) (fun x v wr=>∃(X:Option Addr) (m e:Nat),v= .slice X m e∧aj wr X m e (digs x)∧0<x∧val xs<(x+1)*(x+1)∧x<4294967296^(nn/32+1)∧ak W wr)
 case atStart=>exact⟨_,_,_,rfl,Hw3.out,Nat.two_pow_pos _,Hup.out,Hlt.out,hE3⟩
 case round=>
  obtain⟨X,m,e,rfl,hwx,hx0,hax,hxb,hE⟩:=hrel;clear Hup Hlt Hw3 hE3 m0 m1 Hsc Hbc;have y0:=kc ca0 hE;have y1:=kc ca1 hE
  have hmb:m≤134217729:=by
   have h1:=av hxb;have h2:=hwx.len;omega
  have hqb:(digs (val xs/gk)).length≤2147483:=by
   have h1:=av (Nat.lt_of_le_of_lt (Nat.div_le_self (val xs) gk) (cw Hx.out.wd));omega
  have hcall:Calls Tryz.prog 215 #[.slice A (trim xs).length c, .slice X m e] wr (dR (val xs/gk) (val xs%gk) wr):=Hok.out gk hx0 _ _ _ _ _ _ wr (Hx.out.ext hE).trim hwx;have hab:=mL (val xs) gk hx0;have hen:=qq (val xs) gk hx0;obtain⟨yy,hyy⟩:∃yy,yy=(gk+val xs/gk)/2:=⟨_,rfl⟩;rw[← hyy]at hab hen;have hyp:=qN (val xs) yy h0 hab;have Hcall:=Lib.hid hcall;have Hab:=Lib.hid hab;have Hen:=Lib.hid hen;have Hyy:=Lib.hid hyy;have Hax:=Lib.hid hax;have Hxb:=Lib.hid hxb;have Hxw:=Lib.hid (Hx.out.ext hE);have Hwx:=Lib.hid hwx;clear hcall hab hen hyy hax hxb hwx
  by_cases hle:gk≤yy
  ·have ho:=dy (a:=(yy:Int)) (b:=gk) (by omega)
   obtain⟨o,hoo⟩:∃o,o=aO yy gk:=⟨_,rfl⟩;rw[← hoo]at ho;have Hoo:=Lib.hid hoo;clear hoo;have hzz:af false (digs gk)=(gk:Int):=by unfold af;rw[ac];rfl
   have Hzz:=Lib.hid hzz;clear hzz
   go_wp2_with (first
    |(go_at_call 199;(with_reducible refine(aH A n c xs _ Hxw.out).mono ?_);rintro e w' ⟨rfl,rfl⟩)
    |(go_at_call 215;(with_reducible refine Hcall.out.mono ?_);rintro e1 v1 ⟨Q1,a1,b1,R1,a2,b2,rfl,hq1,_,hd1⟩;have hl1:=hq1.len)
    |(go_at_call 201;(with_reducible refine(m7 X Q1 m a1 e b1 (digs gk) (digs (val xs/gk)) _ (Hwx.out.below hd1) hq1 (by omega) (by omega)).mono ?_);rintro e2 v2 ⟨P1,p2,p3,zs2,rfl,hp,⟨hpv,hpl⟩,hd2⟩;have hl2:=hp.len)
    |(go_at_call 225;(with_reducible refine(ue P1 p2 p3 zs2 _ hp (by omega)).mono ?_);rintro e3 v3 ⟨Y,my,ey,zs3,rfl,hy,hz3,hd3⟩;rw[hpv,ac,ac,← Hyy.out]at hz3;subst hz3;have hwx3:=((Hwx.out.below hd1).below hd2).below hd3;have hcmp:=cH Y X my m ey e (digs yy) (digs gk) v3 hy hwx3;rw[dw,← Hoo.out]at hcmp)
    |(go_at_call 202;(with_reducible refine hcmp.mono ?_);rintro e4 v4 ⟨rfl,qn,rfl⟩)
    |(go_at_call 200;(with_reducible refine(aT (hwx3.drewN qn) Hzz.out).mono ?_);rintro e5 v5 ⟨vv,rfl,⟨A5,n5,c5,rfl,hw5⟩,hd5⟩;have hE5:ak W v5:=ak.more (ak.trans (ak.more (ak.more (ak.more hE hd1) hd2) hd3) (aN v3 qn)) hd5;have su0:=kc cr0 hE5;have su1:=kc cr1 hE5;have sf0:=kf cr0 fr0 hE5;have sf1:=kf cr1 fr1 hE5))
   have hneg:decide ((gk:Int)<0)=false:=by simp
   exact bodyPost_ret (v:= .tuple #[.agg #[.bool false, .slice A5 n5 c5], .int .i64 0]) (by simp[results,results156,go_sem,su0,su1]) rfl ⟨gk,Hen.out hle,Hax.out,_,rfl,⟨A5,n5,c5,by rw[hneg],hw5.set2 (aw.mk su0 su1 sf0 sf1) _ _⟩,ak.set2 (hbW.trans hE5) (Nat.le_succ _) _ _⟩
  ·have ho:aO (yy:Int) gk= -1:=cO (by omega)
   obtain⟨o,hoo⟩:∃o,o=aO yy gk:=⟨_,rfl⟩;have ho:¬0≤o:=by rw[hoo,ho];decide
   have Hoo:=Lib.hid hoo;clear hoo
   go_wp2_with (first
    |(go_at_call 199;(with_reducible refine(aH A n c xs _ Hxw.out).mono ?_);rintro e w' ⟨rfl,rfl⟩)
    |(go_at_call 215;(with_reducible refine Hcall.out.mono ?_);rintro e1 v1 ⟨Q1,a1,b1,R1,a2,b2,rfl,hq1,_,hd1⟩;have hl1:=hq1.len)
    |(go_at_call 201;(with_reducible refine(m7 X Q1 m a1 e b1 (digs gk) (digs (val xs/gk)) _ (Hwx.out.below hd1) hq1 (by omega) (by omega)).mono ?_);rintro e2 v2 ⟨P1,p2,p3,zs2,rfl,hp,⟨hpv,hpl⟩,hd2⟩;have hl2:=hp.len)
    |(go_at_call 225;(with_reducible refine(ue P1 p2 p3 zs2 _ hp (by omega)).mono ?_);rintro e3 v3 ⟨Y,my,ey,zs3,rfl,hy,hz3,hd3⟩;rw[hpv,ac,ac,← Hyy.out]at hz3;subst hz3;have hwx3:=((Hwx.out.below hd1).below hd2).below hd3;have hcmp:=cH Y X my m ey e (digs yy) (digs gk) v3 hy hwx3;rw[dw,← Hoo.out]at hcmp)
    |(go_at_call 202;(with_reducible refine hcmp.mono ?_);rintro e4 v4 ⟨rfl,qn,rfl⟩))
   go_roundg yy
   case measure=>omega
   case rel=>exact⟨_,_,_,rfl,hy.drewN qn,hyp,Hab.out,Nat.lt_trans (by omega) Hxb.out,ak.trans (ak.more (ak.more (ak.more hE hd1) hd2) hd3) (aN v3 qn)⟩
end Go.Proofs.YtmkggcjajcdlcaaGreatDoor
