/- Parts of a proof: contracts of the functions that the laws reach. -/
import Derived.Test.YtmkggcjajcdlcaaGreatDoorQAk
import Derived.Test.YtmkggcjajcdlcaaGreatDoorQLSqrt
set_option maxHeartbeats 100000000
set_option linter.all false
open Go.Proofs.Tryz
namespace Go.Proofs.YtmkggcjajcdlcaaGreatDoor
open Go.RowKit
theorem uF {N r i q:Nat} (h1:r*r≤N) (h2:N<(r+1)*(r+1)) (hq:q=r/2^(i+1)):
 ((2*q+1)*2^i*((2*q+1)*2^i)≤N→r/2^i=2*q+1)∧(N<(2*q+1)*2^i*((2*q+1)*2^i)→r/2^i=2*q):=by
 have h0:0<2^i:=Nat.two_pow_pos i
 have e:r/2^i/2=q:=by rw[Nat.div_div_eq_div_mul,← Nat.pow_succ,hq]
 have hle:2*q+1≤r/2^i↔(2*q+1)*2^i≤r:=Nat.le_div_iff_mul_le h0;generalize(2*q+1)*2^i=c at *
 constructor
 ·intro h
  have:c≤r:=by
   rcases Nat.lt_or_ge r c with h3|h3
   ·have:=Nat.mul_le_mul (show r+1≤c from h3) (show r+1≤c from h3)
    omega
   ·exact h3
  have:=hle.2 this;omega
 ·intro h
  have:¬c≤r:=fun h3=>by
   have:=Nat.mul_le_mul h3 h3;omega
  have:=fun h=>this (hle.1 h)
  omega
theorem ug {zs:List Nat} (hw:Wd zs) {i q:Nat} (hk:i/32<zs.length) (hv:val zs=q*2^(i+1)):
 zs.getD (i/32) 0%2^(i%32+1)=0∧zs.getD (i/32) 0+2^(i%32)<4294967296∧val (zs.set (i/32) (zs.getD (i/32) 0+2^(i%32)))=(2*q+1)*2^i:=by
 have hs:=gn zs (i/32+1) (by omega);have ht:=ae zs (i/32);have hlt:=cC hw (i/32);have hx:=hw.getD (i/32);generalize zs.getD (i/32) 0=x at *;have hB:4294967296^(i/32)=2^(32*(i/32)):=by rw[show 4294967296=2^32 from rfl,← Nat.pow_mul]
 have hi:i=32*(i/32)+i%32:=by omega
 have e1:2^(i+1)=4294967296^(i/32)*2^(i%32+1):=by rw[hB,← Nat.pow_add];congr 1;omega
 have e2:2^i=4294967296^(i/32)*2^(i%32):=by rw[hB,← Nat.pow_add];congr 1
 have hb:i%32<32:=Nat.mod_lt _ (by decide)
 generalize i%32=b at *;have hp0:0<4294967296^(i/32):=Nat.pow_pos (by decide)
 have hset:=dY zs (i/32) (x+2^b) hk
 have hxx:zs.getD (i/32) 0=x:=by
  have:=ae zs (i/32);rw[ht]at this;have:=Nat.mul_left_cancel hp0 (Nat.add_left_cancel this);exact this.symm
 rw[hxx]at hset;rw[ht,Nat.pow_succ]at hs;rw[e1]at hv;rw[e2];generalize 4294967296^(i/32)=B at *;generalize val (zs.take (i/32))=lo at *;generalize val (zs.drop (i/32+1))=hiw at *
 have hdiv:(lo+B*(x+4294967296*hiw))=B*(q*2^(b+1)):=by
  have:q*(B*2^(b+1))=B*(q*2^(b+1)):=by rw[Nat.mul_left_comm]
  rw[← this,← hv,hs,Nat.mul_add,Nat.add_assoc,Nat.mul_assoc]
 have hx2:x+4294967296*hiw=q*2^(b+1):=by
  have:=congrArg (· /B) hdiv
  simp only[Nat.add_mul_div_left _ _ hp0,Nat.mul_div_cancel_left _ hp0,Nat.div_eq_of_lt hlt,Nat.zero_add]at this
  exact this
 have hd:2^(b+1)∣4294967296:=by rw[show 4294967296=2^32 from rfl];exact Nat.pow_dvd_pow 2 (by omega)
 have hxm:x%2^(b+1)=0:=by
  obtain⟨u,hu⟩:=hd;have:(x+4294967296*hiw)%2^(b+1)=0:=by rw[hx2];exact Nat.mul_mod_left _ _
  rw[hu,Nat.mul_assoc,Nat.add_mul_mod_self_left]at this;exact this
 refine⟨hxm,?_,?_⟩
 ·obtain⟨u,hu⟩:=hd
  obtain⟨t,ht2⟩:=Nat.dvd_of_mod_eq_zero hxm
  have h3:t<u:=by
   rw[ht2,hu]at hx;exact Nat.lt_of_mul_lt_mul_left hx
  have h4:2^(b+1)*(t+1)≤2^(b+1)*u:=Nat.mul_le_mul_left _ h3;rw[← hu,Nat.mul_add,← ht2]at h4;have:2^(b+1)=2^b*2:=Nat.pow_succ ..;have:0<2^b:=Nat.two_pow_pos b
  omega
 ·rw[hv,Nat.pow_succ]at hset
  have e:q*(B*(2^b*2))+B*(x+2^b)=(2*q+1)*(B*2^b)+B*x:=by grind
  omega
theorem tP (x b:Nat) (hx:x%2^(b+1)=0):x |||2^b=x+2^b:=by
 have h:x=2^(b+1)*(x/2^(b+1)):=by have:=Nat.div_add_mod x (2^(b+1));omega
 have h2:=Nat.two_pow_add_eq_or_of_lt (i:=b+1) (b:=2^b) (Nat.pow_lt_pow_right (by decide) (by omega)) (x/2^(b+1));rw[← h]at h2;exact h2.symm
theorem sR (x b:Nat) (hb:b<32) (hl:x<4294967296) (h:x%2^(b+1)=0):(x+2^b) &&& (4294967295-2^b)=x:=by
 rw[← tP x b h];have hp:2^b<2^32:=Nat.pow_lt_pow_right (by decide) hb
 apply Nat.eq_of_testBit_eq
 intro j;rw[Nat.testBit_and,Nat.testBit_or,show 4294967295-2^b=2^32-(2^b+1) by omega,Nat.testBit_two_pow_sub_succ hp,Nat.testBit_two_pow]
 by_cases hj:b=j
 ·subst hj
  have:x.testBit b=false:=by
   have h2:=Nat.testBit_mod_two_pow x (b+1) b;rw[h,Nat.zero_testBit]at h2
   simpa using h2.symm
  rw[this]
  simp
 ·by_cases hj2:j<32
  ·simp[hj,hj2]
  ·have:x.testBit j=false:=Nat.testBit_lt_two_pow (Nat.lt_of_lt_of_le (show x<2^32 from hl) (Nat.pow_le_pow_right (by decide) (by omega)))
   simp[this,hj]
theorem sc (n:Nat):n<2^bitLen n:=by
 unfold bitLen
 split
 ·rename_i h;rw[h];exact Nat.two_pow_pos _
 ·rename_i h;exact(Nat.log2_lt h).1 (Nat.lt_succ_self _)
theorem vo {N r n:Nat} (h1:r*r≤N) (hn:bitLen N≤2*n):r<2^n:=by
 rcases Nat.lt_or_ge r (2^n)with h|h
 ·exact h
 ·have h2:=Nat.mul_le_mul h h
  have h3:N<2^(2*n):=Nat.lt_of_lt_of_le (sc N) (Nat.pow_le_pow_right (by decide) hn)
  rw[Nat.two_mul,Nat.pow_add]at h3;omega
theorem se (N k:Nat) (h:(digs N).length≤k):bitLen N≤32*k:=by
 rcases Nat.eq_zero_or_pos (digs N).length with h0|h0
 ·have:=b5.1 (List.eq_nil_of_length_eq_zero h0)
  rw[this];exact Nat.zero_le _
 ·obtain⟨m,hm⟩:∃m,(digs N).length=m+1:=⟨(digs N).length-1,by omega⟩
  have h1:=(f8 (ai N) (iy N) m hm).2;rw[ac]at h1;have:=eA _ ((ai N).getD m);omega
section
attribute [local go_sem ↓] Go.wp_at_zero Go.wp_at_succ
theorem tB (w:World) (a0 a1 r0 r1:Value) (t:TypeId) (W:World) (hW:W=(w.alloc (.cells #[a0,a1] t)).alloc (.cells #[r0,r1] t)):
 (W.frozen? ⟨w.heap.size,0,none⟩=false∧W.frozen? ⟨w.heap.size,1,none⟩=false):=by
 subst hW
 simp[go_sem]
theorem xO (x b:Nat) (hb:b<32) (hx:x%2^(b+1)=0) (hl:x+2^b<4294967296):bits BinOp.or IntKind.u32 (x:Int) ((2:Int)^b%4294967296)=((x+2^b:Nat):Int)∧bits BinOp.andNot IntKind.u32 ((x+2^b:Nat):Int) ((2:Int)^b%4294967296)=(x:Int):=by
 have e2:(2:Int)^b=((2^b:Nat):Int):=by rw[Int.natCast_pow];rfl
 have e:((2:Int)^b%4294967296)=((2^b:Nat):Int):=by rw[e2];omega
 have h1:=tP x b hx;have h2:=sR x b hb (by omega) hx;rw[e,u32_or_nat _ _ (by omega) (by omega),u32_andNot_nat _ _ hl (by omega),h1,h2];exact⟨rfl,rfl⟩
theorem lC (zs:List Nat) (i y:Nat):(zs.set i y).set i (zs.getD i 0)=zs:=by
 rw[List.set_set];rcases Nat.lt_or_ge i zs.length with h|h
 ·rw[List.getD_eq_getElem?_getD,List.getElem?_eq_getElem h]
  exact List.set_getElem_self h
 ·exact List.set_eq_of_length_le h
def xE (V:World) (g:Nat) (zs:List Nat) (w:World):Prop:=cf w g zs∧ak V w
theorem qX {V w w1:World} {p:Addr} {u:Value} {g:Nat} {zs:List Nat} (h:w.cell? p=some u∧xE V g zs w) (hb:Below w.heap.size w w1):w1.cell? p=some u∧xE V g zs w1:=
 ⟨kc h.1 hb,h.2.1.below hb h.2.1.lt,ak.more h.2.2 hb⟩
theorem mV {V w:World} {p:Addr} {u:Value} {g:Nat} {zs:List Nat} (h:w.cell? p=some u∧xE V g zs w):cf w g zs:=h.2.1
theorem u6 {V w:World} {p:Addr} {u:Value} {g:Nat} {zs:List Nat} (h:w.cell? p=some u∧xE V g zs w):ak V w:=h.2.2
theorem u5 {a b:Int}:aO a b > 0↔b<a:=by
 unfold aO
 split
 ·constructor
  ·intro h;exact absurd h (by decide)
  ·intro h;omega
 ·split
  ·constructor
   ·intro h;first|omega|exact absurd h (by decide)
   ·intro h;first|omega|decide
  ·constructor
   ·intro h;omega
   ·intro h;first|decide|omega
set_option maxRecDepth 100000 in
theorem vl (v:Value) (na:Bool) (xs:List Nat) (w:World) (ha:aL w v na xs) (hl:xs.length≤2147483) {N r:Nat} (hN:af na xs=N) (h1:r*r≤N) (h2:N<(r+1)*(r+1)):
 Calls Tryz.prog 96 #[v] w (od r 0 w):=by
 obtain⟨A,n,c,rfl,hx⟩:=ha;obtain⟨W,hW⟩:∃W,W=(w.alloc (.cells #[.bool na, .slice A n c] 36)).alloc (.cells #[.bool false, .slice none 0 0] 36):=⟨_,rfl⟩;obtain⟨⟨ca0,ca1⟩,⟨cr0,cr1,fr0,fr1⟩,hbW⟩:=dC w _ _ _ _ _ W hW;obtain⟨fa0,fa1⟩:=tB w _ _ _ _ _ W hW
 have hdl:(digs N).length≤2147483:=by
  have e:=nW hN;rw[Int.natAbs_natCast]at e;rw[e];have:=aK hx.wd;omega
 have hbl:=se N 2147483 hdl;have hneg:decide ((N:Int)<0)=false:=decide_eq_false (by omega);have hbc:=fun W' A' n' c' (h:aj W' A' n' c' (digs N))=>wt (.agg #[.bool false, .slice A' n' c']) false (digs N) W' (cF h) (by omega)
 rw[ac]at hbc;obtain⟨bl,hble⟩:∃bl,bl=bitLen N:=⟨_,rfl⟩;rw[← hble]at hbl hbc;obtain⟨nn,hnn⟩:∃nn,nn=(bl+1)/2:=⟨_,rfl⟩;have hn1:((bl:Int)+1)/2=nn:=by omega
 have hn2:nn≤68719456:=by omega
 have hrn:r<2^nn:=vo h1 (by rw[← hble];omega)
 have Hx:=Lib.hid (hx.ext hbW);have Hn:=Lib.hid hneg;have HN:=Lib.hid hN;have Hbc:=Lib.hid hbc;have H12:=Lib.hid (And.intro h1 h2);have Hrn:=Lib.hid hrn;clear hx hneg hN hbc h1 h2 hrn hble hnn hdl
 go_enter func96,ntmps96
 go_wp2_with fail
 rw[← hW];clear hW
 ((with_reducible refine(rL (cF Hx.out) HN.out).mono ?_);rintro e w1 ⟨v1,rfl,hv1,hb1⟩;obtain⟨A1,n1,c1,rfl,hw1⟩:=cG hv1 Hn.out;rw[Int.natAbs_natCast]at hw1;have su0:=kc ca0 hb1;have su1:=kc ca1 hb1;have sf0:=kf ca0 fa0 hb1;have sf1:=kf ca1 fa1 hb1;have sr0:=kc cr0 hb1;have sr1:=kc cr1 hb1;have sg0:=kf cr0 fr0 hb1;have sg1:=kf cr1 fr1 hb1;have hE1:ak w w1:=hbW.more hb1)
 have HW1:=Lib.hid hw1;have HE1:=Lib.hid hE1;clear hv1 hb1 hw1 hE1 Hx HN Hn
 go_wp2_with fail
 obtain⟨W2,hW2⟩:∃W2,W2=(w1.setCell ⟨w.heap.size,0,none⟩ (.bool false)).setCell ⟨w.heap.size,1,none⟩ (.slice A1 n1 c1):=⟨_,rfl⟩;have q0:W2.cell? ⟨w.heap.size,0,none⟩=some (.bool false):=by rw[hW2];exact bu (cd su0) (by simp)
 have q1:W2.cell? ⟨w.heap.size,1,none⟩=some (.slice A1 n1 c1):=by rw[hW2];exact cd (bu su1 (by simp))
 have hs2:aw W2 (w.heap.size+1):=by rw[hW2];exact(aw.mk sr0 sr1 sg0 sg1).far (by omega) _ _
 have hE2:ak w W2:=by rw[hW2];exact ak.set2 HE1.out (Nat.le_refl _) _ _
 have hw2:aj W2 A1 n1 c1 (digs N):=by rw[hW2];exact HW1.out.set2 (aw.mk su0 su1 sf0 sf1) _ _
 rw[← hW2];clear hW2 su0 su1 sf0 sf1 sr0 sr1 sg0 sg1 HE1 HW1 ca0 ca1 cr0 cr1 fr0 fr1 fa0 fa1 hbW
 ((with_reducible refine(Hbc.out _ _ _ _ hw2).mono ?_);rintro e V ⟨rfl,hbV⟩)
 have p0:=kc q0 hbV;have p1:=kc q1 hbV;have hsV:=hs2.below hbV;have hEV:ak w V:=hE2.more hbV;have hwV:=hw2.below hbV;have hmk:=cg (nn/32+1) ((nn:Int)/32+1) (by omega) (by omega);have hrow:=bI V (ah (nn/32+1));have hbb:Below V.heap.size V (V.alloc (bG (ah (nn/32+1)))):=(Below.refl _ _).alloc (Nat.le_refl _) _;have Hrow:=Lib.hid hrow;have Hbb:=Lib.hid hbb;have HsV:=Lib.hid hsV;have HEV:=Lib.hid hEV;have HwV:=Lib.hid hwV;clear hrow hbb hsV hEV hwV q0 q1 hs2 hE2 hw2 hbV Hbc
 go_wp2_with fail
 clear hmk hn1
 go_loopw [6] (fun i wr=>∃(k:Nat) (zs:List Nat),k≤nn∧i= .int .i64 ((k:Int)-1)∧(Wd zs∧zs.length=nn/32+1∧val zs=r/2^k*2^k)∧cf wr V.heap.size zs∧Below V.heap.size V wr)
  (fun i _=>(intOf i+1).toNat)
 case atStart=>exact⟨nn,ah (nn/32+1),Nat.le_refl _,rfl,⟨bd _,am _,by rw[Nat.div_eq_of_lt Hrn.out,Nat.zero_mul];exact aD _⟩,Hrow.out,Hbb.out⟩
 case round=>
  obtain⟨k,zs,hk,rfl,hv,hrow,hb⟩:=hrel;clear Hrow Hbb Hrn;have o0:=xh p0 hb;have o1:=xh p1 hb
  by_cases h0:0<k
  ·obtain⟨j,rfl⟩:∃j,k=j+1:=⟨k-1,by omega⟩
   rw[show((j+1:Nat):Int)-1=(j:Int) by omega];have hk32:j/32<zs.length:=by rw[hv.2.1];omega
   have hjL:j/32<nn/32+1:=by omega
   obtain⟨m1,m2,m3⟩:=ug hv.1 hk32 hv.2.2;have hst:=uF H12.out.1 H12.out.2 (i:=j) rfl;obtain⟨q,hq⟩:∃q,q=r/2^(j+1):=⟨_,rfl⟩;rw[← hq]at m3 hst hv;have hcz:=hrow.cell (j/32) hk32;have hfr:=hrow.frozen (j/32);have hback:=lC zs (j/32);obtain⟨x,hxx⟩:∃x,zs.getD (j/32) 0=x:=⟨_,rfl⟩;rw[hxx]at m1 m2 m3 hcz hback;obtain⟨b1,b2⟩:=xO x (j%32) (by omega) m1 m2;obtain⟨y,hy⟩:∃y,y=x+2^(j%32):=⟨_,rfl⟩;rw[← hy]at m2 m3 b1 b2;have hrow1:=hrow.set (j/32) y;have hb1:=hb.setCell (p:=⟨V.heap.size,j/32,none⟩) (Nat.le_refl _) (aS y);have Hb12:=Lib.hid (And.intro b1 b2);have Hm:=Lib.hid (And.intro m2 m3);have Hst:=Lib.hid hst;have Hback:=Lib.hid hback;have Hrow:=Lib.hid hrow;have Hb:=Lib.hid hb;have Hrow1:=Lib.hid hrow1;have Hb1:=Lib.hid hb1;have Hv:=Lib.hid hv
   have Hxx:=Lib.hid hxx;clear m1 m2 m3 hst hback hrow hb hrow1 hb1 hv b1 b2 hy hq hxx
   go_wp2_with fail
   go_region
   rw[Hb12.out.1];obtain⟨W5,hW5⟩:∃W5,W5=(wr.setCell ⟨V.heap.size,j/32,none⟩ (aS y)).drew:=⟨_,rfl⟩;have hR5:cf W5 V.heap.size (zs.set (j/32) y):=by rw[hW5];exact Hrow1.out.drew
   have hB5:ak V W5:=by rw[hW5];exact ak.drew Hb1.out
   rw[← hW5];clear hW5 o0 o1 hcz hfr Hrow Hb Hrow1 Hb1;have o1:=xh p1 hB5;obtain⟨zs1,hzs1⟩:∃zs1,zs1=zs.set (j/32) y:=⟨_,rfl⟩;have hl1:zs1.length=nn/32+1:=by rw[hzs1,List.length_set];exact Hv.out.2.1
   have hd1:Wd zs1:=by rw[hzs1];exact aJ Hv.out.1 _ _ Hm.out.1
   have hm1:=Hm.out.2;rw[← hzs1]at hR5 hm1;obtain⟨C,hC⟩:∃C,C=(2*q+1)*2^j:=⟨_,rfl⟩;rw[← hC]at hm1;have hst:=Hst.out;rw[← hC]at hst;have hlt1:(trim zs1).length≤4294967296:=by have:=aK hd1;omega
   obtain⟨o,ho⟩:∃o,aO (C*C:Nat) N=o:=⟨_,rfl⟩;have hog:=u5 (a:=(C*C:Nat)) (b:=(N:Int));rw[ho]at hog;have hw1:∀W',cf W' V.heap.size zs1→aj W' (some ⟨V.heap.size,0,none⟩) (nn/32+1) (nn/32+1) zs1:=fun W' h=>h.wrd' hd1 hl1 (by omega)
   have hH:W5.cell? ⟨w.heap.size,1,none⟩=some (.slice A1 n1 c1)∧xE V V.heap.size zs1 W5:=⟨o1,hR5,hB5⟩;have hHd:=qX hH (Below.drew (Below.refl _ _));have Hw1:=Lib.hid hw1;have Hm1:=Lib.hid hm1;have Hst:=Lib.hid hst;have Hzs:=Lib.hid (And.intro hzs1 (And.intro hl1 hd1));have Ho:=Lib.hid ho;have Hog:=Lib.hid hog;clear hw1 hm1 hst hzs1 hl1 hd1 ho hog hR5 hB5 hH o1
   go_wp2_with fail
   go_region_held3 (fun w'=>w'.cell? ⟨w.heap.size,1,none⟩=some (.slice A1 n1 c1)∧xE V V.heap.size zs1 w')
    (with_reducible first|exact hHd|assumption|exact qX (by assumption) (by assumption))
    (first
     |((go_at_call 162;(with_reducible refine(aX (some ⟨V.heap.size,0,none⟩) (nn/32+1) (nn/32+1) zs1 _ (Hw1.out _ (mV (V:=V) (p:=⟨w.heap.size,1,none⟩) (u:= .slice A1 n1 c1) (by assumption)))).mono ?_);rintro e w' ⟨rfl,rfl⟩))
     |((go_at_call 161;(with_reducible refine(pl _ _ _ _ _ _ (trim zs1) (trim zs1) _ (Hw1.out _ (mV (V:=V) (p:=⟨w.heap.size,1,none⟩) (u:= .slice A1 n1 c1) (by assumption))).trim (Hw1.out _ (mV (V:=V) (p:=⟨w.heap.size,1,none⟩) (u:= .slice A1 n1 c1) (by assumption))).trim hlt1 hlt1).mono ?_);rintro e w6 ⟨A6,n6,c6,zs6,rfl,hw6,rfl,hb6⟩;rw[aq,Hm1.out]at hw6;have hH6:=qX (by assumption) hb6))
     |((go_at_call 160;(with_reducible refine(mP Ho.out _ (by assumption) (HwV.out.ext (u6 (g:=V.heap.size) (zs:=zs1) (p:=⟨w.heap.size,1,none⟩) (u:= .slice A1 n1 c1) (by assumption)))).mono ?_);rintro e w7 ⟨rfl,hb7⟩;have hH7:=qX (by assumption) hb7)))
   have hR7:=mV hH7;have hB7:=u6 hH7;have hcz:=hR7.cell (j/32) (by rw[Hzs.out.2.1];exact hjL);rw[Hzs.out.1,bE hk32]at hcz;have hfr:=hR7.frozen (j/32);have hrow1:=hR7.set (j/32) x;rw[Hzs.out.1,Hback.out]at hrow1;have hb1:=hB7.setCell (p:=⟨V.heap.size,j/32,none⟩) (Nat.le_refl _) (aS x);have HR7:=Lib.hid hR7;have HB7:=Lib.hid hB7;have Hrow1:=Lib.hid hrow1;have Hb1:=Lib.hid hb1;clear hR7 hB7 hrow1 hb1 hH7 hH6 hw6 hb6 hb7 hHd Hm1 Hw1
   by_cases hgt:0<o
   ·go_wp2_with fail
    go_region
    rw[Hb12.out.2];obtain⟨W9,hW9⟩:∃W9,W9=(w7.setCell ⟨V.heap.size,j/32,none⟩ (aS x)).drew:=⟨_,rfl⟩;have hR9:cf W9 V.heap.size zs:=by rw[hW9];exact Hrow1.out.drew
    have hB9:Below V.heap.size V W9:=by rw[hW9];exact ak.drew Hb1.out
    rw[← hW9];have HR9:=Lib.hid hR9;have HB9:=Lib.hid hB9;clear hW9 Hrow1 Hb1 HR7 HB7 hR9 hB9 hcz hfr
    go_wp2_with fail
    go_roundw
    case rel=>
     have e:=Hst.out.2 (by have:=Hog.out.1 hgt;omega);exact⟨j,zs,by omega,rfl,⟨Hv.out.1,Hv.out.2.1,by rw[Hv.out.2.2,e,Nat.pow_succ];grind⟩,HR9.out,HB9.out⟩
    case measure=>simp[intOf]<;>omega
   ·go_wp2_with fail
    go_roundw
    case rel=>
     have e:=Hst.out.1 (by
      have hg:¬0<o:=by omega
      rcases Nat.lt_or_ge N (C*C)with h|h
      ·exact absurd (Hog.out.2 (by exact_mod_cast h)) hg
      ·exact h)
     exact⟨j,zs1,by omega,rfl,⟨Hzs.out.2.2,Hzs.out.2.1,by rw[Hzs.out.1,Hm.out.2,e]⟩,HR7.out,HB7.out⟩
    case measure=>simp[intOf]<;>omega
  ·obtain rfl:k=0:=by omega
   have hw2:aj wr (some ⟨V.heap.size,0,none⟩) (nn/32+1) (nn/32+1) zs:=hrow.wrd' hv.1 hv.2.1 (by omega)
   have hz:af false zs=(r:Int):=by
    have e:=hv.2.2;rw[Nat.pow_zero,Nat.div_one,Nat.mul_one]at e;unfold af;rw[e];rfl
   have Hw2:=Lib.hid hw2;have Hz:=Lib.hid hz;have hsr:=HsV.out.below hb;have HEr:=Lib.hid (HEV.out.more hb);have Hsr:=Lib.hid hsr;clear hw2 hz hv hrow hsr hb
   go_wp2_with fail
   ((with_reducible refine(bt Hw2.out Hz.out).mono ?_);rintro e w8 ⟨v8,rfl,hv8,hb8⟩;obtain⟨A8,n8,c8,rfl,hw8⟩:=cG hv8 (show decide ((r:Int)<0)=false from decide_eq_false (by omega));have hs8:=Hsr.out.below hb8;obtain⟨u0,u1,su0,su1,su2,su3,sn0,sn1⟩:=hs8;have hE8:=HEr.out.more hb8)
   have Hw8:=Lib.hid (hw8.set2 (r:=w.heap.size+1) ⟨u0,u1,su0,su1,su2,su3,sn0,sn1⟩ (.bool false) (.slice A8 n8 c8));have HE8:=Lib.hid (ak.set2 (r:=w.heap.size+1) hE8 (Nat.le_succ _) (.bool false) (.slice A8 n8 c8));clear hv8 hb8 hw8 hE8 sn0 sn1
   go_wp2_with fail
   exact bodyPost_ret (v:= .tuple #[.agg #[.bool false, .slice A8 n8 c8], .int .i64 0]) (by simp[results,results96,go_sem,su0,su1]) rfl ⟨_,rfl,⟨A8,n8,c8,by rw[decide_eq_false (show ¬(r:Int)<0 by omega)],Hw8.out⟩,HE8.out⟩
end
end Go.Proofs.YtmkggcjajcdlcaaGreatDoor
