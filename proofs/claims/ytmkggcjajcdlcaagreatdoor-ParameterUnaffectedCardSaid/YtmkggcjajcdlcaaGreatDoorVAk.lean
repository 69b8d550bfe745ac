/- Pow of the reference. Valid, Int64 and Bits of both packages. Int64 of both packages. Bits of the reference. -/
import Derived.Test.YtmkggcjajcdlcaaGreatDoorVAj
set_option maxHeartbeats 100000000
set_option linter.all false
open Go.Proofs.Tryz
namespace Go.Proofs.YtmkggcjajcdlcaaGreatDoor
open Go.RowKit
theorem Kz {va vb:Value} {a b:Int} {w:World} (ha:dz w va a) (hb:dz w vb b) (h1:(digs a.natAbs).length<=2147483648) (h2:(digs b.natAbs).length<=2147483648):
 Calls Tryz.prog 98 #[va,vb] w (bZ (a*b) w):=by
 have:=Gb va vb _ _ _ _ w ha hb h1 h2
 rwa[aP,aP]at this
theorem ur {w:World} {v:Value} {z:Int} {b:Bool} (h:dz w v z) (hb:decide (z<0)=b):∃A n c,v= .agg #[.bool b, .slice A n c]/\aC w A n c (digs z.natAbs):=by
 obtain⟨A,n,c,h1,h2⟩:=h;exact⟨A,n,c,by rw[h1,hb],h2⟩
theorem kv {w:World} {A:Option Addr} {n c:Nat} {z:Int} {b:Bool} (hb:decide (z<0)=b) (h:aC w A n c (digs z.natAbs)):dz w (.agg #[.bool b, .slice A n c]) z:=⟨A,n,c,by rw[hb],h⟩
theorem JO (w:World) (a0 a1:Value) (t:TypeId):((w.alloc (.cells #[a0,a1] t)).cell? ⟨w.heap.size,0,none⟩=some a0/\(w.alloc (.cells #[a0,a1] t)).cell? ⟨w.heap.size,1,none⟩=some a1)/\((w.alloc (.cells #[a0,a1] t)).frozen? ⟨w.heap.size,0,none⟩=false/\(w.alloc (.cells #[a0,a1] t)).frozen? ⟨w.heap.size,1,none⟩=false):=by
 simp[go_sem]
section
attribute [local go_sem ↓] Go.wp_at_zero Go.wp_at_succ
def dx (na:Bool) (xs:List Nat):Bool:=decide ((trim xs).length=xs.length) && (!na || decide (0<xs.length))
theorem G2 {xs:List Nat} (hw:Wd xs) (h:0<xs.length):(trim xs).length=xs.length↔xs.getD (xs.length-1) 0≠0:=by
 constructor
 ·intro h1 h2
  have h3:=jG (xs:=xs) (k:=xs.length) (Nat.le_refl _) h h2;rw[List.take_length]at h3;have h4:=bF (xs:=xs.take (xs.length-1)) (hw.take _);rw[h3,h1,List.length_take]at h4;omega
 ·intro h1
  have h2:=gO hw (k:=xs.length) (Nat.le_refl _) (.inr h1);rw[List.take_length]at h2;rw[h2]
theorem yb (A:Option Addr) (c:Nat) (na:Bool) (xs:List Nat) (w:World) (n:Nat) (hn:n=0) (hx:aC w A n c xs):
 Calls Tryz.prog 276 #[.agg #[.bool na, .slice A n c]] w (pr (!na) w):=by
 obtain⟨W,hW⟩:∃W,W=w.alloc (.cells #[.bool na, .slice A n c] 36):=⟨_,rfl⟩;obtain⟨⟨ca0,ca1⟩,⟨fa0,fa1⟩,hbW⟩:=sL w _ _ _ W hW;subst hn;clear hx
 subst hW;cases na
 all_goals(
  go_enter func276,ntmps276
  go_wp2_with fail
  go_ret
  exact⟨rfl,hbW⟩)
theorem y9 (A:Option Addr) (c:Nat) (na:Bool) (xs:List Nat) (w:World) (n x:Nat) (hn:0<n) (hx0:xs.getD (n-1) 0=x) (hx1:x≠0) (hx:aC w A n c xs):
 Calls Tryz.prog 276 #[.agg #[.bool na, .slice A n c]] w (pr true w):=by
 obtain⟨W,hW⟩:∃W,W=w.alloc (.cells #[.bool na, .slice A n c] 36):=⟨_,rfl⟩;obtain⟨⟨ca0,ca1⟩,⟨fa0,fa1⟩,hbW⟩:=sL w _ _ _ W hW;have hlim:n<=9223372036854775807:=Nat.le_trans hx.cap hx.lim;have hlx:=hx.ext hbW;obtain⟨b1,o1,rfl,-,hc1⟩:=hlx.at (by omega);have hc1:=hc1 (n-1) (by omega);rw[hx0]at hc1;have g1:(0:Int)<=(n:Int)-1:=(by omega);have g2:(n:Int)-1<n:=(by omega);have t0:((n:Int) == 0)=false:=(by simp;omega);have t1:(0:Int)<n:=(by omega);have hlt:=hx.wd.getD (n-1);rw[hx0]at hlt;clear hx hlx hx0;have t2:((x:Int) != 0)=true:=(by simp;omega)
 subst hW;cases na
 all_goals(
  go_enter func276,ntmps276
  go_wp2_with fail
  go_ret
  exact⟨rfl,hbW⟩)
theorem zj (A:Option Addr) (c:Nat) (na:Bool) (xs:List Nat) (w:World) (n x:Nat) (hn:0<n) (hx0:xs.getD (n-1) 0=x) (hx1:x=0) (hx:aC w A n c xs):
 Calls Tryz.prog 276 #[.agg #[.bool na, .slice A n c]] w (pr false w):=by
 obtain⟨W,hW⟩:∃W,W=w.alloc (.cells #[.bool na, .slice A n c] 36):=⟨_,rfl⟩;obtain⟨⟨ca0,ca1⟩,⟨fa0,fa1⟩,hbW⟩:=sL w _ _ _ W hW;have hlim:n<=9223372036854775807:=Nat.le_trans hx.cap hx.lim;have hlx:=hx.ext hbW;obtain⟨b1,o1,rfl,-,hc1⟩:=hlx.at (by omega);have hc1:=hc1 (n-1) (by omega);rw[hx0]at hc1;have g1:(0:Int)<=(n:Int)-1:=(by omega);have g2:(n:Int)-1<n:=(by omega);have t0:((n:Int) == 0)=false:=(by simp;omega);have t1:(0:Int)<n:=(by omega);have hlt:=hx.wd.getD (n-1);rw[hx0]at hlt;clear hx hlx hx0;subst hx1
 subst hW;cases na
 all_goals(
  go_enter func276,ntmps276
  go_wp2_with fail
  go_ret
  exact⟨rfl,hbW⟩)
theorem JU (va:Value) (na:Bool) (xs:List Nat) (w:World) (ha:bH w va na xs):Calls Tryz.prog 276 #[va] w (pr (dx na xs) w):=by
 obtain⟨A,n,c,rfl,hx⟩:=ha;have hl:=hx.len
 by_cases h0:n=0
 ·have e:dx na xs=!na:=by
   have hxs:xs=[]:=List.eq_nil_of_length_eq_zero (by omega);subst hxs;unfold dx trim;rw[JW,aG]
   simp
  rw[e];exact yb A c na xs w n h0 hx
 ·have ht:=G2 hx.wd (by omega)
  have hp:decide (0<xs.length)=true:=decide_eq_true (by omega)
  by_cases h1:xs.getD (n-1) 0=0
  ·have e:dx na xs=false:=by
    unfold dx;rw[hl]at ht ⊢;rw[decide_eq_false (fun h=>ht.1 h h1)];rfl
   rw[e];exact zj A c na xs w n _ (by omega) rfl h1 hx
  ·have e:dx na xs=true:=by
    unfold dx;rw[hp];rw[hl]at ht ⊢;rw[decide_eq_true (ht.2 h1)]
    simp
   rw[e];exact y9 A c na xs w n _ (by omega) rfl h1 hx
theorem xC (A:Option Addr) (n c:Nat) (na:Bool) (xs:List Nat) (w:World) (hm:(trim xs).length≠n) (hx:aC w A n c xs):
 Calls Tryz.prog 221 #[.agg #[.bool na, .slice A n c]] w (pr false w):=by
 obtain⟨W,hW⟩:∃W,W=w.alloc (.cells #[.bool na, .slice A n c] 36):=⟨_,rfl⟩;obtain⟨⟨ca0,ca1⟩,⟨fa0,fa1⟩,hbW⟩:=sL w _ _ _ W hW;have hH:=tu ⟨ca0,ca1,hbW⟩ (Below.drew (Below.refl _ _));have Hx:=Lib.hid hx;obtain⟨m,hmm⟩:∃m,m=(trim xs).length:=⟨_,rfl⟩;rw[<- hmm]at hm;have Hmm:=Lib.hid hmm;have t0:((m:Int) == n)=false:=by simp;omega
 skip
 have t2:¬m=n:=hm;have t3:(m == n)=false:=(by simp;omega)
 clear hx hmm
 go_enter func221,ntmps221
 go_wp2_with fail
 rw[<- hW];clear hW
 have Hq:∀q,Calls Tryz.prog 162 #[.slice A n c] (W.drewN q) fun e w'=>e= .returned (.slice A m c)/\W.drewN q=w':=fun q=>by
  exact Kw
 have HQ:=Lib.hid Hq;clear Hq
 go_quiet ((go_at_call 162;exact ld (HQ.out _)))
 go_wp2_with fail
 go_ret
 exact⟨rfl,hbW.trans (bW _ _)⟩
theorem uO (A:Option Addr) (n c:Nat) (na:Bool) (xs:List Nat) (w:World) (hm:(trim xs).length=n) (hna:na=false) (hx:aC w A n c xs):
 Calls Tryz.prog 221 #[.agg #[.bool na, .slice A n c]] w (pr true w):=by
 obtain⟨W,hW⟩:∃W,W=w.alloc (.cells #[.bool na, .slice A n c] 36):=⟨_,rfl⟩;obtain⟨⟨ca0,ca1⟩,⟨fa0,fa1⟩,hbW⟩:=sL w _ _ _ W hW;have hH:=tu ⟨ca0,ca1,hbW⟩ (Below.drew (Below.refl _ _));have Hx:=Lib.hid hx;obtain⟨m,hmm⟩:∃m,m=(trim xs).length:=⟨_,rfl⟩;rw[<- hmm]at hm;have Hmm:=Lib.hid hmm;have t0:((m:Int) == n)=true:=by simp;omega
 subst hna
 (have hm':=hm.symm;subst hm')
 clear hx hmm
 go_enter func221,ntmps221
 go_wp2_with fail
 rw[<- hW];clear hW
 have Hq:∀q,Calls Tryz.prog 162 #[.slice A n c] (W.drewN q) fun e w'=>e= .returned (.slice A n c)/\W.drewN q=w':=fun q=>by
  exact Kw
 have HQ:=Lib.hid Hq;clear Hq
 go_quiet ((go_at_call 162;exact ld (HQ.out _)))
 go_wp2_with fail
 go_ret
 exact⟨rfl,hbW.trans (bW _ _)⟩
theorem wi (A:Option Addr) (n c:Nat) (na:Bool) (xs:List Nat) (w:World) (hm:(trim xs).length=n) (hna:na=true) (h0:0<n) (hx:aC w A n c xs):
 Calls Tryz.prog 221 #[.agg #[.bool na, .slice A n c]] w (pr true w):=by
 obtain⟨W,hW⟩:∃W,W=w.alloc (.cells #[.bool na, .slice A n c] 36):=⟨_,rfl⟩;obtain⟨⟨ca0,ca1⟩,⟨fa0,fa1⟩,hbW⟩:=sL w _ _ _ W hW;have hH:=tu ⟨ca0,ca1,hbW⟩ (Below.drew (Below.refl _ _));have Hx:=Lib.hid hx;obtain⟨m,hmm⟩:∃m,m=(trim xs).length:=⟨_,rfl⟩;rw[<- hmm]at hm;have Hmm:=Lib.hid hmm;have t0:((m:Int) == n)=true:=by simp;omega
 subst hna;have t1:(0:Int)<n:=(by omega)
 (have hm':=hm.symm;subst hm')
 clear hx hmm
 go_enter func221,ntmps221
 go_wp2_with fail
 rw[<- hW];clear hW
 have Hq:∀q,Calls Tryz.prog 162 #[.slice A n c] (W.drewN q) fun e w'=>e= .returned (.slice A n c)/\W.drewN q=w':=fun q=>by
  exact Kw
 have HQ:=Lib.hid Hq;clear Hq
 go_quiet ((go_at_call 162;exact ld (HQ.out _)))
 go_wp2_with fail
 go_ret
 exact⟨rfl,hbW.trans (bW _ _)⟩
theorem vj (A:Option Addr) (n c:Nat) (na:Bool) (xs:List Nat) (w:World) (hm:(trim xs).length=n) (hna:na=true) (h0:¬0<n) (hx:aC w A n c xs):
 Calls Tryz.prog 221 #[.agg #[.bool na, .slice A n c]] w (pr false w):=by
 obtain⟨W,hW⟩:∃W,W=w.alloc (.cells #[.bool na, .slice A n c] 36):=⟨_,rfl⟩;obtain⟨⟨ca0,ca1⟩,⟨fa0,fa1⟩,hbW⟩:=sL w _ _ _ W hW;have hH:=tu ⟨ca0,ca1,hbW⟩ (Below.drew (Below.refl _ _));have Hx:=Lib.hid hx;obtain⟨m,hmm⟩:∃m,m=(trim xs).length:=⟨_,rfl⟩;rw[<- hmm]at hm;have Hmm:=Lib.hid hmm;have t0:((m:Int) == n)=true:=by simp;omega
 subst hna;have t1:¬(0:Int)<n:=(by omega)
 (have hm':=hm.symm;subst hm')
 clear hx hmm
 go_enter func221,ntmps221
 go_wp2_with fail
 rw[<- hW];clear hW
 have Hq:∀q,Calls Tryz.prog 162 #[.slice A n c] (W.drewN q) fun e w'=>e= .returned (.slice A n c)/\W.drewN q=w':=fun q=>by
  exact Kw
 have HQ:=Lib.hid Hq;clear Hq
 go_quiet ((go_at_call 162;exact ld (HQ.out _)))
 go_wp2_with fail
 go_ret
 exact⟨rfl,hbW.trans (bW _ _)⟩
theorem FD (va:Value) (na:Bool) (xs:List Nat) (w:World) (ha:bH w va na xs):Calls Tryz.prog 221 #[va] w (pr (dx na xs) w):=by
 obtain⟨A,n,c,rfl,hx⟩:=ha;have hl:=hx.len;unfold dx;rw[hl]
 by_cases h1:(trim xs).length=n
 ·rw[decide_eq_true h1]
  cases na
  ·exact uO A n c false xs w h1 rfl hx
  ·by_cases h0:0<n
   ·rw[decide_eq_true h0];exact wi A n c true xs w h1 rfl h0 hx
   ·rw[decide_eq_false h0];exact vj A n c true xs w h1 rfl h0 hx
 ·rw[decide_eq_false h1,Bool.false_and]
  exact xC A n c na xs w h1 hx
end
theorem y6 {y:Nat} (h:0<y):bitLen y=bitLen (y/2)+1:=by
 by_cases h1:y/2=0
 ·have:y=1:=by omega
  subst this;decide
 ·have:=bitLen_shift y 1 h1
  simp only[Nat.pow_one]at this
  omega
theorem E8 (A:Option Addr) (n c v:Nat) (w:World) (hx:aC w A n c (digs v)) (hs:n<=4294967296):
 Calls Tryz.prog 227 #[.slice A n c] w fun e w'=>e= .returned (.int .i64 (bitLen v:Int))/\w=w':=by
 by_cases h0:n=0
 ·have hv:v=0:=by
   have:=hx.len;rw[h0]at this;exact ff.1 (List.eq_nil_of_length_eq_zero this)
  have hb:bitLen v=0:=by rw[hv];rfl
  rw[hb];subst h0;clear hx hv hb
  go_enter func227,ntmps227
  go_wp2
  go_ret
  exact⟨rfl,rfl⟩
 ·have h0':((n:Int) == 0)=false:=by simp;omega
  obtain⟨b1,o1,rfl,_,hc1⟩:=hx.at (by omega);have hc2:=hc1 (n-1) (by omega);clear hc1;have hx1:=hx.wd.getD (n-1);obtain⟨k,hk⟩:∃k,n=k+1:=⟨n-1,by omega⟩;have hb:=rh hx.wd (vM _) k (by rw[hx.len,hk]);rw[ae]at hb;rw[show n-1=k by omega]at hc2 hx1;generalize(digs v).getD k 0=x at hc2 hx1 hb;have hb32:=pb x hx1;have Hb:=Lib.hid hb.2;have Hk:=Lib.hid hk;have g1:(0:Int)<=(n:Int)-1:=by omega
  have g2:(n:Int)-1<n:=by omega
  have hc3:w.cell? ⟨b1,o1+(n-1),none⟩=some (dh x):=by rw[show n-1=k by omega];exact hc2
  clear hx hb hk hc2
  go_enter func227,ntmps227
  go_wp2
  go_loop [3,4] (fun a i=>∃(j y:Nat),a= .int .i64 j/\i= .int .u32 y/\j+bitLen y=bitLen x/\y<4294967296) (fun _ i=>(intOf i).toNat)
  case atStart=>exact⟨0,x,rfl,rfl,by omega,hx1⟩
  case round=>
   obtain⟨j,y,rfl,rfl,hjy,hy⟩:=hrel;have hj32:j<=32:=by omega
   by_cases hy0:0<y
   ·have hh:=y6 hy0
    have t0:(0:Int)<y:=by omega
    have Hjy:=Lib.hid hjy;have Hh:=Lib.hid hh;clear hjy hh
    go_wp2
    go_round
    case rel=>exact⟨j+1,y/2,by go_num,by go_num,by have:=Hjy.out;have:=Hh.out;omega,by omega⟩
    case measure=>simp[intOf];omega
   ·have hy1:y=0:=by omega
    subst hy1;have hj:j=bitLen x:=by rw[show bitLen 0=0 from rfl]at hjy;omega
    have Hj:=Lib.hid hj;clear hjy hj
    go_wp2
    go_ret
    refine⟨Di ?_,rfl⟩;have h1:=Hj.out;have h2:=Hb.out;have h3:=Hk.out
    first|omega|(rw[IntWalk.i64_in _ (by omega)];omega)|(rw[BK (by omega)];omega)
end Go.Proofs.YtmkggcjajcdlcaaGreatDoor
