/- Pow of the reference. Valid, Int64 and Bits of both packages. Int64 of both packages. Bits of the reference. -/
import Derived.Test.YtnchbpoopnjghaaGreatDoorCAj
set_option maxHeartbeats 100000000
set_option maxRecDepth 100000
set_option linter.all false
open Go.Proofs.Tryz
namespace Go.Proofs.YtnchbpoopnjghaaGreatDoor
open Go.RowKit
section
attribute [local go_sem ↓] Go.wp_at_zero Go.wp_at_succ
def d4 (na:Bool) (xs:List Nat):Bool:=decide ((trim xs).length=xs.length) && (!na || decide (0<xs.length))
theorem GS {xs:List Nat} (hw:Wd xs) (h:0<xs.length):(trim xs).length=xs.length↔xs.getD (xs.length-1) 0≠0:=by
 constructor
 ·intro h1 h2
  have h3:=jK (xs:=xs) (k:=xs.length) (Nat.le_refl _) h h2;rw[List.take_length]at h3;have h4:=b4 (xs:=xs.take (xs.length-1)) (hw.take _);rw[h3,h1,List.length_take]at h4;omega
 ·intro h1
  have h2:=gt hw (k:=xs.length) (Nat.le_refl _) (.inr h1);rw[List.take_length]at h2;rw[h2]
theorem xg (A:Option Addr) (c:Nat) (na:Bool) (xs:List Nat) (w:World) (n:Nat) (hn:n=0) (hx:bc w A n c xs):
 Calls Tryz.prog 230 #[.agg #[.bool na, .slice A n c]] w (CW (!na) w):=by
 obtain⟨W,hW⟩:∃W,W=w.alloc (.cells #[.bool na, .slice A n c] 36):=⟨_,rfl⟩;obtain⟨⟨ca0,ca1⟩,⟨fa0,fa1⟩,hbW⟩:=OX w _ _ _ W hW;subst hn;clear hx
 subst hW;cases na
 all_goals(
  go_enter func230,ntmps230
  go_wp2_with fail
  go_ret
  exact⟨rfl,hbW⟩)
theorem yL (A:Option Addr) (c:Nat) (na:Bool) (xs:List Nat) (w:World) (n x:Nat) (hn:0<n) (hx0:xs.getD (n-1) 0=x) (hx1:x≠0) (hx:bc w A n c xs):
 Calls Tryz.prog 230 #[.agg #[.bool na, .slice A n c]] w (CW true w):=by
 obtain⟨W,hW⟩:∃W,W=w.alloc (.cells #[.bool na, .slice A n c] 36):=⟨_,rfl⟩;obtain⟨⟨ca0,ca1⟩,⟨fa0,fa1⟩,hbW⟩:=OX w _ _ _ W hW;have hlim:n<=9223372036854775807:=Nat.le_trans hx.cap hx.lim;have hlx:=hx.ext hbW;obtain⟨b1,o1,rfl,-,hc1⟩:=hlx.at (by omega);have hc1:=hc1 (n-1) (by omega);rw[hx0]at hc1;have g1:(0:Int)<=(n:Int)-1:=(by omega);have g2:(n:Int)-1<n:=(by omega);have t0:((n:Int) == 0)=false:=(by simp;omega);have t1:(0:Int)<n:=(by omega);have hlt:=hx.wd.getD (n-1);rw[hx0]at hlt;clear hx hlx hx0;have t2:((x:Int) != 0)=true:=(by simp;omega)
 subst hW;cases na
 all_goals(
  go_enter func230,ntmps230
  go_wp2_with fail
  go_ret
  exact⟨rfl,hbW⟩)
theorem yC (A:Option Addr) (c:Nat) (na:Bool) (xs:List Nat) (w:World) (n x:Nat) (hn:0<n) (hx0:xs.getD (n-1) 0=x) (hx1:x=0) (hx:bc w A n c xs):
 Calls Tryz.prog 230 #[.agg #[.bool na, .slice A n c]] w (CW false w):=by
 obtain⟨W,hW⟩:∃W,W=w.alloc (.cells #[.bool na, .slice A n c] 36):=⟨_,rfl⟩;obtain⟨⟨ca0,ca1⟩,⟨fa0,fa1⟩,hbW⟩:=OX w _ _ _ W hW;have hlim:n<=9223372036854775807:=Nat.le_trans hx.cap hx.lim;have hlx:=hx.ext hbW;obtain⟨b1,o1,rfl,-,hc1⟩:=hlx.at (by omega);have hc1:=hc1 (n-1) (by omega);rw[hx0]at hc1;have g1:(0:Int)<=(n:Int)-1:=(by omega);have g2:(n:Int)-1<n:=(by omega);have t0:((n:Int) == 0)=false:=(by simp;omega);have t1:(0:Int)<n:=(by omega);have hlt:=hx.wd.getD (n-1);rw[hx0]at hlt;clear hx hlx hx0;subst hx1
 subst hW;cases na
 all_goals(
  go_enter func230,ntmps230
  go_wp2_with fail
  go_ret
  exact⟨rfl,hbW⟩)
theorem KQ (va:Value) (na:Bool) (xs:List Nat) (w:World) (ha:dh w va na xs):Calls Tryz.prog 230 #[va] w (CW (d4 na xs) w):=by
 obtain⟨A,n,c,rfl,hx⟩:=ha;have hl:=hx.len
 by_cases h0:n=0
 ·have e:d4 na xs=!na:=by
   have hxs:xs=[]:=List.eq_nil_of_length_eq_zero (by omega);subst hxs;unfold d4 trim;rw[KG,ay]
   simp
  rw[e];exact xg A c na xs w n h0 hx
 ·have ht:=GS hx.wd (by omega)
  have hp:decide (0<xs.length)=true:=decide_eq_true (by omega)
  by_cases h1:xs.getD (n-1) 0=0
  ·have e:d4 na xs=false:=by
    unfold d4;rw[hl]at ht ⊢;rw[decide_eq_false (fun h=>ht.1 h h1)];rfl
   rw[e];exact yC A c na xs w n _ (by omega) rfl h1 hx
  ·have e:d4 na xs=true:=by
    unfold d4;rw[hp];rw[hl]at ht ⊢;rw[decide_eq_true (ht.2 h1)]
    simp
   rw[e];exact yL A c na xs w n _ (by omega) rfl h1 hx
end
end Go.Proofs.YtnchbpoopnjghaaGreatDoor
