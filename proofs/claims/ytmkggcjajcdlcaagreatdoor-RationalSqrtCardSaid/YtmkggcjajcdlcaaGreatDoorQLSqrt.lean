/- IntegerSqrt answers true. -/
import Derived.Test.YtmkggcjajcdlcaaGreatDoorQLNorm
import Derived.Test.YtmkggcjajcdlcaaGreatDoorQDivAll
import Derived.Test.YtmkggcjajcdlcaaGreatDoorQAi
set_option maxHeartbeats 100000000
set_option linter.all false
open Go.Proofs.Tryz
namespace Go.Proofs.YtmkggcjajcdlcaaGreatDoor
open Go.RowKit
section
open Go.ChangeShapes Go.WideShapes Go.ChangeAt Go.RowKit Go.Joins
attribute [local go_sem ↓] Go.wp_at_zero Go.wp_at_succ
theorem qU (va:Value) (na:Bool) (xs:List Nat) (w:World) (ha:aL w va na xs) (hs:iM na xs= -1):
 Calls Tryz.prog 156 #[va] w (od 0 7 w):=by
 obtain⟨A,n,c,rfl,hx⟩:=ha;obtain⟨W,hW⟩:∃W,W=(w.alloc (.cells #[.bool na, .slice A n c] 36)).alloc (.cells #[.bool false, .slice none 0 0] 36):=⟨_,rfl⟩;obtain⟨⟨ca0,ca1⟩,⟨cr0,cr1,fr0,fr1⟩,hbW⟩:=dC w _ _ _ _ _ W hW;have hsc:=jO (.agg #[.bool na, .slice A n c]) na xs W (cF (hx.ext hbW));rw[hs]at hsc;have Hsc:=Lib.hid hsc;clear hx hsc hs
 go_enter func156,ntmps156
 go_wp2_with fail
 rw[← hW];clear hW
 go_wp2_with (go_at_call 222;(with_reducible refine Hsc.out.mono ?_);rintro e w1 ⟨rfl,hb1⟩;have hE1:ak W w1:=hb1;have su0:=kc cr0 hE1;have su1:=kc cr1 hE1;have sf0:=kf cr0 fr0 hE1;have sf1:=kf cr1 fr1 hE1)
 exact bodyPost_ret (v:= .tuple #[.agg #[.bool false, .slice none 0 0], .int .i64 7]) (by simp[results,results156,go_sem,su0,su1]) rfl ⟨_,rfl,lY _,by first|exact hbW.trans hE1|exact(hbW.trans hE1).set2 (by omega) _ _⟩
theorem pu (va:Value) (na:Bool) (xs:List Nat) (w:World) (ha:aL w va na xs) (hs:iM na xs=0):
 Calls Tryz.prog 156 #[va] w (od 0 0 w):=by
 obtain⟨A,n,c,rfl,hx⟩:=ha;obtain⟨W,hW⟩:∃W,W=(w.alloc (.cells #[.bool na, .slice A n c] 36)).alloc (.cells #[.bool false, .slice none 0 0] 36):=⟨_,rfl⟩;obtain⟨⟨ca0,ca1⟩,⟨cr0,cr1,fr0,fr1⟩,hbW⟩:=dC w _ _ _ _ _ W hW;have hsc:=jO (.agg #[.bool na, .slice A n c]) na xs W (cF (hx.ext hbW));rw[hs]at hsc;have Hsc:=Lib.hid hsc;clear hx hsc hs
 go_enter func156,ntmps156
 go_wp2_with fail
 rw[← hW];clear hW
 go_wp2_with (go_at_call 222;(with_reducible refine Hsc.out.mono ?_);rintro e w1 ⟨rfl,hb1⟩;have hE1:ak W w1:=hb1;have su0:=kc cr0 hE1;have su1:=kc cr1 hE1;have sf0:=kf cr0 fr0 hE1;have sf1:=kf cr1 fr1 hE1)
 exact bodyPost_ret (v:= .tuple #[.agg #[.bool false, .slice none 0 0], .int .i64 0]) (by simp[results,results156,go_sem,su0,su1]) rfl ⟨_,rfl,lY _,by first|exact hbW.trans hE1|exact(hbW.trans hE1).set2 (by omega) _ _⟩
theorem eW (n:Nat):∃r,r*r≤n∧n<(r+1)*(r+1):=by
 induction n with
 |zero=>exact⟨0,by decide,by decide⟩
 |succ n ih=>
  obtain⟨r,h1,h2⟩:=ih
  by_cases h:n+1<(r+1)*(r+1)
  ·exact⟨r,by omega,h⟩
  ·refine⟨r+1,by omega,?_⟩
   have:(r+1)*(r+1)<(r+1+1)*(r+1+1):=Nat.mul_lt_mul_of_lt_of_le (by omega) (by omega) (by omega)
   omega
theorem ky {n r t:Nat} (h1:r*r≤n) (h2:n<(r+1)*(r+1)) (h3:t*t≤n) (h4:n<(t+1)*(t+1)):r=t:=by
 rcases Nat.lt_trichotomy r t with h|h|h
 ·exfalso
  have:(r+1)*(r+1)≤t*t:=Nat.mul_le_mul h h;omega
 ·exact h
 ·exfalso
  have:(t+1)*(t+1)≤r*r:=Nat.mul_le_mul h h;omega
theorem sK (na:Bool) (xs:List Nat) (hs:xs.length≤2147483) (h0:0≤af na xs):∃r:Nat,r*r≤val xs∧val xs<(r+1)*(r+1)∧af na xs=val xs∧ ∀(v:Value) (w:World),aL w v na xs→Calls Tryz.prog 156 #[v] w (od r 0 w):=by
 obtain⟨r,h1,h2⟩:=eW (val xs)
 have hz:af na xs=val xs:=by
  unfold af at *;cases na
  ·simp
  ·simp only[if_true]at *;omega
 refine⟨r,h1,h2,hz,fun v w h=>?_⟩;rcases Nat.eq_zero_or_pos (val xs)with hv|hv
 ·have hr:r=0:=by
   rcases Nat.eq_zero_or_pos r with h3|h3
   ·exact h3
   ·have:=Nat.mul_le_mul h3 h3
    omega
  rw[hr];exact pu v na xs w h (by unfold iM;rw[if_pos hv])
 ·have hna:na=false:=by
   cases na
   ·rfl
   ·unfold af at hz;simp only[if_true]at hz;omega
  subst hna;refine(xd v xs w h hs (fun b hb=>u9 (by have:=aK h.wd;unfold trim at this;omega) hb) hv).mono ?_;rintro e w' ⟨t,h3,h4,h5⟩;rw[ky h1 h2 h3 h4];exact h5
theorem tH (na:Bool) (xs:List Nat) (h0:af na xs<0) (v:Value) (w:World) (h:aL w v na xs):Calls Tryz.prog 156 #[v] w (od 0 7 w):=
 qU v na xs w h (by rw[oZ,Int.sign_eq_neg_one_of_neg h0])
theorem jX (z:Int):ej (decide (z<0)) (digs z.natAbs)=true:=by
 unfold ej;rw[sx,decide_eq_true rfl]
 by_cases h:z<0
 ·have:0<(digs z.natAbs).length:=by
   rcases Nat.eq_zero_or_pos (digs z.natAbs).length with h1|h1
   ·have:=b5.1 (List.eq_nil_of_length_eq_zero h1);omega
   ·exact h1
  simp[h,this]
 ·simp[h]
theorem uX (k:Nat):0≤(k:Int).sign:=by
 rcases Nat.eq_zero_or_pos k with h|h
 ·subst h;decide
 ·rw[Int.sign_eq_one_of_pos (by omega)];decide
theorem vF {va vb:Value} {a b z:Int} {w:World} (ha:a7 w va a) (hb:a7 w vb b) (hz:a+b=z) (h1:(digs a.natAbs).length≤2147483648) (h2:(digs b.natAbs).length≤2147483648):
 Calls Tryz.prog 197 #[va,vb] w (bc z w):=by
 have:=vc va vb _ _ _ _ w ha hb h1 h2
 rwa[au,au,hz]at this
end
end Go.Proofs.YtmkggcjajcdlcaaGreatDoor
