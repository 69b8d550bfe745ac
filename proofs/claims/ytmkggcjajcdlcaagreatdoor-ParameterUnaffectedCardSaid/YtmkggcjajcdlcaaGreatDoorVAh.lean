/- Same of the reference, same of the laws. cp of the laws. small of the laws. Parse of the program at the two texts of awake. Sqrt of the program, leaning on what divide gives. -/
import Derived.Test.YtmkggcjajcdlcaaGreatDoorVAg
set_option maxHeartbeats 100000000
set_option linter.all false
open Go.Proofs.Tryz
namespace Go.Proofs.YtmkggcjajcdlcaaGreatDoor
open Go.RowKit
section
attribute [local go_sem ↓] Go.wp_at_zero Go.wp_at_succ
def pr (b:Bool) (w:World) (e:Ending) (w':World):Prop:=e= .returned (.bool b)/\Below w.heap.size w w'
def sameB (na nb:Bool) (xs ys:List Nat):Bool:=na == nb && decide (xs=ys)
theorem x5 (w:World) (a0 a1 b0 b1:Value) (t:TypeId) (W:World) (hW:W=(w.alloc (.cells #[a0,a1] t)).alloc (.cells #[b0,b1] t)):
 (W.cell? ⟨w.heap.size,0,none⟩=some a0/\W.cell? ⟨w.heap.size,1,none⟩=some a1/\W.cell? ⟨w.heap.size+1,0,none⟩=some b0/\W.cell? ⟨w.heap.size+1,1,none⟩=some b1)/\aK w W:=by
 have h0:aK w W:=by rw[hW];exact((aK.refl w).alloc _).alloc _
 refine⟨?_,h0⟩;subst hW;simp[go_sem]
theorem K6 (va vb:Value) (na nb:Bool) (xs ys:List Nat) (w:World) (ha:bH w va na xs) (hb:bH w vb nb ys):
 Calls Tryz.prog 277 #[va,vb] w (pr (sameB na nb xs ys) w):=by
 obtain⟨A,n,c,rfl,hx⟩:=ha;obtain⟨B,m,d,rfl,hy⟩:=hb;obtain⟨W,hW⟩:∃W,W=(w.alloc (.cells #[.bool na, .slice A n c] 36)).alloc (.cells #[.bool nb, .slice B m d] 36):=⟨_,rfl⟩;obtain⟨⟨ca0,ca1,cb0,cb1⟩,hbW⟩:=x5 w _ _ _ _ _ W hW;have Hx:=Lib.hid (hx.ext hbW);have Hy:=Lib.hid (hy.ext hbW);have Hb:=Lib.hid hbW;have hz:=mT hx.wd hy.wd
 by_cases hn:na=nb
 ·by_cases he:xs=ys
  ·have h0:ic xs ys=0:=hz.2 he
   have hs:sameB na nb xs ys=true:=by unfold sameB;rw[hn,he];simp
   rw[hs];have H0:=Lib.hid h0;clear hx hy hz h0 hs he;subst hn
   go_enter func277,ntmps277
   go_wp2_with fail
   rw[<- hW];clear hW
   go_wp2_with (go_at_call 160;(with_reducible refine(l8 A B n m c d xs ys _ Hx.out Hy.out).mono ?_);rw[H0.out];rintro e w' ⟨rfl,k,rfl⟩)
   go_ret
   exact⟨rfl,Below.drewN Hb.out k⟩
  ·have h0:¬ic xs ys=0:=fun e=>he (hz.1 e)
   have hs:sameB na nb xs ys=false:=by unfold sameB;simp[he]
   rw[hs];obtain⟨o,ho⟩:∃o,o=ic xs ys:=⟨_,rfl⟩;rw[<- ho]at h0;have Ho:=Lib.hid ho;clear hx hy hz hs he ho;subst hn
   go_enter func277,ntmps277
   go_wp2_with fail
   rw[<- hW];clear hW
   go_wp2_with (go_at_call 160;(with_reducible refine(l8 A B n m c d xs ys _ Hx.out Hy.out).mono ?_);rw[<- Ho.out];rintro e w' ⟨rfl,k,rfl⟩)
   go_ret
   exact⟨by show Ending.returned (.bool (o == 0))=_;rw[show(o == 0)=false by simp[h0]],Below.drewN Hb.out k⟩
 ·have hs:sameB na nb xs ys=false:=by unfold sameB;simp[hn]
  rw[hs];have hn':nb=!na:=by cases na<;>cases nb<;>simp_all
  clear hx hy hz hs hn;subst hn'
  go_enter func277,ntmps277
  go_wp2_with fail
  rw[<- hW];clear hW
  go_wp2_with fail
  go_ret
  exact⟨rfl,Hb.out⟩
theorem tT (x y:Int):sameB (decide (x<0)) (decide (y<0)) (digs x.natAbs) (digs y.natAbs)=decide (x=y):=by
 unfold sameB
 by_cases h:x=y
 ·subst h;simp
 ·have:¬(decide (x<0)=decide (y<0)/\digs x.natAbs=digs y.natAbs):=by
   rintro⟨h1,h2⟩;have h3:x.natAbs=y.natAbs:=by rw[<- ae x.natAbs,h2,ae]
   have h4:(x<0)↔(y<0):=by simpa using h1
   apply h
   omega
  rw[decide_eq_false h];cases hb:(decide (x<0) == decide (y<0) && decide (digs x.natAbs=digs y.natAbs))
  ·rfl
  ·rw[Bool.and_eq_true]at hb
   exact absurd ⟨by simpa using hb.1,by simpa using hb.2⟩ this
end
end Go.Proofs.YtmkggcjajcdlcaaGreatDoor
