/- divide of the reference, every case. -/
import Derived.Test.YtecjnnhkbmkemaaDoorRDivS
import Derived.Test.YtecjnnhkbmkemaaDoorDivB
import Derived.Test.YtecjnnhkbmkemaaDoorAk
namespace Go.Proofs.YtecjnnhkbmkemaaDoor
open Go.RowKit
attribute [local go_sem ↓] Go.wp_at_zero Go.wp_at_succ

theorem KS.more {w : World} {g1 g2 gq m : Nat} {zs vs qs : List Nat} {wr w2 : World} (h : KS w g1 g2 gq m zs vs qs wr) (hb : Below wr.heap.size wr w2) : KS w g1 g2 gq m zs vs qs w2 :=
  ⟨h.r1.below hb h.r1.lt, h.wv.below hb, h.rq.below hb h.rq.lt, Below.trans h.be (hb.mono h.be.size), h.n1, h.nq, h.d12, h.dq1, h.d2q⟩
theorem zeros_split {n Q : Nat} (h : Q ≤ n) : zeros n = zeros Q ++ zeros (n - Q) := by
  unfold zeros; rw [List.replicate_append_replicate]; congr 1; omega
theorem set_pad {qs : List Nat} {j x : Nat} (zs : List Nat) (h : j < qs.length) : (qs ++ zs).set j x = qs.set j x ++ zs := List.set_append_left _ _ h
theorem trim_pad (qs : List Nat) (k : Nat) : trim (qs ++ zeros k) = digs (val qs) := by
  unfold trim zeros; rw [val_append, val_replicate, Nat.mul_zero, Nat.add_zero]
theorem bitLen_top {b m x s : Nat} (hm : 0 < m) (hl : (digs b).length = m) (hx : (digs b).getD (m - 1) 0 = x) (hb : bitLen x ≤ 32) (hs : s = 32 - bitLen x) : 32 * m = bitLen b + s := by
  obtain ⟨k, rfl⟩ : ∃ k, m = k + 1 := ⟨m - 1, by omega⟩
  rw [Nat.add_sub_cancel] at hx
  have := (bits_top (Wd_digs b) (Nz_digs b) k hl).2
  rw [val_digs, hx] at this
  omega

theorem val_ext : ∀ (a b : List Nat), (∀ j, a.getD j 0 = b.getD j 0) → val a = val b
  | [], b, h => by
    have : val b = 0 := val_zero_of (fun j => by rw [← h j]; simp)
    rw [this]; rfl
  | x :: xs, [], h => val_zero_of (fun j => by rw [h j]; simp)
  | x :: xs, y :: ys, h => by
    have h0 : x = y := by simpa using h 0
    have h1 := val_ext xs ys (fun j => by simpa using h (j + 1))
    simp only [val, h0, h1]
theorem KS.part {w : World} {g1 g2 gq m : Nat} {p us t vs qs : List Nat} {wr : World} {j k : Nat} (h : KS w g1 g2 gq m (p ++ us ++ t) vs qs wr) (hj : p.length = j) (hk : k < us.length) (x : Nat) :
    KS w g1 g2 gq m (p ++ us.set k x ++ t) vs qs (wr.setCell ⟨g1, j + k, none⟩ (W32 x)) := by
  have hr := h.r1.set (j + k) x
  rw [← hj, part_set p us t k x hk, hj] at hr
  exact h.only1 ((Only.refl g1 wr).setCell _ _) hr
theorem take_set_twice (us : List Nat) (k x y : Nat) : (us.set k x).set k y = us.set k y := List.set_set ..
theorem Wd_append {a b : List Nat} (ha : Wd a) (hb : Wd b) : Wd (a ++ b) := by
  intro x hx
  rcases List.mem_append.1 hx with h | h
  · exact ha x h
  · exact hb x h
/-- copying d over the part: the first k words stand -/
structure CP (k : Nat) (us ds : List Nat) (m : Nat) : Prop where
  l : us.length = m
  wd : Wd us
  eq : ∀ j, j < k → us.getD j 0 = ds.getD j 0
theorem CP.step {k m x : Nat} {us ds : List Nat} (h : CP k us ds m) (hk : k < m) (hx : x < 4294967296) (he : ds.getD k 0 = x) : CP (k + 1) (us.set k x) ds m := by
  refine ⟨by rw [List.length_set]; exact h.l, Wd_set h.wd k x hx, fun j hj => ?_⟩
  rcases Nat.lt_or_ge j k with h1 | h1
  · rw [List.getD_eq_getElem?_getD, List.getElem?_set_ne (by omega), ← List.getD_eq_getElem?_getD]
    exact h.eq j h1
  · obtain rfl : j = k := by omega
    have := h.l
    rw [List.getD_eq_getElem?_getD, List.getElem?_set_self (by omega), he]; rfl
theorem CP.fin {m : Nat} {us ds : List Nat} (h : CP m us ds m) (hd : ds.length ≤ m) : val us = val ds := by
  refine val_ext _ _ (fun j => ?_)
  rcases Nat.lt_or_ge j m with h1 | h1
  · exact h.eq j h1
  · have := h.l
    rw [List.getD_eq_getElem?_getD, List.getD_eq_getElem?_getD, List.getElem?_eq_none (by omega), List.getElem?_eq_none (by omega)]

end Go.Proofs.YtecjnnhkbmkemaaDoor
