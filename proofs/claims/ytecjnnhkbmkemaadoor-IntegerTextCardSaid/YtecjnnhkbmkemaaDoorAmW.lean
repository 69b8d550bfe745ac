/- Contracts on rows of words over plain data; the greatest common divisor of both packages. -/
import Derived.Test.YtecjnnhkbmkemaaDoorAmK
import Derived.Test.YtecjnnhkbmkemaaDoorAmL1
namespace Go.Proofs.YtecjnnhkbmkemaaDoor
open Go.RowKit

def dW (xs : List Nat) : DV := .leaf (aW xs)
theorem retA_QR {S : Nat → Prop} {w w' : World} {e : Ending} {q r : Nat} (h : NoWord S w) (hr : RetQR q r w e w') : RetA S (.tup [dW (digs q), dW (digs r)]) w e w' := by
  obtain ⟨A, n, c, B, m, d, rfl, hq, hr, hb⟩ := hr
  refine ⟨_, rfl, ⟨[.slice A n c, .slice B m d], rfl, rfl, fun i x u h1 h2 => ?_⟩, hb⟩
  match i with
  | 0 => simp at h1 h2; subst h1 h2; exact aW_of (h.grow hb) hq
  | 1 => simp at h1 h2; subst h1 h2; exact aW_of (h.grow hb) hr
  | i + 2 => simp at h1
theorem ok_i_trim {xs : List Nat} (hw : Wd xs) : CallOK Tryd.prog 18 [dW xs] (.one (dW (trim xs))) :=
  ⟨enter_of Tryd.func18 rfl rfl, fun S w vs hS hv => by
    match vs, hv with
    | [v], ⟨h, _⟩ =>
      obtain ⟨A, n, c, rfl, hx⟩ := wrd_of h hw
      refine (i_trim A n c xs w hx).mono ?_
      rintro e w' ⟨rfl, rfl⟩
      exact ⟨_, rfl, aW_of hS hx.trim, Below.refl _ _⟩⟩

theorem ok_r1_trim {xs : List Nat} (hw : Wd xs) : CallOK Tryd.prog 50 [dW xs] (.one (dW (trim xs))) :=
  ⟨enter_of Tryd.func50 rfl rfl, fun S w vs hS hv => by
    match vs, hv with
    | [v], ⟨h, _⟩ =>
      obtain ⟨A, n, c, rfl, hx⟩ := wrd_of h hw
      refine (r1_trim A n c xs w hx).mono ?_
      rintro e w' ⟨rfl, rfl⟩
      exact ⟨_, rfl, aW_of hS hx.trim, Below.refl _ _⟩⟩

theorem ok_i_divide {a b : Nat} (h : (digs a).length ≤ 2147483648) (hb : 0 < b) : CallOK Tryd.prog 33 [dW (digs a), dW (digs b)] (.tup [dW (digs (a / b)), dW (digs (a % b))]) :=
  ⟨enter_of Tryd.func33 rfl rfl, fun S w vs hS hv => by
    match vs, hv with
    | [v, u], ⟨h1, h2, _⟩ =>
      obtain ⟨A, n, c, rfl, hx⟩ := wrd_of h1 (Wd_digs _)
      obtain ⟨B, m, d, rfl, hy⟩ := wrd_of h2 (Wd_digs _)
      exact (divOk h hb A n c B m d w hx hy).mono fun e w' he => retA_QR hS he⟩

theorem ok_i_signed {neg : Bool} {xs : List Nat} (hw : Wd xs) {z : Int} (hz : toZ neg xs = z) : CallOK Tryd.prog 26 [dB neg, dW xs] (.one (dZ z)) :=
  ⟨enter_of Tryd.func26 rfl rfl, fun S w vs hS hv => by
    match vs, hv with
    | [v, u], ⟨h1, h2, _⟩ =>
      obtain rfl := av_val h1
      obtain ⟨A, n, c, rfl, hx⟩ := wrd_of h2 hw
      exact (i_signed_z hx hz).mono fun e w' he => retA_int hS he⟩

theorem ok_r1_signed {neg : Bool} {xs : List Nat} (hw : Wd xs) {z : Int} (hz : toZ neg xs = z) : CallOK Tryd.prog 29 [dB neg, dW xs] (.one (dZ z)) :=
  ⟨enter_of Tryd.func29 rfl rfl, fun S w vs hS hv => by
    match vs, hv with
    | [v, u], ⟨h1, h2, _⟩ =>
      obtain rfl := av_val h1
      obtain ⟨A, n, c, rfl, hx⟩ := wrd_of h2 hw
      exact (r1_signed_z hx hz).mono fun e w' he => retA_int hS he⟩

theorem ok_clone {xs : List Nat} (hw : Wd xs) (hl : xs.length ≤ 4294967296) : CallOK Tryd.prog 17 [dW xs] (.one (dW xs)) :=
  ⟨enter_of Tryd.func17 rfl rfl, fun S w vs hS hv => by
    match vs, hv with
    | [v], ⟨h, _⟩ =>
      obtain ⟨A, n, c, rfl, hx⟩ := wrd_of h hw
      refine (clone_u32 A n c xs w hx (by rw [← hx.len]; exact hl)).mono ?_
      rintro e w' ⟨A', n', c', zs, rfl, hz, rfl, hb⟩
      exact ⟨_, rfl, aW_of (hS.grow hb) hz, hb⟩⟩
theorem ok_toUint {xs : List Nat} (hw : Wd xs) (hl : xs.length ≤ 2) : CallOK Tryd.prog 53 [dW xs] (.one (dN .u64 (val xs))) :=
  ⟨enter_of Tryd.func53 rfl rfl, fun S w vs hS hv => by
    match vs, hv with
    | [v], ⟨h, _⟩ =>
      obtain ⟨A, n, c, rfl, hx⟩ := wrd_of h hw
      refine (i_toUint A n c xs w hx (by rw [← hx.len]; exact hl)).mono ?_
      rintro e w' ⟨rfl, hb⟩
      exact ⟨_, rfl, AV.M.val rfl, hb⟩⟩
theorem ok_fromUint (n : Nat) (hn : n < 18446744073709551616) : CallOK Tryd.prog 32 [dN .u64 n] (.one (dW (digs n))) :=
  ⟨enter_of Tryd.func32 rfl rfl, fun S w vs hS hv => by
    match vs, hv with
    | [v], ⟨h, _⟩ =>
      obtain rfl := av_val h
      refine (i_fromUint n hn w).mono ?_
      rintro e w' ⟨A', n', c', zs, rfl, hz, rfl, hb⟩
      exact ⟨_, rfl, aW_of (hS.grow hb) hz, hb⟩⟩

theorem digs_length_zero {n : Nat} : (digs n).length = 0 ↔ n = 0 := by
  constructor
  · intro h; exact digs_eq_nil.1 (List.eq_nil_of_length_eq_zero h)
  · rintro rfl; rw [digs_zero]; rfl
theorem trim_val (xs : List Nat) : trim xs = digs (val xs) := rfl
theorem gcd_step {a b : Nat} : Nat.gcd b (a % b) = Nat.gcd a b := by rw [Nat.gcd_comm a b, Nat.gcd_rec b a, Nat.gcd_comm]

end Go.Proofs.YtecjnnhkbmkemaaDoor
