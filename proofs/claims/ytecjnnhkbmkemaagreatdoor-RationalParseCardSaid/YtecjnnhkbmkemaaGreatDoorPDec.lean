/- Decimal digits: plain law. -/
import Derived.Test.YtecjnnhkbmkemaaGreatDoorPAmS
namespace Go.Proofs.YtecjnnhkbmkemaaGreatDoor
def dg (k : Nat) : UInt8 := UInt8.ofNat (48 + k)
theorem dg_toNat {k : Nat} (h : k < 10) : (dg k).toNat = 48 + k := by unfold dg; rw [UInt8.toNat_ofNat']; omega
def dec (n : Nat) : List UInt8 := if _h : n = 0 then [] else dec (n / 10) ++ [dg (n % 10)]
termination_by n
decreasing_by omega
theorem dec_zero : dec 0 = [] := by rw [dec]; simp
theorem dec_pos {n : Nat} (h : n ≠ 0) : dec n = dec (n / 10) ++ [dg (n % 10)] := by rw [dec]; simp [h]
def fmt (z : Int) : List UInt8 := if z = 0 then [48] else (if z < 0 then [45] else []) ++ dec z.natAbs
def dv (c : UInt8) : Nat := c.toNat - 48
def isD (c : UInt8) : Prop := 48 ≤ c.toNat ∧ c.toNat ≤ 57
instance (c : UInt8) : Decidable (isD c) := inferInstanceAs (Decidable (_ ∧ _))
def num (l : List UInt8) : Nat := l.foldl (fun a c => 10 * a + dv c) 0
theorem num_snoc (l : List UInt8) (c : UInt8) : num (l ++ [c]) = 10 * num l + dv c := by simp [num]
theorem dg_dv {c : UInt8} (h : isD c) : dg (dv c) = c := by
  unfold dg dv
  apply UInt8.toNat_inj.1
  rw [UInt8.toNat_ofNat']
  unfold isD at h
  omega
theorem dv_lt {c : UInt8} (h : isD c) : dv c < 10 := by unfold dv; unfold isD at h; omega
theorem dec_head {n : Nat} (h : n ≠ 0) : ∃ c r, dec n = c :: r ∧ c ≠ 48 := by
  induction n using Nat.strongRecOn with
  | _ n ih =>
    rw [dec_pos h]
    by_cases h1 : n / 10 = 0
    · rw [h1, dec_zero]
      refine ⟨dg (n % 10), [], rfl, fun e => ?_⟩
      have h2 := dg_toNat (show n % 10 < 10 by omega)
      rw [e] at h2
      have : (48 : UInt8).toNat = 48 := rfl
      omega
    · obtain ⟨c, r, e, hc⟩ := ih (n / 10) (by omega) h1
      exact ⟨c, r ++ [dg (n % 10)], by rw [e]; rfl, hc⟩
theorem num_pos {l : List UInt8} (hd : ∀ c ∈ l, isD c) {c : UInt8} {r : List UInt8} (h : l = c :: r) (hc : c ≠ 48) : 0 < num l := by
  have h1 : ∀ (r : List UInt8) (a : Nat), 0 < a → 0 < r.foldl (fun a c => 10 * a + dv c) a := by
    intro r
    induction r with
    | nil => intro a h; exact h
    | cons x r ih => intro a h; exact ih _ (by dsimp only; omega)
  subst h
  have h2 := hd c (by simp)
  refine h1 r _ ?_
  dsimp only
  have h3 : c.toNat ≠ 48 := fun e => hc (UInt8.toNat_inj.1 e)
  unfold dv
  unfold isD at h2
  omega
theorem dec_num : ∀ (n : Nat) (l : List UInt8), l.length = n → (∀ c ∈ l, isD c) → (∀ c r, l = c :: r → c ≠ 48) → dec (num l) = l := by
  intro n
  induction n with
  | zero => intro l hl _ _; rw [List.eq_nil_of_length_eq_zero hl]; exact dec_zero
  | succ n ih =>
    intro l hl hd hh
    obtain ⟨l', c, rfl⟩ : ∃ l' c, l = l' ++ [c] := by
      rcases List.eq_nil_or_concat l with h | ⟨l', c, h⟩
      · subst h; simp at hl
      · exact ⟨l', c, by simpa using h⟩
    have hc := hd c (by simp)
    have hc10 := dv_lt hc
    have hl' : l'.length = n := by simpa using hl
    rw [num_snoc]
    have hn0 : 10 * num l' + dv c ≠ 0 := by
      cases l' with
      | nil =>
        have h1 := hh c [] rfl
        have h3 : c.toNat ≠ 48 := fun e => h1 (UInt8.toNat_inj.1 e)
        unfold dv
        unfold isD at hc
        omega
      | cons x r =>
        have := num_pos (l := x :: r) (fun c hc => hd c (by simp at hc ⊢; rcases hc with h | h <;> simp [h])) rfl (hh x (r ++ [c]) rfl)
        omega
    rw [dec_pos hn0, show (10 * num l' + dv c) / 10 = num l' by omega, show (10 * num l' + dv c) % 10 = dv c by omega, dg_dv hc]
    congr 1
    refine ih l' hl' (fun c hc => hd c (by simp [hc])) (fun x r e => ?_)
    subst e
    exact hh x (r ++ [c]) rfl
theorem dec_len : ∀ (k n : Nat), n < 10 ^ k → (dec n).length ≤ k
  | 0, n, h => by simp at h; subst h; rw [dec_zero]; simp
  | k + 1, n, h => by
    by_cases h0 : n = 0
    · subst h0; rw [dec_zero]; simp
    · rw [dec_pos h0, List.length_append]
      have := dec_len k (n / 10) (by rw [Nat.pow_succ] at h; omega)
      simp; omega
def okT (neg : Bool) (ds : List UInt8) : Prop := ds ≠ [] ∧ (∀ c ∈ ds, isD c) ∧ ((∀ c r, ds = c :: r → c ≠ 48) ∨ (ds.length = 1 ∧ neg = false))
def sgnd (neg : Bool) (n : Nat) : Int := if neg then -(n : Int) else n
def sg (neg : Bool) (ds : List UInt8) : List UInt8 := if neg then 45 :: ds else ds
theorem fmt_ok {neg : Bool} {ds : List UInt8} (h : okT neg ds) : fmt (sgnd neg (num ds)) = sg neg ds := by
  obtain ⟨h1, h2, h3⟩ := h
  by_cases hh : ∀ c r, ds = c :: r → c ≠ 48
  · obtain ⟨c, r, e⟩ : ∃ c r, ds = c :: r := by cases ds with | nil => exact absurd rfl h1 | cons c r => exact ⟨c, r, rfl⟩
    have hp := num_pos h2 e (hh c r e)
    have hdn := dec_num _ ds rfl h2 hh
    unfold fmt sgnd sg
    cases neg
    · simp only [Bool.false_eq_true, if_false]
      rw [if_neg (by omega), if_neg (by omega), Int.natAbs_natCast, hdn]
      rfl
    · simp only [if_true]
      rw [if_neg (by omega), if_pos (by omega), Int.natAbs_neg, Int.natAbs_natCast, hdn]
      rfl
  · rcases h3 with h3 | ⟨h3, h4⟩
    · exact absurd h3 hh
    · subst h4
      match ds, h3 with
      | [c], _ =>
        have hc : c = 48 := by
          apply Classical.byContradiction
          intro hne
          exact hh fun x r e => by cases e; exact hne
        subst hc
        rfl
theorem ok_of_fmt {neg : Bool} {ds : List UInt8} (hd : ∀ c ∈ ds, isD c) (h : fmt (sgnd neg (num ds)) = sg neg ds) : okT neg ds := by
  have h45 : neg = false → ∀ l : List UInt8, ds ≠ 45 :: l := fun _ l e => by
    have := hd 45 (by rw [e]; simp)
    unfold isD at this
    have h2 : (45 : UInt8).toNat = 45 := rfl
    omega
  by_cases hz : num ds = 0
  · have h0 : sgnd neg (num ds) = 0 := by unfold sgnd; rw [hz]; cases neg <;> simp
    rw [h0] at h
    have h1 : [48] = sg neg ds := h
    unfold sg at h1
    cases neg
    · simp only [Bool.false_eq_true, if_false] at h1
      rw [← h1] at hd ⊢
      exact ⟨by simp, hd, .inr ⟨rfl, rfl⟩⟩
    · simp only [if_true, List.cons.injEq] at h1
      exact absurd h1.1 (by decide)
  · obtain ⟨c, r, e, hc⟩ := dec_head hz
    have key : ds = dec (num ds) := by
      unfold fmt sgnd sg at h
      cases neg
      · simp only [Bool.false_eq_true, if_false] at h
        rw [if_neg (by omega), if_neg (by omega), Int.natAbs_natCast] at h
        exact h.symm
      · simp only [if_true] at h
        rw [if_neg (by omega), if_pos (by omega), Int.natAbs_neg, Int.natAbs_natCast] at h
        simpa using h.symm
    refine ⟨fun e2 => ?_, hd, .inl fun x q e2 => ?_⟩
    · rw [← key, e2] at e; cases e
    · rw [← key, e2] at e; cases e; exact hc
end Go.Proofs.YtecjnnhkbmkemaaGreatDoor
