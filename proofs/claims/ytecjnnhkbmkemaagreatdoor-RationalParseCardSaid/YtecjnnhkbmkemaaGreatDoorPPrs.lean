/- What Parse answers: plain law. -/
import Derived.Test.YtecjnnhkbmkemaaGreatDoorPDec
namespace Go.Proofs.YtecjnnhkbmkemaaGreatDoor
def pneg : List UInt8 → Bool
  | c :: _ => c == 45
  | [] => false
def pds : List UInt8 → List UInt8
  | c :: r => if c == 45 then r else c :: r
  | [] => []
theorem sg_p (s : List UInt8) : sg (pneg s) (pds s) = s := by
  cases s with
  | nil => rfl
  | cons c r =>
    unfold sg pneg pds
    by_cases h : c = 45
    · subst h; rfl
    · have : (c == 45) = false := beq_eq_false_iff_ne.2 h
      simp [this]
theorem pds_len (s : List UInt8) : (pds s).length ≤ s.length := by
  cases s with
  | nil => exact Nat.le_refl _
  | cons c r => show (if (c == 45) = true then r else c :: r).length ≤ _; split <;> simp
theorem pds_lt (s : List UInt8) : decide ((pds s).length < s.length) = pneg s := by
  cases s with
  | nil => rfl
  | cons c r =>
    unfold pds pneg
    by_cases h : c = 45
    · subst h; simp
    · have : (c == 45) = false := beq_eq_false_iff_ne.2 h
      simp [this]
theorem num_lt : ∀ (n : Nat) (l : List UInt8), l.length = n → (∀ c ∈ l, isD c) → num l < 10 ^ n := by
  intro n
  induction n with
  | zero => intro l hl _; rw [List.eq_nil_of_length_eq_zero hl]; decide
  | succ n ih =>
    intro l hl hd
    obtain ⟨l', c, rfl⟩ : ∃ l' c, l = l' ++ [c] := by
      rcases List.eq_nil_or_concat l with h | ⟨l', c, h⟩
      · subst h; simp at hl
      · exact ⟨l', c, by simpa using h⟩
    have := ih l' (by simpa using hl) (fun c hc => hd c (by simp [hc]))
    have hc := dv_lt (hd c (by simp))
    rw [num_snoc, Nat.pow_succ]
    omega
theorem num_fit {l : List UInt8} (hd : ∀ c ∈ l, isD c) : (digs (num l)).length ≤ l.length := by
  refine digs_length_le (Nat.lt_of_lt_of_le (num_lt _ l rfl hd) ?_)
  exact Nat.pow_le_pow_left (by decide) _
theorem digs_mul10 {n k : Nat} (h : (digs n).length ≤ k) {m : Nat} (hm : m ≤ 10 * n + 10) : (digs m).length ≤ k + 1 := by
  refine digs_length_le (Nat.lt_of_le_of_lt hm ?_)
  have := lt_of_digs h
  rw [Nat.pow_succ]
  omega
def pok (s : List UInt8) : Prop := s.length ≤ 65536 ∧ okT (pneg s) (pds s)
open Classical in
noncomputable def pz (s : List UInt8) : Int × Int := if pok s then (sgnd (pneg s) (num (pds s)), 0) else (0, 2)
theorem pz_ok {s : List UInt8} (h : pok s) : pz s = (sgnd (pneg s) (num (pds s)), 0) := by unfold pz; rw [if_pos h]
theorem pz_bad {s : List UInt8} (h : ¬ pok s) : pz s = (0, 2) := by unfold pz; rw [if_neg h]
theorem e0 : aZ 0 = [.val (.bool false), .sl 0 []] := by
  unfold aZ aI aW
  rw [show (0 : Int).natAbs = 0 from rfl, digs_zero]
  rfl
end Go.Proofs.YtecjnnhkbmkemaaGreatDoor
