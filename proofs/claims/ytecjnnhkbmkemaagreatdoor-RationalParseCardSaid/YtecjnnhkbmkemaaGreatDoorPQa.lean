/- Rational numbers in lowest terms: plain law. Texts of rational numbers: plain law. Rational numbers as plain data; how great they are. The program's rational numbers over plain data: all but the texts. The program's and the reference's rational arithmetic over plain data. -/
import Derived.Test.YtecjnnhkbmkemaaGreatDoorPAa
import Derived.Test.YtecjnnhkbmkemaaGreatDoorPChk
import Derived.Test.YtecjnnhkbmkemaaGreatDoorPAmZ
namespace Go.Proofs.YtecjnnhkbmkemaaGreatDoor
theorem rat_eq {q : Rat} {n : Int} {d : Nat} (hd : 0 < d) (hc : Nat.gcd n.natAbs d = 1) (h : n * q.den = q.num * d) : q.num = n ∧ q.den = d := by
  have hp : (⟨n, d, by omega, hc⟩ : Rat) = q := by
    have h1 := Rat.num_divInt_den (⟨n, d, by omega, hc⟩ : Rat)
    have h2 := Rat.num_divInt_den q
    rw [← h1, ← h2, Rat.divInt_eq_divInt_iff (by show (d : Int) ≠ 0; omega) (by have := q.den_nz; omega)]
    exact h
  exact ⟨by rw [← hp], by rw [← hp]⟩
def gz (n d : Int) : Int := if d < 0 then -((Nat.gcd n.natAbs d.natAbs : Nat) : Int) else (Nat.gcd n.natAbs d.natAbs : Nat)
theorem gz_ne {n d : Int} (h : d ≠ 0) : gz n d ≠ 0 := by
  have : 0 < Nat.gcd n.natAbs d.natAbs := Nat.gcd_pos_of_pos_right _ (by omega)
  unfold gz; split <;> omega
theorem fdiv_of_mul {a b c : Int} (h : b ≠ 0) (e : a = b * c) : a.fdiv b = c := by rw [e]; exact Int.mul_fdiv_cancel_left _ h
theorem lowest_p {n d : Int} (hd : d ≠ 0) : n.fdiv (gz n d) = (Rat.divInt n d).num ∧ d.fdiv (gz n d) = ((Rat.divInt n d).den : Int) ∧ n = gz n d * (Rat.divInt n d).num ∧ d = gz n d * ((Rat.divInt n d).den : Int) := by
  have hg0 := gz_ne (n := n) hd
  obtain ⟨a, ha⟩ : ((Nat.gcd n.natAbs d.natAbs : Nat) : Int) ∣ n := Int.ofNat_dvd_left.2 (Nat.gcd_dvd_left _ _)
  obtain ⟨b, hb⟩ : ((Nat.gcd n.natAbs d.natAbs : Nat) : Int) ∣ d := Int.ofNat_dvd_left.2 (Nat.gcd_dvd_right _ _)
  have hp : 0 < Nat.gcd n.natAbs d.natAbs := Nat.gcd_pos_of_pos_right _ (by omega)
  obtain ⟨G, hG⟩ : ∃ G, Nat.gcd n.natAbs d.natAbs = G := ⟨_, rfl⟩
  have hG' := hG
  rw [hG] at ha hb hp
  have hab : Nat.gcd a.natAbs b.natAbs = 1 := by
    rw [ha, hb, Int.natAbs_mul, Int.natAbs_mul, Int.natAbs_natCast, Nat.gcd_mul_left] at hG
    exact Nat.eq_of_mul_eq_mul_left hp (by omega)
  obtain ⟨s, hs1, hs2⟩ : ∃ s : Int, gz n d = G * s ∧ (s = 1 ∧ 0 < b ∨ s = -1 ∧ b < 0) := by
    unfold gz
    rw [hG']
    have hb0 : b ≠ 0 := by rintro rfl; simp at hb; omega
    split
    · refine ⟨-1, by omega, .inr ⟨rfl, ?_⟩⟩
      rcases Int.lt_trichotomy b 0 with h | h | h
      · exact h
      · omega
      · have : 0 < (G : Int) * b := Int.mul_pos (by omega) h
        omega
    · refine ⟨1, by omega, .inl ⟨rfl, ?_⟩⟩
      rcases Int.lt_trichotomy b 0 with h | h | h
      · have : 0 < (G : Int) * (-b) := Int.mul_pos (by omega) (by omega)
        rw [Int.mul_neg] at this
        omega
      · omega
      · exact h
  have hq : (Rat.divInt n d).num = s * a ∧ (Rat.divInt n d).den = (s * b).toNat := by
    refine rat_eq ?_ ?_ ?_
    · rcases hs2 with ⟨rfl, h⟩ | ⟨rfl, h⟩ <;> omega
    · have e : (s * b).toNat = b.natAbs := by rcases hs2 with ⟨rfl, h⟩ | ⟨rfl, h⟩ <;> omega
      have e2 : (s * a).natAbs = a.natAbs := by rcases hs2 with ⟨rfl, h⟩ | ⟨rfl, h⟩ <;> omega
      rw [e, e2, hab]
    · have h1 := Rat.num_divInt_den (Rat.divInt n d)
      have h0 : ((Rat.divInt n d).den : Int) ≠ 0 := by have := (Rat.divInt n d).den_nz; omega
      have h2 := (Rat.divInt_eq_divInt_iff h0 hd).1 h1
      have h3 : ((s * b).toNat : Int) = s * b := by
        have : 0 ≤ s * b := by rcases hs2 with ⟨rfl, h⟩ | ⟨rfl, h⟩ <;> omega
        omega
      rw [h3]
      generalize (Rat.divInt n d).num = p at *
      generalize ((Rat.divInt n d).den : Int) = q at *
      rw [ha, hb] at h2
      have h4 : (G : Int) * (p * b) = G * (a * q) := by
        rw [← Int.mul_assoc, Int.mul_comm (G : Int) p, Int.mul_assoc, h2, Int.mul_assoc]
      have h5 := Int.eq_of_mul_eq_mul_left (by omega) h4
      rw [Int.mul_assoc, ← h5]
      simp [Int.mul_left_comm, Int.mul_comm]
  have hss : s * s = 1 := by rcases hs2 with ⟨rfl, _⟩ | ⟨rfl, _⟩ <;> rfl
  have e1 : n = gz n d * (Rat.divInt n d).num := by
    rw [hs1, hq.1, Int.mul_assoc, ← Int.mul_assoc s s a, hss, Int.one_mul]; exact ha
  have e2 : d = gz n d * ((Rat.divInt n d).den : Int) := by
    have h3 : ((s * b).toNat : Int) = s * b := by
      have : 0 ≤ s * b := by rcases hs2 with ⟨rfl, h⟩ | ⟨rfl, h⟩ <;> omega
      omega
    rw [hs1, hq.2, h3, Int.mul_assoc, ← Int.mul_assoc s s b, hss, Int.one_mul]; exact hb
  exact ⟨fdiv_of_mul hg0 e1, fdiv_of_mul hg0 e2, e1, e2⟩
theorem divInt_num_den (q : Rat) : Rat.divInt q.num q.den = q := Rat.num_divInt_den q
theorem den_pos (q : Rat) : 0 < (q.den : Int) := by have := q.den_nz; omega
theorem add_divInt (a b : Rat) : Rat.divInt (a.num * b.den + b.num * a.den) (a.den * b.den) = a + b := by
  have h := Rat.divInt_add_divInt a.num b.num (d₁ := a.den) (d₂ := b.den) (by have := den_pos a; omega) (by have := den_pos b; omega)
  rw [Rat.num_divInt_den, Rat.num_divInt_den] at h
  exact h.symm
theorem mul_divInt (a b : Rat) : Rat.divInt (a.num * b.num) (a.den * b.den) = a * b := by
  have h := Rat.divInt_mul_divInt a.num b.num (d₁ := a.den) (d₂ := b.den)
  rw [Rat.num_divInt_den, Rat.num_divInt_den] at h
  exact h.symm
theorem of_den_one {q : Rat} {n : Int} (h : q = n) : q.num = n ∧ q.den = 1 := by subst h; exact ⟨rfl, rfl⟩
theorem eq_of_den {q : Rat} (h : q.den = 1) : q = (q.num : Rat) := Rat.ext rfl h
theorem add_one {a b : Rat} (ha : a.den = 1) (hb : b.den = 1) : (a + b).num = a.num + b.num ∧ (a + b).den = 1 := by
  refine of_den_one ?_
  rw [eq_of_den ha, eq_of_den hb]
  simp
theorem floor_fdiv (a : Rat) : a.num.fdiv a.den = a.floor := by
  rw [Rat.floor_def, Int.fdiv_eq_ediv_of_nonneg]
  have := den_pos a; omega
end Go.Proofs.YtecjnnhkbmkemaaGreatDoor
namespace Go.Proofs.YtecjnnhkbmkemaaGreatDoor
def isDb (c : UInt8) : Bool := decide (isD c)
theorem isDb_iff {c : UInt8} : isDb c = true ↔ isD c := decide_eq_true_iff
def dpre (t : List UInt8) : List UInt8 := t.takeWhile isDb
def drst (t : List UInt8) : List UInt8 := t.dropWhile isDb
theorem dpre_rst (t : List UInt8) : dpre t ++ drst t = t := List.takeWhile_append_dropWhile
theorem dpre_isD (t : List UInt8) : ∀ c ∈ dpre t, isD c := fun c hc => isDb_iff.1 (List.all_eq_true.1 (List.all_takeWhile (p := isDb) (l := t)) c hc)
theorem dpre_all {a b : List UInt8} (h : ∀ c ∈ a, isD c) : dpre (a ++ b) = a ++ dpre b ∧ drst (a ++ b) = drst b := by
  induction a with
  | nil => exact ⟨rfl, rfl⟩
  | cons x a ih =>
    have hx := isDb_iff.2 (h x (by simp))
    obtain ⟨h1, h2⟩ := ih (fun c hc => h c (by simp [hc]))
    unfold dpre drst at *
    rw [List.cons_append, List.takeWhile_cons_of_pos hx, List.dropWhile_cons_of_pos hx, h1, h2]
    exact ⟨rfl, rfl⟩
theorem dpre_stop {c : UInt8} {b : List UInt8} (h : ¬ isD c) : dpre (c :: b) = [] ∧ drst (c :: b) = c :: b := by
  have hc : ¬ isDb c = true := fun e => h (isDb_iff.1 e)
  unfold dpre drst
  exact ⟨List.takeWhile_cons_of_neg hc, List.dropWhile_cons_of_neg hc⟩
theorem dpre_self {a : List UInt8} (h : ∀ c ∈ a, isD c) : dpre a = a ∧ drst a = [] := by
  have := dpre_all (b := []) h
  simpa [dpre, drst] using this
theorem drst_head {t : List UInt8} {c : UInt8} {b : List UInt8} (h : drst t = c :: b) : ¬ isD c := by
  intro hc
  unfold drst at h
  have := List.head?_dropWhile_not (p := isDb) (l := t)
  rw [h] at this
  simp [isDb_iff.2 hc] at this
theorem split_nd {a : List UInt8} (h : ¬ ∀ c ∈ a, isD c) : ∃ p c r, a = p ++ c :: r ∧ (∀ x ∈ p, isD x) ∧ ¬ isD c := by
  have e := dpre_rst a
  cases hr : drst a with
  | nil =>
    rw [hr, List.append_nil] at e
    exact absurd (fun c hc => dpre_isD a c (by rw [e]; exact hc)) h
  | cons c r => exact ⟨dpre a, c, r, by rw [← hr, e], dpre_isD a, drst_head hr⟩
open Classical in
noncomputable def posQ (t : List UInt8) : Option Rat :=
  if okT false (dpre t) then
    match drst t with
    | [] => some ((num (dpre t) : Int) : Rat)
    | c :: b =>
      if c = 46 then (if b ≠ [] ∧ (∀ x ∈ b, isD x) then some (Rat.divInt ((num (dpre t) * 10 ^ b.length + num b : Nat) : Int) ((10 ^ b.length : Nat) : Int)) else none)
      else if c = 47 then (if okT false b ∧ num b ≠ 0 ∧ num b ≠ 1 ∧ Nat.gcd (num (dpre t)) (num b) = 1 then some (Rat.divInt (num (dpre t) : Int) (num b : Int)) else none)
      else none
  else none
theorem nd47 : ¬ isD 47 := by decide
theorem nd46 : ¬ isD 46 := by decide
theorem okT_all {a : List UInt8} (h : okT false a) : ∀ c ∈ a, isD c := h.2.1
open Classical in
theorem pos_slash {a b : List UInt8} (ha : 47 ∉ a) : posQ (a ++ 47 :: b) = if okT false a ∧ okT false b ∧ num b ≠ 0 ∧ num b ≠ 1 ∧ Nat.gcd (num a) (num b) = 1 then some (Rat.divInt (num a : Int) (num b : Int)) else none := by
  by_cases h : ∀ c ∈ a, isD c
  · have h1 := dpre_all (b := 47 :: b) h
    obtain ⟨h2, h3⟩ := dpre_stop (b := b) nd47
    rw [h2, h3, List.append_nil] at h1
    unfold posQ
    rw [h1.1, h1.2]
    by_cases ho : okT false a
    · rw [if_pos ho]
      dsimp only
      rw [if_neg (by decide), if_pos rfl]
      by_cases hb : okT false b ∧ num b ≠ 0 ∧ num b ≠ 1 ∧ Nat.gcd (num a) (num b) = 1
      · rw [if_pos hb, if_pos ⟨ho, hb⟩]
      · rw [if_neg hb, if_neg (fun h => hb h.2)]
    · rw [if_neg ho, if_neg (fun h => ho h.1)]
  · rw [if_neg (fun e => h (okT_all e.1))]
    obtain ⟨p, c, r, rfl, hp, hc⟩ := split_nd h
    have h1 := dpre_all (b := c :: (r ++ 47 :: b)) hp
    obtain ⟨h2, h3⟩ := dpre_stop (b := r ++ 47 :: b) hc
    rw [h2, h3, List.append_nil] at h1
    unfold posQ
    rw [show p ++ c :: r ++ 47 :: b = p ++ c :: (r ++ 47 :: b) by simp, h1.1, h1.2]
    split
    · dsimp only
      split
      · rw [if_neg (fun e => nd47 (e.2 47 (by simp)))]
      · rw [if_neg (fun e => ha (by rw [e]; simp))]
    · rfl
open Classical in
theorem pos_dot {a b : List UInt8} (h47 : 47 ∉ a ++ 46 :: b) (ha : 46 ∉ a) : posQ (a ++ 46 :: b) = if okT false a ∧ b ≠ [] ∧ (∀ x ∈ b, isD x) then some (Rat.divInt ((num a * 10 ^ b.length + num b : Nat) : Int) ((10 ^ b.length : Nat) : Int)) else none := by
  by_cases h : ∀ c ∈ a, isD c
  · have h1 := dpre_all (b := 46 :: b) h
    obtain ⟨h2, h3⟩ := dpre_stop (b := b) nd46
    rw [h2, h3, List.append_nil] at h1
    unfold posQ
    rw [h1.1, h1.2]
    by_cases ho : okT false a
    · rw [if_pos ho]
      dsimp only
      rw [if_pos rfl]
      by_cases hb : b ≠ [] ∧ (∀ x ∈ b, isD x)
      · rw [if_pos hb, if_pos ⟨ho, hb⟩]
      · rw [if_neg hb, if_neg (fun h => hb h.2)]
    · rw [if_neg ho, if_neg (fun h => ho h.1)]
  · rw [if_neg (fun e => h (okT_all e.1))]
    obtain ⟨p, c, r, rfl, hp, hc⟩ := split_nd h
    have h1 := dpre_all (b := c :: (r ++ 46 :: b)) hp
    obtain ⟨h2, h3⟩ := dpre_stop (b := r ++ 46 :: b) hc
    rw [h2, h3, List.append_nil] at h1
    unfold posQ
    rw [show p ++ c :: r ++ 46 :: b = p ++ c :: (r ++ 46 :: b) by simp, h1.1, h1.2]
    split
    · dsimp only
      rw [if_neg (fun e => ha (by rw [e]; simp)), if_neg (fun e => h47 (by rw [e]; simp))]
    · rfl
open Classical in
theorem pos_none {a : List UInt8} (h47 : 47 ∉ a) (h46 : 46 ∉ a) : posQ a = if okT false a then some ((num a : Int) : Rat) else none := by
  by_cases h : ∀ c ∈ a, isD c
  · have h1 := dpre_self h
    unfold posQ
    rw [h1.1, h1.2]
  · rw [if_neg (fun e => h (okT_all e))]
    obtain ⟨p, c, r, rfl, hp, hc⟩ := split_nd h
    have h1 := dpre_all (b := c :: r) hp
    obtain ⟨h2, h3⟩ := dpre_stop (b := r) hc
    rw [h2, h3, List.append_nil] at h1
    unfold posQ
    rw [h1.1, h1.2]
    split
    · dsimp only
      rw [if_neg (fun e => h46 (by rw [e]; simp)), if_neg (fun e => h47 (by rw [e]; simp))]
    · rfl
open Classical in
noncomputable def parseQ (s : List UInt8) : Option Rat :=
  if s.length ≤ 65536 then
    match posQ (pds s) with
    | none => none
    | some q => if pneg s = true then (if q = 0 then none else some (-q)) else some q
  else none
def fmtQ (q : Rat) : List UInt8 := if q.den = 1 then fmt q.num else fmt q.num ++ 47 :: fmt q.den
theorem pds_sg {b : Bool} {l : List UInt8} (h : ∀ c r, l = c :: r → isD c) : pds ((if b = true then [45] else []) ++ l) = l ∧ pneg ((if b = true then [45] else []) ++ l) = b := by
  cases b
  · simp only [Bool.false_eq_true, if_false, List.nil_append]
    cases l with
    | nil => exact ⟨rfl, rfl⟩
    | cons c r =>
      have h1 := h c r rfl
      have : (c == 45) = false := beq_eq_false_iff_ne.2 (fun e => by subst e; exact absurd h1 (by decide))
      exact ⟨by show (if (c == 45) = true then r else c :: r) = _; rw [this]; rfl, this⟩
  · exact ⟨rfl, rfl⟩
def tl0 (l : List UInt8) : List UInt8 := l.dropWhile (· == 48)
theorem num_tl0 (l : List UInt8) : num (tl0 l) = num l := by
  induction l with
  | nil => rfl
  | cons c l ih =>
    unfold tl0 at *
    by_cases h : c = 48
    · subst h; rw [List.dropWhile_cons_of_pos rfl, ih]; rfl
    · rw [List.dropWhile_cons_of_neg (by simpa using h)]
theorem tl0_ok {l : List UInt8} (h : ∀ c ∈ l, isD c) (hn : tl0 l ≠ []) : okT false (tl0 l) := by
  refine ⟨hn, fun c hc => h c (List.dropWhile_sublist _ |>.subset hc), .inl fun c r e => ?_⟩
  have := List.head?_dropWhile_not (p := (· == (48 : UInt8))) (l := l)
  unfold tl0 at e
  rw [e] at this
  simpa using this
end Go.Proofs.YtecjnnhkbmkemaaGreatDoor
namespace Go.Proofs.YtecjnnhkbmkemaaGreatDoor
open Go.RowKit
def aQ (q : Rat) : List AV := aZ q.num ++ aZ q.den
def dQ (q : Rat) : DV := .agg (aQ q)
def aQ0 : List AV := [.val (.bool false), .sl 0 [], .val (.bool false), .sl 0 []]
def dQ0 : DV := .agg aQ0
def Sz (k : Nat) (z : Int) : Prop := z.natAbs < 4294967296 ^ k
theorem Sz.fit {k : Nat} {z : Int} (h : Sz k z) (hk : k ≤ 2147483648) : FitZ z := .of_lt h hk
theorem Sz.mono {j k : Nat} {z : Int} (h : Sz j z) (hk : j ≤ k) : Sz k z := Nat.lt_of_lt_of_le h (Nat.pow_le_pow_right (by decide) hk)
theorem Sz.of_le {k : Nat} {a b : Int} (h : Sz k b) (hl : a.natAbs ≤ b.natAbs) : Sz k a := Nat.lt_of_le_of_lt hl h
theorem Sz.mul {j k : Nat} {a b : Int} (h : Sz j a) (h' : Sz k b) : Sz (j + k) (a * b) := by
  unfold Sz at *
  rw [Int.natAbs_mul, Nat.pow_add]
  exact Nat.mul_lt_mul'' h h'
theorem Sz.add {k : Nat} {a b : Int} (h : Sz k a) (h' : Sz k b) : Sz (k + 1) (a + b) := by
  unfold Sz at *
  have := Int.natAbs_add_le a b
  have : 0 < 4294967296 ^ k := Nat.pow_pos (by decide)
  rw [Nat.pow_succ]
  omega
theorem Sz.neg {k : Nat} {a : Int} (h : Sz k a) : Sz k (-a) := by unfold Sz at *; rw [Int.natAbs_neg]; exact h
theorem Sz.sub {k : Nat} {a b : Int} (h : Sz k a) (h' : Sz k b) : Sz (k + 1) (a - b) := by rw [Int.sub_eq_add_neg]; exact h.add h'.neg
theorem Sz.small {z : Int} (h : z.natAbs < 4294967296) : Sz 1 z := by unfold Sz; simpa using h
theorem Sz.i64 {z : Int} (h1 : -9223372036854775808 ≤ z) (h2 : z < 9223372036854775808) : Sz 2 z := by unfold Sz; omega
theorem Sz.gcd {k : Nat} {n d : Int} (h : Sz k d) (hd : d ≠ 0) : Sz k (Nat.gcd n.natAbs d.natAbs : Nat) := by
  refine h.of_le ?_
  rw [Int.natAbs_natCast]
  exact Nat.le_of_dvd (by omega) (Nat.gcd_dvd_right _ _)
theorem Sz.digs {k : Nat} {z : Int} (h : Sz k z) : (digs z.natAbs).length ≤ k := digs_length_le h
def SzQ (k : Nat) (q : Rat) : Prop := Sz k q.num ∧ Sz k q.den
theorem SzQ.mono {j k : Nat} {q : Rat} (h : SzQ j q) (hk : j ≤ k) : SzQ k q := ⟨h.1.mono hk, h.2.mono hk⟩
theorem SzQ.divInt {k : Nat} {n d : Int} (h : Sz k n) (h' : Sz k d) (hd : d ≠ 0) : SzQ k (Rat.divInt n d) := by
  obtain ⟨_, _, h1, h2⟩ := lowest_p (n := n) (d := d) hd
  have hg : 0 < (gz n d).natAbs := by have := gz_ne (n := n) hd; omega
  refine ⟨h.of_le ?_, h'.of_le ?_⟩
  · conv => rhs; rw [h1, Int.natAbs_mul]
    exact Nat.le_mul_of_pos_left _ hg
  · conv => rhs; rw [h2, Int.natAbs_mul]
    exact Nat.le_mul_of_pos_left _ hg
theorem SzQ.add {j k : Nat} {a b : Rat} (h : SzQ j a) (h' : SzQ k b) : SzQ (j + k + 1) (a + b) := by
  rw [← add_divInt]
  refine .divInt ?_ ((h.2.mul h'.2).mono (by omega)) (by have := Int.mul_pos (den_pos a) (den_pos b); omega)
  exact Sz.add (h.1.mul h'.2) ((h'.1.mul h.2).mono (by omega))
theorem SzQ.neg {k : Nat} {a : Rat} (h : SzQ k a) : SzQ k (-a) := ⟨by rw [Rat.neg_num]; exact h.1.neg, h.2⟩
theorem SzQ.sub {j k : Nat} {a b : Rat} (h : SzQ j a) (h' : SzQ k b) : SzQ (j + k + 1) (a - b) := by rw [Rat.sub_eq_add_neg]; exact h.add h'.neg
theorem SzQ.mul {j k : Nat} {a b : Rat} (h : SzQ j a) (h' : SzQ k b) : SzQ (j + k) (a * b) := by
  rw [← mul_divInt]
  exact .divInt (h.1.mul h'.1) (h.2.mul h'.2) (by have := Int.mul_pos (den_pos a) (den_pos b); omega)
theorem digs_one_iff {z : Int} : (!decide (z < 0) && decide (digs z.natAbs = [1])) = decide (z = 1) := by
  by_cases h : z = 1
  · subst h; rw [show (1 : Int).natAbs = 1 from rfl, digs_small (by decide) (by decide)]; rfl
  · rw [decide_eq_false h]
    by_cases hn : z < 0
    · simp [hn]
    · have : digs z.natAbs ≠ [1] := fun e => by
        have h1 := congrArg val e
        rw [val_digs] at h1
        simp [val] at h1
        omega
      simp [this]
theorem digs_nil_iff {z : Int} : decide (((digs z.natAbs).length : Int) = 0) = decide (z = 0) := by
  have := digs_length_zero (n := z.natAbs)
  by_cases h : z = 0
  · subst h; rw [decide_eq_true rfl]; exact decide_eq_true (by have := this.2 rfl; omega)
  · rw [decide_eq_false h]; exact decide_eq_false (fun e => h (by have := this.1 (by omega); omega))
end Go.Proofs.YtecjnnhkbmkemaaGreatDoor
namespace Go.Proofs.YtecjnnhkbmkemaaGreatDoor
open Go.RowKit
theorem ok_q_one : CallOK Tryz.prog 81 [] (.one (dZ 1)) := by
  refine callOK_of TT_ok mixT Tryz.func81 rfl rfl (Nat.le_of_ble_eq_true rfl) ?_
  repeat (first | refine r_op rfl rfl rfl rfl ?_ | refine r_skip rfl rfl rfl ?_ | refine .done ?_ | refine r_seq (T := TT) ?_ | refine r_region (T := TT) rfl ?_ | refine r_block (T := TT) ?_ | refine r_then (T := TT) rfl ?_ | refine r_else (T := TT) rfl ?_)
  refine r_call (ok_i_FromInt 1 (by decide) (by decide)) rfl rfl rfl rfl rfl rfl rfl ?_
  repeat (first | refine r_op rfl rfl rfl rfl ?_ | refine r_skip rfl rfl rfl ?_ | refine .done ?_ | refine r_seq (T := TT) ?_ | refine r_region (T := TT) rfl ?_ | refine r_block (T := TT) ?_ | refine r_then (T := TT) rfl ?_ | refine r_else (T := TT) rfl ?_)
  exact r_fin (T := TT) rfl rfl
theorem ok_q_isOne {na : Bool} {xs : List Nat} {b : Bool} (hb : (!na && decide (xs = [1])) = b) : CallOK Tryz.prog 68 [dI na xs] (.one (dB b)) := by
  subst hb
  cases na
  · match xs with
    | [] =>
      refine callOK_of TT_ok mixT Tryz.func68 rfl rfl (Nat.le_of_ble_eq_true rfl) ?_
      repeat (first | refine r_op rfl rfl rfl rfl ?_ | refine r_skip rfl rfl rfl ?_ | refine .done ?_ | refine r_seq (T := TT) ?_ | refine r_region (T := TT) rfl ?_ | refine r_block (T := TT) ?_ | refine r_then (T := TT) rfl ?_ | refine r_else (T := TT) rfl ?_)
      exact r_fin (T := TT) rfl rfl
    | [x] =>
      refine callOK_of TT_ok mixT Tryz.func68 rfl rfl (Nat.le_of_ble_eq_true rfl) ?_
      repeat (first | refine r_op rfl rfl rfl rfl ?_ | refine r_skip rfl rfl rfl ?_ | refine .done ?_ | refine r_seq (T := TT) ?_ | refine r_region (T := TT) rfl ?_ | refine r_block (T := TT) ?_ | refine r_then (T := TT) rfl ?_ | refine r_else (T := TT) rfl ?_)
      refine r_idx (cs' := [AV.val (W32 x)]) (i := 0) (Nat.lt_succ_self 0) (fun j a h => by simpa using h) (Nat.lt_succ_self 0) rfl rfl rfl rfl rfl rfl rfl rfl ?_
      repeat (first | refine r_op rfl rfl rfl rfl ?_ | refine r_skip rfl rfl rfl ?_ | refine .done ?_ | refine r_seq (T := TT) ?_ | refine r_region (T := TT) rfl ?_ | refine r_block (T := TT) ?_ | refine r_then (T := TT) rfl ?_ | refine r_else (T := TT) rfl ?_)
      rw [show (!false && decide ([x] = [1])) = decide ((x : Int) = 1) by by_cases h : x = 1 <;> simp [h] <;> omega]
      exact r_fin (T := TT) rfl rfl
    | x :: y :: r =>
      refine callOK_of TT_ok mixT Tryz.func68 rfl rfl (Nat.le_of_ble_eq_true rfl) ?_
      repeat refine r_seq (T := TT) ?_
      refine r_region (T := TT) rfl ?_
      repeat (first | refine r_op rfl rfl rfl rfl ?_ | refine r_skip rfl rfl rfl ?_)
      try refine .done ?_
      repeat refine r_seq (T := TT) ?_
      refine r_region (T := TT) rfl ?_
      iterate 7 (first | refine r_op rfl rfl rfl rfl ?_ | refine r_skip rfl rfl rfl ?_)
      refine r_eq (v' := .bool false) rfl rfl rfl rfl ?_ ?_
      · exact congrArg Value.bool (decide_eq_false (by simp only [List.length_cons]; omega))
      repeat (first | refine r_op rfl rfl rfl rfl ?_ | refine r_skip rfl rfl rfl ?_ | refine .done ?_ | refine r_seq (T := TT) ?_ | refine r_region (T := TT) rfl ?_ | refine r_block (T := TT) ?_ | refine r_then (T := TT) rfl ?_ | refine r_else (T := TT) rfl ?_)
      rw [show (!false && decide (x :: y :: r = [1])) = false by simp]
      exact r_fin (T := TT) rfl rfl
  · refine callOK_of TT_ok mixT Tryz.func68 rfl rfl (Nat.le_of_ble_eq_true rfl) ?_
    repeat (first | refine r_op rfl rfl rfl rfl ?_ | refine r_skip rfl rfl rfl ?_ | refine .done ?_ | refine r_seq (T := TT) ?_ | refine r_region (T := TT) rfl ?_ | refine r_block (T := TT) ?_ | refine r_then (T := TT) rfl ?_ | refine r_else (T := TT) rfl ?_)
    exact r_fin (T := TT) rfl rfl
theorem ok_r2_one {na : Bool} {xs : List Nat} {b : Bool} (hb : (!na && decide (xs = [1])) = b) : CallOK Tryz.prog 60 [dI na xs] (.one (dB b)) := by
  subst hb
  match xs with
  | [] =>
    refine callOK_of TT_ok mixT Tryz.func60 rfl rfl (Nat.le_of_ble_eq_true rfl) ?_
    repeat (first | refine r_op rfl rfl rfl rfl ?_ | refine r_skip rfl rfl rfl ?_ | refine .done ?_ | refine r_seq (T := TT) ?_ | refine r_region (T := TT) rfl ?_ | refine r_block (T := TT) ?_ | refine r_then (T := TT) rfl ?_ | refine r_else (T := TT) rfl ?_)
    rw [show (!na && decide (([] : List Nat) = [1])) = false by simp]
    exact r_fin (T := TT) rfl rfl
  | [x] =>
    refine callOK_of TT_ok mixT Tryz.func60 rfl rfl (Nat.le_of_ble_eq_true rfl) ?_
    repeat (first | refine r_op rfl rfl rfl rfl ?_ | refine r_skip rfl rfl rfl ?_ | refine .done ?_ | refine r_seq (T := TT) ?_ | refine r_region (T := TT) rfl ?_ | refine r_block (T := TT) ?_ | refine r_then (T := TT) rfl ?_ | refine r_else (T := TT) rfl ?_)
    refine r_idx (cs' := [AV.val (W32 x)]) (i := 0) (Nat.lt_succ_self 0) (fun j a h => by simpa using h) (Nat.lt_succ_self 0) rfl rfl rfl rfl rfl rfl rfl rfl ?_
    iterate 1 (first | refine r_op rfl rfl rfl rfl ?_ | refine r_skip rfl rfl rfl ?_)
    by_cases h : x = 1
    · refine r_eq (v' := .bool true) rfl rfl rfl rfl ?_ ?_
      · exact congrArg Value.bool (decide_eq_true (by omega))
      repeat (first | refine r_op rfl rfl rfl rfl ?_ | refine r_skip rfl rfl rfl ?_ | refine .done ?_ | refine r_seq (T := TT) ?_ | refine r_region (T := TT) rfl ?_ | refine r_block (T := TT) ?_ | refine r_then (T := TT) rfl ?_ | refine r_else (T := TT) rfl ?_)
      rw [show (!na && decide ([x] = [1])) = !na by simp [h]]
      exact r_fin (T := TT) rfl rfl
    · refine r_eq (v' := .bool false) rfl rfl rfl rfl ?_ ?_
      · exact congrArg Value.bool (decide_eq_false (by omega))
      repeat (first | refine r_op rfl rfl rfl rfl ?_ | refine r_skip rfl rfl rfl ?_ | refine .done ?_ | refine r_seq (T := TT) ?_ | refine r_region (T := TT) rfl ?_ | refine r_block (T := TT) ?_ | refine r_then (T := TT) rfl ?_ | refine r_else (T := TT) rfl ?_)
      rw [show (!na && decide ([x] = [1])) = false by simp [h]]
      exact r_fin (T := TT) rfl rfl
  | x :: y :: r =>
    refine callOK_of TT_ok mixT Tryz.func60 rfl rfl (Nat.le_of_ble_eq_true rfl) ?_
    repeat refine r_seq (T := TT) ?_
    refine r_region (T := TT) rfl ?_
    repeat (first | refine r_op rfl rfl rfl rfl ?_ | refine r_skip rfl rfl rfl ?_)
    try refine .done ?_
    repeat refine r_seq (T := TT) ?_
    refine r_region (T := TT) rfl ?_
    iterate 3 (first | refine r_op rfl rfl rfl rfl ?_ | refine r_skip rfl rfl rfl ?_)
    refine r_eq (v' := .bool false) rfl rfl rfl rfl ?_ ?_
    · exact congrArg Value.bool (decide_eq_false (by simp only [List.length_cons]; omega))
    repeat (first | refine r_op rfl rfl rfl rfl ?_ | refine r_skip rfl rfl rfl ?_ | refine .done ?_ | refine r_seq (T := TT) ?_ | refine r_region (T := TT) rfl ?_ | refine r_block (T := TT) ?_ | refine r_then (T := TT) rfl ?_ | refine r_else (T := TT) rfl ?_)
    rw [show (!na && decide (x :: y :: r = [1])) = false by simp]
    exact r_fin (T := TT) rfl rfl
theorem okz_q_isOne {z : Int} {b : Bool} (hb : decide (z = 1) = b) : CallOK Tryz.prog 68 [dZ z] (.one (dB b)) := ok_q_isOne (by rw [digs_one_iff, hb])
theorem okz_r2_one {z : Int} {b : Bool} (hb : decide (z = 1) = b) : CallOK Tryz.prog 60 [dZ z] (.one (dB b)) := ok_r2_one (by rw [digs_one_iff, hb])
theorem okz_q_isZero {z : Int} {b : Bool} (hb : decide (z = 0) = b) : CallOK Tryz.prog 71 [dZ z] (.one (dB b)) := by
  refine callOK_of TT_ok mixT Tryz.func71 rfl rfl (Nat.le_of_ble_eq_true rfl) ?_
  repeat (first | refine r_op rfl rfl rfl rfl ?_ | refine r_skip rfl rfl rfl ?_ | refine .done ?_ | refine r_seq (T := TT) ?_ | refine r_region (T := TT) rfl ?_ | refine r_block (T := TT) ?_ | refine r_then (T := TT) rfl ?_ | refine r_else (T := TT) rfl ?_)
  rw [← hb, ← digs_nil_iff]
  exact r_fin (T := TT) rfl rfl
theorem ok_q_quo {a b c : Int} (h1 : FitZ a) (h2 : FitZ b) (hb : b ≠ 0) (h : a.fdiv b = c) : CallOK Tryz.prog 115 [dZ a, dZ b] (.one (dZ c)) := by
  by_cases h1' : b = 1
  · subst h1'
    rw [Int.fdiv_one] at h
    subst h
    refine callOK_of TT_ok mixT Tryz.func115 rfl rfl (Nat.le_of_ble_eq_true rfl) ?_
    repeat (first | refine r_op rfl rfl rfl rfl ?_ | refine r_skip rfl rfl rfl ?_ | refine .done ?_ | refine r_seq (T := TT) ?_ | refine r_region (T := TT) rfl ?_ | refine r_block (T := TT) ?_ | refine r_then (T := TT) rfl ?_ | refine r_else (T := TT) rfl ?_)
    refine r_call (okz_q_isOne (z := 1) (b := true) rfl) rfl rfl rfl rfl rfl rfl rfl ?_
    repeat (first | refine r_op rfl rfl rfl rfl ?_ | refine r_skip rfl rfl rfl ?_ | refine .done ?_ | refine r_seq (T := TT) ?_ | refine r_region (T := TT) rfl ?_ | refine r_block (T := TT) ?_ | refine r_then (T := TT) rfl ?_ | refine r_else (T := TT) rfl ?_)
    exact r_fin (T := TT) rfl rfl
  · refine callOK_of TT_ok mixT Tryz.func115 rfl rfl (Nat.le_of_ble_eq_true rfl) ?_
    repeat (first | refine r_op rfl rfl rfl rfl ?_ | refine r_skip rfl rfl rfl ?_ | refine .done ?_ | refine r_seq (T := TT) ?_ | refine r_region (T := TT) rfl ?_ | refine r_block (T := TT) ?_ | refine r_then (T := TT) rfl ?_ | refine r_else (T := TT) rfl ?_)
    refine r_call (okz_q_isOne (z := b) (b := false) (decide_eq_false h1')) rfl rfl rfl rfl rfl rfl rfl ?_
    repeat (first | refine r_op rfl rfl rfl rfl ?_ | refine r_skip rfl rfl rfl ?_ | refine .done ?_ | refine r_seq (T := TT) ?_ | refine r_region (T := TT) rfl ?_ | refine r_block (T := TT) ?_ | refine r_then (T := TT) rfl ?_ | refine r_else (T := TT) rfl ?_)
    refine r_call (okz_i_DivMod h1 h2 hb h rfl) rfl rfl rfl rfl rfl rfl rfl ?_
    repeat (first | refine r_op rfl rfl rfl rfl ?_ | refine r_skip rfl rfl rfl ?_ | refine .done ?_ | refine r_seq (T := TT) ?_ | refine r_region (T := TT) rfl ?_ | refine r_block (T := TT) ?_ | refine r_then (T := TT) rfl ?_ | refine r_else (T := TT) rfl ?_)
    exact r_fin (T := TT) rfl rfl
theorem ok_r2_quo {a b c : Int} (h1 : FitZ a) (h2 : FitZ b) (hb : b ≠ 0) (h : a.fdiv b = c) : CallOK Tryz.prog 55 [dZ a, dZ b] (.one (dZ c)) := by
  refine callOK_of TT_ok mixT Tryz.func55 rfl rfl (Nat.le_of_ble_eq_true rfl) ?_
  repeat (first | refine r_op rfl rfl rfl rfl ?_ | refine r_skip rfl rfl rfl ?_ | refine .done ?_ | refine r_seq (T := TT) ?_ | refine r_region (T := TT) rfl ?_ | refine r_block (T := TT) ?_ | refine r_then (T := TT) rfl ?_ | refine r_else (T := TT) rfl ?_)
  refine r_call (okz_r1_DivMod h1 h2 hb h rfl) rfl rfl rfl rfl rfl rfl rfl ?_
  repeat (first | refine r_op rfl rfl rfl rfl ?_ | refine r_skip rfl rfl rfl ?_ | refine .done ?_ | refine r_seq (T := TT) ?_ | refine r_region (T := TT) rfl ?_ | refine r_block (T := TT) ?_ | refine r_then (T := TT) rfl ?_ | refine r_else (T := TT) rfl ?_)
  exact r_fin (T := TT) rfl rfl
theorem gz_pos {n d : Int} {g : Nat} (hg : Nat.gcd n.natAbs d.natAbs = g) (h : ¬ d < 0) : gz n d = g := by unfold gz; rw [if_neg h, hg]
theorem gz_neg {n d : Int} {g : Nat} (hg : Nat.gcd n.natAbs d.natAbs = g) (h : d < 0) : gz n d = -(g : Int) := by unfold gz; rw [if_pos h, hg]
theorem ok_q_lowest {k : Nat} {n d : Int} {q : Rat} (h1 : Sz k n) (h2 : Sz k d) (hk : k ≤ 2147483648) (hd : d ≠ 0) (hq : Rat.divInt n d = q) : CallOK Tryz.prog 76 [dZ n, dZ d] (.one (dQ q)) := by
  subst hq
  obtain ⟨e1, e2, _, _⟩ := lowest_p (n := n) hd
  have hg0 := gz_ne (n := n) hd
  have hsg := h2.gcd (n := n) hd
  obtain ⟨g, hg⟩ : ∃ g, Nat.gcd n.natAbs d.natAbs = g := ⟨_, rfl⟩
  rw [hg] at hsg
  by_cases h : d < 0
  · rw [gz_neg hg h] at e1 e2 hg0
    refine callOK_of TT_ok mixT Tryz.func76 rfl rfl (Nat.le_of_ble_eq_true rfl) ?_
    repeat (first | refine r_op rfl rfl rfl rfl ?_ | refine r_skip rfl rfl rfl ?_ | refine .done ?_ | refine r_seq (T := TT) ?_ | refine r_region (T := TT) rfl ?_ | refine r_block (T := TT) ?_ | refine r_then (T := TT) rfl ?_ | refine r_else (T := TT) rfl ?_)
    refine r_call (okz_i_GCD (h1.fit hk) (h2.fit hk) hg) rfl rfl rfl rfl rfl rfl rfl ?_
    repeat (first | refine r_op rfl rfl rfl rfl ?_ | refine r_skip rfl rfl rfl ?_ | refine .done ?_ | refine r_seq (T := TT) ?_ | refine r_region (T := TT) rfl ?_ | refine r_block (T := TT) ?_ | refine r_then (T := TT) rfl ?_ | refine r_else (T := TT) rfl ?_)
    refine r_then2 (T := TT) rfl ?_ ?_
    · exact decide_eq_true h
    repeat (first | refine r_op rfl rfl rfl rfl ?_ | refine r_skip rfl rfl rfl ?_ | refine .done ?_ | refine r_seq (T := TT) ?_ | refine r_region (T := TT) rfl ?_ | refine r_block (T := TT) ?_ | refine r_then (T := TT) rfl ?_ | refine r_else (T := TT) rfl ?_)
    refine r_call (okz_i_Neg (hsg.fit hk)) rfl rfl rfl rfl rfl rfl rfl ?_
    repeat (first | refine r_op rfl rfl rfl rfl ?_ | refine r_skip rfl rfl rfl ?_ | refine .done ?_ | refine r_seq (T := TT) ?_ | refine r_region (T := TT) rfl ?_ | refine r_block (T := TT) ?_ | refine r_then (T := TT) rfl ?_ | refine r_else (T := TT) rfl ?_)
    refine r_call (ok_q_quo (h1.fit hk) (hsg.neg.fit hk) hg0 e1) rfl rfl rfl rfl rfl rfl rfl ?_
    repeat (first | refine r_op rfl rfl rfl rfl ?_ | refine r_skip rfl rfl rfl ?_ | refine .done ?_ | refine r_seq (T := TT) ?_ | refine r_region (T := TT) rfl ?_ | refine r_block (T := TT) ?_ | refine r_then (T := TT) rfl ?_ | refine r_else (T := TT) rfl ?_)
    refine r_call (ok_q_quo (h2.fit hk) (hsg.neg.fit hk) hg0 e2) rfl rfl rfl rfl rfl rfl rfl ?_
    repeat (first | refine r_op rfl rfl rfl rfl ?_ | refine r_skip rfl rfl rfl ?_ | refine .done ?_ | refine r_seq (T := TT) ?_ | refine r_region (T := TT) rfl ?_ | refine r_block (T := TT) ?_ | refine r_then (T := TT) rfl ?_ | refine r_else (T := TT) rfl ?_)
    exact r_fin (T := TT) rfl rfl
  · rw [gz_pos hg h] at e1 e2 hg0
    refine callOK_of TT_ok mixT Tryz.func76 rfl rfl (Nat.le_of_ble_eq_true rfl) ?_
    repeat (first | refine r_op rfl rfl rfl rfl ?_ | refine r_skip rfl rfl rfl ?_ | refine .done ?_ | refine r_seq (T := TT) ?_ | refine r_region (T := TT) rfl ?_ | refine r_block (T := TT) ?_ | refine r_then (T := TT) rfl ?_ | refine r_else (T := TT) rfl ?_)
    refine r_call (okz_i_GCD (h1.fit hk) (h2.fit hk) hg) rfl rfl rfl rfl rfl rfl rfl ?_
    repeat (first | refine r_op rfl rfl rfl rfl ?_ | refine r_skip rfl rfl rfl ?_ | refine .done ?_ | refine r_seq (T := TT) ?_ | refine r_region (T := TT) rfl ?_ | refine r_block (T := TT) ?_ | refine r_then (T := TT) rfl ?_ | refine r_else (T := TT) rfl ?_)
    refine r_else2 (T := TT) rfl ?_ ?_
    · exact decide_eq_false h
    repeat (first | refine r_op rfl rfl rfl rfl ?_ | refine r_skip rfl rfl rfl ?_ | refine .done ?_ | refine r_seq (T := TT) ?_ | refine r_region (T := TT) rfl ?_ | refine r_block (T := TT) ?_ | refine r_then (T := TT) rfl ?_ | refine r_else (T := TT) rfl ?_)
    refine r_call (ok_q_quo (h1.fit hk) (hsg.fit hk) hg0 e1) rfl rfl rfl rfl rfl rfl rfl ?_
    repeat (first | refine r_op rfl rfl rfl rfl ?_ | refine r_skip rfl rfl rfl ?_ | refine .done ?_ | refine r_seq (T := TT) ?_ | refine r_region (T := TT) rfl ?_ | refine r_block (T := TT) ?_ | refine r_then (T := TT) rfl ?_ | refine r_else (T := TT) rfl ?_)
    refine r_call (ok_q_quo (h2.fit hk) (hsg.fit hk) hg0 e2) rfl rfl rfl rfl rfl rfl rfl ?_
    repeat (first | refine r_op rfl rfl rfl rfl ?_ | refine r_skip rfl rfl rfl ?_ | refine .done ?_ | refine r_seq (T := TT) ?_ | refine r_region (T := TT) rfl ?_ | refine r_block (T := TT) ?_ | refine r_then (T := TT) rfl ?_ | refine r_else (T := TT) rfl ?_)
    exact r_fin (T := TT) rfl rfl
theorem ok_r2_Make {k : Nat} {n d : Int} {q : Rat} (h1 : Sz k n) (h2 : Sz k d) (hk : k ≤ 2147483648) (hd : d ≠ 0) (hq : Rat.divInt n d = q) : CallOK Tryz.prog 36 [dZ n, dZ d] (.one (dQ q)) := by
  subst hq
  obtain ⟨e1, e2, _, _⟩ := lowest_p (n := n) hd
  have hg0 := gz_ne (n := n) hd
  have hsg := h2.gcd (n := n) hd
  obtain ⟨g, hg⟩ : ∃ g, Nat.gcd n.natAbs d.natAbs = g := ⟨_, rfl⟩
  rw [hg] at hsg
  by_cases h : d < 0
  · rw [gz_neg hg h] at e1 e2 hg0
    have hs : CallOK Tryz.prog 66 [dZ d] (.one (dN .i64 (-1))) := by have := okz_r1_Sign d; rwa [Int.sign_eq_neg_one_of_neg h] at this
    refine callOK_of TT_ok mixT Tryz.func36 rfl rfl (Nat.le_of_ble_eq_true rfl) ?_
    repeat (first | refine r_op rfl rfl rfl rfl ?_ | refine r_skip rfl rfl rfl ?_ | refine .done ?_ | refine r_seq (T := TT) ?_ | refine r_region (T := TT) rfl ?_ | refine r_block (T := TT) ?_ | refine r_then (T := TT) rfl ?_ | refine r_else (T := TT) rfl ?_)
    refine r_call (okz_r1_GCD (h1.fit hk) (h2.fit hk) hg) rfl rfl rfl rfl rfl rfl rfl ?_
    repeat (first | refine r_op rfl rfl rfl rfl ?_ | refine r_skip rfl rfl rfl ?_ | refine .done ?_ | refine r_seq (T := TT) ?_ | refine r_region (T := TT) rfl ?_ | refine r_block (T := TT) ?_ | refine r_then (T := TT) rfl ?_ | refine r_else (T := TT) rfl ?_)
    refine r_call (hs) rfl rfl rfl rfl rfl rfl rfl ?_
    repeat (first | refine r_op rfl rfl rfl rfl ?_ | refine r_skip rfl rfl rfl ?_ | refine .done ?_ | refine r_seq (T := TT) ?_ | refine r_region (T := TT) rfl ?_ | refine r_block (T := TT) ?_ | refine r_then (T := TT) rfl ?_ | refine r_else (T := TT) rfl ?_)
    refine r_call (okz_r1_Neg g) rfl rfl rfl rfl rfl rfl rfl ?_
    repeat (first | refine r_op rfl rfl rfl rfl ?_ | refine r_skip rfl rfl rfl ?_ | refine .done ?_ | refine r_seq (T := TT) ?_ | refine r_region (T := TT) rfl ?_ | refine r_block (T := TT) ?_ | refine r_then (T := TT) rfl ?_ | refine r_else (T := TT) rfl ?_)
    refine r_call (ok_r2_quo (h1.fit hk) (hsg.neg.fit hk) hg0 e1) rfl rfl rfl rfl rfl rfl rfl ?_
    repeat (first | refine r_op rfl rfl rfl rfl ?_ | refine r_skip rfl rfl rfl ?_ | refine .done ?_ | refine r_seq (T := TT) ?_ | refine r_region (T := TT) rfl ?_ | refine r_block (T := TT) ?_ | refine r_then (T := TT) rfl ?_ | refine r_else (T := TT) rfl ?_)
    refine r_call (ok_r2_quo (h2.fit hk) (hsg.neg.fit hk) hg0 e2) rfl rfl rfl rfl rfl rfl rfl ?_
    repeat (first | refine r_op rfl rfl rfl rfl ?_ | refine r_skip rfl rfl rfl ?_ | refine .done ?_ | refine r_seq (T := TT) ?_ | refine r_region (T := TT) rfl ?_ | refine r_block (T := TT) ?_ | refine r_then (T := TT) rfl ?_ | refine r_else (T := TT) rfl ?_)
    exact r_fin (T := TT) rfl rfl
  · rw [gz_pos hg h] at e1 e2 hg0
    have hs : CallOK Tryz.prog 66 [dZ d] (.one (dN .i64 1)) := by have := okz_r1_Sign d; rwa [Int.sign_eq_one_of_pos (by omega)] at this
    refine callOK_of TT_ok mixT Tryz.func36 rfl rfl (Nat.le_of_ble_eq_true rfl) ?_
    repeat (first | refine r_op rfl rfl rfl rfl ?_ | refine r_skip rfl rfl rfl ?_ | refine .done ?_ | refine r_seq (T := TT) ?_ | refine r_region (T := TT) rfl ?_ | refine r_block (T := TT) ?_ | refine r_then (T := TT) rfl ?_ | refine r_else (T := TT) rfl ?_)
    refine r_call (okz_r1_GCD (h1.fit hk) (h2.fit hk) hg) rfl rfl rfl rfl rfl rfl rfl ?_
    repeat (first | refine r_op rfl rfl rfl rfl ?_ | refine r_skip rfl rfl rfl ?_ | refine .done ?_ | refine r_seq (T := TT) ?_ | refine r_region (T := TT) rfl ?_ | refine r_block (T := TT) ?_ | refine r_then (T := TT) rfl ?_ | refine r_else (T := TT) rfl ?_)
    refine r_call (hs) rfl rfl rfl rfl rfl rfl rfl ?_
    repeat (first | refine r_op rfl rfl rfl rfl ?_ | refine r_skip rfl rfl rfl ?_ | refine .done ?_ | refine r_seq (T := TT) ?_ | refine r_region (T := TT) rfl ?_ | refine r_block (T := TT) ?_ | refine r_then (T := TT) rfl ?_ | refine r_else (T := TT) rfl ?_)
    refine r_call (ok_r2_quo (h1.fit hk) (hsg.fit hk) hg0 e1) rfl rfl rfl rfl rfl rfl rfl ?_
    repeat (first | refine r_op rfl rfl rfl rfl ?_ | refine r_skip rfl rfl rfl ?_ | refine .done ?_ | refine r_seq (T := TT) ?_ | refine r_region (T := TT) rfl ?_ | refine r_block (T := TT) ?_ | refine r_then (T := TT) rfl ?_ | refine r_else (T := TT) rfl ?_)
    refine r_call (ok_r2_quo (h2.fit hk) (hsg.fit hk) hg0 e2) rfl rfl rfl rfl rfl rfl rfl ?_
    repeat (first | refine r_op rfl rfl rfl rfl ?_ | refine r_skip rfl rfl rfl ?_ | refine .done ?_ | refine r_seq (T := TT) ?_ | refine r_region (T := TT) rfl ?_ | refine r_block (T := TT) ?_ | refine r_then (T := TT) rfl ?_ | refine r_else (T := TT) rfl ?_)
    exact r_fin (T := TT) rfl rfl
theorem Sz.of_val {na : Bool} {xs : List Nat} {n : Int} {k : Nat} (hw : Wd xs) (h : xs.length ≤ k) (hn : toZ na xs = n) : Sz k n := by
  rw [← hn]; unfold Sz; rw [natAbs_toZ]; exact Nat.lt_of_lt_of_le (val_lt hw) (Nat.pow_le_pow_right (by decide) h)
theorem ok_q_Make {na nb : Bool} {xs ys : List Nat} {n d : Int} {q : Rat} (hw : Wd xs) (hw' : Wd ys) (h1 : xs.length ≤ 1000) (h2 : ys.length ≤ 1000) (hn : toZ na xs = n) (hd : toZ nb ys = d) (h0 : d ≠ 0) (hq : Rat.divInt n d = q) : CallOK Tryz.prog 33 [dI na xs, dI nb ys] (.tup [dQ q, dN .i64 0]) := by
  have s1 : Sz 1000 n := Sz.of_val hw h1 hn
  have s2 : Sz 1000 d := Sz.of_val hw' h2 hd
  refine callOK_of TT_ok mixT Tryz.func33 rfl rfl (Nat.le_of_ble_eq_true rfl) ?_
  repeat (first | refine r_op rfl rfl rfl rfl ?_ | refine r_skip rfl rfl rfl ?_ | refine .done ?_ | refine r_seq (T := TT) ?_ | refine r_region (T := TT) rfl ?_ | refine r_block (T := TT) ?_ | refine r_then (T := TT) rfl ?_ | refine r_else (T := TT) rfl ?_)
  refine r_call (ok_i_Norm (na := na) hw (by unfold Fit; omega) hn) rfl rfl rfl rfl rfl rfl rfl ?_
  repeat (first | refine r_op rfl rfl rfl rfl ?_ | refine r_skip rfl rfl rfl ?_ | refine .done ?_ | refine r_seq (T := TT) ?_ | refine r_region (T := TT) rfl ?_ | refine r_block (T := TT) ?_ | refine r_then (T := TT) rfl ?_ | refine r_else (T := TT) rfl ?_)
  refine r_call (ok_i_Norm (na := nb) hw' (by unfold Fit; omega) hd) rfl rfl rfl rfl rfl rfl rfl ?_
  repeat (first | refine r_op rfl rfl rfl rfl ?_ | refine r_skip rfl rfl rfl ?_ | refine .done ?_ | refine r_seq (T := TT) ?_ | refine r_region (T := TT) rfl ?_ | refine r_block (T := TT) ?_ | refine r_then (T := TT) rfl ?_ | refine r_else (T := TT) rfl ?_)
  refine r_call (okz_q_isZero (decide_eq_false h0)) rfl rfl rfl rfl rfl rfl rfl ?_
  repeat (first | refine r_op rfl rfl rfl rfl ?_ | refine r_skip rfl rfl rfl ?_ | refine .done ?_ | refine r_seq (T := TT) ?_ | refine r_region (T := TT) rfl ?_ | refine r_block (T := TT) ?_ | refine r_then (T := TT) rfl ?_ | refine r_else (T := TT) rfl ?_)
  refine r_call (ok_q_lowest s1 s2 (by decide) h0 hq) rfl rfl rfl rfl rfl rfl rfl ?_
  repeat (first | refine r_op rfl rfl rfl rfl ?_ | refine r_skip rfl rfl rfl ?_ | refine .done ?_ | refine r_seq (T := TT) ?_ | refine r_region (T := TT) rfl ?_ | refine r_block (T := TT) ?_ | refine r_then (T := TT) rfl ?_ | refine r_else (T := TT) rfl ?_)
  exact r_fin (T := TT) rfl rfl
theorem ok_q_Make0 {na nb : Bool} {xs ys : List Nat} {n d : Int} (hw : Wd xs) (hw' : Wd ys) (h1 : xs.length ≤ 1000) (h2 : ys.length ≤ 1000) (hn : toZ na xs = n) (hd : toZ nb ys = d) (h0 : d = 0) : CallOK Tryz.prog 33 [dI na xs, dI nb ys] (.tup [dQ0, dN .i64 6]) := by
  refine callOK_of TT_ok mixT Tryz.func33 rfl rfl (Nat.le_of_ble_eq_true rfl) ?_
  repeat (first | refine r_op rfl rfl rfl rfl ?_ | refine r_skip rfl rfl rfl ?_ | refine .done ?_ | refine r_seq (T := TT) ?_ | refine r_region (T := TT) rfl ?_ | refine r_block (T := TT) ?_ | refine r_then (T := TT) rfl ?_ | refine r_else (T := TT) rfl ?_)
  refine r_call (ok_i_Norm (na := na) hw (by unfold Fit; omega) hn) rfl rfl rfl rfl rfl rfl rfl ?_
  repeat (first | refine r_op rfl rfl rfl rfl ?_ | refine r_skip rfl rfl rfl ?_ | refine .done ?_ | refine r_seq (T := TT) ?_ | refine r_region (T := TT) rfl ?_ | refine r_block (T := TT) ?_ | refine r_then (T := TT) rfl ?_ | refine r_else (T := TT) rfl ?_)
  refine r_call (ok_i_Norm (na := nb) hw' (by unfold Fit; omega) hd) rfl rfl rfl rfl rfl rfl rfl ?_
  repeat (first | refine r_op rfl rfl rfl rfl ?_ | refine r_skip rfl rfl rfl ?_ | refine .done ?_ | refine r_seq (T := TT) ?_ | refine r_region (T := TT) rfl ?_ | refine r_block (T := TT) ?_ | refine r_then (T := TT) rfl ?_ | refine r_else (T := TT) rfl ?_)
  refine r_call (okz_q_isZero (decide_eq_true h0)) rfl rfl rfl rfl rfl rfl rfl ?_
  repeat (first | refine r_op rfl rfl rfl rfl ?_ | refine r_skip rfl rfl rfl ?_ | refine .done ?_ | refine r_seq (T := TT) ?_ | refine r_region (T := TT) rfl ?_ | refine r_block (T := TT) ?_ | refine r_then (T := TT) rfl ?_ | refine r_else (T := TT) rfl ?_)
  exact r_fin (T := TT) rfl rfl
theorem okz_q_Make {n d : Int} {q : Rat} (h1 : Sz 1000 n) (h2 : Sz 1000 d) (h0 : d ≠ 0) (hq : Rat.divInt n d = q) : CallOK Tryz.prog 33 [dZ n, dZ d] (.tup [dQ q, dN .i64 0]) :=
  ok_q_Make (Wd_digs _) (Wd_digs _) h1.digs h2.digs (toZ_int n) (toZ_int d) h0 hq
theorem ok_q_FromInt (k : Int) (h1 : -9223372036854775808 ≤ k) (h2 : k < 9223372036854775808) {q : Rat} (hq : (k : Rat) = q) : CallOK Tryz.prog 38 [dN .i64 k] (.one (dQ q)) := by
  subst hq
  refine callOK_of TT_ok mixT Tryz.func38 rfl rfl (Nat.le_of_ble_eq_true rfl) ?_
  repeat (first | refine r_op rfl rfl rfl rfl ?_ | refine r_skip rfl rfl rfl ?_ | refine .done ?_ | refine r_seq (T := TT) ?_ | refine r_region (T := TT) rfl ?_ | refine r_block (T := TT) ?_ | refine r_then (T := TT) rfl ?_ | refine r_else (T := TT) rfl ?_)
  refine r_call (ok_i_FromInt k h1 h2) rfl rfl rfl rfl rfl rfl rfl ?_
  repeat (first | refine r_op rfl rfl rfl rfl ?_ | refine r_skip rfl rfl rfl ?_ | refine .done ?_ | refine r_seq (T := TT) ?_ | refine r_region (T := TT) rfl ?_ | refine r_block (T := TT) ?_ | refine r_then (T := TT) rfl ?_ | refine r_else (T := TT) rfl ?_)
  refine r_call (ok_q_one) rfl rfl rfl rfl rfl rfl rfl ?_
  repeat (first | refine r_op rfl rfl rfl rfl ?_ | refine r_skip rfl rfl rfl ?_ | refine .done ?_ | refine r_seq (T := TT) ?_ | refine r_region (T := TT) rfl ?_ | refine r_block (T := TT) ?_ | refine r_then (T := TT) rfl ?_ | refine r_else (T := TT) rfl ?_)
  exact r_fin (T := TT) rfl rfl
theorem divInt_zero' (n : Int) : Rat.divInt n 0 = ((0 : Int) : Rat) := by simp
theorem ok_q_Frac (n d : Int) (h1 : -9223372036854775808 ≤ n) (h2 : n < 9223372036854775808) (h3 : -9223372036854775808 ≤ d) (h4 : d < 9223372036854775808) {q : Rat} (hq : Rat.divInt n d = q) : CallOK Tryz.prog 39 [dN .i64 n, dN .i64 d] (.one (dQ q)) := by
  by_cases h0 : d = 0
  · refine callOK_of TT_ok mixT Tryz.func39 rfl rfl (Nat.le_of_ble_eq_true rfl) ?_
    repeat (first | refine r_op rfl rfl rfl rfl ?_ | refine r_skip rfl rfl rfl ?_ | refine .done ?_ | refine r_seq (T := TT) ?_ | refine r_region (T := TT) rfl ?_ | refine r_block (T := TT) ?_ | refine r_then (T := TT) rfl ?_ | refine r_else (T := TT) rfl ?_)
    refine r_call (ok_i_FromInt n h1 h2) rfl rfl rfl rfl rfl rfl rfl ?_
    repeat (first | refine r_op rfl rfl rfl rfl ?_ | refine r_skip rfl rfl rfl ?_ | refine .done ?_ | refine r_seq (T := TT) ?_ | refine r_region (T := TT) rfl ?_ | refine r_block (T := TT) ?_ | refine r_then (T := TT) rfl ?_ | refine r_else (T := TT) rfl ?_)
    refine r_call (ok_i_FromInt d h3 h4) rfl rfl rfl rfl rfl rfl rfl ?_
    repeat (first | refine r_op rfl rfl rfl rfl ?_ | refine r_skip rfl rfl rfl ?_ | refine .done ?_ | refine r_seq (T := TT) ?_ | refine r_region (T := TT) rfl ?_ | refine r_block (T := TT) ?_ | refine r_then (T := TT) rfl ?_ | refine r_else (T := TT) rfl ?_)
    refine r_call (ok_q_Make0 (na := decide (n < 0)) (nb := decide (d < 0)) (Wd_digs _) (Wd_digs _) ((Sz.i64 h1 h2).mono (k := 1000) (by decide)).digs ((Sz.i64 h3 h4).mono (k := 1000) (by decide)).digs (toZ_int n) (toZ_int d) h0) rfl rfl rfl rfl rfl rfl rfl ?_
    repeat (first | refine r_op rfl rfl rfl rfl ?_ | refine r_skip rfl rfl rfl ?_ | refine .done ?_ | refine r_seq (T := TT) ?_ | refine r_region (T := TT) rfl ?_ | refine r_block (T := TT) ?_ | refine r_then (T := TT) rfl ?_ | refine r_else (T := TT) rfl ?_)
    refine r_call (ok_q_FromInt 0 (by decide) (by decide) (q := q) (by subst h0; rw [← divInt_zero' n]; exact hq)) rfl rfl rfl rfl rfl rfl rfl ?_
    repeat (first | refine r_op rfl rfl rfl rfl ?_ | refine r_skip rfl rfl rfl ?_ | refine .done ?_ | refine r_seq (T := TT) ?_ | refine r_region (T := TT) rfl ?_ | refine r_block (T := TT) ?_ | refine r_then (T := TT) rfl ?_ | refine r_else (T := TT) rfl ?_)
    exact r_fin (T := TT) rfl rfl
  · refine callOK_of TT_ok mixT Tryz.func39 rfl rfl (Nat.le_of_ble_eq_true rfl) ?_
    repeat (first | refine r_op rfl rfl rfl rfl ?_ | refine r_skip rfl rfl rfl ?_ | refine .done ?_ | refine r_seq (T := TT) ?_ | refine r_region (T := TT) rfl ?_ | refine r_block (T := TT) ?_ | refine r_then (T := TT) rfl ?_ | refine r_else (T := TT) rfl ?_)
    refine r_call (ok_i_FromInt n h1 h2) rfl rfl rfl rfl rfl rfl rfl ?_
    repeat (first | refine r_op rfl rfl rfl rfl ?_ | refine r_skip rfl rfl rfl ?_ | refine .done ?_ | refine r_seq (T := TT) ?_ | refine r_region (T := TT) rfl ?_ | refine r_block (T := TT) ?_ | refine r_then (T := TT) rfl ?_ | refine r_else (T := TT) rfl ?_)
    refine r_call (ok_i_FromInt d h3 h4) rfl rfl rfl rfl rfl rfl rfl ?_
    repeat (first | refine r_op rfl rfl rfl rfl ?_ | refine r_skip rfl rfl rfl ?_ | refine .done ?_ | refine r_seq (T := TT) ?_ | refine r_region (T := TT) rfl ?_ | refine r_block (T := TT) ?_ | refine r_then (T := TT) rfl ?_ | refine r_else (T := TT) rfl ?_)
    refine r_call (okz_q_Make ((Sz.i64 h1 h2).mono (by decide)) ((Sz.i64 h3 h4).mono (by decide)) h0 hq) rfl rfl rfl rfl rfl rfl rfl ?_
    repeat (first | refine r_op rfl rfl rfl rfl ?_ | refine r_skip rfl rfl rfl ?_ | refine .done ?_ | refine r_seq (T := TT) ?_ | refine r_region (T := TT) rfl ?_ | refine r_block (T := TT) ?_ | refine r_then (T := TT) rfl ?_ | refine r_else (T := TT) rfl ?_)
    exact r_fin (T := TT) rfl rfl
theorem ok_q_Neg {k : Nat} {a q : Rat} (h : SzQ k a) (hk : k ≤ 2147483648) (hq : -a = q) : CallOK Tryz.prog 47 [dQ a] (.one (dQ q)) := by
  subst hq
  refine callOK_of TT_ok mixT Tryz.func47 rfl rfl (Nat.le_of_ble_eq_true rfl) ?_
  repeat (first | refine r_op rfl rfl rfl rfl ?_ | refine r_skip rfl rfl rfl ?_ | refine .done ?_ | refine r_seq (T := TT) ?_ | refine r_region (T := TT) rfl ?_ | refine r_block (T := TT) ?_ | refine r_then (T := TT) rfl ?_ | refine r_else (T := TT) rfl ?_)
  refine r_call (okz_i_Neg (h.1.fit hk)) rfl rfl rfl rfl rfl rfl rfl ?_
  repeat (first | refine r_op rfl rfl rfl rfl ?_ | refine r_skip rfl rfl rfl ?_ | refine .done ?_ | refine r_seq (T := TT) ?_ | refine r_region (T := TT) rfl ?_ | refine r_block (T := TT) ?_ | refine r_then (T := TT) rfl ?_ | refine r_else (T := TT) rfl ?_)
  exact r_fin (T := TT) rfl rfl
end Go.Proofs.YtecjnnhkbmkemaaGreatDoor
namespace Go.Proofs.YtecjnnhkbmkemaaGreatDoor
open Go.RowKit
theorem dQ_of {q : Rat} {n d : Int} (h1 : q.num = n) (h2 : (q.den : Int) = d) : dQ q = .agg (aZ n ++ aZ d) := by unfold dQ aQ; rw [h1, h2]
theorem den_is (a : Rat) : decide ((a.den : Int) = 1) = decide (a.den = 1) := by by_cases h : a.den = 1 <;> simp [h] <;> omega
theorem one_t {a : Rat} (h : a.den = 1) : decide ((a.den : Int) = 1) = true := by rw [den_is]; exact decide_eq_true h
theorem one_f {a : Rat} (h : ¬ a.den = 1) : decide ((a.den : Int) = 1) = false := by rw [den_is]; exact decide_eq_false h
theorem nil_t {z : Int} (h : z = 0) : decide (((digs z.natAbs).length : Int) = 0) = true := digs_nil_iff.trans (decide_eq_true h)
theorem nil_f {z : Int} (h : ¬ z = 0) : decide (((digs z.natAbs).length : Int) = 0) = false := digs_nil_iff.trans (decide_eq_false h)
theorem ok_q_Add {j k : Nat} {a b q : Rat} (h : SzQ j a) (h' : SzQ k b) (hk : j + k + 1 ≤ 2147483648) (hq : a + b = q) : CallOK Tryz.prog 44 [dQ a, dQ b] (.one (dQ q)) := by
  subst hq
  have d0 : (a.den : Int) * b.den ≠ 0 := by have := Int.mul_pos (den_pos a) (den_pos b); omega
  by_cases ha : a.den = 1
  · by_cases hb : b.den = 1
    · rw [dQ_of (add_one ha hb).1 (d := 1) (by rw [(add_one ha hb).2]; rfl)]
      refine callOK_of TT_ok mixT Tryz.func44 rfl rfl (Nat.le_of_ble_eq_true rfl) ?_
      repeat (first | refine r_op rfl rfl rfl rfl ?_ | refine r_skip rfl rfl rfl ?_ | refine .done ?_ | refine r_seq (T := TT) ?_ | refine r_region (T := TT) rfl ?_ | refine r_block (T := TT) ?_ | refine r_then (T := TT) rfl ?_ | refine r_else (T := TT) rfl ?_)
      refine r_call (okz_q_isOne (one_t ha)) rfl rfl rfl rfl rfl rfl rfl ?_
      repeat (first | refine r_op rfl rfl rfl rfl ?_ | refine r_skip rfl rfl rfl ?_ | refine .done ?_ | refine r_seq (T := TT) ?_ | refine r_region (T := TT) rfl ?_ | refine r_block (T := TT) ?_ | refine r_then (T := TT) rfl ?_ | refine r_else (T := TT) rfl ?_)
      refine r_call (okz_q_isOne (one_t hb)) rfl rfl rfl rfl rfl rfl rfl ?_
      repeat (first | refine r_op rfl rfl rfl rfl ?_ | refine r_skip rfl rfl rfl ?_ | refine .done ?_ | refine r_seq (T := TT) ?_ | refine r_region (T := TT) rfl ?_ | refine r_block (T := TT) ?_ | refine r_then (T := TT) rfl ?_ | refine r_else (T := TT) rfl ?_)
      refine r_call (okz_i_Add (h.1.fit (by omega)) (h'.1.fit (by omega))) rfl rfl rfl rfl rfl rfl rfl ?_
      repeat (first | refine r_op rfl rfl rfl rfl ?_ | refine r_skip rfl rfl rfl ?_ | refine .done ?_ | refine r_seq (T := TT) ?_ | refine r_region (T := TT) rfl ?_ | refine r_block (T := TT) ?_ | refine r_then (T := TT) rfl ?_ | refine r_else (T := TT) rfl ?_)
      refine r_call (ok_q_one) rfl rfl rfl rfl rfl rfl rfl ?_
      repeat (first | refine r_op rfl rfl rfl rfl ?_ | refine r_skip rfl rfl rfl ?_ | refine .done ?_ | refine r_seq (T := TT) ?_ | refine r_region (T := TT) rfl ?_ | refine r_block (T := TT) ?_ | refine r_then (T := TT) rfl ?_ | refine r_else (T := TT) rfl ?_)
      exact r_fin (T := TT) rfl rfl
    · refine callOK_of TT_ok mixT Tryz.func44 rfl rfl (Nat.le_of_ble_eq_true rfl) ?_
      repeat (first | refine r_op rfl rfl rfl rfl ?_ | refine r_skip rfl rfl rfl ?_ | refine .done ?_ | refine r_seq (T := TT) ?_ | refine r_region (T := TT) rfl ?_ | refine r_block (T := TT) ?_ | refine r_then (T := TT) rfl ?_ | refine r_else (T := TT) rfl ?_)
      refine r_call (okz_q_isOne (one_t ha)) rfl rfl rfl rfl rfl rfl rfl ?_
      repeat (first | refine r_op rfl rfl rfl rfl ?_ | refine r_skip rfl rfl rfl ?_ | refine .done ?_ | refine r_seq (T := TT) ?_ | refine r_region (T := TT) rfl ?_ | refine r_block (T := TT) ?_ | refine r_then (T := TT) rfl ?_ | refine r_else (T := TT) rfl ?_)
      refine r_call (okz_q_isOne (one_f hb)) rfl rfl rfl rfl rfl rfl rfl ?_
      repeat (first | refine r_op rfl rfl rfl rfl ?_ | refine r_skip rfl rfl rfl ?_ | refine .done ?_ | refine r_seq (T := TT) ?_ | refine r_region (T := TT) rfl ?_ | refine r_block (T := TT) ?_ | refine r_then (T := TT) rfl ?_ | refine r_else (T := TT) rfl ?_)
      refine r_call (okz_i_Mul (h.1.fit (by omega)) (h'.2.fit (by omega))) rfl rfl rfl rfl rfl rfl rfl ?_
      repeat (first | refine r_op rfl rfl rfl rfl ?_ | refine r_skip rfl rfl rfl ?_ | refine .done ?_ | refine r_seq (T := TT) ?_ | refine r_region (T := TT) rfl ?_ | refine r_block (T := TT) ?_ | refine r_then (T := TT) rfl ?_ | refine r_else (T := TT) rfl ?_)
      refine r_call (okz_i_Mul (h'.1.fit (by omega)) (h.2.fit (by omega))) rfl rfl rfl rfl rfl rfl rfl ?_
      repeat (first | refine r_op rfl rfl rfl rfl ?_ | refine r_skip rfl rfl rfl ?_ | refine .done ?_ | refine r_seq (T := TT) ?_ | refine r_region (T := TT) rfl ?_ | refine r_block (T := TT) ?_ | refine r_then (T := TT) rfl ?_ | refine r_else (T := TT) rfl ?_)
      refine r_call (okz_i_Add ((h.1.mul h'.2).fit (by omega)) ((h'.1.mul h.2).fit (by omega))) rfl rfl rfl rfl rfl rfl rfl ?_
      repeat (first | refine r_op rfl rfl rfl rfl ?_ | refine r_skip rfl rfl rfl ?_ | refine .done ?_ | refine r_seq (T := TT) ?_ | refine r_region (T := TT) rfl ?_ | refine r_block (T := TT) ?_ | refine r_then (T := TT) rfl ?_ | refine r_else (T := TT) rfl ?_)
      refine r_call (okz_i_Mul (h.2.fit (by omega)) (h'.2.fit (by omega))) rfl rfl rfl rfl rfl rfl rfl ?_
      repeat (first | refine r_op rfl rfl rfl rfl ?_ | refine r_skip rfl rfl rfl ?_ | refine .done ?_ | refine r_seq (T := TT) ?_ | refine r_region (T := TT) rfl ?_ | refine r_block (T := TT) ?_ | refine r_then (T := TT) rfl ?_ | refine r_else (T := TT) rfl ?_)
      refine r_call (ok_q_lowest (k := j + k + 1) ((h.1.mul h'.2).add ((h'.1.mul h.2).mono (by omega))) ((h.2.mul h'.2).mono (by omega)) hk d0 (add_divInt a b)) rfl rfl rfl rfl rfl rfl rfl ?_
      repeat (first | refine r_op rfl rfl rfl rfl ?_ | refine r_skip rfl rfl rfl ?_ | refine .done ?_ | refine r_seq (T := TT) ?_ | refine r_region (T := TT) rfl ?_ | refine r_block (T := TT) ?_ | refine r_then (T := TT) rfl ?_ | refine r_else (T := TT) rfl ?_)
      exact r_fin (T := TT) rfl rfl
  · refine callOK_of TT_ok mixT Tryz.func44 rfl rfl (Nat.le_of_ble_eq_true rfl) ?_
    repeat (first | refine r_op rfl rfl rfl rfl ?_ | refine r_skip rfl rfl rfl ?_ | refine .done ?_ | refine r_seq (T := TT) ?_ | refine r_region (T := TT) rfl ?_ | refine r_block (T := TT) ?_ | refine r_then (T := TT) rfl ?_ | refine r_else (T := TT) rfl ?_)
    refine r_call (okz_q_isOne (one_f ha)) rfl rfl rfl rfl rfl rfl rfl ?_
    repeat (first | refine r_op rfl rfl rfl rfl ?_ | refine r_skip rfl rfl rfl ?_ | refine .done ?_ | refine r_seq (T := TT) ?_ | refine r_region (T := TT) rfl ?_ | refine r_block (T := TT) ?_ | refine r_then (T := TT) rfl ?_ | refine r_else (T := TT) rfl ?_)
    refine r_call (okz_i_Mul (h.1.fit (by omega)) (h'.2.fit (by omega))) rfl rfl rfl rfl rfl rfl rfl ?_
    repeat (first | refine r_op rfl rfl rfl rfl ?_ | refine r_skip rfl rfl rfl ?_ | refine .done ?_ | refine r_seq (T := TT) ?_ | refine r_region (T := TT) rfl ?_ | refine r_block (T := TT) ?_ | refine r_then (T := TT) rfl ?_ | refine r_else (T := TT) rfl ?_)
    refine r_call (okz_i_Mul (h'.1.fit (by omega)) (h.2.fit (by omega))) rfl rfl rfl rfl rfl rfl rfl ?_
    repeat (first | refine r_op rfl rfl rfl rfl ?_ | refine r_skip rfl rfl rfl ?_ | refine .done ?_ | refine r_seq (T := TT) ?_ | refine r_region (T := TT) rfl ?_ | refine r_block (T := TT) ?_ | refine r_then (T := TT) rfl ?_ | refine r_else (T := TT) rfl ?_)
    refine r_call (okz_i_Add ((h.1.mul h'.2).fit (by omega)) ((h'.1.mul h.2).fit (by omega))) rfl rfl rfl rfl rfl rfl rfl ?_
    repeat (first | refine r_op rfl rfl rfl rfl ?_ | refine r_skip rfl rfl rfl ?_ | refine .done ?_ | refine r_seq (T := TT) ?_ | refine r_region (T := TT) rfl ?_ | refine r_block (T := TT) ?_ | refine r_then (T := TT) rfl ?_ | refine r_else (T := TT) rfl ?_)
    refine r_call (okz_i_Mul (h.2.fit (by omega)) (h'.2.fit (by omega))) rfl rfl rfl rfl rfl rfl rfl ?_
    repeat (first | refine r_op rfl rfl rfl rfl ?_ | refine r_skip rfl rfl rfl ?_ | refine .done ?_ | refine r_seq (T := TT) ?_ | refine r_region (T := TT) rfl ?_ | refine r_block (T := TT) ?_ | refine r_then (T := TT) rfl ?_ | refine r_else (T := TT) rfl ?_)
    refine r_call (ok_q_lowest (k := j + k + 1) ((h.1.mul h'.2).add ((h'.1.mul h.2).mono (by omega))) ((h.2.mul h'.2).mono (by omega)) hk d0 (add_divInt a b)) rfl rfl rfl rfl rfl rfl rfl ?_
    repeat (first | refine r_op rfl rfl rfl rfl ?_ | refine r_skip rfl rfl rfl ?_ | refine .done ?_ | refine r_seq (T := TT) ?_ | refine r_region (T := TT) rfl ?_ | refine r_block (T := TT) ?_ | refine r_then (T := TT) rfl ?_ | refine r_else (T := TT) rfl ?_)
    exact r_fin (T := TT) rfl rfl
theorem ok_q_Floor {j : Nat} {a : Rat} {z : Int} (h : SzQ j a) (hk : j ≤ 2147483648) (hz : a.floor = z) : CallOK Tryz.prog 14 [dQ a] (.one (dZ z)) := by
  refine callOK_of TT_ok mixT Tryz.func14 rfl rfl (Nat.le_of_ble_eq_true rfl) ?_
  repeat (first | refine r_op rfl rfl rfl rfl ?_ | refine r_skip rfl rfl rfl ?_ | refine .done ?_ | refine r_seq (T := TT) ?_ | refine r_region (T := TT) rfl ?_ | refine r_block (T := TT) ?_ | refine r_then (T := TT) rfl ?_ | refine r_else (T := TT) rfl ?_)
  refine r_call (okz_i_DivMod (h.1.fit hk) (h.2.fit hk) (by have := den_pos a; omega) ((floor_fdiv a).trans hz) rfl) rfl rfl rfl rfl rfl rfl rfl ?_
  repeat (first | refine r_op rfl rfl rfl rfl ?_ | refine r_skip rfl rfl rfl ?_ | refine .done ?_ | refine r_seq (T := TT) ?_ | refine r_region (T := TT) rfl ?_ | refine r_block (T := TT) ?_ | refine r_then (T := TT) rfl ?_ | refine r_else (T := TT) rfl ?_)
  exact r_fin (T := TT) rfl rfl
end Go.Proofs.YtecjnnhkbmkemaaGreatDoor
