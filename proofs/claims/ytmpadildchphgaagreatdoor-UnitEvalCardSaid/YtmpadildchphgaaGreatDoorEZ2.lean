/- Parts of a proof: contracts of the functions that the laws reach. -/
import Derived.Test.YtmpadildchphgaaGreatDoorEAa
import Derived.Test.YtmpadildchphgaaGreatDoorEZ1
import Derived.Test.YtmpadildchphgaaGreatDoorEAe
import Derived.Test.YtmpadildchphgaaGreatDoorEShelf
import Derived.Test.YtmpadildchphgaaGreatDoorEAmG
import Derived.Shelf.Strconv.AppendUint10
import Derived.Shelf.Strconv.Itoa3
import Derived.Shelf.Strings.BuilderK
namespace Go.Proofs.YtmpadildchphgaaGreatDoor
theorem rat_eq {q : Rat} {n : Int} {d : Nat} (hd : 0 < d) (hc : Nat.gcd n.natAbs d = 1) (h : n * q.den = q.num * d) : q.num = n ∧ q.den = d := by
  have hp : (⟨n, d, by omega, hc⟩ : Rat) = q := by
    have h1 := Rat.num_divInt_den (⟨n, d, by omega, hc⟩ : Rat)
    have h2 := Rat.num_divInt_den q
    rw [← h1, ← h2, Rat.divInt_eq_divInt_iff (by show (d : Int) ≠ 0; omega) (by have := q.den_nz; omega)]
    exact h
  exact ⟨by rw [← hp], by rw [← hp]⟩
def gz (n d : Int) : Int := if d < 0 then -((Nat.gcd n.natAbs d.natAbs : Nat) : Int) else (Nat.gcd n.natAbs d.natAbs : Nat)
theorem gz_ne {n d : Int} (h : d ≠ 0) : gz n d ≠ 0 := by
  have : 0 < Nat.gcd n.natAbs d.natAbs := Nat.gcd_pos_of_pos_right _ (by omega)
  unfold gz; split <;> omega
theorem fdiv_of_mul {a b c : Int} (h : b ≠ 0) (e : a = b * c) : a.fdiv b = c := by rw [e]; exact Int.mul_fdiv_cancel_left _ h
theorem lowest_p {n d : Int} (hd : d ≠ 0) : n.fdiv (gz n d) = (Rat.divInt n d).num ∧ d.fdiv (gz n d) = ((Rat.divInt n d).den : Int) ∧ n = gz n d * (Rat.divInt n d).num ∧ d = gz n d * ((Rat.divInt n d).den : Int) := by
  have hg0 := gz_ne (n := n) hd
  obtain ⟨a, ha⟩ : ((Nat.gcd n.natAbs d.natAbs : Nat) : Int) ∣ n := Int.ofNat_dvd_left.2 (Nat.gcd_dvd_left _ _)
  obtain ⟨b, hb⟩ : ((Nat.gcd n.natAbs d.natAbs : Nat) : Int) ∣ d := Int.ofNat_dvd_left.2 (Nat.gcd_dvd_right _ _)
  have hp : 0 < Nat.gcd n.natAbs d.natAbs := Nat.gcd_pos_of_pos_right _ (by omega)
  obtain ⟨G, hG⟩ : ∃ G, Nat.gcd n.natAbs d.natAbs = G := ⟨_, rfl⟩
  have hG' := hG
  rw [hG] at ha hb hp
  have hab : Nat.gcd a.natAbs b.natAbs = 1 := by
    rw [ha, hb, Int.natAbs_mul, Int.natAbs_mul, Int.natAbs_natCast, Nat.gcd_mul_left] at hG
    exact Nat.eq_of_mul_eq_mul_left hp (by omega)
  obtain ⟨s, hs1, hs2⟩ : ∃ s : Int, gz n d = G * s ∧ (s = 1 ∧ 0 < b ∨ s = -1 ∧ b < 0) := by
    unfold gz
    rw [hG']
    have hb0 : b ≠ 0 := by rintro rfl; simp at hb; omega
    split
    · refine ⟨-1, by omega, .inr ⟨rfl, ?_⟩⟩
      rcases Int.lt_trichotomy b 0 with h | h | h
      · exact h
      · omega
      · have : 0 < (G : Int) * b := Int.mul_pos (by omega) h
        omega
    · refine ⟨1, by omega, .inl ⟨rfl, ?_⟩⟩
      rcases Int.lt_trichotomy b 0 with h | h | h
      · have : 0 < (G : Int) * (-b) := Int.mul_pos (by omega) (by omega)
        rw [Int.mul_neg] at this
        omega
      · omega
      · exact h
  have hq : (Rat.divInt n d).num = s * a ∧ (Rat.divInt n d).den = (s * b).toNat := by
    refine rat_eq ?_ ?_ ?_
    · rcases hs2 with ⟨rfl, h⟩ | ⟨rfl, h⟩ <;> omega
    · have e : (s * b).toNat = b.natAbs := by rcases hs2 with ⟨rfl, h⟩ | ⟨rfl, h⟩ <;> omega
      have e2 : (s * a).natAbs = a.natAbs := by rcases hs2 with ⟨rfl, h⟩ | ⟨rfl, h⟩ <;> omega
      rw [e, e2, hab]
    · have h1 := Rat.num_divInt_den (Rat.divInt n d)
      have h0 : ((Rat.divInt n d).den : Int) ≠ 0 := by have := (Rat.divInt n d).den_nz; omega
      have h2 := (Rat.divInt_eq_divInt_iff h0 hd).1 h1
      have h3 : ((s * b).toNat : Int) = s * b := by
        have : 0 ≤ s * b := by rcases hs2 with ⟨rfl, h⟩ | ⟨rfl, h⟩ <;> omega
        omega
      rw [h3]
      generalize (Rat.divInt n d).num = p at *
      generalize ((Rat.divInt n d).den : Int) = q at *
      rw [ha, hb] at h2
      have h4 : (G : Int) * (p * b) = G * (a * q) := by
        rw [← Int.mul_assoc, Int.mul_comm (G : Int) p, Int.mul_assoc, h2, Int.mul_assoc]
      have h5 := Int.eq_of_mul_eq_mul_left (by omega) h4
      rw [Int.mul_assoc, ← h5]
      simp [Int.mul_left_comm, Int.mul_comm]
  have hss : s * s = 1 := by rcases hs2 with ⟨rfl, _⟩ | ⟨rfl, _⟩ <;> rfl
  have e1 : n = gz n d * (Rat.divInt n d).num := by
    rw [hs1, hq.1, Int.mul_assoc, ← Int.mul_assoc s s a, hss, Int.one_mul]; exact ha
  have e2 : d = gz n d * ((Rat.divInt n d).den : Int) := by
    have h3 : ((s * b).toNat : Int) = s * b := by
      have : 0 ≤ s * b := by rcases hs2 with ⟨rfl, h⟩ | ⟨rfl, h⟩ <;> omega
      omega
    rw [hs1, hq.2, h3, Int.mul_assoc, ← Int.mul_assoc s s b, hss, Int.one_mul]; exact hb
  exact ⟨fdiv_of_mul hg0 e1, fdiv_of_mul hg0 e2, e1, e2⟩
theorem divInt_num_den (q : Rat) : Rat.divInt q.num q.den = q := Rat.num_divInt_den q
theorem den_pos (q : Rat) : 0 < (q.den : Int) := by have := q.den_nz; omega
theorem add_divInt (a b : Rat) : Rat.divInt (a.num * b.den + b.num * a.den) (a.den * b.den) = a + b := by
  have h := Rat.divInt_add_divInt a.num b.num (d₁ := a.den) (d₂ := b.den) (by have := den_pos a; omega) (by have := den_pos b; omega)
  rw [Rat.num_divInt_den, Rat.num_divInt_den] at h
  exact h.symm
theorem mul_divInt (a b : Rat) : Rat.divInt (a.num * b.num) (a.den * b.den) = a * b := by
  have h := Rat.divInt_mul_divInt a.num b.num (d₁ := a.den) (d₂ := b.den)
  rw [Rat.num_divInt_den, Rat.num_divInt_den] at h
  exact h.symm
theorem div_divInt (a b : Rat) : Rat.divInt (a.num * b.den) (a.den * b.num) = a / b := by
  rw [Rat.div_def, Rat.inv_def]
  have h := Rat.divInt_mul_divInt a.num b.den (d₁ := a.den) (d₂ := b.num)
  rw [Rat.num_divInt_den] at h
  exact h.symm
theorem of_den_one {q : Rat} {n : Int} (h : q = n) : q.num = n ∧ q.den = 1 := by subst h; exact ⟨rfl, rfl⟩
theorem eq_of_den {q : Rat} (h : q.den = 1) : q = (q.num : Rat) := Rat.ext rfl h
theorem add_one {a b : Rat} (ha : a.den = 1) (hb : b.den = 1) : (a + b).num = a.num + b.num ∧ (a + b).den = 1 := by
  refine of_den_one ?_
  rw [eq_of_den ha, eq_of_den hb]
  simp
theorem mul_one' {a b : Rat} (ha : a.den = 1) (hb : b.den = 1) : (a * b).num = a.num * b.num ∧ (a * b).den = 1 := by
  refine of_den_one ?_
  rw [eq_of_den ha, eq_of_den hb]
  simp
theorem add_cop {a b : Rat} (h : Nat.gcd a.den b.den = 1) : (a + b).num = a.num * b.den + b.num * a.den ∧ (a + b).den = a.den * b.den := by
  show (Rat.add a b).num = _ ∧ (Rat.add a b).den = _
  rw [Rat.add.eq_1, dif_pos h]
  exact ⟨rfl, rfl⟩
theorem maybe_p (n : Int) (d g : Nat) (h1 h2 h3 h4) : (Rat.maybeNormalize n d g h1 h2 h3 h4).num = n / g ∧ (Rat.maybeNormalize n d g h1 h2 h3 h4).den = d / g := by
  unfold Rat.maybeNormalize
  split
  · rename_i h; subst h; simp
  · exact ⟨Int.divExact_eq_ediv h1, rfl⟩
theorem add_gen {a b : Rat} {g h : Nat} (hg : Nat.gcd a.den b.den = g) (hg1 : g ≠ 1) (hh : Nat.gcd (a.num * (b.den / g : Nat) + b.num * (a.den / g : Nat)).natAbs g = h) : (a + b).num = (a.num * (b.den / g : Nat) + b.num * (a.den / g : Nat)) / h ∧ (a + b).den = a.den / g * (b.den / h) := by
  subst hg
  have h0 : (a + b).num = (a.num * (b.den / Nat.gcd a.den b.den : Nat) + b.num * (a.den / Nat.gcd a.den b.den : Nat)) / h ∧ (a + b).den = a.den / Nat.gcd a.den b.den * b.den / h := by
    subst hh
    show (Rat.add a b).num = _ ∧ (Rat.add a b).den = _
    rw [Rat.add.eq_1, dif_neg hg1]
    exact maybe_p _ _ _ _ _ _ _
  refine ⟨h0.1, h0.2.trans ?_⟩
  refine Nat.mul_div_assoc _ ?_
  rw [← hh]
  exact Nat.dvd_trans (Nat.gcd_dvd_right _ _) (Nat.gcd_dvd_right _ _)
theorem mul_gen (a b : Rat) : (a * b).num = (a.num / (Nat.gcd a.num.natAbs b.den : Nat)) * (b.num / (Nat.gcd b.num.natAbs a.den : Nat)) ∧ (a * b).den = (a.den / Nat.gcd b.num.natAbs a.den) * (b.den / Nat.gcd a.num.natAbs b.den) := by
  show (Rat.mul a b).num = _ ∧ (Rat.mul a b).den = _
  rw [Rat.mul.eq_1]
  simp only [Int.divExact_eq_ediv, Nat.divExact_eq_div]
  exact ⟨trivial, trivial⟩
def sgQ (q : Rat) : Int := q.num.sign
theorem inv_p (b : Rat) (h : b ≠ 0) : (b⁻¹).num = (if b.num < 0 then -(b.den : Int) else b.den) ∧ ((b⁻¹).den : Int) = (if b.num < 0 then -b.num else b.num) := by
  have h0 : b.num ≠ 0 := fun e => h (Rat.num_eq_zero.1 e)
  rw [Rat.num_inv, Rat.den_inv, if_neg h0]
  rcases Int.lt_or_gt_of_ne h0 with h1 | h1
  · rw [if_pos h1, if_pos h1, Int.sign_eq_neg_one_of_neg h1]; omega
  · rw [if_neg (by omega), if_neg (by omega), Int.sign_eq_one_of_pos h1]; omega
end Go.Proofs.YtmpadildchphgaaGreatDoor
namespace Go.Proofs.YtmpadildchphgaaGreatDoor
def fmtQ (q : Rat) : List UInt8 := if q.den = 1 then fmt q.num else fmt q.num ++ 47 :: fmt q.den
end Go.Proofs.YtmpadildchphgaaGreatDoor
namespace Go.Proofs.YtmpadildchphgaaGreatDoor
open Go.RowKit
def aQ (q : Rat) : List AV := aZ q.num ++ aZ q.den
def dQ (q : Rat) : DV := .agg (aQ q)
def aI2 (na : Bool) (xs : List Nat) (nb : Bool) (ys : List Nat) : List AV := aI na xs ++ aI nb ys
def dI2 (na : Bool) (xs : List Nat) (nb : Bool) (ys : List Nat) : DV := .agg (aI2 na xs nb ys)
def aQ0 : List AV := [.val (.bool false), .sl 0 [], .val (.bool false), .sl 0 []]
def dQ0 : DV := .agg aQ0
def Sz (k : Nat) (z : Int) : Prop := z.natAbs < 4294967296 ^ k
theorem Sz.fit {k : Nat} {z : Int} (h : Sz k z) (hk : k ≤ 2147483648) : FitZ z := .of_lt h hk
theorem Sz.mono {j k : Nat} {z : Int} (h : Sz j z) (hk : j ≤ k) : Sz k z := Nat.lt_of_lt_of_le h (Nat.pow_le_pow_right (by decide) hk)
theorem Sz.of_le {k : Nat} {a b : Int} (h : Sz k b) (hl : a.natAbs ≤ b.natAbs) : Sz k a := Nat.lt_of_le_of_lt hl h
theorem Sz.mul {j k : Nat} {a b : Int} (h : Sz j a) (h' : Sz k b) : Sz (j + k) (a * b) := by
  unfold Sz at *
  rw [Int.natAbs_mul, Nat.pow_add]
  exact Nat.mul_lt_mul'' h h'
theorem Sz.add {k : Nat} {a b : Int} (h : Sz k a) (h' : Sz k b) : Sz (k + 1) (a + b) := by
  unfold Sz at *
  have := Int.natAbs_add_le a b
  have : 0 < 4294967296 ^ k := Nat.pow_pos (by decide)
  rw [Nat.pow_succ]
  omega
theorem Sz.neg {k : Nat} {a : Int} (h : Sz k a) : Sz k (-a) := by unfold Sz at *; rw [Int.natAbs_neg]; exact h
theorem Sz.sub {k : Nat} {a b : Int} (h : Sz k a) (h' : Sz k b) : Sz (k + 1) (a - b) := by rw [Int.sub_eq_add_neg]; exact h.add h'.neg
theorem Sz.small {z : Int} (h : z.natAbs < 4294967296) : Sz 1 z := by unfold Sz; simpa using h
theorem Sz.i64 {z : Int} (h1 : -9223372036854775808 ≤ z) (h2 : z < 9223372036854775808) : Sz 2 z := by unfold Sz; omega
theorem Sz.gcd {k : Nat} {n d : Int} (h : Sz k d) (hd : d ≠ 0) : Sz k (Nat.gcd n.natAbs d.natAbs : Nat) := by
  refine h.of_le ?_
  rw [Int.natAbs_natCast]
  exact Nat.le_of_dvd (by omega) (Nat.gcd_dvd_right _ _)
theorem Sz.digs {k : Nat} {z : Int} (h : Sz k z) : (digs z.natAbs).length ≤ k := digs_length_le h
theorem Sz.of_digs {k : Nat} {z : Int} (h : (Go.Proofs.YtmpadildchphgaaGreatDoor.digs z.natAbs).length ≤ k) : Sz k z := lt_of_digs h
def SzQ (k : Nat) (q : Rat) : Prop := Sz k q.num ∧ Sz k q.den
theorem SzQ.mono {j k : Nat} {q : Rat} (h : SzQ j q) (hk : j ≤ k) : SzQ k q := ⟨h.1.mono hk, h.2.mono hk⟩
theorem SzQ.divInt {k : Nat} {n d : Int} (h : Sz k n) (h' : Sz k d) (hd : d ≠ 0) : SzQ k (Rat.divInt n d) := by
  obtain ⟨_, _, h1, h2⟩ := lowest_p (n := n) (d := d) hd
  have hg : 0 < (gz n d).natAbs := by have := gz_ne (n := n) hd; omega
  refine ⟨h.of_le ?_, h'.of_le ?_⟩
  · conv => rhs; rw [h1, Int.natAbs_mul]
    exact Nat.le_mul_of_pos_left _ hg
  · conv => rhs; rw [h2, Int.natAbs_mul]
    exact Nat.le_mul_of_pos_left _ hg
theorem SzQ.add {j k : Nat} {a b : Rat} (h : SzQ j a) (h' : SzQ k b) : SzQ (j + k + 1) (a + b) := by
  rw [← add_divInt]
  refine .divInt ?_ ((h.2.mul h'.2).mono (by omega)) (by have := Int.mul_pos (den_pos a) (den_pos b); omega)
  exact Sz.add (h.1.mul h'.2) ((h'.1.mul h.2).mono (by omega))
theorem SzQ.neg {k : Nat} {a : Rat} (h : SzQ k a) : SzQ k (-a) := ⟨by rw [Rat.neg_num]; exact h.1.neg, h.2⟩
theorem SzQ.sub {j k : Nat} {a b : Rat} (h : SzQ j a) (h' : SzQ k b) : SzQ (j + k + 1) (a - b) := by rw [Rat.sub_eq_add_neg]; exact h.add h'.neg
theorem SzQ.mul {j k : Nat} {a b : Rat} (h : SzQ j a) (h' : SzQ k b) : SzQ (j + k) (a * b) := by
  rw [← mul_divInt]
  exact .divInt (h.1.mul h'.1) (h.2.mul h'.2) (by have := Int.mul_pos (den_pos a) (den_pos b); omega)
theorem SzQ.div {j k : Nat} {a b : Rat} (h : SzQ j a) (h' : SzQ k b) (hb : b ≠ 0) : SzQ (j + k) (a / b) := by
  rw [← div_divInt]
  have h0 : b.num ≠ 0 := fun e => hb (Rat.num_eq_zero.1 e)
  refine .divInt (h.1.mul h'.2) (h.2.mul h'.1) ?_
  exact Int.mul_ne_zero (by have := den_pos a; omega) h0
theorem digs_one_iff {z : Int} : (!decide (z < 0) && decide (digs z.natAbs = [1])) = decide (z = 1) := by
  by_cases h : z = 1
  · subst h; rw [show (1 : Int).natAbs = 1 from rfl, digs_small (by decide) (by decide)]; rfl
  · rw [decide_eq_false h]
    by_cases hn : z < 0
    · simp [hn]
    · have : digs z.natAbs ≠ [1] := fun e => by
        have h1 := congrArg val e
        rw [val_digs] at h1
        simp [val] at h1
        omega
      simp [this]
theorem digs_nil_iff {z : Int} : decide (((digs z.natAbs).length : Int) = 0) = decide (z = 0) := by
  have := digs_length_zero (n := z.natAbs)
  by_cases h : z = 0
  · subst h; rw [decide_eq_true rfl]; exact decide_eq_true (by have := this.2 rfl; omega)
  · rw [decide_eq_false h]; exact decide_eq_false (fun e => h (by have := this.1 (by omega); omega))
end Go.Proofs.YtmpadildchphgaaGreatDoor
namespace Go.Proofs.YtmpadildchphgaaGreatDoor
open Go.RowKit
theorem ok_q_one : CallOK Tryz.prog 72 [] (.one (dZ 1)) := by
  refine callOK_of TT_ok mixT Tryz.func72 rfl rfl (Nat.le_of_ble_eq_true rfl) ?_
  repeat (first | refine r_op rfl rfl rfl rfl ?_ | refine r_skip rfl rfl rfl ?_ | refine .done ?_ | refine r_seq (T := TT) ?_ | refine r_region (T := TT) rfl ?_ | refine r_block (T := TT) ?_ | refine r_then (T := TT) rfl ?_ | refine r_else (T := TT) rfl ?_)
  refine r_call (ok_i_FromInt 1 (by decide) (by decide)) rfl rfl rfl rfl rfl rfl rfl ?_
  repeat (first | refine r_op rfl rfl rfl rfl ?_ | refine r_skip rfl rfl rfl ?_ | refine .done ?_ | refine r_seq (T := TT) ?_ | refine r_region (T := TT) rfl ?_ | refine r_block (T := TT) ?_ | refine r_then (T := TT) rfl ?_ | refine r_else (T := TT) rfl ?_)
  exact r_fin (T := TT) rfl rfl
theorem ok_q_isOne {na : Bool} {xs : List Nat} {b : Bool} (hb : (!na && decide (xs = [1])) = b) : CallOK Tryz.prog 70 [dI na xs] (.one (dB b)) := by
  subst hb
  cases na
  · match xs with
    | [] =>
      refine callOK_of TT_ok mixT Tryz.func70 rfl rfl (Nat.le_of_ble_eq_true rfl) ?_
      repeat (first | refine r_op rfl rfl rfl rfl ?_ | refine r_skip rfl rfl rfl ?_ | refine .done ?_ | refine r_seq (T := TT) ?_ | refine r_region (T := TT) rfl ?_ | refine r_block (T := TT) ?_ | refine r_then (T := TT) rfl ?_ | refine r_else (T := TT) rfl ?_)
      exact r_fin (T := TT) rfl rfl
    | [x] =>
      refine callOK_of TT_ok mixT Tryz.func70 rfl rfl (Nat.le_of_ble_eq_true rfl) ?_
      repeat (first | refine r_op rfl rfl rfl rfl ?_ | refine r_skip rfl rfl rfl ?_ | refine .done ?_ | refine r_seq (T := TT) ?_ | refine r_region (T := TT) rfl ?_ | refine r_block (T := TT) ?_ | refine r_then (T := TT) rfl ?_ | refine r_else (T := TT) rfl ?_)
      refine r_idx (cs' := [AV.val (W32 x)]) (i := 0) (Nat.lt_succ_self 0) (fun j a h => by simpa using h) (Nat.lt_succ_self 0) rfl rfl rfl rfl rfl rfl rfl rfl ?_
      repeat (first | refine r_op rfl rfl rfl rfl ?_ | refine r_skip rfl rfl rfl ?_ | refine .done ?_ | refine r_seq (T := TT) ?_ | refine r_region (T := TT) rfl ?_ | refine r_block (T := TT) ?_ | refine r_then (T := TT) rfl ?_ | refine r_else (T := TT) rfl ?_)
      rw [show (!false && decide ([x] = [1])) = decide ((x : Int) = 1) by by_cases h : x = 1 <;> simp [h] <;> omega]
      exact r_fin (T := TT) rfl rfl
    | x :: y :: r =>
      refine callOK_of TT_ok mixT Tryz.func70 rfl rfl (Nat.le_of_ble_eq_true rfl) ?_
      repeat refine r_seq (T := TT) ?_
      refine r_region (T := TT) rfl ?_
      repeat (first | refine r_op rfl rfl rfl rfl ?_ | refine r_skip rfl rfl rfl ?_)
      try refine .done ?_
      repeat refine r_seq (T := TT) ?_
      refine r_region (T := TT) rfl ?_
      iterate 7 (first | refine r_op rfl rfl rfl rfl ?_ | refine r_skip rfl rfl rfl ?_)
      refine r_eq (v' := .bool false) rfl rfl rfl rfl ?_ ?_
      · exact congrArg Value.bool (decide_eq_false (by simp only [List.length_cons]; omega))
      repeat (first | refine r_op rfl rfl rfl rfl ?_ | refine r_skip rfl rfl rfl ?_ | refine .done ?_ | refine r_seq (T := TT) ?_ | refine r_region (T := TT) rfl ?_ | refine r_block (T := TT) ?_ | refine r_then (T := TT) rfl ?_ | refine r_else (T := TT) rfl ?_)
      rw [show (!false && decide (x :: y :: r = [1])) = false by simp]
      exact r_fin (T := TT) rfl rfl
  · refine callOK_of TT_ok mixT Tryz.func70 rfl rfl (Nat.le_of_ble_eq_true rfl) ?_
    repeat (first | refine r_op rfl rfl rfl rfl ?_ | refine r_skip rfl rfl rfl ?_ | refine .done ?_ | refine r_seq (T := TT) ?_ | refine r_region (T := TT) rfl ?_ | refine r_block (T := TT) ?_ | refine r_then (T := TT) rfl ?_ | refine r_else (T := TT) rfl ?_)
    exact r_fin (T := TT) rfl rfl
theorem ok_r2_one {na : Bool} {xs : List Nat} {b : Bool} (hb : (!na && decide (xs = [1])) = b) : CallOK Tryz.prog 75 [dI na xs] (.one (dB b)) := by
  subst hb
  match xs with
  | [] =>
    refine callOK_of TT_ok mixT Tryz.func75 rfl rfl (Nat.le_of_ble_eq_true rfl) ?_
    repeat (first | refine r_op rfl rfl rfl rfl ?_ | refine r_skip rfl rfl rfl ?_ | refine .done ?_ | refine r_seq (T := TT) ?_ | refine r_region (T := TT) rfl ?_ | refine r_block (T := TT) ?_ | refine r_then (T := TT) rfl ?_ | refine r_else (T := TT) rfl ?_)
    rw [show (!na && decide (([] : List Nat) = [1])) = false by simp]
    exact r_fin (T := TT) rfl rfl
  | [x] =>
    refine callOK_of TT_ok mixT Tryz.func75 rfl rfl (Nat.le_of_ble_eq_true rfl) ?_
    repeat (first | refine r_op rfl rfl rfl rfl ?_ | refine r_skip rfl rfl rfl ?_ | refine .done ?_ | refine r_seq (T := TT) ?_ | refine r_region (T := TT) rfl ?_ | refine r_block (T := TT) ?_ | refine r_then (T := TT) rfl ?_ | refine r_else (T := TT) rfl ?_)
    refine r_idx (cs' := [AV.val (W32 x)]) (i := 0) (Nat.lt_succ_self 0) (fun j a h => by simpa using h) (Nat.lt_succ_self 0) rfl rfl rfl rfl rfl rfl rfl rfl ?_
    iterate 1 (first | refine r_op rfl rfl rfl rfl ?_ | refine r_skip rfl rfl rfl ?_)
    by_cases h : x = 1
    · refine r_eq (v' := .bool true) rfl rfl rfl rfl ?_ ?_
      · exact congrArg Value.bool (decide_eq_true (by omega))
      repeat (first | refine r_op rfl rfl rfl rfl ?_ | refine r_skip rfl rfl rfl ?_ | refine .done ?_ | refine r_seq (T := TT) ?_ | refine r_region (T := TT) rfl ?_ | refine r_block (T := TT) ?_ | refine r_then (T := TT) rfl ?_ | refine r_else (T := TT) rfl ?_)
      rw [show (!na && decide ([x] = [1])) = !na by simp [h]]
      exact r_fin (T := TT) rfl rfl
    · refine r_eq (v' := .bool false) rfl rfl rfl rfl ?_ ?_
      · exact congrArg Value.bool (decide_eq_false (by omega))
      repeat (first | refine r_op rfl rfl rfl rfl ?_ | refine r_skip rfl rfl rfl ?_ | refine .done ?_ | refine r_seq (T := TT) ?_ | refine r_region (T := TT) rfl ?_ | refine r_block (T := TT) ?_ | refine r_then (T := TT) rfl ?_ | refine r_else (T := TT) rfl ?_)
      rw [show (!na && decide ([x] = [1])) = false by simp [h]]
      exact r_fin (T := TT) rfl rfl
  | x :: y :: r =>
    refine callOK_of TT_ok mixT Tryz.func75 rfl rfl (Nat.le_of_ble_eq_true rfl) ?_
    repeat refine r_seq (T := TT) ?_
    refine r_region (T := TT) rfl ?_
    repeat (first | refine r_op rfl rfl rfl rfl ?_ | refine r_skip rfl rfl rfl ?_)
    try refine .done ?_
    repeat refine r_seq (T := TT) ?_
    refine r_region (T := TT) rfl ?_
    iterate 3 (first | refine r_op rfl rfl rfl rfl ?_ | refine r_skip rfl rfl rfl ?_)
    refine r_eq (v' := .bool false) rfl rfl rfl rfl ?_ ?_
    · exact congrArg Value.bool (decide_eq_false (by simp only [List.length_cons]; omega))
    repeat (first | refine r_op rfl rfl rfl rfl ?_ | refine r_skip rfl rfl rfl ?_ | refine .done ?_ | refine r_seq (T := TT) ?_ | refine r_region (T := TT) rfl ?_ | refine r_block (T := TT) ?_ | refine r_then (T := TT) rfl ?_ | refine r_else (T := TT) rfl ?_)
    rw [show (!na && decide (x :: y :: r = [1])) = false by simp]
    exact r_fin (T := TT) rfl rfl
theorem okz_q_isOne {z : Int} {b : Bool} (hb : decide (z = 1) = b) : CallOK Tryz.prog 70 [dZ z] (.one (dB b)) := ok_q_isOne (by rw [digs_one_iff, hb])
theorem okz_r2_one {z : Int} {b : Bool} (hb : decide (z = 1) = b) : CallOK Tryz.prog 75 [dZ z] (.one (dB b)) := ok_r2_one (by rw [digs_one_iff, hb])
theorem okz_q_isZero {z : Int} {b : Bool} (hb : decide (z = 0) = b) : CallOK Tryz.prog 80 [dZ z] (.one (dB b)) := by
  refine callOK_of TT_ok mixT Tryz.func80 rfl rfl (Nat.le_of_ble_eq_true rfl) ?_
  repeat (first | refine r_op rfl rfl rfl rfl ?_ | refine r_skip rfl rfl rfl ?_ | refine .done ?_ | refine r_seq (T := TT) ?_ | refine r_region (T := TT) rfl ?_ | refine r_block (T := TT) ?_ | refine r_then (T := TT) rfl ?_ | refine r_else (T := TT) rfl ?_)
  rw [← hb, ← digs_nil_iff]
  exact r_fin (T := TT) rfl rfl
theorem ok_q_quo {a b c : Int} (h1 : FitZ a) (h2 : FitZ b) (hb : b ≠ 0) (h : a.fdiv b = c) : CallOK Tryz.prog 106 [dZ a, dZ b] (.one (dZ c)) := by
  by_cases h1' : b = 1
  · subst h1'
    rw [Int.fdiv_one] at h
    subst h
    refine callOK_of TT_ok mixT Tryz.func106 rfl rfl (Nat.le_of_ble_eq_true rfl) ?_
    repeat (first | refine r_op rfl rfl rfl rfl ?_ | refine r_skip rfl rfl rfl ?_ | refine .done ?_ | refine r_seq (T := TT) ?_ | refine r_region (T := TT) rfl ?_ | refine r_block (T := TT) ?_ | refine r_then (T := TT) rfl ?_ | refine r_else (T := TT) rfl ?_)
    refine r_call (okz_q_isOne (z := 1) (b := true) rfl) rfl rfl rfl rfl rfl rfl rfl ?_
    repeat (first | refine r_op rfl rfl rfl rfl ?_ | refine r_skip rfl rfl rfl ?_ | refine .done ?_ | refine r_seq (T := TT) ?_ | refine r_region (T := TT) rfl ?_ | refine r_block (T := TT) ?_ | refine r_then (T := TT) rfl ?_ | refine r_else (T := TT) rfl ?_)
    exact r_fin (T := TT) rfl rfl
  · refine callOK_of TT_ok mixT Tryz.func106 rfl rfl (Nat.le_of_ble_eq_true rfl) ?_
    repeat (first | refine r_op rfl rfl rfl rfl ?_ | refine r_skip rfl rfl rfl ?_ | refine .done ?_ | refine r_seq (T := TT) ?_ | refine r_region (T := TT) rfl ?_ | refine r_block (T := TT) ?_ | refine r_then (T := TT) rfl ?_ | refine r_else (T := TT) rfl ?_)
    refine r_call (okz_q_isOne (z := b) (b := false) (decide_eq_false h1')) rfl rfl rfl rfl rfl rfl rfl ?_
    repeat (first | refine r_op rfl rfl rfl rfl ?_ | refine r_skip rfl rfl rfl ?_ | refine .done ?_ | refine r_seq (T := TT) ?_ | refine r_region (T := TT) rfl ?_ | refine r_block (T := TT) ?_ | refine r_then (T := TT) rfl ?_ | refine r_else (T := TT) rfl ?_)
    refine r_call (okz_i_DivMod h1 h2 hb h rfl) rfl rfl rfl rfl rfl rfl rfl ?_
    repeat (first | refine r_op rfl rfl rfl rfl ?_ | refine r_skip rfl rfl rfl ?_ | refine .done ?_ | refine r_seq (T := TT) ?_ | refine r_region (T := TT) rfl ?_ | refine r_block (T := TT) ?_ | refine r_then (T := TT) rfl ?_ | refine r_else (T := TT) rfl ?_)
    exact r_fin (T := TT) rfl rfl
theorem ok_r2_quo {a b c : Int} (h1 : FitZ a) (h2 : FitZ b) (hb : b ≠ 0) (h : a.fdiv b = c) : CallOK Tryz.prog 79 [dZ a, dZ b] (.one (dZ c)) := by
  refine callOK_of TT_ok mixT Tryz.func79 rfl rfl (Nat.le_of_ble_eq_true rfl) ?_
  repeat (first | refine r_op rfl rfl rfl rfl ?_ | refine r_skip rfl rfl rfl ?_ | refine .done ?_ | refine r_seq (T := TT) ?_ | refine r_region (T := TT) rfl ?_ | refine r_block (T := TT) ?_ | refine r_then (T := TT) rfl ?_ | refine r_else (T := TT) rfl ?_)
  refine r_call (okz_r1_DivMod h1 h2 hb h rfl) rfl rfl rfl rfl rfl rfl rfl ?_
  repeat (first | refine r_op rfl rfl rfl rfl ?_ | refine r_skip rfl rfl rfl ?_ | refine .done ?_ | refine r_seq (T := TT) ?_ | refine r_region (T := TT) rfl ?_ | refine r_block (T := TT) ?_ | refine r_then (T := TT) rfl ?_ | refine r_else (T := TT) rfl ?_)
  exact r_fin (T := TT) rfl rfl
theorem gz_pos {n d : Int} {g : Nat} (hg : Nat.gcd n.natAbs d.natAbs = g) (h : ¬ d < 0) : gz n d = g := by unfold gz; rw [if_neg h, hg]
theorem gz_neg {n d : Int} {g : Nat} (hg : Nat.gcd n.natAbs d.natAbs = g) (h : d < 0) : gz n d = -(g : Int) := by unfold gz; rw [if_pos h, hg]
theorem ok_q_lowest {k : Nat} {n d : Int} {q : Rat} (h1 : Sz k n) (h2 : Sz k d) (hk : k ≤ 2147483648) (hd : d ≠ 0) (hq : Rat.divInt n d = q) : CallOK Tryz.prog 74 [dZ n, dZ d] (.one (dQ q)) := by
  subst hq
  obtain ⟨e1, e2, _, _⟩ := lowest_p (n := n) hd
  have hg0 := gz_ne (n := n) hd
  have hsg := h2.gcd (n := n) hd
  obtain ⟨g, hg⟩ : ∃ g, Nat.gcd n.natAbs d.natAbs = g := ⟨_, rfl⟩
  rw [hg] at hsg
  by_cases h : d < 0
  · rw [gz_neg hg h] at e1 e2 hg0
    refine callOK_of TT_ok mixT Tryz.func74 rfl rfl (Nat.le_of_ble_eq_true rfl) ?_
    repeat (first | refine r_op rfl rfl rfl rfl ?_ | refine r_skip rfl rfl rfl ?_ | refine .done ?_ | refine r_seq (T := TT) ?_ | refine r_region (T := TT) rfl ?_ | refine r_block (T := TT) ?_ | refine r_then (T := TT) rfl ?_ | refine r_else (T := TT) rfl ?_)
    refine r_call (okz_i_GCD (h1.fit hk) (h2.fit hk) hg) rfl rfl rfl rfl rfl rfl rfl ?_
    repeat (first | refine r_op rfl rfl rfl rfl ?_ | refine r_skip rfl rfl rfl ?_ | refine .done ?_ | refine r_seq (T := TT) ?_ | refine r_region (T := TT) rfl ?_ | refine r_block (T := TT) ?_ | refine r_then (T := TT) rfl ?_ | refine r_else (T := TT) rfl ?_)
    refine r_then2 (T := TT) rfl ?_ ?_
    · exact decide_eq_true h
    repeat (first | refine r_op rfl rfl rfl rfl ?_ | refine r_skip rfl rfl rfl ?_ | refine .done ?_ | refine r_seq (T := TT) ?_ | refine r_region (T := TT) rfl ?_ | refine r_block (T := TT) ?_ | refine r_then (T := TT) rfl ?_ | refine r_else (T := TT) rfl ?_)
    refine r_call (okz_i_Neg (hsg.fit hk)) rfl rfl rfl rfl rfl rfl rfl ?_
    repeat (first | refine r_op rfl rfl rfl rfl ?_ | refine r_skip rfl rfl rfl ?_ | refine .done ?_ | refine r_seq (T := TT) ?_ | refine r_region (T := TT) rfl ?_ | refine r_block (T := TT) ?_ | refine r_then (T := TT) rfl ?_ | refine r_else (T := TT) rfl ?_)
    refine r_call (ok_q_quo (h1.fit hk) (hsg.neg.fit hk) hg0 e1) rfl rfl rfl rfl rfl rfl rfl ?_
    repeat (first | refine r_op rfl rfl rfl rfl ?_ | refine r_skip rfl rfl rfl ?_ | refine .done ?_ | refine r_seq (T := TT) ?_ | refine r_region (T := TT) rfl ?_ | refine r_block (T := TT) ?_ | refine r_then (T := TT) rfl ?_ | refine r_else (T := TT) rfl ?_)
    refine r_call (ok_q_quo (h2.fit hk) (hsg.neg.fit hk) hg0 e2) rfl rfl rfl rfl rfl rfl rfl ?_
    repeat (first | refine r_op rfl rfl rfl rfl ?_ | refine r_skip rfl rfl rfl ?_ | refine .done ?_ | refine r_seq (T := TT) ?_ | refine r_region (T := TT) rfl ?_ | refine r_block (T := TT) ?_ | refine r_then (T := TT) rfl ?_ | refine r_else (T := TT) rfl ?_)
    exact r_fin (T := TT) rfl rfl
  · rw [gz_pos hg h] at e1 e2 hg0
    refine callOK_of TT_ok mixT Tryz.func74 rfl rfl (Nat.le_of_ble_eq_true rfl) ?_
    repeat (first | refine r_op rfl rfl rfl rfl ?_ | refine r_skip rfl rfl rfl ?_ | refine .done ?_ | refine r_seq (T := TT) ?_ | refine r_region (T := TT) rfl ?_ | refine r_block (T := TT) ?_ | refine r_then (T := TT) rfl ?_ | refine r_else (T := TT) rfl ?_)
    refine r_call (okz_i_GCD (h1.fit hk) (h2.fit hk) hg) rfl rfl rfl rfl rfl rfl rfl ?_
    repeat (first | refine r_op rfl rfl rfl rfl ?_ | refine r_skip rfl rfl rfl ?_ | refine .done ?_ | refine r_seq (T := TT) ?_ | refine r_region (T := TT) rfl ?_ | refine r_block (T := TT) ?_ | refine r_then (T := TT) rfl ?_ | refine r_else (T := TT) rfl ?_)
    refine r_else2 (T := TT) rfl ?_ ?_
    · exact decide_eq_false h
    repeat (first | refine r_op rfl rfl rfl rfl ?_ | refine r_skip rfl rfl rfl ?_ | refine .done ?_ | refine r_seq (T := TT) ?_ | refine r_region (T := TT) rfl ?_ | refine r_block (T := TT) ?_ | refine r_then (T := TT) rfl ?_ | refine r_else (T := TT) rfl ?_)
    refine r_call (ok_q_quo (h1.fit hk) (hsg.fit hk) hg0 e1) rfl rfl rfl rfl rfl rfl rfl ?_
    repeat (first | refine r_op rfl rfl rfl rfl ?_ | refine r_skip rfl rfl rfl ?_ | refine .done ?_ | refine r_seq (T := TT) ?_ | refine r_region (T := TT) rfl ?_ | refine r_block (T := TT) ?_ | refine r_then (T := TT) rfl ?_ | refine r_else (T := TT) rfl ?_)
    refine r_call (ok_q_quo (h2.fit hk) (hsg.fit hk) hg0 e2) rfl rfl rfl rfl rfl rfl rfl ?_
    repeat (first | refine r_op rfl rfl rfl rfl ?_ | refine r_skip rfl rfl rfl ?_ | refine .done ?_ | refine r_seq (T := TT) ?_ | refine r_region (T := TT) rfl ?_ | refine r_block (T := TT) ?_ | refine r_then (T := TT) rfl ?_ | refine r_else (T := TT) rfl ?_)
    exact r_fin (T := TT) rfl rfl
theorem ok_r2_Make {k : Nat} {n d : Int} {q : Rat} (h1 : Sz k n) (h2 : Sz k d) (hk : k ≤ 2147483648) (hd : d ≠ 0) (hq : Rat.divInt n d = q) : CallOK Tryz.prog 68 [dZ n, dZ d] (.one (dQ q)) := by
  subst hq
  obtain ⟨e1, e2, _, _⟩ := lowest_p (n := n) hd
  have hg0 := gz_ne (n := n) hd
  have hsg := h2.gcd (n := n) hd
  obtain ⟨g, hg⟩ : ∃ g, Nat.gcd n.natAbs d.natAbs = g := ⟨_, rfl⟩
  rw [hg] at hsg
  by_cases h : d < 0
  · rw [gz_neg hg h] at e1 e2 hg0
    have hs : CallOK Tryz.prog 65 [dZ d] (.one (dN .i64 (-1))) := by have := okz_r1_Sign d; rwa [Int.sign_eq_neg_one_of_neg h] at this
    refine callOK_of TT_ok mixT Tryz.func68 rfl rfl (Nat.le_of_ble_eq_true rfl) ?_
    repeat (first | refine r_op rfl rfl rfl rfl ?_ | refine r_skip rfl rfl rfl ?_ | refine .done ?_ | refine r_seq (T := TT) ?_ | refine r_region (T := TT) rfl ?_ | refine r_block (T := TT) ?_ | refine r_then (T := TT) rfl ?_ | refine r_else (T := TT) rfl ?_)
    refine r_call (okz_r1_GCD (h1.fit hk) (h2.fit hk) hg) rfl rfl rfl rfl rfl rfl rfl ?_
    repeat (first | refine r_op rfl rfl rfl rfl ?_ | refine r_skip rfl rfl rfl ?_ | refine .done ?_ | refine r_seq (T := TT) ?_ | refine r_region (T := TT) rfl ?_ | refine r_block (T := TT) ?_ | refine r_then (T := TT) rfl ?_ | refine r_else (T := TT) rfl ?_)
    refine r_call (hs) rfl rfl rfl rfl rfl rfl rfl ?_
    repeat (first | refine r_op rfl rfl rfl rfl ?_ | refine r_skip rfl rfl rfl ?_ | refine .done ?_ | refine r_seq (T := TT) ?_ | refine r_region (T := TT) rfl ?_ | refine r_block (T := TT) ?_ | refine r_then (T := TT) rfl ?_ | refine r_else (T := TT) rfl ?_)
    refine r_call (okz_r1_Neg g) rfl rfl rfl rfl rfl rfl rfl ?_
    repeat (first | refine r_op rfl rfl rfl rfl ?_ | refine r_skip rfl rfl rfl ?_ | refine .done ?_ | refine r_seq (T := TT) ?_ | refine r_region (T := TT) rfl ?_ | refine r_block (T := TT) ?_ | refine r_then (T := TT) rfl ?_ | refine r_else (T := TT) rfl ?_)
    refine r_call (ok_r2_quo (h1.fit hk) (hsg.neg.fit hk) hg0 e1) rfl rfl rfl rfl rfl rfl rfl ?_
    repeat (first | refine r_op rfl rfl rfl rfl ?_ | refine r_skip rfl rfl rfl ?_ | refine .done ?_ | refine r_seq (T := TT) ?_ | refine r_region (T := TT) rfl ?_ | refine r_block (T := TT) ?_ | refine r_then (T := TT) rfl ?_ | refine r_else (T := TT) rfl ?_)
    refine r_call (ok_r2_quo (h2.fit hk) (hsg.neg.fit hk) hg0 e2) rfl rfl rfl rfl rfl rfl rfl ?_
    repeat (first | refine r_op rfl rfl rfl rfl ?_ | refine r_skip rfl rfl rfl ?_ | refine .done ?_ | refine r_seq (T := TT) ?_ | refine r_region (T := TT) rfl ?_ | refine r_block (T := TT) ?_ | refine r_then (T := TT) rfl ?_ | refine r_else (T := TT) rfl ?_)
    exact r_fin (T := TT) rfl rfl
  · rw [gz_pos hg h] at e1 e2 hg0
    have hs : CallOK Tryz.prog 65 [dZ d] (.one (dN .i64 1)) := by have := okz_r1_Sign d; rwa [Int.sign_eq_one_of_pos (by omega)] at this
    refine callOK_of TT_ok mixT Tryz.func68 rfl rfl (Nat.le_of_ble_eq_true rfl) ?_
    repeat (first | refine r_op rfl rfl rfl rfl ?_ | refine r_skip rfl rfl rfl ?_ | refine .done ?_ | refine r_seq (T := TT) ?_ | refine r_region (T := TT) rfl ?_ | refine r_block (T := TT) ?_ | refine r_then (T := TT) rfl ?_ | refine r_else (T := TT) rfl ?_)
    refine r_call (okz_r1_GCD (h1.fit hk) (h2.fit hk) hg) rfl rfl rfl rfl rfl rfl rfl ?_
    repeat (first | refine r_op rfl rfl rfl rfl ?_ | refine r_skip rfl rfl rfl ?_ | refine .done ?_ | refine r_seq (T := TT) ?_ | refine r_region (T := TT) rfl ?_ | refine r_block (T := TT) ?_ | refine r_then (T := TT) rfl ?_ | refine r_else (T := TT) rfl ?_)
    refine r_call (hs) rfl rfl rfl rfl rfl rfl rfl ?_
    repeat (first | refine r_op rfl rfl rfl rfl ?_ | refine r_skip rfl rfl rfl ?_ | refine .done ?_ | refine r_seq (T := TT) ?_ | refine r_region (T := TT) rfl ?_ | refine r_block (T := TT) ?_ | refine r_then (T := TT) rfl ?_ | refine r_else (T := TT) rfl ?_)
    refine r_call (ok_r2_quo (h1.fit hk) (hsg.fit hk) hg0 e1) rfl rfl rfl rfl rfl rfl rfl ?_
    repeat (first | refine r_op rfl rfl rfl rfl ?_ | refine r_skip rfl rfl rfl ?_ | refine .done ?_ | refine r_seq (T := TT) ?_ | refine r_region (T := TT) rfl ?_ | refine r_block (T := TT) ?_ | refine r_then (T := TT) rfl ?_ | refine r_else (T := TT) rfl ?_)
    refine r_call (ok_r2_quo (h2.fit hk) (hsg.fit hk) hg0 e2) rfl rfl rfl rfl rfl rfl rfl ?_
    repeat (first | refine r_op rfl rfl rfl rfl ?_ | refine r_skip rfl rfl rfl ?_ | refine .done ?_ | refine r_seq (T := TT) ?_ | refine r_region (T := TT) rfl ?_ | refine r_block (T := TT) ?_ | refine r_then (T := TT) rfl ?_ | refine r_else (T := TT) rfl ?_)
    exact r_fin (T := TT) rfl rfl
theorem Sz.of_val {na : Bool} {xs : List Nat} {n : Int} {k : Nat} (hw : Wd xs) (h : xs.length ≤ k) (hn : toZ na xs = n) : Sz k n := by
  rw [← hn]; unfold Sz; rw [natAbs_toZ]; exact Nat.lt_of_lt_of_le (val_lt hw) (Nat.pow_le_pow_right (by decide) h)
theorem ok_q_Make {na nb : Bool} {xs ys : List Nat} {n d : Int} {q : Rat} (hw : Wd xs) (hw' : Wd ys) (h1 : xs.length ≤ 1000) (h2 : ys.length ≤ 1000) (hn : toZ na xs = n) (hd : toZ nb ys = d) (h0 : d ≠ 0) (hq : Rat.divInt n d = q) : CallOK Tryz.prog 95 [dI na xs, dI nb ys] (.tup [dQ q, dN .i64 0]) := by
  have s1 : Sz 1000 n := Sz.of_val hw h1 hn
  have s2 : Sz 1000 d := Sz.of_val hw' h2 hd
  refine callOK_of TT_ok mixT Tryz.func95 rfl rfl (Nat.le_of_ble_eq_true rfl) ?_
  repeat (first | refine r_op rfl rfl rfl rfl ?_ | refine r_skip rfl rfl rfl ?_ | refine .done ?_ | refine r_seq (T := TT) ?_ | refine r_region (T := TT) rfl ?_ | refine r_block (T := TT) ?_ | refine r_then (T := TT) rfl ?_ | refine r_else (T := TT) rfl ?_)
  refine r_call (ok_i_Norm (na := na) hw (by unfold Fit; omega) hn) rfl rfl rfl rfl rfl rfl rfl ?_
  repeat (first | refine r_op rfl rfl rfl rfl ?_ | refine r_skip rfl rfl rfl ?_ | refine .done ?_ | refine r_seq (T := TT) ?_ | refine r_region (T := TT) rfl ?_ | refine r_block (T := TT) ?_ | refine r_then (T := TT) rfl ?_ | refine r_else (T := TT) rfl ?_)
  refine r_call (ok_i_Norm (na := nb) hw' (by unfold Fit; omega) hd) rfl rfl rfl rfl rfl rfl rfl ?_
  repeat (first | refine r_op rfl rfl rfl rfl ?_ | refine r_skip rfl rfl rfl ?_ | refine .done ?_ | refine r_seq (T := TT) ?_ | refine r_region (T := TT) rfl ?_ | refine r_block (T := TT) ?_ | refine r_then (T := TT) rfl ?_ | refine r_else (T := TT) rfl ?_)
  refine r_call (okz_q_isZero (decide_eq_false h0)) rfl rfl rfl rfl rfl rfl rfl ?_
  repeat (first | refine r_op rfl rfl rfl rfl ?_ | refine r_skip rfl rfl rfl ?_ | refine .done ?_ | refine r_seq (T := TT) ?_ | refine r_region (T := TT) rfl ?_ | refine r_block (T := TT) ?_ | refine r_then (T := TT) rfl ?_ | refine r_else (T := TT) rfl ?_)
  refine r_call (ok_q_lowest s1 s2 (by decide) h0 hq) rfl rfl rfl rfl rfl rfl rfl ?_
  repeat (first | refine r_op rfl rfl rfl rfl ?_ | refine r_skip rfl rfl rfl ?_ | refine .done ?_ | refine r_seq (T := TT) ?_ | refine r_region (T := TT) rfl ?_ | refine r_block (T := TT) ?_ | refine r_then (T := TT) rfl ?_ | refine r_else (T := TT) rfl ?_)
  exact r_fin (T := TT) rfl rfl
theorem ok_q_Make0 {na nb : Bool} {xs ys : List Nat} {n d : Int} (hw : Wd xs) (hw' : Wd ys) (h1 : xs.length ≤ 1000) (h2 : ys.length ≤ 1000) (hn : toZ na xs = n) (hd : toZ nb ys = d) (h0 : d = 0) : CallOK Tryz.prog 95 [dI na xs, dI nb ys] (.tup [dQ0, dN .i64 6]) := by
  refine callOK_of TT_ok mixT Tryz.func95 rfl rfl (Nat.le_of_ble_eq_true rfl) ?_
  repeat (first | refine r_op rfl rfl rfl rfl ?_ | refine r_skip rfl rfl rfl ?_ | refine .done ?_ | refine r_seq (T := TT) ?_ | refine r_region (T := TT) rfl ?_ | refine r_block (T := TT) ?_ | refine r_then (T := TT) rfl ?_ | refine r_else (T := TT) rfl ?_)
  refine r_call (ok_i_Norm (na := na) hw (by unfold Fit; omega) hn) rfl rfl rfl rfl rfl rfl rfl ?_
  repeat (first | refine r_op rfl rfl rfl rfl ?_ | refine r_skip rfl rfl rfl ?_ | refine .done ?_ | refine r_seq (T := TT) ?_ | refine r_region (T := TT) rfl ?_ | refine r_block (T := TT) ?_ | refine r_then (T := TT) rfl ?_ | refine r_else (T := TT) rfl ?_)
  refine r_call (ok_i_Norm (na := nb) hw' (by unfold Fit; omega) hd) rfl rfl rfl rfl rfl rfl rfl ?_
  repeat (first | refine r_op rfl rfl rfl rfl ?_ | refine r_skip rfl rfl rfl ?_ | refine .done ?_ | refine r_seq (T := TT) ?_ | refine r_region (T := TT) rfl ?_ | refine r_block (T := TT) ?_ | refine r_then (T := TT) rfl ?_ | refine r_else (T := TT) rfl ?_)
  refine r_call (okz_q_isZero (decide_eq_true h0)) rfl rfl rfl rfl rfl rfl rfl ?_
  repeat (first | refine r_op rfl rfl rfl rfl ?_ | refine r_skip rfl rfl rfl ?_ | refine .done ?_ | refine r_seq (T := TT) ?_ | refine r_region (T := TT) rfl ?_ | refine r_block (T := TT) ?_ | refine r_then (T := TT) rfl ?_ | refine r_else (T := TT) rfl ?_)
  exact r_fin (T := TT) rfl rfl
theorem okz_q_Make {n d : Int} {q : Rat} (h1 : Sz 1000 n) (h2 : Sz 1000 d) (h0 : d ≠ 0) (hq : Rat.divInt n d = q) : CallOK Tryz.prog 95 [dZ n, dZ d] (.tup [dQ q, dN .i64 0]) :=
  ok_q_Make (Wd_digs _) (Wd_digs _) h1.digs h2.digs (toZ_int n) (toZ_int d) h0 hq
theorem ok_q_FromInt (k : Int) (h1 : -9223372036854775808 ≤ k) (h2 : k < 9223372036854775808) {q : Rat} (hq : (k : Rat) = q) : CallOK Tryz.prog 56 [dN .i64 k] (.one (dQ q)) := by
  subst hq
  refine callOK_of TT_ok mixT Tryz.func56 rfl rfl (Nat.le_of_ble_eq_true rfl) ?_
  repeat (first | refine r_op rfl rfl rfl rfl ?_ | refine r_skip rfl rfl rfl ?_ | refine .done ?_ | refine r_seq (T := TT) ?_ | refine r_region (T := TT) rfl ?_ | refine r_block (T := TT) ?_ | refine r_then (T := TT) rfl ?_ | refine r_else (T := TT) rfl ?_)
  refine r_call (ok_i_FromInt k h1 h2) rfl rfl rfl rfl rfl rfl rfl ?_
  repeat (first | refine r_op rfl rfl rfl rfl ?_ | refine r_skip rfl rfl rfl ?_ | refine .done ?_ | refine r_seq (T := TT) ?_ | refine r_region (T := TT) rfl ?_ | refine r_block (T := TT) ?_ | refine r_then (T := TT) rfl ?_ | refine r_else (T := TT) rfl ?_)
  refine r_call (ok_q_one) rfl rfl rfl rfl rfl rfl rfl ?_
  repeat (first | refine r_op rfl rfl rfl rfl ?_ | refine r_skip rfl rfl rfl ?_ | refine .done ?_ | refine r_seq (T := TT) ?_ | refine r_region (T := TT) rfl ?_ | refine r_block (T := TT) ?_ | refine r_then (T := TT) rfl ?_ | refine r_else (T := TT) rfl ?_)
  exact r_fin (T := TT) rfl rfl
theorem ok_r2_FromInt (k : Int) (h1 : -9223372036854775808 ≤ k) (h2 : k < 9223372036854775808) {q : Rat} (hq : (k : Rat) = q) : CallOK Tryz.prog 42 [dN .i64 k] (.one (dQ q)) := by
  subst hq
  refine callOK_of TT_ok mixT Tryz.func42 rfl rfl (Nat.le_of_ble_eq_true rfl) ?_
  repeat (first | refine r_op rfl rfl rfl rfl ?_ | refine r_skip rfl rfl rfl ?_ | refine .done ?_ | refine r_seq (T := TT) ?_ | refine r_region (T := TT) rfl ?_ | refine r_block (T := TT) ?_ | refine r_then (T := TT) rfl ?_ | refine r_else (T := TT) rfl ?_)
  refine r_call (ok_r1_FromInt k h1 h2) rfl rfl rfl rfl rfl rfl rfl ?_
  repeat (first | refine r_op rfl rfl rfl rfl ?_ | refine r_skip rfl rfl rfl ?_ | refine .done ?_ | refine r_seq (T := TT) ?_ | refine r_region (T := TT) rfl ?_ | refine r_block (T := TT) ?_ | refine r_then (T := TT) rfl ?_ | refine r_else (T := TT) rfl ?_)
  refine r_call (ok_r1_FromInt 1 (by decide) (by decide)) rfl rfl rfl rfl rfl rfl rfl ?_
  repeat (first | refine r_op rfl rfl rfl rfl ?_ | refine r_skip rfl rfl rfl ?_ | refine .done ?_ | refine r_seq (T := TT) ?_ | refine r_region (T := TT) rfl ?_ | refine r_block (T := TT) ?_ | refine r_then (T := TT) rfl ?_ | refine r_else (T := TT) rfl ?_)
  exact r_fin (T := TT) rfl rfl
theorem divInt_zero' (n : Int) : Rat.divInt n 0 = ((0 : Int) : Rat) := by simp
theorem ok_q_Frac (n d : Int) (h1 : -9223372036854775808 ≤ n) (h2 : n < 9223372036854775808) (h3 : -9223372036854775808 ≤ d) (h4 : d < 9223372036854775808) {q : Rat} (hq : Rat.divInt n d = q) : CallOK Tryz.prog 66 [dN .i64 n, dN .i64 d] (.one (dQ q)) := by
  by_cases h0 : d = 0
  · refine callOK_of TT_ok mixT Tryz.func66 rfl rfl (Nat.le_of_ble_eq_true rfl) ?_
    repeat (first | refine r_op rfl rfl rfl rfl ?_ | refine r_skip rfl rfl rfl ?_ | refine .done ?_ | refine r_seq (T := TT) ?_ | refine r_region (T := TT) rfl ?_ | refine r_block (T := TT) ?_ | refine r_then (T := TT) rfl ?_ | refine r_else (T := TT) rfl ?_)
    refine r_call (ok_i_FromInt n h1 h2) rfl rfl rfl rfl rfl rfl rfl ?_
    repeat (first | refine r_op rfl rfl rfl rfl ?_ | refine r_skip rfl rfl rfl ?_ | refine .done ?_ | refine r_seq (T := TT) ?_ | refine r_region (T := TT) rfl ?_ | refine r_block (T := TT) ?_ | refine r_then (T := TT) rfl ?_ | refine r_else (T := TT) rfl ?_)
    refine r_call (ok_i_FromInt d h3 h4) rfl rfl rfl rfl rfl rfl rfl ?_
    repeat (first | refine r_op rfl rfl rfl rfl ?_ | refine r_skip rfl rfl rfl ?_ | refine .done ?_ | refine r_seq (T := TT) ?_ | refine r_region (T := TT) rfl ?_ | refine r_block (T := TT) ?_ | refine r_then (T := TT) rfl ?_ | refine r_else (T := TT) rfl ?_)
    refine r_call (ok_q_Make0 (na := decide (n < 0)) (nb := decide (d < 0)) (Wd_digs _) (Wd_digs _) ((Sz.i64 h1 h2).mono (k := 1000) (by decide)).digs ((Sz.i64 h3 h4).mono (k := 1000) (by decide)).digs (toZ_int n) (toZ_int d) h0) rfl rfl rfl rfl rfl rfl rfl ?_
    repeat (first | refine r_op rfl rfl rfl rfl ?_ | refine r_skip rfl rfl rfl ?_ | refine .done ?_ | refine r_seq (T := TT) ?_ | refine r_region (T := TT) rfl ?_ | refine r_block (T := TT) ?_ | refine r_then (T := TT) rfl ?_ | refine r_else (T := TT) rfl ?_)
    refine r_call (ok_q_FromInt 0 (by decide) (by decide) (q := q) (by subst h0; rw [← divInt_zero' n]; exact hq)) rfl rfl rfl rfl rfl rfl rfl ?_
    repeat (first | refine r_op rfl rfl rfl rfl ?_ | refine r_skip rfl rfl rfl ?_ | refine .done ?_ | refine r_seq (T := TT) ?_ | refine r_region (T := TT) rfl ?_ | refine r_block (T := TT) ?_ | refine r_then (T := TT) rfl ?_ | refine r_else (T := TT) rfl ?_)
    exact r_fin (T := TT) rfl rfl
  · refine callOK_of TT_ok mixT Tryz.func66 rfl rfl (Nat.le_of_ble_eq_true rfl) ?_
    repeat (first | refine r_op rfl rfl rfl rfl ?_ | refine r_skip rfl rfl rfl ?_ | refine .done ?_ | refine r_seq (T := TT) ?_ | refine r_region (T := TT) rfl ?_ | refine r_block (T := TT) ?_ | refine r_then (T := TT) rfl ?_ | refine r_else (T := TT) rfl ?_)
    refine r_call (ok_i_FromInt n h1 h2) rfl rfl rfl rfl rfl rfl rfl ?_
    repeat (first | refine r_op rfl rfl rfl rfl ?_ | refine r_skip rfl rfl rfl ?_ | refine .done ?_ | refine r_seq (T := TT) ?_ | refine r_region (T := TT) rfl ?_ | refine r_block (T := TT) ?_ | refine r_then (T := TT) rfl ?_ | refine r_else (T := TT) rfl ?_)
    refine r_call (ok_i_FromInt d h3 h4) rfl rfl rfl rfl rfl rfl rfl ?_
    repeat (first | refine r_op rfl rfl rfl rfl ?_ | refine r_skip rfl rfl rfl ?_ | refine .done ?_ | refine r_seq (T := TT) ?_ | refine r_region (T := TT) rfl ?_ | refine r_block (T := TT) ?_ | refine r_then (T := TT) rfl ?_ | refine r_else (T := TT) rfl ?_)
    refine r_call (okz_q_Make ((Sz.i64 h1 h2).mono (by decide)) ((Sz.i64 h3 h4).mono (by decide)) h0 hq) rfl rfl rfl rfl rfl rfl rfl ?_
    repeat (first | refine r_op rfl rfl rfl rfl ?_ | refine r_skip rfl rfl rfl ?_ | refine .done ?_ | refine r_seq (T := TT) ?_ | refine r_region (T := TT) rfl ?_ | refine r_block (T := TT) ?_ | refine r_then (T := TT) rfl ?_ | refine r_else (T := TT) rfl ?_)
    exact r_fin (T := TT) rfl rfl
theorem ok_r2_Frac (n d : Int) (h1 : -9223372036854775808 ≤ n) (h2 : n < 9223372036854775808) (h3 : -9223372036854775808 ≤ d) (h4 : d < 9223372036854775808) {q : Rat} (hq : Rat.divInt n d = q) : CallOK Tryz.prog 41 [dN .i64 n, dN .i64 d] (.one (dQ q)) := by
  by_cases h0 : d = 0
  · subst h0
    refine callOK_of TT_ok mixT Tryz.func41 rfl rfl (Nat.le_of_ble_eq_true rfl) ?_
    repeat (first | refine r_op rfl rfl rfl rfl ?_ | refine r_skip rfl rfl rfl ?_ | refine .done ?_ | refine r_seq (T := TT) ?_ | refine r_region (T := TT) rfl ?_ | refine r_block (T := TT) ?_ | refine r_then (T := TT) rfl ?_ | refine r_else (T := TT) rfl ?_)
    refine r_call (ok_r2_FromInt 0 (by decide) (by decide) (q := q) (by rw [← divInt_zero' n]; exact hq)) rfl rfl rfl rfl rfl rfl rfl ?_
    repeat (first | refine r_op rfl rfl rfl rfl ?_ | refine r_skip rfl rfl rfl ?_ | refine .done ?_ | refine r_seq (T := TT) ?_ | refine r_region (T := TT) rfl ?_ | refine r_block (T := TT) ?_ | refine r_then (T := TT) rfl ?_ | refine r_else (T := TT) rfl ?_)
    exact r_fin (T := TT) rfl rfl
  · refine callOK_of TT_ok mixT Tryz.func41 rfl rfl (Nat.le_of_ble_eq_true rfl) ?_
    repeat (first | refine r_op rfl rfl rfl rfl ?_ | refine r_skip rfl rfl rfl ?_ | refine .done ?_ | refine r_seq (T := TT) ?_ | refine r_region (T := TT) rfl ?_ | refine r_block (T := TT) ?_ | refine r_then (T := TT) rfl ?_ | refine r_else (T := TT) rfl ?_)
    refine r_else2 (T := TT) rfl ?_ ?_
    · exact decide_eq_false h0
    repeat (first | refine r_op rfl rfl rfl rfl ?_ | refine r_skip rfl rfl rfl ?_ | refine .done ?_ | refine r_seq (T := TT) ?_ | refine r_region (T := TT) rfl ?_ | refine r_block (T := TT) ?_ | refine r_then (T := TT) rfl ?_ | refine r_else (T := TT) rfl ?_)
    refine r_call (ok_r1_FromInt n h1 h2) rfl rfl rfl rfl rfl rfl rfl ?_
    repeat (first | refine r_op rfl rfl rfl rfl ?_ | refine r_skip rfl rfl rfl ?_ | refine .done ?_ | refine r_seq (T := TT) ?_ | refine r_region (T := TT) rfl ?_ | refine r_block (T := TT) ?_ | refine r_then (T := TT) rfl ?_ | refine r_else (T := TT) rfl ?_)
    refine r_call (ok_r1_FromInt d h3 h4) rfl rfl rfl rfl rfl rfl rfl ?_
    repeat (first | refine r_op rfl rfl rfl rfl ?_ | refine r_skip rfl rfl rfl ?_ | refine .done ?_ | refine r_seq (T := TT) ?_ | refine r_region (T := TT) rfl ?_ | refine r_block (T := TT) ?_ | refine r_then (T := TT) rfl ?_ | refine r_else (T := TT) rfl ?_)
    refine r_call (ok_r2_Make (Sz.i64 h1 h2) (Sz.i64 h3 h4) (by decide) h0 hq) rfl rfl rfl rfl rfl rfl rfl ?_
    repeat (first | refine r_op rfl rfl rfl rfl ?_ | refine r_skip rfl rfl rfl ?_ | refine .done ?_ | refine r_seq (T := TT) ?_ | refine r_region (T := TT) rfl ?_ | refine r_block (T := TT) ?_ | refine r_then (T := TT) rfl ?_ | refine r_else (T := TT) rfl ?_)
    exact r_fin (T := TT) rfl rfl
theorem ok_q_Neg {k : Nat} {a q : Rat} (h : SzQ k a) (hk : k ≤ 2147483648) (hq : -a = q) : CallOK Tryz.prog 87 [dQ a] (.one (dQ q)) := by
  subst hq
  refine callOK_of TT_ok mixT Tryz.func87 rfl rfl (Nat.le_of_ble_eq_true rfl) ?_
  repeat (first | refine r_op rfl rfl rfl rfl ?_ | refine r_skip rfl rfl rfl ?_ | refine .done ?_ | refine r_seq (T := TT) ?_ | refine r_region (T := TT) rfl ?_ | refine r_block (T := TT) ?_ | refine r_then (T := TT) rfl ?_ | refine r_else (T := TT) rfl ?_)
  refine r_call (okz_i_Neg (h.1.fit hk)) rfl rfl rfl rfl rfl rfl rfl ?_
  repeat (first | refine r_op rfl rfl rfl rfl ?_ | refine r_skip rfl rfl rfl ?_ | refine .done ?_ | refine r_seq (T := TT) ?_ | refine r_region (T := TT) rfl ?_ | refine r_block (T := TT) ?_ | refine r_then (T := TT) rfl ?_ | refine r_else (T := TT) rfl ?_)
  exact r_fin (T := TT) rfl rfl
theorem ok_r2_Neg {a q : Rat} (hq : -a = q) : CallOK Tryz.prog 88 [dQ a] (.one (dQ q)) := by
  subst hq
  refine callOK_of TT_ok mixT Tryz.func88 rfl rfl (Nat.le_of_ble_eq_true rfl) ?_
  repeat (first | refine r_op rfl rfl rfl rfl ?_ | refine r_skip rfl rfl rfl ?_ | refine .done ?_ | refine r_seq (T := TT) ?_ | refine r_region (T := TT) rfl ?_ | refine r_block (T := TT) ?_ | refine r_then (T := TT) rfl ?_ | refine r_else (T := TT) rfl ?_)
  refine r_call (okz_r1_Neg a.num) rfl rfl rfl rfl rfl rfl rfl ?_
  repeat (first | refine r_op rfl rfl rfl rfl ?_ | refine r_skip rfl rfl rfl ?_ | refine .done ?_ | refine r_seq (T := TT) ?_ | refine r_region (T := TT) rfl ?_ | refine r_block (T := TT) ?_ | refine r_then (T := TT) rfl ?_ | refine r_else (T := TT) rfl ?_)
  exact r_fin (T := TT) rfl rfl
theorem ok_r2_Sign (a : Rat) : CallOK Tryz.prog 27 [dQ a] (.one (dN .i64 (sgQ a))) := by
  refine callOK_of TT_ok mixT Tryz.func27 rfl rfl (Nat.le_of_ble_eq_true rfl) ?_
  repeat (first | refine r_op rfl rfl rfl rfl ?_ | refine r_skip rfl rfl rfl ?_ | refine .done ?_ | refine r_seq (T := TT) ?_ | refine r_region (T := TT) rfl ?_ | refine r_block (T := TT) ?_ | refine r_then (T := TT) rfl ?_ | refine r_else (T := TT) rfl ?_)
  refine r_call (okz_r1_Sign a.num) rfl rfl rfl rfl rfl rfl rfl ?_
  repeat (first | refine r_op rfl rfl rfl rfl ?_ | refine r_skip rfl rfl rfl ?_ | refine .done ?_ | refine r_seq (T := TT) ?_ | refine r_region (T := TT) rfl ?_ | refine r_block (T := TT) ?_ | refine r_then (T := TT) rfl ?_ | refine r_else (T := TT) rfl ?_)
  exact r_fin (T := TT) rfl rfl
end Go.Proofs.YtmpadildchphgaaGreatDoor
namespace Go.Proofs.YtmpadildchphgaaGreatDoor
open Go.RowKit
theorem dQ_of {q : Rat} {n d : Int} (h1 : q.num = n) (h2 : (q.den : Int) = d) : dQ q = .agg (aZ n ++ aZ d) := by unfold dQ aQ; rw [h1, h2]
theorem den_is (a : Rat) : decide ((a.den : Int) = 1) = decide (a.den = 1) := by by_cases h : a.den = 1 <;> simp [h] <;> omega
theorem one_t {a : Rat} (h : a.den = 1) : decide ((a.den : Int) = 1) = true := by rw [den_is]; exact decide_eq_true h
theorem one_f {a : Rat} (h : ¬ a.den = 1) : decide ((a.den : Int) = 1) = false := by rw [den_is]; exact decide_eq_false h
theorem nil_t {z : Int} (h : z = 0) : decide (((digs z.natAbs).length : Int) = 0) = true := digs_nil_iff.trans (decide_eq_true h)
theorem nil_f {z : Int} (h : ¬ z = 0) : decide (((digs z.natAbs).length : Int) = 0) = false := digs_nil_iff.trans (decide_eq_false h)
theorem fdiv_nat (a : Int) (g : Nat) : a.fdiv g = a / g := Int.fdiv_eq_ediv_of_nonneg _ (by omega)
theorem fdiv_nn (a g : Nat) : (a : Int).fdiv g = ((a / g : Nat) : Int) := by rw [fdiv_nat]; rfl
theorem ok_q_Add {j k : Nat} {a b q : Rat} (h : SzQ j a) (h' : SzQ k b) (hk : j + k + 1 ≤ 2147483648) (hq : a + b = q) : CallOK Tryz.prog 45 [dQ a, dQ b] (.one (dQ q)) := by
  subst hq
  have d0 : (a.den : Int) * b.den ≠ 0 := by have := Int.mul_pos (den_pos a) (den_pos b); omega
  by_cases ha : a.den = 1
  · by_cases hb : b.den = 1
    · rw [dQ_of (add_one ha hb).1 (d := 1) (by rw [(add_one ha hb).2]; rfl)]
      refine callOK_of TT_ok mixT Tryz.func45 rfl rfl (Nat.le_of_ble_eq_true rfl) ?_
      repeat (first | refine r_op rfl rfl rfl rfl ?_ | refine r_skip rfl rfl rfl ?_ | refine .done ?_ | refine r_seq (T := TT) ?_ | refine r_region (T := TT) rfl ?_ | refine r_block (T := TT) ?_ | refine r_then (T := TT) rfl ?_ | refine r_else (T := TT) rfl ?_)
      refine r_call (okz_q_isOne (one_t ha)) rfl rfl rfl rfl rfl rfl rfl ?_
      repeat (first | refine r_op rfl rfl rfl rfl ?_ | refine r_skip rfl rfl rfl ?_ | refine .done ?_ | refine r_seq (T := TT) ?_ | refine r_region (T := TT) rfl ?_ | refine r_block (T := TT) ?_ | refine r_then (T := TT) rfl ?_ | refine r_else (T := TT) rfl ?_)
      refine r_call (okz_q_isOne (one_t hb)) rfl rfl rfl rfl rfl rfl rfl ?_
      repeat (first | refine r_op rfl rfl rfl rfl ?_ | refine r_skip rfl rfl rfl ?_ | refine .done ?_ | refine r_seq (T := TT) ?_ | refine r_region (T := TT) rfl ?_ | refine r_block (T := TT) ?_ | refine r_then (T := TT) rfl ?_ | refine r_else (T := TT) rfl ?_)
      refine r_call (okz_i_Add (h.1.fit (by omega)) (h'.1.fit (by omega))) rfl rfl rfl rfl rfl rfl rfl ?_
      repeat (first | refine r_op rfl rfl rfl rfl ?_ | refine r_skip rfl rfl rfl ?_ | refine .done ?_ | refine r_seq (T := TT) ?_ | refine r_region (T := TT) rfl ?_ | refine r_block (T := TT) ?_ | refine r_then (T := TT) rfl ?_ | refine r_else (T := TT) rfl ?_)
      refine r_call (ok_q_one) rfl rfl rfl rfl rfl rfl rfl ?_
      repeat (first | refine r_op rfl rfl rfl rfl ?_ | refine r_skip rfl rfl rfl ?_ | refine .done ?_ | refine r_seq (T := TT) ?_ | refine r_region (T := TT) rfl ?_ | refine r_block (T := TT) ?_ | refine r_then (T := TT) rfl ?_ | refine r_else (T := TT) rfl ?_)
      exact r_fin (T := TT) rfl rfl
    · refine callOK_of TT_ok mixT Tryz.func45 rfl rfl (Nat.le_of_ble_eq_true rfl) ?_
      repeat (first | refine r_op rfl rfl rfl rfl ?_ | refine r_skip rfl rfl rfl ?_ | refine .done ?_ | refine r_seq (T := TT) ?_ | refine r_region (T := TT) rfl ?_ | refine r_block (T := TT) ?_ | refine r_then (T := TT) rfl ?_ | refine r_else (T := TT) rfl ?_)
      refine r_call (okz_q_isOne (one_t ha)) rfl rfl rfl rfl rfl rfl rfl ?_
      repeat (first | refine r_op rfl rfl rfl rfl ?_ | refine r_skip rfl rfl rfl ?_ | refine .done ?_ | refine r_seq (T := TT) ?_ | refine r_region (T := TT) rfl ?_ | refine r_block (T := TT) ?_ | refine r_then (T := TT) rfl ?_ | refine r_else (T := TT) rfl ?_)
      refine r_call (okz_q_isOne (one_f hb)) rfl rfl rfl rfl rfl rfl rfl ?_
      repeat (first | refine r_op rfl rfl rfl rfl ?_ | refine r_skip rfl rfl rfl ?_ | refine .done ?_ | refine r_seq (T := TT) ?_ | refine r_region (T := TT) rfl ?_ | refine r_block (T := TT) ?_ | refine r_then (T := TT) rfl ?_ | refine r_else (T := TT) rfl ?_)
      refine r_call (okz_i_Mul (h.1.fit (by omega)) (h'.2.fit (by omega))) rfl rfl rfl rfl rfl rfl rfl ?_
      repeat (first | refine r_op rfl rfl rfl rfl ?_ | refine r_skip rfl rfl rfl ?_ | refine .done ?_ | refine r_seq (T := TT) ?_ | refine r_region (T := TT) rfl ?_ | refine r_block (T := TT) ?_ | refine r_then (T := TT) rfl ?_ | refine r_else (T := TT) rfl ?_)
      refine r_call (okz_i_Mul (h'.1.fit (by omega)) (h.2.fit (by omega))) rfl rfl rfl rfl rfl rfl rfl ?_
      repeat (first | refine r_op rfl rfl rfl rfl ?_ | refine r_skip rfl rfl rfl ?_ | refine .done ?_ | refine r_seq (T := TT) ?_ | refine r_region (T := TT) rfl ?_ | refine r_block (T := TT) ?_ | refine r_then (T := TT) rfl ?_ | refine r_else (T := TT) rfl ?_)
      refine r_call (okz_i_Add ((h.1.mul h'.2).fit (by omega)) ((h'.1.mul h.2).fit (by omega))) rfl rfl rfl rfl rfl rfl rfl ?_
      repeat (first | refine r_op rfl rfl rfl rfl ?_ | refine r_skip rfl rfl rfl ?_ | refine .done ?_ | refine r_seq (T := TT) ?_ | refine r_region (T := TT) rfl ?_ | refine r_block (T := TT) ?_ | refine r_then (T := TT) rfl ?_ | refine r_else (T := TT) rfl ?_)
      refine r_call (okz_i_Mul (h.2.fit (by omega)) (h'.2.fit (by omega))) rfl rfl rfl rfl rfl rfl rfl ?_
      repeat (first | refine r_op rfl rfl rfl rfl ?_ | refine r_skip rfl rfl rfl ?_ | refine .done ?_ | refine r_seq (T := TT) ?_ | refine r_region (T := TT) rfl ?_ | refine r_block (T := TT) ?_ | refine r_then (T := TT) rfl ?_ | refine r_else (T := TT) rfl ?_)
      refine r_call (ok_q_lowest (k := j + k + 1) ((h.1.mul h'.2).add ((h'.1.mul h.2).mono (by omega))) ((h.2.mul h'.2).mono (by omega)) hk d0 (add_divInt a b)) rfl rfl rfl rfl rfl rfl rfl ?_
      repeat (first | refine r_op rfl rfl rfl rfl ?_ | refine r_skip rfl rfl rfl ?_ | refine .done ?_ | refine r_seq (T := TT) ?_ | refine r_region (T := TT) rfl ?_ | refine r_block (T := TT) ?_ | refine r_then (T := TT) rfl ?_ | refine r_else (T := TT) rfl ?_)
      exact r_fin (T := TT) rfl rfl
  · refine callOK_of TT_ok mixT Tryz.func45 rfl rfl (Nat.le_of_ble_eq_true rfl) ?_
    repeat (first | refine r_op rfl rfl rfl rfl ?_ | refine r_skip rfl rfl rfl ?_ | refine .done ?_ | refine r_seq (T := TT) ?_ | refine r_region (T := TT) rfl ?_ | refine r_block (T := TT) ?_ | refine r_then (T := TT) rfl ?_ | refine r_else (T := TT) rfl ?_)
    refine r_call (okz_q_isOne (one_f ha)) rfl rfl rfl rfl rfl rfl rfl ?_
    repeat (first | refine r_op rfl rfl rfl rfl ?_ | refine r_skip rfl rfl rfl ?_ | refine .done ?_ | refine r_seq (T := TT) ?_ | refine r_region (T := TT) rfl ?_ | refine r_block (T := TT) ?_ | refine r_then (T := TT) rfl ?_ | refine r_else (T := TT) rfl ?_)
    refine r_call (okz_i_Mul (h.1.fit (by omega)) (h'.2.fit (by omega))) rfl rfl rfl rfl rfl rfl rfl ?_
    repeat (first | refine r_op rfl rfl rfl rfl ?_ | refine r_skip rfl rfl rfl ?_ | refine .done ?_ | refine r_seq (T := TT) ?_ | refine r_region (T := TT) rfl ?_ | refine r_block (T := TT) ?_ | refine r_then (T := TT) rfl ?_ | refine r_else (T := TT) rfl ?_)
    refine r_call (okz_i_Mul (h'.1.fit (by omega)) (h.2.fit (by omega))) rfl rfl rfl rfl rfl rfl rfl ?_
    repeat (first | refine r_op rfl rfl rfl rfl ?_ | refine r_skip rfl rfl rfl ?_ | refine .done ?_ | refine r_seq (T := TT) ?_ | refine r_region (T := TT) rfl ?_ | refine r_block (T := TT) ?_ | refine r_then (T := TT) rfl ?_ | refine r_else (T := TT) rfl ?_)
    refine r_call (okz_i_Add ((h.1.mul h'.2).fit (by omega)) ((h'.1.mul h.2).fit (by omega))) rfl rfl rfl rfl rfl rfl rfl ?_
    repeat (first | refine r_op rfl rfl rfl rfl ?_ | refine r_skip rfl rfl rfl ?_ | refine .done ?_ | refine r_seq (T := TT) ?_ | refine r_region (T := TT) rfl ?_ | refine r_block (T := TT) ?_ | refine r_then (T := TT) rfl ?_ | refine r_else (T := TT) rfl ?_)
    refine r_call (okz_i_Mul (h.2.fit (by omega)) (h'.2.fit (by omega))) rfl rfl rfl rfl rfl rfl rfl ?_
    repeat (first | refine r_op rfl rfl rfl rfl ?_ | refine r_skip rfl rfl rfl ?_ | refine .done ?_ | refine r_seq (T := TT) ?_ | refine r_region (T := TT) rfl ?_ | refine r_block (T := TT) ?_ | refine r_then (T := TT) rfl ?_ | refine r_else (T := TT) rfl ?_)
    refine r_call (ok_q_lowest (k := j + k + 1) ((h.1.mul h'.2).add ((h'.1.mul h.2).mono (by omega))) ((h.2.mul h'.2).mono (by omega)) hk d0 (add_divInt a b)) rfl rfl rfl rfl rfl rfl rfl ?_
    repeat (first | refine r_op rfl rfl rfl rfl ?_ | refine r_skip rfl rfl rfl ?_ | refine .done ?_ | refine r_seq (T := TT) ?_ | refine r_region (T := TT) rfl ?_ | refine r_block (T := TT) ?_ | refine r_then (T := TT) rfl ?_ | refine r_else (T := TT) rfl ?_)
    exact r_fin (T := TT) rfl rfl
theorem ok_q_Mul {j k : Nat} {a b q : Rat} (h : SzQ j a) (h' : SzQ k b) (hk : j + k ≤ 2147483648) (hq : a * b = q) : CallOK Tryz.prog 47 [dQ a, dQ b] (.one (dQ q)) := by
  subst hq
  have d0 : (a.den : Int) * b.den ≠ 0 := by have := Int.mul_pos (den_pos a) (den_pos b); omega
  by_cases ha : a.den = 1
  · by_cases hb : b.den = 1
    · rw [dQ_of (mul_one' ha hb).1 (d := 1) (by rw [(mul_one' ha hb).2]; rfl)]
      refine callOK_of TT_ok mixT Tryz.func47 rfl rfl (Nat.le_of_ble_eq_true rfl) ?_
      repeat (first | refine r_op rfl rfl rfl rfl ?_ | refine r_skip rfl rfl rfl ?_ | refine .done ?_ | refine r_seq (T := TT) ?_ | refine r_region (T := TT) rfl ?_ | refine r_block (T := TT) ?_ | refine r_then (T := TT) rfl ?_ | refine r_else (T := TT) rfl ?_)
      refine r_call (okz_q_isOne (one_t ha)) rfl rfl rfl rfl rfl rfl rfl ?_
      repeat (first | refine r_op rfl rfl rfl rfl ?_ | refine r_skip rfl rfl rfl ?_ | refine .done ?_ | refine r_seq (T := TT) ?_ | refine r_region (T := TT) rfl ?_ | refine r_block (T := TT) ?_ | refine r_then (T := TT) rfl ?_ | refine r_else (T := TT) rfl ?_)
      refine r_call (okz_q_isOne (one_t hb)) rfl rfl rfl rfl rfl rfl rfl ?_
      repeat (first | refine r_op rfl rfl rfl rfl ?_ | refine r_skip rfl rfl rfl ?_ | refine .done ?_ | refine r_seq (T := TT) ?_ | refine r_region (T := TT) rfl ?_ | refine r_block (T := TT) ?_ | refine r_then (T := TT) rfl ?_ | refine r_else (T := TT) rfl ?_)
      refine r_call (okz_i_Mul (h.1.fit (by omega)) (h'.1.fit (by omega))) rfl rfl rfl rfl rfl rfl rfl ?_
      repeat (first | refine r_op rfl rfl rfl rfl ?_ | refine r_skip rfl rfl rfl ?_ | refine .done ?_ | refine r_seq (T := TT) ?_ | refine r_region (T := TT) rfl ?_ | refine r_block (T := TT) ?_ | refine r_then (T := TT) rfl ?_ | refine r_else (T := TT) rfl ?_)
      refine r_call (ok_q_one) rfl rfl rfl rfl rfl rfl rfl ?_
      repeat (first | refine r_op rfl rfl rfl rfl ?_ | refine r_skip rfl rfl rfl ?_ | refine .done ?_ | refine r_seq (T := TT) ?_ | refine r_region (T := TT) rfl ?_ | refine r_block (T := TT) ?_ | refine r_then (T := TT) rfl ?_ | refine r_else (T := TT) rfl ?_)
      exact r_fin (T := TT) rfl rfl
    · refine callOK_of TT_ok mixT Tryz.func47 rfl rfl (Nat.le_of_ble_eq_true rfl) ?_
      repeat (first | refine r_op rfl rfl rfl rfl ?_ | refine r_skip rfl rfl rfl ?_ | refine .done ?_ | refine r_seq (T := TT) ?_ | refine r_region (T := TT) rfl ?_ | refine r_block (T := TT) ?_ | refine r_then (T := TT) rfl ?_ | refine r_else (T := TT) rfl ?_)
      refine r_call (okz_q_isOne (one_t ha)) rfl rfl rfl rfl rfl rfl rfl ?_
      repeat (first | refine r_op rfl rfl rfl rfl ?_ | refine r_skip rfl rfl rfl ?_ | refine .done ?_ | refine r_seq (T := TT) ?_ | refine r_region (T := TT) rfl ?_ | refine r_block (T := TT) ?_ | refine r_then (T := TT) rfl ?_ | refine r_else (T := TT) rfl ?_)
      refine r_call (okz_q_isOne (one_f hb)) rfl rfl rfl rfl rfl rfl rfl ?_
      repeat (first | refine r_op rfl rfl rfl rfl ?_ | refine r_skip rfl rfl rfl ?_ | refine .done ?_ | refine r_seq (T := TT) ?_ | refine r_region (T := TT) rfl ?_ | refine r_block (T := TT) ?_ | refine r_then (T := TT) rfl ?_ | refine r_else (T := TT) rfl ?_)
      refine r_call (okz_i_Mul (h.1.fit (by omega)) (h'.1.fit (by omega))) rfl rfl rfl rfl rfl rfl rfl ?_
      repeat (first | refine r_op rfl rfl rfl rfl ?_ | refine r_skip rfl rfl rfl ?_ | refine .done ?_ | refine r_seq (T := TT) ?_ | refine r_region (T := TT) rfl ?_ | refine r_block (T := TT) ?_ | refine r_then (T := TT) rfl ?_ | refine r_else (T := TT) rfl ?_)
      refine r_call (okz_i_Mul (h.2.fit (by omega)) (h'.2.fit (by omega))) rfl rfl rfl rfl rfl rfl rfl ?_
      repeat (first | refine r_op rfl rfl rfl rfl ?_ | refine r_skip rfl rfl rfl ?_ | refine .done ?_ | refine r_seq (T := TT) ?_ | refine r_region (T := TT) rfl ?_ | refine r_block (T := TT) ?_ | refine r_then (T := TT) rfl ?_ | refine r_else (T := TT) rfl ?_)
      refine r_call (ok_q_lowest (h.1.mul h'.1) (h.2.mul h'.2) hk d0 (mul_divInt a b)) rfl rfl rfl rfl rfl rfl rfl ?_
      repeat (first | refine r_op rfl rfl rfl rfl ?_ | refine r_skip rfl rfl rfl ?_ | refine .done ?_ | refine r_seq (T := TT) ?_ | refine r_region (T := TT) rfl ?_ | refine r_block (T := TT) ?_ | refine r_then (T := TT) rfl ?_ | refine r_else (T := TT) rfl ?_)
      exact r_fin (T := TT) rfl rfl
  · refine callOK_of TT_ok mixT Tryz.func47 rfl rfl (Nat.le_of_ble_eq_true rfl) ?_
    repeat (first | refine r_op rfl rfl rfl rfl ?_ | refine r_skip rfl rfl rfl ?_ | refine .done ?_ | refine r_seq (T := TT) ?_ | refine r_region (T := TT) rfl ?_ | refine r_block (T := TT) ?_ | refine r_then (T := TT) rfl ?_ | refine r_else (T := TT) rfl ?_)
    refine r_call (okz_q_isOne (one_f ha)) rfl rfl rfl rfl rfl rfl rfl ?_
    repeat (first | refine r_op rfl rfl rfl rfl ?_ | refine r_skip rfl rfl rfl ?_ | refine .done ?_ | refine r_seq (T := TT) ?_ | refine r_region (T := TT) rfl ?_ | refine r_block (T := TT) ?_ | refine r_then (T := TT) rfl ?_ | refine r_else (T := TT) rfl ?_)
    refine r_call (okz_i_Mul (h.1.fit (by omega)) (h'.1.fit (by omega))) rfl rfl rfl rfl rfl rfl rfl ?_
    repeat (first | refine r_op rfl rfl rfl rfl ?_ | refine r_skip rfl rfl rfl ?_ | refine .done ?_ | refine r_seq (T := TT) ?_ | refine r_region (T := TT) rfl ?_ | refine r_block (T := TT) ?_ | refine r_then (T := TT) rfl ?_ | refine r_else (T := TT) rfl ?_)
    refine r_call (okz_i_Mul (h.2.fit (by omega)) (h'.2.fit (by omega))) rfl rfl rfl rfl rfl rfl rfl ?_
    repeat (first | refine r_op rfl rfl rfl rfl ?_ | refine r_skip rfl rfl rfl ?_ | refine .done ?_ | refine r_seq (T := TT) ?_ | refine r_region (T := TT) rfl ?_ | refine r_block (T := TT) ?_ | refine r_then (T := TT) rfl ?_ | refine r_else (T := TT) rfl ?_)
    refine r_call (ok_q_lowest (h.1.mul h'.1) (h.2.mul h'.2) hk d0 (mul_divInt a b)) rfl rfl rfl rfl rfl rfl rfl ?_
    repeat (first | refine r_op rfl rfl rfl rfl ?_ | refine r_skip rfl rfl rfl ?_ | refine .done ?_ | refine r_seq (T := TT) ?_ | refine r_region (T := TT) rfl ?_ | refine r_block (T := TT) ?_ | refine r_then (T := TT) rfl ?_ | refine r_else (T := TT) rfl ?_)
    exact r_fin (T := TT) rfl rfl
theorem ok_q_Div {j k : Nat} {a b q : Rat} (h : SzQ j a) (h' : SzQ k b) (hk : j + k ≤ 2147483648) (hb : b ≠ 0) (hq : a / b = q) : CallOK Tryz.prog 50 [dQ a, dQ b] (.tup [dQ q, dN .i64 0]) := by
  subst hq
  have h0 : b.num ≠ 0 := fun e => hb (Rat.num_eq_zero.1 e)
  refine callOK_of TT_ok mixT Tryz.func50 rfl rfl (Nat.le_of_ble_eq_true rfl) ?_
  repeat (first | refine r_op rfl rfl rfl rfl ?_ | refine r_skip rfl rfl rfl ?_ | refine .done ?_ | refine r_seq (T := TT) ?_ | refine r_region (T := TT) rfl ?_ | refine r_block (T := TT) ?_ | refine r_then (T := TT) rfl ?_ | refine r_else (T := TT) rfl ?_)
  refine r_call (okz_q_isZero (decide_eq_false h0)) rfl rfl rfl rfl rfl rfl rfl ?_
  repeat (first | refine r_op rfl rfl rfl rfl ?_ | refine r_skip rfl rfl rfl ?_ | refine .done ?_ | refine r_seq (T := TT) ?_ | refine r_region (T := TT) rfl ?_ | refine r_block (T := TT) ?_ | refine r_then (T := TT) rfl ?_ | refine r_else (T := TT) rfl ?_)
  refine r_call (okz_i_Mul (h.1.fit (by omega)) (h'.2.fit (by omega))) rfl rfl rfl rfl rfl rfl rfl ?_
  repeat (first | refine r_op rfl rfl rfl rfl ?_ | refine r_skip rfl rfl rfl ?_ | refine .done ?_ | refine r_seq (T := TT) ?_ | refine r_region (T := TT) rfl ?_ | refine r_block (T := TT) ?_ | refine r_then (T := TT) rfl ?_ | refine r_else (T := TT) rfl ?_)
  refine r_call (okz_i_Mul (h.2.fit (by omega)) (h'.1.fit (by omega))) rfl rfl rfl rfl rfl rfl rfl ?_
  repeat (first | refine r_op rfl rfl rfl rfl ?_ | refine r_skip rfl rfl rfl ?_ | refine .done ?_ | refine r_seq (T := TT) ?_ | refine r_region (T := TT) rfl ?_ | refine r_block (T := TT) ?_ | refine r_then (T := TT) rfl ?_ | refine r_else (T := TT) rfl ?_)
  refine r_call (ok_q_lowest (h.1.mul h'.2) (h.2.mul h'.1) hk (Int.mul_ne_zero (by have := den_pos a; omega) h0) (div_divInt a b)) rfl rfl rfl rfl rfl rfl rfl ?_
  repeat (first | refine r_op rfl rfl rfl rfl ?_ | refine r_skip rfl rfl rfl ?_ | refine .done ?_ | refine r_seq (T := TT) ?_ | refine r_region (T := TT) rfl ?_ | refine r_block (T := TT) ?_ | refine r_then (T := TT) rfl ?_ | refine r_else (T := TT) rfl ?_)
  exact r_fin (T := TT) rfl rfl
theorem ok_q_Div0 {a b : Rat} (hb : b = 0) : CallOK Tryz.prog 50 [dQ a, dQ b] (.tup [dQ0, dN .i64 6]) := by
  refine callOK_of TT_ok mixT Tryz.func50 rfl rfl (Nat.le_of_ble_eq_true rfl) ?_
  repeat (first | refine r_op rfl rfl rfl rfl ?_ | refine r_skip rfl rfl rfl ?_ | refine .done ?_ | refine r_seq (T := TT) ?_ | refine r_region (T := TT) rfl ?_ | refine r_block (T := TT) ?_ | refine r_then (T := TT) rfl ?_ | refine r_else (T := TT) rfl ?_)
  refine r_call (okz_q_isZero (decide_eq_true (Rat.num_eq_zero.2 hb))) rfl rfl rfl rfl rfl rfl rfl ?_
  repeat (first | refine r_op rfl rfl rfl rfl ?_ | refine r_skip rfl rfl rfl ?_ | refine .done ?_ | refine r_seq (T := TT) ?_ | refine r_region (T := TT) rfl ?_ | refine r_block (T := TT) ?_ | refine r_then (T := TT) rfl ?_ | refine r_else (T := TT) rfl ?_)
  exact r_fin (T := TT) rfl rfl
theorem ok_r2_Add {j k : Nat} {a b q : Rat} (h : SzQ j a) (h' : SzQ k b) (hk : j + k + 1 ≤ 2147483648) (hq : a + b = q) : CallOK Tryz.prog 46 [dQ a, dQ b] (.one (dQ q)) := by
  subst hq
  by_cases ha0 : a.num = 0
  · have e : a + b = b := by rw [Rat.num_eq_zero.1 ha0]; exact Rat.zero_add b
    rw [e]
    refine callOK_of TT_ok mixT Tryz.func46 rfl rfl (Nat.le_of_ble_eq_true rfl) ?_
    repeat (first | refine r_op rfl rfl rfl rfl ?_ | refine r_skip rfl rfl rfl ?_ | refine .done ?_ | refine r_seq (T := TT) ?_ | refine r_region (T := TT) rfl ?_ | refine r_block (T := TT) ?_ | refine r_then (T := TT) rfl ?_ | refine r_else (T := TT) rfl ?_)
    refine r_then2 (T := TT) rfl ?_ ?_
    · exact nil_t ha0
    repeat (first | refine r_op rfl rfl rfl rfl ?_ | refine r_skip rfl rfl rfl ?_ | refine .done ?_ | refine r_seq (T := TT) ?_ | refine r_region (T := TT) rfl ?_ | refine r_block (T := TT) ?_ | refine r_then (T := TT) rfl ?_ | refine r_else (T := TT) rfl ?_)
    exact r_fin (T := TT) rfl rfl
  by_cases hb0 : b.num = 0
  · have e : a + b = a := by rw [Rat.num_eq_zero.1 hb0]; exact Rat.add_zero a
    rw [e]
    refine callOK_of TT_ok mixT Tryz.func46 rfl rfl (Nat.le_of_ble_eq_true rfl) ?_
    repeat (first | refine r_op rfl rfl rfl rfl ?_ | refine r_skip rfl rfl rfl ?_ | refine .done ?_ | refine r_seq (T := TT) ?_ | refine r_region (T := TT) rfl ?_ | refine r_block (T := TT) ?_ | refine r_then (T := TT) rfl ?_ | refine r_else (T := TT) rfl ?_)
    refine r_else2 (T := TT) rfl ?_ ?_
    · exact nil_f ha0
    repeat (first | refine r_op rfl rfl rfl rfl ?_ | refine r_skip rfl rfl rfl ?_ | refine .done ?_ | refine r_seq (T := TT) ?_ | refine r_region (T := TT) rfl ?_ | refine r_block (T := TT) ?_ | refine r_then (T := TT) rfl ?_ | refine r_else (T := TT) rfl ?_)
    refine r_then2 (T := TT) rfl ?_ ?_
    · exact nil_t hb0
    repeat (first | refine r_op rfl rfl rfl rfl ?_ | refine r_skip rfl rfl rfl ?_ | refine .done ?_ | refine r_seq (T := TT) ?_ | refine r_region (T := TT) rfl ?_ | refine r_block (T := TT) ?_ | refine r_then (T := TT) rfl ?_ | refine r_else (T := TT) rfl ?_)
    exact r_fin (T := TT) rfl rfl
  obtain ⟨g, hg⟩ : ∃ g, Nat.gcd a.den b.den = g := ⟨_, rfl⟩
  have hgz : Nat.gcd (a.den : Int).natAbs (b.den : Int).natAbs = g := by rw [Int.natAbs_natCast, Int.natAbs_natCast]; exact hg
  have hg0 : 0 < g := by rw [← hg]; exact Nat.gcd_pos_of_pos_right _ (Nat.pos_of_ne_zero b.den_nz)
  have sg : Sz k g := by rw [← hgz]; exact h'.2.gcd (by have := den_pos b; omega)
  by_cases hab : a.den = 1 ∧ b.den = 1
  · rw [dQ_of (add_one hab.1 hab.2).1 (d := a.den) (by rw [(add_one hab.1 hab.2).2, hab.1])]
    refine callOK_of TT_ok mixT Tryz.func46 rfl rfl (Nat.le_of_ble_eq_true rfl) ?_
    repeat (first | refine r_op rfl rfl rfl rfl ?_ | refine r_skip rfl rfl rfl ?_ | refine .done ?_ | refine r_seq (T := TT) ?_ | refine r_region (T := TT) rfl ?_ | refine r_block (T := TT) ?_ | refine r_then (T := TT) rfl ?_ | refine r_else (T := TT) rfl ?_)
    refine r_else2 (T := TT) rfl ?_ ?_
    · exact nil_f ha0
    repeat (first | refine r_op rfl rfl rfl rfl ?_ | refine r_skip rfl rfl rfl ?_ | refine .done ?_ | refine r_seq (T := TT) ?_ | refine r_region (T := TT) rfl ?_ | refine r_block (T := TT) ?_ | refine r_then (T := TT) rfl ?_ | refine r_else (T := TT) rfl ?_)
    refine r_else2 (T := TT) rfl ?_ ?_
    · exact nil_f hb0
    repeat (first | refine r_op rfl rfl rfl rfl ?_ | refine r_skip rfl rfl rfl ?_ | refine .done ?_ | refine r_seq (T := TT) ?_ | refine r_region (T := TT) rfl ?_ | refine r_block (T := TT) ?_ | refine r_then (T := TT) rfl ?_ | refine r_else (T := TT) rfl ?_)
    refine r_call (okz_r2_one (one_t hab.1)) rfl rfl rfl rfl rfl rfl rfl ?_
    repeat (first | refine r_op rfl rfl rfl rfl ?_ | refine r_skip rfl rfl rfl ?_ | refine .done ?_ | refine r_seq (T := TT) ?_ | refine r_region (T := TT) rfl ?_ | refine r_block (T := TT) ?_ | refine r_then (T := TT) rfl ?_ | refine r_else (T := TT) rfl ?_)
    refine r_call (okz_r2_one (one_t hab.2)) rfl rfl rfl rfl rfl rfl rfl ?_
    repeat (first | refine r_op rfl rfl rfl rfl ?_ | refine r_skip rfl rfl rfl ?_ | refine .done ?_ | refine r_seq (T := TT) ?_ | refine r_region (T := TT) rfl ?_ | refine r_block (T := TT) ?_ | refine r_then (T := TT) rfl ?_ | refine r_else (T := TT) rfl ?_)
    refine r_call (okz_r1_Add (h.1.fit (by omega)) (h'.1.fit (by omega))) rfl rfl rfl rfl rfl rfl rfl ?_
    repeat (first | refine r_op rfl rfl rfl rfl ?_ | refine r_skip rfl rfl rfl ?_ | refine .done ?_ | refine r_seq (T := TT) ?_ | refine r_region (T := TT) rfl ?_ | refine r_block (T := TT) ?_ | refine r_then (T := TT) rfl ?_ | refine r_else (T := TT) rfl ?_)
    exact r_fin (T := TT) rfl rfl
  by_cases hg1 : g = 1
  · have e := add_cop (hg.trans hg1)
    rw [dQ_of e.1 (d := a.den * b.den) (by rw [e.2]; rfl)]
    refine callOK_of TT_ok mixT Tryz.func46 rfl rfl (Nat.le_of_ble_eq_true rfl) ?_
    repeat (first | refine r_op rfl rfl rfl rfl ?_ | refine r_skip rfl rfl rfl ?_ | refine .done ?_ | refine r_seq (T := TT) ?_ | refine r_region (T := TT) rfl ?_ | refine r_block (T := TT) ?_ | refine r_then (T := TT) rfl ?_ | refine r_else (T := TT) rfl ?_)
    refine r_else2 (T := TT) rfl ?_ ?_
    · exact nil_f ha0
    repeat (first | refine r_op rfl rfl rfl rfl ?_ | refine r_skip rfl rfl rfl ?_ | refine .done ?_ | refine r_seq (T := TT) ?_ | refine r_region (T := TT) rfl ?_ | refine r_block (T := TT) ?_ | refine r_then (T := TT) rfl ?_ | refine r_else (T := TT) rfl ?_)
    refine r_else2 (T := TT) rfl ?_ ?_
    · exact nil_f hb0
    repeat (first | refine r_op rfl rfl rfl rfl ?_ | refine r_skip rfl rfl rfl ?_ | refine .done ?_ | refine r_seq (T := TT) ?_ | refine r_region (T := TT) rfl ?_ | refine r_block (T := TT) ?_ | refine r_then (T := TT) rfl ?_ | refine r_else (T := TT) rfl ?_)
    by_cases ha : a.den = 1
    · have hb : ¬ b.den = 1 := fun e => hab ⟨ha, e⟩
      refine r_call (okz_r2_one (one_t ha)) rfl rfl rfl rfl rfl rfl rfl ?_
      repeat (first | refine r_op rfl rfl rfl rfl ?_ | refine r_skip rfl rfl rfl ?_ | refine .done ?_ | refine r_seq (T := TT) ?_ | refine r_region (T := TT) rfl ?_ | refine r_block (T := TT) ?_ | refine r_then (T := TT) rfl ?_ | refine r_else (T := TT) rfl ?_)
      refine r_call (okz_r2_one (one_f hb)) rfl rfl rfl rfl rfl rfl rfl ?_
      repeat (first | refine r_op rfl rfl rfl rfl ?_ | refine r_skip rfl rfl rfl ?_ | refine .done ?_ | refine r_seq (T := TT) ?_ | refine r_region (T := TT) rfl ?_ | refine r_block (T := TT) ?_ | refine r_then (T := TT) rfl ?_ | refine r_else (T := TT) rfl ?_)
      refine r_call (okz_r1_GCD (h.2.fit (by omega)) (h'.2.fit (by omega)) hgz) rfl rfl rfl rfl rfl rfl rfl ?_
      repeat (first | refine r_op rfl rfl rfl rfl ?_ | refine r_skip rfl rfl rfl ?_ | refine .done ?_ | refine r_seq (T := TT) ?_ | refine r_region (T := TT) rfl ?_ | refine r_block (T := TT) ?_ | refine r_then (T := TT) rfl ?_ | refine r_else (T := TT) rfl ?_)
      refine r_call (okz_r2_one (decide_eq_true (by omega))) rfl rfl rfl rfl rfl rfl rfl ?_
      repeat (first | refine r_op rfl rfl rfl rfl ?_ | refine r_skip rfl rfl rfl ?_ | refine .done ?_ | refine r_seq (T := TT) ?_ | refine r_region (T := TT) rfl ?_ | refine r_block (T := TT) ?_ | refine r_then (T := TT) rfl ?_ | refine r_else (T := TT) rfl ?_)
      refine r_call (okz_r1_Mul (h.1.fit (by omega)) (h'.2.fit (by omega))) rfl rfl rfl rfl rfl rfl rfl ?_
      repeat (first | refine r_op rfl rfl rfl rfl ?_ | refine r_skip rfl rfl rfl ?_ | refine .done ?_ | refine r_seq (T := TT) ?_ | refine r_region (T := TT) rfl ?_ | refine r_block (T := TT) ?_ | refine r_then (T := TT) rfl ?_ | refine r_else (T := TT) rfl ?_)
      refine r_call (okz_r1_Mul (h'.1.fit (by omega)) (h.2.fit (by omega))) rfl rfl rfl rfl rfl rfl rfl ?_
      repeat (first | refine r_op rfl rfl rfl rfl ?_ | refine r_skip rfl rfl rfl ?_ | refine .done ?_ | refine r_seq (T := TT) ?_ | refine r_region (T := TT) rfl ?_ | refine r_block (T := TT) ?_ | refine r_then (T := TT) rfl ?_ | refine r_else (T := TT) rfl ?_)
      refine r_call (okz_r1_Add ((h.1.mul h'.2).fit (by omega)) ((h'.1.mul h.2).fit (by omega))) rfl rfl rfl rfl rfl rfl rfl ?_
      repeat (first | refine r_op rfl rfl rfl rfl ?_ | refine r_skip rfl rfl rfl ?_ | refine .done ?_ | refine r_seq (T := TT) ?_ | refine r_region (T := TT) rfl ?_ | refine r_block (T := TT) ?_ | refine r_then (T := TT) rfl ?_ | refine r_else (T := TT) rfl ?_)
      refine r_call (okz_r1_Mul (h.2.fit (by omega)) (h'.2.fit (by omega))) rfl rfl rfl rfl rfl rfl rfl ?_
      repeat (first | refine r_op rfl rfl rfl rfl ?_ | refine r_skip rfl rfl rfl ?_ | refine .done ?_ | refine r_seq (T := TT) ?_ | refine r_region (T := TT) rfl ?_ | refine r_block (T := TT) ?_ | refine r_then (T := TT) rfl ?_ | refine r_else (T := TT) rfl ?_)
      exact r_fin (T := TT) rfl rfl
    · refine r_call (okz_r2_one (one_f ha)) rfl rfl rfl rfl rfl rfl rfl ?_
      repeat (first | refine r_op rfl rfl rfl rfl ?_ | refine r_skip rfl rfl rfl ?_ | refine .done ?_ | refine r_seq (T := TT) ?_ | refine r_region (T := TT) rfl ?_ | refine r_block (T := TT) ?_ | refine r_then (T := TT) rfl ?_ | refine r_else (T := TT) rfl ?_)
      refine r_call (okz_r1_GCD (h.2.fit (by omega)) (h'.2.fit (by omega)) hgz) rfl rfl rfl rfl rfl rfl rfl ?_
      repeat (first | refine r_op rfl rfl rfl rfl ?_ | refine r_skip rfl rfl rfl ?_ | refine .done ?_ | refine r_seq (T := TT) ?_ | refine r_region (T := TT) rfl ?_ | refine r_block (T := TT) ?_ | refine r_then (T := TT) rfl ?_ | refine r_else (T := TT) rfl ?_)
      refine r_call (okz_r2_one (decide_eq_true (by omega))) rfl rfl rfl rfl rfl rfl rfl ?_
      repeat (first | refine r_op rfl rfl rfl rfl ?_ | refine r_skip rfl rfl rfl ?_ | refine .done ?_ | refine r_seq (T := TT) ?_ | refine r_region (T := TT) rfl ?_ | refine r_block (T := TT) ?_ | refine r_then (T := TT) rfl ?_ | refine r_else (T := TT) rfl ?_)
      refine r_call (okz_r1_Mul (h.1.fit (by omega)) (h'.2.fit (by omega))) rfl rfl rfl rfl rfl rfl rfl ?_
      repeat (first | refine r_op rfl rfl rfl rfl ?_ | refine r_skip rfl rfl rfl ?_ | refine .done ?_ | refine r_seq (T := TT) ?_ | refine r_region (T := TT) rfl ?_ | refine r_block (T := TT) ?_ | refine r_then (T := TT) rfl ?_ | refine r_else (T := TT) rfl ?_)
      refine r_call (okz_r1_Mul (h'.1.fit (by omega)) (h.2.fit (by omega))) rfl rfl rfl rfl rfl rfl rfl ?_
      repeat (first | refine r_op rfl rfl rfl rfl ?_ | refine r_skip rfl rfl rfl ?_ | refine .done ?_ | refine r_seq (T := TT) ?_ | refine r_region (T := TT) rfl ?_ | refine r_block (T := TT) ?_ | refine r_then (T := TT) rfl ?_ | refine r_else (T := TT) rfl ?_)
      refine r_call (okz_r1_Add ((h.1.mul h'.2).fit (by omega)) ((h'.1.mul h.2).fit (by omega))) rfl rfl rfl rfl rfl rfl rfl ?_
      repeat (first | refine r_op rfl rfl rfl rfl ?_ | refine r_skip rfl rfl rfl ?_ | refine .done ?_ | refine r_seq (T := TT) ?_ | refine r_region (T := TT) rfl ?_ | refine r_block (T := TT) ?_ | refine r_then (T := TT) rfl ?_ | refine r_else (T := TT) rfl ?_)
      refine r_call (okz_r1_Mul (h.2.fit (by omega)) (h'.2.fit (by omega))) rfl rfl rfl rfl rfl rfl rfl ?_
      repeat (first | refine r_op rfl rfl rfl rfl ?_ | refine r_skip rfl rfl rfl ?_ | refine .done ?_ | refine r_seq (T := TT) ?_ | refine r_region (T := TT) rfl ?_ | refine r_block (T := TT) ?_ | refine r_then (T := TT) rfl ?_ | refine r_else (T := TT) rfl ?_)
      exact r_fin (T := TT) rfl rfl
  · have ha : ¬ a.den = 1 := fun e => hg1 (by rw [← hg, e, Nat.gcd_one_left])
    obtain ⟨x, hx⟩ : ∃ x, a.den / g = x := ⟨_, rfl⟩
    obtain ⟨y, hy⟩ : ∃ y, b.den / g = y := ⟨_, rfl⟩
    have sx : Sz j x := h.2.of_le (by rw [← hx, Int.natAbs_natCast, Int.natAbs_natCast]; exact Nat.div_le_self _ _)
    have sy : Sz k y := h'.2.of_le (by rw [← hy, Int.natAbs_natCast, Int.natAbs_natCast]; exact Nat.div_le_self _ _)
    obtain ⟨n, hn⟩ : ∃ n, a.num * (y : Int) + b.num * (x : Int) = n := ⟨_, rfl⟩
    have sn : Sz (j + k + 1) n := by rw [← hn]; exact (h.1.mul sy).add ((h'.1.mul sx).mono (by omega))
    obtain ⟨t, ht⟩ : ∃ t, Nat.gcd n.natAbs g = t := ⟨_, rfl⟩
    have ht0 : 0 < t := by rw [← ht]; exact Nat.gcd_pos_of_pos_right _ hg0
    have htz : Nat.gcd n.natAbs (g : Int).natAbs = t := by rw [Int.natAbs_natCast]; exact ht
    have st : Sz k t := by rw [← htz]; exact sg.gcd (by omega)
    have e := add_gen (a := a) (b := b) hg hg1 (h := t) (by rw [hx, hy, hn]; exact ht)
    rw [hx, hy, hn] at e
    rw [dQ_of e.1 (d := x * (b.den / t : Nat)) (by rw [e.2]; rfl)]
    have sz : Sz k (b.den / t : Nat) := h'.2.of_le (by rw [Int.natAbs_natCast, Int.natAbs_natCast]; exact Nat.div_le_self _ _)
    refine callOK_of TT_ok mixT Tryz.func46 rfl rfl (Nat.le_of_ble_eq_true rfl) ?_
    repeat (first | refine r_op rfl rfl rfl rfl ?_ | refine r_skip rfl rfl rfl ?_ | refine .done ?_ | refine r_seq (T := TT) ?_ | refine r_region (T := TT) rfl ?_ | refine r_block (T := TT) ?_ | refine r_then (T := TT) rfl ?_ | refine r_else (T := TT) rfl ?_)
    refine r_else2 (T := TT) rfl ?_ ?_
    · exact nil_f ha0
    repeat (first | refine r_op rfl rfl rfl rfl ?_ | refine r_skip rfl rfl rfl ?_ | refine .done ?_ | refine r_seq (T := TT) ?_ | refine r_region (T := TT) rfl ?_ | refine r_block (T := TT) ?_ | refine r_then (T := TT) rfl ?_ | refine r_else (T := TT) rfl ?_)
    refine r_else2 (T := TT) rfl ?_ ?_
    · exact nil_f hb0
    repeat (first | refine r_op rfl rfl rfl rfl ?_ | refine r_skip rfl rfl rfl ?_ | refine .done ?_ | refine r_seq (T := TT) ?_ | refine r_region (T := TT) rfl ?_ | refine r_block (T := TT) ?_ | refine r_then (T := TT) rfl ?_ | refine r_else (T := TT) rfl ?_)
    refine r_call (okz_r2_one (one_f ha)) rfl rfl rfl rfl rfl rfl rfl ?_
    repeat (first | refine r_op rfl rfl rfl rfl ?_ | refine r_skip rfl rfl rfl ?_ | refine .done ?_ | refine r_seq (T := TT) ?_ | refine r_region (T := TT) rfl ?_ | refine r_block (T := TT) ?_ | refine r_then (T := TT) rfl ?_ | refine r_else (T := TT) rfl ?_)
    refine r_call (okz_r1_GCD (h.2.fit (by omega)) (h'.2.fit (by omega)) hgz) rfl rfl rfl rfl rfl rfl rfl ?_
    repeat (first | refine r_op rfl rfl rfl rfl ?_ | refine r_skip rfl rfl rfl ?_ | refine .done ?_ | refine r_seq (T := TT) ?_ | refine r_region (T := TT) rfl ?_ | refine r_block (T := TT) ?_ | refine r_then (T := TT) rfl ?_ | refine r_else (T := TT) rfl ?_)
    refine r_call (okz_r2_one (decide_eq_false (by omega))) rfl rfl rfl rfl rfl rfl rfl ?_
    repeat (first | refine r_op rfl rfl rfl rfl ?_ | refine r_skip rfl rfl rfl ?_ | refine .done ?_ | refine r_seq (T := TT) ?_ | refine r_region (T := TT) rfl ?_ | refine r_block (T := TT) ?_ | refine r_then (T := TT) rfl ?_ | refine r_else (T := TT) rfl ?_)
    refine r_call (ok_r2_quo (h.2.fit (by omega)) (sg.fit (by omega)) (by omega) ((fdiv_nn _ _).trans (congrArg _ hx))) rfl rfl rfl rfl rfl rfl rfl ?_
    repeat (first | refine r_op rfl rfl rfl rfl ?_ | refine r_skip rfl rfl rfl ?_ | refine .done ?_ | refine r_seq (T := TT) ?_ | refine r_region (T := TT) rfl ?_ | refine r_block (T := TT) ?_ | refine r_then (T := TT) rfl ?_ | refine r_else (T := TT) rfl ?_)
    refine r_call (ok_r2_quo (h'.2.fit (by omega)) (sg.fit (by omega)) (by omega) ((fdiv_nn _ _).trans (congrArg _ hy))) rfl rfl rfl rfl rfl rfl rfl ?_
    repeat (first | refine r_op rfl rfl rfl rfl ?_ | refine r_skip rfl rfl rfl ?_ | refine .done ?_ | refine r_seq (T := TT) ?_ | refine r_region (T := TT) rfl ?_ | refine r_block (T := TT) ?_ | refine r_then (T := TT) rfl ?_ | refine r_else (T := TT) rfl ?_)
    refine r_call (okz_r1_Mul (h.1.fit (by omega)) (sy.fit (by omega))) rfl rfl rfl rfl rfl rfl rfl ?_
    repeat (first | refine r_op rfl rfl rfl rfl ?_ | refine r_skip rfl rfl rfl ?_ | refine .done ?_ | refine r_seq (T := TT) ?_ | refine r_region (T := TT) rfl ?_ | refine r_block (T := TT) ?_ | refine r_then (T := TT) rfl ?_ | refine r_else (T := TT) rfl ?_)
    refine r_call (okz_r1_Mul (h'.1.fit (by omega)) (sx.fit (by omega))) rfl rfl rfl rfl rfl rfl rfl ?_
    repeat (first | refine r_op rfl rfl rfl rfl ?_ | refine r_skip rfl rfl rfl ?_ | refine .done ?_ | refine r_seq (T := TT) ?_ | refine r_region (T := TT) rfl ?_ | refine r_block (T := TT) ?_ | refine r_then (T := TT) rfl ?_ | refine r_else (T := TT) rfl ?_)
    refine r_call ((hn ▸ okz_r1_Add ((h.1.mul sy).fit (by omega)) ((h'.1.mul sx).fit (by omega)))) rfl rfl rfl rfl rfl rfl rfl ?_
    repeat (first | refine r_op rfl rfl rfl rfl ?_ | refine r_skip rfl rfl rfl ?_ | refine .done ?_ | refine r_seq (T := TT) ?_ | refine r_region (T := TT) rfl ?_ | refine r_block (T := TT) ?_ | refine r_then (T := TT) rfl ?_ | refine r_else (T := TT) rfl ?_)
    refine r_call (okz_r1_GCD (sn.fit (by omega)) (sg.fit (by omega)) htz) rfl rfl rfl rfl rfl rfl rfl ?_
    repeat (first | refine r_op rfl rfl rfl rfl ?_ | refine r_skip rfl rfl rfl ?_ | refine .done ?_ | refine r_seq (T := TT) ?_ | refine r_region (T := TT) rfl ?_ | refine r_block (T := TT) ?_ | refine r_then (T := TT) rfl ?_ | refine r_else (T := TT) rfl ?_)
    refine r_call (ok_r2_quo (sn.fit (by omega)) (st.fit (by omega)) (by omega) (fdiv_nat _ _)) rfl rfl rfl rfl rfl rfl rfl ?_
    repeat (first | refine r_op rfl rfl rfl rfl ?_ | refine r_skip rfl rfl rfl ?_ | refine .done ?_ | refine r_seq (T := TT) ?_ | refine r_region (T := TT) rfl ?_ | refine r_block (T := TT) ?_ | refine r_then (T := TT) rfl ?_ | refine r_else (T := TT) rfl ?_)
    refine r_call (ok_r2_quo (h'.2.fit (by omega)) (st.fit (by omega)) (by omega) (fdiv_nn _ _)) rfl rfl rfl rfl rfl rfl rfl ?_
    repeat (first | refine r_op rfl rfl rfl rfl ?_ | refine r_skip rfl rfl rfl ?_ | refine .done ?_ | refine r_seq (T := TT) ?_ | refine r_region (T := TT) rfl ?_ | refine r_block (T := TT) ?_ | refine r_then (T := TT) rfl ?_ | refine r_else (T := TT) rfl ?_)
    refine r_call (okz_r1_Mul (sx.fit (by omega)) (sz.fit (by omega))) rfl rfl rfl rfl rfl rfl rfl ?_
    repeat (first | refine r_op rfl rfl rfl rfl ?_ | refine r_skip rfl rfl rfl ?_ | refine .done ?_ | refine r_seq (T := TT) ?_ | refine r_region (T := TT) rfl ?_ | refine r_block (T := TT) ?_ | refine r_then (T := TT) rfl ?_ | refine r_else (T := TT) rfl ?_)
    exact r_fin (T := TT) rfl rfl
theorem ok_r2_Mul {j k : Nat} {a b q : Rat} (h : SzQ j a) (h' : SzQ k b) (hk : j + k ≤ 2147483648) (hq : a * b = q) : CallOK Tryz.prog 49 [dQ a, dQ b] (.one (dQ q)) := by
  subst hq
  by_cases ha0 : a.num = 0
  · have e : a * b = 0 := by rw [Rat.num_eq_zero.1 ha0]; exact Rat.zero_mul b
    refine callOK_of TT_ok mixT Tryz.func49 rfl rfl (Nat.le_of_ble_eq_true rfl) ?_
    repeat refine r_seq (T := TT) ?_
    refine r_region (T := TT) rfl ?_
    repeat (first | refine r_op rfl rfl rfl rfl ?_ | refine r_skip rfl rfl rfl ?_)
    try refine .done ?_
    repeat refine r_seq (T := TT) ?_
    refine r_region (T := TT) rfl ?_
    iterate 4 (first | refine r_op rfl rfl rfl rfl ?_ | refine r_skip rfl rfl rfl ?_)
    refine r_eq (v' := .bool true) rfl rfl rfl rfl ?_ ?_
    · exact congrArg Value.bool (nil_t ha0)
    repeat (first | refine r_op rfl rfl rfl rfl ?_ | refine r_skip rfl rfl rfl ?_ | refine .done ?_ | refine r_seq (T := TT) ?_ | refine r_region (T := TT) rfl ?_ | refine r_block (T := TT) ?_ | refine r_then (T := TT) rfl ?_ | refine r_else (T := TT) rfl ?_)
    refine r_call (ok_r2_FromInt 0 (by decide) (by decide) e.symm) rfl rfl rfl rfl rfl rfl rfl ?_
    repeat (first | refine r_op rfl rfl rfl rfl ?_ | refine r_skip rfl rfl rfl ?_ | refine .done ?_ | refine r_seq (T := TT) ?_ | refine r_region (T := TT) rfl ?_ | refine r_block (T := TT) ?_ | refine r_then (T := TT) rfl ?_ | refine r_else (T := TT) rfl ?_)
    exact r_fin (T := TT) rfl rfl
  by_cases hb0 : b.num = 0
  · have e : a * b = 0 := by rw [Rat.num_eq_zero.1 hb0]; exact Rat.mul_zero a
    refine callOK_of TT_ok mixT Tryz.func49 rfl rfl (Nat.le_of_ble_eq_true rfl) ?_
    repeat refine r_seq (T := TT) ?_
    refine r_region (T := TT) rfl ?_
    repeat (first | refine r_op rfl rfl rfl rfl ?_ | refine r_skip rfl rfl rfl ?_)
    try refine .done ?_
    repeat refine r_seq (T := TT) ?_
    refine r_region (T := TT) rfl ?_
    iterate 4 (first | refine r_op rfl rfl rfl rfl ?_ | refine r_skip rfl rfl rfl ?_)
    refine r_eq (v' := .bool false) rfl rfl rfl rfl ?_ ?_
    · exact congrArg Value.bool (nil_f ha0)
    iterate 5 (first | refine r_op rfl rfl rfl rfl ?_ | refine r_skip rfl rfl rfl ?_)
    refine r_eq (v' := .bool true) rfl rfl rfl rfl ?_ ?_
    · exact congrArg Value.bool (nil_t hb0)
    repeat (first | refine r_op rfl rfl rfl rfl ?_ | refine r_skip rfl rfl rfl ?_ | refine .done ?_ | refine r_seq (T := TT) ?_ | refine r_region (T := TT) rfl ?_ | refine r_block (T := TT) ?_ | refine r_then (T := TT) rfl ?_ | refine r_else (T := TT) rfl ?_)
    refine r_call (ok_r2_FromInt 0 (by decide) (by decide) e.symm) rfl rfl rfl rfl rfl rfl rfl ?_
    repeat (first | refine r_op rfl rfl rfl rfl ?_ | refine r_skip rfl rfl rfl ?_ | refine .done ?_ | refine r_seq (T := TT) ?_ | refine r_region (T := TT) rfl ?_ | refine r_block (T := TT) ?_ | refine r_then (T := TT) rfl ?_ | refine r_else (T := TT) rfl ?_)
    exact r_fin (T := TT) rfl rfl
  by_cases hab : a.den = 1 ∧ b.den = 1
  · rw [dQ_of (mul_one' hab.1 hab.2).1 (d := a.den) (by rw [(mul_one' hab.1 hab.2).2, hab.1])]
    refine callOK_of TT_ok mixT Tryz.func49 rfl rfl (Nat.le_of_ble_eq_true rfl) ?_
    repeat refine r_seq (T := TT) ?_
    refine r_region (T := TT) rfl ?_
    repeat (first | refine r_op rfl rfl rfl rfl ?_ | refine r_skip rfl rfl rfl ?_)
    try refine .done ?_
    repeat refine r_seq (T := TT) ?_
    refine r_region (T := TT) rfl ?_
    iterate 4 (first | refine r_op rfl rfl rfl rfl ?_ | refine r_skip rfl rfl rfl ?_)
    refine r_eq (v' := .bool false) rfl rfl rfl rfl ?_ ?_
    · exact congrArg Value.bool (nil_f ha0)
    iterate 5 (first | refine r_op rfl rfl rfl rfl ?_ | refine r_skip rfl rfl rfl ?_)
    refine r_eq (v' := .bool false) rfl rfl rfl rfl ?_ ?_
    · exact congrArg Value.bool (nil_f hb0)
    repeat (first | refine r_op rfl rfl rfl rfl ?_ | refine r_skip rfl rfl rfl ?_ | refine .done ?_ | refine r_seq (T := TT) ?_ | refine r_region (T := TT) rfl ?_ | refine r_block (T := TT) ?_ | refine r_then (T := TT) rfl ?_ | refine r_else (T := TT) rfl ?_)
    refine r_call (okz_r2_one (one_t hab.1)) rfl rfl rfl rfl rfl rfl rfl ?_
    repeat (first | refine r_op rfl rfl rfl rfl ?_ | refine r_skip rfl rfl rfl ?_ | refine .done ?_ | refine r_seq (T := TT) ?_ | refine r_region (T := TT) rfl ?_ | refine r_block (T := TT) ?_ | refine r_then (T := TT) rfl ?_ | refine r_else (T := TT) rfl ?_)
    refine r_call (okz_r2_one (one_t hab.2)) rfl rfl rfl rfl rfl rfl rfl ?_
    repeat (first | refine r_op rfl rfl rfl rfl ?_ | refine r_skip rfl rfl rfl ?_ | refine .done ?_ | refine r_seq (T := TT) ?_ | refine r_region (T := TT) rfl ?_ | refine r_block (T := TT) ?_ | refine r_then (T := TT) rfl ?_ | refine r_else (T := TT) rfl ?_)
    refine r_call (okz_r1_Mul (h.1.fit (by omega)) (h'.1.fit (by omega))) rfl rfl rfl rfl rfl rfl rfl ?_
    repeat (first | refine r_op rfl rfl rfl rfl ?_ | refine r_skip rfl rfl rfl ?_ | refine .done ?_ | refine r_seq (T := TT) ?_ | refine r_region (T := TT) rfl ?_ | refine r_block (T := TT) ?_ | refine r_then (T := TT) rfl ?_ | refine r_else (T := TT) rfl ?_)
    exact r_fin (T := TT) rfl rfl
  have e := mul_gen a b
  obtain ⟨g, hg⟩ : ∃ g, Nat.gcd a.num.natAbs b.den = g := ⟨_, rfl⟩
  obtain ⟨t, ht⟩ : ∃ t, Nat.gcd b.num.natAbs a.den = t := ⟨_, rfl⟩
  rw [hg, ht] at e
  have hgz : Nat.gcd a.num.natAbs (b.den : Int).natAbs = g := by rw [Int.natAbs_natCast]; exact hg
  have htz : Nat.gcd b.num.natAbs (a.den : Int).natAbs = t := by rw [Int.natAbs_natCast]; exact ht
  have hg0 : 0 < g := by rw [← hg]; exact Nat.gcd_pos_of_pos_right _ (Nat.pos_of_ne_zero b.den_nz)
  have ht0 : 0 < t := by rw [← ht]; exact Nat.gcd_pos_of_pos_right _ (Nat.pos_of_ne_zero a.den_nz)
  have sg : Sz k g := by rw [← hgz]; exact h'.2.gcd (by have := den_pos b; omega)
  have st : Sz j t := by rw [← htz]; exact h.2.gcd (by have := den_pos a; omega)
  have s1 : Sz j (a.num / g) := h.1.of_le (Int.natAbs_ediv_le_natAbs _ _)
  have s2 : Sz k (b.num / t) := h'.1.of_le (Int.natAbs_ediv_le_natAbs _ _)
  have s3 : Sz j (a.den / t : Nat) := h.2.of_le (by rw [Int.natAbs_natCast, Int.natAbs_natCast]; exact Nat.div_le_self _ _)
  have s4 : Sz k (b.den / g : Nat) := h'.2.of_le (by rw [Int.natAbs_natCast, Int.natAbs_natCast]; exact Nat.div_le_self _ _)
  rw [dQ_of e.1 (d := (a.den / t : Nat) * (b.den / g : Nat)) (by rw [e.2]; rfl)]
  refine callOK_of TT_ok mixT Tryz.func49 rfl rfl (Nat.le_of_ble_eq_true rfl) ?_
  repeat refine r_seq (T := TT) ?_
  refine r_region (T := TT) rfl ?_
  repeat (first | refine r_op rfl rfl rfl rfl ?_ | refine r_skip rfl rfl rfl ?_)
  try refine .done ?_
  repeat refine r_seq (T := TT) ?_
  refine r_region (T := TT) rfl ?_
  iterate 4 (first | refine r_op rfl rfl rfl rfl ?_ | refine r_skip rfl rfl rfl ?_)
  refine r_eq (v' := .bool false) rfl rfl rfl rfl ?_ ?_
  · exact congrArg Value.bool (nil_f ha0)
  iterate 5 (first | refine r_op rfl rfl rfl rfl ?_ | refine r_skip rfl rfl rfl ?_)
  refine r_eq (v' := .bool false) rfl rfl rfl rfl ?_ ?_
  · exact congrArg Value.bool (nil_f hb0)
  repeat (first | refine r_op rfl rfl rfl rfl ?_ | refine r_skip rfl rfl rfl ?_ | refine .done ?_ | refine r_seq (T := TT) ?_ | refine r_region (T := TT) rfl ?_ | refine r_block (T := TT) ?_ | refine r_then (T := TT) rfl ?_ | refine r_else (T := TT) rfl ?_)
  by_cases ha : a.den = 1
  · have hb : ¬ b.den = 1 := fun e => hab ⟨ha, e⟩
    refine r_call (okz_r2_one (one_t ha)) rfl rfl rfl rfl rfl rfl rfl ?_
    repeat (first | refine r_op rfl rfl rfl rfl ?_ | refine r_skip rfl rfl rfl ?_ | refine .done ?_ | refine r_seq (T := TT) ?_ | refine r_region (T := TT) rfl ?_ | refine r_block (T := TT) ?_ | refine r_then (T := TT) rfl ?_ | refine r_else (T := TT) rfl ?_)
    refine r_call (okz_r2_one (one_f hb)) rfl rfl rfl rfl rfl rfl rfl ?_
    repeat (first | refine r_op rfl rfl rfl rfl ?_ | refine r_skip rfl rfl rfl ?_ | refine .done ?_ | refine r_seq (T := TT) ?_ | refine r_region (T := TT) rfl ?_ | refine r_block (T := TT) ?_ | refine r_then (T := TT) rfl ?_ | refine r_else (T := TT) rfl ?_)
    refine r_call (okz_r1_GCD (h.1.fit (by omega)) (h'.2.fit (by omega)) hgz) rfl rfl rfl rfl rfl rfl rfl ?_
    repeat (first | refine r_op rfl rfl rfl rfl ?_ | refine r_skip rfl rfl rfl ?_ | refine .done ?_ | refine r_seq (T := TT) ?_ | refine r_region (T := TT) rfl ?_ | refine r_block (T := TT) ?_ | refine r_then (T := TT) rfl ?_ | refine r_else (T := TT) rfl ?_)
    refine r_call (okz_r1_GCD (h'.1.fit (by omega)) (h.2.fit (by omega)) htz) rfl rfl rfl rfl rfl rfl rfl ?_
    repeat (first | refine r_op rfl rfl rfl rfl ?_ | refine r_skip rfl rfl rfl ?_ | refine .done ?_ | refine r_seq (T := TT) ?_ | refine r_region (T := TT) rfl ?_ | refine r_block (T := TT) ?_ | refine r_then (T := TT) rfl ?_ | refine r_else (T := TT) rfl ?_)
    refine r_call (ok_r2_quo (h.1.fit (by omega)) (sg.fit (by omega)) (by omega) (fdiv_nat _ _)) rfl rfl rfl rfl rfl rfl rfl ?_
    repeat (first | refine r_op rfl rfl rfl rfl ?_ | refine r_skip rfl rfl rfl ?_ | refine .done ?_ | refine r_seq (T := TT) ?_ | refine r_region (T := TT) rfl ?_ | refine r_block (T := TT) ?_ | refine r_then (T := TT) rfl ?_ | refine r_else (T := TT) rfl ?_)
    refine r_call (ok_r2_quo (h'.1.fit (by omega)) (st.fit (by omega)) (by omega) (fdiv_nat _ _)) rfl rfl rfl rfl rfl rfl rfl ?_
    repeat (first | refine r_op rfl rfl rfl rfl ?_ | refine r_skip rfl rfl rfl ?_ | refine .done ?_ | refine r_seq (T := TT) ?_ | refine r_region (T := TT) rfl ?_ | refine r_block (T := TT) ?_ | refine r_then (T := TT) rfl ?_ | refine r_else (T := TT) rfl ?_)
    refine r_call (okz_r1_Mul (s1.fit (by omega)) (s2.fit (by omega))) rfl rfl rfl rfl rfl rfl rfl ?_
    repeat (first | refine r_op rfl rfl rfl rfl ?_ | refine r_skip rfl rfl rfl ?_ | refine .done ?_ | refine r_seq (T := TT) ?_ | refine r_region (T := TT) rfl ?_ | refine r_block (T := TT) ?_ | refine r_then (T := TT) rfl ?_ | refine r_else (T := TT) rfl ?_)
    refine r_call (ok_r2_quo (h.2.fit (by omega)) (st.fit (by omega)) (by omega) (fdiv_nn _ _)) rfl rfl rfl rfl rfl rfl rfl ?_
    repeat (first | refine r_op rfl rfl rfl rfl ?_ | refine r_skip rfl rfl rfl ?_ | refine .done ?_ | refine r_seq (T := TT) ?_ | refine r_region (T := TT) rfl ?_ | refine r_block (T := TT) ?_ | refine r_then (T := TT) rfl ?_ | refine r_else (T := TT) rfl ?_)
    refine r_call (ok_r2_quo (h'.2.fit (by omega)) (sg.fit (by omega)) (by omega) (fdiv_nn _ _)) rfl rfl rfl rfl rfl rfl rfl ?_
    repeat (first | refine r_op rfl rfl rfl rfl ?_ | refine r_skip rfl rfl rfl ?_ | refine .done ?_ | refine r_seq (T := TT) ?_ | refine r_region (T := TT) rfl ?_ | refine r_block (T := TT) ?_ | refine r_then (T := TT) rfl ?_ | refine r_else (T := TT) rfl ?_)
    refine r_call (okz_r1_Mul (s3.fit (by omega)) (s4.fit (by omega))) rfl rfl rfl rfl rfl rfl rfl ?_
    repeat (first | refine r_op rfl rfl rfl rfl ?_ | refine r_skip rfl rfl rfl ?_ | refine .done ?_ | refine r_seq (T := TT) ?_ | refine r_region (T := TT) rfl ?_ | refine r_block (T := TT) ?_ | refine r_then (T := TT) rfl ?_ | refine r_else (T := TT) rfl ?_)
    exact r_fin (T := TT) rfl rfl
  · refine r_call (okz_r2_one (one_f ha)) rfl rfl rfl rfl rfl rfl rfl ?_
    repeat (first | refine r_op rfl rfl rfl rfl ?_ | refine r_skip rfl rfl rfl ?_ | refine .done ?_ | refine r_seq (T := TT) ?_ | refine r_region (T := TT) rfl ?_ | refine r_block (T := TT) ?_ | refine r_then (T := TT) rfl ?_ | refine r_else (T := TT) rfl ?_)
    refine r_call (okz_r1_GCD (h.1.fit (by omega)) (h'.2.fit (by omega)) hgz) rfl rfl rfl rfl rfl rfl rfl ?_
    repeat (first | refine r_op rfl rfl rfl rfl ?_ | refine r_skip rfl rfl rfl ?_ | refine .done ?_ | refine r_seq (T := TT) ?_ | refine r_region (T := TT) rfl ?_ | refine r_block (T := TT) ?_ | refine r_then (T := TT) rfl ?_ | refine r_else (T := TT) rfl ?_)
    refine r_call (okz_r1_GCD (h'.1.fit (by omega)) (h.2.fit (by omega)) htz) rfl rfl rfl rfl rfl rfl rfl ?_
    repeat (first | refine r_op rfl rfl rfl rfl ?_ | refine r_skip rfl rfl rfl ?_ | refine .done ?_ | refine r_seq (T := TT) ?_ | refine r_region (T := TT) rfl ?_ | refine r_block (T := TT) ?_ | refine r_then (T := TT) rfl ?_ | refine r_else (T := TT) rfl ?_)
    refine r_call (ok_r2_quo (h.1.fit (by omega)) (sg.fit (by omega)) (by omega) (fdiv_nat _ _)) rfl rfl rfl rfl rfl rfl rfl ?_
    repeat (first | refine r_op rfl rfl rfl rfl ?_ | refine r_skip rfl rfl rfl ?_ | refine .done ?_ | refine r_seq (T := TT) ?_ | refine r_region (T := TT) rfl ?_ | refine r_block (T := TT) ?_ | refine r_then (T := TT) rfl ?_ | refine r_else (T := TT) rfl ?_)
    refine r_call (ok_r2_quo (h'.1.fit (by omega)) (st.fit (by omega)) (by omega) (fdiv_nat _ _)) rfl rfl rfl rfl rfl rfl rfl ?_
    repeat (first | refine r_op rfl rfl rfl rfl ?_ | refine r_skip rfl rfl rfl ?_ | refine .done ?_ | refine r_seq (T := TT) ?_ | refine r_region (T := TT) rfl ?_ | refine r_block (T := TT) ?_ | refine r_then (T := TT) rfl ?_ | refine r_else (T := TT) rfl ?_)
    refine r_call (okz_r1_Mul (s1.fit (by omega)) (s2.fit (by omega))) rfl rfl rfl rfl rfl rfl rfl ?_
    repeat (first | refine r_op rfl rfl rfl rfl ?_ | refine r_skip rfl rfl rfl ?_ | refine .done ?_ | refine r_seq (T := TT) ?_ | refine r_region (T := TT) rfl ?_ | refine r_block (T := TT) ?_ | refine r_then (T := TT) rfl ?_ | refine r_else (T := TT) rfl ?_)
    refine r_call (ok_r2_quo (h.2.fit (by omega)) (st.fit (by omega)) (by omega) (fdiv_nn _ _)) rfl rfl rfl rfl rfl rfl rfl ?_
    repeat (first | refine r_op rfl rfl rfl rfl ?_ | refine r_skip rfl rfl rfl ?_ | refine .done ?_ | refine r_seq (T := TT) ?_ | refine r_region (T := TT) rfl ?_ | refine r_block (T := TT) ?_ | refine r_then (T := TT) rfl ?_ | refine r_else (T := TT) rfl ?_)
    refine r_call (ok_r2_quo (h'.2.fit (by omega)) (sg.fit (by omega)) (by omega) (fdiv_nn _ _)) rfl rfl rfl rfl rfl rfl rfl ?_
    repeat (first | refine r_op rfl rfl rfl rfl ?_ | refine r_skip rfl rfl rfl ?_ | refine .done ?_ | refine r_seq (T := TT) ?_ | refine r_region (T := TT) rfl ?_ | refine r_block (T := TT) ?_ | refine r_then (T := TT) rfl ?_ | refine r_else (T := TT) rfl ?_)
    refine r_call (okz_r1_Mul (s3.fit (by omega)) (s4.fit (by omega))) rfl rfl rfl rfl rfl rfl rfl ?_
    repeat (first | refine r_op rfl rfl rfl rfl ?_ | refine r_skip rfl rfl rfl ?_ | refine .done ?_ | refine r_seq (T := TT) ?_ | refine r_region (T := TT) rfl ?_ | refine r_block (T := TT) ?_ | refine r_then (T := TT) rfl ?_ | refine r_else (T := TT) rfl ?_)
    exact r_fin (T := TT) rfl rfl
theorem ok_r2_Inv {b q : Rat} (hb : b ≠ 0) (hq : b⁻¹ = q) : CallOK Tryz.prog 81 [dQ b] (.one (dQ q)) := by
  subst hq
  obtain ⟨e1, e2⟩ := inv_p b hb
  by_cases hn : b.num < 0
  · rw [if_pos hn] at e1 e2
    rw [dQ_of e1 e2]
    refine callOK_of TT_ok mixT Tryz.func81 rfl rfl (Nat.le_of_ble_eq_true rfl) ?_
    repeat (first | refine r_op rfl rfl rfl rfl ?_ | refine r_skip rfl rfl rfl ?_ | refine .done ?_ | refine r_seq (T := TT) ?_ | refine r_region (T := TT) rfl ?_ | refine r_block (T := TT) ?_ | refine r_then (T := TT) rfl ?_ | refine r_else (T := TT) rfl ?_)
    refine r_then2 (T := TT) rfl ?_ ?_
    · exact decide_eq_true hn
    repeat (first | refine r_op rfl rfl rfl rfl ?_ | refine r_skip rfl rfl rfl ?_ | refine .done ?_ | refine r_seq (T := TT) ?_ | refine r_region (T := TT) rfl ?_ | refine r_block (T := TT) ?_ | refine r_then (T := TT) rfl ?_ | refine r_else (T := TT) rfl ?_)
    refine r_call (okz_r1_Neg b.den) rfl rfl rfl rfl rfl rfl rfl ?_
    repeat (first | refine r_op rfl rfl rfl rfl ?_ | refine r_skip rfl rfl rfl ?_ | refine .done ?_ | refine r_seq (T := TT) ?_ | refine r_region (T := TT) rfl ?_ | refine r_block (T := TT) ?_ | refine r_then (T := TT) rfl ?_ | refine r_else (T := TT) rfl ?_)
    refine r_call (okz_r1_Neg b.num) rfl rfl rfl rfl rfl rfl rfl ?_
    repeat (first | refine r_op rfl rfl rfl rfl ?_ | refine r_skip rfl rfl rfl ?_ | refine .done ?_ | refine r_seq (T := TT) ?_ | refine r_region (T := TT) rfl ?_ | refine r_block (T := TT) ?_ | refine r_then (T := TT) rfl ?_ | refine r_else (T := TT) rfl ?_)
    exact r_fin (T := TT) rfl rfl
  · rw [if_neg hn] at e1 e2
    rw [dQ_of e1 e2]
    refine callOK_of TT_ok mixT Tryz.func81 rfl rfl (Nat.le_of_ble_eq_true rfl) ?_
    repeat (first | refine r_op rfl rfl rfl rfl ?_ | refine r_skip rfl rfl rfl ?_ | refine .done ?_ | refine r_seq (T := TT) ?_ | refine r_region (T := TT) rfl ?_ | refine r_block (T := TT) ?_ | refine r_then (T := TT) rfl ?_ | refine r_else (T := TT) rfl ?_)
    refine r_else2 (T := TT) rfl ?_ ?_
    · exact decide_eq_false hn
    repeat (first | refine r_op rfl rfl rfl rfl ?_ | refine r_skip rfl rfl rfl ?_ | refine .done ?_ | refine r_seq (T := TT) ?_ | refine r_region (T := TT) rfl ?_ | refine r_block (T := TT) ?_ | refine r_then (T := TT) rfl ?_ | refine r_else (T := TT) rfl ?_)
    exact r_fin (T := TT) rfl rfl
theorem SzQ.inv {k : Nat} {b : Rat} (h : SzQ k b) (hb : b ≠ 0) : SzQ k b⁻¹ := by
  obtain ⟨e1, e2⟩ := inv_p b hb
  unfold SzQ
  rw [e1, e2]
  split
  · exact ⟨h.2.neg, h.1.neg⟩
  · exact ⟨h.2, h.1⟩
theorem ok_r2_Div {j k : Nat} {a b q : Rat} (h : SzQ j a) (h' : SzQ k b) (hk : j + k ≤ 2147483648) (hb : b ≠ 0) (hq : a / b = q) : CallOK Tryz.prog 51 [dQ a, dQ b] (.tup [dQ q, dN .i64 0]) := by
  subst hq
  have h0 : ¬ b.num = 0 := fun e => hb (Rat.num_eq_zero.1 e)
  refine callOK_of TT_ok mixT Tryz.func51 rfl rfl (Nat.le_of_ble_eq_true rfl) ?_
  repeat (first | refine r_op rfl rfl rfl rfl ?_ | refine r_skip rfl rfl rfl ?_ | refine .done ?_ | refine r_seq (T := TT) ?_ | refine r_region (T := TT) rfl ?_ | refine r_block (T := TT) ?_ | refine r_then (T := TT) rfl ?_ | refine r_else (T := TT) rfl ?_)
  refine r_else2 (T := TT) rfl ?_ ?_
  · exact nil_f h0
  repeat (first | refine r_op rfl rfl rfl rfl ?_ | refine r_skip rfl rfl rfl ?_ | refine .done ?_ | refine r_seq (T := TT) ?_ | refine r_region (T := TT) rfl ?_ | refine r_block (T := TT) ?_ | refine r_then (T := TT) rfl ?_ | refine r_else (T := TT) rfl ?_)
  refine r_call (ok_r2_Inv hb rfl) rfl rfl rfl rfl rfl rfl rfl ?_
  repeat (first | refine r_op rfl rfl rfl rfl ?_ | refine r_skip rfl rfl rfl ?_ | refine .done ?_ | refine r_seq (T := TT) ?_ | refine r_region (T := TT) rfl ?_ | refine r_block (T := TT) ?_ | refine r_then (T := TT) rfl ?_ | refine r_else (T := TT) rfl ?_)
  refine r_call (ok_r2_Mul h (h'.inv hb) hk (Rat.div_def a b).symm) rfl rfl rfl rfl rfl rfl rfl ?_
  repeat (first | refine r_op rfl rfl rfl rfl ?_ | refine r_skip rfl rfl rfl ?_ | refine .done ?_ | refine r_seq (T := TT) ?_ | refine r_region (T := TT) rfl ?_ | refine r_block (T := TT) ?_ | refine r_then (T := TT) rfl ?_ | refine r_else (T := TT) rfl ?_)
  exact r_fin (T := TT) rfl rfl
theorem ok_r2_Div0 {a b : Rat} (hb : b = 0) : CallOK Tryz.prog 51 [dQ a, dQ b] (.tup [dQ0, dN .i64 6]) := by
  refine callOK_of TT_ok mixT Tryz.func51 rfl rfl (Nat.le_of_ble_eq_true rfl) ?_
  repeat (first | refine r_op rfl rfl rfl rfl ?_ | refine r_skip rfl rfl rfl ?_ | refine .done ?_ | refine r_seq (T := TT) ?_ | refine r_region (T := TT) rfl ?_ | refine r_block (T := TT) ?_ | refine r_then (T := TT) rfl ?_ | refine r_else (T := TT) rfl ?_)
  refine r_then2 (T := TT) rfl ?_ ?_
  · exact nil_t (Rat.num_eq_zero.2 hb)
  repeat (first | refine r_op rfl rfl rfl rfl ?_ | refine r_skip rfl rfl rfl ?_ | refine .done ?_ | refine r_seq (T := TT) ?_ | refine r_region (T := TT) rfl ?_ | refine r_block (T := TT) ?_ | refine r_then (T := TT) rfl ?_ | refine r_else (T := TT) rfl ?_)
  exact r_fin (T := TT) rfl rfl
end Go.Proofs.YtmpadildchphgaaGreatDoor
namespace Go.Proofs.YtmpadildchphgaaGreatDoor
open Go.RowKit Go.Shelf
attribute [local go_sem] Oper.semAt_some
abbrev encsM (M : Nat) (x : Nat × Nat) : Array Value := #[.int .i64 (x.1 : Int), W32 (x.2 % M)]
theorem getD_lt {M : Nat} {xs : List Nat} (h0 : 0 < M) (h : ∀ x ∈ xs, x < M) (i : Nat) : xs.getD i 0 < M := by
  rw [List.getD_eq_getElem?_getD]
  cases hx : xs[i]? with
  | none => exact h0
  | some x => exact h x (List.mem_of_getElem? hx)
set_option maxRecDepth 100000 in
set_option maxHeartbeats 2000000 in
theorem back1M_in (F : Fence) (n : Nat) (h8 : F.fn 141) (hro : F.round = none) (hn : 1 ≤ n) (l Bs : Nat) (A : Option Addr) (len cap : Nat) (xs : List Nat) (M : Nat) (hM0 : 0 < M) (hM : ∀ x ∈ xs, x < M) (w : World) (hx : Wrd w A len cap xs) (J Jx : List (Nat × Nat) → World → Prop)
    (hY : ∀ pre x W, J pre W → pre.length < len → YieldAt F (n - 1) Tryz.prog l (encsM M x) W fun e W' =>
      (e = .returned (.bool true) ∧ J (pre ++ [x]) W' ∧ KB w.heap.size Bs W W') ∨ (e = .returned (.bool false) ∧ Jx (pre ++ [x]) W'))
    (W : World) (hbW : Ext w W) (hBs : W.cell? ⟨Bs, 0, none⟩ = some (.slice A len cap)) (h0 : J [] W) :
    CallsIn F n Tryz.prog 141 #[.func (.yield l) #[] #[], .pointer (some ⟨Bs, 0, none⟩)] W fun e W' => (∃ v, e = .returned v) ∧
      ((∃ ys, ys = upto (backAt xs) len ∧ J ys W') ∨ (∃ pre, True ∧ Jx pre W')) := by
  have hcap := hx.cap
  have hlim := hx.lim
  have hlen := hx.len
  have hwd := hx.wd
  have Hx := Lib.hid hx
  have HM := Lib.hid hM
  have Hlen := Lib.hid hlen
  have Hwd := Lib.hid hwd
  clear hx hlen hwd hM
  refine callsIn_of_wp Tryz.func141 rfl h8 ?_ hro
  simp only [Tryz.ntmps141, List.size_toArray, List.length_cons, List.length_nil, Nat.reduceAdd, Nat.reduceSub, Array.replicate_succ, Array.replicate_zero, List.push_toArray, List.append_toArray, List.nil_append, List.cons_append]
  gi_wp2
  gi_loopw [3] (fun i wr => ∃ k : Nat, k ≤ len ∧ i = .int .i64 ((len : Int) - 1 - k) ∧ J (upto (backAt xs) k) wr ∧ KB w.heap.size Bs W wr)
    (fun i _ => (intOf i + 1).toNat)
  case atStart => exact ⟨0, Nat.zero_le _, by go_num, h0, KB.refl _ _ _⟩
  case round =>
    obtain ⟨k, hk, rfl, hJs, hnx⟩ := hrel
    have hcs := (hnx.cell 0).trans hBs
    by_cases hlt : k < len
    · obtain ⟨b, off, rfl, hb, hc⟩ := Hx.out.at (by omega)
      have hcx := (hnx.1.cell (p := ⟨b, off + (len - 1 - k), none⟩) hb).trans ((hbW.cell (p := ⟨b, off + (len - 1 - k), none⟩) hb).trans (hc (len - 1 - k) (by omega)))
      obtain ⟨fn, tmps, assign, body, hy, hR⟩ := hY _ (backAt xs k) wr hJs (by rw [upto_length]; exact hlt)
      have e1 : backAt xs k = (len - 1 - k, xs.getD (len - 1 - k) 0) := by unfold backAt; rw [Hlen.out]
      rw [e1] at hy
      have e2 : ((len - 1 - k : Nat) : Int) = (len : Int) - 1 - k := by omega
      dsimp only [encsM] at hy
      rw [e2] at hy
      obtain ⟨x, hxx⟩ : ∃ x, x = xs.getD (len - 1 - k) 0 := ⟨_, rfl⟩
      rw [← hxx] at hy hcx
      rw [Nat.mod_eq_of_lt (by rw [hxx]; exact getD_lt hM0 HM.out _)] at hy
      have g1 : (0 : Int) ≤ (len : Int) - 1 - k := by omega
      have g2 : (len : Int) - 1 - k < len := by omega
      have g3 : ((len : Int) - 1 - k).toNat = len - 1 - k := by omega
      clear e1 e2 hc
      have Hxx := Lib.hid hxx
      clear hxx
      gi_wp2
      refine hR.mono ?_
      rintro e W3 (⟨rfl, hJ3, hk3⟩ | ⟨rfl, hJx3⟩)
      · gi_wp2
        go_roundw
        case rel => exact ⟨k + 1, by omega, by go_num, by rw [upto_succ]; exact hJ3, hnx.trans hk3⟩
        case measure => simp [intOf]; omega
      · gi_wp2
        refine bodyPost_ret (results_none rfl _ _ _) rfl ?_
        exact ⟨⟨_, rfl⟩, .inr ⟨_, trivial, hJx3⟩⟩
    · obtain rfl : k = len := by omega
      have g1 : ¬ ((k : Int) ≤ (k : Int) - 1) := by omega
      gi_wp2
      go_end0
      first | exact ⟨⟨_, rfl⟩, .inl ⟨_, rfl, hJs⟩⟩ | exact ⟨⟨_, rfl⟩, .inl hJs⟩
theorem backM_stops (F : Fence) (n : Nat) (h8 : F.fn 141) (hro : F.round = none) (hn : 1 ≤ n) (Bs : Nat) (A : Option Addr) (len cap : Nat) (xs : List Nat) (M : Nat) (hM0 : 0 < M) (hM : ∀ x ∈ xs, x < M) (w0 w : World) (hx : Wrd w0 A len cap xs) (h0 : Ext w0 w) (hBs : Bs < w.heap.size) (hc : w.cell? ⟨Bs, 0, none⟩ = some (.slice A len cap)) :
    SeqStopsK F n Tryz.prog 141 #[.pointer (some ⟨Bs, 0, none⟩)] (encsM M) (KB w0.heap.size Bs) (fun ys => ys = upto (backAt xs) len) (fun _ => True) len w := fun l J Jx W hW _ _ hY hJ0 =>
  back1M_in F n h8 hro hn l Bs A len cap xs M hM0 hM w0 hx J Jx hY W (h0.more hW) ((hW.cell (p := ⟨Bs, 0, none⟩) hBs).trans hc) hJ0
end Go.Proofs.YtmpadildchphgaaGreatDoor
namespace Go.Proofs.YtmpadildchphgaaGreatDoor
open Go.Shelf Go.RowKit Go.Sort Go.Lib
set_option maxHeartbeats 6400000 in
set_option maxRecDepth 100000 in
theorem is_FormatUint (u : Nat) (hu64 : u < 18446744073709551616) (w : World) (htab : Lib.TabIs Tryz.prog w "internal/strconv.uint64pow10" .u64 Lib.pow10Tab) :
    Calls Tryz.prog 142 #[.int .u64 u, .int .i64 10] w fun e w' => e = .returned (.string ⟨(Lib.decDigits u).toArray⟩) ∧ Below w.heap.size w w' := by
  by_cases hs : u < 100
  · go_enter Tryz.func142, Tryz.ntmps142
    go_wp2_with (go_at_call 147; refine (Tryz.internal_strconv_small u hs _).mono ?_; rintro e w' ⟨rfl, rfl⟩)
    go_ret
    exact ⟨rfl, Below.refl _ _⟩
  · have hu1 : 1 ≤ u := by omega
    have hnd20 : Lib.nDigits u ≤ 20 := by have := Lib.numDigits_eq u hu1 hu64; split at this <;> omega
    have hal : (Tryz.prog).arrayLen 138 = 24 := by simp [Program.arrayLen, Tryz.underlying138]
    have hsl : ∀ W, (Instr.sliceAt 138 (.pointer (some ⟨w.heap.size, 0, none⟩)) none (some (.int .i64 (Lib.nDigits u : Int))) none).run Tryz.prog W = .ok (.slice (some ⟨w.heap.size, 0, none⟩) (Lib.nDigits u) 24) W := fun W => by
      rw [run_sliceAt_array_h W 138 ⟨w.heap.size, 0, none⟩ (by simp [Program.arrayLen, Program.elem, Tryz.underlying138]) .i64 (Lib.nDigits u : Int) (by omega) (by rw [hal]; omega)]
      go_simp
    have hH0 := Lib.holds_zero0 w 138 (Lib.nDigits u) (by omega)
    have hfmt := Tryz.internal_strconv_formatBase10 w.heap.size 0 24 u (Array.replicate (Lib.nDigits u) 0) (w.alloc (.cells Lib.zeros24 138)) hH0 (by rw [Array.size_replicate]; exact Lib.lt_pow_nDigits u) hu64 (by rw [Array.size_replicate]; omega)
    rw [Array.size_replicate] at hfmt
    have HH0 := Lib.hid hH0
    have iu : (100 : Int) ≤ (u : Int) := by omega
    clear hH0 hal
    go_enter Tryz.func142, Tryz.ntmps142
    go_wp2_with (go_at_call 148; refine (Tryz.internal_strconv_numDigits u hu1 hu64 _ (Lib.tabIs_alloc htab _)).mono ?_; rintro e w' ⟨rfl, rfl⟩)
    go_at_call 149
    refine hfmt.mono ?_
    rintro e w' ⟨rfl, k, v', dk, rfl, hF⟩
    have hcv : (convert 95 9 (.slice (some ⟨w.heap.size, 0, none⟩) (Lib.nDigits u) 24)).run Tryz.prog ((putRow (fun (b : UInt8) => Value.int .u8 (b.toNat : Int)) (w.alloc (.cells Lib.zeros24 138)) w.heap.size 0 dk).drewN k) = .ok (.string ⟨(Lib.decDigits u).toArray⟩) ((putRow (fun (b : UInt8) => Value.int .u8 (b.toNat : Int)) (w.alloc (.cells Lib.zeros24 138)) w.heap.size 0 dk).drewN k) := by
      have h := run_convert_bytes_back (P := Tryz.prog) ((putRow (fun (b : UInt8) => Value.int .u8 (b.toNat : Int)) (w.alloc (.cells Lib.zeros24 138)) w.heap.size 0 dk).drewN k) 95 9 5 ⟨w.heap.size, 0, none⟩ 24 (Lib.decDigits u) Tryz.underlying95 Tryz.underlying5 Tryz.underlying9 (fun j hj => by
        rw [Lib.row_is_numeral hF j hj, Lib.add_plain, World.cell?_drewN]
        exact cell?_putRow (fun (b : UInt8) => Value.int .u8 (b.toNat : Int)) _ w.heap.size 0 _ dk HH0.out (by rw [hF.size, Array.size_replicate]) j (by rw [hF.size]; rw [Lib.decDigits_length] at hj; exact hj))
      rw [Lib.decDigits_length] at h
      exact h
    go_wp2
    go_ret
    obtain ⟨os, eo⟩ := Lib.fin_at w (.cells Lib.zeros24 138) dk k 0
    exact ⟨rfl, by rw [eo]; exact Lib.below_grow _ w (Nat.le_refl _) k os⟩
theorem strconv_FormatUint (u : Nat) (hu64 : u < 18446744073709551616) (w : World) (htab : Lib.TabIs Tryz.prog w "internal/strconv.uint64pow10" .u64 Lib.pow10Tab) :
    Calls Tryz.prog 121 #[.int .u64 u, .int .i64 10] w fun e w' => e = .returned (.string ⟨(Lib.decDigits u).toArray⟩) ∧ Below w.heap.size w w' := by
  go_enter Tryz.func121, Tryz.ntmps121
  go_wp2_with (go_at_call 142; refine (is_FormatUint u hu64 _ htab).mono ?_; rintro e w' ⟨rfl, hb⟩)
  go_ret
  exact ⟨rfl, hb⟩
end Go.Proofs.YtmpadildchphgaaGreatDoor
namespace Go.Proofs.YtmpadildchphgaaGreatDoor
open Go.Shelf Go.RowKit
theorem bld_size : ((Tryz.prog).info? 111).map (·.size) = some 2 := Tryz.Builder_Extra_169.sizeBuilder
theorem bld_lies : liesAt Tryz.prog (Tryz.prog).depth 111 (2 / (Tryz.prog).cellsOf 111) 0 111 1 = true := by kernel_rfl
theorem bld_byte : ((Tryz.prog).info? 5).map (fun i => (i.zero, i.size, i.bytes)) = some (some (.int .u8 0), 1, 1) := Tryz.Builder_Extra_169.infoByte
set_option maxHeartbeats 1000000 in
set_option maxRecDepth 100000 in
theorem copyCheck_used (b : Nat) (w : World) (h0 : w.cell? ⟨b, 0, none⟩ = some (.pointer (some ⟨b, 0, none⟩))) :
    Calls Tryz.prog 140 #[.pointer (some ⟨b, 0, none⟩)] w fun e w' => e = .returned (.tuple #[]) ∧ w' = w := by
  obtain ⟨j, hj, _⟩ := Option.map_eq_some_iff.1 bld_size
  go_enter Tryz.func140, Tryz.ntmps140
  go_wp2
  rw [Lib.run_neq_ptr_same w _ Tryz.underlying109 hj]
  go_wp2
  go_end0
  exact ⟨rfl, rfl⟩
set_option maxHeartbeats 1000000 in
set_option maxRecDepth 100000 in
theorem copyCheck_fresh (b : Nat) (w : World) (h0 : w.cell? ⟨b, 0, none⟩ = some (.pointer none)) (hsh : w.shape? b = some (111, 2)) (hfz : w.frozen? ⟨b, 0, none⟩ = false) :
    Calls Tryz.prog 140 #[.pointer (some ⟨b, 0, none⟩)] w fun e w' => e = .returned (.tuple #[]) ∧ w' = w.setCell ⟨b, 0, none⟩ (.pointer (some ⟨b, 0, none⟩)) := by
  obtain ⟨j, hj, hjs⟩ := Option.map_eq_some_iff.1 bld_size
  go_enter Tryz.func140, Tryz.ntmps140
  go_wp2
  rw [Lib.run_to_unsafe w ⟨b, 0, none⟩ Tryz.underlying109 Tryz.underlying150 hj (by rw [hjs]; decide) hsh (Nat.zero_lt_succ 1)]
  simp only [Result.andThen]
  rw [Oper.upon_value]
  go_wp2
  rw [run_callFunc_extern Tryz.func161 (by kernel_rfl) (by kernel_rfl) (by kernel_rfl) (e := Extern.AbiNoEscape.same) (by kernel_rfl)]
  rw [Lib.run_noEscape]
  simp only [Result.andThen]
  rw [Oper.upon_value]
  go_wp2
  rw [Lib.run_from_unsafe w ⟨b, 0, none⟩ Tryz.underlying150 Tryz.underlying109 hj hsh bld_lies]
  simp only [Result.andThen]
  rw [Oper.upon_value]
  go_wp2
  go_end0
  exact ⟨rfl, rfl⟩
theorem copyCheck_k (B b : Nat) (bs : List Value) (w : World) (h : Lib.IsBuilderF 111 5 B b bs w) :
    Calls Tryz.prog 140 #[.pointer (some ⟨b, 0, none⟩)] w fun e w' => e = .returned (.tuple #[]) ∧ (Lib.BuilderAtF 111 5 B b (.pointer (some ⟨b, 0, none⟩)) bs w' ∧ Below B w w' ∧ Lib.OthersKept 5 (some b) w w') := by
  rcases h with h | h
  · refine (copyCheck_fresh b w h.cell0 h.shape h.frozen0).mono ?_
    rintro e w' ⟨rfl, rfl⟩
    exact ⟨rfl, h.used _, (Below.refl B w).setCell (p := ⟨b, 0, none⟩) h.1 _, (Lib.OthersKept.refl _ _ w).setCell ⟨b, 0, none⟩ rfl _⟩
  · refine (copyCheck_used b w h.cell0).mono ?_
    rintro e w' ⟨rfl, rfl⟩
    exact ⟨rfl, h, Below.refl B _, Lib.OthersKept.refl _ _ _⟩
set_option maxHeartbeats 2000000 in
set_option maxRecDepth 100000 in
theorem WriteByte_k (B b : Nat) (bs : List Value) (c : Int) (w : World) (h : Lib.IsBuilderF 111 5 B b bs w) (hlen : bs.length + 1 ≤ 140737488355328) (hBw : B ≤ w.heap.size) :
    Calls Tryz.prog 119 #[.pointer (some ⟨b, 0, none⟩), .int .u8 c] w fun e w' => e = .returned .nilIface ∧ (Lib.BuilderAtF 111 5 B b (.pointer (some ⟨b, 0, none⟩)) (bs ++ [.int .u8 c]) w' ∧ Below B w w' ∧ Lib.OthersKept 5 (some b) w w') := by
  obtain ⟨i0, hi, hz0, hz1, hz2⟩ := info_parts bld_byte
  go_enter Tryz.func119, Tryz.ntmps119
  go_wp2_with (go_at_call 140; refine (copyCheck_k B b bs _ h).mono ?_)
  rintro e w1 ⟨rfl, h1, hb1, hk1⟩
  obtain ⟨hB, v, hbk, hown, hne⟩ := h1
  have c0 : w1.cell? ⟨b, 0, none⟩ = some (.pointer (some ⟨b, 0, none⟩)) := by rw [Lib.cell_of_heap hbk]; rfl
  have c1 : w1.cell? ⟨b, 1, none⟩ = some v := by rw [Lib.cell_of_heap hbk]; rfl
  go_wp2_with (at_builtin; refine wpList_append_ownF _ rfl _ _ 95 rfl B 5 i0 (.int .u8 0) 1 1 Tryz.underlying95 hi hz0 hz1 hz2 rfl (by decide) _ _ _ rfl (hown.alloc _) ⟨w1.heap.size, 0, none⟩ 1 1 [.int .u8 c] rfl rfl ?c1 ?c2 ?c3 ?c4 ?c5 ?_)
  case c1 =>
    intro j u hj
    match j, hj with
    | 0, hj => simp at hj; subst hj; simp [Addr.add]
  case c2 => intro u hu; simp at hu; subst hu; rfl
  case c3 => unfold maxLen; omega
  case c4 => omega
  case c5 => have := hb1.size; simp; omega
  intro v' w2 hown' hgrow _
  have hlt : b < w1.heap.size := by
    rcases Nat.lt_or_ge b w1.heap.size with h' | h'
    · exact h'
    · simp [Array.getElem?_eq_none h'] at hbk
  have hb2 : w2.heap[b]? = some (.cells #[.pointer (some ⟨b, 0, none⟩), v] 111 (0, 0)) := by
    rw [hgrow.block b (by simp; omega) (fun e => hne e.symm), Lib.alloc_old w1 _ b hlt]
    exact hbk
  have d0 : w2.cell? ⟨b, 0, none⟩ = some (.pointer (some ⟨b, 0, none⟩)) := by rw [Lib.cell_of_heap hb2]; rfl
  have d1 : w2.cell? ⟨b, 1, none⟩ = some v := by rw [Lib.cell_of_heap hb2]; rfl
  have f1 : w2.frozen? ⟨b, 1, none⟩ = false := Lib.frozen_of_heap hb2 1
  obtain ⟨g, cap, rfl⟩ : ∃ g cap, v' = .slice (some ⟨g, 0, none⟩) (bs.length + 1) cap := by
    rcases hown'.2 with ⟨_, h0⟩ | ⟨g, cap, cur, fz, hv, _⟩
    · omega
    · exact ⟨g, cap, hv⟩
  go_wp2
  go_ret
  refine ⟨rfl, ?_, ?_, ((hk1.alloc _).grown hgrow (Lib.ownsRowF_kind (hown.alloc _))).setCell ⟨b, 1, none⟩ rfl _⟩
  · exact Lib.BuilderAtF.put (T := 111) (e := 5) hB hb2 (bs' := bs ++ [.int .u8 c]) (by simpa using hown') (by decide)
  · exact ((hb1.alloc (by have := hb1.size; omega) _).grown hgrow (by have := hb1.size; simp; omega) (fun k hk => (hown.lt k hk).1)).setCell (p := ⟨b, 1, none⟩) hB _
set_option maxHeartbeats 2000000 in
set_option maxRecDepth 100000 in
theorem WriteString_k (B b : Nat) (bs : List Value) (s : ByteArray) (w : World) (h : Lib.IsBuilderF 111 5 B b bs w) (hlen : bs.length + s.size ≤ 140737488355328) (hBw : B ≤ w.heap.size) :
    Calls Tryz.prog 122 #[.pointer (some ⟨b, 0, none⟩), .string s] w fun e w' => e = .returned (.tuple #[.int .i64 s.size, .nilIface]) ∧ (Lib.BuilderAtF 111 5 B b (.pointer (some ⟨b, 0, none⟩)) (bs ++ Lib.strCells s) w' ∧ Below B w w' ∧ Lib.OthersKept 5 (some b) w w') := by
  obtain ⟨i0, hi, hz0, hz1, hz2⟩ := info_parts bld_byte
  go_enter Tryz.func122, Tryz.ntmps122
  go_wp2_with (go_at_call 140; refine (copyCheck_k B b bs _ h).mono ?_)
  rintro e w1 ⟨rfl, h1, hb1, hk1⟩
  obtain ⟨hB, v, hbk, hown, hne⟩ := h1
  have c0 : w1.cell? ⟨b, 0, none⟩ = some (.pointer (some ⟨b, 0, none⟩)) := by rw [Lib.cell_of_heap hbk]; rfl
  have c1 : w1.cell? ⟨b, 1, none⟩ = some v := by rw [Lib.cell_of_heap hbk]; rfl
  go_wp2_with (at_builtin; refine Lib.wpList_append_own_stringF _ rfl _ _ 95 9 rfl B 5 i0 Tryz.underlying95 Tryz.underlying9 hi hz0 hz1 hz2 _ _ _ rfl hown s rfl ?c3 ?c4 ?c5 ?_)
  case c3 => unfold maxLen; omega
  case c4 => omega
  case c5 => have := hb1.size; omega
  intro v' w2 hown' hgrow _
  have hlt : b < w1.heap.size := by
    rcases Nat.lt_or_ge b w1.heap.size with h' | h'
    · exact h'
    · simp [Array.getElem?_eq_none h'] at hbk
  have hb2 : w2.heap[b]? = some (.cells #[.pointer (some ⟨b, 0, none⟩), v] 111 (0, 0)) := by
    rw [hgrow.block b hlt (fun e => hne e.symm)]
    exact hbk
  have d0 : w2.cell? ⟨b, 0, none⟩ = some (.pointer (some ⟨b, 0, none⟩)) := by rw [Lib.cell_of_heap hb2]; rfl
  have d1 : w2.cell? ⟨b, 1, none⟩ = some v := by rw [Lib.cell_of_heap hb2]; rfl
  have f1 : w2.frozen? ⟨b, 1, none⟩ = false := Lib.frozen_of_heap hb2 1
  obtain ⟨ao, n', cap, rfl⟩ : ∃ ao n' cap, v' = .slice ao n' cap := by
    rcases hown'.2 with ⟨hv, _⟩ | ⟨g, cap, cur, fz, hv, _⟩
    · exact ⟨_, _, _, hv⟩
    · exact ⟨_, _, _, hv⟩
  go_wp2
  go_ret2
  refine ⟨rfl, ?_, ?_, (hk1.grown hgrow (Lib.ownsRowF_kind hown)).setCell ⟨b, 1, none⟩ rfl _⟩
  · exact Lib.BuilderAtF.put (T := 111) (e := 5) hB hb2 (bs' := bs ++ Lib.strCells s) (by simpa [Lib.strCells_length] using hown') (by decide)
  · exact (hb1.grown hgrow (by have := hb1.size; omega) (fun k hk => (hown.lt k hk).1)).setCell (p := ⟨b, 1, none⟩) hB _
end Go.Proofs.YtmpadildchphgaaGreatDoor
