/- shiftRight and half of the program. -/
import Derived.Test.YtdmijpechdaniaaBits
namespace Go.Proofs.Ytdmijpechdaniaa
open Go.RowKit

theorem pow_s (s : Nat) (h : s ≤ 31) : 2 ^ s * 2 ^ (32 - s) = 4294967296 := by
  rw [← Nat.pow_add, show s + (32 - s) = 32 by omega]
theorem or_shift (s x x2 : Nat) (h : s ≤ 31) (hx : x < 4294967296) (_hx2 : x2 < 4294967296) :
    x / 2 ^ s + x2 % 2 ^ s * 2 ^ (32 - s) < 4294967296 ∧
    bits BinOp.or IntKind.u32 ((x / 2 ^ s : Nat) : Int) (IntKind.u64.wrap ((x2 : Int) * 2 ^ (32 - s)) % 4294967296) = ((x / 2 ^ s + x2 % 2 ^ s * 2 ^ (32 - s) : Nat) : Int) := by
  have hp := pow_s s h
  have hs0 : 0 < 2 ^ s := Nat.two_pow_pos s
  have hy : x / 2 ^ s < 2 ^ (32 - s) := by rw [Nat.div_lt_iff_lt_mul hs0, Nat.mul_comm, hp]; exact hx
  have hm : x2 % 2 ^ s < 2 ^ s := Nat.mod_lt _ hs0
  have hm1 : (x2 % 2 ^ s + 1) * 2 ^ (32 - s) ≤ 2 ^ s * 2 ^ (32 - s) := Nat.mul_le_mul_right _ hm
  rw [Nat.succ_mul, hp] at hm1
  have e1 : IntKind.u64.wrap ((x2 : Int) * 2 ^ (32 - s)) % 4294967296 = ((x2 % 2 ^ s * 2 ^ (32 - s) : Nat) : Int) := by
    have e2 : (2 : Int) ^ (32 - s) = ((2 ^ (32 - s) : Nat) : Int) := by rw [Int.natCast_pow]; rfl
    have e3 : x2 * 2 ^ (32 - s) % 4294967296 = x2 % 2 ^ s * 2 ^ (32 - s) := by
      rw [← hp, Nat.mul_mod_mul_right]
    rw [IntKind.wrap_u64, e2, ← Int.natCast_mul]
    rw [← e3]
    generalize x2 * 2 ^ (32 - s) = z
    omega
  rw [e1]
  have hsh := Nat.shiftLeft_add_eq_or_of_lt (i := 32 - s) (b := x / 2 ^ s) hy (x2 % 2 ^ s)
  rw [Nat.shiftLeft_eq] at hsh
  generalize x / 2 ^ s = y at *
  generalize x2 % 2 ^ s * 2 ^ (32 - s) = z at *
  refine ⟨by omega, ?_⟩
  rw [u32_or_nat _ _ (by omega) (by omega), Nat.or_comm, ← hsh, Nat.add_comm]
theorem shr_step {xs zs : List Nat} {s k x0 : Nat} (h31 : s ≤ 31) (hk : k < zs.length) (hz : zs.getD k 0 = 0)
    (h : val zs * 2 ^ s + x0 = val (xs.take k) + 4294967296 ^ k * (xs.getD k 0 % 2 ^ s)) :
    val (zs.set k (xs.getD k 0 / 2 ^ s + xs.getD (k + 1) 0 % 2 ^ s * 2 ^ (32 - s))) * 2 ^ s + x0 = val (xs.take (k + 1)) + 4294967296 ^ (k + 1) * (xs.getD (k + 1) 0 % 2 ^ s) := by
  have hv := val_set zs k (xs.getD k 0 / 2 ^ s + xs.getD (k + 1) 0 % 2 ^ s * 2 ^ (32 - s)) hk
  rw [hz, Nat.mul_zero, Nat.add_zero] at hv
  rw [hv, val_take_succ, pow_succ_B]
  have hp := pow_s s h31
  have hd := Nat.div_add_mod (xs.getD k 0) (2 ^ s)
  generalize xs.getD (k + 1) 0 % 2 ^ s = m2 at *
  generalize hd1 : xs.getD k 0 / 2 ^ s = d1 at *
  generalize hm1 : xs.getD k 0 % 2 ^ s = m1 at *
  rw [← hd]
  generalize 4294967296 ^ k = B at *
  have e : (val zs + B * (d1 + m2 * 2 ^ (32 - s))) * 2 ^ s = val zs * 2 ^ s + B * (d1 * 2 ^ s + m2 * (2 ^ s * 2 ^ (32 - s))) := by grind
  rw [e, hp]
  grind
theorem shr_end {v x0 s a : Nat} (h0 : x0 < 2 ^ s) (h : v * 2 ^ s + x0 = a) : v = a / 2 ^ s := by
  subst h
  rw [Nat.mul_comm, Nat.mul_add_div (Nat.two_pow_pos s), Nat.div_eq_of_lt h0, Nat.add_zero]

set_option maxHeartbeats 800000 in
theorem i_shiftRight (A : Option Addr) (n c s : Nat) (xs : List Nat) (w : World) (hx : Wrd w A n c xs) (hs : n ≤ 4294967296) (h31 : s ≤ 31) :
    Calls Try.prog 80 #[.slice A n c, .int .i64 s] w (RetW (fun zs => val zs = val xs / 2 ^ s ∧ zs.length = n) w) := by
  have hnc := hx.cap
  have hc := hx.lim
  have Hx := Lib.hid hx
  clear hx
  have hmk := mk_u32 n n rfl (by omega)
  have hrow := row_obj w (zeros n)
  have hb0 : Below w.heap.size w (w.alloc (rowObj (zeros n))) := (Below.refl _ _).alloc (Nat.le_refl _) _
  have Hrow := Lib.hid hrow
  have Hb0 := Lib.hid hb0
  clear hrow hb0
  go_enter Try.func80, Try.ntmps80
  go_wp2_with fail
  go_loopw [13] (fun i wr => ∃ (k : Nat) (zs : List Nat), k ≤ n ∧ i = .int .i64 k ∧
      (Wd zs ∧ zs.length = n ∧ (∀ j, k ≤ j → zs.getD j 0 = 0) ∧ val zs * 2 ^ s + xs.getD 0 0 % 2 ^ s = val (xs.take k) + 4294967296 ^ k * (xs.getD k 0 % 2 ^ s)) ∧ Row wr w.heap.size zs ∧ Below w.heap.size w wr)
    (fun i _ => n - (intOf i).toNat)
  case atStart => exact ⟨0, zeros n, Nat.zero_le _, rfl, ⟨Wd_zeros _, zeros_length _, fun j _ => getD_replicate _ _, by unfold zeros; rw [val_replicate]; simp [val]⟩, Hrow.out, Hb0.out⟩
  case round =>
    obtain ⟨k, zs, hk, rfl, hv, hrow, hb⟩ := hrel
    have hfr := hrow.frozen k
    by_cases hkn : k < n
    · have hcell := hrow.cell k (by rw [hv.2.1]; omega)
      obtain ⟨b1, o1, rfl, hbb1, hc1⟩ := Hx.out.at (by omega)
      have hc1k := (hb.cell (p := ⟨b1, o1 + k, none⟩) hbb1).trans (hc1 k hkn)
      have hx1 := Hx.out.wd.getD k
      have hrow2 := fun y => hrow.set k y
      have hb2 := fun y => hb.setCell (p := ⟨w.heap.size, k, none⟩) (Nat.le_refl _) (W32 y)
      have Hv := Lib.hid hv
      have Hb := Lib.hid hb
      have Hr := Lib.hid hrow
      clear hv hb hrow hmk
      generalize hxx : xs.getD k 0 = x at hc1k hx1
      have Hxx := Lib.hid hxx
      clear hxx
      have hkn' : (k : Int) < n := by omega
      by_cases hk1 : k + 1 < n
      · have hc2 := hc1 (k + 1) hk1
        have hkn2 : (k : Int) + 1 < n := by omega
        clear hc1 hrow2 hb2
        go_wp2_with fail
        have e1 : (x : Int) / 2 ^ s = ((x / 2 ^ s : Nat) : Int) := by rw [Int.natCast_ediv, Int.natCast_pow]; rfl
        rw [e1]
        obtain ⟨W1, hW1⟩ : ∃ W1, W1 = wr.setCell ⟨w.heap.size, k, none⟩ (W32 (x / 2 ^ s)) := ⟨_, rfl⟩
        have rW1 := Hr.out.set k (x / 2 ^ s)
        have bW1 := Hb.out.setCell (p := ⟨w.heap.size, k, none⟩) (Nat.le_refl _) (W32 (x / 2 ^ s))
        have hzl : k < (zs.set k (x / 2 ^ s)).length := by rw [List.length_set, Hv.out.2.1]; exact hkn
        rw [← hW1] at rW1 bW1
        have d1 := rW1.cell k hzl
        rw [getD_set_eq (by rw [Hv.out.2.1]; exact hkn)] at d1
        have d2 := rW1.frozen k
        have d3 := (bW1.cell (p := ⟨b1, o1 + (k + 1), none⟩) hbb1).trans hc2
        have hx2 := Hx.out.wd.getD (k + 1)
        obtain ⟨x2, hxx2⟩ : ∃ x2, x2 = xs.getD (k + 1) 0 := ⟨_, rfl⟩
        rw [← hxx2] at d3 hx2
        obtain ⟨y, hy⟩ : ∃ y, y = x / 2 ^ s := ⟨_, rfl⟩
        rw [← hy] at d1 rW1 hW1
        unfold W32 at hW1
        rw [← hy, ← hW1]
        have HW := Lib.hid (And.intro rW1 (And.intro bW1 (And.intro hxx2 hy)))
        clear hW1 rW1 bW1 hzl hxx2 hy e1 hc2
        go_region
        rw [HW.out.2.2.2]
        obtain ⟨q1, q2⟩ := or_shift s x x2 h31 hx1 hx2
        rw [q2]
        go_wp2
        go_roundw
        case rel =>
          refine ⟨k + 1, (zs.set k y).set k (x / 2 ^ s + x2 % 2 ^ s * 2 ^ (32 - s)), by omega, by go_num, ?_, (HW.out.1.set _ _).drew, (HW.out.2.1.setCell (Nat.le_refl _) _).drew⟩
          rw [List.set_set]
          refine ⟨Wd_set Hv.out.1 _ _ q1, by rw [List.length_set]; exact Hv.out.2.1, fun j hj => by rw [getD_set_ne (by omega)]; exact Hv.out.2.2.1 j (by omega), ?_⟩
          have := shr_step h31 (by rw [Hv.out.2.1]; exact hkn) (Hv.out.2.2.1 k (Nat.le_refl _)) Hv.out.2.2.2
          rw [Hxx.out, ← HW.out.2.2.1] at this
          rw [← HW.out.2.2.1]
          exact this
        case measure => simp [intOf]; omega
      · have hkn2 : ¬ (k : Int) + 1 < n := by omega
        clear hc1 hrow2 hb2
        go_wp2_with fail
        go_roundw
        case rel =>
          have e1 : (x : Int) / 2 ^ s = ((x / 2 ^ s : Nat) : Int) := by rw [Int.natCast_ediv, Int.natCast_pow]; rfl
          have hx0 : xs.getD (k + 1) 0 = 0 := by rw [List.getD_eq_getElem?_getD, List.getElem?_eq_none (by rw [Hx.out.len]; omega)]; rfl
          rw [e1]
          refine ⟨k + 1, zs.set k (x / 2 ^ s), by omega, by go_num, ?_, Hr.out.set _ _, Hb.out.setCell (Nat.le_refl _) _⟩
          have := shr_step h31 (by rw [Hv.out.2.1]; exact hkn) (Hv.out.2.2.1 k (Nat.le_refl _)) Hv.out.2.2.2
          rw [Hxx.out, hx0, Nat.zero_mod, Nat.zero_mul, Nat.add_zero] at this
          rw [hx0, Nat.zero_mod]
          exact ⟨Wd_set Hv.out.1 _ _ (Nat.lt_of_le_of_lt (Nat.div_le_self _ _) hx1), by rw [List.length_set]; exact Hv.out.2.1, fun j hj => by rw [getD_set_ne (by omega)]; exact Hv.out.2.2.1 j (by omega), this⟩
        case measure => simp [intOf]; omega
    · obtain rfl : k = n := by omega
      have hkn' : ¬ (k : Int) < k := by omega
      have hx0 : xs.getD k 0 = 0 := by rw [List.getD_eq_getElem?_getD, List.getElem?_eq_none (by rw [Hx.out.len]; omega)]; rfl
      have hval := hv.2.2.2
      rw [hx0, Nat.zero_mod, Nat.mul_zero, Nat.add_zero, List.take_of_length_le (by rw [Hx.out.len]; exact Nat.le_refl _)] at hval
      have hval := shr_end (Nat.mod_lt _ (Nat.two_pow_pos s)) hval
      have Hw := Lib.hid (hrow.wrd' hv.1 hv.2.1 (by omega))
      have Hval := Lib.hid hval
      have Hb := Lib.hid hb
      have Hv := Lib.hid hv.2.1
      clear hval hx0 hv hrow hb hmk hfr
      go_wp2_with fail
      go_ret
      exact ⟨_, _, _, _, rfl, Hw.out, ⟨Hval.out, Hv.out⟩, Hb.out⟩

set_option maxHeartbeats 400000 in
theorem i_half (A : Option Addr) (n c : Nat) (xs : List Nat) (w : World) (hx : Wrd w A n c xs) (hs : n ≤ 4294967296) :
    Calls Try.prog 62 #[.slice A n c] w (RetW (fun zs => zs = digs (val xs / 2)) w) := by
  have Hx := Lib.hid hx
  have hc := i_shiftRight A n c 1 xs w hx hs (by decide)
  rw [show ((1 : Nat) : Int) = 1 from rfl] at hc
  have Hc := Lib.hid hc
  clear hx hc
  go_enter Try.func62, Try.ntmps62
  go_wp2_with (first
    | (go_at_call 80; (with_reducible refine Hc.out.mono ?_); rintro e w1 ⟨A1, n1, c1, zs, rfl, hw1, ⟨hv1, hl1⟩, hb1⟩; have Hw1 := Lib.hid hw1; have Hv1 := Lib.hid hv1; clear hw1 hv1)
    | (go_at_call 50; (with_reducible refine (i_trim _ _ _ _ _ Hw1.out).mono ?_); rintro e w' ⟨rfl, rfl⟩))
  go_ret
  refine ⟨_, _, _, _, rfl, Hw1.out.trim, ?_, hb1⟩
  unfold trim
  rw [Hv1.out]

end Go.Proofs.Ytdmijpechdaniaa
