/- times of both packages. -/
import Derived.Test.YtdmijpechdaniaaPlus2
namespace Go.Proofs.Ytdmijpechdaniaa
open Go.RowKit

theorem mul_bound (x y : Nat) (hx : x < 4294967296) (hy : y < 4294967296) : 0 ≤ (x : Int) * (y : Int) ∧ (x : Int) * (y : Int) ≤ 18446744065119617025 := by
  have h : x * y ≤ 4294967295 * 4294967295 := Nat.mul_le_mul (by omega) (by omega)
  rw [← Int.natCast_mul]
  omega

set_option maxHeartbeats 1600000 in
theorem i_times_pos (A B : Option Addr) (n m c d : Nat) (xs ys : List Nat) (w : World) (hx : Wrd w A n c xs) (hy : Wrd w B m d ys) (hn : 0 < n) (hm : 0 < m) (hs : n ≤ 4294967296) (hs2 : m ≤ 4294967296) :
    Calls Try.prog 49 #[.slice A n c, .slice B m d] w (RetW (fun zs => zs = digs (val xs * val ys)) w) := by
  have hnc := hx.cap
  have hc := hx.lim
  have hmd := hy.cap
  have hd := hy.lim
  obtain ⟨b1, o1, rfl, hbb1, hc1⟩ := hx.at hn
  obtain ⟨b2, o2, rfl, hbb2, hc2⟩ := hy.at hm
  have Hc1 := Lib.hid hc1
  have Hc2 := Lib.hid hc2
  have Hx := Lib.hid hx
  have Hy := Lib.hid hy
  clear hx hy hc1 hc2
  have hmk := mk_u32 (n + m) ((n : Int) + m) (by omega) (by omega)
  have hrow := row_obj w (zeros (n + m))
  have hb0 : Below w.heap.size w (w.alloc (rowObj (zeros (n + m)))) := (Below.refl _ _).alloc (Nat.le_refl _) _
  have Hrow := Lib.hid hrow
  have Hb0 := Lib.hid hb0
  clear hrow hb0
  have hn0 : ((n : Int) == 0) = false := by rw [beq_eq_false_iff_ne]; omega
  have hm0 : ((m : Int) == 0) = false := by rw [beq_eq_false_iff_ne]; omega
  go_enter Try.func49, Try.ntmps49
  go_wp2_with fail
  clear hmk hn0 hm0
  go_loopw [27] (fun i wr => ∃ (i' : Nat) (zs : List Nat), i' ≤ n ∧ i = .int .i64 i' ∧ (Wd zs ∧ zs.length = n + m ∧ (∀ j, i' + m ≤ j → zs.getD j 0 = 0) ∧ val zs = val (xs.take i') * val ys) ∧ Row wr w.heap.size zs ∧ Below w.heap.size w wr)
    (fun i _ => n - (intOf i).toNat)
  case atStart => exact ⟨0, zeros (n + m), Nat.zero_le _, rfl, ⟨Wd_zeros _, zeros_length _, fun j _ => getD_replicate _ _, by simp [val, zeros, val_replicate]⟩, Hrow.out, Hb0.out⟩
  case round =>
    obtain ⟨i, zs, hi, rfl, hv, hrow, hb⟩ := hrel
    have Hv := Lib.hid hv
    have Hb := Lib.hid hb
    have Hr := Lib.hid hrow
    clear hv hb hrow
    obtain ⟨wo, rfl⟩ : ∃ wo : World, wo = wr := ⟨_, rfl⟩
    by_cases hin : i < n
    · have hin' : (i : Int) < n := by omega
      have hx1 := Hx.out.wd.getD i
      have hcx := (Hb.out.cell (p := ⟨b1, o1 + i, none⟩) hbb1).trans (Hc1.out i hin)
      generalize hxx : xs.getD i 0 = x at hcx hx1
      have Hxx := Lib.hid hxx
      clear hxx
      go_wp2_with fail
      go_loopw [8, 34] (fun cr k wr => ∃ (k' cy : Nat) (us : List Nat), k' ≤ m ∧ k = .int .i64 k' ∧ cr = .int .u64 cy ∧ cy < 4294967296 ∧
          (Wd us ∧ us.length = n + m ∧ (∀ j, i + m ≤ j → us.getD j 0 = 0) ∧ val us + 4294967296 ^ (i + k') * cy = val (xs.take i) * val ys + 4294967296 ^ i * (x * val (ys.take k'))) ∧ Row wr w.heap.size us ∧ Below w.heap.size w wr)
        (fun _ k _ => m - (intOf k).toNat)
      case atStart => exact ⟨0, 0, zs, Nat.zero_le _, rfl, rfl, by omega, ⟨Hv.out.1, Hv.out.2.1, Hv.out.2.2.1, by rw [Hv.out.2.2.2]; simp [val]⟩, Hr.out, Hb.out⟩
      case round =>
        obtain ⟨k, cy, us, hk, rfl, rfl, hcy, hv2, hrow2, hb2⟩ := hrel
        have hfr := fun j => hrow2.frozen j
        have hfr1 := hfr (i + k)
        have hfr2 := hfr (i + m)
        have Hv2 := Lib.hid hv2
        have Hb2 := Lib.hid hb2
        have Hr2 := Lib.hid hrow2
        clear hv2 hb2 hrow2 hfr hcx
        by_cases hkm : k < m
        · have hkm' : (k : Int) < m := by omega
          have hy1 := Hy.out.wd.getD k
          have hz1 := Hv2.out.1.getD (i + k)
          have hcy1 := (Hb2.out.cell (p := ⟨b2, o2 + k, none⟩) hbb2).trans (Hc2.out k hkm)
          have hcz := Hr2.out.cell (i + k) (by rw [Hv2.out.2.1]; omega)
          generalize hyy : ys.getD k 0 = y at hcy1 hy1
          generalize hzz : us.getD (i + k) 0 = z at hcz hz1
          have Hyy := Lib.hid hyy
          have Hzz := Lib.hid hzz
          have hmul := mul_bound x y hx1 hy1
          have hmul1 := hmul.1
          have hmul2 := hmul.2
          clear hyy hzz hmul hfr2
          go_wp2_with fail
          go_roundw
          case rel =>
            have e : ((cy : Int) + ((x : Int) * y + z)) = ((cy + x * y + z : Nat) : Int) := by push_cast; omega
            have hmc := mul_carry hx1 hy1 hz1 hcy
            have hst := times_inner (by rw [Hv2.out.2.1]; omega) Hv2.out.2.2.2
            rw [Hyy.out, Hzz.out] at hst
            generalize ht : cy + x * y + z = t at e hmc hst
            rw [e]
            have e1 : Value.int .u32 ((t : Int) % 4294967296) = W32 (t % 4294967296) := by unfold W32; go_num
            rw [e1]
            exact ⟨k + 1, t / 4294967296, us.set (i + k) (t % 4294967296), by omega, by go_num, by go_num, hmc.2,
              ⟨Wd_set Hv2.out.1 _ _ (by omega), by rw [List.length_set]; exact Hv2.out.2.1, fun j hj => by rw [getD_set_ne (by omega)]; exact Hv2.out.2.2.1 j hj, hst⟩, Hr2.out.set _ _, Hb2.out.setCell (Nat.le_refl _) _⟩
          case measure => simp [intOf]; omega
        · obtain rfl : k = m := by omega
          have hkm' : ¬ (k : Int) < k := by omega
          have hcz := Hr2.out.cell (i + k) (by rw [Hv2.out.2.1]; omega)
          clear hfr1
          go_wp2_with fail
          go_roundw
          case rel =>
            have e1 : Value.int .u32 ((cy : Int) % 4294967296) = W32 cy := by unfold W32; go_num
            have e2 : Value.int .u32 (cy : Int) = W32 cy := rfl
            first | rw [e1] | rw [e2]
            have hst := times_outer (xs := xs) (ys := ys) (zs := us) (i := i) (c := cy) (by rw [Hv2.out.2.1, Hy.out.len]; omega) (by rw [Hy.out.len]; exact Hv2.out.2.2.1 _ (by omega)) (by rw [Hy.out.len, Hxx.out]; exact Hv2.out.2.2.2)
            rw [Hy.out.len] at hst
            exact ⟨i + 1, us.set (i + k) cy, by omega, by go_num,
              ⟨Wd_set Hv2.out.1 _ _ hcy, by rw [List.length_set]; exact Hv2.out.2.1, fun j hj => by rw [getD_set_ne (by omega)]; exact Hv2.out.2.2.1 j (by omega), hst⟩, Hr2.out.set _ _, Hb2.out.setCell (Nat.le_refl _) _⟩
          case measure => simp [intOf]; omega
    · obtain rfl : i = n := by omega
      have hin' : ¬ (i : Int) < i := by omega
      have hxt : xs.take i = xs := List.take_of_length_le (by rw [Hx.out.len]; exact Nat.le_refl _)
      have hw2 : Wrd wo (some ⟨w.heap.size, 0, none⟩) (i + m) (i + m) zs := Hr.out.wrd' Hv.out.1 Hv.out.2.1 (by omega)
      have htr : trim zs = digs (val xs * val ys) := by unfold trim; rw [Hv.out.2.2.2, hxt]
      have hw3 := hw2.trim
      rw [htr] at hw3
      have Hw2 := Lib.hid hw2
      have Hw3 := Lib.hid hw3
      have Htr := Lib.hid htr
      clear hxt hw2 htr hw3
      go_wp2_with (go_at_call 50; refine (i_trim _ _ _ _ _ Hw2.out).mono ?_; rw [Htr.out]; rintro e w' ⟨rfl, rfl⟩)
      go_ret
      exact ⟨_, _, _, _, rfl, Hw3.out, rfl, Hb.out⟩

theorem i_times (A B : Option Addr) (n m c d : Nat) (xs ys : List Nat) (w : World) (hx : Wrd w A n c xs) (hy : Wrd w B m d ys) (hs : n ≤ 4294967296) (hs2 : m ≤ 4294967296) :
    Calls Try.prog 49 #[.slice A n c, .slice B m d] w (RetW (fun zs => zs = digs (val xs * val ys)) w) := by
  rcases Nat.eq_zero_or_pos n with h | h
  · have hv : val xs = 0 := by rw [List.eq_nil_of_length_eq_zero (hx.len.trans h)]; rfl
    have Hfin : Hid ([] = digs (val xs * val ys)) := by rw [hv, Nat.zero_mul, digs_zero]; exact rfl
    clear hv hx hy
    subst h
    go_enter Try.func49, Try.ntmps49
    go_wp2_with fail
    go_ret
    exact ⟨_, _, _, [], rfl, .nil _, Hfin.out, .refl _ _⟩
  · rcases Nat.eq_zero_or_pos m with h' | h'
    · have hv : val ys = 0 := by rw [List.eq_nil_of_length_eq_zero (hy.len.trans h')]; rfl
      have Hfin : Hid ([] = digs (val xs * val ys)) := by rw [hv, Nat.mul_zero, digs_zero]; exact rfl
      clear hv hx hy
      subst h'
      have hn0 : ((n : Int) == 0) = false := by rw [beq_eq_false_iff_ne]; omega
      go_enter Try.func49, Try.ntmps49
      go_wp2_with fail
      go_ret
      exact ⟨_, _, _, [], rfl, .nil _, Hfin.out, .refl _ _⟩
    · exact i_times_pos A B n m c d xs ys w hx hy h h' hs hs2

end Go.Proofs.Ytdmijpechdaniaa
