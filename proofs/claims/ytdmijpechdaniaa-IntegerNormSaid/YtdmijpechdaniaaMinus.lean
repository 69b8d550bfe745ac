/- minus of both packages. -/
import Derived.Test.YtdmijpechdaniaaPlus2
namespace Go.Proofs.Ytdmijpechdaniaa
open Go.RowKit

theorem sub_word (x y cy : Nat) (hx : x < 4294967296) (hy : y < 4294967296) (hc : cy < 2) :
    ∃ d b : Nat, d < 4294967296 ∧ b < 2 ∧ IntKind.u64.wrap (IntKind.u64.wrap ((x : Int) - cy) - y) / 9223372036854775808 = b ∧ IntKind.u64.wrap (IntKind.u64.wrap ((x : Int) - cy) - y) % 4294967296 = d ∧ d + y + cy = x + 4294967296 * b := by
  rw [IntKind.wrap_u64, IntKind.wrap_u64]
  by_cases h : y + cy ≤ x
  · exact ⟨x - y - cy, 0, by omega, by omega, by omega, by omega, by omega⟩
  · exact ⟨x + 4294967296 - y - cy, 1, by omega, by omega, by omega, by omega, by omega⟩
theorem sub_word0 (x cy : Nat) (hx : x < 4294967296) (hc : cy < 2) :
    ∃ d b : Nat, d < 4294967296 ∧ b < 2 ∧ IntKind.u64.wrap ((x : Int) - cy) / 9223372036854775808 = b ∧ IntKind.u64.wrap ((x : Int) - cy) % 4294967296 = d ∧ d + 0 + cy = x + 4294967296 * b := by
  rw [IntKind.wrap_u64]
  by_cases h : cy ≤ x
  · exact ⟨x - cy, 0, by omega, by omega, by omega, by omega, by omega⟩
  · exact ⟨x + 4294967296 - cy, 1, by omega, by omega, by omega, by omega, by omega⟩
theorem sub_word' (x y cy : Nat) (hx : x < 4294967296) (hy : y < 4294967296) (hc : cy < 2) :
    ∃ d b : Nat, d < 4294967296 ∧ b < 2 ∧ (1 : Int) - ((x : Int) + 4294967296 - y - cy) / 4294967296 = b ∧ ((x : Int) + 4294967296 - y - cy) % 4294967296 = d ∧ d + y + cy = x + 4294967296 * b := by
  by_cases h : y + cy ≤ x
  · exact ⟨x - y - cy, 0, by omega, by omega, by omega, by omega, by omega⟩
  · exact ⟨x + 4294967296 - y - cy, 1, by omega, by omega, by omega, by omega, by omega⟩

set_option maxHeartbeats 800000 in
theorem i_minus (A B : Option Addr) (n m c d : Nat) (xs ys : List Nat) (w : World) (hx : Wrd w A n c xs) (hy : Wrd w B m d ys) (hle : val ys ≤ val xs) (hs : n ≤ 4294967296) :
    Calls Try.prog 55 #[.slice A n c, .slice B m d] w (RetW (fun zs => zs = digs (val xs - val ys)) w) := by
  have hnc := hx.cap
  have hc := hx.lim
  have hmd := hy.cap
  have hd := hy.lim
  have Hx := Lib.hid hx
  have Hy := Lib.hid hy
  have Hle := Lib.hid hle
  clear hx hy hle
  have hmk := mk_u32 n n rfl (by omega)
  have hrow := row_obj w (zeros n)
  have hb0 : Below w.heap.size w (w.alloc (rowObj (zeros n))) := (Below.refl _ _).alloc (Nat.le_refl _) _
  have Hrow := Lib.hid hrow
  have Hb0 := Lib.hid hb0
  clear hrow hb0
  go_enter Try.func55, Try.ntmps55
  go_wp2_with fail
  go_loopw [6, 15] (fun cr i wr => ∃ (k cy : Nat) (zs : List Nat), k ≤ n ∧ i = .int .i64 k ∧ cr = .int .u64 cy ∧ cy < 2 ∧
      (Wd zs ∧ zs.length = n ∧ (∀ j, k ≤ j → zs.getD j 0 = 0) ∧ val zs + val (ys.take k) = val (xs.take k) + 4294967296 ^ k * cy) ∧ Row wr w.heap.size zs ∧ Below w.heap.size w wr)
    (fun _ i _ => n - (intOf i).toNat)
  case atStart => exact ⟨0, 0, zeros n, Nat.zero_le _, rfl, rfl, by omega, ⟨Wd_zeros _, zeros_length _, fun j _ => getD_replicate _ _, by simp [val, zeros, val_replicate]⟩, Hrow.out, Hb0.out⟩
  case round =>
    obtain ⟨k, cy, zs, hk, rfl, rfl, hcy, hv, hrow, hb⟩ := hrel
    have hfr := hrow.frozen k
    have Hv := Lib.hid hv
    have Hb := Lib.hid hb
    have Hr := Lib.hid hrow
    clear hv hb hrow hmk
    by_cases hkn : k < n
    · have hcell := Hr.out.cell k (by rw [Hv.out.2.1]; omega)
      obtain ⟨b1, o1, rfl, hbb1, hc1⟩ := Hx.out.at (by omega)
      have hc1 := (Hb.out.cell (p := ⟨b1, o1 + k, none⟩) hbb1).trans (hc1 k hkn)
      have hx1 := Hx.out.wd.getD k
      generalize hxx : xs.getD k 0 = x at hc1 hx1
      have Hxx := Lib.hid hxx
      clear hxx
      have hkn' : (k : Int) < n := by omega
      by_cases hkm : k < m
      · obtain ⟨b2, o2, rfl, hbb2, hc2⟩ := Hy.out.at (by omega)
        have hc2 := (Hb.out.cell (p := ⟨b2, o2 + k, none⟩) hbb2).trans (hc2 k hkm)
        have hy1 := Hy.out.wd.getD k
        generalize hyy : ys.getD k 0 = y at hc2 hy1
        have Hyy := Lib.hid hyy
        clear hyy
        have hkm' : (k : Int) < m := by omega
        clear hbb1 hbb2
        go_wp2_with fail
        go_roundw
        case rel =>
          obtain ⟨dd, bb, g1, g2, g3, g4, g5⟩ := sub_word x y cy hx1 hy1 hcy
          rw [g3, g4]
          refine ⟨k + 1, bb, zs.set k dd, by omega, by go_num, rfl, g2,
            ⟨Wd_set Hv.out.1 _ _ g1, by rw [List.length_set]; exact Hv.out.2.1, fun j hj => by rw [getD_set_ne (by omega)]; exact Hv.out.2.2.1 j (by omega), ?_⟩, Hr.out.set _ _, Hb.out.setCell (Nat.le_refl _) _⟩
          exact minus_step (by rw [Hv.out.2.1]; omega) (Hv.out.2.2.1 k (Nat.le_refl _)) Hv.out.2.2.2 (by rw [Hxx.out, Hyy.out]; exact g5)
        case measure => simp [intOf]; omega
      · have hkm' : ¬ (k : Int) < m := by omega
        have hyy : ys.getD k 0 = 0 := by rw [List.getD_eq_getElem?_getD, List.getElem?_eq_none (by rw [Hy.out.len]; omega)]; rfl
        have Hyy := Lib.hid hyy
        clear hyy hbb1
        go_wp2_with fail
        go_roundw
        case rel =>
          obtain ⟨dd, bb, g1, g2, g3, g4, g5⟩ := sub_word0 x cy hx1 hcy
          rw [g3, g4]
          refine ⟨k + 1, bb, zs.set k dd, by omega, by go_num, rfl, g2,
            ⟨Wd_set Hv.out.1 _ _ g1, by rw [List.length_set]; exact Hv.out.2.1, fun j hj => by rw [getD_set_ne (by omega)]; exact Hv.out.2.2.1 j (by omega), ?_⟩, Hr.out.set _ _, Hb.out.setCell (Nat.le_refl _) _⟩
          exact minus_step (by rw [Hv.out.2.1]; omega) (Hv.out.2.2.1 k (Nat.le_refl _)) Hv.out.2.2.2 (by rw [Hxx.out, Hyy.out]; exact g5)
        case measure => simp [intOf]; omega
    · obtain rfl : k = n := by omega
      have hkn' : ¬ (k : Int) < k := by omega
      have hval : val zs = val xs - val ys := minus_end Hv.out.1 Hv.out.2.1 Hx.out.len Hle.out Hx.out.wd Hv.out.2.2.2
      have hw2 : Wrd wr (some ⟨w.heap.size, 0, none⟩) k k zs := Hr.out.wrd' Hv.out.1 Hv.out.2.1 (by omega)
      have htr : trim zs = digs (val xs - val ys) := by unfold trim; rw [hval]
      have hw3 := hw2.trim
      rw [htr] at hw3
      have Hw2 := Lib.hid hw2
      have Hw3 := Lib.hid hw3
      have Htr := Lib.hid htr
      clear hval hw2 htr hw3
      go_wp2_with (go_at_call 50; refine (i_trim _ _ _ _ _ Hw2.out).mono ?_; rw [Htr.out]; rintro e w' ⟨rfl, rfl⟩)
      go_ret
      exact ⟨_, _, _, _, rfl, Hw3.out, rfl, Hb.out⟩

set_option maxHeartbeats 800000 in
theorem r1_minus (A B : Option Addr) (n m c d : Nat) (xs ys : List Nat) (w : World) (hx : Wrd w A n c xs) (hy : Wrd w B m d ys) (hle : val ys ≤ val xs) (hs : n ≤ 4294967296) :
    Calls Try.prog 59 #[.slice A n c, .slice B m d] w (RetW (fun zs => zs = digs (val xs - val ys)) w) := by
  have hnc := hx.cap
  have hc := hx.lim
  have hmd := hy.cap
  have hd := hy.lim
  have Hx := Lib.hid hx
  have Hy := Lib.hid hy
  have Hle := Lib.hid hle
  clear hx hy hle
  have hmk := mk_u32 n n rfl (by omega)
  have hrow := row_obj w (zeros n)
  have hb0 : Below w.heap.size w (w.alloc (rowObj (zeros n))) := (Below.refl _ _).alloc (Nat.le_refl _) _
  have Hrow := Lib.hid hrow
  have Hb0 := Lib.hid hb0
  clear hrow hb0
  go_enter Try.func59, Try.ntmps59
  go_wp2_with fail
  go_loopw [6, 7] (fun cr i wr => ∃ (k cy : Nat) (zs : List Nat), k ≤ n ∧ i = .int .i64 k ∧ cr = .int .u64 cy ∧ cy < 2 ∧
      (Wd zs ∧ zs.length = n ∧ (∀ j, k ≤ j → zs.getD j 0 = 0) ∧ val zs + val (ys.take k) = val (xs.take k) + 4294967296 ^ k * cy) ∧ Row wr w.heap.size zs ∧ Below w.heap.size w wr)
    (fun _ i _ => n - (intOf i).toNat)
  case atStart => exact ⟨0, 0, zeros n, Nat.zero_le _, rfl, rfl, by omega, ⟨Wd_zeros _, zeros_length _, fun j _ => getD_replicate _ _, by simp [val, zeros, val_replicate]⟩, Hrow.out, Hb0.out⟩
  case round =>
    obtain ⟨k, cy, zs, hk, rfl, rfl, hcy, hv, hrow, hb⟩ := hrel
    have hfr := hrow.frozen k
    have Hv := Lib.hid hv
    have Hb := Lib.hid hb
    have Hr := Lib.hid hrow
    clear hv hb hrow hmk
    by_cases hkn : k < n
    · have hcell := Hr.out.cell k (by rw [Hv.out.2.1]; omega)
      obtain ⟨b1, o1, rfl, hbb1, hc1⟩ := Hx.out.at (by omega)
      have hc1 := (Hb.out.cell (p := ⟨b1, o1 + k, none⟩) hbb1).trans (hc1 k hkn)
      have hx1 := Hx.out.wd.getD k
      generalize hxx : xs.getD k 0 = x at hc1 hx1
      have Hxx := Lib.hid hxx
      clear hxx
      have hkn' : (k : Int) < n := by omega
      by_cases hkm : k < m
      · obtain ⟨b2, o2, rfl, hbb2, hc2⟩ := Hy.out.at (by omega)
        have hc2 := (Hb.out.cell (p := ⟨b2, o2 + k, none⟩) hbb2).trans (hc2 k hkm)
        have hy1 := Hy.out.wd.getD k
        generalize hyy : ys.getD k 0 = y at hc2 hy1
        have Hyy := Lib.hid hyy
        clear hyy
        have hkm' : (k : Int) < m := by omega
        clear hbb1 hbb2
        go_wp2_with fail
        go_roundw
        case rel =>
          obtain ⟨dd, bb, g1, g2, g3, g4, g5⟩ := sub_word' x y cy hx1 hy1 hcy
          rw [g3, g4]
          refine ⟨k + 1, bb, zs.set k dd, by omega, by go_num, rfl, g2,
            ⟨Wd_set Hv.out.1 _ _ g1, by rw [List.length_set]; exact Hv.out.2.1, fun j hj => by rw [getD_set_ne (by omega)]; exact Hv.out.2.2.1 j (by omega), ?_⟩, Hr.out.set _ _, Hb.out.setCell (Nat.le_refl _) _⟩
          exact minus_step (by rw [Hv.out.2.1]; omega) (Hv.out.2.2.1 k (Nat.le_refl _)) Hv.out.2.2.2 (by rw [Hxx.out, Hyy.out]; exact g5)
        case measure => simp [intOf]; omega
      · have hkm' : ¬ (k : Int) < m := by omega
        have hyy : ys.getD k 0 = 0 := by rw [List.getD_eq_getElem?_getD, List.getElem?_eq_none (by rw [Hy.out.len]; omega)]; rfl
        have Hyy := Lib.hid hyy
        clear hyy hbb1
        go_wp2_with fail
        go_roundw
        case rel =>
          obtain ⟨dd, bb, g1, g2, g3, g4, g5⟩ := sub_word' x 0 cy hx1 (by omega) hcy
          have e0 : ((x : Int) + 4294967296 - ((0 : Nat) : Int) - cy) = (x : Int) + 4294967296 - cy := by omega
          rw [e0] at g3 g4
          rw [g3, g4]
          refine ⟨k + 1, bb, zs.set k dd, by omega, by go_num, rfl, g2,
            ⟨Wd_set Hv.out.1 _ _ g1, by rw [List.length_set]; exact Hv.out.2.1, fun j hj => by rw [getD_set_ne (by omega)]; exact Hv.out.2.2.1 j (by omega), ?_⟩, Hr.out.set _ _, Hb.out.setCell (Nat.le_refl _) _⟩
          exact minus_step (by rw [Hv.out.2.1]; omega) (Hv.out.2.2.1 k (Nat.le_refl _)) Hv.out.2.2.2 (by rw [Hxx.out, Hyy.out]; exact g5)
        case measure => simp [intOf]; omega
    · obtain rfl : k = n := by omega
      have hkn' : ¬ (k : Int) < k := by omega
      have hval : val zs = val xs - val ys := minus_end Hv.out.1 Hv.out.2.1 Hx.out.len Hle.out Hx.out.wd Hv.out.2.2.2
      have hw2 : Wrd wr (some ⟨w.heap.size, 0, none⟩) k k zs := Hr.out.wrd' Hv.out.1 Hv.out.2.1 (by omega)
      have htr : trim zs = digs (val xs - val ys) := by unfold trim; rw [hval]
      have hw3 := hw2.trim
      rw [htr] at hw3
      have Hw2 := Lib.hid hw2
      have Hw3 := Lib.hid hw3
      have Htr := Lib.hid htr
      clear hval hw2 htr hw3
      go_wp2_with (go_at_call 65; refine (r1_trim _ _ _ _ _ Hw2.out).mono ?_; rw [Htr.out]; rintro e w' ⟨rfl, rfl⟩)
      go_ret
      exact ⟨_, _, _, _, rfl, Hw3.out, rfl, Hb.out⟩

end Go.Proofs.Ytdmijpechdaniaa
