/- plus of the reference. -/
import Derived.Test.YtdmijpechdaniaaPlus
namespace Go.Proofs.Ytdmijpechdaniaa
open Go.RowKit

theorem Row.wrd' {w : World} {g n : Nat} {zs : List Nat} (h : Row w g zs) (hw : Wd zs) (hl : zs.length = n) (hn : n ≤ 9223372036854775807) : Wrd w (some ⟨g, 0, none⟩) n n zs := by
  subst hl; exact h.wrd hw hn

set_option maxHeartbeats 800000 in
theorem r1_plus_ge (A B : Option Addr) (n m c d : Nat) (xs ys : List Nat) (w : World) (hx : Wrd w A n c xs) (hy : Wrd w B m d ys) (hnm : m ≤ n) (hs : n ≤ 4294967296) :
    Calls Try.prog 57 #[.slice A n c, .slice B m d] w (RetW (fun zs => zs = digs (val xs + val ys)) w) := by
  have hnc := hx.cap
  have hc := hx.lim
  have hmd := hy.cap
  have hd := hy.lim
  have Hx := Lib.hid hx
  have Hy := Lib.hid hy
  clear hx hy
  have hlt : ¬ (n : Int) < m := by omega
  have hmk := mk_u32 (n + 1) ((n : Int) + 1) (by omega) (by omega)
  have hrow := row_obj w (zeros (n + 1))
  have hb0 : Below w.heap.size w (w.alloc (rowObj (zeros (n + 1)))) := (Below.refl _ _).alloc (Nat.le_refl _) _
  have Hrow := Lib.hid hrow
  have Hb0 := Lib.hid hb0
  clear hrow hb0
  go_enter Try.func57, Try.ntmps57
  go_wp2_with fail
  go_loopw [6, 7] (fun cr i wr => ∃ (k cy : Nat) (zs : List Nat), k ≤ n ∧ i = .int .i64 k ∧ cr = .int .u64 cy ∧ cy < 2 ∧
      (Wd zs ∧ zs.length = n + 1 ∧ (∀ j, k ≤ j → zs.getD j 0 = 0) ∧ val zs + 4294967296 ^ k * cy = val (xs.take k) + val (ys.take k)) ∧ Row wr w.heap.size zs ∧ Below w.heap.size w wr)
    (fun _ i _ => n - (intOf i).toNat)
  case atStart => exact ⟨0, 0, zeros (n + 1), Nat.zero_le _, rfl, rfl, by omega, ⟨Wd_zeros _, zeros_length _, fun j _ => getD_replicate _ _, by simp [val, zeros, val_replicate]⟩, Hrow.out, Hb0.out⟩
  case round =>
    obtain ⟨k, cy, zs, hk, rfl, rfl, hcy, hv, hrow, hb⟩ := hrel
    have hcell := hrow.cell k (by rw [hv.2.1]; omega)
    have hfr := hrow.frozen k
    have Hv := Lib.hid hv
    have Hb := Lib.hid hb
    have Hr := Lib.hid hrow
    clear hv hb hrow hmk
    by_cases hkn : k < n
    · obtain ⟨b1, o1, rfl, hbb1, hc1⟩ := Hx.out.at (by omega)
      have hc1 := (Hb.out.cell (p := ⟨b1, o1 + k, none⟩) hbb1).trans (hc1 k hkn)
      have hx1 := Hx.out.wd.getD k
      generalize hxx : xs.getD k 0 = x at hc1 hx1
      have Hxx := Lib.hid hxx
      clear hxx
      have hkn' : (k : Int) < n := by omega
      by_cases hkm : k < m
      · obtain ⟨b2, o2, rfl, hbb2, hc2⟩ := Hy.out.at (by omega)
        have hc2 := (Hb.out.cell (p := ⟨b2, o2 + k, none⟩) hbb2).trans (hc2 k hkm)
        have hy1 := Hy.out.wd.getD k
        generalize hyy : ys.getD k 0 = y at hc2 hy1
        have Hyy := Lib.hid hyy
        clear hyy
        have hkm' : (k : Int) < m := by omega
        clear hbb1 hbb2
        go_wp2_with fail
        go_roundw
        case rel =>
          have e : Value.int .u32 (((cy : Int) + x + y) % 4294967296) = W32 ((cy + x + y) % 4294967296) := by unfold W32; go_num
          rw [e]
          refine ⟨k + 1, (cy + x + y) / 4294967296, zs.set k ((cy + x + y) % 4294967296), by omega, by go_num, by go_num, by omega,
            ⟨Wd_set Hv.out.1 _ _ (by omega), by rw [List.length_set]; exact Hv.out.2.1, fun j hj => by rw [getD_set_ne (by omega)]; exact Hv.out.2.2.1 j (by omega), ?_⟩, Hr.out.set _ _, Hb.out.setCell (Nat.le_refl _) _⟩
          have := plus_set (by rw [Hv.out.2.1]; omega) (Hv.out.2.2.1 k (Nat.le_refl _)) Hv.out.2.2.2
          rw [Hxx.out, Hyy.out] at this
          exact this
        case measure => simp [intOf]; omega
      · have hkm' : ¬ (k : Int) < m := by omega
        have hyy : ys.getD k 0 = 0 := by rw [List.getD_eq_getElem?_getD, List.getElem?_eq_none (by rw [Hy.out.len]; omega)]; rfl
        have Hyy := Lib.hid hyy
        clear hyy hbb1
        go_wp2_with fail
        go_roundw
        case rel =>
          have e : Value.int .u32 (((cy : Int) + x) % 4294967296) = W32 ((cy + x + 0) % 4294967296) := by unfold W32; go_num
          rw [e]
          refine ⟨k + 1, (cy + x + 0) / 4294967296, zs.set k ((cy + x + 0) % 4294967296), by omega, by go_num, by go_num, by omega,
            ⟨Wd_set Hv.out.1 _ _ (by omega), by rw [List.length_set]; exact Hv.out.2.1, fun j hj => by rw [getD_set_ne (by omega)]; exact Hv.out.2.2.1 j (by omega), ?_⟩, Hr.out.set _ _, Hb.out.setCell (Nat.le_refl _) _⟩
          have := plus_set (by rw [Hv.out.2.1]; omega) (Hv.out.2.2.1 k (Nat.le_refl _)) Hv.out.2.2.2
          rw [Hxx.out, Hyy.out] at this
          exact this
        case measure => simp [intOf]; omega
    · obtain rfl : k = n := by omega
      have hkn' : ¬ (k : Int) < k := by omega
      have hxt : xs.take k = xs := List.take_of_length_le (by rw [Hx.out.len]; exact Nat.le_refl _)
      have hyt : ys.take k = ys := List.take_of_length_le (by rw [Hy.out.len]; omega)
      have hval : val (zs.set k cy) = val xs + val ys := by
        refine last_set (by rw [Hv.out.2.1]; omega) (Hv.out.2.2.1 k (Nat.le_refl _)) ?_
        have := Hv.out.2.2.2
        rwa [hxt, hyt] at this
      have hwd : Wd (zs.set k cy) := Wd_set Hv.out.1 _ _ (by omega)
      have hw2 : Wrd (wr.setCell ⟨w.heap.size, k, none⟩ (W32 cy)) (some ⟨w.heap.size, 0, none⟩) (k + 1) (k + 1) (zs.set k cy) :=
        (Hr.out.set k cy).wrd' hwd (by rw [List.length_set]; exact Hv.out.2.1) (by omega)
      have hb2 : Below w.heap.size w (wr.setCell ⟨w.heap.size, k, none⟩ (W32 cy)) := Hb.out.setCell (Nat.le_refl _) _
      have htr : trim (zs.set k cy) = digs (val xs + val ys) := by unfold trim; rw [hval]
      have hw3 := hw2.trim
      rw [htr] at hw3
      have Hw2 := Lib.hid hw2
      have Hw3 := Lib.hid hw3
      have Hb2 := Lib.hid hb2
      have Htr := Lib.hid htr
      clear hxt hyt hval hwd hw2 hb2 htr hw3
      have ecy : ((cy : Int) % 4294967296) = cy := by omega
      go_wp2_with (go_at_call 65; refine (r1_trim _ _ _ _ _ Hw2.out).mono ?_; rw [Htr.out]; rintro e w' ⟨rfl, rfl⟩)
      go_ret
      exact ⟨_, _, _, _, rfl, Hw3.out, rfl, Hb2.out⟩

set_option maxHeartbeats 800000 in
theorem r1_plus_lt (A B : Option Addr) (n m c d : Nat) (xs ys : List Nat) (w : World) (hx : Wrd w A n c xs) (hy : Wrd w B m d ys) (hnm : m < n) (hs : n ≤ 4294967296) :
    Calls Try.prog 57 #[.slice B m d, .slice A n c] w (RetW (fun zs => zs = digs (val xs + val ys)) w) := by
  have hnc := hx.cap
  have hc := hx.lim
  have hmd := hy.cap
  have hd := hy.lim
  have Hx := Lib.hid hx
  have Hy := Lib.hid hy
  clear hx hy
  have hlt : (m : Int) < n := by omega
  have hmk := mk_u32 (n + 1) ((n : Int) + 1) (by omega) (by omega)
  have hrow := row_obj w (zeros (n + 1))
  have hb0 : Below w.heap.size w (w.alloc (rowObj (zeros (n + 1)))) := (Below.refl _ _).alloc (Nat.le_refl _) _
  have Hrow := Lib.hid hrow
  have Hb0 := Lib.hid hb0
  clear hrow hb0
  go_enter Try.func57, Try.ntmps57
  go_wp2_with fail
  go_loopw [6, 7] (fun cr i wr => ∃ (k cy : Nat) (zs : List Nat), k ≤ n ∧ i = .int .i64 k ∧ cr = .int .u64 cy ∧ cy < 2 ∧
      (Wd zs ∧ zs.length = n + 1 ∧ (∀ j, k ≤ j → zs.getD j 0 = 0) ∧ val zs + 4294967296 ^ k * cy = val (xs.take k) + val (ys.take k)) ∧ Row wr w.heap.size zs ∧ Below w.heap.size w wr)
    (fun _ i _ => n - (intOf i).toNat)
  case atStart => exact ⟨0, 0, zeros (n + 1), Nat.zero_le _, rfl, rfl, by omega, ⟨Wd_zeros _, zeros_length _, fun j _ => getD_replicate _ _, by simp [val, zeros, val_replicate]⟩, Hrow.out, Hb0.out⟩
  case round =>
    obtain ⟨k, cy, zs, hk, rfl, rfl, hcy, hv, hrow, hb⟩ := hrel
    have hcell := hrow.cell k (by rw [hv.2.1]; omega)
    have hfr := hrow.frozen k
    have Hv := Lib.hid hv
    have Hb := Lib.hid hb
    have Hr := Lib.hid hrow
    clear hv hb hrow hmk
    by_cases hkn : k < n
    · obtain ⟨b1, o1, rfl, hbb1, hc1⟩ := Hx.out.at (by omega)
      have hc1 := (Hb.out.cell (p := ⟨b1, o1 + k, none⟩) hbb1).trans (hc1 k hkn)
      have hx1 := Hx.out.wd.getD k
      generalize hxx : xs.getD k 0 = x at hc1 hx1
      have Hxx := Lib.hid hxx
      clear hxx
      have hkn' : (k : Int) < n := by omega
      by_cases hkm : k < m
      · obtain ⟨b2, o2, rfl, hbb2, hc2⟩ := Hy.out.at (by omega)
        have hc2 := (Hb.out.cell (p := ⟨b2, o2 + k, none⟩) hbb2).trans (hc2 k hkm)
        have hy1 := Hy.out.wd.getD k
        generalize hyy : ys.getD k 0 = y at hc2 hy1
        have Hyy := Lib.hid hyy
        clear hyy
        have hkm' : (k : Int) < m := by omega
        clear hbb1 hbb2
        go_wp2_with fail
        go_roundw
        case rel =>
          have e : Value.int .u32 (((cy : Int) + x + y) % 4294967296) = W32 ((cy + x + y) % 4294967296) := by unfold W32; go_num
          rw [e]
          refine ⟨k + 1, (cy + x + y) / 4294967296, zs.set k ((cy + x + y) % 4294967296), by omega, by go_num, by go_num, by omega,
            ⟨Wd_set Hv.out.1 _ _ (by omega), by rw [List.length_set]; exact Hv.out.2.1, fun j hj => by rw [getD_set_ne (by omega)]; exact Hv.out.2.2.1 j (by omega), ?_⟩, Hr.out.set _ _, Hb.out.setCell (Nat.le_refl _) _⟩
          have := plus_set (by rw [Hv.out.2.1]; omega) (Hv.out.2.2.1 k (Nat.le_refl _)) Hv.out.2.2.2
          rw [Hxx.out, Hyy.out] at this
          exact this
        case measure => simp [intOf]; omega
      · have hkm' : ¬ (k : Int) < m := by omega
        have hyy : ys.getD k 0 = 0 := by rw [List.getD_eq_getElem?_getD, List.getElem?_eq_none (by rw [Hy.out.len]; omega)]; rfl
        have Hyy := Lib.hid hyy
        clear hyy hbb1
        go_wp2_with fail
        go_roundw
        case rel =>
          have e : Value.int .u32 (((cy : Int) + x) % 4294967296) = W32 ((cy + x + 0) % 4294967296) := by unfold W32; go_num
          rw [e]
          refine ⟨k + 1, (cy + x + 0) / 4294967296, zs.set k ((cy + x + 0) % 4294967296), by omega, by go_num, by go_num, by omega,
            ⟨Wd_set Hv.out.1 _ _ (by omega), by rw [List.length_set]; exact Hv.out.2.1, fun j hj => by rw [getD_set_ne (by omega)]; exact Hv.out.2.2.1 j (by omega), ?_⟩, Hr.out.set _ _, Hb.out.setCell (Nat.le_refl _) _⟩
          have := plus_set (by rw [Hv.out.2.1]; omega) (Hv.out.2.2.1 k (Nat.le_refl _)) Hv.out.2.2.2
          rw [Hxx.out, Hyy.out] at this
          exact this
        case measure => simp [intOf]; omega
    · obtain rfl : k = n := by omega
      have hkn' : ¬ (k : Int) < k := by omega
      have hxt : xs.take k = xs := List.take_of_length_le (by rw [Hx.out.len]; exact Nat.le_refl _)
      have hyt : ys.take k = ys := List.take_of_length_le (by rw [Hy.out.len]; omega)
      have hval : val (zs.set k cy) = val xs + val ys := by
        refine last_set (by rw [Hv.out.2.1]; omega) (Hv.out.2.2.1 k (Nat.le_refl _)) ?_
        have := Hv.out.2.2.2
        rwa [hxt, hyt] at this
      have hwd : Wd (zs.set k cy) := Wd_set Hv.out.1 _ _ (by omega)
      have hw2 : Wrd (wr.setCell ⟨w.heap.size, k, none⟩ (W32 cy)) (some ⟨w.heap.size, 0, none⟩) (k + 1) (k + 1) (zs.set k cy) :=
        (Hr.out.set k cy).wrd' hwd (by rw [List.length_set]; exact Hv.out.2.1) (by omega)
      have hb2 : Below w.heap.size w (wr.setCell ⟨w.heap.size, k, none⟩ (W32 cy)) := Hb.out.setCell (Nat.le_refl _) _
      have htr : trim (zs.set k cy) = digs (val xs + val ys) := by unfold trim; rw [hval]
      have hw3 := hw2.trim
      rw [htr] at hw3
      have Hw2 := Lib.hid hw2
      have Hw3 := Lib.hid hw3
      have Hb2 := Lib.hid hb2
      have Htr := Lib.hid htr
      clear hxt hyt hval hwd hw2 hb2 htr hw3
      have ecy : ((cy : Int) % 4294967296) = cy := by omega
      go_wp2_with (go_at_call 65; refine (r1_trim _ _ _ _ _ Hw2.out).mono ?_; rw [Htr.out]; rintro e w' ⟨rfl, rfl⟩)
      go_ret
      exact ⟨_, _, _, _, rfl, Hw3.out, rfl, Hb2.out⟩


theorem r1_plus (A B : Option Addr) (n m c d : Nat) (xs ys : List Nat) (w : World) (hx : Wrd w A n c xs) (hy : Wrd w B m d ys) (h1 : n ≤ 4294967296) (h2 : m ≤ 4294967296) :
    Calls Try.prog 57 #[.slice A n c, .slice B m d] w (RetW (fun zs => zs = digs (val xs + val ys)) w) := by
  rcases Nat.lt_or_ge n m with h | h
  · have := r1_plus_lt B A m n d c ys xs w hy hx h h2
    rw [Nat.add_comm] at this
    exact this
  · exact r1_plus_ge A B n m c d xs ys w hx hy h h1

end Go.Proofs.Ytdmijpechdaniaa
