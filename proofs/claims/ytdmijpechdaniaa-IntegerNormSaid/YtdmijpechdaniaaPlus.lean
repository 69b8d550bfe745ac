/- plus of both packages. -/
import Derived.Test.YtdmijpechdaniaaSgn
import Derived.Test.YtdmijpechdaniaaNum
namespace Go.Proofs.Ytdmijpechdaniaa
open Go.RowKit

/-- a slice of words in new memory, of which Φ holds -/
def RetW (Φ : List Nat → Prop) (w : World) (e : Ending) (w' : World) : Prop := ∃ A n c zs, e = .returned (.slice A n c) ∧ Wrd w' A n c zs ∧ Φ zs ∧ Below w.heap.size w w'

/-- an owned row of words reads as a slice of words -/
theorem wrd_of_own {w : World} {base g n cap : Nat} {zs : List Nat} (h : w.ownsRow base 47 1 (.slice (some ⟨g, 0, none⟩) n cap) n (zs.map W32)) (hw : Wd zs) (hn : n ≤ cap) (hc : cap ≤ 9223372036854775807) :
    Wrd w (some ⟨g, 0, none⟩) n cap zs := by
  have hl : zs.length = n := by have := h.1; simpa using this
  refine ⟨hl, hn, hc, hw, .inr ⟨g, 0, rfl, fun i v hv => ?_⟩, fun h => by cases h⟩
  have hi : i < n := by
    have := (List.getElem?_eq_some_iff.1 hv).1
    rw [List.length_map, hl] at this
    exact this
  rw [Nat.zero_add, h.cellAt i (by omega)]
  exact hv

set_option maxHeartbeats 800000 in
theorem i_plus_ge (A B : Option Addr) (n m c d : Nat) (xs ys : List Nat) (w : World) (hx : Wrd w A n c xs) (hy : Wrd w B m d ys) (hnm : m ≤ n) (hs : n ≤ 4294967296) :
    Calls Try.prog 54 #[.slice A n c, .slice B m d] w (RetW (fun zs => val zs = val xs + val ys ∧ zs.length ≤ n + 1) w) := by
  obtain ⟨i0, hi, hz0, hz1, hz2⟩ := info_parts Try.infoU32
  have hnc := hx.cap
  have hc := hx.lim
  have hmd := hy.cap
  have hd := hy.lim
  have Hx := Lib.hid hx
  have Hy := Lib.hid hy
  clear hx hy
  have hlt : ¬ (n : Int) < m := by omega
  go_enter Try.func54, Try.ntmps54
  go_wp2_with (at_make; refine wpList_make_own _ rfl _ _ 22 rfl w.heap.size 47 i0 (.int .u32 0) 1 Try.underlying22 hi hz0 hz1 .i64 .i64 _ (n + 1) rfl rfl (by omega) (by rw [hz2]; omega) (by simp only [maxLen]; omega) (Nat.le_refl _) ?_; intro w1 hown1 hg1)
  have hb1 : Below w.heap.size w w1 := (Below.refl _ _).grown hg1 (Nat.le_refl _) (by simp)
  have Hb1 := Lib.hid hb1
  clear hb1 hg1
  go_loopw [5, 6, 22] (fun v cr i wr => ∃ (k cy : Nat) (zs : List Nat), k ≤ n ∧ i = .int .i64 k ∧ v = .slice (some ⟨w.heap.size, 0, none⟩) k (n + 1) ∧ cr = .int .u64 cy ∧ cy < 2 ∧
      (Wd zs ∧ val zs + 4294967296 ^ k * cy = val (xs.take k) + val (ys.take k)) ∧ wr.ownsRow w.heap.size 47 1 (.slice (some ⟨w.heap.size, 0, none⟩) k (n + 1)) k (zs.map W32) ∧ Below w.heap.size w wr)
    (fun _ _ i _ => n - (intOf i).toNat)
  case atStart => exact ⟨0, 0, [], Nat.zero_le _, rfl, rfl, rfl, by omega, ⟨Wd.nil, by simp [val]⟩, hown1, Hb1.out⟩
  case round =>
    obtain ⟨k, cy, zs, hk, rfl, rfl, rfl, hcy, hv, hown, hb⟩ := hrel
    have Hv := Lib.hid hv
    have Hb := Lib.hid hb
    clear hv hb hown1
    by_cases hkn : k < n
    · obtain ⟨b1, o1, rfl, hbb1, hc1⟩ := Hx.out.at (by omega)
      have hc1 := (Hb.out.cell (p := ⟨b1, o1 + k, none⟩) hbb1).trans (hc1 k hkn)
      have hx1 := Hx.out.wd.getD k
      generalize hxx : xs.getD k 0 = x at hc1 hx1
      have Hxx := Lib.hid hxx
      clear hxx
      have hkn' : (k : Int) < n := by omega
      by_cases hkm : k < m
      · obtain ⟨b2, o2, rfl, hbb2, hc2⟩ := Hy.out.at (by omega)
        have hc2 := (Hb.out.cell (p := ⟨b2, o2 + k, none⟩) hbb2).trans (hc2 k hkm)
        have hy1 := Hy.out.wd.getD k
        generalize hyy : ys.getD k 0 = y at hc2 hy1
        have Hyy := Lib.hid hyy
        clear hyy
        have hkm' : (k : Int) < m := by omega
        clear hbb1 hbb2
        go_wp2_with (at_builtin; refine wpList_append_fits _ rfl _ _ 22 rfl w.heap.size 47 i0 1 Try.underlying22 hi hz1 w.heap.size k (n + 1) (zs.map W32) rfl (hown.alloc _) ⟨wr.heap.size, 0, none⟩ 1 1 [.int .u32 (((cy : Int) + x + y) % 4294967296)] rfl rfl (cell_one_new _ _ _) (by simp [Value.oneCell']) (by omega) ?_; intro w2 hown2 hg2)
        go_roundw
        case rel =>
          have hzl : zs.length = k := by have := hown.1; simpa using this
          exact ⟨k + 1, (cy + x + y) / 4294967296, zs ++ [(cy + x + y) % 4294967296], by omega, by go_num, rfl, by go_num, by omega,
            ⟨Hv.out.1.append (Wd.cons (by omega) Wd.nil), by have := plus_step hzl Hv.out.2; rw [Hxx.out, Hyy.out] at this; exact this⟩, by rw [List.map_append, List.map_cons, List.map_nil, show W32 ((cy + x + y) % 4294967296) = .int .u32 (((cy : Int) + x + y) % 4294967296) by unfold W32; go_num]; exact hown2,
            (Hb.out.alloc Hb.out.size _).grown hg2 (by have := Hb.out.size; simp; omega) (fun j hj => by cases hj; exact Nat.le_refl _)⟩
        case measure => simp [intOf]; omega
      · have hkm' : ¬ (k : Int) < m := by omega
        have hyy : ys.getD k 0 = 0 := by rw [List.getD_eq_getElem?_getD, List.getElem?_eq_none (by rw [Hy.out.len]; omega)]; rfl
        have Hyy := Lib.hid hyy
        clear hyy hbb1
        go_wp2_with (at_builtin; refine wpList_append_fits _ rfl _ _ 22 rfl w.heap.size 47 i0 1 Try.underlying22 hi hz1 w.heap.size k (n + 1) (zs.map W32) rfl (hown.alloc _) ⟨wr.heap.size, 0, none⟩ 1 1 [.int .u32 (((cy : Int) + x) % 4294967296)] rfl rfl (cell_one_new _ _ _) (by simp [Value.oneCell']) (by omega) ?_; intro w2 hown2 hg2)
        go_roundw
        case rel =>
          have hzl : zs.length = k := by have := hown.1; simpa using this
          exact ⟨k + 1, (cy + x + 0) / 4294967296, zs ++ [(cy + x + 0) % 4294967296], by omega, by go_num, rfl, by go_num, by omega,
            ⟨Hv.out.1.append (Wd.cons (by omega) Wd.nil), by have := plus_step hzl Hv.out.2; rw [Hxx.out, Hyy.out] at this; exact this⟩, by rw [List.map_append, List.map_cons, List.map_nil, show W32 ((cy + x + 0) % 4294967296) = .int .u32 (((cy : Int) + x) % 4294967296) by unfold W32; go_num]; exact hown2,
            (Hb.out.alloc Hb.out.size _).grown hg2 (by have := Hb.out.size; simp; omega) (fun j hj => by cases hj; exact Nat.le_refl _)⟩
        case measure => simp [intOf]; omega
    · obtain rfl : k = n := by omega
      have hkn' : ¬ (k : Int) < k := by omega
      have hzl : zs.length = k := by have := hown.1; simpa using this
      have hxt : xs.take k = xs := List.take_of_length_le (by rw [Hx.out.len]; exact Nat.le_refl _)
      have hyt : ys.take k = ys := List.take_of_length_le (by rw [Hy.out.len]; omega)
      have hfin : val zs + 4294967296 ^ k * cy = val xs + val ys := by have := Hv.out.2; rwa [hxt, hyt] at this
      have Hfin := Lib.hid hfin
      have Hzl := Lib.hid hzl
      clear hfin hxt hyt hzl
      rcases (show cy = 0 ∨ cy = 1 by omega) with h | h
      · subst h
        go_wp2_with fail
        go_ret
        exact ⟨_, _, _, zs, rfl, wrd_of_own hown Hv.out.1 (by omega) (by omega), ⟨by have := Hfin.out; omega, by rw [Hzl.out]; omega⟩, Hb.out⟩
      · subst h
        go_wp2_with (at_builtin; refine wpList_append_fits _ rfl _ _ 22 rfl w.heap.size 47 i0 1 Try.underlying22 hi hz1 w.heap.size k (k + 1) (zs.map W32) rfl (hown.alloc _) ⟨wr.heap.size, 0, none⟩ 1 1 [.int .u32 1] rfl rfl (cell_one_new _ _ _) (by simp [Value.oneCell']) (by omega) ?_; intro w2 hown2 hg2)
        go_ret
        have hwz : Wd (zs ++ [1]) := Hv.out.1.append (Wd.cons (by omega) Wd.nil)
        have hown3 : w2.ownsRow w.heap.size 47 1 (.slice (some ⟨w.heap.size, 0, none⟩) (k + 1) (k + 1)) (k + 1) ((zs ++ [1]).map W32) := by
          rw [List.map_append, List.map_cons, List.map_nil]; exact hown2
        exact ⟨_, _, _, zs ++ [1], rfl, wrd_of_own hown3 hwz (by omega) (by omega), ⟨by have := Hfin.out; rw [val_append, Hzl.out]; simp only [val]; omega, by rw [List.length_append, Hzl.out]; simp⟩,
          (Hb.out.alloc Hb.out.size _).grown hg2 (by have := Hb.out.size; simp; omega) (fun j hj => by cases hj; exact Nat.le_refl _)⟩

set_option maxHeartbeats 800000 in
theorem i_plus_lt (A B : Option Addr) (n m c d : Nat) (xs ys : List Nat) (w : World) (hx : Wrd w A n c xs) (hy : Wrd w B m d ys) (hnm : m < n) (hs : n ≤ 4294967296) :
    Calls Try.prog 54 #[.slice B m d, .slice A n c] w (RetW (fun zs => val zs = val xs + val ys ∧ zs.length ≤ n + 1) w) := by
  obtain ⟨i0, hi, hz0, hz1, hz2⟩ := info_parts Try.infoU32
  have hnc := hx.cap
  have hc := hx.lim
  have hmd := hy.cap
  have hd := hy.lim
  have Hx := Lib.hid hx
  have Hy := Lib.hid hy
  clear hx hy
  have hlt : (m : Int) < n := by omega
  go_enter Try.func54, Try.ntmps54
  go_wp2_with (at_make; refine wpList_make_own _ rfl _ _ 22 rfl w.heap.size 47 i0 (.int .u32 0) 1 Try.underlying22 hi hz0 hz1 .i64 .i64 _ (n + 1) rfl rfl (by omega) (by rw [hz2]; omega) (by simp only [maxLen]; omega) (Nat.le_refl _) ?_; intro w1 hown1 hg1)
  have hb1 : Below w.heap.size w w1 := (Below.refl _ _).grown hg1 (Nat.le_refl _) (by simp)
  have Hb1 := Lib.hid hb1
  clear hb1 hg1
  go_loopw [5, 6, 22] (fun v cr i wr => ∃ (k cy : Nat) (zs : List Nat), k ≤ n ∧ i = .int .i64 k ∧ v = .slice (some ⟨w.heap.size, 0, none⟩) k (n + 1) ∧ cr = .int .u64 cy ∧ cy < 2 ∧
      (Wd zs ∧ val zs + 4294967296 ^ k * cy = val (xs.take k) + val (ys.take k)) ∧ wr.ownsRow w.heap.size 47 1 (.slice (some ⟨w.heap.size, 0, none⟩) k (n + 1)) k (zs.map W32) ∧ Below w.heap.size w wr)
    (fun _ _ i _ => n - (intOf i).toNat)
  case atStart => exact ⟨0, 0, [], Nat.zero_le _, rfl, rfl, rfl, by omega, ⟨Wd.nil, by simp [val]⟩, hown1, Hb1.out⟩
  case round =>
    obtain ⟨k, cy, zs, hk, rfl, rfl, rfl, hcy, hv, hown, hb⟩ := hrel
    have Hv := Lib.hid hv
    have Hb := Lib.hid hb
    clear hv hb hown1
    by_cases hkn : k < n
    · obtain ⟨b1, o1, rfl, hbb1, hc1⟩ := Hx.out.at (by omega)
      have hc1 := (Hb.out.cell (p := ⟨b1, o1 + k, none⟩) hbb1).trans (hc1 k hkn)
      have hx1 := Hx.out.wd.getD k
      generalize hxx : xs.getD k 0 = x at hc1 hx1
      have Hxx := Lib.hid hxx
      clear hxx
      have hkn' : (k : Int) < n := by omega
      by_cases hkm : k < m
      · obtain ⟨b2, o2, rfl, hbb2, hc2⟩ := Hy.out.at (by omega)
        have hc2 := (Hb.out.cell (p := ⟨b2, o2 + k, none⟩) hbb2).trans (hc2 k hkm)
        have hy1 := Hy.out.wd.getD k
        generalize hyy : ys.getD k 0 = y at hc2 hy1
        have Hyy := Lib.hid hyy
        clear hyy
        have hkm' : (k : Int) < m := by omega
        clear hbb1 hbb2
        go_wp2_with (at_builtin; refine wpList_append_fits _ rfl _ _ 22 rfl w.heap.size 47 i0 1 Try.underlying22 hi hz1 w.heap.size k (n + 1) (zs.map W32) rfl (hown.alloc _) ⟨wr.heap.size, 0, none⟩ 1 1 [.int .u32 (((cy : Int) + x + y) % 4294967296)] rfl rfl (cell_one_new _ _ _) (by simp [Value.oneCell']) (by omega) ?_; intro w2 hown2 hg2)
        go_roundw
        case rel =>
          have hzl : zs.length = k := by have := hown.1; simpa using this
          exact ⟨k + 1, (cy + x + y) / 4294967296, zs ++ [(cy + x + y) % 4294967296], by omega, by go_num, rfl, by go_num, by omega,
            ⟨Hv.out.1.append (Wd.cons (by omega) Wd.nil), by have := plus_step hzl Hv.out.2; rw [Hxx.out, Hyy.out] at this; exact this⟩, by rw [List.map_append, List.map_cons, List.map_nil, show W32 ((cy + x + y) % 4294967296) = .int .u32 (((cy : Int) + x + y) % 4294967296) by unfold W32; go_num]; exact hown2,
            (Hb.out.alloc Hb.out.size _).grown hg2 (by have := Hb.out.size; simp; omega) (fun j hj => by cases hj; exact Nat.le_refl _)⟩
        case measure => simp [intOf]; omega
      · have hkm' : ¬ (k : Int) < m := by omega
        have hyy : ys.getD k 0 = 0 := by rw [List.getD_eq_getElem?_getD, List.getElem?_eq_none (by rw [Hy.out.len]; omega)]; rfl
        have Hyy := Lib.hid hyy
        clear hyy hbb1
        go_wp2_with (at_builtin; refine wpList_append_fits _ rfl _ _ 22 rfl w.heap.size 47 i0 1 Try.underlying22 hi hz1 w.heap.size k (n + 1) (zs.map W32) rfl (hown.alloc _) ⟨wr.heap.size, 0, none⟩ 1 1 [.int .u32 (((cy : Int) + x) % 4294967296)] rfl rfl (cell_one_new _ _ _) (by simp [Value.oneCell']) (by omega) ?_; intro w2 hown2 hg2)
        go_roundw
        case rel =>
          have hzl : zs.length = k := by have := hown.1; simpa using this
          exact ⟨k + 1, (cy + x + 0) / 4294967296, zs ++ [(cy + x + 0) % 4294967296], by omega, by go_num, rfl, by go_num, by omega,
            ⟨Hv.out.1.append (Wd.cons (by omega) Wd.nil), by have := plus_step hzl Hv.out.2; rw [Hxx.out, Hyy.out] at this; exact this⟩, by rw [List.map_append, List.map_cons, List.map_nil, show W32 ((cy + x + 0) % 4294967296) = .int .u32 (((cy : Int) + x) % 4294967296) by unfold W32; go_num]; exact hown2,
            (Hb.out.alloc Hb.out.size _).grown hg2 (by have := Hb.out.size; simp; omega) (fun j hj => by cases hj; exact Nat.le_refl _)⟩
        case measure => simp [intOf]; omega
    · obtain rfl : k = n := by omega
      have hkn' : ¬ (k : Int) < k := by omega
      have hzl : zs.length = k := by have := hown.1; simpa using this
      have hxt : xs.take k = xs := List.take_of_length_le (by rw [Hx.out.len]; exact Nat.le_refl _)
      have hyt : ys.take k = ys := List.take_of_length_le (by rw [Hy.out.len]; omega)
      have hfin : val zs + 4294967296 ^ k * cy = val xs + val ys := by have := Hv.out.2; rwa [hxt, hyt] at this
      have Hfin := Lib.hid hfin
      have Hzl := Lib.hid hzl
      clear hfin hxt hyt hzl
      rcases (show cy = 0 ∨ cy = 1 by omega) with h | h
      · subst h
        go_wp2_with fail
        go_ret
        exact ⟨_, _, _, zs, rfl, wrd_of_own hown Hv.out.1 (by omega) (by omega), ⟨by have := Hfin.out; omega, by rw [Hzl.out]; omega⟩, Hb.out⟩
      · subst h
        go_wp2_with (at_builtin; refine wpList_append_fits _ rfl _ _ 22 rfl w.heap.size 47 i0 1 Try.underlying22 hi hz1 w.heap.size k (k + 1) (zs.map W32) rfl (hown.alloc _) ⟨wr.heap.size, 0, none⟩ 1 1 [.int .u32 1] rfl rfl (cell_one_new _ _ _) (by simp [Value.oneCell']) (by omega) ?_; intro w2 hown2 hg2)
        go_ret
        have hwz : Wd (zs ++ [1]) := Hv.out.1.append (Wd.cons (by omega) Wd.nil)
        have hown3 : w2.ownsRow w.heap.size 47 1 (.slice (some ⟨w.heap.size, 0, none⟩) (k + 1) (k + 1)) (k + 1) ((zs ++ [1]).map W32) := by
          rw [List.map_append, List.map_cons, List.map_nil]; exact hown2
        exact ⟨_, _, _, zs ++ [1], rfl, wrd_of_own hown3 hwz (by omega) (by omega), ⟨by have := Hfin.out; rw [val_append, Hzl.out]; simp only [val]; omega, by rw [List.length_append, Hzl.out]; simp⟩,
          (Hb.out.alloc Hb.out.size _).grown hg2 (by have := Hb.out.size; simp; omega) (fun j hj => by cases hj; exact Nat.le_refl _)⟩


theorem i_plus (A B : Option Addr) (n m c d : Nat) (xs ys : List Nat) (w : World) (hx : Wrd w A n c xs) (hy : Wrd w B m d ys) (h1 : n ≤ 4294967296) (h2 : m ≤ 4294967296) :
    Calls Try.prog 54 #[.slice A n c, .slice B m d] w (RetW (fun zs => val zs = val xs + val ys ∧ zs.length ≤ max n m + 1) w) := by
  rcases Nat.lt_or_ge n m with h | h
  · refine (i_plus_lt B A m n d c ys xs w hy hx h h2).mono ?_
    rintro e w' ⟨A', n', c', zs, rfl, hw, ⟨h3, h4⟩, hb⟩
    exact ⟨A', n', c', zs, rfl, hw, ⟨by omega, by omega⟩, hb⟩
  · refine (i_plus_ge A B n m c d xs ys w hx hy h h1).mono ?_
    rintro e w' ⟨A', n', c', zs, rfl, hw, ⟨h3, h4⟩, hb⟩
    exact ⟨A', n', c', zs, rfl, hw, ⟨by omega, by omega⟩, hb⟩

end Go.Proofs.Ytdmijpechdaniaa
