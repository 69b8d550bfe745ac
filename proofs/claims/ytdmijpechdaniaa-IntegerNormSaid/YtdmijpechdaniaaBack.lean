/- slices.Backward over words, and toUint of the program, which ranges over it. -/
import Derived.Test.YtdmijpechdaniaaShort
import Derived.RangeFuncBox
import Derived.RangeFuncLeaves
import Derived.Shelf.Abstract
import Derived.OwnWalkIn
import Derived.TacticsInMore
import Derived.LoopNIn
import Derived.LoopIn
namespace Go.Proofs.Ytdmijpechdaniaa
open Go.RowKit Go.Shelf
attribute [local go_sem] Oper.semAt_some

/-- what has come when k rounds are over: f 0, .., f (k - 1) -/
def upto {α : Type} (f : Nat → α) (k : Nat) : List α := (List.range k).map f
theorem upto_succ {α : Type} (f : Nat → α) (k : Nat) : upto f (k + 1) = upto f k ++ [f k] := by simp [upto, List.range_succ]
theorem upto_length {α : Type} (f : Nat → α) (k : Nat) : (upto f k).length = k := by simp [upto]
/-- the j-th pair that Backward hands out -/
def backAt (xs : List Nat) (j : Nat) : Nat × Nat := (xs.length - 1 - j, xs.getD (xs.length - 1 - j) 0)
abbrev encsB (x : Nat × Nat) : Array Value := #[.int .i64 (x.1 : Int), W32 (x.2 % 4294967296)]

/-- below n₀ nothing has turned, and block Bs holds what it held -/
def KB (n₀ Bs : Nat) (A B : World) : Prop := Below n₀ A B ∧ B.heap[Bs]? = A.heap[Bs]?
theorem KB.refl (n₀ Bs : Nat) (A : World) : KB n₀ Bs A A := ⟨Below.refl _ _, rfl⟩
theorem KB.trans {n₀ Bs : Nat} {A B C : World} (h : KB n₀ Bs A B) (k : KB n₀ Bs B C) : KB n₀ Bs A C := ⟨h.1.trans k.1, k.2.trans h.2⟩
theorem KB.put {n₀ Bs : Nat} {w : World} (hn : n₀ ≤ w.heap.size) (hB : Bs < w.heap.size) (W : World) (l : Nat) (o o' : Obj) (hl : w.heap.size ≤ l) (h : W.heap[l]? = some o) (h1 : o.isCells = false) (h2 : o.isWalk = false) : KB n₀ Bs W (W.putObj l o') :=
  ⟨belowK_b hn W l o o' hl h h1 h2, World.putObj_heap_other (by omega)⟩
theorem KB.cell {n₀ Bs : Nat} {A B : World} (h : KB n₀ Bs A B) (i : Nat) : B.cell? ⟨Bs, i, none⟩ = A.cell? ⟨Bs, i, none⟩ := World.cell?_of_block (a := ⟨Bs, i, none⟩) h.2

set_option maxRecDepth 100000 in
set_option maxHeartbeats 2000000 in
theorem back1_in (F : Fence) (n : Nat) (h8 : F.fn 91) (hro : F.round = none) (hn : 1 ≤ n) (l Bs : Nat) (A : Option Addr) (len cap : Nat) (xs : List Nat) (w : World) (hx : Wrd w A len cap xs) (J Jx : List (Nat × Nat) → World → Prop)
    (hY : ∀ pre x W, J pre W → pre.length < len → YieldAt F (n - 1) Try.prog l (encsB x) W fun e W' =>
      (e = .returned (.bool true) ∧ J (pre ++ [x]) W' ∧ KB w.heap.size Bs W W') ∨ (e = .returned (.bool false) ∧ Jx (pre ++ [x]) W'))
    (W : World) (hbW : Ext w W) (hBs : W.cell? ⟨Bs, 0, none⟩ = some (.slice A len cap)) (h0 : J [] W) :
    CallsIn F n Try.prog 91 #[.func (.yield l) #[] #[], .pointer (some ⟨Bs, 0, none⟩)] W fun e W' => (∃ v, e = .returned v) ∧
      ((∃ ys, ys = upto (backAt xs) len ∧ J ys W') ∨ (∃ pre, True ∧ Jx pre W')) := by
  have hcap := hx.cap
  have hlim := hx.lim
  have hlen := hx.len
  have hwd := hx.wd
  have Hx := Lib.hid hx
  have Hlen := Lib.hid hlen
  have Hwd := Lib.hid hwd
  clear hx hlen hwd
  refine callsIn_of_wp Try.func91 rfl h8 ?_ hro
  simp only [Try.ntmps91, List.size_toArray, List.length_cons, List.length_nil, Nat.reduceAdd, Nat.reduceSub, Array.replicate_succ, Array.replicate_zero, List.push_toArray, List.append_toArray, List.nil_append, List.cons_append]
  gi_wp2
  gi_loopw [3] (fun i wr => ∃ k : Nat, k ≤ len ∧ i = .int .i64 ((len : Int) - 1 - k) ∧ J (upto (backAt xs) k) wr ∧ KB w.heap.size Bs W wr)
    (fun i _ => (intOf i + 1).toNat)
  case atStart => exact ⟨0, Nat.zero_le _, by go_num, h0, KB.refl _ _ _⟩
  case round =>
    obtain ⟨k, hk, rfl, hJs, hnx⟩ := hrel
    have hcs := (hnx.cell 0).trans hBs
    by_cases hlt : k < len
    · obtain ⟨b, off, rfl, hb, hc⟩ := Hx.out.at (by omega)
      have hcx := (hnx.1.cell (p := ⟨b, off + (len - 1 - k), none⟩) hb).trans ((hbW.cell (p := ⟨b, off + (len - 1 - k), none⟩) hb).trans (hc (len - 1 - k) (by omega)))
      obtain ⟨fn, tmps, assign, body, hy, hR⟩ := hY _ (backAt xs k) wr hJs (by rw [upto_length]; exact hlt)
      have e1 : backAt xs k = (len - 1 - k, xs.getD (len - 1 - k) 0) := by unfold backAt; rw [Hlen.out]
      rw [e1] at hy
      have e2 : ((len - 1 - k : Nat) : Int) = (len : Int) - 1 - k := by omega
      dsimp only [encsB] at hy
      rw [e2] at hy
      obtain ⟨x, hxx⟩ : ∃ x, x = xs.getD (len - 1 - k) 0 := ⟨_, rfl⟩
      rw [← hxx] at hy hcx
      rw [Nat.mod_eq_of_lt (by rw [hxx]; exact Hwd.out.getD _)] at hy
      have g1 : (0 : Int) ≤ (len : Int) - 1 - k := by omega
      have g2 : (len : Int) - 1 - k < len := by omega
      have g3 : ((len : Int) - 1 - k).toNat = len - 1 - k := by omega
      clear e1 e2 hc
      have Hxx := Lib.hid hxx
      clear hxx
      gi_wp2
      refine hR.mono ?_
      rintro e W3 (⟨rfl, hJ3, hk3⟩ | ⟨rfl, hJx3⟩)
      · gi_wp2
        go_roundw
        case rel => exact ⟨k + 1, by omega, by go_num, by rw [upto_succ]; exact hJ3, hnx.trans hk3⟩
        case measure => simp [intOf]; omega
      · gi_wp2
        refine bodyPost_ret (results_none rfl _ _ _) rfl ?_
        exact ⟨⟨_, rfl⟩, .inr ⟨_, trivial, hJx3⟩⟩
    · obtain rfl : k = len := by omega
      have g1 : ¬ ((k : Int) ≤ (k : Int) - 1) := by omega
      gi_wp2
      go_end0
      first | exact ⟨⟨_, rfl⟩, .inl ⟨_, rfl, hJs⟩⟩ | exact ⟨⟨_, rfl⟩, .inl hJs⟩

set_option maxHeartbeats 1000000 in
theorem backward_in (F : Fence) (n : Nat) (h5 : F.fn 87) (hro : F.round = none) (a : Option Addr) (len cap : Nat) (w : World) :
    CallsIn F n Try.prog 87 #[.slice a len cap] w fun e w' => e = .returned (.func (.func 91) #[] #[.pointer (some ⟨w.heap.size, 0, none⟩)]) ∧ w' = w.alloc (.cells #[.slice a len cap] 22) := by
  refine callsIn_of_wp Try.func87 rfl h5 ?_ hro
  simp only [Try.ntmps87, List.size_toArray, List.length_cons, List.length_nil, Nat.reduceAdd, Nat.reduceSub, Array.replicate_succ, Array.replicate_zero, List.push_toArray, List.append_toArray, List.nil_append, List.cons_append]
  gi_wp2
  go_ret
  exact ⟨rfl, rfl⟩

theorem back_stops (F : Fence) (n : Nat) (h8 : F.fn 91) (hro : F.round = none) (hn : 1 ≤ n) (Bs : Nat) (A : Option Addr) (len cap : Nat) (xs : List Nat) (w0 w : World) (hx : Wrd w0 A len cap xs) (h0 : Ext w0 w) (hBs : Bs < w.heap.size) (hc : w.cell? ⟨Bs, 0, none⟩ = some (.slice A len cap)) :
    SeqStopsK F n Try.prog 91 #[.pointer (some ⟨Bs, 0, none⟩)] encsB (KB w0.heap.size Bs) (fun ys => ys = upto (backAt xs) len) (fun _ => True) len w := fun l J Jx W hW _ _ hY hJ0 =>
  back1_in F n h8 hro hn l Bs A len cap xs w0 hx J Jx hY W (h0.more hW) ((hW.cell (p := ⟨Bs, 0, none⟩) hBs).trans hc) hJ0

/-- the sum of the words that have come -/
def accB (l : List (Nat × Nat)) : Nat := l.foldl (fun a p => a * 4294967296 + p.2 % 4294967296) 0
theorem accB_snoc (l : List (Nat × Nat)) (p : Nat × Nat) : accB (l ++ [p]) = accB l * 4294967296 + p.2 % 4294967296 := by unfold accB; simp
theorem accB_one (l : List (Nat × Nat)) (h : l.length < 2) : accB l < 4294967296 := by
  match l, h with
  | [], _ => simp [accB]
  | [p], _ => simp [accB]; omega
theorem accB_upto {xs : List Nat} (hw : Wd xs) (k : Nat) (hk : k ≤ xs.length) : accB (upto (backAt xs) k) = val (xs.drop (xs.length - k)) := by
  induction k with
  | zero => rw [Nat.sub_zero, List.drop_of_length_le (Nat.le_refl _)]; rfl
  | succ k ih =>
    rw [upto_succ, accB_snoc, ih (by omega)]
    have h := drop_step xs (xs.length - k) (by omega) (by omega)
    rw [show xs.length - (k + 1) = xs.length - k - 1 by omega, h]
    simp only [val]
    have e : (backAt xs k).2 = xs.getD (xs.length - k - 1) 0 := by
      unfold backAt; dsimp only; rw [show xs.length - 1 - k = xs.length - k - 1 by omega]
    rw [e, Nat.mod_eq_of_lt (hw.getD _)]
    omega

set_option maxRecDepth 100000 in
set_option maxHeartbeats 2000000 in
theorem toUint_in (F : Fence) (n : Nat) (h3 : F.fn 69) (h5 : F.fn 87) (h7 : F.fn 91) (hro : F.round = none) (hn : 3 ≤ n) (A : Option Addr) (len cap : Nat) (xs : List Nat) (w : World) (hx : Wrd w A len cap xs) (hl2 : len ≤ 2) :
    CallsIn F n Try.prog 69 #[.slice A len cap] w fun e W' => e = .returned (.int .u64 (val xs : Int)) ∧ Below w.heap.size w W' := by
  have h1 : 1 ≤ n := by omega
  have hlen := hx.len
  have hwd := hx.wd
  have Hx := Lib.hid hx
  have Hlen := Lib.hid hlen
  have Hwd := Lib.hid hwd
  clear hx hlen hwd
  refine callsIn_of_wp_marks Try.func69 rfl h3 ?_ hro
  simp only [Try.ntmps69, List.size_toArray, List.length_cons, List.length_nil, Nat.reduceAdd, Nat.reduceSub, Array.replicate_succ, Array.replicate_zero, List.push_toArray, List.append_toArray, List.nil_append, List.cons_append]
  gi_wp2_with (gi_at_call 87; refine (backward_in F (n - 1) h5 hro _ _ _ _).mono ?_; rintro e w' ⟨rfl, rfl⟩)
  have bS := Boxed.new w 58 (.int .u64 0)
  have bN := Boxed.new (w.alloc (.cells #[.int .u64 0] 58)) 22 (.slice A len cap)
  rw [World.size_alloc] at bN
  have hB0 : Below w.heap.size w ((w.alloc (.cells #[.int .u64 0] 58)).alloc (.cells #[.slice A len cap] 22)) := ((Below.refl _ w).alloc (Nat.le_refl _) _).alloc (by simp) _
  refine wpIn_rangeFunc_ownG hro h1 (gf := 91) (lb := #[.pointer (some ⟨w.heap.size + 1, 0, none⟩)]) rfl h7 (enters_of Try.func91 (by kernel_rfl) rfl)
    (back_stops F (n - 1) h7 hro (by omega) (w.heap.size + 1) A len cap xs w _ Hx.out hB0 (by simp) bN.cell) (fun h k => KB.trans h k) (KB.put (by simp; omega) (by simp)) (Below.refl _ _) (fun _ => rfl)
    (fun pre W => (W.cell? ⟨w.heap.size, 0, none⟩ = some (.int .u64 (accB pre : Int)) ∧ W.frozen? ⟨w.heap.size, 0, none⟩ = false) ∧ Below w.heap.size w W)
    (fun _ _ _ => False)
    (OwnFrom.and (Own.from (fun s A B row hs hg hr => ⟨cell_kept hs.1 hg hr, (frozen_kept hs.1 hg hr).trans hs.2⟩) _) (ownFrom_below (Nat.le_refl _) (by simp; omega)))
    (fun _ _ _ _ _ hs _ _ => hs)
    ⟨⟨(bS.alloc (.cells #[.slice A len cap] 22)).cell, (bS.alloc _).frozen⟩, hB0⟩
    (fun x => { tmps := #[.slice A len cap, undef, .int .u64 0, .pointer (some ⟨w.heap.size, 0, none⟩), undef, W32 (x.2 % 4294967296), .slice A len cap, .func (.func 91) #[] #[.pointer (some ⟨w.heap.size + 1, 0, none⟩)], .int .i64 (x.1 : Int), W32 (x.2 % 4294967296), undef, undef, undef, undef, undef, undef], defers := [] }) ?assign ?body ?done ?stop
  case assign =>
    intro l x W K hK
    gi_wp2
    exact hK
  case body =>
    rintro l pre x W ⟨⟨hc, hf⟩, hB⟩ hlt
    have ha := accB_one pre (by omega)
    have hb : x.2 % 4294967296 < 4294967296 := Nat.mod_lt _ (by decide)
    have hs := accB_snoc pre x
    generalize x.2 % 4294967296 = y at *
    generalize accB pre = a at *
    have Hs := Lib.hid hs
    clear hs
    gi_wp2
    exact ⟨(KeepsOthers.setCell _ _ _).from _, ⟨(Below.refl w.heap.size W).setCell (p := ⟨w.heap.size, 0, none⟩) (Nat.le_refl _) _, Below.heap_setCell _ _ _ _ (by simp)⟩, ⟨by rw [World.cell?_setCell_same' _ _ _ (by rw [hc]; rfl), or_word a y ha hb, Hs.out], by rw [World.frozen?_setCell]; exact hf⟩, hB.setCell (p := ⟨w.heap.size, 0, none⟩) (Nat.le_refl _) _⟩
  case done =>
    rintro D ys W hD rfl ⟨⟨hc, _⟩, hB⟩ hK
    have he := accB_upto Hwd.out len (by rw [Hlen.out]; exact Nat.le_refl _)
    rw [Hlen.out, Nat.sub_self, List.drop_zero] at he
    gi_wp2
    refine ⟨by simp, .inl ⟨_, _, rfl, run_takeDeferred hK, ?_⟩⟩
    refine ⟨_, results_tmp rfl _ _ _, ?_, ?_⟩
    · rfl
    · exact hB.trans (belowK_b (w := w) (Nat.le_refl _) W D _ _ (by simp at hD; omega) hK rfl rfl)
  case stop =>
    rintro D c pre W _ _ h _
    exact h.elim

theorem i_toUint (A : Option Addr) (len cap : Nat) (xs : List Nat) (w : World) (hx : Wrd w A len cap xs) (hl2 : len ≤ 2) :
    Calls Try.prog 69 #[.slice A len cap] w fun e W' => e = .returned (.int .u64 (val xs : Int)) ∧ Below w.heap.size w W' :=
  callsIn_wide.1 (toUint_in Fence.wide 3 trivial trivial trivial rfl (Nat.le_refl _) A len cap xs w hx hl2)

end Go.Proofs.Ytdmijpechdaniaa
