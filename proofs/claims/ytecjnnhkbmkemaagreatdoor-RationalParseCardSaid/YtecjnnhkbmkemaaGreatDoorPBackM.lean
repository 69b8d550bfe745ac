/- slices.Backward over words below a bound. -/
import Derived.Test.YtecjnnhkbmkemaaGreatDoorPAe
namespace Go.Proofs.YtecjnnhkbmkemaaGreatDoor
open Go.RowKit Go.Shelf
attribute [local go_sem] Oper.semAt_some
abbrev encsM (M : Nat) (x : Nat × Nat) : Array Value := #[.int .i64 (x.1 : Int), W32 (x.2 % M)]
theorem getD_lt {M : Nat} {xs : List Nat} (h0 : 0 < M) (h : ∀ x ∈ xs, x < M) (i : Nat) : xs.getD i 0 < M := by
  rw [List.getD_eq_getElem?_getD]
  cases hx : xs[i]? with
  | none => exact h0
  | some x => exact h x (List.mem_of_getElem? hx)
set_option maxRecDepth 100000 in
set_option maxHeartbeats 2000000 in
theorem back1M_in (F : Fence) (n : Nat) (h8 : F.fn 135) (hro : F.round = none) (hn : 1 ≤ n) (l Bs : Nat) (A : Option Addr) (len cap : Nat) (xs : List Nat) (M : Nat) (hM0 : 0 < M) (hM : ∀ x ∈ xs, x < M) (w : World) (hx : Wrd w A len cap xs) (J Jx : List (Nat × Nat) → World → Prop)
    (hY : ∀ pre x W, J pre W → pre.length < len → YieldAt F (n - 1) Tryz.prog l (encsM M x) W fun e W' =>
      (e = .returned (.bool true) ∧ J (pre ++ [x]) W' ∧ KB w.heap.size Bs W W') ∨ (e = .returned (.bool false) ∧ Jx (pre ++ [x]) W'))
    (W : World) (hbW : Ext w W) (hBs : W.cell? ⟨Bs, 0, none⟩ = some (.slice A len cap)) (h0 : J [] W) :
    CallsIn F n Tryz.prog 135 #[.func (.yield l) #[] #[], .pointer (some ⟨Bs, 0, none⟩)] W fun e W' => (∃ v, e = .returned v) ∧
      ((∃ ys, ys = upto (backAt xs) len ∧ J ys W') ∨ (∃ pre, True ∧ Jx pre W')) := by
  have hcap := hx.cap
  have hlim := hx.lim
  have hlen := hx.len
  have hwd := hx.wd
  have Hx := Lib.hid hx
  have HM := Lib.hid hM
  have Hlen := Lib.hid hlen
  have Hwd := Lib.hid hwd
  clear hx hlen hwd hM
  refine callsIn_of_wp Tryz.func135 rfl h8 ?_ hro
  simp only [Tryz.ntmps135, List.size_toArray, List.length_cons, List.length_nil, Nat.reduceAdd, Nat.reduceSub, Array.replicate_succ, Array.replicate_zero, List.push_toArray, List.append_toArray, List.nil_append, List.cons_append]
  gi_wp2
  gi_loopw [3] (fun i wr => ∃ k : Nat, k ≤ len ∧ i = .int .i64 ((len : Int) - 1 - k) ∧ J (upto (backAt xs) k) wr ∧ KB w.heap.size Bs W wr)
    (fun i _ => (intOf i + 1).toNat)
  case atStart => exact ⟨0, Nat.zero_le _, by go_num, h0, KB.refl _ _ _⟩
  case round =>
    obtain ⟨k, hk, rfl, hJs, hnx⟩ := hrel
    have hcs := (hnx.cell 0).trans hBs
    by_cases hlt : k < len
    · obtain ⟨b, off, rfl, hb, hc⟩ := Hx.out.at (by omega)
      have hcx := (hnx.1.cell (p := ⟨b, off + (len - 1 - k), none⟩) hb).trans ((hbW.cell (p := ⟨b, off + (len - 1 - k), none⟩) hb).trans (hc (len - 1 - k) (by omega)))
      obtain ⟨fn, tmps, assign, body, hy, hR⟩ := hY _ (backAt xs k) wr hJs (by rw [upto_length]; exact hlt)
      have e1 : backAt xs k = (len - 1 - k, xs.getD (len - 1 - k) 0) := by unfold backAt; rw [Hlen.out]
      rw [e1] at hy
      have e2 : ((len - 1 - k : Nat) : Int) = (len : Int) - 1 - k := by omega
      dsimp only [encsM] at hy
      rw [e2] at hy
      obtain ⟨x, hxx⟩ : ∃ x, x = xs.getD (len - 1 - k) 0 := ⟨_, rfl⟩
      rw [← hxx] at hy hcx
      rw [Nat.mod_eq_of_lt (by rw [hxx]; exact getD_lt hM0 HM.out _)] at hy
      have g1 : (0 : Int) ≤ (len : Int) - 1 - k := by omega
      have g2 : (len : Int) - 1 - k < len := by omega
      have g3 : ((len : Int) - 1 - k).toNat = len - 1 - k := by omega
      clear e1 e2 hc
      have Hxx := Lib.hid hxx
      clear hxx
      gi_wp2
      refine hR.mono ?_
      rintro e W3 (⟨rfl, hJ3, hk3⟩ | ⟨rfl, hJx3⟩)
      · gi_wp2
        go_roundw
        case rel => exact ⟨k + 1, by omega, by go_num, by rw [upto_succ]; exact hJ3, hnx.trans hk3⟩
        case measure => simp [intOf]; omega
      · gi_wp2
        refine bodyPost_ret (results_none rfl _ _ _) rfl ?_
        exact ⟨⟨_, rfl⟩, .inr ⟨_, trivial, hJx3⟩⟩
    · obtain rfl : k = len := by omega
      have g1 : ¬ ((k : Int) ≤ (k : Int) - 1) := by omega
      gi_wp2
      go_end0
      first | exact ⟨⟨_, rfl⟩, .inl ⟨_, rfl, hJs⟩⟩ | exact ⟨⟨_, rfl⟩, .inl hJs⟩
theorem backM_stops (F : Fence) (n : Nat) (h8 : F.fn 135) (hro : F.round = none) (hn : 1 ≤ n) (Bs : Nat) (A : Option Addr) (len cap : Nat) (xs : List Nat) (M : Nat) (hM0 : 0 < M) (hM : ∀ x ∈ xs, x < M) (w0 w : World) (hx : Wrd w0 A len cap xs) (h0 : Ext w0 w) (hBs : Bs < w.heap.size) (hc : w.cell? ⟨Bs, 0, none⟩ = some (.slice A len cap)) :
    SeqStopsK F n Tryz.prog 135 #[.pointer (some ⟨Bs, 0, none⟩)] (encsM M) (KB w0.heap.size Bs) (fun ys => ys = upto (backAt xs) len) (fun _ => True) len w := fun l J Jx W hW _ _ hY hJ0 =>
  back1M_in F n h8 hro hn l Bs A len cap xs M hM0 hM w0 hx J Jx hY W (h0.more hW) ((hW.cell (p := ⟨Bs, 0, none⟩) hBs).trans hc) hJ0
end Go.Proofs.YtecjnnhkbmkemaaGreatDoor
