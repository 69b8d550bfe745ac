/- slices.Clone at words. -/
import Derived.Test.YtdmijpechdaniaaPlus
import Derived.Maps.AppendAt
import Derived.Lib.LazyBuf
namespace Go.Proofs.Ytdmijpechdaniaa
open Go.RowKit

/-- append of any words onto a slice of no elements that the call has just made -/
theorem run_append_wrd {w : World} {B g n c : Nat} {A : Option Addr} {xs : List Nat} (ty : TypeId) (hg : w.heap[g]? = some (.cells #[] 47 (0, 0))) (hB : B ≤ g) (hx : Wrd w A n c xs) (hs : n ≤ 4294967296) :
    ∃ A' c' w', (Builtin.append_ #[22, 22] ty #[.slice (some ⟨g, 0, none⟩) 0 0, .slice A n c]).run Try.prog w = .ok (.slice A' n c') w' ∧ Wrd w' A' n c' xs ∧ Below B w w' := by
  obtain ⟨i0, hi, hz0, hz1, hz2⟩ := info_parts Try.infoU32
  have hlt : g < w.heap.size := (Array.getElem?_eq_some_iff.1 hg).1
  have hown : w.ownsRow B 47 1 (.slice (some ⟨g, 0, none⟩) 0 0) 0 [] := ⟨rfl, .inr ⟨g, 0, #[], rfl, hB, hg, Nat.le_refl _, by simp only [maxLen]; omega, rfl, rfl⟩⟩
  rcases A with _ | ad
  · have hc0 := hx.isnil rfl
    have hn0 : n = 0 := by have := hx.cap; omega
    subst hc0 hn0
    have hxs : xs = [] := List.eq_nil_of_length_eq_zero hx.len
    subst hxs
    refine ⟨some ⟨g, 0, none⟩, 0, w, run_append_owned_none (P := Try.prog) w B 22 ty 47 i0 1 Try.underlying22 hi _ 0 [] hown, ?_, .refl _ _⟩
    exact ⟨rfl, Nat.le_refl _, by omega, Wd.nil, .nil _ _, fun h => by cases h⟩
  · have hcells : ∀ j u, (xs.map W32)[j]? = some u → w.cell? (ad.add j) = some u := by
      intro j u hu
      rcases hx.cells with h0 | ⟨b, off, hA, hc⟩
      · rw [h0] at hu; simp at hu
      · obtain rfl := Option.some.inj hA
        rw [Addr.add_lit]
        exact hc j u hu
    obtain ⟨v', w', hrun, hown', hgr, hnil⟩ := run_append_own (P := Try.prog) w B 22 ty 47 i0 (.int .u32 0) 1 4 Try.underlying22 hi hz0 hz1 hz2 rfl (by omega) _ 0 [] hown ad n c (xs.map W32)
      (by rw [List.length_map, hx.len]; omega) hcells (by intro u hu; obtain ⟨x, _, rfl⟩ := List.mem_map.1 hu; rfl) (by simp only [maxLen]; omega) (by omega) (by omega)
    rw [Nat.zero_add, List.nil_append] at hown'
    have hbel : Below B w w' := (Below.refl _ _).grown hgr (by omega) (fun k hk => by simp [Value.ownBlock] at hk; omega)
    rcases hown'.2 with ⟨rfl, _⟩ | ⟨g', cap, cur, rfl, hbg, hgg, hnc, hcm, _⟩
    · have := hnil.1 rfl
      simp at this
    · exact ⟨_, _, _, hrun, wrd_of_own hown' hx.wd hnc (by simpa only [maxLen] using hcm), hbel⟩

theorem wp_append_wrd {w : World} {B g n c : Nat} {A : Option Addr} {xs : List Nat} {o : Oper} {a : Act} {K : Act → World → Prop} {Q : Exit → Act → World → Prop} (s x : Operand)
    (ho : o.op = .call { callee := .builtin .append, args := #[s, x], argTypes := #[22, 22] })
    (hs : a.eval s = .slice (some ⟨g, 0, none⟩) 0 0) (hx : a.eval x = .slice A n c) (hg : w.heap[g]? = some (.cells #[] 47 (0, 0))) (hB : B ≤ g) (hw : Wrd w A n c xs) (hn : n ≤ 4294967296)
    (h : ∀ A' c' w', Wrd w' A' n c' xs → Below B w w' → K (a.put o.dst (.slice A' n c')) w') : o.wp Try.prog a w K Q := by
  obtain ⟨A', c', w', hrun, h2, h3⟩ := run_append_wrd o.type hg hB hw hn
  unfold Oper.wp execOp
  simp only [ho, resolve, invoke, builtin, Sem.run_bind, Sem.run_pure, Result.andThen_ok, List.map_toArray, List.map_cons, List.map_nil, hs, hx, hrun]
  exact h A' c' w' h2 h3
theorem wpList_append_wrd {w : World} {B g n c : Nat} {A : Option Addr} {xs : List Nat} {ops : Array Oper} {rest : List Oper} {o : Oper} {a : Act} {Q : Exit → Act → World → Prop} (hgd : o.guard = none) (s x : Operand)
    (ho : o.op = .call { callee := .builtin .append, args := #[s, x], argTypes := #[22, 22] })
    (hs : a.eval s = .slice (some ⟨g, 0, none⟩) 0 0) (hx : a.eval x = .slice A n c) (hg : w.heap[g]? = some (.cells #[] 47 (0, 0))) (hB : B ≤ g) (hw : Wrd w A n c xs) (hn : n ≤ 4294967296)
    (h : ∀ A' c' w', Wrd w' A' n c' xs → Below B w w' → wpList Try.prog ops Q rest (a.put o.dst (.slice A' n c')) w') : wpList Try.prog ops Q (o :: rest) a w :=
  wpList_plain hgd fun _ hK => wp_append_wrd s x ho hs hx hg hB hw hn fun A' c' w' h2 h3 => hK _ _ (h A' c' w' h2 h3)
theorem step_append_wrd {w : World} {B g n c : Nat} {A : Option Addr} {xs : List Nat} {ops : Array Oper} {o : Oper} {a : Act} {K : Act → World → Prop} {Q : Exit → Act → World → Prop} {E : Prop} (hgd : o.guard = none) (s x : Operand)
    (ho : o.op = .call { callee := .builtin .append, args := #[s, x], argTypes := #[22, 22] })
    (hs : a.eval s = .slice (some ⟨g, 0, none⟩) 0 0) (hx : a.eval x = .slice A n c) (hg : w.heap[g]? = some (.cells #[] 47 (0, 0))) (hB : B ≤ g) (hw : Wrd w A n c xs) (hn : n ≤ 4294967296)
    (h : ∀ A' c' w', Wrd w' A' n c' xs → Below B w w' → K (a.put o.dst (.slice A' n c')) w') : if Region.wanted o (yielded ops a.tmps) = true then Oper.wp Try.prog o a w K Q else E := by
  have hw' : Region.wanted o (yielded ops a.tmps) = true := by simp [Region.wanted, hgd]
  rw [if_pos hw']
  exact wp_append_wrd s x ho hs hx hg hB hw hn h

set_option maxHeartbeats 400000 in
theorem clone_u32 (A : Option Addr) (n c : Nat) (xs : List Nat) (w : World) (hx : Wrd w A n c xs) (hs : n ≤ 4294967296) :
    Calls Try.prog 68 #[.slice A n c] w (RetW (fun zs => zs = xs) w) := by
  obtain ⟨i0, hi, hz0, hz1, hz2⟩ := info_parts Try.infoU32
  have heq := fun (W : World) (a : Option Addr) (l k : Nat) => run_eql_slice_nil (P := Try.prog) W 22 47 a l k Try.underlying22
  have Hx := Lib.hid hx
  clear hx
  rcases A with _ | ad
  · have hc0 := Hx.out.isnil rfl
    have hn0 : n = 0 := by have := Hx.out.cap; omega
    have hxs : [] = xs := (List.eq_nil_of_length_eq_zero (Hx.out.len.trans hn0)).symm
    have Hxs := Lib.hid hxs
    clear hxs
    subst hc0 hn0
    go_enter Try.func68, Try.ntmps68
    go_wp2_with fail
    go_ret
    exact ⟨_, _, _, [], rfl, .nil _, Hxs.out, .refl _ _⟩
  · go_enter Try.func68, Try.ntmps68
    go_wp2_with (at_builtin; refine wpList_append_wrd rfl _ _ rfl rfl rfl (heap_alloc_new w _) (Nat.le_refl _) (Hx.out.alloc _) hs ?_; intro A' c' w1 hw1 hb1)
    go_ret
    exact ⟨_, _, _, xs, rfl, hw1, rfl, ((Below.refl _ _).alloc (Nat.le_refl _) _).trans hb1⟩

end Go.Proofs.Ytdmijpechdaniaa
