/- What a tied card's condition gives: the laid tables. -/
import Derived.Test.YtecjnnhkbmkemaaGreatDoorPLaw
import Derived.Test.YtecjnnhkbmkemaaGreatDoorPAmL1
import Derived.Test.YtecjnnhkbmkemaaGreatDoorTie
import Derived.Test.YtecjnnhkbmkemaaGreatDoorCards
import Derived.LaidMore
import Derived.Lay
import Derived.Stop.Joined
import Derived.SevenTiedAt
namespace Go.Proofs.YtecjnnhkbmkemaaGreatDoor
open Go.ChangeShapes Go.WideShapes Go.ChangeAt Go.RowKit Go.Joins
theorem laidVars_mem {P : Program} {W : World} {name : String} {d : DataW Unit} : ∀ {laid : List (String × DataW Unit)} {ps : List MemPlace}, DataW.LaidVars P W laid ps → (name, d) ∈ laid →
    ∃ g t cs fuel p, P.globalNamed name = some g ∧ (P.globals[g]?).map (·.type) = some t ∧ W.var? P name = some cs ∧ DataW.trod (fun _ => ()) P W 0 (fun _ => true) false fuel t cs.toList = some (d, p)
  | [], _, _, h => by cases h
  | (n, d') :: rest, ps, h, hm => by
    obtain ⟨g, t, cs, fuel, p, q, h1, h2, h3, h4, h5, _⟩ := h
    rcases List.mem_cons.1 hm with e | e
    · cases e
      exact ⟨g, t, cs, fuel, p, h1, h2, h3, h4⟩
    · exact laidVars_mem h5 e
theorem cells_u64 : Tryz.prog.cellsOf 65 = 1 := by kernel_rfl
theorem pow10_g : Tryz.prog.globalNamed "internal/strconv.uint64pow10" = some 0 := by kernel_rfl
theorem pow10_t : (Tryz.prog.globals[0]?).map (·.type) = some 151 := by kernel_rfl
theorem pow10_c : Tryz.prog.cellsOf 151 = 20 := by kernel_rfl
theorem tabs_of {laid : List (String × DataW Unit)} (hp : (laid.all fun x => x.2.handleName?.isNone) = true) (hm : ("internal/strconv.uint64pow10", Rows.laid_internal_strconv_uint64pow10) ∈ laid) {W : World} (h : laidMetH Tryz.prog laid W) : NoWord (fun _ => False) W := by
  rw [MakeChecks.laidMetH_plain _ _ _ hp] at h
  obtain ⟨ps, hv, _⟩ := h
  obtain ⟨g, t, cs, fuel, p, h1, h2, h3, h4⟩ := laidVars_mem hv hm
  obtain rfl := Option.some.inj (pow10_g.symm.trans h1)
  obtain rfl := Option.some.inj (pow10_t.symm.trans h2)
  have hd : (Rows.laid_internal_strconv_uint64pow10 : DataW Unit) = Lib.tabData .u64 Lib.pow10Tab := rfl
  rw [hd] at h4
  have ht : Lib.TabIs Tryz.prog W "internal/strconv.uint64pow10" .u64 Lib.pow10Tab := by
    unfold Lib.TabIs
    rw [h3, ← Lib.cells_of_tab Tryz.underlying151 Tryz.underlying65 cells_u64 pow10_c h4]
  exact ⟨Lib.tabBelow_of_tabIs ht, fun _ h => h.elim, fun k cs h => by cases h⟩
end Go.Proofs.YtecjnnhkbmkemaaGreatDoor
