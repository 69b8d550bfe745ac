/- Integers as plain data; the proved contracts of the integer functions as contracts over plain data. -/
import Derived.Test.YtmpadildchphgaaGreatDoorSAm
import Derived.Test.YtmpadildchphgaaGreatDoorSDivZero
import Derived.Test.YtmpadildchphgaaGreatDoorSDivAll
import Derived.KernelRfl
import Derived.IntWalk
namespace Go.Proofs.YtmpadildchphgaaGreatDoor
open Go.RowKit
def aW (xs : List Nat) : AV := .sl xs.length (xs.map fun x : Nat => AV.val (W32 x))
def aI (na : Bool) (xs : List Nat) : List AV := [.val (.bool na), aW xs]
def aZ (z : Int) : List AV := aI (decide (z < 0)) (digs z.natAbs)
def dI (na : Bool) (xs : List Nat) : DV := .agg (aI na xs)
def dZ (z : Int) : DV := .agg (aZ z)
def dB (b : Bool) : DV := .leaf (.val (.bool b))
def dN (k : IntKind) (n : Int) : DV := .leaf (.val (.int k n))
theorem tv_i64 {a b : Int} (h : a = b) (h1 : -9223372036854775808 ≤ a ∧ a ≤ 9223372036854775807) : TV.d (.leaf (.val (.int .i64 (IntKind.i64.wrap a)))) = TV.d (dN .i64 b) := by
  subst h
  rw [IntWalk.i64_in _ h1]
  rfl
def dS (s : ByteArray) : DV := .leaf (.val (.string s))
section
variable {S : Nat → Prop} {w w' : World}
theorem NoWord.grow (h : NoWord S w) (hb : Below w.heap.size w w') : NoWord S w' := ⟨h.1.mono hb rfl, fun b hS => by
  obtain ⟨h1, h2⟩ := h.2 b hS
  exact ⟨Nat.lt_of_lt_of_le h1 hb.size, fun off v hv => h2 off v (by rw [hb.cell (p := ⟨b, off, none⟩) h1] at hv; exact hv)⟩, fun k cs hk => (h.gl k cs hk).agree (.of_below hb) (fun _ _ h => h) (Foll.same hb rfl)⟩
theorem aW_of (h : NoWord S w) {A : Option Addr} {n c : Nat} {xs : List Nat} (hx : Wrd w A n c xs) : AV.M S w (aW xs) (.slice A n c) := by
  unfold aW
  rw [hx.len]
  rcases hx.cells with h0 | ⟨b, off, rfl, hc⟩
  · have : xs = [] := by simpa using h0
    subst this
    exact .emp hx.cap hx.lim hx.isnil
  · cases xs with
    | nil => exact .emp hx.cap hx.lim hx.isnil
    | cons x xs =>
      have h1 := hc 0 (W32 x) rfl
      have hb : b < w.heap.size := World.block_lt_of_cell? w _ h1
      refine AV.M.sl (fun i => W32 ((x :: xs).getD i 0)) hx.cap hx.lim (fun hS => ?_) hb (fun i a hi => ?_) (fun i a hi => ?_)
      · have := (h.2 b hS).2 _ _ h1
        cases this
      · have hi' : i < (x :: xs).length := by have := (List.getElem?_eq_some_iff.1 hi).1; simpa using this
        exact hc i _ (by rw [List.getElem?_map, List.getElem?_eq_getElem hi', List.getD_eq_getElem?_getD, List.getElem?_eq_getElem hi']; rfl)
      · have hi' : i < (x :: xs).length := by have := (List.getElem?_eq_some_iff.1 hi).1; simpa using this
        have e : a = .val (W32 ((x :: xs).getD i 0)) := by
          rw [List.getElem?_map, List.getElem?_eq_getElem hi'] at hi
          rw [List.getD_eq_getElem?_getD, List.getElem?_eq_getElem hi']
          exact (Option.some.inj hi).symm
        rw [e]
        exact .val rfl
theorem wrd_of {v : Value} {xs : List Nat} (h : AV.M S w (aW xs) v) (hw : Wd xs) : ∃ A n c, v = .slice A n c ∧ Wrd w A n c xs := by
  unfold aW at h
  generalize hcs : (xs.map fun x : Nat => AV.val (W32 x)) = cs at h
  cases h with
  | emp h1 h2 h3 =>
    have : xs = [] := by simpa using hcs
    subst this
    exact ⟨_, _, _, rfl, rfl, h1, h2, hw, .nil _ _, h3⟩
  | sl f h1 h2 h3 h4 h5 h6 =>
    rename_i b off c
    refine ⟨_, _, _, rfl, rfl, h1, h2, hw, .inr ⟨b, off, rfl, fun i u hu => ?_⟩, fun e => by cases e⟩
    rw [List.getElem?_map] at hu
    cases hx : xs[i]? with
    | none => rw [hx] at hu; cases hu
    | some x =>
      rw [hx] at hu
      simp only [Option.map_some, Option.some.injEq] at hu
      have hc : cs[i]? = some (AV.val (W32 x)) := by rw [← hcs]; simp [hx]
      have := h6 i _ hc
      rw [h5 i _ hc, ← hu, av_val this]
theorem dI_of (h : NoWord S w) {v : Value} {na : Bool} {xs : List Nat} (hv : IntR w v na xs) : DV.M S w (dI na xs) v := by
  obtain ⟨A, n, c, rfl, hx⟩ := hv
  exact ⟨[.bool na, .slice A n c], rfl, CM.cons (.val rfl) (CM.cons (aW_of h hx) (CM.nil _ _))⟩
theorem intR_of {v : Value} {na : Bool} {xs : List Nat} (h : DV.M S w (dI na xs) v) (hw : Wd xs) : IntR w v na xs := by
  obtain ⟨vs, rfl, hl, hc⟩ := h
  match vs, hl with
  | [u, u'], _ =>
    have h0 := hc 0 _ u rfl rfl
    have h1 := hc 1 _ u' rfl rfl
    obtain rfl := av_val h0
    obtain ⟨A, n, c, rfl, hx⟩ := wrd_of h1 hw
    exact ⟨A, n, c, rfl, hx⟩
theorem dZ_of (h : NoWord S w) {v : Value} {z : Int} (hv : IntV w v z) : DV.M S w (dZ z) v := dI_of h hv
end
theorem enter_of {P : Program} {f : FuncId} {fn : Func} (hf : P.funcs[f]? = some fn) (hn : (fn.name == "runtime.NumGoroutine") = false) (hb : fn.body.isSome = true) : ∀ args w, (callFunc f args).run P w = .ok (.enter f args) w := by
  intro args w
  obtain ⟨c, hc⟩ := Option.isSome_iff_exists.1 hb
  have hn' : ¬ fn.name = "runtime.NumGoroutine" := by simpa using hn
  simp [callFunc, Sem.run_bind, hf, hn', hc]
section
variable {f : FuncId} {P : Program}
theorem ok1 (he : ∀ args w, (callFunc f args).run P w = .ok (.enter f args) w) {na : Bool} {xs : List Nat} (hw : Wd xs) {r : RV} {R : World → Ending → World → Prop} (h : ∀ v w, IntR w v na xs → Calls P f #[v] w (R w)) (hR : ∀ S w e w', NoWord S w → R w e w' → RetA S r w e w') : CallOK P f [dI na xs] r :=
  ⟨he, fun S w vs hS hv => by
    match vs, hv with
    | [v], ⟨h1, _⟩ => exact (h v w (intR_of h1 hw)).mono fun e w' he => hR S w e w' hS he⟩
theorem ok2 (he : ∀ args w, (callFunc f args).run P w = .ok (.enter f args) w) {na nb : Bool} {xs ys : List Nat} (hw : Wd xs) (hw' : Wd ys) {r : RV} {R : World → Ending → World → Prop} (h : ∀ v u w, IntR w v na xs → IntR w u nb ys → Calls P f #[v, u] w (R w)) (hR : ∀ S w e w', NoWord S w → R w e w' → RetA S r w e w') : CallOK P f [dI na xs, dI nb ys] r :=
  ⟨he, fun S w vs hS hv => by
    match vs, hv with
    | [v, u], ⟨h1, h2, _⟩ => exact (h v u w (intR_of h1 hw) (intR_of h2 hw')).mono fun e w' he => hR S w e w' hS he⟩
end
section
variable {S : Nat → Prop} {w w' : World} {e : Ending}
theorem retA_int {z : Int} (h : NoWord S w) (hr : RetInt z w e w') : RetA S (.one (dZ z)) w e w' := by
  obtain ⟨v, rfl, hv, hb⟩ := hr
  exact ⟨v, rfl, dZ_of (h.grow hb) hv, hb⟩
theorem retA_B {b : Bool} (hr : RetB b w e w') : RetA S (.one (dB b)) w e w' := by
  obtain ⟨rfl, hb⟩ := hr
  exact ⟨_, rfl, AV.M.val rfl, hb⟩
theorem retA_DM {q r n : Int} (h : NoWord S w) (hr : ∃ v1 v2, e = .returned (.tuple #[v1, v2, .int .i64 n]) ∧ IntV w' v1 q ∧ IntV w' v2 r ∧ Below w.heap.size w w') : RetA S (.tup [dZ q, dZ r, dN .i64 n]) w e w' := by
  obtain ⟨v1, v2, rfl, hv1, hv2, hb⟩ := hr
  refine ⟨_, rfl, ⟨[v1, v2, .int .i64 n], rfl, rfl, fun i x u h1 h2 => ?_⟩, hb⟩
  match i with
  | 0 => simp at h1 h2; subst h1 h2; exact dZ_of (h.grow hb) hv1
  | 1 => simp at h1 h2; subst h1 h2; exact dZ_of (h.grow hb) hv2
  | 2 => simp at h1 h2; subst h1 h2; exact AV.M.val rfl
  | i + 3 => simp at h1
end
def tys : List (Nat × Ty) :=
  [
   (3, ⟨false, 1, 8, [.val (.int .i64 0)], [], none, false, false, some .i64⟩),
   (24, ⟨true, 2, 32, [.val (.bool false), .sl 0 []], [(0, 1, false), (1, 1, false)], none, false, false, none⟩),
   (22, ⟨false, 1, 24, [.sl 0 []], [], some (92, 1), false, false, none⟩),
   (92, ⟨false, 1, 4, [.val (.int .u32 0)], [], none, false, false, some .u32⟩),
   (31, ⟨false, 1, 8, [.val (.int .i64 0)], [], none, false, false, some .i64⟩),
   (9, ⟨false, 1, 16, [.val (.string ByteArray.empty)], [], none, false, true, none⟩),
   (5, ⟨false, 1, 1, [.val (.int .u8 0)], [], none, false, false, some .u8⟩),
   (2, ⟨false, 1, 8, [.val (.int .i64 0)], [], none, false, false, some .i64⟩),
   (98, ⟨false, 1, 8, [.val (.int .u64 0)], [], none, false, false, some .u64⟩),
   (95, ⟨false, 1, 24, [.sl 0 []], [], some (5, 1), false, false, none⟩),
   (26, ⟨true, 4, 64, [.val (.bool false), .sl 0 [], .val (.bool false), .sl 0 []], [(0, 2, true), (2, 2, true)], none, false, false, none⟩),
   (28, ⟨true, 5, 72, [.val (.bool false), .sl 0 [], .val (.bool false), .sl 0 [], .val (.int .i64 0)], [(0, 4, true), (4, 1, false)], none, false, false, none⟩),
   (40, ⟨false, 1, 24, [.sl 0 []], [], some (28, 5), false, false, none⟩),
   (39, ⟨false, 1, 24, [.sl 0 []], [], some (9, 1), false, false, none⟩),
   (38, ⟨true, 7, 112, [.val (.int .i64 0), .val (.bool false), .sl 0 [], .val (.bool false), .sl 0 [], .val (.string ByteArray.empty), .sl 0 []], [(0, 1, false), (1, 4, true), (5, 1, false), (6, 1, false)], none, false, false, none⟩),
   (36, ⟨false, 1, 24, [.sl 0 []], [], some (38, 7), false, false, none⟩),
   (82, ⟨true, 3, 32, [.val (.string ByteArray.empty), .val (.int .i64 0), .val (.int .i64 0)], [(0, 1, false), (1, 1, false), (2, 1, false)], none, false, false, none⟩),
   (81, ⟨false, 1, 24, [.sl 0 []], [], some (82, 3), false, false, none⟩),
   (42, ⟨true, 2, 48, [.sl 0 [], .sl 0 []], [(0, 1, false), (1, 1, false)], none, false, false, none⟩),
   (89, ⟨false, 1, 8, [.val (.int .u64 0)], [], none, false, false, some .u64⟩),
   (4, ⟨false, 1, 1, [.val (.bool false)], [], none, true, false, none⟩)]
def TT : TypeId → Option Ty := look tys
theorem tys_ok : tys.map (fun p => tyOf Tryz.prog p.1) = tys.map (fun p => some p.2) := by kernel_rfl
theorem TT_ok : ∀ t d, TT t = some d → TyOK Tryz.prog t d := by
  have h : ∀ (l : List (Nat × Ty)), l.map (fun p => tyOf Tryz.prog p.1) = l.map (fun p => some p.2) → ∀ t d, look l t = some d → TyOK Tryz.prog t d := by
    intro l
    induction l with
    | nil => intro _ t d hd; cases hd
    | cons p l ih =>
      obtain ⟨k, x⟩ := p
      intro he t d hd
      simp only [List.map_cons, List.cons.injEq] at he
      by_cases e : k = t
      · subst e
        rw [look_same] at hd
        cases hd
        exact tyOf_ok he.1
      · rw [look_ne _ _ e] at hd
        exact ih he.2 t d hd
  exact h tys tys_ok
theorem mixT : Tryz.prog.follows .mixedOrders = true := by kernel_rfl
end Go.Proofs.YtmpadildchphgaaGreatDoor
