/- A region that draws its order, as a set of facts: each operation is shown once, from the facts of those that it waits for. -/
import Derived.Test.YtdmijpechdaniaaHeldK
namespace Go.Proofs.Ytdmijpechdaniaa
open Go.RowKit

/-- the frame with the named slots filled from x -/
def puts (a : Act) : List Tmp → (Tmp → Value) → Act
  | [], _ => a
  | s :: ss, x => puts (a.put (some s) (x s)) ss x
/-- one slot turned -/
def upd (x : Tmp → Value) (s : Tmp) (v : Value) : Tmp → Value := fun k => if k = s then v else x k
theorem upd_same (x : Tmp → Value) (s : Tmp) (v : Value) : upd x s v s = v := by simp [upd]
theorem upd_far (x : Tmp → Value) {s k : Tmp} (v : Value) (h : k ≠ s) : upd x s v k = x k := by simp [upd, h]

theorem getD_set_same {l : Array Bool} {i : Nat} (h : i < l.size) : (l.setIfInBounds i true).getD i false = true := by
  simp [h]
theorem getD_set_other {l : Array Bool} {i k : Nat} (b : Bool) (h : i ≠ k) : (l.setIfInBounds i true).getD k b = l.getD k b := by
  simp [h]

section
variable {P : Program} {Q : Exit → Act → World → Prop} {id : Nat} {a : Act} {w : World}

/-- what is known when the listed ones have come up -/
def RegJ (ops : Array Oper) (a : Act) (slots : List Tmp) (F : Nat → (Tmp → Value) → World → Prop) (B : (Tmp → Value) → World → Prop) (listed : Array Bool) (a' : Act) (w' : World) : Prop :=
  (∀ k o, listed.getD k false = true → ops[k]? = some o → ∀ e ∈ o.after, Region.binds .any e = true → listed.getD e.on false = true) ∧ ∃ x, a' = puts a slots x ∧ B x w' ∧ ∀ k, listed.getD k false = true → F k x w'

/-- operation k waits for operation i -/
def waits (ops : Array Oper) (k i : Nat) : Bool := match ops.toList[k]? with | some o => o.after.toList.any fun e => Region.binds .any e && e.on == i | none => false
/-- the way back into the region, closed to the walk -/
def Way (ops : Array Oper) (F : Nat → (Tmp → Value) → World → Prop) (B : (Tmp → Value) → World → Prop) (a : Act) (slots : List Tmp) (i : Nat) (x : Tmp → Value) (w : World) (K : Act → World → Prop) : Prop :=
  ∀ a' w' x', a' = puts a slots x' → B x' w' → F i x' w' → (∀ k, k ≠ i → k < ops.size → waits ops k i = false → F k x w → F k x' w') → K a' w'
/-- what is known of the operations that one waits for -/
def Known (o : Oper) (F : Nat → (Tmp → Value) → World → Prop) (x : Tmp → Value) (w : World) : Prop := ∀ j ∈ (o.after.toList.filter (Region.binds .any)).map (·.on), F j x w
/-- a goal that no tactic looks into till it is opened -/
structure Veil (p : Prop) : Prop where
  out : p
def Step (P : Program) (ops : Array Oper) (Q : Exit → Act → World → Prop) (a : Act) (slots : List Tmp) (F : Nat → (Tmp → Value) → World → Prop) (B : (Tmp → Value) → World → Prop) (o : Oper) (i : Nat) : Prop :=
  ∀ x w, B x w → Known o F x w → ∀ K, Way ops F B a slots i x w K →
    Veil (if Region.wanted o (yielded ops (puts a slots x).tmps) = true then Oper.wp P o (puts a slots x) w K Q else K ((puts a slots x).put o.dst undef) w)
def Steps (P : Program) (ops : Array Oper) (Q : Exit → Act → World → Prop) (a : Act) (slots : List Tmp) (F : Nat → (Tmp → Value) → World → Prop) (B : (Tmp → Value) → World → Prop) : List Oper → Nat → Prop
  | [], _ => True
  | o :: os, i => Step P ops Q a slots F B o i ∧ Steps P ops Q a slots F B os (i + 1)

theorem Steps.at {ops : Array Oper} {slots : List Tmp} {F : Nat → (Tmp → Value) → World → Prop} {B : (Tmp → Value) → World → Prop} :
    ∀ (os : List Oper) (n i : Nat) (o : Oper), Steps P ops Q a slots F B os n → os[i]? = some o → Step P ops Q a slots F B o (n + i)
  | [], _, _, _, _, h => by simp at h
  | o' :: os, n, 0, o, hs, h => by simp at h; subst h; exact hs.1
  | o' :: os, n, i + 1, o, hs, h => by
    have := Steps.at os (n + 1) i o hs.2 (by simpa using h)
    rwa [show n + (i + 1) = n + 1 + i by omega]

/-- every operation waits for earlier ones alone -/
def topo (ops : Array Oper) : Bool := (List.range ops.size).all fun i => match ops[i]? with | some o => o.after.all fun e => !Region.binds .any e || decide (e.on < i) | none => true

theorem all_of_ready {ops : Array Oper} {listed : Array Bool} (ht : topo ops = true) (hl : listed.size = ops.size) (hr : Region.ready .any ops listed = []) : ∀ k, k < ops.size → listed.getD k false = true := by
  intro k
  induction k using Nat.strongRecOn with
  | _ k ih =>
    intro hk
    cases h : listed.getD k false with
    | true => rfl
    | false =>
      exfalso
      have hm : k ∈ Region.ready .any ops listed := by
        refine mem_ready.2 ⟨?_, ops[k], by simp [hk], fun e he hb => ?_⟩
        · have hk' : k < listed.size := by omega
          simp [hk'] at h ⊢
          exact h
        · unfold topo at ht
          rw [List.all_eq_true] at ht
          have h1 := ht k (List.mem_range.2 hk)
          rw [show ops[k]? = some ops[k] by simp [hk]] at h1
          simp only [Array.all_eq_true_iff_forall_mem] at h1
          have h2 := h1 e he
          rw [hb] at h2
          simp only [Bool.not_true, Bool.false_or, decide_eq_true_eq] at h2
          exact ih e.on h2 (by omega)
      rw [hr] at hm
      cases hm

theorem wpAny_facts {ops : Array Oper} {slots : List Tmp} {F : Nat → (Tmp → Value) → World → Prop} {B : (Tmp → Value) → World → Prop} (ht : topo ops = true)
    (hs : Steps P ops Q a slots F B ops.toList 0)
    (hE : ∀ x w', B x w' → (∀ k, k < ops.size → F k x w') → Q .normal (puts a slots x) w') :
    ∀ (fuel : Nat) (listed : Array Bool) (a' : Act) (w' : World), listed.size = ops.size → listed.toList.count false ≤ fuel → RegJ ops a slots F B listed a' w' → wpAny P .any ops Q fuel listed a' w' := by
  intro fuel
  have fin : ∀ (listed : Array Bool) (a' : Act) (w' : World), listed.size = ops.size → RegJ ops a slots F B listed a' w' → Region.ready .any ops listed = [] → Q .normal a' w' := by
    intro listed a' w' hl hJ hr
    obtain ⟨_, x, rfl, hB, hF⟩ := hJ
    exact hE x w' hB (fun k hk => hF k (all_of_ready ht hl hr k hk))
  induction fuel with
  | zero =>
    intro listed a' w' hl hc hJ
    have hr : Region.ready .any ops listed = [] := by
      rw [List.eq_nil_iff_forall_not_mem]
      intro j hj
      obtain ⟨h1, o, ho, _⟩ := mem_ready.1 hj
      have hjl : j < listed.size := by
        have := (Array.getElem?_eq_some_iff.1 ho).1
        omega
      have h0 : listed.toList.count false = 0 := by omega
      rw [List.count_eq_zero] at h0
      apply h0
      simp [hjl] at h1
      rw [← h1]
      simp
    exact ⟨hr, fin listed a' w' hl hJ hr⟩
  | succ fuel ih =>
    intro listed a' w' hl hc hJ
    refine ⟨fin listed a' w' hl hJ, fun i hi => ?_⟩
    obtain ⟨h1, o, ho, hall⟩ := mem_ready.1 hi
    have hio : i < ops.size := (Array.getElem?_eq_some_iff.1 ho).1
    have hil : i < listed.size := by omega
    obtain ⟨hdc, x, rfl, hB, hF⟩ := hJ
    have hst := Steps.at ops.toList 0 i o hs (by simpa using ho)
    rw [Nat.zero_add] at hst
    refine wpOp_step ho (fun K' hK => ?_)
    refine (hst x w' hB ?_ K' ?_).out
    · intro j hj
      simp only [List.mem_map, List.mem_filter, Array.mem_toList_iff] at hj
      obtain ⟨e, ⟨he, hb⟩, rfl⟩ := hj
      exact hF _ (hall e he hb)
    · intro a2 w2 x2 ha hB2 hFi hk
      have hfi : listed.getD i false = false := by simpa [hil] using h1
      refine hK a2 w2 (ih _ a2 w2 (by simp [hl]) ?_ ⟨fun k ok hk2 hok e he hb => ?_, x2, ha, hB2, fun k hk2 => ?_⟩)
      · have hf : listed[i] = false := by simpa [hil] using h1
        have : (listed.setIfInBounds i true).toList.count false + 1 = listed.toList.count false := by
          rw [Array.toList_setIfInBounds, List.count_set (by simpa using hil)]
          have hpos : 0 < listed.toList.count false := List.count_pos_iff.2 (by rw [← hf]; simp)
          rw [Array.getElem_toList, hf]
          simp only [beq_self_eq_true, if_true]
          rw [if_neg (by decide)]
          omega
        omega
      · by_cases hei : e.on = i
        · rw [hei]; exact getD_set_same hil
        · rw [getD_set_other _ (fun e => hei e.symm)]
          by_cases hki : k = i
          · subst hki
            rw [ho] at hok
            cases hok
            exact hall e he hb
          · rw [getD_set_other _ (fun e => hki e.symm)] at hk2
            exact hdc k ok hk2 hok e he hb
      · by_cases hki : k = i
        · subst hki; exact hFi
        · rw [getD_set_other _ (fun e => hki e.symm)] at hk2
          have hks : k < ops.size := by
            rcases Nat.lt_or_ge k listed.size with h | h
            · omega
            · simp [Nat.not_lt.2 h] at hk2
          refine hk k hki hks ?_ (hF k hk2)
          cases hw : waits ops k i with
          | false => rfl
          | true =>
            exfalso
            unfold waits at hw
            rw [show ops.toList[k]? = some ops[k] by simp [hks]] at hw
            simp only [List.any_eq_true, Bool.and_eq_true, beq_iff_eq] at hw
            obtain ⟨e, he, hb, heq⟩ := hw
            have := hdc k ops[k] hk2 (by simp [hks]) e (by simpa using he) hb
            rw [heq, hfi] at this
            cases this

theorem put_self (a : Act) (s : Tmp) : a.put (some s) (a.tmps.getD s undef) = a := by
  unfold Act.put
  have : a.tmps.setIfInBounds s (a.tmps.getD s undef) = a.tmps := by
    apply Array.ext'
    rw [Array.toList_setIfInBounds]
    apply List.ext_getElem?
    intro k
    rw [List.getElem?_set]
    split
    · rename_i e
      subst e
      split
      · rename_i h
        have h' : s < a.tmps.size := by simpa using h
        simp [h']
      · rename_i h
        have h' : ¬ s < a.tmps.size := by simpa using h
        simp [h']
    · rfl
  show { a with tmps := a.tmps.setIfInBounds s (a.tmps.getD s undef) } = a
  rw [this]
/-- what the slots hold at the beginning -/
def held (a : Act) : Tmp → Value := fun k => a.tmps.getD k undef
theorem puts_self (a : Act) : ∀ (slots : List Tmp), a = puts a slots (held a)
  | [] => rfl
  | s :: ss => by
    unfold puts
    rw [show a.put (some s) (held a s) = a from put_self a s]
    exact puts_self a ss

/-- **a region that draws its order**: F k: what operation k leaves; B: what holds throughout; x: what the slots hold -/
theorem region_facts {ops : Array Oper} (hm : P.follows .mixedOrders = true) (ht : topo ops = true) (slots : List Tmp) (F : Nat → (Tmp → Value) → World → Prop) (B : (Tmp → Value) → World → Prop)
    (x0 : Tmp → Value) (h0 : a = puts a slots x0) (hB : B x0 w.drew)
    (hs : Steps P ops Q a slots F B ops.toList 0)
    (hE : ∀ x w', B x w' → (∀ k, k < ops.size → F k x w') → Q .normal (puts a slots x) w') : (Code.region id ops true).wp P Q a w := by
  have no : ∀ k, (Array.replicate ops.size false).getD k false = true → False := by
    intro k hk
    rcases Nat.lt_or_ge k ops.size with h | h
    · simp [h] at hk
    · simp [Nat.not_lt.2 h] at hk
  refine wp_region_any hm (wpAny_facts ht hs hE _ _ _ _ (by simp) ?_ ⟨fun k o hk _ => (no k hk).elim, x0, h0, hB, fun k hk => (no k hk).elim⟩)
  rw [Array.toList_replicate, List.count_replicate]; simp
end

end Go.Proofs.Ytdmijpechdaniaa
