namespace Go.Proofs.Ytdmijpechdaniaa

/-- the value of a list of words, lowest first -/
def val : List Nat → Nat
  | [] => 0
  | x :: xs => x + 4294967296 * val xs

def Wd (xs : List Nat) : Prop := ∀ x ∈ xs, x < 4294967296

theorem Wd.nil : Wd [] := by intro x h; cases h
theorem Wd.cons {x : Nat} {xs : List Nat} (h : x < 4294967296) (hs : Wd xs) : Wd (x :: xs) := by
  intro y hy
  rcases List.mem_cons.1 hy with rfl | h'
  · exact h
  · exact hs _ h'
theorem Wd.head {x : Nat} {xs : List Nat} (h : Wd (x :: xs)) : x < 4294967296 := h x (by simp)
theorem Wd.tail {x : Nat} {xs : List Nat} (h : Wd (x :: xs)) : Wd xs := fun y hy => h y (by simp [hy])
theorem Wd.append {xs ys : List Nat} (h : Wd xs) (h' : Wd ys) : Wd (xs ++ ys) := by
  intro y hy
  rcases List.mem_append.1 hy with h1 | h1
  · exact h _ h1
  · exact h' _ h1
theorem Wd.take {xs : List Nat} (h : Wd xs) (n : Nat) : Wd (xs.take n) := fun y hy => h y (List.mem_of_mem_take hy)
theorem Wd.drop {xs : List Nat} (h : Wd xs) (n : Nat) : Wd (xs.drop n) := fun y hy => h y (List.mem_of_mem_drop hy)
theorem Wd.at {xs : List Nat} (h : Wd xs) {i x : Nat} (hi : xs[i]? = some x) : x < 4294967296 := h x (List.mem_of_getElem? hi)
theorem Wd.getD {xs : List Nat} (h : Wd xs) (i : Nat) : xs.getD i 0 < 4294967296 := by
  rw [List.getD_eq_getElem?_getD]
  cases hx : xs[i]? with
  | none => simp
  | some x => simpa using h.at hx

theorem val_append (xs ys : List Nat) : val (xs ++ ys) = val xs + 4294967296 ^ xs.length * val ys := by
  induction xs with
  | nil => simp [val]
  | cons x xs ih => simp only [List.cons_append, val, ih, List.length_cons, Nat.pow_succ]; grind

theorem val_lt {xs : List Nat} (h : Wd xs) : val xs < 4294967296 ^ xs.length := by
  induction xs with
  | nil => simp [val]
  | cons x xs ih =>
    have h1 := ih h.tail
    have h2 := h.head
    simp only [val, List.length_cons, Nat.pow_succ]
    omega

/-- the words of a number, without zeros at the end -/
def digs (n : Nat) : List Nat := if h : n = 0 then [] else n % 4294967296 :: digs (n / 4294967296)
termination_by n
decreasing_by omega

theorem digs_zero : digs 0 = [] := by rw [digs]; simp
theorem digs_pos {n : Nat} (h : n ≠ 0) : digs n = n % 4294967296 :: digs (n / 4294967296) := by rw [digs]; simp [h]

theorem val_digs (n : Nat) : val (digs n) = n := by
  induction n using Nat.strongRecOn with
  | _ n ih =>
    by_cases h : n = 0
    · subst h; rw [digs_zero]; rfl
    · rw [digs_pos h, val, ih _ (by omega)]; omega

theorem Wd_digs (n : Nat) : Wd (digs n) := by
  induction n using Nat.strongRecOn with
  | _ n ih =>
    by_cases h : n = 0
    · subst h; rw [digs_zero]; exact Wd.nil
    · rw [digs_pos h]; exact Wd.cons (by omega) (ih _ (by omega))

theorem digs_eq_nil {n : Nat} : digs n = [] ↔ n = 0 := by
  constructor
  · intro h; have := val_digs n; rw [h] at this; simpa [val] using this.symm
  · rintro rfl; exact digs_zero

/-- a list of words that does not end in zero -/
def Nz (xs : List Nat) : Prop := xs.getLast? ≠ some 0

theorem Nz_digs (n : Nat) : Nz (digs n) := by
  induction n using Nat.strongRecOn with
  | _ n ih =>
    by_cases h : n = 0
    · subst h; rw [digs_zero]; simp [Nz]
    · rw [digs_pos h]
      unfold Nz
      by_cases h2 : n / 4294967296 = 0
      · rw [h2, digs_zero]; simp; omega
      · have h3 := ih _ (show n / 4294967296 < n by omega)
        unfold Nz at h3
        cases hd : digs (n / 4294967296) with
        | nil => exact absurd (digs_eq_nil.1 hd) h2
        | cons a l => rw [hd] at h3; simpa [List.getLast?_cons_cons] using h3

theorem digs_val {xs : List Nat} (h : Wd xs) (hz : Nz xs) : digs (val xs) = xs := by
  induction xs with
  | nil => simp [val, digs_zero]
  | cons x xs ih =>
    have hx := h.head
    have hv : val (x :: xs) ≠ 0 := by
      intro h0
      simp only [val] at h0
      have hx0 : x = 0 := by omega
      have hv0 : val xs = 0 := by omega
      by_cases hn : xs = []
      · subst hn; subst hx0; exact hz rfl
      · have hz' : Nz xs := by
          unfold Nz at hz ⊢
          cases xs with
          | nil => exact absurd rfl hn
          | cons a l => simpa [List.getLast?_cons_cons] using hz
        have := ih h.tail hz'
        rw [hv0, digs_zero] at this
        exact hn this.symm
    have hz' : Nz xs := by
      unfold Nz at hz ⊢
      cases xs with
      | nil => simp
      | cons a l => simpa [List.getLast?_cons_cons] using hz
    rw [digs_pos hv]
    simp only [val]
    have e1 : (x + 4294967296 * val xs) % 4294967296 = x := by omega
    have e2 : (x + 4294967296 * val xs) / 4294967296 = val xs := by omega
    rw [e1, e2, ih h.tail hz']

/-- without zeros at the end -/
def trim (xs : List Nat) : List Nat := digs (val xs)

theorem val_snoc_zero (xs : List Nat) : val (xs ++ [0]) = val xs := by rw [val_append]; simp [val]
theorem trim_snoc_zero (xs : List Nat) : trim (xs ++ [0]) = trim xs := by unfold trim; rw [val_snoc_zero]
theorem trim_of_Nz {xs : List Nat} (h : Wd xs) (hz : Nz xs) : trim xs = xs := digs_val h hz
theorem val_trim (xs : List Nat) : val (trim xs) = val xs := val_digs _
theorem Wd_trim (xs : List Nat) : Wd (trim xs) := Wd_digs _
theorem trim_trim (xs : List Nat) : trim (trim xs) = trim xs := by unfold trim; rw [val_digs]
theorem trim_digs (n : Nat) : trim (digs n) = digs n := by unfold trim; rw [val_digs]

theorem digs_length_le {n k : Nat} (h : n < 4294967296 ^ k) : (digs n).length ≤ k := by
  induction k generalizing n with
  | zero => simp at h; subst h; rw [digs_zero]; simp
  | succ k ih =>
    by_cases h0 : n = 0
    · subst h0; rw [digs_zero]; simp
    · rw [digs_pos h0]
      have : n / 4294967296 < 4294967296 ^ k := by
        rw [Nat.div_lt_iff_lt_mul (by omega)]; rw [Nat.pow_succ] at h; exact h
      have := ih this
      simp; omega
theorem trim_length {xs : List Nat} (h : Wd xs) : (trim xs).length ≤ xs.length := digs_length_le (val_lt h)
theorem lt_of_digs {n k : Nat} (h : (digs n).length ≤ k) : n < 4294967296 ^ k := by
  have h1 := val_lt (Wd_digs n)
  rw [val_digs] at h1
  exact Nat.lt_of_lt_of_le h1 (Nat.pow_le_pow_right (by omega) h)

/-- trim is a prefix -/
theorem trim_prefix {xs : List Nat} (h : Wd xs) : xs.take (trim xs).length = trim xs ∧ ∀ i, (trim xs).length ≤ i → xs.getD i 0 = 0 := by
  induction xs with
  | nil => constructor <;> simp [trim, val, digs_zero]
  | cons x xs ih =>
    obtain ⟨h1, h2⟩ := ih h.tail
    have hx := h.head
    unfold trim at *
    simp only [val]
    by_cases h0 : x + 4294967296 * val xs = 0
    · have e1 : x = 0 := by omega
      have e2 : val xs = 0 := by omega
      rw [h0, digs_zero]
      rw [e2, digs_zero] at h2
      refine ⟨rfl, fun i _ => ?_⟩
      cases i with
      | zero => simpa using e1
      | succ i => simpa using h2 i (by simp)
    · rw [digs_pos h0]
      have e1 : (x + 4294967296 * val xs) % 4294967296 = x := by omega
      have e2 : (x + 4294967296 * val xs) / 4294967296 = val xs := by omega
      rw [e1, e2]
      refine ⟨by simp [h1], fun i hi => ?_⟩
      cases i with
      | zero => simp at hi
      | succ i => simpa using h2 i (by simpa using hi)

end Go.Proofs.Ytdmijpechdaniaa
