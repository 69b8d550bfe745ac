/- Parts of a proof: contracts of the functions that the laws reach. -/
import Derived.Test.YtmpadildchphgaaGreatDoorEAmI
import Derived.Test.YtmpadildchphgaaGreatDoorELSqrt
import Derived.Test.YtmpadildchphgaaGreatDoorEAh
import Derived.Test.YtmpadildchphgaaGreatDoorELaw
import Derived.Laws.BytesArg
import Derived.Laws.Strings2
import Derived.Laws.IdiomStrings
import Derived.Lib.ItoaNum
namespace Go.Proofs.YtmpadildchphgaaGreatDoor
open Go.RowKit
def Fit (xs : List Nat) : Prop := xs.length ≤ 2147483648
def FitZ (z : Int) : Prop := (digs z.natAbs).length ≤ 2147483648
theorem FitZ.of_lt {z : Int} {k : Nat} (h : z.natAbs < 4294967296 ^ k) (hk : k ≤ 2147483648) : FitZ z := Nat.le_trans (digs_length_le h) hk
theorem FitZ.small {z : Int} (h : z.natAbs < 4294967296) : FitZ z := .of_lt (k := 1) (by simpa using h) (by decide)
theorem ok_i_Add {na nb : Bool} {xs ys : List Nat} (hw : Wd xs) (hw' : Wd ys) (h1 : Fit xs) (h2 : Fit ys) {z : Int} (hz : toZ na xs + toZ nb ys = z) : CallOK Tryz.prog 71 [dI na xs, dI nb ys] (.one (dZ z)) :=
  ok2 (enter_of Tryz.func71 rfl rfl) hw hw' (fun v u w h k => by have := i_Add v u na nb xs ys w h k h1 h2; rwa [hz] at this) (fun _ _ _ _ hS h => retA_int hS h)
theorem okz_i_Add {a b : Int} (h1 : FitZ a) (h2 : FitZ b) : CallOK Tryz.prog 71 [dZ a, dZ b] (.one (dZ (a + b))) := ok_i_Add (Wd_digs _) (Wd_digs _) h1 h2 (by rw [toZ_int, toZ_int])
theorem ok_i_Mul {na nb : Bool} {xs ys : List Nat} (hw : Wd xs) (hw' : Wd ys) (h1 : Fit xs) (h2 : Fit ys) {z : Int} (hz : toZ na xs * toZ nb ys = z) : CallOK Tryz.prog 73 [dI na xs, dI nb ys] (.one (dZ z)) :=
  ok2 (enter_of Tryz.func73 rfl rfl) hw hw' (fun v u w h k => by have := i_Mul v u na nb xs ys w h k h1 h2; rwa [hz] at this) (fun _ _ _ _ hS h => retA_int hS h)
theorem okz_i_Mul {a b : Int} (h1 : FitZ a) (h2 : FitZ b) : CallOK Tryz.prog 73 [dZ a, dZ b] (.one (dZ (a * b))) := ok_i_Mul (Wd_digs _) (Wd_digs _) h1 h2 (by rw [toZ_int, toZ_int])
theorem ok_r1_Add {na nb : Bool} {xs ys : List Nat} (hw : Wd xs) (hw' : Wd ys) (h1 : Fit xs) (h2 : Fit ys) {z : Int} (hz : toZ na xs + toZ nb ys = z) : CallOK Tryz.prog 76 [dI na xs, dI nb ys] (.one (dZ z)) :=
  ok2 (enter_of Tryz.func76 rfl rfl) hw hw' (fun v u w h k => by have := r1_Add v u na nb xs ys w h k h1 h2; rwa [hz] at this) (fun _ _ _ _ hS h => retA_int hS h)
theorem okz_r1_Add {a b : Int} (h1 : FitZ a) (h2 : FitZ b) : CallOK Tryz.prog 76 [dZ a, dZ b] (.one (dZ (a + b))) := ok_r1_Add (Wd_digs _) (Wd_digs _) h1 h2 (by rw [toZ_int, toZ_int])
theorem ok_r1_Mul {na nb : Bool} {xs ys : List Nat} (hw : Wd xs) (hw' : Wd ys) (h1 : Fit xs) (h2 : Fit ys) {z : Int} (hz : toZ na xs * toZ nb ys = z) : CallOK Tryz.prog 78 [dI na xs, dI nb ys] (.one (dZ z)) :=
  ok2 (enter_of Tryz.func78 rfl rfl) hw hw' (fun v u w h k => by have := r1_Mul v u na nb xs ys w h k h1 h2; rwa [hz] at this) (fun _ _ _ _ hS h => retA_int hS h)
theorem okz_r1_Mul {a b : Int} (h1 : FitZ a) (h2 : FitZ b) : CallOK Tryz.prog 78 [dZ a, dZ b] (.one (dZ (a * b))) := ok_r1_Mul (Wd_digs _) (Wd_digs _) h1 h2 (by rw [toZ_int, toZ_int])
theorem ok_i_Norm {na : Bool} {xs : List Nat} (hw : Wd xs) (h1 : Fit xs) {z : Int} (hz :  (toZ na xs) = z) : CallOK Tryz.prog 126 [dI na xs] (.one (dZ z)) :=
  ok1 (enter_of Tryz.func126 rfl rfl) hw (fun v w h => by have := i_Norm v na xs w h h1; rwa [hz] at this) (fun _ _ _ _ hS h => retA_int hS h)
theorem ok_i_Neg {na : Bool} {xs : List Nat} (hw : Wd xs) (h1 : Fit xs) {z : Int} (hz : - (toZ na xs) = z) : CallOK Tryz.prog 105 [dI na xs] (.one (dZ z)) :=
  ok1 (enter_of Tryz.func105 rfl rfl) hw (fun v w h => by have := i_Neg v na xs w h h1; rwa [hz] at this) (fun _ _ _ _ hS h => retA_int hS h)
theorem okz_i_Neg {a : Int} (h1 : FitZ a) : CallOK Tryz.prog 105 [dZ a] (.one (dZ (- a))) := ok_i_Neg (Wd_digs _) h1 (by rw [toZ_int])
theorem ok_r1_Norm {na : Bool} {xs : List Nat} (hw : Wd xs) {z : Int} (hz :  (toZ na xs) = z) : CallOK Tryz.prog 91 [dI na xs] (.one (dZ z)) :=
  ok1 (enter_of Tryz.func91 rfl rfl) hw (fun v w h => by have := r1_Norm v na xs w h; rwa [hz] at this) (fun _ _ _ _ hS h => retA_int hS h)
theorem ok_r1_Neg {na : Bool} {xs : List Nat} (hw : Wd xs) {z : Int} (hz : - (toZ na xs) = z) : CallOK Tryz.prog 96 [dI na xs] (.one (dZ z)) :=
  ok1 (enter_of Tryz.func96 rfl rfl) hw (fun v w h => by have := r1_Neg v na xs w h; rwa [hz] at this) (fun _ _ _ _ hS h => retA_int hS h)
theorem okz_r1_Neg (a : Int) : CallOK Tryz.prog 96 [dZ a] (.one (dZ (- a))) := ok_r1_Neg (Wd_digs _) (by rw [toZ_int])
theorem retA_N {S : Nat → Prop} {w w' : World} {e : Ending} {z : Int} (hr : RetN z w e w') : RetA S (.one (dN .i64 z)) w e w' := by
  obtain ⟨rfl, hb⟩ := hr
  exact ⟨_, rfl, AV.M.val rfl, hb⟩
theorem ok_r1_Sign {na : Bool} {xs : List Nat} (hw : Wd xs) {z : Int} (hz : (toZ na xs).sign = z) : CallOK Tryz.prog 65 [dI na xs] (.one (dN .i64 z)) :=
  ok1 (enter_of Tryz.func65 rfl rfl) hw (fun v w h => by have := r1_Sign v na xs w h; first | rwa [hz] at this | rwa [sgn_sign, hz] at this) (fun _ _ _ _ _ h => retA_N h)
theorem okz_r1_Sign (a : Int) : CallOK Tryz.prog 65 [dZ a] (.one (dN .i64 a.sign)) := ok_r1_Sign (Wd_digs _) (by rw [toZ_int])
theorem ok_r1_Valid {na : Bool} {xs : List Nat} (hw : Wd xs) {b : Bool} (hb : validB na xs = b) : CallOK Tryz.prog 97 [dI na xs] (.one (dB b)) :=
  ok1 (enter_of Tryz.func97 rfl rfl) hw (fun v w h => by have := r1_Valid v na xs w h; rwa [hb] at this) (fun _ _ _ _ _ h => retA_B h)
theorem ok_i_FromInt (k : Int) (h1 : -9223372036854775808 ≤ k) (h2 : k < 9223372036854775808) : CallOK Tryz.prog 84 [dN .i64 k] (.one (dZ k)) :=
  ⟨enter_of Tryz.func84 rfl rfl, fun S w vs hS hv => by
    match vs, hv with
    | [v], ⟨h, _⟩ =>
      obtain rfl := av_val h
      exact (i_FromInt k h1 h2 w).mono fun e w' he => retA_int hS he⟩
theorem ok_r1_FromInt (k : Int) (h1 : -9223372036854775808 ≤ k) (h2 : k < 9223372036854775808) : CallOK Tryz.prog 64 [dN .i64 k] (.one (dZ k)) :=
  ⟨enter_of Tryz.func64 rfl rfl, fun S w vs hS hv => by
    match vs, hv with
    | [v], ⟨h, _⟩ =>
      obtain rfl := av_val h
      exact (r1_FromInt k h1 h2 w).mono fun e w' he => retA_int hS he⟩
theorem ok_same {na nb : Bool} {xs ys : List Nat} {b : Bool} (hw : Wd xs) (hw' : Wd ys) (hb : sameB na nb xs ys = b) : CallOK Tryz.prog 138 [dI na xs, dI nb ys] (.one (dB b)) :=
  ok2 (enter_of Tryz.func138 rfl rfl) hw hw' (fun v u w h k => by have := r1_Same v u na nb xs ys w h k; rwa [hb] at this) (fun _ _ _ _ _ h => retA_B h)
theorem okz_same (a b : Int) : CallOK Tryz.prog 138 [dZ a, dZ b] (.one (dB (decide (a = b)))) := ok_same (Wd_digs _) (Wd_digs _) (sameB_int a b)
theorem toZ_zero {na : Bool} {xs : List Nat} : toZ na xs = 0 ↔ val xs = 0 := by unfold toZ; cases na <;> simp
theorem ok_i_DivMod {na nb : Bool} {xs ys : List Nat} (hw : Wd xs) (hw' : Wd ys) (h1 : Fit xs) (h2 : Fit ys) (h0 : toZ nb ys ≠ 0) {q r : Int} (hq : (toZ na xs).fdiv (toZ nb ys) = q) (hr : (toZ na xs).fmod (toZ nb ys) = r) : CallOK Tryz.prog 131 [dI na xs, dI nb ys] (.tup [dZ q, dZ r, dN .i64 0]) :=
  ok2 (enter_of Tryz.func131 rfl rfl) hw hw' (fun v u w h k => by
    have hy : val ys ≠ 0 := fun e => h0 (toZ_zero.2 e)
    have := i_DivMod v u na nb xs ys w h k h1 h2 (divOk (by have := trim_length hw; unfold trim at this; unfold Fit at h1; omega) (by omega)) hy
    rwa [hq, hr] at this) (fun _ _ _ _ hS h => retA_DM hS h)
theorem ok_r1_DivMod {na nb : Bool} {xs ys : List Nat} (hw : Wd xs) (hw' : Wd ys) (h1 : Fit xs) (h2 : Fit ys) (h0 : toZ nb ys ≠ 0) {q r : Int} (hq : (toZ na xs).fdiv (toZ nb ys) = q) (hr : (toZ na xs).fmod (toZ nb ys) = r) : CallOK Tryz.prog 113 [dI na xs, dI nb ys] (.tup [dZ q, dZ r, dN .i64 0]) :=
  ok2 (enter_of Tryz.func113 rfl rfl) hw hw' (fun v u w h k => by
    have := r1_DivMod v u na nb xs ys w h k h1 h2 h0
    rwa [hq, hr] at this) (fun _ _ _ _ hS h => retA_DM hS h)
end Go.Proofs.YtmpadildchphgaaGreatDoor
namespace Go.Proofs.YtmpadildchphgaaGreatDoor
open Go.ChangeShapes Go.WideShapes Go.ChangeAt Go.RowKit Go.Joins
theorem noS (w : World) (hT : NoWord (fun _ => False) w) : NoWord (fun _ => False) w := hT
theorem law_calls {f : FuncId} {ds : List DV} (h : CallOK Tryz.prog f ds (.one (dB true))) {w : World} (hT : NoWord (fun _ => False) w) {vs : List Value} (hv : VM (fun _ => False) w ds vs) : Calls Tryz.prog f vs.toArray w (RetB true w) :=
  (h.calls _ w vs (noS w hT) hv).mono fun e w' ⟨v, he, hm, hb⟩ => by
    obtain rfl := av_val (show AV.M _ _ _ _ from hm)
    exact ⟨he, hb⟩
end Go.Proofs.YtmpadildchphgaaGreatDoor
namespace Go.Proofs.YtmpadildchphgaaGreatDoor
open Go.RowKit
def dW (xs : List Nat) : DV := .leaf (aW xs)
theorem retA_QR {S : Nat → Prop} {w w' : World} {e : Ending} {q r : Nat} (h : NoWord S w) (hr : RetQR q r w e w') : RetA S (.tup [dW (digs q), dW (digs r)]) w e w' := by
  obtain ⟨A, n, c, B, m, d, rfl, hq, hr, hb⟩ := hr
  refine ⟨_, rfl, ⟨[.slice A n c, .slice B m d], rfl, rfl, fun i x u h1 h2 => ?_⟩, hb⟩
  match i with
  | 0 => simp at h1 h2; subst h1 h2; exact aW_of (h.grow hb) hq
  | 1 => simp at h1 h2; subst h1 h2; exact aW_of (h.grow hb) hr
  | i + 2 => simp at h1
theorem ok_i_trim {xs : List Nat} (hw : Wd xs) : CallOK Tryz.prog 98 [dW xs] (.one (dW (trim xs))) :=
  ⟨enter_of Tryz.func98 rfl rfl, fun S w vs hS hv => by
    match vs, hv with
    | [v], ⟨h, _⟩ =>
      obtain ⟨A, n, c, rfl, hx⟩ := wrd_of h hw
      refine (i_trim A n c xs w hx).mono ?_
      rintro e w' ⟨rfl, rfl⟩
      exact ⟨_, rfl, aW_of hS hx.trim, Below.refl _ _⟩⟩
theorem ok_r1_trim {xs : List Nat} (hw : Wd xs) : CallOK Tryz.prog 110 [dW xs] (.one (dW (trim xs))) :=
  ⟨enter_of Tryz.func110 rfl rfl, fun S w vs hS hv => by
    match vs, hv with
    | [v], ⟨h, _⟩ =>
      obtain ⟨A, n, c, rfl, hx⟩ := wrd_of h hw
      refine (r1_trim A n c xs w hx).mono ?_
      rintro e w' ⟨rfl, rfl⟩
      exact ⟨_, rfl, aW_of hS hx.trim, Below.refl _ _⟩⟩
theorem ok_i_divide {a b : Nat} (h : (digs a).length ≤ 2147483648) (hb : 0 < b) : CallOK Tryz.prog 129 [dW (digs a), dW (digs b)] (.tup [dW (digs (a / b)), dW (digs (a % b))]) :=
  ⟨enter_of Tryz.func129 rfl rfl, fun S w vs hS hv => by
    match vs, hv with
    | [v, u], ⟨h1, h2, _⟩ =>
      obtain ⟨A, n, c, rfl, hx⟩ := wrd_of h1 (Wd_digs _)
      obtain ⟨B, m, d, rfl, hy⟩ := wrd_of h2 (Wd_digs _)
      exact (divOk h hb A n c B m d w hx hy).mono fun e w' he => retA_QR hS he⟩
theorem ok_r1_divide {a b : Nat} (h : (digs a).length ≤ 2147483648) (hb : 0 < b) : CallOK Tryz.prog 111 [dW (digs a), dW (digs b)] (.tup [dW (digs (a / b)), dW (digs (a % b))]) :=
  ⟨enter_of Tryz.func111 rfl rfl, fun S w vs hS hv => by
    match vs, hv with
    | [v, u], ⟨h1, h2, _⟩ =>
      obtain ⟨A, n, c, rfl, hx⟩ := wrd_of h1 (Wd_digs _)
      obtain ⟨B, m, d, rfl, hy⟩ := wrd_of h2 (Wd_digs _)
      exact (rdivOk h hb A n c B m d w hx hy).mono fun e w' he => retA_QR hS he⟩
theorem ok_i_signed {neg : Bool} {xs : List Nat} (hw : Wd xs) {z : Int} (hz : toZ neg xs = z) : CallOK Tryz.prog 99 [dB neg, dW xs] (.one (dZ z)) :=
  ⟨enter_of Tryz.func99 rfl rfl, fun S w vs hS hv => by
    match vs, hv with
    | [v, u], ⟨h1, h2, _⟩ =>
      obtain rfl := av_val h1
      obtain ⟨A, n, c, rfl, hx⟩ := wrd_of h2 hw
      exact (i_signed_z hx hz).mono fun e w' he => retA_int hS he⟩
theorem ok_r1_signed {neg : Bool} {xs : List Nat} (hw : Wd xs) {z : Int} (hz : toZ neg xs = z) : CallOK Tryz.prog 93 [dB neg, dW xs] (.one (dZ z)) :=
  ⟨enter_of Tryz.func93 rfl rfl, fun S w vs hS hv => by
    match vs, hv with
    | [v, u], ⟨h1, h2, _⟩ =>
      obtain rfl := av_val h1
      obtain ⟨A, n, c, rfl, hx⟩ := wrd_of h2 hw
      exact (r1_signed_z hx hz).mono fun e w' he => retA_int hS he⟩
theorem ok_clone {xs : List Nat} (hw : Wd xs) (hl : xs.length ≤ 4294967296) : CallOK Tryz.prog 118 [dW xs] (.one (dW xs)) :=
  ⟨enter_of Tryz.func118 rfl rfl, fun S w vs hS hv => by
    match vs, hv with
    | [v], ⟨h, _⟩ =>
      obtain ⟨A, n, c, rfl, hx⟩ := wrd_of h hw
      refine (clone_u32 A n c xs w hx (by rw [← hx.len]; exact hl)).mono ?_
      rintro e w' ⟨A', n', c', zs, rfl, hz, rfl, hb⟩
      exact ⟨_, rfl, aW_of (hS.grow hb) hz, hb⟩⟩
theorem ok_toUint {xs : List Nat} (hw : Wd xs) (hl : xs.length ≤ 2) : CallOK Tryz.prog 130 [dW xs] (.one (dN .u64 (val xs))) :=
  ⟨enter_of Tryz.func130 rfl rfl, fun S w vs hS hv => by
    match vs, hv with
    | [v], ⟨h, _⟩ =>
      obtain ⟨A, n, c, rfl, hx⟩ := wrd_of h hw
      refine (i_toUint A n c xs w hx (by rw [← hx.len]; exact hl)).mono ?_
      rintro e w' ⟨rfl, hb⟩
      exact ⟨_, rfl, AV.M.val rfl, hb⟩⟩
theorem ok_fromUint (n : Nat) (hn : n < 18446744073709551616) : CallOK Tryz.prog 116 [dN .u64 n] (.one (dW (digs n))) :=
  ⟨enter_of Tryz.func116 rfl rfl, fun S w vs hS hv => by
    match vs, hv with
    | [v], ⟨h, _⟩ =>
      obtain rfl := av_val h
      refine (i_fromUint n hn w).mono ?_
      rintro e w' ⟨A', n', c', zs, rfl, hz, rfl, hb⟩
      exact ⟨_, rfl, aW_of (hS.grow hb) hz, hb⟩⟩
theorem digs_length_zero {n : Nat} : (digs n).length = 0 ↔ n = 0 := by
  constructor
  · intro h; exact digs_eq_nil.1 (List.eq_nil_of_length_eq_zero h)
  · rintro rfl; rw [digs_zero]; rfl
theorem gcd_step {a b : Nat} : Nat.gcd b (a % b) = Nat.gcd a b := by rw [Nat.gcd_comm a b, Nat.gcd_rec b a, Nat.gcd_comm]
set_option maxHeartbeats 1000000 in
theorem ok_r1_GCD {na nb : Bool} {xs ys : List Nat} (hw : Wd xs) (hw' : Wd ys) (h1 : Fit xs) (h2 : Fit ys) : CallOK Tryz.prog 77 [dI na xs, dI nb ys] (.one (dZ (Nat.gcd (val xs) (val ys)))) := by
  have f1 : (digs (val xs)).length ≤ 2147483648 := by have := trim_length hw; unfold trim at this; unfold Fit at h1; omega
  have f2 : (digs (val ys)).length ≤ 2147483648 := by have := trim_length hw'; unfold trim at this; unfold Fit at h2; omega
  refine callOK_of TT_ok mixT Tryz.func77 rfl rfl (Nat.le_of_ble_eq_true rfl) ?_
  repeat (first | refine r_op rfl rfl rfl rfl ?_ | refine r_skip rfl rfl rfl ?_ | refine .done ?_ | refine r_seq (T := TT) ?_ | refine r_region (T := TT) rfl ?_ | refine r_block (T := TT) ?_ | refine r_then (T := TT) rfl ?_ | refine r_else (T := TT) rfl ?_)
  refine r_call (ok_r1_trim hw) rfl rfl rfl rfl rfl rfl rfl ?_
  repeat (first | refine r_op rfl rfl rfl rfl ?_ | refine r_skip rfl rfl rfl ?_ | refine .done ?_ | refine r_seq (T := TT) ?_ | refine r_region (T := TT) rfl ?_ | refine r_block (T := TT) ?_ | refine r_then (T := TT) rfl ?_ | refine r_else (T := TT) rfl ?_)
  refine r_call (ok_r1_trim hw') rfl rfl rfl rfl rfl rfl rfl ?_
  repeat (first | refine r_op rfl rfl rfl rfl ?_ | refine r_skip rfl rfl rfl ?_ | refine .done ?_ | refine r_seq (T := TT) ?_ | refine r_region (T := TT) rfl ?_ | refine r_block (T := TT) ?_ | refine r_then (T := TT) rfl ?_ | refine r_else (T := TT) rfl ?_)
  refine r_loop (Nat × Nat) (fun p => Nat.gcd p.1 p.2 = Nat.gcd (val xs) (val ys) ∧ (digs p.1).length ≤ 2147483648 ∧ (digs p.2).length ≤ 2147483648) (fun p => ⟨[(4, .box 2 0), (5, .d (dW (digs p.1))), (6, .d (dW (digs p.2)))], [(2, some [.val (.bool false), .sl 0 []])]⟩) (fun p => p.2) (val xs, val ys) ⟨rfl, f1, f2⟩ (weak ⟨rfl, rfl, rfl, trivial⟩ ⟨rfl, trivial⟩ rfl) ?_
  rintro ⟨u, v⟩ ⟨hg, g1, g2⟩
  dsimp only at hg g1 g2 ⊢
  repeat (first | refine r_op rfl rfl rfl rfl ?_ | refine r_skip rfl rfl rfl ?_ | refine .done ?_ | refine r_seq (T := TT) ?_ | refine r_region (T := TT) rfl ?_ | refine r_block (T := TT) ?_ | refine r_then (T := TT) rfl ?_ | refine r_else (T := TT) rfl ?_)
  refine r_cond rfl (fun h => ?_) (fun h => ?_)
  · have hv : 0 < v := by
      rcases Nat.eq_zero_or_pos v with hv | hv
      · have := of_decide_eq_true h; rw [digs_length_zero.2 hv] at this; omega
      · exact hv
    refine r_skipc ?_
    repeat (first | refine r_op rfl rfl rfl rfl ?_ | refine r_skip rfl rfl rfl ?_ | refine .done ?_ | refine r_seq (T := TT) ?_ | refine r_region (T := TT) rfl ?_ | refine r_block (T := TT) ?_ | refine r_then (T := TT) rfl ?_ | refine r_else (T := TT) rfl ?_)
    refine r_call (ok_r1_divide g1 hv) rfl rfl rfl rfl rfl rfl rfl ?_
    repeat (first | refine r_op rfl rfl rfl rfl ?_ | refine r_skip rfl rfl rfl ?_ | refine .done ?_ | refine r_seq (T := TT) ?_ | refine r_region (T := TT) rfl ?_ | refine r_block (T := TT) ?_ | refine r_then (T := TT) rfl ?_ | refine r_else (T := TT) rfl ?_)
    have hm := Nat.mod_lt u hv
    refine ⟨(v, u % v), ⟨gcd_step.trans hg, g2, Nat.le_trans (digs_len_mono (Nat.le_of_lt hm)) g2⟩, hm, weak ⟨rfl, rfl, rfl, trivial⟩ ⟨rfl, trivial⟩ rfl⟩
  · have hv : v = 0 := by
      have := of_decide_eq_false h
      exact digs_length_zero.1 (by omega)
    subst hv
    rw [Nat.gcd_zero_right] at hg
    refine r_exit ?_
    repeat (first | refine r_op rfl rfl rfl rfl ?_ | refine r_skip rfl rfl rfl ?_ | refine .done ?_ | refine r_seq (T := TT) ?_ | refine r_region (T := TT) rfl ?_ | refine r_block (T := TT) ?_ | refine r_then (T := TT) rfl ?_ | refine r_else (T := TT) rfl ?_)
    refine r_call (ok_r1_signed (neg := false) (xs := digs u) (Wd_digs _) (show toZ false (digs u) = ((Nat.gcd (val xs) (val ys) : Nat) : Int) by rw [toZ_d, ← hg]; rfl)) rfl rfl rfl rfl rfl rfl rfl ?_
    repeat (first | refine r_op rfl rfl rfl rfl ?_ | refine r_skip rfl rfl rfl ?_ | refine .done ?_ | refine r_seq (T := TT) ?_ | refine r_region (T := TT) rfl ?_ | refine r_block (T := TT) ?_ | refine r_then (T := TT) rfl ?_ | refine r_else (T := TT) rfl ?_)
    exact r_fin (T := TT) rfl rfl
set_option maxHeartbeats 1000000 in
theorem ok_i_GCD {na nb : Bool} {xs ys : List Nat} (hw : Wd xs) (hw' : Wd ys) (h1 : Fit xs) (h2 : Fit ys) : CallOK Tryz.prog 104 [dI na xs, dI nb ys] (.one (dZ (Nat.gcd (val xs) (val ys)))) := by
  have f1 : (digs (val xs)).length ≤ 2147483648 := by have := trim_length hw; unfold trim at this; unfold Fit at h1; omega
  have f2 : (digs (val ys)).length ≤ 2147483648 := by have := trim_length hw'; unfold trim at this; unfold Fit at h2; omega
  refine callOK_of TT_ok mixT Tryz.func104 rfl rfl (Nat.le_of_ble_eq_true rfl) ?_
  repeat (first | refine r_op rfl rfl rfl rfl ?_ | refine r_skip rfl rfl rfl ?_ | refine .done ?_ | refine r_seq (T := TT) ?_ | refine r_region (T := TT) rfl ?_ | refine r_block (T := TT) ?_ | refine r_then (T := TT) rfl ?_ | refine r_else (T := TT) rfl ?_)
  refine r_call (ok_i_trim hw) rfl rfl rfl rfl rfl rfl rfl ?_
  repeat (first | refine r_op rfl rfl rfl rfl ?_ | refine r_skip rfl rfl rfl ?_ | refine .done ?_ | refine r_seq (T := TT) ?_ | refine r_region (T := TT) rfl ?_ | refine r_block (T := TT) ?_ | refine r_then (T := TT) rfl ?_ | refine r_else (T := TT) rfl ?_)
  refine r_call (ok_i_trim hw') rfl rfl rfl rfl rfl rfl rfl ?_
  repeat (first | refine r_op rfl rfl rfl rfl ?_ | refine r_skip rfl rfl rfl ?_ | refine .done ?_ | refine r_seq (T := TT) ?_ | refine r_region (T := TT) rfl ?_ | refine r_block (T := TT) ?_ | refine r_then (T := TT) rfl ?_ | refine r_else (T := TT) rfl ?_)
  refine r_loop (Nat × Nat) (fun p => Nat.gcd p.1 p.2 = Nat.gcd (val xs) (val ys) ∧ (digs p.1).length ≤ 2147483648 ∧ (digs p.2).length ≤ 2147483648) (fun p => ⟨[(4, .box 2 0), (5, .d (dW (digs p.1))), (6, .d (dW (digs p.2)))], [(2, some [.val (.bool false), .sl 0 []])]⟩) (fun p => p.2) (val xs, val ys) ⟨rfl, f1, f2⟩ (weak ⟨rfl, rfl, rfl, trivial⟩ ⟨rfl, trivial⟩ rfl) ?_
  rintro ⟨u, v⟩ ⟨hg, g1, g2⟩
  dsimp only at hg g1 g2 ⊢
  by_cases hb : 2 < (digs v).length ∨ (2 < (digs u).length ∧ 0 < (digs v).length)
  · have hv : 0 < v := by
      rcases Nat.eq_zero_or_pos v with hv | hv
      · rw [hv, digs_zero] at hb; simp at hb
      · exact hv
    have hm := Nat.mod_lt u hv
    by_cases h2 : 2 < (digs v).length
    · refine r_seq ?_
      refine r_region rfl ?_
      iterate 2 (first | refine r_op rfl rfl rfl rfl ?_ | refine r_skip rfl rfl rfl ?_)
      refine r_eq (v' := .bool true) rfl rfl rfl rfl ?_ ?_
      · exact congrArg Value.bool (decide_eq_true (by omega))
      repeat (first | refine r_op rfl rfl rfl rfl ?_ | refine r_skip rfl rfl rfl ?_ | refine .done ?_ | refine r_seq (T := TT) ?_ | refine r_region (T := TT) rfl ?_ | refine r_block (T := TT) ?_ | refine r_then (T := TT) rfl ?_ | refine r_else (T := TT) rfl ?_)
      refine r_call (ok_i_divide g1 hv) rfl rfl rfl rfl rfl rfl rfl ?_
      repeat (first | refine r_op rfl rfl rfl rfl ?_ | refine r_skip rfl rfl rfl ?_ | refine .done ?_ | refine r_seq (T := TT) ?_ | refine r_region (T := TT) rfl ?_ | refine r_block (T := TT) ?_ | refine r_then (T := TT) rfl ?_ | refine r_else (T := TT) rfl ?_)
      exact ⟨(v, u % v), ⟨gcd_step.trans hg, g2, Nat.le_trans (digs_len_mono (Nat.le_of_lt hm)) g2⟩, hm, weak ⟨rfl, rfl, rfl, trivial⟩ ⟨rfl, trivial⟩ rfl⟩
    · have h3 : 2 < (digs u).length ∧ 0 < (digs v).length := by omega
      refine r_seq ?_
      refine r_region rfl ?_
      iterate 2 (first | refine r_op rfl rfl rfl rfl ?_ | refine r_skip rfl rfl rfl ?_)
      refine r_eq (v' := .bool false) rfl rfl rfl rfl ?_ ?_
      · exact congrArg Value.bool (decide_eq_false (by omega))
      iterate 3 (first | refine r_op rfl rfl rfl rfl ?_ | refine r_skip rfl rfl rfl ?_)
      refine r_eq (v' := .bool true) rfl rfl rfl rfl ?_ ?_
      · exact congrArg Value.bool (decide_eq_true (by omega))
      iterate 3 (first | refine r_op rfl rfl rfl rfl ?_ | refine r_skip rfl rfl rfl ?_)
      refine r_eq (v' := .bool true) rfl rfl rfl rfl ?_ ?_
      · exact congrArg Value.bool (decide_eq_true (by omega))
      repeat (first | refine r_op rfl rfl rfl rfl ?_ | refine r_skip rfl rfl rfl ?_ | refine .done ?_ | refine r_seq (T := TT) ?_ | refine r_region (T := TT) rfl ?_ | refine r_block (T := TT) ?_ | refine r_then (T := TT) rfl ?_ | refine r_else (T := TT) rfl ?_)
      refine r_call (ok_i_divide g1 hv) rfl rfl rfl rfl rfl rfl rfl ?_
      repeat (first | refine r_op rfl rfl rfl rfl ?_ | refine r_skip rfl rfl rfl ?_ | refine .done ?_ | refine r_seq (T := TT) ?_ | refine r_region (T := TT) rfl ?_ | refine r_block (T := TT) ?_ | refine r_then (T := TT) rfl ?_ | refine r_else (T := TT) rfl ?_)
      exact ⟨(v, u % v), ⟨gcd_step.trans hg, g2, Nat.le_trans (digs_len_mono (Nat.le_of_lt hm)) g2⟩, hm, weak ⟨rfl, rfl, rfl, trivial⟩ ⟨rfl, trivial⟩ rfl⟩
  · have hz : v = 0 ∨ (0 < v ∧ (digs v).length ≤ 2 ∧ (digs u).length ≤ 2) := by
      rcases Nat.eq_zero_or_pos v with hv | hv
      · exact .inl hv
      · have : 0 < (digs v).length := by
          rcases Nat.eq_zero_or_pos (digs v).length with h | h
          · have := digs_length_zero.1 h; omega
          · exact h
        exact .inr ⟨hv, by omega, by omega⟩
    rcases hz with hv | ⟨hv, hv2, hu2⟩
    · subst hv
      rw [Nat.gcd_zero_right] at hg
      have hl0 : (digs 0).length = 0 := digs_length_zero.2 rfl
      by_cases hu2 : 2 < (digs u).length
      · refine r_seq ?_
        refine r_region rfl ?_
        iterate 2 (first | refine r_op rfl rfl rfl rfl ?_ | refine r_skip rfl rfl rfl ?_)
        refine r_eq (v' := .bool false) rfl rfl rfl rfl ?_ ?_
        · exact congrArg Value.bool (decide_eq_false (by omega))
        iterate 3 (first | refine r_op rfl rfl rfl rfl ?_ | refine r_skip rfl rfl rfl ?_)
        refine r_eq (v' := .bool true) rfl rfl rfl rfl ?_ ?_
        · exact congrArg Value.bool (decide_eq_true (by omega))
        iterate 3 (first | refine r_op rfl rfl rfl rfl ?_ | refine r_skip rfl rfl rfl ?_)
        refine r_eq (v' := .bool false) rfl rfl rfl rfl ?_ ?_
        · exact congrArg Value.bool (decide_eq_false (by omega))
        repeat (first | refine r_op rfl rfl rfl rfl ?_ | refine r_skip rfl rfl rfl ?_ | refine .done ?_ | refine r_seq (T := TT) ?_ | refine r_region (T := TT) rfl ?_ | refine r_block (T := TT) ?_ | refine r_then (T := TT) rfl ?_ | refine r_else (T := TT) rfl ?_)
        refine r_then2 (T := TT) rfl ?_ ?_
        · exact (by rw [hl0]; rfl)
        repeat (first | refine r_op rfl rfl rfl rfl ?_ | refine r_skip rfl rfl rfl ?_ | refine .done ?_ | refine r_seq (T := TT) ?_ | refine r_region (T := TT) rfl ?_ | refine r_block (T := TT) ?_ | refine r_then (T := TT) rfl ?_ | refine r_else (T := TT) rfl ?_)
        refine r_call (ok_clone (Wd_digs u) (by omega)) rfl rfl rfl rfl rfl rfl rfl ?_
        repeat (first | refine r_op rfl rfl rfl rfl ?_ | refine r_skip rfl rfl rfl ?_ | refine .done ?_ | refine r_seq (T := TT) ?_ | refine r_region (T := TT) rfl ?_ | refine r_block (T := TT) ?_ | refine r_then (T := TT) rfl ?_ | refine r_else (T := TT) rfl ?_)
        refine r_call (ok_i_signed (neg := false) (xs := digs u) (Wd_digs _) (show toZ false (digs u) = ((Nat.gcd (val xs) (val ys) : Nat) : Int) by rw [toZ_d, ← hg]; rfl)) rfl rfl rfl rfl rfl rfl rfl ?_
        repeat (first | refine r_op rfl rfl rfl rfl ?_ | refine r_skip rfl rfl rfl ?_ | refine .done ?_ | refine r_seq (T := TT) ?_ | refine r_region (T := TT) rfl ?_ | refine r_block (T := TT) ?_ | refine r_then (T := TT) rfl ?_ | refine r_else (T := TT) rfl ?_)
        exact r_fin (T := TT) rfl rfl
      · refine r_seq ?_
        refine r_region rfl ?_
        iterate 2 (first | refine r_op rfl rfl rfl rfl ?_ | refine r_skip rfl rfl rfl ?_)
        refine r_eq (v' := .bool false) rfl rfl rfl rfl ?_ ?_
        · exact congrArg Value.bool (decide_eq_false (by omega))
        iterate 3 (first | refine r_op rfl rfl rfl rfl ?_ | refine r_skip rfl rfl rfl ?_)
        refine r_eq (v' := .bool false) rfl rfl rfl rfl ?_ ?_
        · exact congrArg Value.bool (decide_eq_false (by omega))
        repeat (first | refine r_op rfl rfl rfl rfl ?_ | refine r_skip rfl rfl rfl ?_ | refine .done ?_ | refine r_seq (T := TT) ?_ | refine r_region (T := TT) rfl ?_ | refine r_block (T := TT) ?_ | refine r_then (T := TT) rfl ?_ | refine r_else (T := TT) rfl ?_)
        refine r_then2 (T := TT) rfl ?_ ?_
        · exact (by rw [hl0]; rfl)
        repeat (first | refine r_op rfl rfl rfl rfl ?_ | refine r_skip rfl rfl rfl ?_ | refine .done ?_ | refine r_seq (T := TT) ?_ | refine r_region (T := TT) rfl ?_ | refine r_block (T := TT) ?_ | refine r_then (T := TT) rfl ?_ | refine r_else (T := TT) rfl ?_)
        refine r_call (ok_clone (Wd_digs u) (by omega)) rfl rfl rfl rfl rfl rfl rfl ?_
        repeat (first | refine r_op rfl rfl rfl rfl ?_ | refine r_skip rfl rfl rfl ?_ | refine .done ?_ | refine r_seq (T := TT) ?_ | refine r_region (T := TT) rfl ?_ | refine r_block (T := TT) ?_ | refine r_then (T := TT) rfl ?_ | refine r_else (T := TT) rfl ?_)
        refine r_call (ok_i_signed (neg := false) (xs := digs u) (Wd_digs _) (show toZ false (digs u) = ((Nat.gcd (val xs) (val ys) : Nat) : Int) by rw [toZ_d, ← hg]; rfl)) rfl rfl rfl rfl rfl rfl rfl ?_
        repeat (first | refine r_op rfl rfl rfl rfl ?_ | refine r_skip rfl rfl rfl ?_ | refine .done ?_ | refine r_seq (T := TT) ?_ | refine r_region (T := TT) rfl ?_ | refine r_block (T := TT) ?_ | refine r_then (T := TT) rfl ?_ | refine r_else (T := TT) rfl ?_)
        exact r_fin (T := TT) rfl rfl
    · have hvl : 0 < (digs v).length := by
        rcases Nat.eq_zero_or_pos (digs v).length with h | h
        · have := digs_length_zero.1 h; omega
        · exact h
      have hu64 : u < 18446744073709551616 := by have := lt_of_digs hu2; simpa using this
      have hv64 : v < 18446744073709551616 := by have := lt_of_digs hv2; simpa using this
      refine r_seq ?_
      refine r_region rfl ?_
      iterate 2 (first | refine r_op rfl rfl rfl rfl ?_ | refine r_skip rfl rfl rfl ?_)
      refine r_eq (v' := .bool false) rfl rfl rfl rfl ?_ ?_
      · exact congrArg Value.bool (decide_eq_false (by omega))
      iterate 3 (first | refine r_op rfl rfl rfl rfl ?_ | refine r_skip rfl rfl rfl ?_)
      refine r_eq (v' := .bool false) rfl rfl rfl rfl ?_ ?_
      · exact congrArg Value.bool (decide_eq_false (by omega))
      repeat (first | refine r_op rfl rfl rfl rfl ?_ | refine r_skip rfl rfl rfl ?_ | refine .done ?_ | refine r_seq (T := TT) ?_ | refine r_region (T := TT) rfl ?_ | refine r_block (T := TT) ?_ | refine r_then (T := TT) rfl ?_ | refine r_else (T := TT) rfl ?_)
      refine r_else2 (T := TT) rfl ?_ ?_
      · exact beq_eq_false_iff_ne.2 (by omega)
      repeat (first | refine r_op rfl rfl rfl rfl ?_ | refine r_skip rfl rfl rfl ?_ | refine .done ?_ | refine r_seq (T := TT) ?_ | refine r_region (T := TT) rfl ?_ | refine r_block (T := TT) ?_ | refine r_then (T := TT) rfl ?_ | refine r_else (T := TT) rfl ?_)
      refine r_call (ok_toUint (Wd_digs u) hu2) rfl rfl rfl rfl rfl rfl rfl ?_
      repeat (first | refine r_op rfl rfl rfl rfl ?_ | refine r_skip rfl rfl rfl ?_ | refine .done ?_ | refine r_seq (T := TT) ?_ | refine r_region (T := TT) rfl ?_ | refine r_block (T := TT) ?_ | refine r_then (T := TT) rfl ?_ | refine r_else (T := TT) rfl ?_)
      refine r_call (ok_toUint (Wd_digs v) hv2) rfl rfl rfl rfl rfl rfl rfl ?_
      repeat (first | refine r_op rfl rfl rfl rfl ?_ | refine r_skip rfl rfl rfl ?_ | refine .done ?_ | refine r_seq (T := TT) ?_ | refine r_region (T := TT) rfl ?_ | refine r_block (T := TT) ?_ | refine r_then (T := TT) rfl ?_ | refine r_else (T := TT) rfl ?_)
      rw [val_digs, val_digs]
      refine r_loop (Nat × Nat) (fun p => Nat.gcd p.1 p.2 = Nat.gcd (val xs) (val ys) ∧ p.1 < 18446744073709551616 ∧ p.2 < 18446744073709551616) (fun p => ⟨[(4, .box 2 0), (9, .d (dN .u64 p.1)), (10, .d (dN .u64 p.2))], [(2, some [.val (.bool false), .sl 0 []])]⟩) (fun p => p.2) (u, v) ⟨hg, hu64, hv64⟩ (weak ⟨rfl, rfl, rfl, trivial⟩ ⟨rfl, trivial⟩ rfl) ?_
      clear hg hu64 hv64 g1 g2 hu2 hv2 hvl hv hb
      clear u v
      rintro ⟨u, v⟩ ⟨hg, hu, hv⟩
      dsimp only at hg hu hv ⊢
      rcases Nat.eq_zero_or_pos v with h0 | h0
      · subst h0
        rw [Nat.gcd_zero_right] at hg
        repeat (first | refine r_op rfl rfl rfl rfl ?_ | refine r_skip rfl rfl rfl ?_ | refine .done ?_ | refine r_seq (T := TT) ?_ | refine r_region (T := TT) rfl ?_ | refine r_block (T := TT) ?_ | refine r_then (T := TT) rfl ?_ | refine r_else (T := TT) rfl ?_)
        refine r_call (ok_fromUint u hu) rfl rfl rfl rfl rfl rfl rfl ?_
        repeat (first | refine r_op rfl rfl rfl rfl ?_ | refine r_skip rfl rfl rfl ?_ | refine .done ?_ | refine r_seq (T := TT) ?_ | refine r_region (T := TT) rfl ?_ | refine r_block (T := TT) ?_ | refine r_then (T := TT) rfl ?_ | refine r_else (T := TT) rfl ?_)
        refine r_call (ok_i_signed (neg := false) (xs := digs u) (Wd_digs _) (show toZ false (digs u) = ((Nat.gcd (val xs) (val ys) : Nat) : Int) by rw [toZ_d, ← hg]; rfl)) rfl rfl rfl rfl rfl rfl rfl ?_
        repeat (first | refine r_op rfl rfl rfl rfl ?_ | refine r_skip rfl rfl rfl ?_ | refine .done ?_ | refine r_seq (T := TT) ?_ | refine r_region (T := TT) rfl ?_ | refine r_block (T := TT) ?_ | refine r_then (T := TT) rfl ?_ | refine r_else (T := TT) rfl ?_)
        exact r_fin (T := TT) rfl rfl
      · refine r_seq ?_
        refine r_seq ?_
        refine r_region rfl ?_
        iterate 1 (first | refine r_op rfl rfl rfl rfl ?_ | refine r_skip rfl rfl rfl ?_)
        refine r_eq (v' := .bool true) rfl rfl rfl rfl ?_ ?_
        · exact congrArg Value.bool (bne_iff_ne.2 (by omega))
        repeat (first | refine r_op rfl rfl rfl rfl ?_ | refine r_skip rfl rfl rfl ?_ | refine .done ?_ | refine r_seq (T := TT) ?_ | refine r_region (T := TT) rfl ?_ | refine r_block (T := TT) ?_ | refine r_then (T := TT) rfl ?_ | refine r_else (T := TT) rfl ?_)
        refine r_bin rfl rfl rfl rfl ?_ rfl rfl (binV_rem (by omega)) ?_
        · rfl
        repeat (first | refine r_op rfl rfl rfl rfl ?_ | refine r_skip rfl rfl rfl ?_ | refine .done ?_ | refine r_seq (T := TT) ?_ | refine r_region (T := TT) rfl ?_ | refine r_block (T := TT) ?_ | refine r_then (T := TT) rfl ?_ | refine r_else (T := TT) rfl ?_)
        have hm := Nat.mod_lt u h0
        refine ⟨(v, u % v), ⟨gcd_step.trans hg, hv, by dsimp only; omega⟩, hm, weak ⟨rfl, rfl, ?_, trivial⟩ ⟨rfl, trivial⟩ rfl⟩
        show TV.d (.leaf (.val (.int .u64 ((u : Int).tmod v)))) = TV.d (dN .u64 ((u % v : Nat) : Int))
        rw [Int.ofNat_tmod]
        rfl
end Go.Proofs.YtmpadildchphgaaGreatDoor
namespace Go.Proofs.YtmpadildchphgaaGreatDoor
open Go.RowKit
def Bs (l : List UInt8) : ByteArray := ⟨l.toArray⟩
def dL (l : List UInt8) : DV := dS (Bs l)
def vL (l : List UInt8) : Value := .string (Bs l)
theorem Bs_of (s : ByteArray) : Bs s.data.toList = s := rfl
theorem Bs_size (l : List UInt8) : (Bs l).size = l.length := by simp [Bs, ByteArray.size]
theorem Bs_toList (l : List UInt8) : (Bs l).toList = l := ByteArray.toList_mk l
theorem Bs_append (a b : List UInt8) : Bs a ++ Bs b = Bs (a ++ b) := by
  apply ByteArray.ext
  simp [Bs]
theorem Bs_extract (l : List UInt8) (i j : Nat) : (Bs l).extract i j = Bs ((l.take j).drop i) := by
  apply ByteArray.ext
  simp [Bs, ByteArray.data_extract, List.extract_eq_take_drop, List.drop_take]
theorem binV_eqS {t : TypeId} {x y : Operand} {a b : List UInt8} : binV .eql t x y (vL a) (vL b) = some (.bool (decide (a = b))) := by
  show some (Value.bool ((Bs a).toList == (Bs b).toList)) = _
  rw [Bs_toList, Bs_toList]
  congr 2
  by_cases h : a = b <;> simp [h]
theorem binV_neS {t : TypeId} {x y : Operand} {a b : List UInt8} : binV .neq t x y (vL a) (vL b) = some (.bool (!decide (a = b))) := by
  show some (Value.bool (!((Bs a).toList == (Bs b).toList))) = _
  rw [Bs_toList, Bs_toList]
  congr 3
  by_cases h : a = b <;> simp [h]
theorem binV_cat {t : TypeId} {x y : Operand} {a b : List UInt8} (h : a.length + b.length ≤ 9223372036854775807) : binV .add t x y (vL a) (vL b) = some (vL (a ++ b)) := by
  have h1 : ¬ (((Bs a).size + (Bs b).size : Nat) : Int) > IntKind.i64.max := by
    rw [Bs_size, Bs_size, show IntKind.i64.max = 9223372036854775807 from by decide]
    omega
  have : binOp .add t (vL a) (vL b) = .pure (vL (a ++ b)) := by
    simp only [binOp, vL, Op.stringOp, h1, if_false, Bs_append]
    rfl
  show semV (do eqGuard .add t x y (vL a) (vL b); binOp .add t (vL a) (vL b)) = _
  simp only [this]
  rfl
section
variable {P : Program} {T : TypeId → Option Ty} {n : Nat} {ops : Array Oper} {id : Nat} {draw : Bool} {K : AS → Prop} {s : AS} {k : Nat} {o : Oper} {os : List Oper} {fps : List FP}
theorem str_of {t : TypeId} {ty : Ty} (hT : TyOK P t ty) (hs : ty.isStr = true) : P.underlying t = some .string := by
  obtain ⟨d, hu, _, _, _, _, hst, _⟩ := hT.und
  rw [hu, hst hs]
theorem r_sidx (hT : ∀ t d, T t = some d → TyOK P t d) {t : TypeId} {ty : Ty} {x y : Operand} {l : List UInt8} {c : UInt8} {i : Nat} {ik : IntKind} (hi : l[i]? = some c) (h1 : gd ops s o = some true) (h2 : o.op = .index t x y) (h5 : T t = some ty) (h6 : ty.isStr = true) (h7 : s.ev x = .d (.leaf (.val (vL l)))) (h8 : s.ev y = .d (.leaf (.val (.int ik (i : Nat)))))
    (h3 : dstOK n o.dst = true) (h4 : chk draw ops (fpOf ops o ⟨.d (dN .u8 c.toNat), none⟩ []) k fps = true) (h : AOps P T n ops id draw K (k + 1) os (s.eff o.dst ⟨.d (dN .u8 c.toNat), none⟩) (fpOf ops o ⟨.d (dN .u8 c.toNat), none⟩ [] :: fps)) : AOps P T n ops id draw K k (o :: os) s fps := by
  refine .run h1 (.gen fun s2 ht _ => ?_) h3 h4 h
  have hx := (rt_op ht (x := x) (by simp [h2, Op.operands])).trans h7
  have hy := (rt_op ht (x := y) (by simp [h2, Op.operands])).trans h8
  have hu := str_of (hT _ _ h5) h6
  have hl : i < l.length := (List.getElem?_eq_some_iff.1 hi).1
  refine sound_val fun n S0 w0 g a w hM => ⟨.int .u8 c.toNat, w, ?_, Below.refl _ _, AV.M.val rfl⟩
  unfold execOp
  rw [h2]
  have hsz := Bs_size l
  have hget : (Bs l)[i]'(by rw [hsz]; exact hl) = c := by
    have := (List.getElem?_eq_some_iff.1 hi).2
    show (Bs l).data[i]'_ = c
    simpa [Bs] using this
  simp only [ev_val hM hx, ev_val hM hy, vL, Sem.run_bind, run_index_string _ t (Bs l) ik i hu]
  rw [dif_pos (by rw [hsz]; omega)]
  simp only [Result.andThen_ok, Int.toNat_natCast, hget]
  rfl
theorem r_slo (hT : ∀ t d, T t = some d → TyOK P t d) {t : TypeId} {ty : Ty} {x y : Operand} {l : List UInt8} {i : Nat} {ik : IntKind} (hi : i ≤ l.length) (h1 : gd ops s o = some true) (h2 : o.op = .slice t x (some y) none none) (h5 : T t = some ty) (h6 : ty.isStr = true) (h7 : s.ev x = .d (.leaf (.val (vL l)))) (h8 : s.ev y = .d (.leaf (.val (.int ik (i : Nat)))))
    (h3 : dstOK n o.dst = true) (h4 : chk draw ops (fpOf ops o ⟨.d (dL (l.drop i)), none⟩ []) k fps = true) (h : AOps P T n ops id draw K (k + 1) os (s.eff o.dst ⟨.d (dL (l.drop i)), none⟩) (fpOf ops o ⟨.d (dL (l.drop i)), none⟩ [] :: fps)) : AOps P T n ops id draw K k (o :: os) s fps := by
  refine .run h1 (.gen fun s2 ht _ => ?_) h3 h4 h
  have hx := (rt_op ht (x := x) (by simp [h2, Op.operands])).trans h7
  have hy := (rt_op ht (x := y) (by simp [h2, Op.operands])).trans h8
  have hu := str_of (hT _ _ h5) h6
  refine sound_val fun n S0 w0 g a w hM => ⟨vL (l.drop i), w, ?_, Below.refl _ _, AV.M.val rfl⟩
  unfold execOp
  rw [h2]
  have e1 : (Instr.sliceAt t (.string (Bs l)) (some (.int ik i)) none none).run P w = .ok (vL (l.drop i)) w := by
    unfold Instr.sliceAt
    simp only [Sem.run_bind, run_underlying hu w, Result.andThen_ok]
    rw [run_slice_string_l w t (Bs l) hu ik i (by omega) (by rw [Bs_size]; omega), Bs_extract, Bs_size]
    simp [vL]
  simp only [ev_val hM hx, ev_val hM hy, vL, Option.map_some, Option.map_none, Sem.run_bind, e1, Result.andThen_ok]
  rfl
end
end Go.Proofs.YtmpadildchphgaaGreatDoor
namespace Go.Proofs.YtmpadildchphgaaGreatDoor
open Go.RowKit
theorem binV_eqT {t : TypeId} {x y : Operand} {a b : List UInt8} (h : a = b) : binV .eql t x y (vL a) (vL b) = some (.bool true) := by rw [binV_eqS, decide_eq_true h]
theorem binV_eqF {t : TypeId} {x y : Operand} {a b : List UInt8} (h : a ≠ b) : binV .eql t x y (vL a) (vL b) = some (.bool false) := by rw [binV_eqS, decide_eq_false h]
theorem binV_neT {t : TypeId} {x y : Operand} {a b : List UInt8} (h : a ≠ b) : binV .neq t x y (vL a) (vL b) = some (.bool true) := by rw [binV_neS, decide_eq_false h]; rfl
theorem binV_neF {t : TypeId} {x y : Operand} {a b : List UInt8} (h : a = b) : binV .neq t x y (vL a) (vL b) = some (.bool false) := by rw [binV_neS, decide_eq_true h]; rfl
section
variable {P : Program} {T : TypeId → Option Ty} {n : Nat} {ops : Array Oper} {id : Nat} {draw : Bool} {K : AS → Prop} {s : AS} {k : Nat} {o : Oper} {os : List Oper} {fps : List FP}
theorem r_shi (hT : ∀ t d, T t = some d → TyOK P t d) {t : TypeId} {ty : Ty} {x y : Operand} {l : List UInt8} {i : Nat} {ik : IntKind} (hi : i ≤ l.length) (h1 : gd ops s o = some true) (h2 : o.op = .slice t x none (some y) none) (h5 : T t = some ty) (h6 : ty.isStr = true) (h7 : s.ev x = .d (.leaf (.val (vL l)))) (h8 : s.ev y = .d (.leaf (.val (.int ik (i : Nat)))))
    (h3 : dstOK n o.dst = true) (h4 : chk draw ops (fpOf ops o ⟨.d (dL (l.take i)), none⟩ []) k fps = true) (h : AOps P T n ops id draw K (k + 1) os (s.eff o.dst ⟨.d (dL (l.take i)), none⟩) (fpOf ops o ⟨.d (dL (l.take i)), none⟩ [] :: fps)) : AOps P T n ops id draw K k (o :: os) s fps := by
  refine .run h1 (.gen fun s2 ht _ => ?_) h3 h4 h
  have hx := (rt_op ht (x := x) (by simp [h2, Op.operands])).trans h7
  have hy := (rt_op ht (x := y) (by simp [h2, Op.operands])).trans h8
  have hu := str_of (hT _ _ h5) h6
  refine sound_val fun n S0 w0 g a w hM => ⟨vL (l.take i), w, ?_, Below.refl _ _, AV.M.val rfl⟩
  unfold execOp
  rw [h2]
  have e1 : (Instr.sliceAt t (.string (Bs l)) none (some (.int ik i)) none).run P w = .ok (vL (l.take i)) w := by
    unfold Instr.sliceAt
    simp only [Sem.run_bind, run_underlying hu w, Result.andThen_ok]
    rw [run_slice_string_h w t (Bs l) hu ik i (by omega) (by rw [Bs_size]; omega), Bs_extract]
    simp [vL]
  simp only [ev_val hM hx, ev_val hM hy, vL, Option.map_some, Option.map_none, Sem.run_bind, e1, Result.andThen_ok]
  rfl
end
end Go.Proofs.YtmpadildchphgaaGreatDoor
namespace Go.Proofs.YtmpadildchphgaaGreatDoor
def dg (k : Nat) : UInt8 := UInt8.ofNat (48 + k)
theorem dg_toNat {k : Nat} (h : k < 10) : (dg k).toNat = 48 + k := by unfold dg; rw [UInt8.toNat_ofNat']; omega
def dec (n : Nat) : List UInt8 := if _h : n = 0 then [] else dec (n / 10) ++ [dg (n % 10)]
termination_by n
decreasing_by omega
theorem dec_zero : dec 0 = [] := by rw [dec]; simp
theorem dec_pos {n : Nat} (h : n ≠ 0) : dec n = dec (n / 10) ++ [dg (n % 10)] := by rw [dec]; simp [h]
def fmt (z : Int) : List UInt8 := if z = 0 then [48] else (if z < 0 then [45] else []) ++ dec z.natAbs
def dv (c : UInt8) : Nat := c.toNat - 48
def isD (c : UInt8) : Prop := 48 ≤ c.toNat ∧ c.toNat ≤ 57
instance (c : UInt8) : Decidable (isD c) := inferInstanceAs (Decidable (_ ∧ _))
def num (l : List UInt8) : Nat := l.foldl (fun a c => 10 * a + dv c) 0
theorem dec_len : ∀ (k n : Nat), n < 10 ^ k → (dec n).length ≤ k
  | 0, n, h => by simp at h; subst h; rw [dec_zero]; simp
  | k + 1, n, h => by
    by_cases h0 : n = 0
    · subst h0; rw [dec_zero]; simp
    · rw [dec_pos h0, List.length_append]
      have := dec_len k (n / 10) (by rw [Nat.pow_succ] at h; omega)
      simp; omega
def okT (neg : Bool) (ds : List UInt8) : Prop := ds ≠ [] ∧ (∀ c ∈ ds, isD c) ∧ ((∀ c r, ds = c :: r → c ≠ 48) ∨ (ds.length = 1 ∧ neg = false))
def sgnd (neg : Bool) (n : Nat) : Int := if neg then -(n : Int) else n
def sg (neg : Bool) (ds : List UInt8) : List UInt8 := if neg then 45 :: ds else ds
end Go.Proofs.YtmpadildchphgaaGreatDoor
namespace Go.Proofs.YtmpadildchphgaaGreatDoor
def pneg : List UInt8 → Bool
  | c :: _ => c == 45
  | [] => false
def pds : List UInt8 → List UInt8
  | c :: r => if c == 45 then r else c :: r
  | [] => []
def pok (s : List UInt8) : Prop := s.length ≤ 65536 ∧ okT (pneg s) (pds s)
open Classical in
noncomputable def pz (s : List UInt8) : Int × Int := if pok s then (sgnd (pneg s) (num (pds s)), 0) else (0, 2)
theorem e0 : aZ 0 = [.val (.bool false), .sl 0 []] := by
  unfold aZ aI aW
  rw [show (0 : Int).natAbs = 0 from rfl, digs_zero]
  rfl
end Go.Proofs.YtmpadildchphgaaGreatDoor
namespace Go.Proofs.YtmpadildchphgaaGreatDoor
def dk : Nat → Nat → List UInt8
  | 0, _ => []
  | k + 1, c => dk k (c / 10) ++ [dg (c % 10)]
def dd (c : Nat) : List UInt8 := if c = 0 then [48] else dec c
theorem dec_split (k m c : Nat) (hm : 0 < m) (hc : c < 10 ^ k) : dec (m * 10 ^ k + c) = dec m ++ dk k c := by
  induction k generalizing c with
  | zero => simp at hc; subst hc; simp [dk]
  | succ k ih =>
    rw [Nat.pow_succ] at hc
    have hp : 0 < 10 ^ k := Nat.pow_pos (by decide)
    have hmp : 0 < m * 10 ^ k := Nat.mul_pos hm hp
    have e : m * 10 ^ (k + 1) + c = 10 * (m * 10 ^ k) + c := by rw [Nat.pow_succ, ← Nat.mul_assoc, Nat.mul_comm]
    rw [e, dec_pos (by omega), show (10 * (m * 10 ^ k) + c) / 10 = m * 10 ^ k + c / 10 by omega, show (10 * (m * 10 ^ k) + c) % 10 = c % 10 by omega, ih (c / 10) (by omega), dk, List.append_assoc]
theorem dk_zero (k : Nat) : dk k 0 = List.replicate k 48 := by
  induction k with
  | zero => rfl
  | succ k ih => rw [dk, Nat.zero_div, ih, List.replicate_succ']; rfl
theorem dd_small {c : Nat} (h : c < 10) : dd c = [dg c] := by
  unfold dd
  by_cases h0 : c = 0
  · subst h0; rfl
  · rw [if_neg h0, dec_pos h0, show c / 10 = 0 by omega, dec_zero, show c % 10 = c by omega]; rfl
theorem dd_big {c : Nat} (h : 10 ≤ c) : dd c = dd (c / 10) ++ [dg (c % 10)] := by
  unfold dd
  rw [if_neg (by omega), if_neg (by omega), dec_pos (by omega)]
theorem dk_dd (k : Nat) : ∀ c, c < 10 ^ (k + 1) → (dd c).length ≤ k + 1 ∧ dk (k + 1) c = List.replicate (k + 1 - (dd c).length) 48 ++ dd c := by
  induction k with
  | zero =>
    intro c hc
    have : c < 10 := by simpa using hc
    rw [dd_small this, dk, dk, show c % 10 = c by omega]
    exact ⟨Nat.le_refl _, rfl⟩
  | succ k ih =>
    intro c hc
    by_cases h : c < 10
    · rw [dd_small h, dk, show c / 10 = 0 by omega, dk_zero, show c % 10 = c by omega]
      exact ⟨by simp, by simp⟩
    · rw [Nat.pow_succ] at hc
      obtain ⟨h1, h2⟩ := ih (c / 10) (by omega)
      rw [dd_big (by omega), dk, h2, List.length_append, List.length_singleton]
      refine ⟨by omega, ?_⟩
      rw [show k + 1 + 1 - ((dd (c / 10)).length + 1) = k + 1 - (dd (c / 10)).length by omega, List.append_assoc]
theorem decDigits_dd (u : Nat) : Lib.decDigits u = dd u := by
  induction u using Nat.strongRecOn with
  | _ u ih =>
    by_cases h : u < 10
    · rw [Lib.decDigits, dif_pos h, dd_small h]; rfl
    · rw [Lib.decDigits, dif_neg h, dd_big (by omega), ih _ (by omega)]; rfl
def pad9 (c : Nat) : List UInt8 := List.replicate (9 - (dd c).length) 48 ++ dd c
theorem dec_split9 (m c : Nat) (hm : 0 < m) (hc : c < 1000000000) : dec (m * 1000000000 + c) = dec m ++ pad9 c := by
  have h := dec_split 9 m c hm (by simpa using hc)
  rw [show (10 : Nat) ^ 9 = 1000000000 from rfl] at h
  rw [h, (dk_dd 8 c (by simpa using hc)).2]
  rfl
theorem dd_len {c : Nat} (hc : c < 1000000000) : 1 ≤ (dd c).length ∧ (dd c).length ≤ 9 := by
  refine ⟨?_, (dk_dd 8 c (by simpa using hc)).1⟩
  unfold dd
  by_cases h0 : c = 0
  · rw [if_pos h0]; exact Nat.le_refl _
  · rw [if_neg h0, dec_pos h0]; simp
def ch (n : Nat) : List Nat := if _h : n = 0 then [] else n % 1000000000 :: ch (n / 1000000000)
termination_by n
decreasing_by omega
theorem ch_zero : ch 0 = [] := by rw [ch]; simp
theorem ch_pos {n : Nat} (h : n ≠ 0) : ch n = n % 1000000000 :: ch (n / 1000000000) := by rw [ch]; simp [h]
def txt : List Nat → List UInt8
  | [] => []
  | c :: r => dd c ++ r.flatMap pad9
theorem txt_snoc {l : List Nat} (h : l ≠ []) (c : Nat) : txt (l ++ [c]) = txt l ++ pad9 c := by
  cases l with
  | nil => exact absurd rfl h
  | cons a r => simp [txt, List.flatMap_append]
theorem ch_len : ∀ (k n : Nat), n < 1000000000 ^ k → (ch n).length ≤ k
  | 0, n, h => by simp at h; subst h; rw [ch_zero]; simp
  | k + 1, n, h => by
    by_cases h0 : n = 0
    · subst h0; rw [ch_zero]; simp
    · rw [ch_pos h0]
      have := ch_len k (n / 1000000000) (by rw [Nat.pow_succ] at h; omega)
      simp; omega
theorem ch_lt (n : Nat) : ∀ c ∈ ch n, c < 1000000000 := by
  induction n using Nat.strongRecOn with
  | _ n ih =>
    by_cases h : n = 0
    · subst h; rw [ch_zero]; simp
    · rw [ch_pos h]
      intro c hc
      rcases List.mem_cons.1 hc with rfl | hc
      · omega
      · exact ih _ (by omega) c hc
theorem ch_len_words {xs : List Nat} (hw : Wd xs) : (ch (val xs)).length ≤ 2 * xs.length := by
  refine ch_len _ _ (Nat.lt_of_lt_of_le (val_lt hw) ?_)
  rw [Nat.pow_mul]
  exact Nat.pow_le_pow_left (by decide) _
theorem ch_ne {n : Nat} (h : n ≠ 0) : ch n ≠ [] := by rw [ch_pos h]; simp
theorem txt_ch (n : Nat) : txt (ch n).reverse = dec n := by
  induction n using Nat.strongRecOn with
  | _ n ih =>
    by_cases h : n = 0
    · subst h; rw [ch_zero, dec_zero]; rfl
    · rw [ch_pos h, List.reverse_cons]
      by_cases h1 : n / 1000000000 = 0
      · rw [h1, ch_zero]
        have : n % 1000000000 = n := by omega
        rw [this]
        show dd n ++ [] = _
        rw [List.append_nil]
        unfold dd
        rw [if_neg h]
      · rw [txt_snoc (by simpa using ch_ne h1), ih _ (by omega) , ← dec_split9 _ _ (by omega) (by omega)]
        congr 1
        omega
end Go.Proofs.YtmpadildchphgaaGreatDoor
namespace Go.Proofs.YtmpadildchphgaaGreatDoor
open Go.RowKit
theorem okz_i_GCD {a b : Int} (h1 : FitZ a) (h2 : FitZ b) {g : Nat} (hg : Nat.gcd a.natAbs b.natAbs = g) : CallOK Tryz.prog 104 [dZ a, dZ b] (.one (dZ g)) := by
  have := ok_i_GCD (na := decide (a < 0)) (nb := decide (b < 0)) (Wd_digs a.natAbs) (Wd_digs b.natAbs) h1 h2
  rw [val_digs, val_digs, hg] at this
  exact this
theorem okz_i_DivMod {a b q r : Int} (h1 : FitZ a) (h2 : FitZ b) (h0 : b ≠ 0) (hq : a.fdiv b = q) (hr : a.fmod b = r) : CallOK Tryz.prog 131 [dZ a, dZ b] (.tup [dZ q, dZ r, dN .i64 0]) :=
  ok_i_DivMod (Wd_digs _) (Wd_digs _) h1 h2 (by rw [toZ_int]; exact h0) (by rw [toZ_int, toZ_int]; exact hq) (by rw [toZ_int, toZ_int]; exact hr)
theorem okz_r1_GCD {a b : Int} (h1 : FitZ a) (h2 : FitZ b) {g : Nat} (hg : Nat.gcd a.natAbs b.natAbs = g) : CallOK Tryz.prog 77 [dZ a, dZ b] (.one (dZ g)) := by
  have := ok_r1_GCD (na := decide (a < 0)) (nb := decide (b < 0)) (Wd_digs a.natAbs) (Wd_digs b.natAbs) h1 h2
  rw [val_digs, val_digs, hg] at this
  exact this
theorem okz_r1_DivMod {a b q r : Int} (h1 : FitZ a) (h2 : FitZ b) (h0 : b ≠ 0) (hq : a.fdiv b = q) (hr : a.fmod b = r) : CallOK Tryz.prog 113 [dZ a, dZ b] (.tup [dZ q, dZ r, dN .i64 0]) :=
  ok_r1_DivMod (Wd_digs _) (Wd_digs _) h1 h2 (by rw [toZ_int]; exact h0) (by rw [toZ_int, toZ_int]; exact hq) (by rw [toZ_int, toZ_int]; exact hr)
end Go.Proofs.YtmpadildchphgaaGreatDoor
