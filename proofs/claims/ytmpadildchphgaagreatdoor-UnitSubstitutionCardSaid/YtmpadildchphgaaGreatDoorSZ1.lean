/- Parts of a proof: contracts of the functions that the laws reach. -/
import Derived.Test.YtmpadildchphgaaGreatDoorSAmI
import Derived.Test.YtmpadildchphgaaGreatDoorSLSqrt
import Derived.Test.YtmpadildchphgaaGreatDoorSAh
import Derived.Test.YtmpadildchphgaaGreatDoorSLaw
import Derived.Laws.BytesArg
import Derived.Laws.Strings2
import Derived.Laws.IdiomStrings
import Derived.Lib.ItoaNum
import Derived.Test.YtmpadildchphgaaGreatDoorSAa
import Derived.Test.YtmpadildchphgaaGreatDoorSAe
import Derived.Test.YtmpadildchphgaaGreatDoorSShelf
import Derived.Test.YtmpadildchphgaaGreatDoorSAmG
import Derived.Shelf.Strconv.AppendUint10
import Derived.Shelf.Strconv.Itoa3
namespace Go.Proofs.YtmpadildchphgaaGreatDoor
open Go.RowKit
def Fit (xs : List Nat) : Prop := xs.length ≤ 2147483648
def FitZ (z : Int) : Prop := (digs z.natAbs).length ≤ 2147483648
theorem FitZ.of_lt {z : Int} {k : Nat} (h : z.natAbs < 4294967296 ^ k) (hk : k ≤ 2147483648) : FitZ z := Nat.le_trans (digs_length_le h) hk
theorem FitZ.small {z : Int} (h : z.natAbs < 4294967296) : FitZ z := .of_lt (k := 1) (by simpa using h) (by decide)
theorem ok_i_Add {na nb : Bool} {xs ys : List Nat} (hw : Wd xs) (hw' : Wd ys) (h1 : Fit xs) (h2 : Fit ys) {z : Int} (hz : toZ na xs + toZ nb ys = z) : CallOK Tryz.prog 71 [dI na xs, dI nb ys] (.one (dZ z)) :=
  ok2 (enter_of Tryz.func71 rfl rfl) hw hw' (fun v u w h k => by have := i_Add v u na nb xs ys w h k h1 h2; rwa [hz] at this) (fun _ _ _ _ hS h => retA_int hS h)
theorem okz_i_Add {a b : Int} (h1 : FitZ a) (h2 : FitZ b) : CallOK Tryz.prog 71 [dZ a, dZ b] (.one (dZ (a + b))) := ok_i_Add (Wd_digs _) (Wd_digs _) h1 h2 (by rw [toZ_int, toZ_int])
theorem ok_i_Mul {na nb : Bool} {xs ys : List Nat} (hw : Wd xs) (hw' : Wd ys) (h1 : Fit xs) (h2 : Fit ys) {z : Int} (hz : toZ na xs * toZ nb ys = z) : CallOK Tryz.prog 73 [dI na xs, dI nb ys] (.one (dZ z)) :=
  ok2 (enter_of Tryz.func73 rfl rfl) hw hw' (fun v u w h k => by have := i_Mul v u na nb xs ys w h k h1 h2; rwa [hz] at this) (fun _ _ _ _ hS h => retA_int hS h)
theorem okz_i_Mul {a b : Int} (h1 : FitZ a) (h2 : FitZ b) : CallOK Tryz.prog 73 [dZ a, dZ b] (.one (dZ (a * b))) := ok_i_Mul (Wd_digs _) (Wd_digs _) h1 h2 (by rw [toZ_int, toZ_int])
theorem ok_r1_Mul {na nb : Bool} {xs ys : List Nat} (hw : Wd xs) (hw' : Wd ys) (h1 : Fit xs) (h2 : Fit ys) {z : Int} (hz : toZ na xs * toZ nb ys = z) : CallOK Tryz.prog 78 [dI na xs, dI nb ys] (.one (dZ z)) :=
  ok2 (enter_of Tryz.func78 rfl rfl) hw hw' (fun v u w h k => by have := r1_Mul v u na nb xs ys w h k h1 h2; rwa [hz] at this) (fun _ _ _ _ hS h => retA_int hS h)
theorem okz_r1_Mul {a b : Int} (h1 : FitZ a) (h2 : FitZ b) : CallOK Tryz.prog 78 [dZ a, dZ b] (.one (dZ (a * b))) := ok_r1_Mul (Wd_digs _) (Wd_digs _) h1 h2 (by rw [toZ_int, toZ_int])
theorem ok_i_Norm {na : Bool} {xs : List Nat} (hw : Wd xs) (h1 : Fit xs) {z : Int} (hz :  (toZ na xs) = z) : CallOK Tryz.prog 126 [dI na xs] (.one (dZ z)) :=
  ok1 (enter_of Tryz.func126 rfl rfl) hw (fun v w h => by have := i_Norm v na xs w h h1; rwa [hz] at this) (fun _ _ _ _ hS h => retA_int hS h)
theorem ok_i_Neg {na : Bool} {xs : List Nat} (hw : Wd xs) (h1 : Fit xs) {z : Int} (hz : - (toZ na xs) = z) : CallOK Tryz.prog 105 [dI na xs] (.one (dZ z)) :=
  ok1 (enter_of Tryz.func105 rfl rfl) hw (fun v w h => by have := i_Neg v na xs w h h1; rwa [hz] at this) (fun _ _ _ _ hS h => retA_int hS h)
theorem okz_i_Neg {a : Int} (h1 : FitZ a) : CallOK Tryz.prog 105 [dZ a] (.one (dZ (- a))) := ok_i_Neg (Wd_digs _) h1 (by rw [toZ_int])
theorem ok_r1_Norm {na : Bool} {xs : List Nat} (hw : Wd xs) {z : Int} (hz :  (toZ na xs) = z) : CallOK Tryz.prog 91 [dI na xs] (.one (dZ z)) :=
  ok1 (enter_of Tryz.func91 rfl rfl) hw (fun v w h => by have := r1_Norm v na xs w h; rwa [hz] at this) (fun _ _ _ _ hS h => retA_int hS h)
theorem ok_r1_Neg {na : Bool} {xs : List Nat} (hw : Wd xs) {z : Int} (hz : - (toZ na xs) = z) : CallOK Tryz.prog 96 [dI na xs] (.one (dZ z)) :=
  ok1 (enter_of Tryz.func96 rfl rfl) hw (fun v w h => by have := r1_Neg v na xs w h; rwa [hz] at this) (fun _ _ _ _ hS h => retA_int hS h)
theorem okz_r1_Neg (a : Int) : CallOK Tryz.prog 96 [dZ a] (.one (dZ (- a))) := ok_r1_Neg (Wd_digs _) (by rw [toZ_int])
theorem retA_N {S : Nat → Prop} {w w' : World} {e : Ending} {z : Int} (hr : RetN z w e w') : RetA S (.one (dN .i64 z)) w e w' := by
  obtain ⟨rfl, hb⟩ := hr
  exact ⟨_, rfl, AV.M.val rfl, hb⟩
theorem ok_r1_Sign {na : Bool} {xs : List Nat} (hw : Wd xs) {z : Int} (hz : (toZ na xs).sign = z) : CallOK Tryz.prog 65 [dI na xs] (.one (dN .i64 z)) :=
  ok1 (enter_of Tryz.func65 rfl rfl) hw (fun v w h => by have := r1_Sign v na xs w h; first | rwa [hz] at this | rwa [sgn_sign, hz] at this) (fun _ _ _ _ _ h => retA_N h)
theorem okz_r1_Sign (a : Int) : CallOK Tryz.prog 65 [dZ a] (.one (dN .i64 a.sign)) := ok_r1_Sign (Wd_digs _) (by rw [toZ_int])
theorem ok_r1_Valid {na : Bool} {xs : List Nat} (hw : Wd xs) {b : Bool} (hb : validB na xs = b) : CallOK Tryz.prog 97 [dI na xs] (.one (dB b)) :=
  ok1 (enter_of Tryz.func97 rfl rfl) hw (fun v w h => by have := r1_Valid v na xs w h; rwa [hb] at this) (fun _ _ _ _ _ h => retA_B h)
theorem ok_i_FromInt (k : Int) (h1 : -9223372036854775808 ≤ k) (h2 : k < 9223372036854775808) : CallOK Tryz.prog 84 [dN .i64 k] (.one (dZ k)) :=
  ⟨enter_of Tryz.func84 rfl rfl, fun S w vs hS hv => by
    match vs, hv with
    | [v], ⟨h, _⟩ =>
      obtain rfl := av_val h
      exact (i_FromInt k h1 h2 w).mono fun e w' he => retA_int hS he⟩
theorem ok_r1_FromInt (k : Int) (h1 : -9223372036854775808 ≤ k) (h2 : k < 9223372036854775808) : CallOK Tryz.prog 64 [dN .i64 k] (.one (dZ k)) :=
  ⟨enter_of Tryz.func64 rfl rfl, fun S w vs hS hv => by
    match vs, hv with
    | [v], ⟨h, _⟩ =>
      obtain rfl := av_val h
      exact (r1_FromInt k h1 h2 w).mono fun e w' he => retA_int hS he⟩
theorem ok_same {na nb : Bool} {xs ys : List Nat} {b : Bool} (hw : Wd xs) (hw' : Wd ys) (hb : sameB na nb xs ys = b) : CallOK Tryz.prog 138 [dI na xs, dI nb ys] (.one (dB b)) :=
  ok2 (enter_of Tryz.func138 rfl rfl) hw hw' (fun v u w h k => by have := r1_Same v u na nb xs ys w h k; rwa [hb] at this) (fun _ _ _ _ _ h => retA_B h)
theorem okz_same (a b : Int) : CallOK Tryz.prog 138 [dZ a, dZ b] (.one (dB (decide (a = b)))) := ok_same (Wd_digs _) (Wd_digs _) (sameB_int a b)
theorem toZ_zero {na : Bool} {xs : List Nat} : toZ na xs = 0 ↔ val xs = 0 := by unfold toZ; cases na <;> simp
theorem ok_i_DivMod {na nb : Bool} {xs ys : List Nat} (hw : Wd xs) (hw' : Wd ys) (h1 : Fit xs) (h2 : Fit ys) (h0 : toZ nb ys ≠ 0) {q r : Int} (hq : (toZ na xs).fdiv (toZ nb ys) = q) (hr : (toZ na xs).fmod (toZ nb ys) = r) : CallOK Tryz.prog 131 [dI na xs, dI nb ys] (.tup [dZ q, dZ r, dN .i64 0]) :=
  ok2 (enter_of Tryz.func131 rfl rfl) hw hw' (fun v u w h k => by
    have hy : val ys ≠ 0 := fun e => h0 (toZ_zero.2 e)
    have := i_DivMod v u na nb xs ys w h k h1 h2 (divOk (by have := trim_length hw; unfold trim at this; unfold Fit at h1; omega) (by omega)) hy
    rwa [hq, hr] at this) (fun _ _ _ _ hS h => retA_DM hS h)
theorem ok_r1_DivMod {na nb : Bool} {xs ys : List Nat} (hw : Wd xs) (hw' : Wd ys) (h1 : Fit xs) (h2 : Fit ys) (h0 : toZ nb ys ≠ 0) {q r : Int} (hq : (toZ na xs).fdiv (toZ nb ys) = q) (hr : (toZ na xs).fmod (toZ nb ys) = r) : CallOK Tryz.prog 113 [dI na xs, dI nb ys] (.tup [dZ q, dZ r, dN .i64 0]) :=
  ok2 (enter_of Tryz.func113 rfl rfl) hw hw' (fun v u w h k => by
    have := r1_DivMod v u na nb xs ys w h k h1 h2 h0
    rwa [hq, hr] at this) (fun _ _ _ _ hS h => retA_DM hS h)
end Go.Proofs.YtmpadildchphgaaGreatDoor
namespace Go.Proofs.YtmpadildchphgaaGreatDoor
open Go.ChangeShapes Go.WideShapes Go.ChangeAt Go.RowKit Go.Joins
theorem noS (w : World) (hT : NoWord (fun _ => False) w) : NoWord (fun _ => False) w := hT
theorem law_calls {f : FuncId} {ds : List DV} (h : CallOK Tryz.prog f ds (.one (dB true))) {w : World} (hT : NoWord (fun _ => False) w) {vs : List Value} (hv : VM (fun _ => False) w ds vs) : Calls Tryz.prog f vs.toArray w (RetB true w) :=
  (h.calls _ w vs (noS w hT) hv).mono fun e w' ⟨v, he, hm, hb⟩ => by
    obtain rfl := av_val (show AV.M _ _ _ _ from hm)
    exact ⟨he, hb⟩
end Go.Proofs.YtmpadildchphgaaGreatDoor
namespace Go.Proofs.YtmpadildchphgaaGreatDoor
open Go.RowKit
def dW (xs : List Nat) : DV := .leaf (aW xs)
theorem retA_QR {S : Nat → Prop} {w w' : World} {e : Ending} {q r : Nat} (h : NoWord S w) (hr : RetQR q r w e w') : RetA S (.tup [dW (digs q), dW (digs r)]) w e w' := by
  obtain ⟨A, n, c, B, m, d, rfl, hq, hr, hb⟩ := hr
  refine ⟨_, rfl, ⟨[.slice A n c, .slice B m d], rfl, rfl, fun i x u h1 h2 => ?_⟩, hb⟩
  match i with
  | 0 => simp at h1 h2; subst h1 h2; exact aW_of (h.grow hb) hq
  | 1 => simp at h1 h2; subst h1 h2; exact aW_of (h.grow hb) hr
  | i + 2 => simp at h1
theorem ok_i_trim {xs : List Nat} (hw : Wd xs) : CallOK Tryz.prog 98 [dW xs] (.one (dW (trim xs))) :=
  ⟨enter_of Tryz.func98 rfl rfl, fun S w vs hS hv => by
    match vs, hv with
    | [v], ⟨h, _⟩ =>
      obtain ⟨A, n, c, rfl, hx⟩ := wrd_of h hw
      refine (i_trim A n c xs w hx).mono ?_
      rintro e w' ⟨rfl, rfl⟩
      exact ⟨_, rfl, aW_of hS hx.trim, Below.refl _ _⟩⟩
theorem ok_r1_trim {xs : List Nat} (hw : Wd xs) : CallOK Tryz.prog 110 [dW xs] (.one (dW (trim xs))) :=
  ⟨enter_of Tryz.func110 rfl rfl, fun S w vs hS hv => by
    match vs, hv with
    | [v], ⟨h, _⟩ =>
      obtain ⟨A, n, c, rfl, hx⟩ := wrd_of h hw
      refine (r1_trim A n c xs w hx).mono ?_
      rintro e w' ⟨rfl, rfl⟩
      exact ⟨_, rfl, aW_of hS hx.trim, Below.refl _ _⟩⟩
theorem ok_i_divide {a b : Nat} (h : (digs a).length ≤ 2147483648) (hb : 0 < b) : CallOK Tryz.prog 129 [dW (digs a), dW (digs b)] (.tup [dW (digs (a / b)), dW (digs (a % b))]) :=
  ⟨enter_of Tryz.func129 rfl rfl, fun S w vs hS hv => by
    match vs, hv with
    | [v, u], ⟨h1, h2, _⟩ =>
      obtain ⟨A, n, c, rfl, hx⟩ := wrd_of h1 (Wd_digs _)
      obtain ⟨B, m, d, rfl, hy⟩ := wrd_of h2 (Wd_digs _)
      exact (divOk h hb A n c B m d w hx hy).mono fun e w' he => retA_QR hS he⟩
theorem ok_r1_divide {a b : Nat} (h : (digs a).length ≤ 2147483648) (hb : 0 < b) : CallOK Tryz.prog 111 [dW (digs a), dW (digs b)] (.tup [dW (digs (a / b)), dW (digs (a % b))]) :=
  ⟨enter_of Tryz.func111 rfl rfl, fun S w vs hS hv => by
    match vs, hv with
    | [v, u], ⟨h1, h2, _⟩ =>
      obtain ⟨A, n, c, rfl, hx⟩ := wrd_of h1 (Wd_digs _)
      obtain ⟨B, m, d, rfl, hy⟩ := wrd_of h2 (Wd_digs _)
      exact (rdivOk h hb A n c B m d w hx hy).mono fun e w' he => retA_QR hS he⟩
theorem ok_i_signed {neg : Bool} {xs : List Nat} (hw : Wd xs) {z : Int} (hz : toZ neg xs = z) : CallOK Tryz.prog 99 [dB neg, dW xs] (.one (dZ z)) :=
  ⟨enter_of Tryz.func99 rfl rfl, fun S w vs hS hv => by
    match vs, hv with
    | [v, u], ⟨h1, h2, _⟩ =>
      obtain rfl := av_val h1
      obtain ⟨A, n, c, rfl, hx⟩ := wrd_of h2 hw
      exact (i_signed_z hx hz).mono fun e w' he => retA_int hS he⟩
theorem ok_r1_signed {neg : Bool} {xs : List Nat} (hw : Wd xs) {z : Int} (hz : toZ neg xs = z) : CallOK Tryz.prog 93 [dB neg, dW xs] (.one (dZ z)) :=
  ⟨enter_of Tryz.func93 rfl rfl, fun S w vs hS hv => by
    match vs, hv with
    | [v, u], ⟨h1, h2, _⟩ =>
      obtain rfl := av_val h1
      obtain ⟨A, n, c, rfl, hx⟩ := wrd_of h2 hw
      exact (r1_signed_z hx hz).mono fun e w' he => retA_int hS he⟩
theorem ok_clone {xs : List Nat} (hw : Wd xs) (hl : xs.length ≤ 4294967296) : CallOK Tryz.prog 118 [dW xs] (.one (dW xs)) :=
  ⟨enter_of Tryz.func118 rfl rfl, fun S w vs hS hv => by
    match vs, hv with
    | [v], ⟨h, _⟩ =>
      obtain ⟨A, n, c, rfl, hx⟩ := wrd_of h hw
      refine (clone_u32 A n c xs w hx (by rw [← hx.len]; exact hl)).mono ?_
      rintro e w' ⟨A', n', c', zs, rfl, hz, rfl, hb⟩
      exact ⟨_, rfl, aW_of (hS.grow hb) hz, hb⟩⟩
theorem ok_toUint {xs : List Nat} (hw : Wd xs) (hl : xs.length ≤ 2) : CallOK Tryz.prog 130 [dW xs] (.one (dN .u64 (val xs))) :=
  ⟨enter_of Tryz.func130 rfl rfl, fun S w vs hS hv => by
    match vs, hv with
    | [v], ⟨h, _⟩ =>
      obtain ⟨A, n, c, rfl, hx⟩ := wrd_of h hw
      refine (i_toUint A n c xs w hx (by rw [← hx.len]; exact hl)).mono ?_
      rintro e w' ⟨rfl, hb⟩
      exact ⟨_, rfl, AV.M.val rfl, hb⟩⟩
theorem ok_fromUint (n : Nat) (hn : n < 18446744073709551616) : CallOK Tryz.prog 116 [dN .u64 n] (.one (dW (digs n))) :=
  ⟨enter_of Tryz.func116 rfl rfl, fun S w vs hS hv => by
    match vs, hv with
    | [v], ⟨h, _⟩ =>
      obtain rfl := av_val h
      refine (i_fromUint n hn w).mono ?_
      rintro e w' ⟨A', n', c', zs, rfl, hz, rfl, hb⟩
      exact ⟨_, rfl, aW_of (hS.grow hb) hz, hb⟩⟩
theorem digs_length_zero {n : Nat} : (digs n).length = 0 ↔ n = 0 := by
  constructor
  · intro h; exact digs_eq_nil.1 (List.eq_nil_of_length_eq_zero h)
  · rintro rfl; rw [digs_zero]; rfl
theorem gcd_step {a b : Nat} : Nat.gcd b (a % b) = Nat.gcd a b := by rw [Nat.gcd_comm a b, Nat.gcd_rec b a, Nat.gcd_comm]
set_option maxHeartbeats 1000000 in
theorem ok_r1_GCD {na nb : Bool} {xs ys : List Nat} (hw : Wd xs) (hw' : Wd ys) (h1 : Fit xs) (h2 : Fit ys) : CallOK Tryz.prog 77 [dI na xs, dI nb ys] (.one (dZ (Nat.gcd (val xs) (val ys)))) := by
  have f1 : (digs (val xs)).length ≤ 2147483648 := by have := trim_length hw; unfold trim at this; unfold Fit at h1; omega
  have f2 : (digs (val ys)).length ≤ 2147483648 := by have := trim_length hw'; unfold trim at this; unfold Fit at h2; omega
  refine callOK_of TT_ok mixT Tryz.func77 rfl rfl (Nat.le_of_ble_eq_true rfl) ?_
  repeat (first | refine r_op rfl rfl rfl rfl ?_ | refine r_skip rfl rfl rfl ?_ | refine .done ?_ | refine r_seq (T := TT) ?_ | refine r_region (T := TT) rfl ?_ | refine r_block (T := TT) ?_ | refine r_then (T := TT) rfl ?_ | refine r_else (T := TT) rfl ?_)
  refine r_call (ok_r1_trim hw) rfl rfl rfl rfl rfl rfl rfl ?_
  repeat (first | refine r_op rfl rfl rfl rfl ?_ | refine r_skip rfl rfl rfl ?_ | refine .done ?_ | refine r_seq (T := TT) ?_ | refine r_region (T := TT) rfl ?_ | refine r_block (T := TT) ?_ | refine r_then (T := TT) rfl ?_ | refine r_else (T := TT) rfl ?_)
  refine r_call (ok_r1_trim hw') rfl rfl rfl rfl rfl rfl rfl ?_
  repeat (first | refine r_op rfl rfl rfl rfl ?_ | refine r_skip rfl rfl rfl ?_ | refine .done ?_ | refine r_seq (T := TT) ?_ | refine r_region (T := TT) rfl ?_ | refine r_block (T := TT) ?_ | refine r_then (T := TT) rfl ?_ | refine r_else (T := TT) rfl ?_)
  refine r_loop (Nat × Nat) (fun p => Nat.gcd p.1 p.2 = Nat.gcd (val xs) (val ys) ∧ (digs p.1).length ≤ 2147483648 ∧ (digs p.2).length ≤ 2147483648) (fun p => ⟨[(4, .box 2 0), (5, .d (dW (digs p.1))), (6, .d (dW (digs p.2)))], [(2, some [.val (.bool false), .sl 0 []])]⟩) (fun p => p.2) (val xs, val ys) ⟨rfl, f1, f2⟩ (weak ⟨rfl, rfl, rfl, trivial⟩ ⟨rfl, trivial⟩ rfl) ?_
  rintro ⟨u, v⟩ ⟨hg, g1, g2⟩
  dsimp only at hg g1 g2 ⊢
  repeat (first | refine r_op rfl rfl rfl rfl ?_ | refine r_skip rfl rfl rfl ?_ | refine .done ?_ | refine r_seq (T := TT) ?_ | refine r_region (T := TT) rfl ?_ | refine r_block (T := TT) ?_ | refine r_then (T := TT) rfl ?_ | refine r_else (T := TT) rfl ?_)
  refine r_cond rfl (fun h => ?_) (fun h => ?_)
  · have hv : 0 < v := by
      rcases Nat.eq_zero_or_pos v with hv | hv
      · have := of_decide_eq_true h; rw [digs_length_zero.2 hv] at this; omega
      · exact hv
    refine r_skipc ?_
    repeat (first | refine r_op rfl rfl rfl rfl ?_ | refine r_skip rfl rfl rfl ?_ | refine .done ?_ | refine r_seq (T := TT) ?_ | refine r_region (T := TT) rfl ?_ | refine r_block (T := TT) ?_ | refine r_then (T := TT) rfl ?_ | refine r_else (T := TT) rfl ?_)
    refine r_call (ok_r1_divide g1 hv) rfl rfl rfl rfl rfl rfl rfl ?_
    repeat (first | refine r_op rfl rfl rfl rfl ?_ | refine r_skip rfl rfl rfl ?_ | refine .done ?_ | refine r_seq (T := TT) ?_ | refine r_region (T := TT) rfl ?_ | refine r_block (T := TT) ?_ | refine r_then (T := TT) rfl ?_ | refine r_else (T := TT) rfl ?_)
    have hm := Nat.mod_lt u hv
    refine ⟨(v, u % v), ⟨gcd_step.trans hg, g2, Nat.le_trans (digs_len_mono (Nat.le_of_lt hm)) g2⟩, hm, weak ⟨rfl, rfl, rfl, trivial⟩ ⟨rfl, trivial⟩ rfl⟩
  · have hv : v = 0 := by
      have := of_decide_eq_false h
      exact digs_length_zero.1 (by omega)
    subst hv
    rw [Nat.gcd_zero_right] at hg
    refine r_exit ?_
    repeat (first | refine r_op rfl rfl rfl rfl ?_ | refine r_skip rfl rfl rfl ?_ | refine .done ?_ | refine r_seq (T := TT) ?_ | refine r_region (T := TT) rfl ?_ | refine r_block (T := TT) ?_ | refine r_then (T := TT) rfl ?_ | refine r_else (T := TT) rfl ?_)
    refine r_call (ok_r1_signed (neg := false) (xs := digs u) (Wd_digs _) (show toZ false (digs u) = ((Nat.gcd (val xs) (val ys) : Nat) : Int) by rw [toZ_d, ← hg]; rfl)) rfl rfl rfl rfl rfl rfl rfl ?_
    repeat (first | refine r_op rfl rfl rfl rfl ?_ | refine r_skip rfl rfl rfl ?_ | refine .done ?_ | refine r_seq (T := TT) ?_ | refine r_region (T := TT) rfl ?_ | refine r_block (T := TT) ?_ | refine r_then (T := TT) rfl ?_ | refine r_else (T := TT) rfl ?_)
    exact r_fin (T := TT) rfl rfl
set_option maxHeartbeats 1000000 in
theorem ok_i_GCD {na nb : Bool} {xs ys : List Nat} (hw : Wd xs) (hw' : Wd ys) (h1 : Fit xs) (h2 : Fit ys) : CallOK Tryz.prog 104 [dI na xs, dI nb ys] (.one (dZ (Nat.gcd (val xs) (val ys)))) := by
  have f1 : (digs (val xs)).length ≤ 2147483648 := by have := trim_length hw; unfold trim at this; unfold Fit at h1; omega
  have f2 : (digs (val ys)).length ≤ 2147483648 := by have := trim_length hw'; unfold trim at this; unfold Fit at h2; omega
  refine callOK_of TT_ok mixT Tryz.func104 rfl rfl (Nat.le_of_ble_eq_true rfl) ?_
  repeat (first | refine r_op rfl rfl rfl rfl ?_ | refine r_skip rfl rfl rfl ?_ | refine .done ?_ | refine r_seq (T := TT) ?_ | refine r_region (T := TT) rfl ?_ | refine r_block (T := TT) ?_ | refine r_then (T := TT) rfl ?_ | refine r_else (T := TT) rfl ?_)
  refine r_call (ok_i_trim hw) rfl rfl rfl rfl rfl rfl rfl ?_
  repeat (first | refine r_op rfl rfl rfl rfl ?_ | refine r_skip rfl rfl rfl ?_ | refine .done ?_ | refine r_seq (T := TT) ?_ | refine r_region (T := TT) rfl ?_ | refine r_block (T := TT) ?_ | refine r_then (T := TT) rfl ?_ | refine r_else (T := TT) rfl ?_)
  refine r_call (ok_i_trim hw') rfl rfl rfl rfl rfl rfl rfl ?_
  repeat (first | refine r_op rfl rfl rfl rfl ?_ | refine r_skip rfl rfl rfl ?_ | refine .done ?_ | refine r_seq (T := TT) ?_ | refine r_region (T := TT) rfl ?_ | refine r_block (T := TT) ?_ | refine r_then (T := TT) rfl ?_ | refine r_else (T := TT) rfl ?_)
  refine r_loop (Nat × Nat) (fun p => Nat.gcd p.1 p.2 = Nat.gcd (val xs) (val ys) ∧ (digs p.1).length ≤ 2147483648 ∧ (digs p.2).length ≤ 2147483648) (fun p => ⟨[(4, .box 2 0), (5, .d (dW (digs p.1))), (6, .d (dW (digs p.2)))], [(2, some [.val (.bool false), .sl 0 []])]⟩) (fun p => p.2) (val xs, val ys) ⟨rfl, f1, f2⟩ (weak ⟨rfl, rfl, rfl, trivial⟩ ⟨rfl, trivial⟩ rfl) ?_
  rintro ⟨u, v⟩ ⟨hg, g1, g2⟩
  dsimp only at hg g1 g2 ⊢
  by_cases hb : 2 < (digs v).length ∨ (2 < (digs u).length ∧ 0 < (digs v).length)
  · have hv : 0 < v := by
      rcases Nat.eq_zero_or_pos v with hv | hv
      · rw [hv, digs_zero] at hb; simp at hb
      · exact hv
    have hm := Nat.mod_lt u hv
    by_cases h2 : 2 < (digs v).length
    · refine r_seq ?_
      refine r_region rfl ?_
      iterate 2 (first | refine r_op rfl rfl rfl rfl ?_ | refine r_skip rfl rfl rfl ?_)
      refine r_eq (v' := .bool true) rfl rfl rfl rfl ?_ ?_
      · exact congrArg Value.bool (decide_eq_true (by omega))
      repeat (first | refine r_op rfl rfl rfl rfl ?_ | refine r_skip rfl rfl rfl ?_ | refine .done ?_ | refine r_seq (T := TT) ?_ | refine r_region (T := TT) rfl ?_ | refine r_block (T := TT) ?_ | refine r_then (T := TT) rfl ?_ | refine r_else (T := TT) rfl ?_)
      refine r_call (ok_i_divide g1 hv) rfl rfl rfl rfl rfl rfl rfl ?_
      repeat (first | refine r_op rfl rfl rfl rfl ?_ | refine r_skip rfl rfl rfl ?_ | refine .done ?_ | refine r_seq (T := TT) ?_ | refine r_region (T := TT) rfl ?_ | refine r_block (T := TT) ?_ | refine r_then (T := TT) rfl ?_ | refine r_else (T := TT) rfl ?_)
      exact ⟨(v, u % v), ⟨gcd_step.trans hg, g2, Nat.le_trans (digs_len_mono (Nat.le_of_lt hm)) g2⟩, hm, weak ⟨rfl, rfl, rfl, trivial⟩ ⟨rfl, trivial⟩ rfl⟩
    · have h3 : 2 < (digs u).length ∧ 0 < (digs v).length := by omega
      refine r_seq ?_
      refine r_region rfl ?_
      iterate 2 (first | refine r_op rfl rfl rfl rfl ?_ | refine r_skip rfl rfl rfl ?_)
      refine r_eq (v' := .bool false) rfl rfl rfl rfl ?_ ?_
      · exact congrArg Value.bool (decide_eq_false (by omega))
      iterate 3 (first | refine r_op rfl rfl rfl rfl ?_ | refine r_skip rfl rfl rfl ?_)
      refine r_eq (v' := .bool true) rfl rfl rfl rfl ?_ ?_
      · exact congrArg Value.bool (decide_eq_true (by omega))
      iterate 3 (first | refine r_op rfl rfl rfl rfl ?_ | refine r_skip rfl rfl rfl ?_)
      refine r_eq (v' := .bool true) rfl rfl rfl rfl ?_ ?_
      · exact congrArg Value.bool (decide_eq_true (by omega))
      repeat (first | refine r_op rfl rfl rfl rfl ?_ | refine r_skip rfl rfl rfl ?_ | refine .done ?_ | refine r_seq (T := TT) ?_ | refine r_region (T := TT) rfl ?_ | refine r_block (T := TT) ?_ | refine r_then (T := TT) rfl ?_ | refine r_else (T := TT) rfl ?_)
      refine r_call (ok_i_divide g1 hv) rfl rfl rfl rfl rfl rfl rfl ?_
      repeat (first | refine r_op rfl rfl rfl rfl ?_ | refine r_skip rfl rfl rfl ?_ | refine .done ?_ | refine r_seq (T := TT) ?_ | refine r_region (T := TT) rfl ?_ | refine r_block (T := TT) ?_ | refine r_then (T := TT) rfl ?_ | refine r_else (T := TT) rfl ?_)
      exact ⟨(v, u % v), ⟨gcd_step.trans hg, g2, Nat.le_trans (digs_len_mono (Nat.le_of_lt hm)) g2⟩, hm, weak ⟨rfl, rfl, rfl, trivial⟩ ⟨rfl, trivial⟩ rfl⟩
  · have hz : v = 0 ∨ (0 < v ∧ (digs v).length ≤ 2 ∧ (digs u).length ≤ 2) := by
      rcases Nat.eq_zero_or_pos v with hv | hv
      · exact .inl hv
      · have : 0 < (digs v).length := by
          rcases Nat.eq_zero_or_pos (digs v).length with h | h
          · have := digs_length_zero.1 h; omega
          · exact h
        exact .inr ⟨hv, by omega, by omega⟩
    rcases hz with hv | ⟨hv, hv2, hu2⟩
    · subst hv
      rw [Nat.gcd_zero_right] at hg
      have hl0 : (digs 0).length = 0 := digs_length_zero.2 rfl
      by_cases hu2 : 2 < (digs u).length
      · refine r_seq ?_
        refine r_region rfl ?_
        iterate 2 (first | refine r_op rfl rfl rfl rfl ?_ | refine r_skip rfl rfl rfl ?_)
        refine r_eq (v' := .bool false) rfl rfl rfl rfl ?_ ?_
        · exact congrArg Value.bool (decide_eq_false (by omega))
        iterate 3 (first | refine r_op rfl rfl rfl rfl ?_ | refine r_skip rfl rfl rfl ?_)
        refine r_eq (v' := .bool true) rfl rfl rfl rfl ?_ ?_
        · exact congrArg Value.bool (decide_eq_true (by omega))
        iterate 3 (first | refine r_op rfl rfl rfl rfl ?_ | refine r_skip rfl rfl rfl ?_)
        refine r_eq (v' := .bool false) rfl rfl rfl rfl ?_ ?_
        · exact congrArg Value.bool (decide_eq_false (by omega))
        repeat (first | refine r_op rfl rfl rfl rfl ?_ | refine r_skip rfl rfl rfl ?_ | refine .done ?_ | refine r_seq (T := TT) ?_ | refine r_region (T := TT) rfl ?_ | refine r_block (T := TT) ?_ | refine r_then (T := TT) rfl ?_ | refine r_else (T := TT) rfl ?_)
        refine r_then2 (T := TT) rfl ?_ ?_
        · exact (by rw [hl0]; rfl)
        repeat (first | refine r_op rfl rfl rfl rfl ?_ | refine r_skip rfl rfl rfl ?_ | refine .done ?_ | refine r_seq (T := TT) ?_ | refine r_region (T := TT) rfl ?_ | refine r_block (T := TT) ?_ | refine r_then (T := TT) rfl ?_ | refine r_else (T := TT) rfl ?_)
        refine r_call (ok_clone (Wd_digs u) (by omega)) rfl rfl rfl rfl rfl rfl rfl ?_
        repeat (first | refine r_op rfl rfl rfl rfl ?_ | refine r_skip rfl rfl rfl ?_ | refine .done ?_ | refine r_seq (T := TT) ?_ | refine r_region (T := TT) rfl ?_ | refine r_block (T := TT) ?_ | refine r_then (T := TT) rfl ?_ | refine r_else (T := TT) rfl ?_)
        refine r_call (ok_i_signed (neg := false) (xs := digs u) (Wd_digs _) (show toZ false (digs u) = ((Nat.gcd (val xs) (val ys) : Nat) : Int) by rw [toZ_d, ← hg]; rfl)) rfl rfl rfl rfl rfl rfl rfl ?_
        repeat (first | refine r_op rfl rfl rfl rfl ?_ | refine r_skip rfl rfl rfl ?_ | refine .done ?_ | refine r_seq (T := TT) ?_ | refine r_region (T := TT) rfl ?_ | refine r_block (T := TT) ?_ | refine r_then (T := TT) rfl ?_ | refine r_else (T := TT) rfl ?_)
        exact r_fin (T := TT) rfl rfl
      · refine r_seq ?_
        refine r_region rfl ?_
        iterate 2 (first | refine r_op rfl rfl rfl rfl ?_ | refine r_skip rfl rfl rfl ?_)
        refine r_eq (v' := .bool false) rfl rfl rfl rfl ?_ ?_
        · exact congrArg Value.bool (decide_eq_false (by omega))
        iterate 3 (first | refine r_op rfl rfl rfl rfl ?_ | refine r_skip rfl rfl rfl ?_)
        refine r_eq (v' := .bool false) rfl rfl rfl rfl ?_ ?_
        · exact congrArg Value.bool (decide_eq_false (by omega))
        repeat (first | refine r_op rfl rfl rfl rfl ?_ | refine r_skip rfl rfl rfl ?_ | refine .done ?_ | refine r_seq (T := TT) ?_ | refine r_region (T := TT) rfl ?_ | refine r_block (T := TT) ?_ | refine r_then (T := TT) rfl ?_ | refine r_else (T := TT) rfl ?_)
        refine r_then2 (T := TT) rfl ?_ ?_
        · exact (by rw [hl0]; rfl)
        repeat (first | refine r_op rfl rfl rfl rfl ?_ | refine r_skip rfl rfl rfl ?_ | refine .done ?_ | refine r_seq (T := TT) ?_ | refine r_region (T := TT) rfl ?_ | refine r_block (T := TT) ?_ | refine r_then (T := TT) rfl ?_ | refine r_else (T := TT) rfl ?_)
        refine r_call (ok_clone (Wd_digs u) (by omega)) rfl rfl rfl rfl rfl rfl rfl ?_
        repeat (first | refine r_op rfl rfl rfl rfl ?_ | refine r_skip rfl rfl rfl ?_ | refine .done ?_ | refine r_seq (T := TT) ?_ | refine r_region (T := TT) rfl ?_ | refine r_block (T := TT) ?_ | refine r_then (T := TT) rfl ?_ | refine r_else (T := TT) rfl ?_)
        refine r_call (ok_i_signed (neg := false) (xs := digs u) (Wd_digs _) (show toZ false (digs u) = ((Nat.gcd (val xs) (val ys) : Nat) : Int) by rw [toZ_d, ← hg]; rfl)) rfl rfl rfl rfl rfl rfl rfl ?_
        repeat (first | refine r_op rfl rfl rfl rfl ?_ | refine r_skip rfl rfl rfl ?_ | refine .done ?_ | refine r_seq (T := TT) ?_ | refine r_region (T := TT) rfl ?_ | refine r_block (T := TT) ?_ | refine r_then (T := TT) rfl ?_ | refine r_else (T := TT) rfl ?_)
        exact r_fin (T := TT) rfl rfl
    · have hvl : 0 < (digs v).length := by
        rcases Nat.eq_zero_or_pos (digs v).length with h | h
        · have := digs_length_zero.1 h; omega
        · exact h
      have hu64 : u < 18446744073709551616 := by have := lt_of_digs hu2; simpa using this
      have hv64 : v < 18446744073709551616 := by have := lt_of_digs hv2; simpa using this
      refine r_seq ?_
      refine r_region rfl ?_
      iterate 2 (first | refine r_op rfl rfl rfl rfl ?_ | refine r_skip rfl rfl rfl ?_)
      refine r_eq (v' := .bool false) rfl rfl rfl rfl ?_ ?_
      · exact congrArg Value.bool (decide_eq_false (by omega))
      iterate 3 (first | refine r_op rfl rfl rfl rfl ?_ | refine r_skip rfl rfl rfl ?_)
      refine r_eq (v' := .bool false) rfl rfl rfl rfl ?_ ?_
      · exact congrArg Value.bool (decide_eq_false (by omega))
      repeat (first | refine r_op rfl rfl rfl rfl ?_ | refine r_skip rfl rfl rfl ?_ | refine .done ?_ | refine r_seq (T := TT) ?_ | refine r_region (T := TT) rfl ?_ | refine r_block (T := TT) ?_ | refine r_then (T := TT) rfl ?_ | refine r_else (T := TT) rfl ?_)
      refine r_else2 (T := TT) rfl ?_ ?_
      · exact beq_eq_false_iff_ne.2 (by omega)
      repeat (first | refine r_op rfl rfl rfl rfl ?_ | refine r_skip rfl rfl rfl ?_ | refine .done ?_ | refine r_seq (T := TT) ?_ | refine r_region (T := TT) rfl ?_ | refine r_block (T := TT) ?_ | refine r_then (T := TT) rfl ?_ | refine r_else (T := TT) rfl ?_)
      refine r_call (ok_toUint (Wd_digs u) hu2) rfl rfl rfl rfl rfl rfl rfl ?_
      repeat (first | refine r_op rfl rfl rfl rfl ?_ | refine r_skip rfl rfl rfl ?_ | refine .done ?_ | refine r_seq (T := TT) ?_ | refine r_region (T := TT) rfl ?_ | refine r_block (T := TT) ?_ | refine r_then (T := TT) rfl ?_ | refine r_else (T := TT) rfl ?_)
      refine r_call (ok_toUint (Wd_digs v) hv2) rfl rfl rfl rfl rfl rfl rfl ?_
      repeat (first | refine r_op rfl rfl rfl rfl ?_ | refine r_skip rfl rfl rfl ?_ | refine .done ?_ | refine r_seq (T := TT) ?_ | refine r_region (T := TT) rfl ?_ | refine r_block (T := TT) ?_ | refine r_then (T := TT) rfl ?_ | refine r_else (T := TT) rfl ?_)
      rw [val_digs, val_digs]
      refine r_loop (Nat × Nat) (fun p => Nat.gcd p.1 p.2 = Nat.gcd (val xs) (val ys) ∧ p.1 < 18446744073709551616 ∧ p.2 < 18446744073709551616) (fun p => ⟨[(4, .box 2 0), (9, .d (dN .u64 p.1)), (10, .d (dN .u64 p.2))], [(2, some [.val (.bool false), .sl 0 []])]⟩) (fun p => p.2) (u, v) ⟨hg, hu64, hv64⟩ (weak ⟨rfl, rfl, rfl, trivial⟩ ⟨rfl, trivial⟩ rfl) ?_
      clear hg hu64 hv64 g1 g2 hu2 hv2 hvl hv hb
      clear u v
      rintro ⟨u, v⟩ ⟨hg, hu, hv⟩
      dsimp only at hg hu hv ⊢
      rcases Nat.eq_zero_or_pos v with h0 | h0
      · subst h0
        rw [Nat.gcd_zero_right] at hg
        repeat (first | refine r_op rfl rfl rfl rfl ?_ | refine r_skip rfl rfl rfl ?_ | refine .done ?_ | refine r_seq (T := TT) ?_ | refine r_region (T := TT) rfl ?_ | refine r_block (T := TT) ?_ | refine r_then (T := TT) rfl ?_ | refine r_else (T := TT) rfl ?_)
        refine r_call (ok_fromUint u hu) rfl rfl rfl rfl rfl rfl rfl ?_
        repeat (first | refine r_op rfl rfl rfl rfl ?_ | refine r_skip rfl rfl rfl ?_ | refine .done ?_ | refine r_seq (T := TT) ?_ | refine r_region (T := TT) rfl ?_ | refine r_block (T := TT) ?_ | refine r_then (T := TT) rfl ?_ | refine r_else (T := TT) rfl ?_)
        refine r_call (ok_i_signed (neg := false) (xs := digs u) (Wd_digs _) (show toZ false (digs u) = ((Nat.gcd (val xs) (val ys) : Nat) : Int) by rw [toZ_d, ← hg]; rfl)) rfl rfl rfl rfl rfl rfl rfl ?_
        repeat (first | refine r_op rfl rfl rfl rfl ?_ | refine r_skip rfl rfl rfl ?_ | refine .done ?_ | refine r_seq (T := TT) ?_ | refine r_region (T := TT) rfl ?_ | refine r_block (T := TT) ?_ | refine r_then (T := TT) rfl ?_ | refine r_else (T := TT) rfl ?_)
        exact r_fin (T := TT) rfl rfl
      · refine r_seq ?_
        refine r_seq ?_
        refine r_region rfl ?_
        iterate 1 (first | refine r_op rfl rfl rfl rfl ?_ | refine r_skip rfl rfl rfl ?_)
        refine r_eq (v' := .bool true) rfl rfl rfl rfl ?_ ?_
        · exact congrArg Value.bool (bne_iff_ne.2 (by omega))
        repeat (first | refine r_op rfl rfl rfl rfl ?_ | refine r_skip rfl rfl rfl ?_ | refine .done ?_ | refine r_seq (T := TT) ?_ | refine r_region (T := TT) rfl ?_ | refine r_block (T := TT) ?_ | refine r_then (T := TT) rfl ?_ | refine r_else (T := TT) rfl ?_)
        refine r_bin rfl rfl rfl rfl ?_ rfl rfl (binV_rem (by omega)) ?_
        · rfl
        repeat (first | refine r_op rfl rfl rfl rfl ?_ | refine r_skip rfl rfl rfl ?_ | refine .done ?_ | refine r_seq (T := TT) ?_ | refine r_region (T := TT) rfl ?_ | refine r_block (T := TT) ?_ | refine r_then (T := TT) rfl ?_ | refine r_else (T := TT) rfl ?_)
        have hm := Nat.mod_lt u h0
        refine ⟨(v, u % v), ⟨gcd_step.trans hg, hv, by dsimp only; omega⟩, hm, weak ⟨rfl, rfl, ?_, trivial⟩ ⟨rfl, trivial⟩ rfl⟩
        show TV.d (.leaf (.val (.int .u64 ((u : Int).tmod v)))) = TV.d (dN .u64 ((u % v : Nat) : Int))
        rw [Int.ofNat_tmod]
        rfl
end Go.Proofs.YtmpadildchphgaaGreatDoor
namespace Go.Proofs.YtmpadildchphgaaGreatDoor
open Go.RowKit
def Bs (l : List UInt8) : ByteArray := ⟨l.toArray⟩
def dL (l : List UInt8) : DV := dS (Bs l)
def vL (l : List UInt8) : Value := .string (Bs l)
theorem Bs_of (s : ByteArray) : Bs s.data.toList = s := rfl
theorem Bs_size (l : List UInt8) : (Bs l).size = l.length := by simp [Bs, ByteArray.size]
theorem Bs_toList (l : List UInt8) : (Bs l).toList = l := ByteArray.toList_mk l
theorem Bs_append (a b : List UInt8) : Bs a ++ Bs b = Bs (a ++ b) := by
  apply ByteArray.ext
  simp [Bs]
theorem Bs_extract (l : List UInt8) (i j : Nat) : (Bs l).extract i j = Bs ((l.take j).drop i) := by
  apply ByteArray.ext
  simp [Bs, ByteArray.data_extract, List.extract_eq_take_drop, List.drop_take]
theorem binV_eqS {t : TypeId} {x y : Operand} {a b : List UInt8} : binV .eql t x y (vL a) (vL b) = some (.bool (decide (a = b))) := by
  show some (Value.bool ((Bs a).toList == (Bs b).toList)) = _
  rw [Bs_toList, Bs_toList]
  congr 2
  by_cases h : a = b <;> simp [h]
theorem binV_neS {t : TypeId} {x y : Operand} {a b : List UInt8} : binV .neq t x y (vL a) (vL b) = some (.bool (!decide (a = b))) := by
  show some (Value.bool (!((Bs a).toList == (Bs b).toList))) = _
  rw [Bs_toList, Bs_toList]
  congr 3
  by_cases h : a = b <;> simp [h]
theorem binV_cat {t : TypeId} {x y : Operand} {a b : List UInt8} (h : a.length + b.length ≤ 9223372036854775807) : binV .add t x y (vL a) (vL b) = some (vL (a ++ b)) := by
  have h1 : ¬ (((Bs a).size + (Bs b).size : Nat) : Int) > IntKind.i64.max := by
    rw [Bs_size, Bs_size, show IntKind.i64.max = 9223372036854775807 from by decide]
    omega
  have : binOp .add t (vL a) (vL b) = .pure (vL (a ++ b)) := by
    simp only [binOp, vL, Op.stringOp, h1, if_false, Bs_append]
    rfl
  show semV (do eqGuard .add t x y (vL a) (vL b); binOp .add t (vL a) (vL b)) = _
  simp only [this]
  rfl
section
variable {P : Program} {T : TypeId → Option Ty} {n : Nat} {ops : Array Oper} {id : Nat} {draw : Bool} {K : AS → Prop} {s : AS} {k : Nat} {o : Oper} {os : List Oper} {fps : List FP}
theorem str_of {t : TypeId} {ty : Ty} (hT : TyOK P t ty) (hs : ty.isStr = true) : P.underlying t = some .string := by
  obtain ⟨d, hu, _, _, _, _, hst, _⟩ := hT.und
  rw [hu, hst hs]
theorem r_sidx (hT : ∀ t d, T t = some d → TyOK P t d) {t : TypeId} {ty : Ty} {x y : Operand} {l : List UInt8} {c : UInt8} {i : Nat} {ik : IntKind} (hi : l[i]? = some c) (h1 : gd ops s o = some true) (h2 : o.op = .index t x y) (h5 : T t = some ty) (h6 : ty.isStr = true) (h7 : s.ev x = .d (.leaf (.val (vL l)))) (h8 : s.ev y = .d (.leaf (.val (.int ik (i : Nat)))))
    (h3 : dstOK n o.dst = true) (h4 : chk draw ops (fpOf ops o ⟨.d (dN .u8 c.toNat), none⟩ []) k fps = true) (h : AOps P T n ops id draw K (k + 1) os (s.eff o.dst ⟨.d (dN .u8 c.toNat), none⟩) (fpOf ops o ⟨.d (dN .u8 c.toNat), none⟩ [] :: fps)) : AOps P T n ops id draw K k (o :: os) s fps := by
  refine .run h1 (.gen fun s2 ht _ => ?_) h3 h4 h
  have hx := (rt_op ht (x := x) (by simp [h2, Op.operands])).trans h7
  have hy := (rt_op ht (x := y) (by simp [h2, Op.operands])).trans h8
  have hu := str_of (hT _ _ h5) h6
  have hl : i < l.length := (List.getElem?_eq_some_iff.1 hi).1
  refine sound_val fun n S0 w0 g a w hM => ⟨.int .u8 c.toNat, w, ?_, Below.refl _ _, AV.M.val rfl⟩
  unfold execOp
  rw [h2]
  have hsz := Bs_size l
  have hget : (Bs l)[i]'(by rw [hsz]; exact hl) = c := by
    have := (List.getElem?_eq_some_iff.1 hi).2
    show (Bs l).data[i]'_ = c
    simpa [Bs] using this
  simp only [ev_val hM hx, ev_val hM hy, vL, Sem.run_bind, run_index_string _ t (Bs l) ik i hu]
  rw [dif_pos (by rw [hsz]; omega)]
  simp only [Result.andThen_ok, Int.toNat_natCast, hget]
  rfl
theorem r_slo (hT : ∀ t d, T t = some d → TyOK P t d) {t : TypeId} {ty : Ty} {x y : Operand} {l : List UInt8} {i : Nat} {ik : IntKind} (hi : i ≤ l.length) (h1 : gd ops s o = some true) (h2 : o.op = .slice t x (some y) none none) (h5 : T t = some ty) (h6 : ty.isStr = true) (h7 : s.ev x = .d (.leaf (.val (vL l)))) (h8 : s.ev y = .d (.leaf (.val (.int ik (i : Nat)))))
    (h3 : dstOK n o.dst = true) (h4 : chk draw ops (fpOf ops o ⟨.d (dL (l.drop i)), none⟩ []) k fps = true) (h : AOps P T n ops id draw K (k + 1) os (s.eff o.dst ⟨.d (dL (l.drop i)), none⟩) (fpOf ops o ⟨.d (dL (l.drop i)), none⟩ [] :: fps)) : AOps P T n ops id draw K k (o :: os) s fps := by
  refine .run h1 (.gen fun s2 ht _ => ?_) h3 h4 h
  have hx := (rt_op ht (x := x) (by simp [h2, Op.operands])).trans h7
  have hy := (rt_op ht (x := y) (by simp [h2, Op.operands])).trans h8
  have hu := str_of (hT _ _ h5) h6
  refine sound_val fun n S0 w0 g a w hM => ⟨vL (l.drop i), w, ?_, Below.refl _ _, AV.M.val rfl⟩
  unfold execOp
  rw [h2]
  have e1 : (Instr.sliceAt t (.string (Bs l)) (some (.int ik i)) none none).run P w = .ok (vL (l.drop i)) w := by
    unfold Instr.sliceAt
    simp only [Sem.run_bind, run_underlying hu w, Result.andThen_ok]
    rw [run_slice_string_l w t (Bs l) hu ik i (by omega) (by rw [Bs_size]; omega), Bs_extract, Bs_size]
    simp [vL]
  simp only [ev_val hM hx, ev_val hM hy, vL, Option.map_some, Option.map_none, Sem.run_bind, e1, Result.andThen_ok]
  rfl
end
end Go.Proofs.YtmpadildchphgaaGreatDoor
namespace Go.Proofs.YtmpadildchphgaaGreatDoor
open Go.RowKit
theorem binV_eqT {t : TypeId} {x y : Operand} {a b : List UInt8} (h : a = b) : binV .eql t x y (vL a) (vL b) = some (.bool true) := by rw [binV_eqS, decide_eq_true h]
theorem binV_eqF {t : TypeId} {x y : Operand} {a b : List UInt8} (h : a ≠ b) : binV .eql t x y (vL a) (vL b) = some (.bool false) := by rw [binV_eqS, decide_eq_false h]
theorem binV_neT {t : TypeId} {x y : Operand} {a b : List UInt8} (h : a ≠ b) : binV .neq t x y (vL a) (vL b) = some (.bool true) := by rw [binV_neS, decide_eq_false h]; rfl
theorem binV_neF {t : TypeId} {x y : Operand} {a b : List UInt8} (h : a = b) : binV .neq t x y (vL a) (vL b) = some (.bool false) := by rw [binV_neS, decide_eq_true h]; rfl
section
variable {P : Program} {T : TypeId → Option Ty} {n : Nat} {ops : Array Oper} {id : Nat} {draw : Bool} {K : AS → Prop} {s : AS} {k : Nat} {o : Oper} {os : List Oper} {fps : List FP}
theorem r_shi (hT : ∀ t d, T t = some d → TyOK P t d) {t : TypeId} {ty : Ty} {x y : Operand} {l : List UInt8} {i : Nat} {ik : IntKind} (hi : i ≤ l.length) (h1 : gd ops s o = some true) (h2 : o.op = .slice t x none (some y) none) (h5 : T t = some ty) (h6 : ty.isStr = true) (h7 : s.ev x = .d (.leaf (.val (vL l)))) (h8 : s.ev y = .d (.leaf (.val (.int ik (i : Nat)))))
    (h3 : dstOK n o.dst = true) (h4 : chk draw ops (fpOf ops o ⟨.d (dL (l.take i)), none⟩ []) k fps = true) (h : AOps P T n ops id draw K (k + 1) os (s.eff o.dst ⟨.d (dL (l.take i)), none⟩) (fpOf ops o ⟨.d (dL (l.take i)), none⟩ [] :: fps)) : AOps P T n ops id draw K k (o :: os) s fps := by
  refine .run h1 (.gen fun s2 ht _ => ?_) h3 h4 h
  have hx := (rt_op ht (x := x) (by simp [h2, Op.operands])).trans h7
  have hy := (rt_op ht (x := y) (by simp [h2, Op.operands])).trans h8
  have hu := str_of (hT _ _ h5) h6
  refine sound_val fun n S0 w0 g a w hM => ⟨vL (l.take i), w, ?_, Below.refl _ _, AV.M.val rfl⟩
  unfold execOp
  rw [h2]
  have e1 : (Instr.sliceAt t (.string (Bs l)) none (some (.int ik i)) none).run P w = .ok (vL (l.take i)) w := by
    unfold Instr.sliceAt
    simp only [Sem.run_bind, run_underlying hu w, Result.andThen_ok]
    rw [run_slice_string_h w t (Bs l) hu ik i (by omega) (by rw [Bs_size]; omega), Bs_extract]
    simp [vL]
  simp only [ev_val hM hx, ev_val hM hy, vL, Option.map_some, Option.map_none, Sem.run_bind, e1, Result.andThen_ok]
  rfl
end
end Go.Proofs.YtmpadildchphgaaGreatDoor
namespace Go.Proofs.YtmpadildchphgaaGreatDoor
def dg (k : Nat) : UInt8 := UInt8.ofNat (48 + k)
theorem dg_toNat {k : Nat} (h : k < 10) : (dg k).toNat = 48 + k := by unfold dg; rw [UInt8.toNat_ofNat']; omega
def dec (n : Nat) : List UInt8 := if _h : n = 0 then [] else dec (n / 10) ++ [dg (n % 10)]
termination_by n
decreasing_by omega
theorem dec_zero : dec 0 = [] := by rw [dec]; simp
theorem dec_pos {n : Nat} (h : n ≠ 0) : dec n = dec (n / 10) ++ [dg (n % 10)] := by rw [dec]; simp [h]
def fmt (z : Int) : List UInt8 := if z = 0 then [48] else (if z < 0 then [45] else []) ++ dec z.natAbs
def dv (c : UInt8) : Nat := c.toNat - 48
def isD (c : UInt8) : Prop := 48 ≤ c.toNat ∧ c.toNat ≤ 57
instance (c : UInt8) : Decidable (isD c) := inferInstanceAs (Decidable (_ ∧ _))
def num (l : List UInt8) : Nat := l.foldl (fun a c => 10 * a + dv c) 0
theorem dec_len : ∀ (k n : Nat), n < 10 ^ k → (dec n).length ≤ k
  | 0, n, h => by simp at h; subst h; rw [dec_zero]; simp
  | k + 1, n, h => by
    by_cases h0 : n = 0
    · subst h0; rw [dec_zero]; simp
    · rw [dec_pos h0, List.length_append]
      have := dec_len k (n / 10) (by rw [Nat.pow_succ] at h; omega)
      simp; omega
def okT (neg : Bool) (ds : List UInt8) : Prop := ds ≠ [] ∧ (∀ c ∈ ds, isD c) ∧ ((∀ c r, ds = c :: r → c ≠ 48) ∨ (ds.length = 1 ∧ neg = false))
def sgnd (neg : Bool) (n : Nat) : Int := if neg then -(n : Int) else n
def sg (neg : Bool) (ds : List UInt8) : List UInt8 := if neg then 45 :: ds else ds
end Go.Proofs.YtmpadildchphgaaGreatDoor
namespace Go.Proofs.YtmpadildchphgaaGreatDoor
def pneg : List UInt8 → Bool
  | c :: _ => c == 45
  | [] => false
def pds : List UInt8 → List UInt8
  | c :: r => if c == 45 then r else c :: r
  | [] => []
def pok (s : List UInt8) : Prop := s.length ≤ 65536 ∧ okT (pneg s) (pds s)
open Classical in
noncomputable def pz (s : List UInt8) : Int × Int := if pok s then (sgnd (pneg s) (num (pds s)), 0) else (0, 2)
theorem e0 : aZ 0 = [.val (.bool false), .sl 0 []] := by
  unfold aZ aI aW
  rw [show (0 : Int).natAbs = 0 from rfl, digs_zero]
  rfl
end Go.Proofs.YtmpadildchphgaaGreatDoor
namespace Go.Proofs.YtmpadildchphgaaGreatDoor
def dk : Nat → Nat → List UInt8
  | 0, _ => []
  | k + 1, c => dk k (c / 10) ++ [dg (c % 10)]
def dd (c : Nat) : List UInt8 := if c = 0 then [48] else dec c
theorem dec_split (k m c : Nat) (hm : 0 < m) (hc : c < 10 ^ k) : dec (m * 10 ^ k + c) = dec m ++ dk k c := by
  induction k generalizing c with
  | zero => simp at hc; subst hc; simp [dk]
  | succ k ih =>
    rw [Nat.pow_succ] at hc
    have hp : 0 < 10 ^ k := Nat.pow_pos (by decide)
    have hmp : 0 < m * 10 ^ k := Nat.mul_pos hm hp
    have e : m * 10 ^ (k + 1) + c = 10 * (m * 10 ^ k) + c := by rw [Nat.pow_succ, ← Nat.mul_assoc, Nat.mul_comm]
    rw [e, dec_pos (by omega), show (10 * (m * 10 ^ k) + c) / 10 = m * 10 ^ k + c / 10 by omega, show (10 * (m * 10 ^ k) + c) % 10 = c % 10 by omega, ih (c / 10) (by omega), dk, List.append_assoc]
theorem dk_zero (k : Nat) : dk k 0 = List.replicate k 48 := by
  induction k with
  | zero => rfl
  | succ k ih => rw [dk, Nat.zero_div, ih, List.replicate_succ']; rfl
theorem dd_small {c : Nat} (h : c < 10) : dd c = [dg c] := by
  unfold dd
  by_cases h0 : c = 0
  · subst h0; rfl
  · rw [if_neg h0, dec_pos h0, show c / 10 = 0 by omega, dec_zero, show c % 10 = c by omega]; rfl
theorem dd_big {c : Nat} (h : 10 ≤ c) : dd c = dd (c / 10) ++ [dg (c % 10)] := by
  unfold dd
  rw [if_neg (by omega), if_neg (by omega), dec_pos (by omega)]
theorem dk_dd (k : Nat) : ∀ c, c < 10 ^ (k + 1) → (dd c).length ≤ k + 1 ∧ dk (k + 1) c = List.replicate (k + 1 - (dd c).length) 48 ++ dd c := by
  induction k with
  | zero =>
    intro c hc
    have : c < 10 := by simpa using hc
    rw [dd_small this, dk, dk, show c % 10 = c by omega]
    exact ⟨Nat.le_refl _, rfl⟩
  | succ k ih =>
    intro c hc
    by_cases h : c < 10
    · rw [dd_small h, dk, show c / 10 = 0 by omega, dk_zero, show c % 10 = c by omega]
      exact ⟨by simp, by simp⟩
    · rw [Nat.pow_succ] at hc
      obtain ⟨h1, h2⟩ := ih (c / 10) (by omega)
      rw [dd_big (by omega), dk, h2, List.length_append, List.length_singleton]
      refine ⟨by omega, ?_⟩
      rw [show k + 1 + 1 - ((dd (c / 10)).length + 1) = k + 1 - (dd (c / 10)).length by omega, List.append_assoc]
theorem decDigits_dd (u : Nat) : Lib.decDigits u = dd u := by
  induction u using Nat.strongRecOn with
  | _ u ih =>
    by_cases h : u < 10
    · rw [Lib.decDigits, dif_pos h, dd_small h]; rfl
    · rw [Lib.decDigits, dif_neg h, dd_big (by omega), ih _ (by omega)]; rfl
def pad9 (c : Nat) : List UInt8 := List.replicate (9 - (dd c).length) 48 ++ dd c
theorem dec_split9 (m c : Nat) (hm : 0 < m) (hc : c < 1000000000) : dec (m * 1000000000 + c) = dec m ++ pad9 c := by
  have h := dec_split 9 m c hm (by simpa using hc)
  rw [show (10 : Nat) ^ 9 = 1000000000 from rfl] at h
  rw [h, (dk_dd 8 c (by simpa using hc)).2]
  rfl
theorem dd_len {c : Nat} (hc : c < 1000000000) : 1 ≤ (dd c).length ∧ (dd c).length ≤ 9 := by
  refine ⟨?_, (dk_dd 8 c (by simpa using hc)).1⟩
  unfold dd
  by_cases h0 : c = 0
  · rw [if_pos h0]; exact Nat.le_refl _
  · rw [if_neg h0, dec_pos h0]; simp
def ch (n : Nat) : List Nat := if _h : n = 0 then [] else n % 1000000000 :: ch (n / 1000000000)
termination_by n
decreasing_by omega
theorem ch_zero : ch 0 = [] := by rw [ch]; simp
theorem ch_pos {n : Nat} (h : n ≠ 0) : ch n = n % 1000000000 :: ch (n / 1000000000) := by rw [ch]; simp [h]
def txt : List Nat → List UInt8
  | [] => []
  | c :: r => dd c ++ r.flatMap pad9
theorem txt_snoc {l : List Nat} (h : l ≠ []) (c : Nat) : txt (l ++ [c]) = txt l ++ pad9 c := by
  cases l with
  | nil => exact absurd rfl h
  | cons a r => simp [txt, List.flatMap_append]
theorem ch_len : ∀ (k n : Nat), n < 1000000000 ^ k → (ch n).length ≤ k
  | 0, n, h => by simp at h; subst h; rw [ch_zero]; simp
  | k + 1, n, h => by
    by_cases h0 : n = 0
    · subst h0; rw [ch_zero]; simp
    · rw [ch_pos h0]
      have := ch_len k (n / 1000000000) (by rw [Nat.pow_succ] at h; omega)
      simp; omega
theorem ch_lt (n : Nat) : ∀ c ∈ ch n, c < 1000000000 := by
  induction n using Nat.strongRecOn with
  | _ n ih =>
    by_cases h : n = 0
    · subst h; rw [ch_zero]; simp
    · rw [ch_pos h]
      intro c hc
      rcases List.mem_cons.1 hc with rfl | hc
      · omega
      · exact ih _ (by omega) c hc
theorem ch_len_words {xs : List Nat} (hw : Wd xs) : (ch (val xs)).length ≤ 2 * xs.length := by
  refine ch_len _ _ (Nat.lt_of_lt_of_le (val_lt hw) ?_)
  rw [Nat.pow_mul]
  exact Nat.pow_le_pow_left (by decide) _
theorem ch_ne {n : Nat} (h : n ≠ 0) : ch n ≠ [] := by rw [ch_pos h]; simp
theorem txt_ch (n : Nat) : txt (ch n).reverse = dec n := by
  induction n using Nat.strongRecOn with
  | _ n ih =>
    by_cases h : n = 0
    · subst h; rw [ch_zero, dec_zero]; rfl
    · rw [ch_pos h, List.reverse_cons]
      by_cases h1 : n / 1000000000 = 0
      · rw [h1, ch_zero]
        have : n % 1000000000 = n := by omega
        rw [this]
        show dd n ++ [] = _
        rw [List.append_nil]
        unfold dd
        rw [if_neg h]
      · rw [txt_snoc (by simpa using ch_ne h1), ih _ (by omega) , ← dec_split9 _ _ (by omega) (by omega)]
        congr 1
        omega
end Go.Proofs.YtmpadildchphgaaGreatDoor
namespace Go.Proofs.YtmpadildchphgaaGreatDoor
open Go.RowKit
theorem okz_i_GCD {a b : Int} (h1 : FitZ a) (h2 : FitZ b) {g : Nat} (hg : Nat.gcd a.natAbs b.natAbs = g) : CallOK Tryz.prog 104 [dZ a, dZ b] (.one (dZ g)) := by
  have := ok_i_GCD (na := decide (a < 0)) (nb := decide (b < 0)) (Wd_digs a.natAbs) (Wd_digs b.natAbs) h1 h2
  rw [val_digs, val_digs, hg] at this
  exact this
theorem okz_i_DivMod {a b q r : Int} (h1 : FitZ a) (h2 : FitZ b) (h0 : b ≠ 0) (hq : a.fdiv b = q) (hr : a.fmod b = r) : CallOK Tryz.prog 131 [dZ a, dZ b] (.tup [dZ q, dZ r, dN .i64 0]) :=
  ok_i_DivMod (Wd_digs _) (Wd_digs _) h1 h2 (by rw [toZ_int]; exact h0) (by rw [toZ_int, toZ_int]; exact hq) (by rw [toZ_int, toZ_int]; exact hr)
theorem okz_r1_GCD {a b : Int} (h1 : FitZ a) (h2 : FitZ b) {g : Nat} (hg : Nat.gcd a.natAbs b.natAbs = g) : CallOK Tryz.prog 77 [dZ a, dZ b] (.one (dZ g)) := by
  have := ok_r1_GCD (na := decide (a < 0)) (nb := decide (b < 0)) (Wd_digs a.natAbs) (Wd_digs b.natAbs) h1 h2
  rw [val_digs, val_digs, hg] at this
  exact this
theorem okz_r1_DivMod {a b q r : Int} (h1 : FitZ a) (h2 : FitZ b) (h0 : b ≠ 0) (hq : a.fdiv b = q) (hr : a.fmod b = r) : CallOK Tryz.prog 113 [dZ a, dZ b] (.tup [dZ q, dZ r, dN .i64 0]) :=
  ok_r1_DivMod (Wd_digs _) (Wd_digs _) h1 h2 (by rw [toZ_int]; exact h0) (by rw [toZ_int, toZ_int]; exact hq) (by rw [toZ_int, toZ_int]; exact hr)
end Go.Proofs.YtmpadildchphgaaGreatDoor
namespace Go.Proofs.YtmpadildchphgaaGreatDoor
theorem rat_eq {q : Rat} {n : Int} {d : Nat} (hd : 0 < d) (hc : Nat.gcd n.natAbs d = 1) (h : n * q.den = q.num * d) : q.num = n ∧ q.den = d := by
  have hp : (⟨n, d, by omega, hc⟩ : Rat) = q := by
    have h1 := Rat.num_divInt_den (⟨n, d, by omega, hc⟩ : Rat)
    have h2 := Rat.num_divInt_den q
    rw [← h1, ← h2, Rat.divInt_eq_divInt_iff (by show (d : Int) ≠ 0; omega) (by have := q.den_nz; omega)]
    exact h
  exact ⟨by rw [← hp], by rw [← hp]⟩
def gz (n d : Int) : Int := if d < 0 then -((Nat.gcd n.natAbs d.natAbs : Nat) : Int) else (Nat.gcd n.natAbs d.natAbs : Nat)
theorem gz_ne {n d : Int} (h : d ≠ 0) : gz n d ≠ 0 := by
  have : 0 < Nat.gcd n.natAbs d.natAbs := Nat.gcd_pos_of_pos_right _ (by omega)
  unfold gz; split <;> omega
theorem fdiv_of_mul {a b c : Int} (h : b ≠ 0) (e : a = b * c) : a.fdiv b = c := by rw [e]; exact Int.mul_fdiv_cancel_left _ h
theorem lowest_p {n d : Int} (hd : d ≠ 0) : n.fdiv (gz n d) = (Rat.divInt n d).num ∧ d.fdiv (gz n d) = ((Rat.divInt n d).den : Int) ∧ n = gz n d * (Rat.divInt n d).num ∧ d = gz n d * ((Rat.divInt n d).den : Int) := by
  have hg0 := gz_ne (n := n) hd
  obtain ⟨a, ha⟩ : ((Nat.gcd n.natAbs d.natAbs : Nat) : Int) ∣ n := Int.ofNat_dvd_left.2 (Nat.gcd_dvd_left _ _)
  obtain ⟨b, hb⟩ : ((Nat.gcd n.natAbs d.natAbs : Nat) : Int) ∣ d := Int.ofNat_dvd_left.2 (Nat.gcd_dvd_right _ _)
  have hp : 0 < Nat.gcd n.natAbs d.natAbs := Nat.gcd_pos_of_pos_right _ (by omega)
  obtain ⟨G, hG⟩ : ∃ G, Nat.gcd n.natAbs d.natAbs = G := ⟨_, rfl⟩
  have hG' := hG
  rw [hG] at ha hb hp
  have hab : Nat.gcd a.natAbs b.natAbs = 1 := by
    rw [ha, hb, Int.natAbs_mul, Int.natAbs_mul, Int.natAbs_natCast, Nat.gcd_mul_left] at hG
    exact Nat.eq_of_mul_eq_mul_left hp (by omega)
  obtain ⟨s, hs1, hs2⟩ : ∃ s : Int, gz n d = G * s ∧ (s = 1 ∧ 0 < b ∨ s = -1 ∧ b < 0) := by
    unfold gz
    rw [hG']
    have hb0 : b ≠ 0 := by rintro rfl; simp at hb; omega
    split
    · refine ⟨-1, by omega, .inr ⟨rfl, ?_⟩⟩
      rcases Int.lt_trichotomy b 0 with h | h | h
      · exact h
      · omega
      · have : 0 < (G : Int) * b := Int.mul_pos (by omega) h
        omega
    · refine ⟨1, by omega, .inl ⟨rfl, ?_⟩⟩
      rcases Int.lt_trichotomy b 0 with h | h | h
      · have : 0 < (G : Int) * (-b) := Int.mul_pos (by omega) (by omega)
        rw [Int.mul_neg] at this
        omega
      · omega
      · exact h
  have hq : (Rat.divInt n d).num = s * a ∧ (Rat.divInt n d).den = (s * b).toNat := by
    refine rat_eq ?_ ?_ ?_
    · rcases hs2 with ⟨rfl, h⟩ | ⟨rfl, h⟩ <;> omega
    · have e : (s * b).toNat = b.natAbs := by rcases hs2 with ⟨rfl, h⟩ | ⟨rfl, h⟩ <;> omega
      have e2 : (s * a).natAbs = a.natAbs := by rcases hs2 with ⟨rfl, h⟩ | ⟨rfl, h⟩ <;> omega
      rw [e, e2, hab]
    · have h1 := Rat.num_divInt_den (Rat.divInt n d)
      have h0 : ((Rat.divInt n d).den : Int) ≠ 0 := by have := (Rat.divInt n d).den_nz; omega
      have h2 := (Rat.divInt_eq_divInt_iff h0 hd).1 h1
      have h3 : ((s * b).toNat : Int) = s * b := by
        have : 0 ≤ s * b := by rcases hs2 with ⟨rfl, h⟩ | ⟨rfl, h⟩ <;> omega
        omega
      rw [h3]
      generalize (Rat.divInt n d).num = p at *
      generalize ((Rat.divInt n d).den : Int) = q at *
      rw [ha, hb] at h2
      have h4 : (G : Int) * (p * b) = G * (a * q) := by
        rw [← Int.mul_assoc, Int.mul_comm (G : Int) p, Int.mul_assoc, h2, Int.mul_assoc]
      have h5 := Int.eq_of_mul_eq_mul_left (by omega) h4
      rw [Int.mul_assoc, ← h5]
      simp [Int.mul_left_comm, Int.mul_comm]
  have hss : s * s = 1 := by rcases hs2 with ⟨rfl, _⟩ | ⟨rfl, _⟩ <;> rfl
  have e1 : n = gz n d * (Rat.divInt n d).num := by
    rw [hs1, hq.1, Int.mul_assoc, ← Int.mul_assoc s s a, hss, Int.one_mul]; exact ha
  have e2 : d = gz n d * ((Rat.divInt n d).den : Int) := by
    have h3 : ((s * b).toNat : Int) = s * b := by
      have : 0 ≤ s * b := by rcases hs2 with ⟨rfl, h⟩ | ⟨rfl, h⟩ <;> omega
      omega
    rw [hs1, hq.2, h3, Int.mul_assoc, ← Int.mul_assoc s s b, hss, Int.one_mul]; exact hb
  exact ⟨fdiv_of_mul hg0 e1, fdiv_of_mul hg0 e2, e1, e2⟩
theorem divInt_num_den (q : Rat) : Rat.divInt q.num q.den = q := Rat.num_divInt_den q
theorem den_pos (q : Rat) : 0 < (q.den : Int) := by have := q.den_nz; omega
theorem add_divInt (a b : Rat) : Rat.divInt (a.num * b.den + b.num * a.den) (a.den * b.den) = a + b := by
  have h := Rat.divInt_add_divInt a.num b.num (d₁ := a.den) (d₂ := b.den) (by have := den_pos a; omega) (by have := den_pos b; omega)
  rw [Rat.num_divInt_den, Rat.num_divInt_den] at h
  exact h.symm
theorem mul_divInt (a b : Rat) : Rat.divInt (a.num * b.num) (a.den * b.den) = a * b := by
  have h := Rat.divInt_mul_divInt a.num b.num (d₁ := a.den) (d₂ := b.den)
  rw [Rat.num_divInt_den, Rat.num_divInt_den] at h
  exact h.symm
theorem div_divInt (a b : Rat) : Rat.divInt (a.num * b.den) (a.den * b.num) = a / b := by
  rw [Rat.div_def, Rat.inv_def]
  have h := Rat.divInt_mul_divInt a.num b.den (d₁ := a.den) (d₂ := b.num)
  rw [Rat.num_divInt_den] at h
  exact h.symm
theorem of_den_one {q : Rat} {n : Int} (h : q = n) : q.num = n ∧ q.den = 1 := by subst h; exact ⟨rfl, rfl⟩
theorem eq_of_den {q : Rat} (h : q.den = 1) : q = (q.num : Rat) := Rat.ext rfl h
theorem add_one {a b : Rat} (ha : a.den = 1) (hb : b.den = 1) : (a + b).num = a.num + b.num ∧ (a + b).den = 1 := by
  refine of_den_one ?_
  rw [eq_of_den ha, eq_of_den hb]
  simp
theorem mul_one' {a b : Rat} (ha : a.den = 1) (hb : b.den = 1) : (a * b).num = a.num * b.num ∧ (a * b).den = 1 := by
  refine of_den_one ?_
  rw [eq_of_den ha, eq_of_den hb]
  simp
theorem mul_gen (a b : Rat) : (a * b).num = (a.num / (Nat.gcd a.num.natAbs b.den : Nat)) * (b.num / (Nat.gcd b.num.natAbs a.den : Nat)) ∧ (a * b).den = (a.den / Nat.gcd b.num.natAbs a.den) * (b.den / Nat.gcd a.num.natAbs b.den) := by
  show (Rat.mul a b).num = _ ∧ (Rat.mul a b).den = _
  rw [Rat.mul.eq_1]
  simp only [Int.divExact_eq_ediv, Nat.divExact_eq_div]
  exact ⟨trivial, trivial⟩
def sgQ (q : Rat) : Int := q.num.sign
end Go.Proofs.YtmpadildchphgaaGreatDoor
namespace Go.Proofs.YtmpadildchphgaaGreatDoor
def fmtQ (q : Rat) : List UInt8 := if q.den = 1 then fmt q.num else fmt q.num ++ 47 :: fmt q.den
end Go.Proofs.YtmpadildchphgaaGreatDoor
namespace Go.Proofs.YtmpadildchphgaaGreatDoor
open Go.RowKit
def aQ (q : Rat) : List AV := aZ q.num ++ aZ q.den
def dQ (q : Rat) : DV := .agg (aQ q)
def aI2 (na : Bool) (xs : List Nat) (nb : Bool) (ys : List Nat) : List AV := aI na xs ++ aI nb ys
def dI2 (na : Bool) (xs : List Nat) (nb : Bool) (ys : List Nat) : DV := .agg (aI2 na xs nb ys)
def aQ0 : List AV := [.val (.bool false), .sl 0 [], .val (.bool false), .sl 0 []]
def dQ0 : DV := .agg aQ0
def Sz (k : Nat) (z : Int) : Prop := z.natAbs < 4294967296 ^ k
theorem Sz.fit {k : Nat} {z : Int} (h : Sz k z) (hk : k ≤ 2147483648) : FitZ z := .of_lt h hk
theorem Sz.mono {j k : Nat} {z : Int} (h : Sz j z) (hk : j ≤ k) : Sz k z := Nat.lt_of_lt_of_le h (Nat.pow_le_pow_right (by decide) hk)
theorem Sz.of_le {k : Nat} {a b : Int} (h : Sz k b) (hl : a.natAbs ≤ b.natAbs) : Sz k a := Nat.lt_of_le_of_lt hl h
theorem Sz.mul {j k : Nat} {a b : Int} (h : Sz j a) (h' : Sz k b) : Sz (j + k) (a * b) := by
  unfold Sz at *
  rw [Int.natAbs_mul, Nat.pow_add]
  exact Nat.mul_lt_mul'' h h'
theorem Sz.add {k : Nat} {a b : Int} (h : Sz k a) (h' : Sz k b) : Sz (k + 1) (a + b) := by
  unfold Sz at *
  have := Int.natAbs_add_le a b
  have : 0 < 4294967296 ^ k := Nat.pow_pos (by decide)
  rw [Nat.pow_succ]
  omega
theorem Sz.neg {k : Nat} {a : Int} (h : Sz k a) : Sz k (-a) := by unfold Sz at *; rw [Int.natAbs_neg]; exact h
theorem Sz.sub {k : Nat} {a b : Int} (h : Sz k a) (h' : Sz k b) : Sz (k + 1) (a - b) := by rw [Int.sub_eq_add_neg]; exact h.add h'.neg
theorem Sz.small {z : Int} (h : z.natAbs < 4294967296) : Sz 1 z := by unfold Sz; simpa using h
theorem Sz.i64 {z : Int} (h1 : -9223372036854775808 ≤ z) (h2 : z < 9223372036854775808) : Sz 2 z := by unfold Sz; omega
theorem Sz.gcd {k : Nat} {n d : Int} (h : Sz k d) (hd : d ≠ 0) : Sz k (Nat.gcd n.natAbs d.natAbs : Nat) := by
  refine h.of_le ?_
  rw [Int.natAbs_natCast]
  exact Nat.le_of_dvd (by omega) (Nat.gcd_dvd_right _ _)
theorem Sz.digs {k : Nat} {z : Int} (h : Sz k z) : (digs z.natAbs).length ≤ k := digs_length_le h
theorem Sz.of_digs {k : Nat} {z : Int} (h : (Go.Proofs.YtmpadildchphgaaGreatDoor.digs z.natAbs).length ≤ k) : Sz k z := lt_of_digs h
def SzQ (k : Nat) (q : Rat) : Prop := Sz k q.num ∧ Sz k q.den
theorem SzQ.mono {j k : Nat} {q : Rat} (h : SzQ j q) (hk : j ≤ k) : SzQ k q := ⟨h.1.mono hk, h.2.mono hk⟩
theorem SzQ.divInt {k : Nat} {n d : Int} (h : Sz k n) (h' : Sz k d) (hd : d ≠ 0) : SzQ k (Rat.divInt n d) := by
  obtain ⟨_, _, h1, h2⟩ := lowest_p (n := n) (d := d) hd
  have hg : 0 < (gz n d).natAbs := by have := gz_ne (n := n) hd; omega
  refine ⟨h.of_le ?_, h'.of_le ?_⟩
  · conv => rhs; rw [h1, Int.natAbs_mul]
    exact Nat.le_mul_of_pos_left _ hg
  · conv => rhs; rw [h2, Int.natAbs_mul]
    exact Nat.le_mul_of_pos_left _ hg
theorem SzQ.add {j k : Nat} {a b : Rat} (h : SzQ j a) (h' : SzQ k b) : SzQ (j + k + 1) (a + b) := by
  rw [← add_divInt]
  refine .divInt ?_ ((h.2.mul h'.2).mono (by omega)) (by have := Int.mul_pos (den_pos a) (den_pos b); omega)
  exact Sz.add (h.1.mul h'.2) ((h'.1.mul h.2).mono (by omega))
theorem SzQ.neg {k : Nat} {a : Rat} (h : SzQ k a) : SzQ k (-a) := ⟨by rw [Rat.neg_num]; exact h.1.neg, h.2⟩
theorem SzQ.sub {j k : Nat} {a b : Rat} (h : SzQ j a) (h' : SzQ k b) : SzQ (j + k + 1) (a - b) := by rw [Rat.sub_eq_add_neg]; exact h.add h'.neg
theorem SzQ.mul {j k : Nat} {a b : Rat} (h : SzQ j a) (h' : SzQ k b) : SzQ (j + k) (a * b) := by
  rw [← mul_divInt]
  exact .divInt (h.1.mul h'.1) (h.2.mul h'.2) (by have := Int.mul_pos (den_pos a) (den_pos b); omega)
theorem SzQ.div {j k : Nat} {a b : Rat} (h : SzQ j a) (h' : SzQ k b) (hb : b ≠ 0) : SzQ (j + k) (a / b) := by
  rw [← div_divInt]
  have h0 : b.num ≠ 0 := fun e => hb (Rat.num_eq_zero.1 e)
  refine .divInt (h.1.mul h'.2) (h.2.mul h'.1) ?_
  exact Int.mul_ne_zero (by have := den_pos a; omega) h0
theorem digs_one_iff {z : Int} : (!decide (z < 0) && decide (digs z.natAbs = [1])) = decide (z = 1) := by
  by_cases h : z = 1
  · subst h; rw [show (1 : Int).natAbs = 1 from rfl, digs_small (by decide) (by decide)]; rfl
  · rw [decide_eq_false h]
    by_cases hn : z < 0
    · simp [hn]
    · have : digs z.natAbs ≠ [1] := fun e => by
        have h1 := congrArg val e
        rw [val_digs] at h1
        simp [val] at h1
        omega
      simp [this]
theorem digs_nil_iff {z : Int} : decide (((digs z.natAbs).length : Int) = 0) = decide (z = 0) := by
  have := digs_length_zero (n := z.natAbs)
  by_cases h : z = 0
  · subst h; rw [decide_eq_true rfl]; exact decide_eq_true (by have := this.2 rfl; omega)
  · rw [decide_eq_false h]; exact decide_eq_false (fun e => h (by have := this.1 (by omega); omega))
end Go.Proofs.YtmpadildchphgaaGreatDoor
namespace Go.Proofs.YtmpadildchphgaaGreatDoor
open Go.RowKit
theorem ok_q_one : CallOK Tryz.prog 72 [] (.one (dZ 1)) := by
  refine callOK_of TT_ok mixT Tryz.func72 rfl rfl (Nat.le_of_ble_eq_true rfl) ?_
  repeat (first | refine r_op rfl rfl rfl rfl ?_ | refine r_skip rfl rfl rfl ?_ | refine .done ?_ | refine r_seq (T := TT) ?_ | refine r_region (T := TT) rfl ?_ | refine r_block (T := TT) ?_ | refine r_then (T := TT) rfl ?_ | refine r_else (T := TT) rfl ?_)
  refine r_call (ok_i_FromInt 1 (by decide) (by decide)) rfl rfl rfl rfl rfl rfl rfl ?_
  repeat (first | refine r_op rfl rfl rfl rfl ?_ | refine r_skip rfl rfl rfl ?_ | refine .done ?_ | refine r_seq (T := TT) ?_ | refine r_region (T := TT) rfl ?_ | refine r_block (T := TT) ?_ | refine r_then (T := TT) rfl ?_ | refine r_else (T := TT) rfl ?_)
  exact r_fin (T := TT) rfl rfl
theorem ok_q_isOne {na : Bool} {xs : List Nat} {b : Bool} (hb : (!na && decide (xs = [1])) = b) : CallOK Tryz.prog 70 [dI na xs] (.one (dB b)) := by
  subst hb
  cases na
  · match xs with
    | [] =>
      refine callOK_of TT_ok mixT Tryz.func70 rfl rfl (Nat.le_of_ble_eq_true rfl) ?_
      repeat (first | refine r_op rfl rfl rfl rfl ?_ | refine r_skip rfl rfl rfl ?_ | refine .done ?_ | refine r_seq (T := TT) ?_ | refine r_region (T := TT) rfl ?_ | refine r_block (T := TT) ?_ | refine r_then (T := TT) rfl ?_ | refine r_else (T := TT) rfl ?_)
      exact r_fin (T := TT) rfl rfl
    | [x] =>
      refine callOK_of TT_ok mixT Tryz.func70 rfl rfl (Nat.le_of_ble_eq_true rfl) ?_
      repeat (first | refine r_op rfl rfl rfl rfl ?_ | refine r_skip rfl rfl rfl ?_ | refine .done ?_ | refine r_seq (T := TT) ?_ | refine r_region (T := TT) rfl ?_ | refine r_block (T := TT) ?_ | refine r_then (T := TT) rfl ?_ | refine r_else (T := TT) rfl ?_)
      refine r_idx (cs' := [AV.val (W32 x)]) (i := 0) (Nat.lt_succ_self 0) (fun j a h => by simpa using h) (Nat.lt_succ_self 0) rfl rfl rfl rfl rfl rfl rfl rfl ?_
      repeat (first | refine r_op rfl rfl rfl rfl ?_ | refine r_skip rfl rfl rfl ?_ | refine .done ?_ | refine r_seq (T := TT) ?_ | refine r_region (T := TT) rfl ?_ | refine r_block (T := TT) ?_ | refine r_then (T := TT) rfl ?_ | refine r_else (T := TT) rfl ?_)
      rw [show (!false && decide ([x] = [1])) = decide ((x : Int) = 1) by by_cases h : x = 1 <;> simp [h] <;> omega]
      exact r_fin (T := TT) rfl rfl
    | x :: y :: r =>
      refine callOK_of TT_ok mixT Tryz.func70 rfl rfl (Nat.le_of_ble_eq_true rfl) ?_
      repeat refine r_seq (T := TT) ?_
      refine r_region (T := TT) rfl ?_
      repeat (first | refine r_op rfl rfl rfl rfl ?_ | refine r_skip rfl rfl rfl ?_)
      try refine .done ?_
      repeat refine r_seq (T := TT) ?_
      refine r_region (T := TT) rfl ?_
      iterate 7 (first | refine r_op rfl rfl rfl rfl ?_ | refine r_skip rfl rfl rfl ?_)
      refine r_eq (v' := .bool false) rfl rfl rfl rfl ?_ ?_
      · exact congrArg Value.bool (decide_eq_false (by simp only [List.length_cons]; omega))
      repeat (first | refine r_op rfl rfl rfl rfl ?_ | refine r_skip rfl rfl rfl ?_ | refine .done ?_ | refine r_seq (T := TT) ?_ | refine r_region (T := TT) rfl ?_ | refine r_block (T := TT) ?_ | refine r_then (T := TT) rfl ?_ | refine r_else (T := TT) rfl ?_)
      rw [show (!false && decide (x :: y :: r = [1])) = false by simp]
      exact r_fin (T := TT) rfl rfl
  · refine callOK_of TT_ok mixT Tryz.func70 rfl rfl (Nat.le_of_ble_eq_true rfl) ?_
    repeat (first | refine r_op rfl rfl rfl rfl ?_ | refine r_skip rfl rfl rfl ?_ | refine .done ?_ | refine r_seq (T := TT) ?_ | refine r_region (T := TT) rfl ?_ | refine r_block (T := TT) ?_ | refine r_then (T := TT) rfl ?_ | refine r_else (T := TT) rfl ?_)
    exact r_fin (T := TT) rfl rfl
theorem ok_r2_one {na : Bool} {xs : List Nat} {b : Bool} (hb : (!na && decide (xs = [1])) = b) : CallOK Tryz.prog 75 [dI na xs] (.one (dB b)) := by
  subst hb
  match xs with
  | [] =>
    refine callOK_of TT_ok mixT Tryz.func75 rfl rfl (Nat.le_of_ble_eq_true rfl) ?_
    repeat (first | refine r_op rfl rfl rfl rfl ?_ | refine r_skip rfl rfl rfl ?_ | refine .done ?_ | refine r_seq (T := TT) ?_ | refine r_region (T := TT) rfl ?_ | refine r_block (T := TT) ?_ | refine r_then (T := TT) rfl ?_ | refine r_else (T := TT) rfl ?_)
    rw [show (!na && decide (([] : List Nat) = [1])) = false by simp]
    exact r_fin (T := TT) rfl rfl
  | [x] =>
    refine callOK_of TT_ok mixT Tryz.func75 rfl rfl (Nat.le_of_ble_eq_true rfl) ?_
    repeat (first | refine r_op rfl rfl rfl rfl ?_ | refine r_skip rfl rfl rfl ?_ | refine .done ?_ | refine r_seq (T := TT) ?_ | refine r_region (T := TT) rfl ?_ | refine r_block (T := TT) ?_ | refine r_then (T := TT) rfl ?_ | refine r_else (T := TT) rfl ?_)
    refine r_idx (cs' := [AV.val (W32 x)]) (i := 0) (Nat.lt_succ_self 0) (fun j a h => by simpa using h) (Nat.lt_succ_self 0) rfl rfl rfl rfl rfl rfl rfl rfl ?_
    iterate 1 (first | refine r_op rfl rfl rfl rfl ?_ | refine r_skip rfl rfl rfl ?_)
    by_cases h : x = 1
    · refine r_eq (v' := .bool true) rfl rfl rfl rfl ?_ ?_
      · exact congrArg Value.bool (decide_eq_true (by omega))
      repeat (first | refine r_op rfl rfl rfl rfl ?_ | refine r_skip rfl rfl rfl ?_ | refine .done ?_ | refine r_seq (T := TT) ?_ | refine r_region (T := TT) rfl ?_ | refine r_block (T := TT) ?_ | refine r_then (T := TT) rfl ?_ | refine r_else (T := TT) rfl ?_)
      rw [show (!na && decide ([x] = [1])) = !na by simp [h]]
      exact r_fin (T := TT) rfl rfl
    · refine r_eq (v' := .bool false) rfl rfl rfl rfl ?_ ?_
      · exact congrArg Value.bool (decide_eq_false (by omega))
      repeat (first | refine r_op rfl rfl rfl rfl ?_ | refine r_skip rfl rfl rfl ?_ | refine .done ?_ | refine r_seq (T := TT) ?_ | refine r_region (T := TT) rfl ?_ | refine r_block (T := TT) ?_ | refine r_then (T := TT) rfl ?_ | refine r_else (T := TT) rfl ?_)
      rw [show (!na && decide ([x] = [1])) = false by simp [h]]
      exact r_fin (T := TT) rfl rfl
  | x :: y :: r =>
    refine callOK_of TT_ok mixT Tryz.func75 rfl rfl (Nat.le_of_ble_eq_true rfl) ?_
    repeat refine r_seq (T := TT) ?_
    refine r_region (T := TT) rfl ?_
    repeat (first | refine r_op rfl rfl rfl rfl ?_ | refine r_skip rfl rfl rfl ?_)
    try refine .done ?_
    repeat refine r_seq (T := TT) ?_
    refine r_region (T := TT) rfl ?_
    iterate 3 (first | refine r_op rfl rfl rfl rfl ?_ | refine r_skip rfl rfl rfl ?_)
    refine r_eq (v' := .bool false) rfl rfl rfl rfl ?_ ?_
    · exact congrArg Value.bool (decide_eq_false (by simp only [List.length_cons]; omega))
    repeat (first | refine r_op rfl rfl rfl rfl ?_ | refine r_skip rfl rfl rfl ?_ | refine .done ?_ | refine r_seq (T := TT) ?_ | refine r_region (T := TT) rfl ?_ | refine r_block (T := TT) ?_ | refine r_then (T := TT) rfl ?_ | refine r_else (T := TT) rfl ?_)
    rw [show (!na && decide (x :: y :: r = [1])) = false by simp]
    exact r_fin (T := TT) rfl rfl
theorem okz_q_isOne {z : Int} {b : Bool} (hb : decide (z = 1) = b) : CallOK Tryz.prog 70 [dZ z] (.one (dB b)) := ok_q_isOne (by rw [digs_one_iff, hb])
theorem okz_r2_one {z : Int} {b : Bool} (hb : decide (z = 1) = b) : CallOK Tryz.prog 75 [dZ z] (.one (dB b)) := ok_r2_one (by rw [digs_one_iff, hb])
theorem okz_q_isZero {z : Int} {b : Bool} (hb : decide (z = 0) = b) : CallOK Tryz.prog 80 [dZ z] (.one (dB b)) := by
  refine callOK_of TT_ok mixT Tryz.func80 rfl rfl (Nat.le_of_ble_eq_true rfl) ?_
  repeat (first | refine r_op rfl rfl rfl rfl ?_ | refine r_skip rfl rfl rfl ?_ | refine .done ?_ | refine r_seq (T := TT) ?_ | refine r_region (T := TT) rfl ?_ | refine r_block (T := TT) ?_ | refine r_then (T := TT) rfl ?_ | refine r_else (T := TT) rfl ?_)
  rw [← hb, ← digs_nil_iff]
  exact r_fin (T := TT) rfl rfl
theorem ok_q_quo {a b c : Int} (h1 : FitZ a) (h2 : FitZ b) (hb : b ≠ 0) (h : a.fdiv b = c) : CallOK Tryz.prog 106 [dZ a, dZ b] (.one (dZ c)) := by
  by_cases h1' : b = 1
  · subst h1'
    rw [Int.fdiv_one] at h
    subst h
    refine callOK_of TT_ok mixT Tryz.func106 rfl rfl (Nat.le_of_ble_eq_true rfl) ?_
    repeat (first | refine r_op rfl rfl rfl rfl ?_ | refine r_skip rfl rfl rfl ?_ | refine .done ?_ | refine r_seq (T := TT) ?_ | refine r_region (T := TT) rfl ?_ | refine r_block (T := TT) ?_ | refine r_then (T := TT) rfl ?_ | refine r_else (T := TT) rfl ?_)
    refine r_call (okz_q_isOne (z := 1) (b := true) rfl) rfl rfl rfl rfl rfl rfl rfl ?_
    repeat (first | refine r_op rfl rfl rfl rfl ?_ | refine r_skip rfl rfl rfl ?_ | refine .done ?_ | refine r_seq (T := TT) ?_ | refine r_region (T := TT) rfl ?_ | refine r_block (T := TT) ?_ | refine r_then (T := TT) rfl ?_ | refine r_else (T := TT) rfl ?_)
    exact r_fin (T := TT) rfl rfl
  · refine callOK_of TT_ok mixT Tryz.func106 rfl rfl (Nat.le_of_ble_eq_true rfl) ?_
    repeat (first | refine r_op rfl rfl rfl rfl ?_ | refine r_skip rfl rfl rfl ?_ | refine .done ?_ | refine r_seq (T := TT) ?_ | refine r_region (T := TT) rfl ?_ | refine r_block (T := TT) ?_ | refine r_then (T := TT) rfl ?_ | refine r_else (T := TT) rfl ?_)
    refine r_call (okz_q_isOne (z := b) (b := false) (decide_eq_false h1')) rfl rfl rfl rfl rfl rfl rfl ?_
    repeat (first | refine r_op rfl rfl rfl rfl ?_ | refine r_skip rfl rfl rfl ?_ | refine .done ?_ | refine r_seq (T := TT) ?_ | refine r_region (T := TT) rfl ?_ | refine r_block (T := TT) ?_ | refine r_then (T := TT) rfl ?_ | refine r_else (T := TT) rfl ?_)
    refine r_call (okz_i_DivMod h1 h2 hb h rfl) rfl rfl rfl rfl rfl rfl rfl ?_
    repeat (first | refine r_op rfl rfl rfl rfl ?_ | refine r_skip rfl rfl rfl ?_ | refine .done ?_ | refine r_seq (T := TT) ?_ | refine r_region (T := TT) rfl ?_ | refine r_block (T := TT) ?_ | refine r_then (T := TT) rfl ?_ | refine r_else (T := TT) rfl ?_)
    exact r_fin (T := TT) rfl rfl
theorem ok_r2_quo {a b c : Int} (h1 : FitZ a) (h2 : FitZ b) (hb : b ≠ 0) (h : a.fdiv b = c) : CallOK Tryz.prog 79 [dZ a, dZ b] (.one (dZ c)) := by
  refine callOK_of TT_ok mixT Tryz.func79 rfl rfl (Nat.le_of_ble_eq_true rfl) ?_
  repeat (first | refine r_op rfl rfl rfl rfl ?_ | refine r_skip rfl rfl rfl ?_ | refine .done ?_ | refine r_seq (T := TT) ?_ | refine r_region (T := TT) rfl ?_ | refine r_block (T := TT) ?_ | refine r_then (T := TT) rfl ?_ | refine r_else (T := TT) rfl ?_)
  refine r_call (okz_r1_DivMod h1 h2 hb h rfl) rfl rfl rfl rfl rfl rfl rfl ?_
  repeat (first | refine r_op rfl rfl rfl rfl ?_ | refine r_skip rfl rfl rfl ?_ | refine .done ?_ | refine r_seq (T := TT) ?_ | refine r_region (T := TT) rfl ?_ | refine r_block (T := TT) ?_ | refine r_then (T := TT) rfl ?_ | refine r_else (T := TT) rfl ?_)
  exact r_fin (T := TT) rfl rfl
theorem gz_pos {n d : Int} {g : Nat} (hg : Nat.gcd n.natAbs d.natAbs = g) (h : ¬ d < 0) : gz n d = g := by unfold gz; rw [if_neg h, hg]
theorem gz_neg {n d : Int} {g : Nat} (hg : Nat.gcd n.natAbs d.natAbs = g) (h : d < 0) : gz n d = -(g : Int) := by unfold gz; rw [if_pos h, hg]
theorem ok_q_lowest {k : Nat} {n d : Int} {q : Rat} (h1 : Sz k n) (h2 : Sz k d) (hk : k ≤ 2147483648) (hd : d ≠ 0) (hq : Rat.divInt n d = q) : CallOK Tryz.prog 74 [dZ n, dZ d] (.one (dQ q)) := by
  subst hq
  obtain ⟨e1, e2, _, _⟩ := lowest_p (n := n) hd
  have hg0 := gz_ne (n := n) hd
  have hsg := h2.gcd (n := n) hd
  obtain ⟨g, hg⟩ : ∃ g, Nat.gcd n.natAbs d.natAbs = g := ⟨_, rfl⟩
  rw [hg] at hsg
  by_cases h : d < 0
  · rw [gz_neg hg h] at e1 e2 hg0
    refine callOK_of TT_ok mixT Tryz.func74 rfl rfl (Nat.le_of_ble_eq_true rfl) ?_
    repeat (first | refine r_op rfl rfl rfl rfl ?_ | refine r_skip rfl rfl rfl ?_ | refine .done ?_ | refine r_seq (T := TT) ?_ | refine r_region (T := TT) rfl ?_ | refine r_block (T := TT) ?_ | refine r_then (T := TT) rfl ?_ | refine r_else (T := TT) rfl ?_)
    refine r_call (okz_i_GCD (h1.fit hk) (h2.fit hk) hg) rfl rfl rfl rfl rfl rfl rfl ?_
    repeat (first | refine r_op rfl rfl rfl rfl ?_ | refine r_skip rfl rfl rfl ?_ | refine .done ?_ | refine r_seq (T := TT) ?_ | refine r_region (T := TT) rfl ?_ | refine r_block (T := TT) ?_ | refine r_then (T := TT) rfl ?_ | refine r_else (T := TT) rfl ?_)
    refine r_then2 (T := TT) rfl ?_ ?_
    · exact decide_eq_true h
    repeat (first | refine r_op rfl rfl rfl rfl ?_ | refine r_skip rfl rfl rfl ?_ | refine .done ?_ | refine r_seq (T := TT) ?_ | refine r_region (T := TT) rfl ?_ | refine r_block (T := TT) ?_ | refine r_then (T := TT) rfl ?_ | refine r_else (T := TT) rfl ?_)
    refine r_call (okz_i_Neg (hsg.fit hk)) rfl rfl rfl rfl rfl rfl rfl ?_
    repeat (first | refine r_op rfl rfl rfl rfl ?_ | refine r_skip rfl rfl rfl ?_ | refine .done ?_ | refine r_seq (T := TT) ?_ | refine r_region (T := TT) rfl ?_ | refine r_block (T := TT) ?_ | refine r_then (T := TT) rfl ?_ | refine r_else (T := TT) rfl ?_)
    refine r_call (ok_q_quo (h1.fit hk) (hsg.neg.fit hk) hg0 e1) rfl rfl rfl rfl rfl rfl rfl ?_
    repeat (first | refine r_op rfl rfl rfl rfl ?_ | refine r_skip rfl rfl rfl ?_ | refine .done ?_ | refine r_seq (T := TT) ?_ | refine r_region (T := TT) rfl ?_ | refine r_block (T := TT) ?_ | refine r_then (T := TT) rfl ?_ | refine r_else (T := TT) rfl ?_)
    refine r_call (ok_q_quo (h2.fit hk) (hsg.neg.fit hk) hg0 e2) rfl rfl rfl rfl rfl rfl rfl ?_
    repeat (first | refine r_op rfl rfl rfl rfl ?_ | refine r_skip rfl rfl rfl ?_ | refine .done ?_ | refine r_seq (T := TT) ?_ | refine r_region (T := TT) rfl ?_ | refine r_block (T := TT) ?_ | refine r_then (T := TT) rfl ?_ | refine r_else (T := TT) rfl ?_)
    exact r_fin (T := TT) rfl rfl
  · rw [gz_pos hg h] at e1 e2 hg0
    refine callOK_of TT_ok mixT Tryz.func74 rfl rfl (Nat.le_of_ble_eq_true rfl) ?_
    repeat (first | refine r_op rfl rfl rfl rfl ?_ | refine r_skip rfl rfl rfl ?_ | refine .done ?_ | refine r_seq (T := TT) ?_ | refine r_region (T := TT) rfl ?_ | refine r_block (T := TT) ?_ | refine r_then (T := TT) rfl ?_ | refine r_else (T := TT) rfl ?_)
    refine r_call (okz_i_GCD (h1.fit hk) (h2.fit hk) hg) rfl rfl rfl rfl rfl rfl rfl ?_
    repeat (first | refine r_op rfl rfl rfl rfl ?_ | refine r_skip rfl rfl rfl ?_ | refine .done ?_ | refine r_seq (T := TT) ?_ | refine r_region (T := TT) rfl ?_ | refine r_block (T := TT) ?_ | refine r_then (T := TT) rfl ?_ | refine r_else (T := TT) rfl ?_)
    refine r_else2 (T := TT) rfl ?_ ?_
    · exact decide_eq_false h
    repeat (first | refine r_op rfl rfl rfl rfl ?_ | refine r_skip rfl rfl rfl ?_ | refine .done ?_ | refine r_seq (T := TT) ?_ | refine r_region (T := TT) rfl ?_ | refine r_block (T := TT) ?_ | refine r_then (T := TT) rfl ?_ | refine r_else (T := TT) rfl ?_)
    refine r_call (ok_q_quo (h1.fit hk) (hsg.fit hk) hg0 e1) rfl rfl rfl rfl rfl rfl rfl ?_
    repeat (first | refine r_op rfl rfl rfl rfl ?_ | refine r_skip rfl rfl rfl ?_ | refine .done ?_ | refine r_seq (T := TT) ?_ | refine r_region (T := TT) rfl ?_ | refine r_block (T := TT) ?_ | refine r_then (T := TT) rfl ?_ | refine r_else (T := TT) rfl ?_)
    refine r_call (ok_q_quo (h2.fit hk) (hsg.fit hk) hg0 e2) rfl rfl rfl rfl rfl rfl rfl ?_
    repeat (first | refine r_op rfl rfl rfl rfl ?_ | refine r_skip rfl rfl rfl ?_ | refine .done ?_ | refine r_seq (T := TT) ?_ | refine r_region (T := TT) rfl ?_ | refine r_block (T := TT) ?_ | refine r_then (T := TT) rfl ?_ | refine r_else (T := TT) rfl ?_)
    exact r_fin (T := TT) rfl rfl
theorem ok_r2_Make {k : Nat} {n d : Int} {q : Rat} (h1 : Sz k n) (h2 : Sz k d) (hk : k ≤ 2147483648) (hd : d ≠ 0) (hq : Rat.divInt n d = q) : CallOK Tryz.prog 68 [dZ n, dZ d] (.one (dQ q)) := by
  subst hq
  obtain ⟨e1, e2, _, _⟩ := lowest_p (n := n) hd
  have hg0 := gz_ne (n := n) hd
  have hsg := h2.gcd (n := n) hd
  obtain ⟨g, hg⟩ : ∃ g, Nat.gcd n.natAbs d.natAbs = g := ⟨_, rfl⟩
  rw [hg] at hsg
  by_cases h : d < 0
  · rw [gz_neg hg h] at e1 e2 hg0
    have hs : CallOK Tryz.prog 65 [dZ d] (.one (dN .i64 (-1))) := by have := okz_r1_Sign d; rwa [Int.sign_eq_neg_one_of_neg h] at this
    refine callOK_of TT_ok mixT Tryz.func68 rfl rfl (Nat.le_of_ble_eq_true rfl) ?_
    repeat (first | refine r_op rfl rfl rfl rfl ?_ | refine r_skip rfl rfl rfl ?_ | refine .done ?_ | refine r_seq (T := TT) ?_ | refine r_region (T := TT) rfl ?_ | refine r_block (T := TT) ?_ | refine r_then (T := TT) rfl ?_ | refine r_else (T := TT) rfl ?_)
    refine r_call (okz_r1_GCD (h1.fit hk) (h2.fit hk) hg) rfl rfl rfl rfl rfl rfl rfl ?_
    repeat (first | refine r_op rfl rfl rfl rfl ?_ | refine r_skip rfl rfl rfl ?_ | refine .done ?_ | refine r_seq (T := TT) ?_ | refine r_region (T := TT) rfl ?_ | refine r_block (T := TT) ?_ | refine r_then (T := TT) rfl ?_ | refine r_else (T := TT) rfl ?_)
    refine r_call (hs) rfl rfl rfl rfl rfl rfl rfl ?_
    repeat (first | refine r_op rfl rfl rfl rfl ?_ | refine r_skip rfl rfl rfl ?_ | refine .done ?_ | refine r_seq (T := TT) ?_ | refine r_region (T := TT) rfl ?_ | refine r_block (T := TT) ?_ | refine r_then (T := TT) rfl ?_ | refine r_else (T := TT) rfl ?_)
    refine r_call (okz_r1_Neg g) rfl rfl rfl rfl rfl rfl rfl ?_
    repeat (first | refine r_op rfl rfl rfl rfl ?_ | refine r_skip rfl rfl rfl ?_ | refine .done ?_ | refine r_seq (T := TT) ?_ | refine r_region (T := TT) rfl ?_ | refine r_block (T := TT) ?_ | refine r_then (T := TT) rfl ?_ | refine r_else (T := TT) rfl ?_)
    refine r_call (ok_r2_quo (h1.fit hk) (hsg.neg.fit hk) hg0 e1) rfl rfl rfl rfl rfl rfl rfl ?_
    repeat (first | refine r_op rfl rfl rfl rfl ?_ | refine r_skip rfl rfl rfl ?_ | refine .done ?_ | refine r_seq (T := TT) ?_ | refine r_region (T := TT) rfl ?_ | refine r_block (T := TT) ?_ | refine r_then (T := TT) rfl ?_ | refine r_else (T := TT) rfl ?_)
    refine r_call (ok_r2_quo (h2.fit hk) (hsg.neg.fit hk) hg0 e2) rfl rfl rfl rfl rfl rfl rfl ?_
    repeat (first | refine r_op rfl rfl rfl rfl ?_ | refine r_skip rfl rfl rfl ?_ | refine .done ?_ | refine r_seq (T := TT) ?_ | refine r_region (T := TT) rfl ?_ | refine r_block (T := TT) ?_ | refine r_then (T := TT) rfl ?_ | refine r_else (T := TT) rfl ?_)
    exact r_fin (T := TT) rfl rfl
  · rw [gz_pos hg h] at e1 e2 hg0
    have hs : CallOK Tryz.prog 65 [dZ d] (.one (dN .i64 1)) := by have := okz_r1_Sign d; rwa [Int.sign_eq_one_of_pos (by omega)] at this
    refine callOK_of TT_ok mixT Tryz.func68 rfl rfl (Nat.le_of_ble_eq_true rfl) ?_
    repeat (first | refine r_op rfl rfl rfl rfl ?_ | refine r_skip rfl rfl rfl ?_ | refine .done ?_ | refine r_seq (T := TT) ?_ | refine r_region (T := TT) rfl ?_ | refine r_block (T := TT) ?_ | refine r_then (T := TT) rfl ?_ | refine r_else (T := TT) rfl ?_)
    refine r_call (okz_r1_GCD (h1.fit hk) (h2.fit hk) hg) rfl rfl rfl rfl rfl rfl rfl ?_
    repeat (first | refine r_op rfl rfl rfl rfl ?_ | refine r_skip rfl rfl rfl ?_ | refine .done ?_ | refine r_seq (T := TT) ?_ | refine r_region (T := TT) rfl ?_ | refine r_block (T := TT) ?_ | refine r_then (T := TT) rfl ?_ | refine r_else (T := TT) rfl ?_)
    refine r_call (hs) rfl rfl rfl rfl rfl rfl rfl ?_
    repeat (first | refine r_op rfl rfl rfl rfl ?_ | refine r_skip rfl rfl rfl ?_ | refine .done ?_ | refine r_seq (T := TT) ?_ | refine r_region (T := TT) rfl ?_ | refine r_block (T := TT) ?_ | refine r_then (T := TT) rfl ?_ | refine r_else (T := TT) rfl ?_)
    refine r_call (ok_r2_quo (h1.fit hk) (hsg.fit hk) hg0 e1) rfl rfl rfl rfl rfl rfl rfl ?_
    repeat (first | refine r_op rfl rfl rfl rfl ?_ | refine r_skip rfl rfl rfl ?_ | refine .done ?_ | refine r_seq (T := TT) ?_ | refine r_region (T := TT) rfl ?_ | refine r_block (T := TT) ?_ | refine r_then (T := TT) rfl ?_ | refine r_else (T := TT) rfl ?_)
    refine r_call (ok_r2_quo (h2.fit hk) (hsg.fit hk) hg0 e2) rfl rfl rfl rfl rfl rfl rfl ?_
    repeat (first | refine r_op rfl rfl rfl rfl ?_ | refine r_skip rfl rfl rfl ?_ | refine .done ?_ | refine r_seq (T := TT) ?_ | refine r_region (T := TT) rfl ?_ | refine r_block (T := TT) ?_ | refine r_then (T := TT) rfl ?_ | refine r_else (T := TT) rfl ?_)
    exact r_fin (T := TT) rfl rfl
theorem Sz.of_val {na : Bool} {xs : List Nat} {n : Int} {k : Nat} (hw : Wd xs) (h : xs.length ≤ k) (hn : toZ na xs = n) : Sz k n := by
  rw [← hn]; unfold Sz; rw [natAbs_toZ]; exact Nat.lt_of_lt_of_le (val_lt hw) (Nat.pow_le_pow_right (by decide) h)
theorem ok_q_Make {na nb : Bool} {xs ys : List Nat} {n d : Int} {q : Rat} (hw : Wd xs) (hw' : Wd ys) (h1 : xs.length ≤ 1000) (h2 : ys.length ≤ 1000) (hn : toZ na xs = n) (hd : toZ nb ys = d) (h0 : d ≠ 0) (hq : Rat.divInt n d = q) : CallOK Tryz.prog 95 [dI na xs, dI nb ys] (.tup [dQ q, dN .i64 0]) := by
  have s1 : Sz 1000 n := Sz.of_val hw h1 hn
  have s2 : Sz 1000 d := Sz.of_val hw' h2 hd
  refine callOK_of TT_ok mixT Tryz.func95 rfl rfl (Nat.le_of_ble_eq_true rfl) ?_
  repeat (first | refine r_op rfl rfl rfl rfl ?_ | refine r_skip rfl rfl rfl ?_ | refine .done ?_ | refine r_seq (T := TT) ?_ | refine r_region (T := TT) rfl ?_ | refine r_block (T := TT) ?_ | refine r_then (T := TT) rfl ?_ | refine r_else (T := TT) rfl ?_)
  refine r_call (ok_i_Norm (na := na) hw (by unfold Fit; omega) hn) rfl rfl rfl rfl rfl rfl rfl ?_
  repeat (first | refine r_op rfl rfl rfl rfl ?_ | refine r_skip rfl rfl rfl ?_ | refine .done ?_ | refine r_seq (T := TT) ?_ | refine r_region (T := TT) rfl ?_ | refine r_block (T := TT) ?_ | refine r_then (T := TT) rfl ?_ | refine r_else (T := TT) rfl ?_)
  refine r_call (ok_i_Norm (na := nb) hw' (by unfold Fit; omega) hd) rfl rfl rfl rfl rfl rfl rfl ?_
  repeat (first | refine r_op rfl rfl rfl rfl ?_ | refine r_skip rfl rfl rfl ?_ | refine .done ?_ | refine r_seq (T := TT) ?_ | refine r_region (T := TT) rfl ?_ | refine r_block (T := TT) ?_ | refine r_then (T := TT) rfl ?_ | refine r_else (T := TT) rfl ?_)
  refine r_call (okz_q_isZero (decide_eq_false h0)) rfl rfl rfl rfl rfl rfl rfl ?_
  repeat (first | refine r_op rfl rfl rfl rfl ?_ | refine r_skip rfl rfl rfl ?_ | refine .done ?_ | refine r_seq (T := TT) ?_ | refine r_region (T := TT) rfl ?_ | refine r_block (T := TT) ?_ | refine r_then (T := TT) rfl ?_ | refine r_else (T := TT) rfl ?_)
  refine r_call (ok_q_lowest s1 s2 (by decide) h0 hq) rfl rfl rfl rfl rfl rfl rfl ?_
  repeat (first | refine r_op rfl rfl rfl rfl ?_ | refine r_skip rfl rfl rfl ?_ | refine .done ?_ | refine r_seq (T := TT) ?_ | refine r_region (T := TT) rfl ?_ | refine r_block (T := TT) ?_ | refine r_then (T := TT) rfl ?_ | refine r_else (T := TT) rfl ?_)
  exact r_fin (T := TT) rfl rfl
theorem ok_q_Make0 {na nb : Bool} {xs ys : List Nat} {n d : Int} (hw : Wd xs) (hw' : Wd ys) (h1 : xs.length ≤ 1000) (h2 : ys.length ≤ 1000) (hn : toZ na xs = n) (hd : toZ nb ys = d) (h0 : d = 0) : CallOK Tryz.prog 95 [dI na xs, dI nb ys] (.tup [dQ0, dN .i64 6]) := by
  refine callOK_of TT_ok mixT Tryz.func95 rfl rfl (Nat.le_of_ble_eq_true rfl) ?_
  repeat (first | refine r_op rfl rfl rfl rfl ?_ | refine r_skip rfl rfl rfl ?_ | refine .done ?_ | refine r_seq (T := TT) ?_ | refine r_region (T := TT) rfl ?_ | refine r_block (T := TT) ?_ | refine r_then (T := TT) rfl ?_ | refine r_else (T := TT) rfl ?_)
  refine r_call (ok_i_Norm (na := na) hw (by unfold Fit; omega) hn) rfl rfl rfl rfl rfl rfl rfl ?_
  repeat (first | refine r_op rfl rfl rfl rfl ?_ | refine r_skip rfl rfl rfl ?_ | refine .done ?_ | refine r_seq (T := TT) ?_ | refine r_region (T := TT) rfl ?_ | refine r_block (T := TT) ?_ | refine r_then (T := TT) rfl ?_ | refine r_else (T := TT) rfl ?_)
  refine r_call (ok_i_Norm (na := nb) hw' (by unfold Fit; omega) hd) rfl rfl rfl rfl rfl rfl rfl ?_
  repeat (first | refine r_op rfl rfl rfl rfl ?_ | refine r_skip rfl rfl rfl ?_ | refine .done ?_ | refine r_seq (T := TT) ?_ | refine r_region (T := TT) rfl ?_ | refine r_block (T := TT) ?_ | refine r_then (T := TT) rfl ?_ | refine r_else (T := TT) rfl ?_)
  refine r_call (okz_q_isZero (decide_eq_true h0)) rfl rfl rfl rfl rfl rfl rfl ?_
  repeat (first | refine r_op rfl rfl rfl rfl ?_ | refine r_skip rfl rfl rfl ?_ | refine .done ?_ | refine r_seq (T := TT) ?_ | refine r_region (T := TT) rfl ?_ | refine r_block (T := TT) ?_ | refine r_then (T := TT) rfl ?_ | refine r_else (T := TT) rfl ?_)
  exact r_fin (T := TT) rfl rfl
theorem okz_q_Make {n d : Int} {q : Rat} (h1 : Sz 1000 n) (h2 : Sz 1000 d) (h0 : d ≠ 0) (hq : Rat.divInt n d = q) : CallOK Tryz.prog 95 [dZ n, dZ d] (.tup [dQ q, dN .i64 0]) :=
  ok_q_Make (Wd_digs _) (Wd_digs _) h1.digs h2.digs (toZ_int n) (toZ_int d) h0 hq
theorem ok_q_FromInt (k : Int) (h1 : -9223372036854775808 ≤ k) (h2 : k < 9223372036854775808) {q : Rat} (hq : (k : Rat) = q) : CallOK Tryz.prog 56 [dN .i64 k] (.one (dQ q)) := by
  subst hq
  refine callOK_of TT_ok mixT Tryz.func56 rfl rfl (Nat.le_of_ble_eq_true rfl) ?_
  repeat (first | refine r_op rfl rfl rfl rfl ?_ | refine r_skip rfl rfl rfl ?_ | refine .done ?_ | refine r_seq (T := TT) ?_ | refine r_region (T := TT) rfl ?_ | refine r_block (T := TT) ?_ | refine r_then (T := TT) rfl ?_ | refine r_else (T := TT) rfl ?_)
  refine r_call (ok_i_FromInt k h1 h2) rfl rfl rfl rfl rfl rfl rfl ?_
  repeat (first | refine r_op rfl rfl rfl rfl ?_ | refine r_skip rfl rfl rfl ?_ | refine .done ?_ | refine r_seq (T := TT) ?_ | refine r_region (T := TT) rfl ?_ | refine r_block (T := TT) ?_ | refine r_then (T := TT) rfl ?_ | refine r_else (T := TT) rfl ?_)
  refine r_call (ok_q_one) rfl rfl rfl rfl rfl rfl rfl ?_
  repeat (first | refine r_op rfl rfl rfl rfl ?_ | refine r_skip rfl rfl rfl ?_ | refine .done ?_ | refine r_seq (T := TT) ?_ | refine r_region (T := TT) rfl ?_ | refine r_block (T := TT) ?_ | refine r_then (T := TT) rfl ?_ | refine r_else (T := TT) rfl ?_)
  exact r_fin (T := TT) rfl rfl
theorem ok_r2_FromInt (k : Int) (h1 : -9223372036854775808 ≤ k) (h2 : k < 9223372036854775808) {q : Rat} (hq : (k : Rat) = q) : CallOK Tryz.prog 42 [dN .i64 k] (.one (dQ q)) := by
  subst hq
  refine callOK_of TT_ok mixT Tryz.func42 rfl rfl (Nat.le_of_ble_eq_true rfl) ?_
  repeat (first | refine r_op rfl rfl rfl rfl ?_ | refine r_skip rfl rfl rfl ?_ | refine .done ?_ | refine r_seq (T := TT) ?_ | refine r_region (T := TT) rfl ?_ | refine r_block (T := TT) ?_ | refine r_then (T := TT) rfl ?_ | refine r_else (T := TT) rfl ?_)
  refine r_call (ok_r1_FromInt k h1 h2) rfl rfl rfl rfl rfl rfl rfl ?_
  repeat (first | refine r_op rfl rfl rfl rfl ?_ | refine r_skip rfl rfl rfl ?_ | refine .done ?_ | refine r_seq (T := TT) ?_ | refine r_region (T := TT) rfl ?_ | refine r_block (T := TT) ?_ | refine r_then (T := TT) rfl ?_ | refine r_else (T := TT) rfl ?_)
  refine r_call (ok_r1_FromInt 1 (by decide) (by decide)) rfl rfl rfl rfl rfl rfl rfl ?_
  repeat (first | refine r_op rfl rfl rfl rfl ?_ | refine r_skip rfl rfl rfl ?_ | refine .done ?_ | refine r_seq (T := TT) ?_ | refine r_region (T := TT) rfl ?_ | refine r_block (T := TT) ?_ | refine r_then (T := TT) rfl ?_ | refine r_else (T := TT) rfl ?_)
  exact r_fin (T := TT) rfl rfl
theorem divInt_zero' (n : Int) : Rat.divInt n 0 = ((0 : Int) : Rat) := by simp
theorem ok_q_Frac (n d : Int) (h1 : -9223372036854775808 ≤ n) (h2 : n < 9223372036854775808) (h3 : -9223372036854775808 ≤ d) (h4 : d < 9223372036854775808) {q : Rat} (hq : Rat.divInt n d = q) : CallOK Tryz.prog 66 [dN .i64 n, dN .i64 d] (.one (dQ q)) := by
  by_cases h0 : d = 0
  · refine callOK_of TT_ok mixT Tryz.func66 rfl rfl (Nat.le_of_ble_eq_true rfl) ?_
    repeat (first | refine r_op rfl rfl rfl rfl ?_ | refine r_skip rfl rfl rfl ?_ | refine .done ?_ | refine r_seq (T := TT) ?_ | refine r_region (T := TT) rfl ?_ | refine r_block (T := TT) ?_ | refine r_then (T := TT) rfl ?_ | refine r_else (T := TT) rfl ?_)
    refine r_call (ok_i_FromInt n h1 h2) rfl rfl rfl rfl rfl rfl rfl ?_
    repeat (first | refine r_op rfl rfl rfl rfl ?_ | refine r_skip rfl rfl rfl ?_ | refine .done ?_ | refine r_seq (T := TT) ?_ | refine r_region (T := TT) rfl ?_ | refine r_block (T := TT) ?_ | refine r_then (T := TT) rfl ?_ | refine r_else (T := TT) rfl ?_)
    refine r_call (ok_i_FromInt d h3 h4) rfl rfl rfl rfl rfl rfl rfl ?_
    repeat (first | refine r_op rfl rfl rfl rfl ?_ | refine r_skip rfl rfl rfl ?_ | refine .done ?_ | refine r_seq (T := TT) ?_ | refine r_region (T := TT) rfl ?_ | refine r_block (T := TT) ?_ | refine r_then (T := TT) rfl ?_ | refine r_else (T := TT) rfl ?_)
    refine r_call (ok_q_Make0 (na := decide (n < 0)) (nb := decide (d < 0)) (Wd_digs _) (Wd_digs _) ((Sz.i64 h1 h2).mono (k := 1000) (by decide)).digs ((Sz.i64 h3 h4).mono (k := 1000) (by decide)).digs (toZ_int n) (toZ_int d) h0) rfl rfl rfl rfl rfl rfl rfl ?_
    repeat (first | refine r_op rfl rfl rfl rfl ?_ | refine r_skip rfl rfl rfl ?_ | refine .done ?_ | refine r_seq (T := TT) ?_ | refine r_region (T := TT) rfl ?_ | refine r_block (T := TT) ?_ | refine r_then (T := TT) rfl ?_ | refine r_else (T := TT) rfl ?_)
    refine r_call (ok_q_FromInt 0 (by decide) (by decide) (q := q) (by subst h0; rw [← divInt_zero' n]; exact hq)) rfl rfl rfl rfl rfl rfl rfl ?_
    repeat (first | refine r_op rfl rfl rfl rfl ?_ | refine r_skip rfl rfl rfl ?_ | refine .done ?_ | refine r_seq (T := TT) ?_ | refine r_region (T := TT) rfl ?_ | refine r_block (T := TT) ?_ | refine r_then (T := TT) rfl ?_ | refine r_else (T := TT) rfl ?_)
    exact r_fin (T := TT) rfl rfl
  · refine callOK_of TT_ok mixT Tryz.func66 rfl rfl (Nat.le_of_ble_eq_true rfl) ?_
    repeat (first | refine r_op rfl rfl rfl rfl ?_ | refine r_skip rfl rfl rfl ?_ | refine .done ?_ | refine r_seq (T := TT) ?_ | refine r_region (T := TT) rfl ?_ | refine r_block (T := TT) ?_ | refine r_then (T := TT) rfl ?_ | refine r_else (T := TT) rfl ?_)
    refine r_call (ok_i_FromInt n h1 h2) rfl rfl rfl rfl rfl rfl rfl ?_
    repeat (first | refine r_op rfl rfl rfl rfl ?_ | refine r_skip rfl rfl rfl ?_ | refine .done ?_ | refine r_seq (T := TT) ?_ | refine r_region (T := TT) rfl ?_ | refine r_block (T := TT) ?_ | refine r_then (T := TT) rfl ?_ | refine r_else (T := TT) rfl ?_)
    refine r_call (ok_i_FromInt d h3 h4) rfl rfl rfl rfl rfl rfl rfl ?_
    repeat (first | refine r_op rfl rfl rfl rfl ?_ | refine r_skip rfl rfl rfl ?_ | refine .done ?_ | refine r_seq (T := TT) ?_ | refine r_region (T := TT) rfl ?_ | refine r_block (T := TT) ?_ | refine r_then (T := TT) rfl ?_ | refine r_else (T := TT) rfl ?_)
    refine r_call (okz_q_Make ((Sz.i64 h1 h2).mono (by decide)) ((Sz.i64 h3 h4).mono (by decide)) h0 hq) rfl rfl rfl rfl rfl rfl rfl ?_
    repeat (first | refine r_op rfl rfl rfl rfl ?_ | refine r_skip rfl rfl rfl ?_ | refine .done ?_ | refine r_seq (T := TT) ?_ | refine r_region (T := TT) rfl ?_ | refine r_block (T := TT) ?_ | refine r_then (T := TT) rfl ?_ | refine r_else (T := TT) rfl ?_)
    exact r_fin (T := TT) rfl rfl
theorem ok_r2_Frac (n d : Int) (h1 : -9223372036854775808 ≤ n) (h2 : n < 9223372036854775808) (h3 : -9223372036854775808 ≤ d) (h4 : d < 9223372036854775808) {q : Rat} (hq : Rat.divInt n d = q) : CallOK Tryz.prog 41 [dN .i64 n, dN .i64 d] (.one (dQ q)) := by
  by_cases h0 : d = 0
  · subst h0
    refine callOK_of TT_ok mixT Tryz.func41 rfl rfl (Nat.le_of_ble_eq_true rfl) ?_
    repeat (first | refine r_op rfl rfl rfl rfl ?_ | refine r_skip rfl rfl rfl ?_ | refine .done ?_ | refine r_seq (T := TT) ?_ | refine r_region (T := TT) rfl ?_ | refine r_block (T := TT) ?_ | refine r_then (T := TT) rfl ?_ | refine r_else (T := TT) rfl ?_)
    refine r_call (ok_r2_FromInt 0 (by decide) (by decide) (q := q) (by rw [← divInt_zero' n]; exact hq)) rfl rfl rfl rfl rfl rfl rfl ?_
    repeat (first | refine r_op rfl rfl rfl rfl ?_ | refine r_skip rfl rfl rfl ?_ | refine .done ?_ | refine r_seq (T := TT) ?_ | refine r_region (T := TT) rfl ?_ | refine r_block (T := TT) ?_ | refine r_then (T := TT) rfl ?_ | refine r_else (T := TT) rfl ?_)
    exact r_fin (T := TT) rfl rfl
  · refine callOK_of TT_ok mixT Tryz.func41 rfl rfl (Nat.le_of_ble_eq_true rfl) ?_
    repeat (first | refine r_op rfl rfl rfl rfl ?_ | refine r_skip rfl rfl rfl ?_ | refine .done ?_ | refine r_seq (T := TT) ?_ | refine r_region (T := TT) rfl ?_ | refine r_block (T := TT) ?_ | refine r_then (T := TT) rfl ?_ | refine r_else (T := TT) rfl ?_)
    refine r_else2 (T := TT) rfl ?_ ?_
    · exact decide_eq_false h0
    repeat (first | refine r_op rfl rfl rfl rfl ?_ | refine r_skip rfl rfl rfl ?_ | refine .done ?_ | refine r_seq (T := TT) ?_ | refine r_region (T := TT) rfl ?_ | refine r_block (T := TT) ?_ | refine r_then (T := TT) rfl ?_ | refine r_else (T := TT) rfl ?_)
    refine r_call (ok_r1_FromInt n h1 h2) rfl rfl rfl rfl rfl rfl rfl ?_
    repeat (first | refine r_op rfl rfl rfl rfl ?_ | refine r_skip rfl rfl rfl ?_ | refine .done ?_ | refine r_seq (T := TT) ?_ | refine r_region (T := TT) rfl ?_ | refine r_block (T := TT) ?_ | refine r_then (T := TT) rfl ?_ | refine r_else (T := TT) rfl ?_)
    refine r_call (ok_r1_FromInt d h3 h4) rfl rfl rfl rfl rfl rfl rfl ?_
    repeat (first | refine r_op rfl rfl rfl rfl ?_ | refine r_skip rfl rfl rfl ?_ | refine .done ?_ | refine r_seq (T := TT) ?_ | refine r_region (T := TT) rfl ?_ | refine r_block (T := TT) ?_ | refine r_then (T := TT) rfl ?_ | refine r_else (T := TT) rfl ?_)
    refine r_call (ok_r2_Make (Sz.i64 h1 h2) (Sz.i64 h3 h4) (by decide) h0 hq) rfl rfl rfl rfl rfl rfl rfl ?_
    repeat (first | refine r_op rfl rfl rfl rfl ?_ | refine r_skip rfl rfl rfl ?_ | refine .done ?_ | refine r_seq (T := TT) ?_ | refine r_region (T := TT) rfl ?_ | refine r_block (T := TT) ?_ | refine r_then (T := TT) rfl ?_ | refine r_else (T := TT) rfl ?_)
    exact r_fin (T := TT) rfl rfl
theorem ok_q_Neg {k : Nat} {a q : Rat} (h : SzQ k a) (hk : k ≤ 2147483648) (hq : -a = q) : CallOK Tryz.prog 87 [dQ a] (.one (dQ q)) := by
  subst hq
  refine callOK_of TT_ok mixT Tryz.func87 rfl rfl (Nat.le_of_ble_eq_true rfl) ?_
  repeat (first | refine r_op rfl rfl rfl rfl ?_ | refine r_skip rfl rfl rfl ?_ | refine .done ?_ | refine r_seq (T := TT) ?_ | refine r_region (T := TT) rfl ?_ | refine r_block (T := TT) ?_ | refine r_then (T := TT) rfl ?_ | refine r_else (T := TT) rfl ?_)
  refine r_call (okz_i_Neg (h.1.fit hk)) rfl rfl rfl rfl rfl rfl rfl ?_
  repeat (first | refine r_op rfl rfl rfl rfl ?_ | refine r_skip rfl rfl rfl ?_ | refine .done ?_ | refine r_seq (T := TT) ?_ | refine r_region (T := TT) rfl ?_ | refine r_block (T := TT) ?_ | refine r_then (T := TT) rfl ?_ | refine r_else (T := TT) rfl ?_)
  exact r_fin (T := TT) rfl rfl
theorem ok_r2_Sign (a : Rat) : CallOK Tryz.prog 27 [dQ a] (.one (dN .i64 (sgQ a))) := by
  refine callOK_of TT_ok mixT Tryz.func27 rfl rfl (Nat.le_of_ble_eq_true rfl) ?_
  repeat (first | refine r_op rfl rfl rfl rfl ?_ | refine r_skip rfl rfl rfl ?_ | refine .done ?_ | refine r_seq (T := TT) ?_ | refine r_region (T := TT) rfl ?_ | refine r_block (T := TT) ?_ | refine r_then (T := TT) rfl ?_ | refine r_else (T := TT) rfl ?_)
  refine r_call (okz_r1_Sign a.num) rfl rfl rfl rfl rfl rfl rfl ?_
  repeat (first | refine r_op rfl rfl rfl rfl ?_ | refine r_skip rfl rfl rfl ?_ | refine .done ?_ | refine r_seq (T := TT) ?_ | refine r_region (T := TT) rfl ?_ | refine r_block (T := TT) ?_ | refine r_then (T := TT) rfl ?_ | refine r_else (T := TT) rfl ?_)
  exact r_fin (T := TT) rfl rfl
end Go.Proofs.YtmpadildchphgaaGreatDoor
namespace Go.Proofs.YtmpadildchphgaaGreatDoor
open Go.RowKit
theorem dQ_of {q : Rat} {n d : Int} (h1 : q.num = n) (h2 : (q.den : Int) = d) : dQ q = .agg (aZ n ++ aZ d) := by unfold dQ aQ; rw [h1, h2]
theorem den_is (a : Rat) : decide ((a.den : Int) = 1) = decide (a.den = 1) := by by_cases h : a.den = 1 <;> simp [h] <;> omega
theorem one_t {a : Rat} (h : a.den = 1) : decide ((a.den : Int) = 1) = true := by rw [den_is]; exact decide_eq_true h
theorem one_f {a : Rat} (h : ¬ a.den = 1) : decide ((a.den : Int) = 1) = false := by rw [den_is]; exact decide_eq_false h
theorem nil_t {z : Int} (h : z = 0) : decide (((digs z.natAbs).length : Int) = 0) = true := digs_nil_iff.trans (decide_eq_true h)
theorem nil_f {z : Int} (h : ¬ z = 0) : decide (((digs z.natAbs).length : Int) = 0) = false := digs_nil_iff.trans (decide_eq_false h)
theorem fdiv_nat (a : Int) (g : Nat) : a.fdiv g = a / g := Int.fdiv_eq_ediv_of_nonneg _ (by omega)
theorem fdiv_nn (a g : Nat) : (a : Int).fdiv g = ((a / g : Nat) : Int) := by rw [fdiv_nat]; rfl
theorem ok_q_Add {j k : Nat} {a b q : Rat} (h : SzQ j a) (h' : SzQ k b) (hk : j + k + 1 ≤ 2147483648) (hq : a + b = q) : CallOK Tryz.prog 45 [dQ a, dQ b] (.one (dQ q)) := by
  subst hq
  have d0 : (a.den : Int) * b.den ≠ 0 := by have := Int.mul_pos (den_pos a) (den_pos b); omega
  by_cases ha : a.den = 1
  · by_cases hb : b.den = 1
    · rw [dQ_of (add_one ha hb).1 (d := 1) (by rw [(add_one ha hb).2]; rfl)]
      refine callOK_of TT_ok mixT Tryz.func45 rfl rfl (Nat.le_of_ble_eq_true rfl) ?_
      repeat (first | refine r_op rfl rfl rfl rfl ?_ | refine r_skip rfl rfl rfl ?_ | refine .done ?_ | refine r_seq (T := TT) ?_ | refine r_region (T := TT) rfl ?_ | refine r_block (T := TT) ?_ | refine r_then (T := TT) rfl ?_ | refine r_else (T := TT) rfl ?_)
      refine r_call (okz_q_isOne (one_t ha)) rfl rfl rfl rfl rfl rfl rfl ?_
      repeat (first | refine r_op rfl rfl rfl rfl ?_ | refine r_skip rfl rfl rfl ?_ | refine .done ?_ | refine r_seq (T := TT) ?_ | refine r_region (T := TT) rfl ?_ | refine r_block (T := TT) ?_ | refine r_then (T := TT) rfl ?_ | refine r_else (T := TT) rfl ?_)
      refine r_call (okz_q_isOne (one_t hb)) rfl rfl rfl rfl rfl rfl rfl ?_
      repeat (first | refine r_op rfl rfl rfl rfl ?_ | refine r_skip rfl rfl rfl ?_ | refine .done ?_ | refine r_seq (T := TT) ?_ | refine r_region (T := TT) rfl ?_ | refine r_block (T := TT) ?_ | refine r_then (T := TT) rfl ?_ | refine r_else (T := TT) rfl ?_)
      refine r_call (okz_i_Add (h.1.fit (by omega)) (h'.1.fit (by omega))) rfl rfl rfl rfl rfl rfl rfl ?_
      repeat (first | refine r_op rfl rfl rfl rfl ?_ | refine r_skip rfl rfl rfl ?_ | refine .done ?_ | refine r_seq (T := TT) ?_ | refine r_region (T := TT) rfl ?_ | refine r_block (T := TT) ?_ | refine r_then (T := TT) rfl ?_ | refine r_else (T := TT) rfl ?_)
      refine r_call (ok_q_one) rfl rfl rfl rfl rfl rfl rfl ?_
      repeat (first | refine r_op rfl rfl rfl rfl ?_ | refine r_skip rfl rfl rfl ?_ | refine .done ?_ | refine r_seq (T := TT) ?_ | refine r_region (T := TT) rfl ?_ | refine r_block (T := TT) ?_ | refine r_then (T := TT) rfl ?_ | refine r_else (T := TT) rfl ?_)
      exact r_fin (T := TT) rfl rfl
    · refine callOK_of TT_ok mixT Tryz.func45 rfl rfl (Nat.le_of_ble_eq_true rfl) ?_
      repeat (first | refine r_op rfl rfl rfl rfl ?_ | refine r_skip rfl rfl rfl ?_ | refine .done ?_ | refine r_seq (T := TT) ?_ | refine r_region (T := TT) rfl ?_ | refine r_block (T := TT) ?_ | refine r_then (T := TT) rfl ?_ | refine r_else (T := TT) rfl ?_)
      refine r_call (okz_q_isOne (one_t ha)) rfl rfl rfl rfl rfl rfl rfl ?_
      repeat (first | refine r_op rfl rfl rfl rfl ?_ | refine r_skip rfl rfl rfl ?_ | refine .done ?_ | refine r_seq (T := TT) ?_ | refine r_region (T := TT) rfl ?_ | refine r_block (T := TT) ?_ | refine r_then (T := TT) rfl ?_ | refine r_else (T := TT) rfl ?_)
      refine r_call (okz_q_isOne (one_f hb)) rfl rfl rfl rfl rfl rfl rfl ?_
      repeat (first | refine r_op rfl rfl rfl rfl ?_ | refine r_skip rfl rfl rfl ?_ | refine .done ?_ | refine r_seq (T := TT) ?_ | refine r_region (T := TT) rfl ?_ | refine r_block (T := TT) ?_ | refine r_then (T := TT) rfl ?_ | refine r_else (T := TT) rfl ?_)
      refine r_call (okz_i_Mul (h.1.fit (by omega)) (h'.2.fit (by omega))) rfl rfl rfl rfl rfl rfl rfl ?_
      repeat (first | refine r_op rfl rfl rfl rfl ?_ | refine r_skip rfl rfl rfl ?_ | refine .done ?_ | refine r_seq (T := TT) ?_ | refine r_region (T := TT) rfl ?_ | refine r_block (T := TT) ?_ | refine r_then (T := TT) rfl ?_ | refine r_else (T := TT) rfl ?_)
      refine r_call (okz_i_Mul (h'.1.fit (by omega)) (h.2.fit (by omega))) rfl rfl rfl rfl rfl rfl rfl ?_
      repeat (first | refine r_op rfl rfl rfl rfl ?_ | refine r_skip rfl rfl rfl ?_ | refine .done ?_ | refine r_seq (T := TT) ?_ | refine r_region (T := TT) rfl ?_ | refine r_block (T := TT) ?_ | refine r_then (T := TT) rfl ?_ | refine r_else (T := TT) rfl ?_)
      refine r_call (okz_i_Add ((h.1.mul h'.2).fit (by omega)) ((h'.1.mul h.2).fit (by omega))) rfl rfl rfl rfl rfl rfl rfl ?_
      repeat (first | refine r_op rfl rfl rfl rfl ?_ | refine r_skip rfl rfl rfl ?_ | refine .done ?_ | refine r_seq (T := TT) ?_ | refine r_region (T := TT) rfl ?_ | refine r_block (T := TT) ?_ | refine r_then (T := TT) rfl ?_ | refine r_else (T := TT) rfl ?_)
      refine r_call (okz_i_Mul (h.2.fit (by omega)) (h'.2.fit (by omega))) rfl rfl rfl rfl rfl rfl rfl ?_
      repeat (first | refine r_op rfl rfl rfl rfl ?_ | refine r_skip rfl rfl rfl ?_ | refine .done ?_ | refine r_seq (T := TT) ?_ | refine r_region (T := TT) rfl ?_ | refine r_block (T := TT) ?_ | refine r_then (T := TT) rfl ?_ | refine r_else (T := TT) rfl ?_)
      refine r_call (ok_q_lowest (k := j + k + 1) ((h.1.mul h'.2).add ((h'.1.mul h.2).mono (by omega))) ((h.2.mul h'.2).mono (by omega)) hk d0 (add_divInt a b)) rfl rfl rfl rfl rfl rfl rfl ?_
      repeat (first | refine r_op rfl rfl rfl rfl ?_ | refine r_skip rfl rfl rfl ?_ | refine .done ?_ | refine r_seq (T := TT) ?_ | refine r_region (T := TT) rfl ?_ | refine r_block (T := TT) ?_ | refine r_then (T := TT) rfl ?_ | refine r_else (T := TT) rfl ?_)
      exact r_fin (T := TT) rfl rfl
  · refine callOK_of TT_ok mixT Tryz.func45 rfl rfl (Nat.le_of_ble_eq_true rfl) ?_
    repeat (first | refine r_op rfl rfl rfl rfl ?_ | refine r_skip rfl rfl rfl ?_ | refine .done ?_ | refine r_seq (T := TT) ?_ | refine r_region (T := TT) rfl ?_ | refine r_block (T := TT) ?_ | refine r_then (T := TT) rfl ?_ | refine r_else (T := TT) rfl ?_)
    refine r_call (okz_q_isOne (one_f ha)) rfl rfl rfl rfl rfl rfl rfl ?_
    repeat (first | refine r_op rfl rfl rfl rfl ?_ | refine r_skip rfl rfl rfl ?_ | refine .done ?_ | refine r_seq (T := TT) ?_ | refine r_region (T := TT) rfl ?_ | refine r_block (T := TT) ?_ | refine r_then (T := TT) rfl ?_ | refine r_else (T := TT) rfl ?_)
    refine r_call (okz_i_Mul (h.1.fit (by omega)) (h'.2.fit (by omega))) rfl rfl rfl rfl rfl rfl rfl ?_
    repeat (first | refine r_op rfl rfl rfl rfl ?_ | refine r_skip rfl rfl rfl ?_ | refine .done ?_ | refine r_seq (T := TT) ?_ | refine r_region (T := TT) rfl ?_ | refine r_block (T := TT) ?_ | refine r_then (T := TT) rfl ?_ | refine r_else (T := TT) rfl ?_)
    refine r_call (okz_i_Mul (h'.1.fit (by omega)) (h.2.fit (by omega))) rfl rfl rfl rfl rfl rfl rfl ?_
    repeat (first | refine r_op rfl rfl rfl rfl ?_ | refine r_skip rfl rfl rfl ?_ | refine .done ?_ | refine r_seq (T := TT) ?_ | refine r_region (T := TT) rfl ?_ | refine r_block (T := TT) ?_ | refine r_then (T := TT) rfl ?_ | refine r_else (T := TT) rfl ?_)
    refine r_call (okz_i_Add ((h.1.mul h'.2).fit (by omega)) ((h'.1.mul h.2).fit (by omega))) rfl rfl rfl rfl rfl rfl rfl ?_
    repeat (first | refine r_op rfl rfl rfl rfl ?_ | refine r_skip rfl rfl rfl ?_ | refine .done ?_ | refine r_seq (T := TT) ?_ | refine r_region (T := TT) rfl ?_ | refine r_block (T := TT) ?_ | refine r_then (T := TT) rfl ?_ | refine r_else (T := TT) rfl ?_)
    refine r_call (okz_i_Mul (h.2.fit (by omega)) (h'.2.fit (by omega))) rfl rfl rfl rfl rfl rfl rfl ?_
    repeat (first | refine r_op rfl rfl rfl rfl ?_ | refine r_skip rfl rfl rfl ?_ | refine .done ?_ | refine r_seq (T := TT) ?_ | refine r_region (T := TT) rfl ?_ | refine r_block (T := TT) ?_ | refine r_then (T := TT) rfl ?_ | refine r_else (T := TT) rfl ?_)
    refine r_call (ok_q_lowest (k := j + k + 1) ((h.1.mul h'.2).add ((h'.1.mul h.2).mono (by omega))) ((h.2.mul h'.2).mono (by omega)) hk d0 (add_divInt a b)) rfl rfl rfl rfl rfl rfl rfl ?_
    repeat (first | refine r_op rfl rfl rfl rfl ?_ | refine r_skip rfl rfl rfl ?_ | refine .done ?_ | refine r_seq (T := TT) ?_ | refine r_region (T := TT) rfl ?_ | refine r_block (T := TT) ?_ | refine r_then (T := TT) rfl ?_ | refine r_else (T := TT) rfl ?_)
    exact r_fin (T := TT) rfl rfl
theorem ok_q_Mul {j k : Nat} {a b q : Rat} (h : SzQ j a) (h' : SzQ k b) (hk : j + k ≤ 2147483648) (hq : a * b = q) : CallOK Tryz.prog 47 [dQ a, dQ b] (.one (dQ q)) := by
  subst hq
  have d0 : (a.den : Int) * b.den ≠ 0 := by have := Int.mul_pos (den_pos a) (den_pos b); omega
  by_cases ha : a.den = 1
  · by_cases hb : b.den = 1
    · rw [dQ_of (mul_one' ha hb).1 (d := 1) (by rw [(mul_one' ha hb).2]; rfl)]
      refine callOK_of TT_ok mixT Tryz.func47 rfl rfl (Nat.le_of_ble_eq_true rfl) ?_
      repeat (first | refine r_op rfl rfl rfl rfl ?_ | refine r_skip rfl rfl rfl ?_ | refine .done ?_ | refine r_seq (T := TT) ?_ | refine r_region (T := TT) rfl ?_ | refine r_block (T := TT) ?_ | refine r_then (T := TT) rfl ?_ | refine r_else (T := TT) rfl ?_)
      refine r_call (okz_q_isOne (one_t ha)) rfl rfl rfl rfl rfl rfl rfl ?_
      repeat (first | refine r_op rfl rfl rfl rfl ?_ | refine r_skip rfl rfl rfl ?_ | refine .done ?_ | refine r_seq (T := TT) ?_ | refine r_region (T := TT) rfl ?_ | refine r_block (T := TT) ?_ | refine r_then (T := TT) rfl ?_ | refine r_else (T := TT) rfl ?_)
      refine r_call (okz_q_isOne (one_t hb)) rfl rfl rfl rfl rfl rfl rfl ?_
      repeat (first | refine r_op rfl rfl rfl rfl ?_ | refine r_skip rfl rfl rfl ?_ | refine .done ?_ | refine r_seq (T := TT) ?_ | refine r_region (T := TT) rfl ?_ | refine r_block (T := TT) ?_ | refine r_then (T := TT) rfl ?_ | refine r_else (T := TT) rfl ?_)
      refine r_call (okz_i_Mul (h.1.fit (by omega)) (h'.1.fit (by omega))) rfl rfl rfl rfl rfl rfl rfl ?_
      repeat (first | refine r_op rfl rfl rfl rfl ?_ | refine r_skip rfl rfl rfl ?_ | refine .done ?_ | refine r_seq (T := TT) ?_ | refine r_region (T := TT) rfl ?_ | refine r_block (T := TT) ?_ | refine r_then (T := TT) rfl ?_ | refine r_else (T := TT) rfl ?_)
      refine r_call (ok_q_one) rfl rfl rfl rfl rfl rfl rfl ?_
      repeat (first | refine r_op rfl rfl rfl rfl ?_ | refine r_skip rfl rfl rfl ?_ | refine .done ?_ | refine r_seq (T := TT) ?_ | refine r_region (T := TT) rfl ?_ | refine r_block (T := TT) ?_ | refine r_then (T := TT) rfl ?_ | refine r_else (T := TT) rfl ?_)
      exact r_fin (T := TT) rfl rfl
    · refine callOK_of TT_ok mixT Tryz.func47 rfl rfl (Nat.le_of_ble_eq_true rfl) ?_
      repeat (first | refine r_op rfl rfl rfl rfl ?_ | refine r_skip rfl rfl rfl ?_ | refine .done ?_ | refine r_seq (T := TT) ?_ | refine r_region (T := TT) rfl ?_ | refine r_block (T := TT) ?_ | refine r_then (T := TT) rfl ?_ | refine r_else (T := TT) rfl ?_)
      refine r_call (okz_q_isOne (one_t ha)) rfl rfl rfl rfl rfl rfl rfl ?_
      repeat (first | refine r_op rfl rfl rfl rfl ?_ | refine r_skip rfl rfl rfl ?_ | refine .done ?_ | refine r_seq (T := TT) ?_ | refine r_region (T := TT) rfl ?_ | refine r_block (T := TT) ?_ | refine r_then (T := TT) rfl ?_ | refine r_else (T := TT) rfl ?_)
      refine r_call (okz_q_isOne (one_f hb)) rfl rfl rfl rfl rfl rfl rfl ?_
      repeat (first | refine r_op rfl rfl rfl rfl ?_ | refine r_skip rfl rfl rfl ?_ | refine .done ?_ | refine r_seq (T := TT) ?_ | refine r_region (T := TT) rfl ?_ | refine r_block (T := TT) ?_ | refine r_then (T := TT) rfl ?_ | refine r_else (T := TT) rfl ?_)
      refine r_call (okz_i_Mul (h.1.fit (by omega)) (h'.1.fit (by omega))) rfl rfl rfl rfl rfl rfl rfl ?_
      repeat (first | refine r_op rfl rfl rfl rfl ?_ | refine r_skip rfl rfl rfl ?_ | refine .done ?_ | refine r_seq (T := TT) ?_ | refine r_region (T := TT) rfl ?_ | refine r_block (T := TT) ?_ | refine r_then (T := TT) rfl ?_ | refine r_else (T := TT) rfl ?_)
      refine r_call (okz_i_Mul (h.2.fit (by omega)) (h'.2.fit (by omega))) rfl rfl rfl rfl rfl rfl rfl ?_
      repeat (first | refine r_op rfl rfl rfl rfl ?_ | refine r_skip rfl rfl rfl ?_ | refine .done ?_ | refine r_seq (T := TT) ?_ | refine r_region (T := TT) rfl ?_ | refine r_block (T := TT) ?_ | refine r_then (T := TT) rfl ?_ | refine r_else (T := TT) rfl ?_)
      refine r_call (ok_q_lowest (h.1.mul h'.1) (h.2.mul h'.2) hk d0 (mul_divInt a b)) rfl rfl rfl rfl rfl rfl rfl ?_
      repeat (first | refine r_op rfl rfl rfl rfl ?_ | refine r_skip rfl rfl rfl ?_ | refine .done ?_ | refine r_seq (T := TT) ?_ | refine r_region (T := TT) rfl ?_ | refine r_block (T := TT) ?_ | refine r_then (T := TT) rfl ?_ | refine r_else (T := TT) rfl ?_)
      exact r_fin (T := TT) rfl rfl
  · refine callOK_of TT_ok mixT Tryz.func47 rfl rfl (Nat.le_of_ble_eq_true rfl) ?_
    repeat (first | refine r_op rfl rfl rfl rfl ?_ | refine r_skip rfl rfl rfl ?_ | refine .done ?_ | refine r_seq (T := TT) ?_ | refine r_region (T := TT) rfl ?_ | refine r_block (T := TT) ?_ | refine r_then (T := TT) rfl ?_ | refine r_else (T := TT) rfl ?_)
    refine r_call (okz_q_isOne (one_f ha)) rfl rfl rfl rfl rfl rfl rfl ?_
    repeat (first | refine r_op rfl rfl rfl rfl ?_ | refine r_skip rfl rfl rfl ?_ | refine .done ?_ | refine r_seq (T := TT) ?_ | refine r_region (T := TT) rfl ?_ | refine r_block (T := TT) ?_ | refine r_then (T := TT) rfl ?_ | refine r_else (T := TT) rfl ?_)
    refine r_call (okz_i_Mul (h.1.fit (by omega)) (h'.1.fit (by omega))) rfl rfl rfl rfl rfl rfl rfl ?_
    repeat (first | refine r_op rfl rfl rfl rfl ?_ | refine r_skip rfl rfl rfl ?_ | refine .done ?_ | refine r_seq (T := TT) ?_ | refine r_region (T := TT) rfl ?_ | refine r_block (T := TT) ?_ | refine r_then (T := TT) rfl ?_ | refine r_else (T := TT) rfl ?_)
    refine r_call (okz_i_Mul (h.2.fit (by omega)) (h'.2.fit (by omega))) rfl rfl rfl rfl rfl rfl rfl ?_
    repeat (first | refine r_op rfl rfl rfl rfl ?_ | refine r_skip rfl rfl rfl ?_ | refine .done ?_ | refine r_seq (T := TT) ?_ | refine r_region (T := TT) rfl ?_ | refine r_block (T := TT) ?_ | refine r_then (T := TT) rfl ?_ | refine r_else (T := TT) rfl ?_)
    refine r_call (ok_q_lowest (h.1.mul h'.1) (h.2.mul h'.2) hk d0 (mul_divInt a b)) rfl rfl rfl rfl rfl rfl rfl ?_
    repeat (first | refine r_op rfl rfl rfl rfl ?_ | refine r_skip rfl rfl rfl ?_ | refine .done ?_ | refine r_seq (T := TT) ?_ | refine r_region (T := TT) rfl ?_ | refine r_block (T := TT) ?_ | refine r_then (T := TT) rfl ?_ | refine r_else (T := TT) rfl ?_)
    exact r_fin (T := TT) rfl rfl
theorem ok_q_Div {j k : Nat} {a b q : Rat} (h : SzQ j a) (h' : SzQ k b) (hk : j + k ≤ 2147483648) (hb : b ≠ 0) (hq : a / b = q) : CallOK Tryz.prog 50 [dQ a, dQ b] (.tup [dQ q, dN .i64 0]) := by
  subst hq
  have h0 : b.num ≠ 0 := fun e => hb (Rat.num_eq_zero.1 e)
  refine callOK_of TT_ok mixT Tryz.func50 rfl rfl (Nat.le_of_ble_eq_true rfl) ?_
  repeat (first | refine r_op rfl rfl rfl rfl ?_ | refine r_skip rfl rfl rfl ?_ | refine .done ?_ | refine r_seq (T := TT) ?_ | refine r_region (T := TT) rfl ?_ | refine r_block (T := TT) ?_ | refine r_then (T := TT) rfl ?_ | refine r_else (T := TT) rfl ?_)
  refine r_call (okz_q_isZero (decide_eq_false h0)) rfl rfl rfl rfl rfl rfl rfl ?_
  repeat (first | refine r_op rfl rfl rfl rfl ?_ | refine r_skip rfl rfl rfl ?_ | refine .done ?_ | refine r_seq (T := TT) ?_ | refine r_region (T := TT) rfl ?_ | refine r_block (T := TT) ?_ | refine r_then (T := TT) rfl ?_ | refine r_else (T := TT) rfl ?_)
  refine r_call (okz_i_Mul (h.1.fit (by omega)) (h'.2.fit (by omega))) rfl rfl rfl rfl rfl rfl rfl ?_
  repeat (first | refine r_op rfl rfl rfl rfl ?_ | refine r_skip rfl rfl rfl ?_ | refine .done ?_ | refine r_seq (T := TT) ?_ | refine r_region (T := TT) rfl ?_ | refine r_block (T := TT) ?_ | refine r_then (T := TT) rfl ?_ | refine r_else (T := TT) rfl ?_)
  refine r_call (okz_i_Mul (h.2.fit (by omega)) (h'.1.fit (by omega))) rfl rfl rfl rfl rfl rfl rfl ?_
  repeat (first | refine r_op rfl rfl rfl rfl ?_ | refine r_skip rfl rfl rfl ?_ | refine .done ?_ | refine r_seq (T := TT) ?_ | refine r_region (T := TT) rfl ?_ | refine r_block (T := TT) ?_ | refine r_then (T := TT) rfl ?_ | refine r_else (T := TT) rfl ?_)
  refine r_call (ok_q_lowest (h.1.mul h'.2) (h.2.mul h'.1) hk (Int.mul_ne_zero (by have := den_pos a; omega) h0) (div_divInt a b)) rfl rfl rfl rfl rfl rfl rfl ?_
  repeat (first | refine r_op rfl rfl rfl rfl ?_ | refine r_skip rfl rfl rfl ?_ | refine .done ?_ | refine r_seq (T := TT) ?_ | refine r_region (T := TT) rfl ?_ | refine r_block (T := TT) ?_ | refine r_then (T := TT) rfl ?_ | refine r_else (T := TT) rfl ?_)
  exact r_fin (T := TT) rfl rfl
theorem ok_q_Div0 {a b : Rat} (hb : b = 0) : CallOK Tryz.prog 50 [dQ a, dQ b] (.tup [dQ0, dN .i64 6]) := by
  refine callOK_of TT_ok mixT Tryz.func50 rfl rfl (Nat.le_of_ble_eq_true rfl) ?_
  repeat (first | refine r_op rfl rfl rfl rfl ?_ | refine r_skip rfl rfl rfl ?_ | refine .done ?_ | refine r_seq (T := TT) ?_ | refine r_region (T := TT) rfl ?_ | refine r_block (T := TT) ?_ | refine r_then (T := TT) rfl ?_ | refine r_else (T := TT) rfl ?_)
  refine r_call (okz_q_isZero (decide_eq_true (Rat.num_eq_zero.2 hb))) rfl rfl rfl rfl rfl rfl rfl ?_
  repeat (first | refine r_op rfl rfl rfl rfl ?_ | refine r_skip rfl rfl rfl ?_ | refine .done ?_ | refine r_seq (T := TT) ?_ | refine r_region (T := TT) rfl ?_ | refine r_block (T := TT) ?_ | refine r_then (T := TT) rfl ?_ | refine r_else (T := TT) rfl ?_)
  exact r_fin (T := TT) rfl rfl
theorem ok_r2_Mul {j k : Nat} {a b q : Rat} (h : SzQ j a) (h' : SzQ k b) (hk : j + k ≤ 2147483648) (hq : a * b = q) : CallOK Tryz.prog 49 [dQ a, dQ b] (.one (dQ q)) := by
  subst hq
  by_cases ha0 : a.num = 0
  · have e : a * b = 0 := by rw [Rat.num_eq_zero.1 ha0]; exact Rat.zero_mul b
    refine callOK_of TT_ok mixT Tryz.func49 rfl rfl (Nat.le_of_ble_eq_true rfl) ?_
    repeat refine r_seq (T := TT) ?_
    refine r_region (T := TT) rfl ?_
    repeat (first | refine r_op rfl rfl rfl rfl ?_ | refine r_skip rfl rfl rfl ?_)
    try refine .done ?_
    repeat refine r_seq (T := TT) ?_
    refine r_region (T := TT) rfl ?_
    iterate 4 (first | refine r_op rfl rfl rfl rfl ?_ | refine r_skip rfl rfl rfl ?_)
    refine r_eq (v' := .bool true) rfl rfl rfl rfl ?_ ?_
    · exact congrArg Value.bool (nil_t ha0)
    repeat (first | refine r_op rfl rfl rfl rfl ?_ | refine r_skip rfl rfl rfl ?_ | refine .done ?_ | refine r_seq (T := TT) ?_ | refine r_region (T := TT) rfl ?_ | refine r_block (T := TT) ?_ | refine r_then (T := TT) rfl ?_ | refine r_else (T := TT) rfl ?_)
    refine r_call (ok_r2_FromInt 0 (by decide) (by decide) e.symm) rfl rfl rfl rfl rfl rfl rfl ?_
    repeat (first | refine r_op rfl rfl rfl rfl ?_ | refine r_skip rfl rfl rfl ?_ | refine .done ?_ | refine r_seq (T := TT) ?_ | refine r_region (T := TT) rfl ?_ | refine r_block (T := TT) ?_ | refine r_then (T := TT) rfl ?_ | refine r_else (T := TT) rfl ?_)
    exact r_fin (T := TT) rfl rfl
  by_cases hb0 : b.num = 0
  · have e : a * b = 0 := by rw [Rat.num_eq_zero.1 hb0]; exact Rat.mul_zero a
    refine callOK_of TT_ok mixT Tryz.func49 rfl rfl (Nat.le_of_ble_eq_true rfl) ?_
    repeat refine r_seq (T := TT) ?_
    refine r_region (T := TT) rfl ?_
    repeat (first | refine r_op rfl rfl rfl rfl ?_ | refine r_skip rfl rfl rfl ?_)
    try refine .done ?_
    repeat refine r_seq (T := TT) ?_
    refine r_region (T := TT) rfl ?_
    iterate 4 (first | refine r_op rfl rfl rfl rfl ?_ | refine r_skip rfl rfl rfl ?_)
    refine r_eq (v' := .bool false) rfl rfl rfl rfl ?_ ?_
    · exact congrArg Value.bool (nil_f ha0)
    iterate 5 (first | refine r_op rfl rfl rfl rfl ?_ | refine r_skip rfl rfl rfl ?_)
    refine r_eq (v' := .bool true) rfl rfl rfl rfl ?_ ?_
    · exact congrArg Value.bool (nil_t hb0)
    repeat (first | refine r_op rfl rfl rfl rfl ?_ | refine r_skip rfl rfl rfl ?_ | refine .done ?_ | refine r_seq (T := TT) ?_ | refine r_region (T := TT) rfl ?_ | refine r_block (T := TT) ?_ | refine r_then (T := TT) rfl ?_ | refine r_else (T := TT) rfl ?_)
    refine r_call (ok_r2_FromInt 0 (by decide) (by decide) e.symm) rfl rfl rfl rfl rfl rfl rfl ?_
    repeat (first | refine r_op rfl rfl rfl rfl ?_ | refine r_skip rfl rfl rfl ?_ | refine .done ?_ | refine r_seq (T := TT) ?_ | refine r_region (T := TT) rfl ?_ | refine r_block (T := TT) ?_ | refine r_then (T := TT) rfl ?_ | refine r_else (T := TT) rfl ?_)
    exact r_fin (T := TT) rfl rfl
  by_cases hab : a.den = 1 ∧ b.den = 1
  · rw [dQ_of (mul_one' hab.1 hab.2).1 (d := a.den) (by rw [(mul_one' hab.1 hab.2).2, hab.1])]
    refine callOK_of TT_ok mixT Tryz.func49 rfl rfl (Nat.le_of_ble_eq_true rfl) ?_
    repeat refine r_seq (T := TT) ?_
    refine r_region (T := TT) rfl ?_
    repeat (first | refine r_op rfl rfl rfl rfl ?_ | refine r_skip rfl rfl rfl ?_)
    try refine .done ?_
    repeat refine r_seq (T := TT) ?_
    refine r_region (T := TT) rfl ?_
    iterate 4 (first | refine r_op rfl rfl rfl rfl ?_ | refine r_skip rfl rfl rfl ?_)
    refine r_eq (v' := .bool false) rfl rfl rfl rfl ?_ ?_
    · exact congrArg Value.bool (nil_f ha0)
    iterate 5 (first | refine r_op rfl rfl rfl rfl ?_ | refine r_skip rfl rfl rfl ?_)
    refine r_eq (v' := .bool false) rfl rfl rfl rfl ?_ ?_
    · exact congrArg Value.bool (nil_f hb0)
    repeat (first | refine r_op rfl rfl rfl rfl ?_ | refine r_skip rfl rfl rfl ?_ | refine .done ?_ | refine r_seq (T := TT) ?_ | refine r_region (T := TT) rfl ?_ | refine r_block (T := TT) ?_ | refine r_then (T := TT) rfl ?_ | refine r_else (T := TT) rfl ?_)
    refine r_call (okz_r2_one (one_t hab.1)) rfl rfl rfl rfl rfl rfl rfl ?_
    repeat (first | refine r_op rfl rfl rfl rfl ?_ | refine r_skip rfl rfl rfl ?_ | refine .done ?_ | refine r_seq (T := TT) ?_ | refine r_region (T := TT) rfl ?_ | refine r_block (T := TT) ?_ | refine r_then (T := TT) rfl ?_ | refine r_else (T := TT) rfl ?_)
    refine r_call (okz_r2_one (one_t hab.2)) rfl rfl rfl rfl rfl rfl rfl ?_
    repeat (first | refine r_op rfl rfl rfl rfl ?_ | refine r_skip rfl rfl rfl ?_ | refine .done ?_ | refine r_seq (T := TT) ?_ | refine r_region (T := TT) rfl ?_ | refine r_block (T := TT) ?_ | refine r_then (T := TT) rfl ?_ | refine r_else (T := TT) rfl ?_)
    refine r_call (okz_r1_Mul (h.1.fit (by omega)) (h'.1.fit (by omega))) rfl rfl rfl rfl rfl rfl rfl ?_
    repeat (first | refine r_op rfl rfl rfl rfl ?_ | refine r_skip rfl rfl rfl ?_ | refine .done ?_ | refine r_seq (T := TT) ?_ | refine r_region (T := TT) rfl ?_ | refine r_block (T := TT) ?_ | refine r_then (T := TT) rfl ?_ | refine r_else (T := TT) rfl ?_)
    exact r_fin (T := TT) rfl rfl
  have e := mul_gen a b
  obtain ⟨g, hg⟩ : ∃ g, Nat.gcd a.num.natAbs b.den = g := ⟨_, rfl⟩
  obtain ⟨t, ht⟩ : ∃ t, Nat.gcd b.num.natAbs a.den = t := ⟨_, rfl⟩
  rw [hg, ht] at e
  have hgz : Nat.gcd a.num.natAbs (b.den : Int).natAbs = g := by rw [Int.natAbs_natCast]; exact hg
  have htz : Nat.gcd b.num.natAbs (a.den : Int).natAbs = t := by rw [Int.natAbs_natCast]; exact ht
  have hg0 : 0 < g := by rw [← hg]; exact Nat.gcd_pos_of_pos_right _ (Nat.pos_of_ne_zero b.den_nz)
  have ht0 : 0 < t := by rw [← ht]; exact Nat.gcd_pos_of_pos_right _ (Nat.pos_of_ne_zero a.den_nz)
  have sg : Sz k g := by rw [← hgz]; exact h'.2.gcd (by have := den_pos b; omega)
  have st : Sz j t := by rw [← htz]; exact h.2.gcd (by have := den_pos a; omega)
  have s1 : Sz j (a.num / g) := h.1.of_le (Int.natAbs_ediv_le_natAbs _ _)
  have s2 : Sz k (b.num / t) := h'.1.of_le (Int.natAbs_ediv_le_natAbs _ _)
  have s3 : Sz j (a.den / t : Nat) := h.2.of_le (by rw [Int.natAbs_natCast, Int.natAbs_natCast]; exact Nat.div_le_self _ _)
  have s4 : Sz k (b.den / g : Nat) := h'.2.of_le (by rw [Int.natAbs_natCast, Int.natAbs_natCast]; exact Nat.div_le_self _ _)
  rw [dQ_of e.1 (d := (a.den / t : Nat) * (b.den / g : Nat)) (by rw [e.2]; rfl)]
  refine callOK_of TT_ok mixT Tryz.func49 rfl rfl (Nat.le_of_ble_eq_true rfl) ?_
  repeat refine r_seq (T := TT) ?_
  refine r_region (T := TT) rfl ?_
  repeat (first | refine r_op rfl rfl rfl rfl ?_ | refine r_skip rfl rfl rfl ?_)
  try refine .done ?_
  repeat refine r_seq (T := TT) ?_
  refine r_region (T := TT) rfl ?_
  iterate 4 (first | refine r_op rfl rfl rfl rfl ?_ | refine r_skip rfl rfl rfl ?_)
  refine r_eq (v' := .bool false) rfl rfl rfl rfl ?_ ?_
  · exact congrArg Value.bool (nil_f ha0)
  iterate 5 (first | refine r_op rfl rfl rfl rfl ?_ | refine r_skip rfl rfl rfl ?_)
  refine r_eq (v' := .bool false) rfl rfl rfl rfl ?_ ?_
  · exact congrArg Value.bool (nil_f hb0)
  repeat (first | refine r_op rfl rfl rfl rfl ?_ | refine r_skip rfl rfl rfl ?_ | refine .done ?_ | refine r_seq (T := TT) ?_ | refine r_region (T := TT) rfl ?_ | refine r_block (T := TT) ?_ | refine r_then (T := TT) rfl ?_ | refine r_else (T := TT) rfl ?_)
  by_cases ha : a.den = 1
  · have hb : ¬ b.den = 1 := fun e => hab ⟨ha, e⟩
    refine r_call (okz_r2_one (one_t ha)) rfl rfl rfl rfl rfl rfl rfl ?_
    repeat (first | refine r_op rfl rfl rfl rfl ?_ | refine r_skip rfl rfl rfl ?_ | refine .done ?_ | refine r_seq (T := TT) ?_ | refine r_region (T := TT) rfl ?_ | refine r_block (T := TT) ?_ | refine r_then (T := TT) rfl ?_ | refine r_else (T := TT) rfl ?_)
    refine r_call (okz_r2_one (one_f hb)) rfl rfl rfl rfl rfl rfl rfl ?_
    repeat (first | refine r_op rfl rfl rfl rfl ?_ | refine r_skip rfl rfl rfl ?_ | refine .done ?_ | refine r_seq (T := TT) ?_ | refine r_region (T := TT) rfl ?_ | refine r_block (T := TT) ?_ | refine r_then (T := TT) rfl ?_ | refine r_else (T := TT) rfl ?_)
    refine r_call (okz_r1_GCD (h.1.fit (by omega)) (h'.2.fit (by omega)) hgz) rfl rfl rfl rfl rfl rfl rfl ?_
    repeat (first | refine r_op rfl rfl rfl rfl ?_ | refine r_skip rfl rfl rfl ?_ | refine .done ?_ | refine r_seq (T := TT) ?_ | refine r_region (T := TT) rfl ?_ | refine r_block (T := TT) ?_ | refine r_then (T := TT) rfl ?_ | refine r_else (T := TT) rfl ?_)
    refine r_call (okz_r1_GCD (h'.1.fit (by omega)) (h.2.fit (by omega)) htz) rfl rfl rfl rfl rfl rfl rfl ?_
    repeat (first | refine r_op rfl rfl rfl rfl ?_ | refine r_skip rfl rfl rfl ?_ | refine .done ?_ | refine r_seq (T := TT) ?_ | refine r_region (T := TT) rfl ?_ | refine r_block (T := TT) ?_ | refine r_then (T := TT) rfl ?_ | refine r_else (T := TT) rfl ?_)
    refine r_call (ok_r2_quo (h.1.fit (by omega)) (sg.fit (by omega)) (by omega) (fdiv_nat _ _)) rfl rfl rfl rfl rfl rfl rfl ?_
    repeat (first | refine r_op rfl rfl rfl rfl ?_ | refine r_skip rfl rfl rfl ?_ | refine .done ?_ | refine r_seq (T := TT) ?_ | refine r_region (T := TT) rfl ?_ | refine r_block (T := TT) ?_ | refine r_then (T := TT) rfl ?_ | refine r_else (T := TT) rfl ?_)
    refine r_call (ok_r2_quo (h'.1.fit (by omega)) (st.fit (by omega)) (by omega) (fdiv_nat _ _)) rfl rfl rfl rfl rfl rfl rfl ?_
    repeat (first | refine r_op rfl rfl rfl rfl ?_ | refine r_skip rfl rfl rfl ?_ | refine .done ?_ | refine r_seq (T := TT) ?_ | refine r_region (T := TT) rfl ?_ | refine r_block (T := TT) ?_ | refine r_then (T := TT) rfl ?_ | refine r_else (T := TT) rfl ?_)
    refine r_call (okz_r1_Mul (s1.fit (by omega)) (s2.fit (by omega))) rfl rfl rfl rfl rfl rfl rfl ?_
    repeat (first | refine r_op rfl rfl rfl rfl ?_ | refine r_skip rfl rfl rfl ?_ | refine .done ?_ | refine r_seq (T := TT) ?_ | refine r_region (T := TT) rfl ?_ | refine r_block (T := TT) ?_ | refine r_then (T := TT) rfl ?_ | refine r_else (T := TT) rfl ?_)
    refine r_call (ok_r2_quo (h.2.fit (by omega)) (st.fit (by omega)) (by omega) (fdiv_nn _ _)) rfl rfl rfl rfl rfl rfl rfl ?_
    repeat (first | refine r_op rfl rfl rfl rfl ?_ | refine r_skip rfl rfl rfl ?_ | refine .done ?_ | refine r_seq (T := TT) ?_ | refine r_region (T := TT) rfl ?_ | refine r_block (T := TT) ?_ | refine r_then (T := TT) rfl ?_ | refine r_else (T := TT) rfl ?_)
    refine r_call (ok_r2_quo (h'.2.fit (by omega)) (sg.fit (by omega)) (by omega) (fdiv_nn _ _)) rfl rfl rfl rfl rfl rfl rfl ?_
    repeat (first | refine r_op rfl rfl rfl rfl ?_ | refine r_skip rfl rfl rfl ?_ | refine .done ?_ | refine r_seq (T := TT) ?_ | refine r_region (T := TT) rfl ?_ | refine r_block (T := TT) ?_ | refine r_then (T := TT) rfl ?_ | refine r_else (T := TT) rfl ?_)
    refine r_call (okz_r1_Mul (s3.fit (by omega)) (s4.fit (by omega))) rfl rfl rfl rfl rfl rfl rfl ?_
    repeat (first | refine r_op rfl rfl rfl rfl ?_ | refine r_skip rfl rfl rfl ?_ | refine .done ?_ | refine r_seq (T := TT) ?_ | refine r_region (T := TT) rfl ?_ | refine r_block (T := TT) ?_ | refine r_then (T := TT) rfl ?_ | refine r_else (T := TT) rfl ?_)
    exact r_fin (T := TT) rfl rfl
  · refine r_call (okz_r2_one (one_f ha)) rfl rfl rfl rfl rfl rfl rfl ?_
    repeat (first | refine r_op rfl rfl rfl rfl ?_ | refine r_skip rfl rfl rfl ?_ | refine .done ?_ | refine r_seq (T := TT) ?_ | refine r_region (T := TT) rfl ?_ | refine r_block (T := TT) ?_ | refine r_then (T := TT) rfl ?_ | refine r_else (T := TT) rfl ?_)
    refine r_call (okz_r1_GCD (h.1.fit (by omega)) (h'.2.fit (by omega)) hgz) rfl rfl rfl rfl rfl rfl rfl ?_
    repeat (first | refine r_op rfl rfl rfl rfl ?_ | refine r_skip rfl rfl rfl ?_ | refine .done ?_ | refine r_seq (T := TT) ?_ | refine r_region (T := TT) rfl ?_ | refine r_block (T := TT) ?_ | refine r_then (T := TT) rfl ?_ | refine r_else (T := TT) rfl ?_)
    refine r_call (okz_r1_GCD (h'.1.fit (by omega)) (h.2.fit (by omega)) htz) rfl rfl rfl rfl rfl rfl rfl ?_
    repeat (first | refine r_op rfl rfl rfl rfl ?_ | refine r_skip rfl rfl rfl ?_ | refine .done ?_ | refine r_seq (T := TT) ?_ | refine r_region (T := TT) rfl ?_ | refine r_block (T := TT) ?_ | refine r_then (T := TT) rfl ?_ | refine r_else (T := TT) rfl ?_)
    refine r_call (ok_r2_quo (h.1.fit (by omega)) (sg.fit (by omega)) (by omega) (fdiv_nat _ _)) rfl rfl rfl rfl rfl rfl rfl ?_
    repeat (first | refine r_op rfl rfl rfl rfl ?_ | refine r_skip rfl rfl rfl ?_ | refine .done ?_ | refine r_seq (T := TT) ?_ | refine r_region (T := TT) rfl ?_ | refine r_block (T := TT) ?_ | refine r_then (T := TT) rfl ?_ | refine r_else (T := TT) rfl ?_)
    refine r_call (ok_r2_quo (h'.1.fit (by omega)) (st.fit (by omega)) (by omega) (fdiv_nat _ _)) rfl rfl rfl rfl rfl rfl rfl ?_
    repeat (first | refine r_op rfl rfl rfl rfl ?_ | refine r_skip rfl rfl rfl ?_ | refine .done ?_ | refine r_seq (T := TT) ?_ | refine r_region (T := TT) rfl ?_ | refine r_block (T := TT) ?_ | refine r_then (T := TT) rfl ?_ | refine r_else (T := TT) rfl ?_)
    refine r_call (okz_r1_Mul (s1.fit (by omega)) (s2.fit (by omega))) rfl rfl rfl rfl rfl rfl rfl ?_
    repeat (first | refine r_op rfl rfl rfl rfl ?_ | refine r_skip rfl rfl rfl ?_ | refine .done ?_ | refine r_seq (T := TT) ?_ | refine r_region (T := TT) rfl ?_ | refine r_block (T := TT) ?_ | refine r_then (T := TT) rfl ?_ | refine r_else (T := TT) rfl ?_)
    refine r_call (ok_r2_quo (h.2.fit (by omega)) (st.fit (by omega)) (by omega) (fdiv_nn _ _)) rfl rfl rfl rfl rfl rfl rfl ?_
    repeat (first | refine r_op rfl rfl rfl rfl ?_ | refine r_skip rfl rfl rfl ?_ | refine .done ?_ | refine r_seq (T := TT) ?_ | refine r_region (T := TT) rfl ?_ | refine r_block (T := TT) ?_ | refine r_then (T := TT) rfl ?_ | refine r_else (T := TT) rfl ?_)
    refine r_call (ok_r2_quo (h'.2.fit (by omega)) (sg.fit (by omega)) (by omega) (fdiv_nn _ _)) rfl rfl rfl rfl rfl rfl rfl ?_
    repeat (first | refine r_op rfl rfl rfl rfl ?_ | refine r_skip rfl rfl rfl ?_ | refine .done ?_ | refine r_seq (T := TT) ?_ | refine r_region (T := TT) rfl ?_ | refine r_block (T := TT) ?_ | refine r_then (T := TT) rfl ?_ | refine r_else (T := TT) rfl ?_)
    refine r_call (okz_r1_Mul (s3.fit (by omega)) (s4.fit (by omega))) rfl rfl rfl rfl rfl rfl rfl ?_
    repeat (first | refine r_op rfl rfl rfl rfl ?_ | refine r_skip rfl rfl rfl ?_ | refine .done ?_ | refine r_seq (T := TT) ?_ | refine r_region (T := TT) rfl ?_ | refine r_block (T := TT) ?_ | refine r_then (T := TT) rfl ?_ | refine r_else (T := TT) rfl ?_)
    exact r_fin (T := TT) rfl rfl
end Go.Proofs.YtmpadildchphgaaGreatDoor
namespace Go.Proofs.YtmpadildchphgaaGreatDoor
open Go.RowKit Go.Shelf
attribute [local go_sem] Oper.semAt_some
abbrev encsM (M : Nat) (x : Nat × Nat) : Array Value := #[.int .i64 (x.1 : Int), W32 (x.2 % M)]
theorem getD_lt {M : Nat} {xs : List Nat} (h0 : 0 < M) (h : ∀ x ∈ xs, x < M) (i : Nat) : xs.getD i 0 < M := by
  rw [List.getD_eq_getElem?_getD]
  cases hx : xs[i]? with
  | none => exact h0
  | some x => exact h x (List.mem_of_getElem? hx)
set_option maxRecDepth 100000 in
set_option maxHeartbeats 2000000 in
theorem back1M_in (F : Fence) (n : Nat) (h8 : F.fn 141) (hro : F.round = none) (hn : 1 ≤ n) (l Bs : Nat) (A : Option Addr) (len cap : Nat) (xs : List Nat) (M : Nat) (hM0 : 0 < M) (hM : ∀ x ∈ xs, x < M) (w : World) (hx : Wrd w A len cap xs) (J Jx : List (Nat × Nat) → World → Prop)
    (hY : ∀ pre x W, J pre W → pre.length < len → YieldAt F (n - 1) Tryz.prog l (encsM M x) W fun e W' =>
      (e = .returned (.bool true) ∧ J (pre ++ [x]) W' ∧ KB w.heap.size Bs W W') ∨ (e = .returned (.bool false) ∧ Jx (pre ++ [x]) W'))
    (W : World) (hbW : Ext w W) (hBs : W.cell? ⟨Bs, 0, none⟩ = some (.slice A len cap)) (h0 : J [] W) :
    CallsIn F n Tryz.prog 141 #[.func (.yield l) #[] #[], .pointer (some ⟨Bs, 0, none⟩)] W fun e W' => (∃ v, e = .returned v) ∧
      ((∃ ys, ys = upto (backAt xs) len ∧ J ys W') ∨ (∃ pre, True ∧ Jx pre W')) := by
  have hcap := hx.cap
  have hlim := hx.lim
  have hlen := hx.len
  have hwd := hx.wd
  have Hx := Lib.hid hx
  have HM := Lib.hid hM
  have Hlen := Lib.hid hlen
  have Hwd := Lib.hid hwd
  clear hx hlen hwd hM
  refine callsIn_of_wp Tryz.func141 rfl h8 ?_ hro
  simp only [Tryz.ntmps141, List.size_toArray, List.length_cons, List.length_nil, Nat.reduceAdd, Nat.reduceSub, Array.replicate_succ, Array.replicate_zero, List.push_toArray, List.append_toArray, List.nil_append, List.cons_append]
  gi_wp2
  gi_loopw [3] (fun i wr => ∃ k : Nat, k ≤ len ∧ i = .int .i64 ((len : Int) - 1 - k) ∧ J (upto (backAt xs) k) wr ∧ KB w.heap.size Bs W wr)
    (fun i _ => (intOf i + 1).toNat)
  case atStart => exact ⟨0, Nat.zero_le _, by go_num, h0, KB.refl _ _ _⟩
  case round =>
    obtain ⟨k, hk, rfl, hJs, hnx⟩ := hrel
    have hcs := (hnx.cell 0).trans hBs
    by_cases hlt : k < len
    · obtain ⟨b, off, rfl, hb, hc⟩ := Hx.out.at (by omega)
      have hcx := (hnx.1.cell (p := ⟨b, off + (len - 1 - k), none⟩) hb).trans ((hbW.cell (p := ⟨b, off + (len - 1 - k), none⟩) hb).trans (hc (len - 1 - k) (by omega)))
      obtain ⟨fn, tmps, assign, body, hy, hR⟩ := hY _ (backAt xs k) wr hJs (by rw [upto_length]; exact hlt)
      have e1 : backAt xs k = (len - 1 - k, xs.getD (len - 1 - k) 0) := by unfold backAt; rw [Hlen.out]
      rw [e1] at hy
      have e2 : ((len - 1 - k : Nat) : Int) = (len : Int) - 1 - k := by omega
      dsimp only [encsM] at hy
      rw [e2] at hy
      obtain ⟨x, hxx⟩ : ∃ x, x = xs.getD (len - 1 - k) 0 := ⟨_, rfl⟩
      rw [← hxx] at hy hcx
      rw [Nat.mod_eq_of_lt (by rw [hxx]; exact getD_lt hM0 HM.out _)] at hy
      have g1 : (0 : Int) ≤ (len : Int) - 1 - k := by omega
      have g2 : (len : Int) - 1 - k < len := by omega
      have g3 : ((len : Int) - 1 - k).toNat = len - 1 - k := by omega
      clear e1 e2 hc
      have Hxx := Lib.hid hxx
      clear hxx
      gi_wp2
      refine hR.mono ?_
      rintro e W3 (⟨rfl, hJ3, hk3⟩ | ⟨rfl, hJx3⟩)
      · gi_wp2
        go_roundw
        case rel => exact ⟨k + 1, by omega, by go_num, by rw [upto_succ]; exact hJ3, hnx.trans hk3⟩
        case measure => simp [intOf]; omega
      · gi_wp2
        refine bodyPost_ret (results_none rfl _ _ _) rfl ?_
        exact ⟨⟨_, rfl⟩, .inr ⟨_, trivial, hJx3⟩⟩
    · obtain rfl : k = len := by omega
      have g1 : ¬ ((k : Int) ≤ (k : Int) - 1) := by omega
      gi_wp2
      go_end0
      first | exact ⟨⟨_, rfl⟩, .inl ⟨_, rfl, hJs⟩⟩ | exact ⟨⟨_, rfl⟩, .inl hJs⟩
theorem backM_stops (F : Fence) (n : Nat) (h8 : F.fn 141) (hro : F.round = none) (hn : 1 ≤ n) (Bs : Nat) (A : Option Addr) (len cap : Nat) (xs : List Nat) (M : Nat) (hM0 : 0 < M) (hM : ∀ x ∈ xs, x < M) (w0 w : World) (hx : Wrd w0 A len cap xs) (h0 : Ext w0 w) (hBs : Bs < w.heap.size) (hc : w.cell? ⟨Bs, 0, none⟩ = some (.slice A len cap)) :
    SeqStopsK F n Tryz.prog 141 #[.pointer (some ⟨Bs, 0, none⟩)] (encsM M) (KB w0.heap.size Bs) (fun ys => ys = upto (backAt xs) len) (fun _ => True) len w := fun l J Jx W hW _ _ hY hJ0 =>
  back1M_in F n h8 hro hn l Bs A len cap xs M hM0 hM w0 hx J Jx hY W (h0.more hW) ((hW.cell (p := ⟨Bs, 0, none⟩) hBs).trans hc) hJ0
end Go.Proofs.YtmpadildchphgaaGreatDoor
namespace Go.Proofs.YtmpadildchphgaaGreatDoor
open Go.Shelf Go.RowKit Go.Sort Go.Lib
set_option maxHeartbeats 6400000 in
set_option maxRecDepth 100000 in
theorem is_FormatUint (u : Nat) (hu64 : u < 18446744073709551616) (w : World) (htab : Lib.TabIs Tryz.prog w "internal/strconv.uint64pow10" .u64 Lib.pow10Tab) :
    Calls Tryz.prog 142 #[.int .u64 u, .int .i64 10] w fun e w' => e = .returned (.string ⟨(Lib.decDigits u).toArray⟩) ∧ Below w.heap.size w w' := by
  by_cases hs : u < 100
  · go_enter Tryz.func142, Tryz.ntmps142
    go_wp2_with (go_at_call 147; refine (Tryz.internal_strconv_small u hs _).mono ?_; rintro e w' ⟨rfl, rfl⟩)
    go_ret
    exact ⟨rfl, Below.refl _ _⟩
  · have hu1 : 1 ≤ u := by omega
    have hnd20 : Lib.nDigits u ≤ 20 := by have := Lib.numDigits_eq u hu1 hu64; split at this <;> omega
    have hal : (Tryz.prog).arrayLen 138 = 24 := by simp [Program.arrayLen, Tryz.underlying138]
    have hsl : ∀ W, (Instr.sliceAt 138 (.pointer (some ⟨w.heap.size, 0, none⟩)) none (some (.int .i64 (Lib.nDigits u : Int))) none).run Tryz.prog W = .ok (.slice (some ⟨w.heap.size, 0, none⟩) (Lib.nDigits u) 24) W := fun W => by
      rw [run_sliceAt_array_h W 138 ⟨w.heap.size, 0, none⟩ (by simp [Program.arrayLen, Program.elem, Tryz.underlying138]) .i64 (Lib.nDigits u : Int) (by omega) (by rw [hal]; omega)]
      go_simp
    have hH0 := Lib.holds_zero0 w 138 (Lib.nDigits u) (by omega)
    have hfmt := Tryz.internal_strconv_formatBase10 w.heap.size 0 24 u (Array.replicate (Lib.nDigits u) 0) (w.alloc (.cells Lib.zeros24 138)) hH0 (by rw [Array.size_replicate]; exact Lib.lt_pow_nDigits u) hu64 (by rw [Array.size_replicate]; omega)
    rw [Array.size_replicate] at hfmt
    have HH0 := Lib.hid hH0
    have iu : (100 : Int) ≤ (u : Int) := by omega
    clear hH0 hal
    go_enter Tryz.func142, Tryz.ntmps142
    go_wp2_with (go_at_call 148; refine (Tryz.internal_strconv_numDigits u hu1 hu64 _ (Lib.tabIs_alloc htab _)).mono ?_; rintro e w' ⟨rfl, rfl⟩)
    go_at_call 149
    refine hfmt.mono ?_
    rintro e w' ⟨rfl, k, v', dk, rfl, hF⟩
    have hcv : (convert 95 9 (.slice (some ⟨w.heap.size, 0, none⟩) (Lib.nDigits u) 24)).run Tryz.prog ((putRow (fun (b : UInt8) => Value.int .u8 (b.toNat : Int)) (w.alloc (.cells Lib.zeros24 138)) w.heap.size 0 dk).drewN k) = .ok (.string ⟨(Lib.decDigits u).toArray⟩) ((putRow (fun (b : UInt8) => Value.int .u8 (b.toNat : Int)) (w.alloc (.cells Lib.zeros24 138)) w.heap.size 0 dk).drewN k) := by
      have h := run_convert_bytes_back (P := Tryz.prog) ((putRow (fun (b : UInt8) => Value.int .u8 (b.toNat : Int)) (w.alloc (.cells Lib.zeros24 138)) w.heap.size 0 dk).drewN k) 95 9 5 ⟨w.heap.size, 0, none⟩ 24 (Lib.decDigits u) Tryz.underlying95 Tryz.underlying5 Tryz.underlying9 (fun j hj => by
        rw [Lib.row_is_numeral hF j hj, Lib.add_plain, World.cell?_drewN]
        exact cell?_putRow (fun (b : UInt8) => Value.int .u8 (b.toNat : Int)) _ w.heap.size 0 _ dk HH0.out (by rw [hF.size, Array.size_replicate]) j (by rw [hF.size]; rw [Lib.decDigits_length] at hj; exact hj))
      rw [Lib.decDigits_length] at h
      exact h
    go_wp2
    go_ret
    obtain ⟨os, eo⟩ := Lib.fin_at w (.cells Lib.zeros24 138) dk k 0
    exact ⟨rfl, by rw [eo]; exact Lib.below_grow _ w (Nat.le_refl _) k os⟩
theorem strconv_FormatUint (u : Nat) (hu64 : u < 18446744073709551616) (w : World) (htab : Lib.TabIs Tryz.prog w "internal/strconv.uint64pow10" .u64 Lib.pow10Tab) :
    Calls Tryz.prog 121 #[.int .u64 u, .int .i64 10] w fun e w' => e = .returned (.string ⟨(Lib.decDigits u).toArray⟩) ∧ Below w.heap.size w w' := by
  go_enter Tryz.func121, Tryz.ntmps121
  go_wp2_with (go_at_call 142; refine (is_FormatUint u hu64 _ htab).mono ?_; rintro e w' ⟨rfl, hb⟩)
  go_ret
  exact ⟨rfl, hb⟩
end Go.Proofs.YtmpadildchphgaaGreatDoor
