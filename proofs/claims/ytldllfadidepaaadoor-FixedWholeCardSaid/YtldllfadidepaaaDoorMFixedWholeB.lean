/- FixedWhole holds for every input: the law returns true, and its arguments read as they read. Its condition: the library's tables and errors that the row lists lie as the program's text lays them (the card ties this). -/
import Derived.Test.YtldllfadidepaaaDoorMFixedWholeA
import Derived.Test.YtldllfadidepaaaDoorRows
import Derived.Test.YtldllfadidepaaaDoorCards
import Derived.Test.YtldllfadidepaaaDoorTie
import Derived.WalkKit
import Derived.ProofKit
import Derived.OpenShut
import Derived.ShutString
import Derived.ChangeOld
import Derived.Below
import Derived.SizedLaws
import Derived.LaidMore
import Derived.SevenTiedAt
import Derived.Lib.SmallJoins
import Derived.Stop.LaidErr
import Derived.Lib.LaidTab
import Derived.Carry
import Derived.Stop.Joined
namespace Go.Proofs.YtldllfadidepaaaDoor.P
open Go.RowKit Go.Proofs.YtldllfadidepaaaDoor.Sp Go.Proofs.YtldllfadidepaaaDoorW.PrintWords Go.Proofs.YtldllfadidepaaaDoorW.PrintLast Go.Proofs.YtldllfadidepaaaDoorW.PrintMore
set_option linter.unusedSimpArgs false

theorem print_five : printS (-5) 2 = [45, 48, 46, 48, 53] := by
  unfold printS padS
  rw [show (-5 : Int).natAbs = 5 from rfl, Lib.decDigits_one (by decide)]
  rfl
theorem shown_eq (k : Nat) (hk : 200 ≤ k) : entrepotlaw02_shown.f k = some true := by
  unfold entrepotlaw02_shown.f
  have e1 : fixed_Read.f (⟨#[45, 49, 50, 46, 53, 48]⟩ : ByteArray) = some (-125, 1, 0) := by
    unfold fixed_Read.f
    rw [if_pos (by decide)]
    exact congrArg some (by decide : readS [45, 49, 50, 46, 53, 48] = (-125, 1, 0))
  have e2 : fixed_Int.f (⟨#[48, 49, 48, 48]⟩ : ByteArray) = some (100, 0) := by
    unfold fixed_Int.f
    rw [if_pos (by decide)]
    exact congrArg some (by decide : intS [48, 49, 48, 48] = (100, 0))
  have e3 : fixed_To.f k (-125) 1 3 = some (-12500, 0) := by
    have := To_eq (m := -125) (s := 1) (x := 3) ⟨by decide, by decide, by decide⟩ (by decide) k hk
    rw [show ((1 : Nat) : Int) = 1 from rfl, show ((3 : Nat) : Int) = 3 from rfl] at this
    rw [this]
    exact congrArg some (by decide)
  have e4 : fixed_Print.f (-5) 2 = some ⟨#[45, 48, 46, 48, 53]⟩ := by
    unfold fixed_Print.f
    rw [if_pos (by decide), show (2 : Int).toNat = 2 from rfl, print_five]
  have e5 : fixed_Cmp.f k (-125) 1 (-12) 0 = some (-1) := by
    have := Cmp_eq (m := -125) (s := 1) (n := -12) (t := 0) ⟨by decide, by decide, by decide⟩ ⟨by decide, by decide, by decide⟩ k (by omega)
    rw [show ((1 : Nat) : Int) = 1 from rfl, show ((0 : Nat) : Int) = 0 from rfl] at this
    rw [this]
    exact congrArg some (by decide)
  rw [e1]
  simp only [Option.bind_some]
  rw [e2]
  simp only [Option.bind_some]
  rw [e3]
  simp only [Option.bind_some]
  rw [if_pos trivial, if_pos (by decide), if_pos trivial, if_pos trivial, if_pos trivial, if_pos trivial, e4]
  simp only [Option.bind_some]
  rw [if_pos (by rw [ByteArray.toList_eq]), e5]
  rfl
theorem good_yes {m s : Int} (h : entrepotlaw02_good.f m s = some true) : ∃ t : Nat, s = (t : Int) ∧ NumOk m t := by
  unfold entrepotlaw02_good.f at h
  split at h
  · split at h
    · split at h
      · have h' : m ≤ 1000000000000 := by simpa using h
        exact ⟨s.toNat, by omega, by omega, h', by omega⟩
      · simp at h
    · simp at h
  · simp at h
theorem good_some (m s : Int) : ∃ b, entrepotlaw02_good.f m s = some b := by
  unfold entrepotlaw02_good.f
  repeat' split
  all_goals exact ⟨_, rfl⟩
theorem NumOk.small {m : Int} {s : Nat} (h : NumOk m s) : -1000000000000000000 < m ∧ m < 1000000000000000000 := ⟨by have := h.lo; omega, by have := h.hi; omega⟩
theorem NumOk.least {m : Int} {s : Nat} (h : NumOk m s) (k : Nat) (hk : 100 ≤ k) : fixed_Least.f k m s = some (least m s) :=
  Least_eq m s (by have := h.sc; omega) h.small.1 h.small.2 k (by have := h.sc; omega)
end Go.Proofs.YtldllfadidepaaaDoor.P
namespace Go.Proofs.YtldllfadidepaaaDoor.Sp
set_option linter.unusedSimpArgs false
set_option linter.unusedVariables false

theorem dv_snoc (l : List UInt8) (c : UInt8) : dv (l ++ [c]) = 10 * dv l + (c.toNat - 48) := by simp [dv]
theorem dv_fold (l : List UInt8) : ∀ acc, l.foldl (fun n c => 10 * n + (c.toNat - 48)) acc = acc * 10 ^ l.length + dv l := by
  induction l with
  | nil => intro acc; simp [dv]
  | cons c r ih =>
    intro acc
    simp only [List.foldl_cons, List.length_cons, dv]
    rw [ih, ih (10 * 0 + (c.toNat - 48)), Nat.pow_succ, Nat.mul_comm (10 ^ r.length) 10, ← Nat.mul_assoc, Nat.add_mul, Nat.mul_comm 10 acc]
    simp
    omega
theorem dv_app (a b : List UInt8) : dv (a ++ b) = dv a * 10 ^ b.length + dv b := by
  unfold dv
  rw [List.foldl_append, dv_fold]
  rfl
theorem dv_nought (n : Nat) (l : List UInt8) : dv (List.replicate n 48 ++ l) = dv l := by
  have h : dv (List.replicate n (48 : UInt8)) = 0 := by
    induction n with
    | zero => rfl
    | succ n ih => rw [List.replicate_succ', dv_snoc, ih]; rfl
  rw [dv_app, h]; simp
theorem dv_dec (u : Nat) : dv (Lib.decDigits u) = u := by
  induction u using Nat.strongRecOn with
  | _ u ih =>
    by_cases h : u < 10
    · rw [Lib.decDigits_one h]
      simp [dv]
      omega
    · rw [Lib.decDigits, dif_neg h, dv_snoc, ih (u / 10) (by omega)]
      simp
      omega
theorem dec_dig (u : Nat) : ∀ c ∈ Lib.decDigits u, dig c = true := by
  induction u using Nat.strongRecOn with
  | _ u ih =>
    by_cases h : u < 10
    · rw [Lib.decDigits_one h]
      intro c hc
      simp only [List.mem_singleton] at hc
      subst hc
      simp [dig]; omega
    · rw [Lib.decDigits, dif_neg h]
      intro c hc
      rcases List.mem_append.1 hc with hc | hc
      · exact ih (u / 10) (by omega) c hc
      · simp only [List.mem_singleton] at hc
        subst hc
        simp [dig]; omega
theorem dec_ne (u : Nat) : Lib.decDigits u ≠ [] := by
  intro h
  have := Lib.decDigits_length u
  rw [h] at this
  have := Lib.nDigits_pos u
  simp at *
  omega
theorem pad_dig (m : Int) (s : Nat) : ∀ c ∈ padS m s, dig c = true := by
  intro c hc
  unfold padS at hc
  rcases List.mem_append.1 hc with hc | hc
  · rw [List.mem_replicate] at hc; rw [hc.2]; decide
  · exact dec_dig _ c hc
theorem pad_dv (m : Int) (s : Nat) : dv (padS m s) = m.natAbs := by unfold padS; rw [dv_nought, dv_dec]
theorem pad_len (m : Int) (s : Nat) : (padS m s).length = max (s + 1) (Lib.nDigits m.natAbs) := by
  unfold padS
  rw [List.length_append, List.length_replicate, Lib.decDigits_length]
  omega

theorem not_pre {l : List UInt8} {c : UInt8} {k : UInt8} (h : l.head? ≠ some k) : Lib.hasPrefix l [k] = false := by
  unfold Lib.hasPrefix
  cases l with
  | nil => rfl
  | cons a r =>
    have : a ≠ k := fun e => h (by rw [e]; rfl)
    simp [List.isPrefixOf, Ne.symm this]
theorem pre_cons (r : List UInt8) (k : UInt8) : Lib.hasPrefix (k :: r) [k] = true := by simp [Lib.hasPrefix, List.isPrefixOf]
theorem trim_cons (r : List UInt8) (k : UInt8) : Lib.trimPrefix (k :: r) [k] = r := by unfold Lib.trimPrefix; rw [if_pos (pre_cons r k)]; rfl
theorem trim_not {l : List UInt8} {k : UInt8} (h : Lib.hasPrefix l [k] = false) : Lib.trimPrefix l [k] = l := by unfold Lib.trimPrefix; rw [if_neg (by rw [h]; simp)]
theorem tw_stop {a r : List UInt8} (ha : ∀ c ∈ a, dig c = true) (hr : ∀ c, r.head? = some c → dig c = false) : (a ++ r).takeWhile dig = a ∧ (a ++ r).dropWhile dig = r := by
  induction a with
  | nil =>
    cases r with
    | nil => exact ⟨rfl, rfl⟩
    | cons c t => have := hr c rfl; simp [List.takeWhile_cons, List.dropWhile_cons, this]
  | cons c t ih =>
    obtain ⟨h1, h2⟩ := ih (fun x hx => ha x (by simp [hx]))
    have := ha c (by simp)
    simp [List.takeWhile_cons, List.dropWhile_cons, this, h1, h2]

def sgnT (neg : Bool) : List UInt8 := if neg = true then [45] else []
theorem sgnT_trim (neg : Bool) (b : List UInt8) (hb : b.head? ≠ some 45) : Lib.trimPrefix (sgnT neg ++ b) [45] = b ∧ Lib.hasPrefix (sgnT neg ++ b) [45] = neg := by
  cases neg with
  | true => exact ⟨trim_cons b 45, pre_cons b 45⟩
  | false =>
    have h := not_pre (c := 0) hb
    exact ⟨trim_not h, h⟩
theorem head_app {a b : List UInt8} (ha : a ≠ []) : (a ++ b).head? = a.head? := by cases a with
  | nil => exact absurd rfl ha
  | cons _ _ => rfl
theorem head_dig {a : List UInt8} (h : ∀ c ∈ a, dig c = true) : a.head? ≠ some 45 := by
  cases a with
  | nil => simp
  | cons c t => intro e; have := h c (by simp); simp at e; subst e; simp [dig] at this

/-- a text with a point is read -/
theorem read_point (neg : Bool) (a b : List UInt8) (ha : ∀ c ∈ a, dig c = true) (hb : ∀ c ∈ b, dig c = true) (ha0 : a ≠ []) (hb0 : b ≠ []) (ha1 : a.length ≤ 12) (hb1 : b.length ≤ 6) :
    readS (sgnT neg ++ (a ++ 46 :: b)) = finS neg (a ++ b) b.length := by
  obtain ⟨h1, h2⟩ := sgnT_trim neg (a ++ 46 :: b) (by rw [head_app ha0]; exact head_dig ha)
  obtain ⟨h3, h4⟩ := tw_stop (r := 46 :: b) ha (by intro c hc; simp at hc; subst hc; decide)
  obtain ⟨h5, h6⟩ := tw_stop (r := []) hb (by intro c hc; simp at hc)
  rw [List.append_nil] at h5 h6
  unfold readS
  rw [h1, h2, h3, h4, pre_cons, trim_cons, h5, h6, if_neg (by simp [ha0]; omega), if_pos rfl, if_neg (by simp [hb0]; omega), if_neg (by simp)]
/-- a text without a point is read -/
theorem read_whole (neg : Bool) (a : List UInt8) (ha : ∀ c ∈ a, dig c = true) (ha0 : a ≠ []) (ha1 : a.length ≤ 12) : readS (sgnT neg ++ a) = finS neg a 0 := by
  obtain ⟨h1, h2⟩ := sgnT_trim neg a (head_dig ha)
  obtain ⟨h3, h4⟩ := tw_stop (r := []) ha (by intro c hc; simp at hc)
  rw [List.append_nil] at h3 h4
  unfold readS
  rw [h1, h2, h3, h4, if_neg (by simp [ha0]; omega), if_neg (by decide), if_neg (by simp)]
theorem read_long (neg : Bool) (a : List UInt8) (ha : ∀ c ∈ a, dig c = true) (ha1 : 12 < a.length) : readS (sgnT neg ++ a) = (0, 0, 20) := by
  obtain ⟨h1, h2⟩ := sgnT_trim neg a (head_dig ha)
  obtain ⟨h3, h4⟩ := tw_stop (r := []) ha (by intro c hc; simp at hc)
  rw [List.append_nil] at h3 h4
  unfold readS
  rw [h1, h3, if_pos (.inr ha1)]
theorem int_whole (neg : Bool) (a : List UInt8) (ha : ∀ c ∈ a, dig c = true) (ha0 : a ≠ []) (ha1 : a.length ≤ 12) : intS (sgnT neg ++ a) = if fitsB (sgn neg a) = true then (sgn neg a, 0) else (0, 2) := by
  obtain ⟨h1, h2⟩ := sgnT_trim neg a (head_dig ha)
  obtain ⟨h3, h4⟩ := tw_stop (r := []) ha (by intro c hc; simp at hc)
  rw [List.append_nil] at h3 h4
  unfold intS
  rw [h1, h2, h3, h4, if_neg (by simp [ha0]; omega), if_neg (by simp)]
theorem int_point (neg : Bool) (a b : List UInt8) (ha : ∀ c ∈ a, dig c = true) (ha0 : a ≠ []) (ha1 : a.length ≤ 12) :
    intS (sgnT neg ++ (a ++ 46 :: b)) = (0, 20) := by
  obtain ⟨h1, h2⟩ := sgnT_trim neg (a ++ 46 :: b) (by rw [head_app ha0]; exact head_dig ha)
  obtain ⟨h3, h4⟩ := tw_stop (r := 46 :: b) ha (by intro c hc; simp at hc; subst hc; decide)
  unfold intS
  rw [h1, h3, h4, if_neg (by simp [ha0]; omega), if_pos (by simp)]

/-- what is printed, in parts -/
theorem print_parts (m : Int) (s : Nat) (hs : 0 < s) : ∃ a b : List UInt8, printS m s = sgnT (decide (m < 0)) ++ (a ++ 46 :: b) ∧ a ++ b = padS m s ∧ b.length = s ∧ a ≠ [] ∧ a.length = (padS m s).length - s := by
  have hl := pad_len m s
  refine ⟨(padS m s).take ((padS m s).length - s), (padS m s).drop ((padS m s).length - s), ?_, List.take_append_drop _ _, ?_, ?_, ?_⟩
  · unfold printS sgnT
    rw [if_pos hs]
    by_cases h : m < 0 <;> simp [h]
  · rw [List.length_drop]; omega
  · intro h
    have := congrArg List.length h
    rw [List.length_take] at this
    simp at this
    omega
  · rw [List.length_take]; omega
theorem print_zero (m : Int) : printS m 0 = sgnT (decide (m < 0)) ++ Lib.decDigits m.natAbs := by
  unfold printS sgnT padS
  have h : 0 + 1 - (Lib.decDigits m.natAbs).length = 0 := by
    rw [Lib.decDigits_length]; have := Lib.nDigits_pos m.natAbs; omega
  rw [h, if_neg (Nat.lt_irrefl 0)]
  by_cases h : m < 0 <;> simp [h]
theorem sgn_abs (m : Int) (l : List UInt8) (h : dv l = m.natAbs) : sgn (decide (m < 0)) l = m := by
  unfold sgn
  rw [h]
  by_cases hm : m < 0
  · rw [if_pos (by simpa using hm)]; omega
  · rw [if_neg (by simpa using hm)]; omega
theorem nd_bd {k u : Nat} (h : u < 10 ^ (k + 1)) : Lib.nDigits u ≤ k + 1 := by
  induction k generalizing u with
  | zero => rw [Lib.nDigits_small (by simpa using h)]; exact Nat.le_refl _
  | succ k ih =>
    by_cases h1 : u < 10
    · rw [Lib.nDigits_small h1]; omega
    · rw [Lib.nDigits_big h1]
      have := ih (u := u / 10) (by rw [Nat.pow_succ] at h; omega)
      omega
/-- what is printed is read back -/
theorem read_print (m : Int) (s : Nat) (h1 : -1000000000000 ≤ m) (h2 : m ≤ 1000000000000) (hs : s ≤ 6) (h0 : 0 < s ∨ -1000000000000 < m ∧ m < 1000000000000) :
    readS (printS m s) = if fitsB (least m s).1 = true then ((least m s).1, (least m s).2, 0) else (0, 0, 2) := by
  have hnd : Lib.nDigits m.natAbs ≤ 13 := nd_bd (k := 12) (by omega)
  by_cases h : 0 < s
  · obtain ⟨a, b, e1, e2, e3, e4, e5⟩ := print_parts m s h
    have hl := pad_len m s
    have hd := pad_dig m s
    rw [← e2] at hd
    rw [e1, read_point _ a b (fun c hc => hd c (by simp [hc])) (fun c hc => hd c (by simp [hc])) e4 (by intro e; rw [e] at e3; simp at e3; omega) (by omega) (by omega), e2, e3]
    unfold finS
    rw [sgn_abs m _ (pad_dv m s)]
  · have hs0 : s = 0 := by omega
    subst hs0
    have hnd' : Lib.nDigits m.natAbs ≤ 12 := nd_bd (k := 11) (by omega)
    rw [print_zero, read_whole _ _ (dec_dig _) (dec_ne _) (by rw [Lib.decDigits_length]; exact hnd')]
    unfold finS
    rw [sgn_abs m _ (dv_dec _)]
/-- whole numbers, and numbers -/
theorem whole_yes {l : List UInt8} (h : (intS l).2 = 0) : readS l = ((intS l).1, 0, 0) ∧ -100000000 ≤ (intS l).1 ∧ (intS l).1 ≤ 100000000 := by
  unfold intS at h ⊢
  split at h
  · simp at h
  · rename_i h1
    split at h
    · simp at h
    · rename_i h2
      rw [if_neg h1, if_neg h2]
      simp only [ne_eq, Decidable.not_not] at h2
      split at h
      · rename_i h3
        rw [if_pos h3]
        refine ⟨?_, fits_bd h3⟩
        unfold readS
        rw [if_neg h1, h2, if_neg (by decide), if_neg (by simp)]
        unfold finS
        rw [show (least (sgn (Lib.hasPrefix l [45]) ((Lib.trimPrefix l [45]).takeWhile dig)) 0) = (sgn (Lib.hasPrefix l [45]) ((Lib.trimPrefix l [45]).takeWhile dig), 0) from rfl, if_pos h3]
      · simp at h
theorem read_err {l : List UInt8} (h : (readS l).2.2 ≠ 0) : (readS l).1 = 0 ∧ (readS l).2.1 = 0 := by
  unfold readS finS at h ⊢
  repeat' split
  all_goals simp_all
theorem int_err {l : List UInt8} (h : (intS l).2 ≠ 0) : (intS l).1 = 0 := by
  unfold intS at h ⊢
  repeat' split
  all_goals simp_all
theorem whole_no {l : List UInt8} (h : (intS l).2 ≠ 0) (hr : (readS l).2.2 = 0) : (intS l).2 = 20 := by
  unfold intS at h ⊢
  split at h
  · rename_i h1; rw [if_pos h1]
  · rename_i h1
    split at h
    · rename_i h2; rw [if_neg h1, if_pos h2]
    · rename_i h2
      exfalso
      simp only [ne_eq, Decidable.not_not] at h2
      split at h
      · simp at h
      · rename_i h3
        unfold readS at hr
        rw [if_neg h1, h2, if_neg (by decide), if_neg (by simp)] at hr
        unfold finS at hr
        rw [show (least (sgn (Lib.hasPrefix l [45]) ((Lib.trimPrefix l [45]).takeWhile dig)) 0) = (sgn (Lib.hasPrefix l [45]) ((Lib.trimPrefix l [45]).takeWhile dig), 0) from rfl, if_neg h3] at hr
        simp at hr
end Go.Proofs.YtldllfadidepaaaDoor.Sp
namespace Go.Proofs.YtldllfadidepaaaDoor.Pure
open Go.RowKit Go.Proofs.YtldllfadidepaaaDoor.P Go.Proofs.YtldllfadidepaaaDoor.Sp
theorem FixedWhole : entrepotlaw02_FixedWhole.Pure := by
  intro a hsz
  refine ⟨1000, ?_⟩
  have hs := shown_eq 1000 (by decide)
  have hs' := shown_eq 999 (by decide)
  have hno : entrepotlaw02_FixedWhole.j0 1000 a true = some true := by
    simp only [entrepotlaw02_FixedWhole.j0, if_true, hs', Option.bind_some]
  unfold entrepotlaw02_FixedWhole.f
  split
  · exact hno
  · rw [hs]
    show entrepotlaw02_FixedWhole.j0 1000 a false = some true
    simp only [entrepotlaw02_FixedWhole.j0]
    rw [if_neg (by simp)]
    unfold fixed_Int.f fixed_Read.f
    rw [if_pos (by omega), if_pos (by omega)]
    simp only [Option.bind_some]
    by_cases h : (intS a.data.toList).2 = 0
    · obtain ⟨h1, h2, h3⟩ := whole_yes h
      rw [if_pos h, h1, if_pos rfl, if_pos (by simp), if_pos h2]
      exact congrArg some (decide_eq_true h3)
    · rw [if_neg h, if_pos (int_err h)]
      by_cases g : (readS a.data.toList).2.2 = 0
      · rw [if_pos g, if_pos (whole_no h g)]
      · rw [if_neg g]
        have := read_err g
        rw [this.1, this.2]
        rfl
end Go.Proofs.YtldllfadidepaaaDoor.Pure
namespace Go.Proofs.YtldllfadidepaaaDoor.lawFixedWhole
open Go Go.ChangeShapes Go.WideShapes Go.ChangeAt Go.RowKit
open Go.ChangeMaps (open_string shut_string)
set_option linter.unusedVariables false
set_option linter.unusedSimpArgs false
theorem own : ownKnob Tryd.prog.godebug = none := by kernel_rfl
theorem laidOut : laidOutB Tryd.prog = true := by kernel_rfl
theorem door_met (os : Os) (args : Array Value) : laidMetH Tryd.prog [("math/bits.deBruijn32tab", Rows.laid_math_bits_deBruijn32tab), ("math/bits.deBruijn64tab", Rows.laid_math_bits_deBruijn64tab), ("internal/strconv.uint64pow10", Rows.laid_internal_strconv_uint64pow10), ("strconv.ErrRange", Rows.laid_strconv_ErrRange), ("strconv.ErrSyntax", Rows.laid_strconv_ErrSyntax)] ((World.doorLaid Tryd.prog 400 os).forCall (fun _ _ => 0) ⟨#[], args, []⟩).memory :=
  laidMetH_of_parts3 (fuel := 8) (laidMet_of_run' 8 (by kernel_rfl) (by kernel_rfl)) (by kernel_rfl) (by kernel_rfl)
theorem tabs {W : World} (h : laidMetH Tryd.prog [("math/bits.deBruijn32tab", Rows.laid_math_bits_deBruijn32tab), ("math/bits.deBruijn64tab", Rows.laid_math_bits_deBruijn64tab), ("internal/strconv.uint64pow10", Rows.laid_internal_strconv_uint64pow10), ("strconv.ErrRange", Rows.laid_strconv_ErrRange), ("strconv.ErrSyntax", Rows.laid_strconv_ErrSyntax)] W) : Tabs W := by
  rw [MakeChecks.laidMetH_plain _ _ _ (by kernel_rfl)] at h
  have h := h.tail
  have h := h.tail
  exact Lib.tabBelow_of_tabIs (Lib.tabIs_of_head (k := .u64) (zs := Lib.pow10Tab) (g := 2) (t := 110) (e := 85) (n := 20) (by kernel_rfl) (by kernel_rfl) Tryd.underlying110 Tryd.underlying85 (by kernel_rfl) (by kernel_rfl) h)
set_option maxRecDepth 100000 in
theorem lifted (os : Os) (started : os.Started) (H : Type) (enc : TypeId × Value → H) :
    ReturnsInHanded {} Tryd.checked os 4 .any (fun w args => (Rows.fixedWholeSpec.pre enc Tryd.prog Tryd.f4 [] false w args ∧ laidMetH Tryd.prog [("math/bits.deBruijn32tab", Rows.laid_math_bits_deBruijn32tab), ("math/bits.deBruijn64tab", Rows.laid_math_bits_deBruijn64tab), ("internal/strconv.uint64pow10", Rows.laid_internal_strconv_uint64pow10), ("strconv.ErrRange", Rows.laid_strconv_ErrRange), ("strconv.ErrSyntax", Rows.laid_strconv_ErrSyntax)] w) ∧ sizedMet enc Tryd.prog Tryd.f4 (OpenSpec.ofChange Rows.fixedWholeSpec) false w args)
      (Rows.fixedWholeSpec.post enc Tryd.prog Tryd.f4 false true false false) := by
  refine returnsInHanded_of_change_and (C := Tryd.checked) (X := fun w _ => laidMetH Tryd.prog [("math/bits.deBruijn32tab", Rows.laid_math_bits_deBruijn32tab), ("math/bits.deBruijn64tab", Rows.laid_math_bits_deBruijn64tab), ("internal/strconv.uint64pow10", Rows.laid_internal_strconv_uint64pow10), ("strconv.ErrRange", Rows.laid_strconv_ErrRange), ("strconv.ErrSyntax", Rows.laid_strconv_ErrSyntax)] w) (fun _ _ _ hh h => h.of_heap hh) own started (by kernel_rfl) Tryd.func4
    (ChangeSpec.witness_shaped (enc := enc) (C := Tryd.checked) (os := os) (X := fun w _ => laidMetH Tryd.prog [("math/bits.deBruijn32tab", Rows.laid_math_bits_deBruijn32tab), ("math/bits.deBruijn64tab", Rows.laid_math_bits_deBruijn64tab), ("internal/strconv.uint64pow10", Rows.laid_internal_strconv_uint64pow10), ("strconv.ErrRange", Rows.laid_strconv_ErrRange), ("strconv.ErrSyntax", Rows.laid_strconv_ErrSyntax)] w) false (World.doorLaid Tryd.prog 400 os) #[.string ByteArray.empty] 8 rfl (World.shaped_of_RefB (by kernel_rfl) (by kernel_rfl)) (by kernel_rfl) (by kernel_rfl) (by kernel_rfl) (door_met os _)) ?_
  intro W base args ds gs before hval0 hW _ hsz0 hL _
  have hsz : (DataW.weightsEach Tryd.prog (Tryd.f4.params.toList ++ Rows.fixedWholeSpec.plain.varTypes Tryd.prog) (ds ++ gs)).all (· ≤ reachBytes) = true := hsz0
  have hval : ∀ (j : Nat) t v, Tryd.f4.params[j]? = some t → args[j]? = some v → Value.okWide Tryd.prog W .any base t v := hval0
  have hW' := hW
  obtain ⟨p, q, hA0, hV, rfl, hfz, hnd⟩ := hW
  have hA : DataW.TrodAll enc Tryd.prog W 0 (fun _ => true) true Tryd.f4.params.toList args.toList ds p := hA0
  rw [Tryd.params4] at hA hval hsz
  obtain ⟨v0, vs0, d0, ds0, p0, q0, hargs, rfl, rfl, h0, r0⟩ := trodAll_cons hA
  obtain ⟨rfl, rfl, rfl⟩ := trodAll_nil r0
  obtain rfl : args = #[v0] := by cases args; simp_all
  obtain ⟨rfl, rfl⟩ := trodVars_none hV
  have k0 := h0
  have lt0 : ∀ x ∈ p0, x.block < W.heap.size := by obtain ⟨m, hm⟩ := k0; exact DataW.trod_lt m _ _ _ hm
  obtain ⟨a0, rfl, rfl, rfl, y0⟩ := open_string Tryd.underlying9 (hval 0 9 v0 rfl rfl) h0
  have wa0 : a0.size ≤ 140737488351232 := by
    have z := sized_string hsz (j := 0) (t := 9) rfl rfl
    rw [Array.length_toList] at z
    exact z
  clear hA0 hval0 hsz0 hsz
  obtain ⟨k, hk⟩ := Pure.FixedWhole a0 wa0
  refine (P.entrepotlaw02_FixedWhole.calls k a0 true W (tabs hL) hk).mono fun e W' hp => ?_
  obtain ⟨he, hb⟩ := hp
  subst he
  have bel : Below W.heap.size W W' := hb
  exact ⟨_, rfl, _, _, _, [], _, [], hW', trodAll_mk1 (shut_bool Tryd.underlying4 _), trodAll_cons_mk (Below.trod laidOut (by kernel_rfl) (of_decide_eq_true (by kernel_rfl)) k0 bel lt0) trodAll_mk0, rfl, bel.frame _, fun h => by cases h⟩
theorem over : Rows.fixedWholeRow.holds Tryd.pinned (OpenSpec.ofChange Rows.fixedWholeSpec) :=
  OpenClaim.holds_of_wide 4 Tryd.f4 rfl rfl rfl rfl rfl rfl rfl ⟨rfl, rfl, rfl, rfl, rfl⟩ rfl rfl rfl rfl rfl (by kernel_rfl) Tryd.func4 (by kernel_rfl)
    (of_decide_eq_true (by kernel_rfl)) (by unfold Func.isWrapper; first | (rw [if_pos (by decide +kernel)]; kernel_rfl) | (rw [if_neg (by decide +kernel)]; exact ⟨rfl, rfl⟩))
    (fun os started H enc _ => lifted os started H enc)
theorem card_holds : Rows.FixedWholeCardSaid :=
  Claim7.holds_tied_plain_at .later [] [.data, .data, .data, .sentinel, .sentinel] true (true, "28f43b617a5675dde0b849d940f8ff89a871987def84bbb0a76c1180cb10c2cf") true
    over (fun _ h => by cases h) (by kernel_rfl) (fun _ h => by cases h) fixedWhole_row_tie rfl ⟨rfl, rfl⟩ (by kernel_rfl) rfl
    (fun f fn hf hfn => by
      obtain rfl : f = 4 := Option.some.inj ((show Tryd.prog.funcNamed "entrepot/entrepotlaw02.FixedWhole" = some 4 by kernel_rfl).symm.trans hf) |>.symm
      obtain rfl : fn = Tryd.f4 := (Option.some.inj (Tryd.func4.symm.trans hfn)).symm
      exact ⟨by kernel_rfl, fun j t ht => by
        rw [Tryd.params4] at ht
        have hm : t ∈ [9] := by simpa using Array.mem_of_getElem? ht
        have hall : ([9].all fun u => !Tryd.prog.wantsStandIn u) = true := by kernel_rfl
        exact (show Tryd.prog.wantsStandIn t = false by simpa using List.all_eq_true.1 hall t hm)⟩)
    (by kernel_rfl)
#print axioms card_holds
end Go.Proofs.YtldllfadidepaaaDoor.lawFixedWhole
namespace Go.Proofs.YtldllfadidepaaaDoor
/-- The card, under a short name, for the claim. -/
theorem lawFixedWhole_holds : Rows.FixedWholeCardSaid := lawFixedWhole.card_holds
end Go.Proofs.YtldllfadidepaaaDoor
