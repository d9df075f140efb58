/- FixedReads holds for every input: the law returns true, and its arguments read as they read. Its condition: the library's tables and errors that the row lists lie as the program's text lays them (the card ties this). -/
import Derived.Test.YtldllfadidepaaaDoorMFixedReadsB
import Derived.Lib.Hide
import Derived.Test.YtldllfadidepaaaDoorRows
import Derived.Test.YtldllfadidepaaaDoorCards
import Derived.Test.YtldllfadidepaaaDoorTie
import Derived.Test.YtldllfadidepaaaDoorMFixedReadsA
import Derived.WalkKit
import Derived.ProofKit
import Derived.OpenShut
import Derived.ShutString
import Derived.ChangeOld
import Derived.Below
import Derived.SizedLaws
import Derived.LaidMore
import Derived.SevenTiedAt
import Derived.Lib.SmallJoins
import Derived.Stop.LaidErr
import Derived.Lib.LaidTab
import Derived.Carry
import Derived.Stop.Joined
namespace Go.Proofs.YtldllfadidepaaaDoor.Sp
set_option linter.unusedSimpArgs false
set_option linter.unusedVariables false

theorem dv_snoc (l : List UInt8) (c : UInt8) : dv (l ++ [c]) = 10 * dv l + (c.toNat - 48) := by simp [dv]
theorem dv_fold (l : List UInt8) : ∀ acc, l.foldl (fun n c => 10 * n + (c.toNat - 48)) acc = acc * 10 ^ l.length + dv l := by
  induction l with
  | nil => intro acc; simp [dv]
  | cons c r ih =>
    intro acc
    simp only [List.foldl_cons, List.length_cons, dv]
    rw [ih, ih (10 * 0 + (c.toNat - 48)), Nat.pow_succ, Nat.mul_comm (10 ^ r.length) 10, ← Nat.mul_assoc, Nat.add_mul, Nat.mul_comm 10 acc]
    simp
    omega
theorem dv_app (a b : List UInt8) : dv (a ++ b) = dv a * 10 ^ b.length + dv b := by
  unfold dv
  rw [List.foldl_append, dv_fold]
  rfl
theorem dv_nought (n : Nat) (l : List UInt8) : dv (List.replicate n 48 ++ l) = dv l := by
  have h : dv (List.replicate n (48 : UInt8)) = 0 := by
    induction n with
    | zero => rfl
    | succ n ih => rw [List.replicate_succ', dv_snoc, ih]; rfl
  rw [dv_app, h]; simp
theorem dv_dec (u : Nat) : dv (Lib.decDigits u) = u := by
  induction u using Nat.strongRecOn with
  | _ u ih =>
    by_cases h : u < 10
    · rw [Lib.decDigits_one h]
      simp [dv]
      omega
    · rw [Lib.decDigits, dif_neg h, dv_snoc, ih (u / 10) (by omega)]
      simp
      omega
theorem dec_dig (u : Nat) : ∀ c ∈ Lib.decDigits u, dig c = true := by
  induction u using Nat.strongRecOn with
  | _ u ih =>
    by_cases h : u < 10
    · rw [Lib.decDigits_one h]
      intro c hc
      simp only [List.mem_singleton] at hc
      subst hc
      simp [dig]; omega
    · rw [Lib.decDigits, dif_neg h]
      intro c hc
      rcases List.mem_append.1 hc with hc | hc
      · exact ih (u / 10) (by omega) c hc
      · simp only [List.mem_singleton] at hc
        subst hc
        simp [dig]; omega
theorem dec_ne (u : Nat) : Lib.decDigits u ≠ [] := by
  intro h
  have := Lib.decDigits_length u
  rw [h] at this
  have := Lib.nDigits_pos u
  simp at *
  omega
theorem pad_dig (m : Int) (s : Nat) : ∀ c ∈ padS m s, dig c = true := by
  intro c hc
  unfold padS at hc
  rcases List.mem_append.1 hc with hc | hc
  · rw [List.mem_replicate] at hc; rw [hc.2]; decide
  · exact dec_dig _ c hc
theorem pad_dv (m : Int) (s : Nat) : dv (padS m s) = m.natAbs := by unfold padS; rw [dv_nought, dv_dec]
theorem pad_len (m : Int) (s : Nat) : (padS m s).length = max (s + 1) (Lib.nDigits m.natAbs) := by
  unfold padS
  rw [List.length_append, List.length_replicate, Lib.decDigits_length]
  omega

theorem not_pre {l : List UInt8} {c : UInt8} {k : UInt8} (h : l.head? ≠ some k) : Lib.hasPrefix l [k] = false := by
  unfold Lib.hasPrefix
  cases l with
  | nil => rfl
  | cons a r =>
    have : a ≠ k := fun e => h (by rw [e]; rfl)
    simp [List.isPrefixOf, Ne.symm this]
theorem pre_cons (r : List UInt8) (k : UInt8) : Lib.hasPrefix (k :: r) [k] = true := by simp [Lib.hasPrefix, List.isPrefixOf]
theorem trim_cons (r : List UInt8) (k : UInt8) : Lib.trimPrefix (k :: r) [k] = r := by unfold Lib.trimPrefix; rw [if_pos (pre_cons r k)]; rfl
theorem trim_not {l : List UInt8} {k : UInt8} (h : Lib.hasPrefix l [k] = false) : Lib.trimPrefix l [k] = l := by unfold Lib.trimPrefix; rw [if_neg (by rw [h]; simp)]
theorem tw_stop {a r : List UInt8} (ha : ∀ c ∈ a, dig c = true) (hr : ∀ c, r.head? = some c → dig c = false) : (a ++ r).takeWhile dig = a ∧ (a ++ r).dropWhile dig = r := by
  induction a with
  | nil =>
    cases r with
    | nil => exact ⟨rfl, rfl⟩
    | cons c t => have := hr c rfl; simp [List.takeWhile_cons, List.dropWhile_cons, this]
  | cons c t ih =>
    obtain ⟨h1, h2⟩ := ih (fun x hx => ha x (by simp [hx]))
    have := ha c (by simp)
    simp [List.takeWhile_cons, List.dropWhile_cons, this, h1, h2]

def sgnT (neg : Bool) : List UInt8 := if neg = true then [45] else []
theorem sgnT_trim (neg : Bool) (b : List UInt8) (hb : b.head? ≠ some 45) : Lib.trimPrefix (sgnT neg ++ b) [45] = b ∧ Lib.hasPrefix (sgnT neg ++ b) [45] = neg := by
  cases neg with
  | true => exact ⟨trim_cons b 45, pre_cons b 45⟩
  | false =>
    have h := not_pre (c := 0) hb
    exact ⟨trim_not h, h⟩
theorem head_app {a b : List UInt8} (ha : a ≠ []) : (a ++ b).head? = a.head? := by cases a with
  | nil => exact absurd rfl ha
  | cons _ _ => rfl
theorem head_dig {a : List UInt8} (h : ∀ c ∈ a, dig c = true) : a.head? ≠ some 45 := by
  cases a with
  | nil => simp
  | cons c t => intro e; have := h c (by simp); simp at e; subst e; simp [dig] at this

/-- a text with a point is read -/
theorem read_point (neg : Bool) (a b : List UInt8) (ha : ∀ c ∈ a, dig c = true) (hb : ∀ c ∈ b, dig c = true) (ha0 : a ≠ []) (hb0 : b ≠ []) (ha1 : a.length ≤ 12) (hb1 : b.length ≤ 6) :
    readS (sgnT neg ++ (a ++ 46 :: b)) = finS neg (a ++ b) b.length := by
  obtain ⟨h1, h2⟩ := sgnT_trim neg (a ++ 46 :: b) (by rw [head_app ha0]; exact head_dig ha)
  obtain ⟨h3, h4⟩ := tw_stop (r := 46 :: b) ha (by intro c hc; simp at hc; subst hc; decide)
  obtain ⟨h5, h6⟩ := tw_stop (r := []) hb (by intro c hc; simp at hc)
  rw [List.append_nil] at h5 h6
  unfold readS
  rw [h1, h2, h3, h4, pre_cons, trim_cons, h5, h6, if_neg (by simp [ha0]; omega), if_pos rfl, if_neg (by simp [hb0]; omega), if_neg (by simp)]
/-- a text without a point is read -/
theorem read_whole (neg : Bool) (a : List UInt8) (ha : ∀ c ∈ a, dig c = true) (ha0 : a ≠ []) (ha1 : a.length ≤ 12) : readS (sgnT neg ++ a) = finS neg a 0 := by
  obtain ⟨h1, h2⟩ := sgnT_trim neg a (head_dig ha)
  obtain ⟨h3, h4⟩ := tw_stop (r := []) ha (by intro c hc; simp at hc)
  rw [List.append_nil] at h3 h4
  unfold readS
  rw [h1, h2, h3, h4, if_neg (by simp [ha0]; omega), if_neg (by decide), if_neg (by simp)]
theorem read_long (neg : Bool) (a : List UInt8) (ha : ∀ c ∈ a, dig c = true) (ha1 : 12 < a.length) : readS (sgnT neg ++ a) = (0, 0, 20) := by
  obtain ⟨h1, h2⟩ := sgnT_trim neg a (head_dig ha)
  obtain ⟨h3, h4⟩ := tw_stop (r := []) ha (by intro c hc; simp at hc)
  rw [List.append_nil] at h3 h4
  unfold readS
  rw [h1, h3, if_pos (.inr ha1)]
theorem int_whole (neg : Bool) (a : List UInt8) (ha : ∀ c ∈ a, dig c = true) (ha0 : a ≠ []) (ha1 : a.length ≤ 12) : intS (sgnT neg ++ a) = if fitsB (sgn neg a) = true then (sgn neg a, 0) else (0, 2) := by
  obtain ⟨h1, h2⟩ := sgnT_trim neg a (head_dig ha)
  obtain ⟨h3, h4⟩ := tw_stop (r := []) ha (by intro c hc; simp at hc)
  rw [List.append_nil] at h3 h4
  unfold intS
  rw [h1, h2, h3, h4, if_neg (by simp [ha0]; omega), if_neg (by simp)]
theorem int_point (neg : Bool) (a b : List UInt8) (ha : ∀ c ∈ a, dig c = true) (ha0 : a ≠ []) (ha1 : a.length ≤ 12) :
    intS (sgnT neg ++ (a ++ 46 :: b)) = (0, 20) := by
  obtain ⟨h1, h2⟩ := sgnT_trim neg (a ++ 46 :: b) (by rw [head_app ha0]; exact head_dig ha)
  obtain ⟨h3, h4⟩ := tw_stop (r := 46 :: b) ha (by intro c hc; simp at hc; subst hc; decide)
  unfold intS
  rw [h1, h3, h4, if_neg (by simp [ha0]; omega), if_pos (by simp)]

/-- what is printed, in parts -/
theorem print_parts (m : Int) (s : Nat) (hs : 0 < s) : ∃ a b : List UInt8, printS m s = sgnT (decide (m < 0)) ++ (a ++ 46 :: b) ∧ a ++ b = padS m s ∧ b.length = s ∧ a ≠ [] ∧ a.length = (padS m s).length - s := by
  have hl := pad_len m s
  refine ⟨(padS m s).take ((padS m s).length - s), (padS m s).drop ((padS m s).length - s), ?_, List.take_append_drop _ _, ?_, ?_, ?_⟩
  · unfold printS sgnT
    rw [if_pos hs]
    by_cases h : m < 0 <;> simp [h]
  · rw [List.length_drop]; omega
  · intro h
    have := congrArg List.length h
    rw [List.length_take] at this
    simp at this
    omega
  · rw [List.length_take]; omega
theorem print_zero (m : Int) : printS m 0 = sgnT (decide (m < 0)) ++ Lib.decDigits m.natAbs := by
  unfold printS sgnT padS
  have h : 0 + 1 - (Lib.decDigits m.natAbs).length = 0 := by
    rw [Lib.decDigits_length]; have := Lib.nDigits_pos m.natAbs; omega
  rw [h, if_neg (Nat.lt_irrefl 0)]
  by_cases h : m < 0 <;> simp [h]
theorem sgn_abs (m : Int) (l : List UInt8) (h : dv l = m.natAbs) : sgn (decide (m < 0)) l = m := by
  unfold sgn
  rw [h]
  by_cases hm : m < 0
  · rw [if_pos (by simpa using hm)]; omega
  · rw [if_neg (by simpa using hm)]; omega
theorem nd_bd {k u : Nat} (h : u < 10 ^ (k + 1)) : Lib.nDigits u ≤ k + 1 := by
  induction k generalizing u with
  | zero => rw [Lib.nDigits_small (by simpa using h)]; exact Nat.le_refl _
  | succ k ih =>
    by_cases h1 : u < 10
    · rw [Lib.nDigits_small h1]; omega
    · rw [Lib.nDigits_big h1]
      have := ih (u := u / 10) (by rw [Nat.pow_succ] at h; omega)
      omega
/-- what is printed is read back -/
theorem read_print (m : Int) (s : Nat) (h1 : -1000000000000 ≤ m) (h2 : m ≤ 1000000000000) (hs : s ≤ 6) (h0 : 0 < s ∨ -1000000000000 < m ∧ m < 1000000000000) :
    readS (printS m s) = if fitsB (least m s).1 = true then ((least m s).1, (least m s).2, 0) else (0, 0, 2) := by
  have hnd : Lib.nDigits m.natAbs ≤ 13 := nd_bd (k := 12) (by omega)
  by_cases h : 0 < s
  · obtain ⟨a, b, e1, e2, e3, e4, e5⟩ := print_parts m s h
    have hl := pad_len m s
    have hd := pad_dig m s
    rw [← e2] at hd
    rw [e1, read_point _ a b (fun c hc => hd c (by simp [hc])) (fun c hc => hd c (by simp [hc])) e4 (by intro e; rw [e] at e3; simp at e3; omega) (by omega) (by omega), e2, e3]
    unfold finS
    rw [sgn_abs m _ (pad_dv m s)]
  · have hs0 : s = 0 := by omega
    subst hs0
    have hnd' : Lib.nDigits m.natAbs ≤ 12 := nd_bd (k := 11) (by omega)
    rw [print_zero, read_whole _ _ (dec_dig _) (dec_ne _) (by rw [Lib.decDigits_length]; exact hnd')]
    unfold finS
    rw [sgn_abs m _ (dv_dec _)]
theorem least_up (m : Int) (s : Nat) : ∀ j, least (m * 10 ^ j) (s + j) = least m s
  | 0 => by simp
  | j + 1 => by
    rw [← Nat.add_assoc, least, Int.pow_succ, ← Int.mul_assoc, if_pos (Int.mul_tmod_left _ _), Int.mul_tdiv_cancel _ (by decide)]
    exact least_up m s j
theorem ba_app (a b : List UInt8) : (⟨a.toArray⟩ : ByteArray) ++ ⟨b.toArray⟩ = ⟨(a ++ b).toArray⟩ := by
  apply ByteArray.ext
  rw [ByteArray.data_append]
  simp
theorem ba_size (a : List UInt8) : (⟨a.toArray⟩ : ByteArray).size = a.length := by
  show a.toArray.size = _
  exact List.size_toArray
/-- the text of a number with a point, whether it has places or not -/
theorem abs_parts (m : Int) (hm : 0 ≤ m) (s : Nat) : ∃ a b : List UInt8, printS m s ++ (if s = 0 then [46] else []) = a ++ 46 :: b ∧ a ++ b = padS m s ∧ b.length = s ∧ a ≠ [] ∧ a.length = (padS m s).length - s := by
  by_cases hs : 0 < s
  · obtain ⟨a, b, e1, e2, e3, e4, e5⟩ := print_parts m s hs
    refine ⟨a, b, ?_, e2, e3, e4, e5⟩
    rw [e1, if_neg (by omega)]
    unfold sgnT
    rw [if_neg (by simpa using hm)]
    simp
  · have hs0 : s = 0 := by omega
    subst hs0
    have hp : padS m 0 = Lib.decDigits m.natAbs := by
      unfold padS
      rw [show 0 + 1 - (Lib.decDigits m.natAbs).length = 0 from by rw [Lib.decDigits_length]; have := Lib.nDigits_pos m.natAbs; omega]
      rfl
    refine ⟨Lib.decDigits m.natAbs, [], ?_, by rw [hp]; simp, rfl, dec_ne _, by rw [hp]; simp⟩
    rw [print_zero, if_pos rfl]
    unfold sgnT
    rw [if_neg (by simpa using hm)]
    simp
/-- noughts ahead and behind change nothing -/
theorem read_noughts (m : Int) (s i j : Nat) (a b : List UInt8) (h1 : -67108864 ≤ m) (h2 : m ≤ 67108864) (hs : s ≤ 3) (hi : i ≤ 3) (hj : 0 < j) (hj3 : j ≤ 3)
    (hab : a ++ b = padS (if m < -m then -m else m) s) (hb : b.length = s) (ha : a ≠ []) (hal : a.length = (padS (if m < -m then -m else m) s).length - s) :
    readS (sgnT (decide (m < 0)) ++ ((List.replicate i 48 ++ a) ++ 46 :: (b ++ List.replicate j 48))) = ((least m s).1, (least m s).2, 0) := by
  have hna : (if m < -m then -m else m).natAbs = m.natAbs := by split <;> omega
  have hnd : Lib.nDigits m.natAbs ≤ 8 := nd_bd (k := 7) (by omega)
  have hl := pad_len (if m < -m then -m else m) s
  have hd := pad_dig (if m < -m then -m else m) s
  rw [hna] at hl
  rw [← hab] at hd
  have hrep : ∀ k, ∀ c ∈ List.replicate k (48 : UInt8), dig c = true := by intro k c hc; rw [List.mem_replicate] at hc; rw [hc.2]; decide
  have d1 : ∀ c ∈ List.replicate i 48 ++ a, dig c = true := by
    intro c hc; rcases List.mem_append.1 hc with hc | hc
    · exact hrep i c hc
    · exact hd c (by simp [hc])
  have d2 : ∀ c ∈ b ++ List.replicate j 48, dig c = true := by
    intro c hc; rcases List.mem_append.1 hc with hc | hc
    · exact hd c (by simp [hc])
    · exact hrep j c hc
  rw [read_point _ _ _ d1 d2 (by simp [ha]) (by intro e; have := congrArg List.length e; simp at this; omega) (by simp; omega) (by simp; omega)]
  have hdv : dv ((List.replicate i 48 ++ a) ++ (b ++ List.replicate j 48)) = m.natAbs * 10 ^ j := by
    rw [← List.append_assoc, List.append_assoc (List.replicate i 48), hab, dv_app, dv_nought, pad_dv, hna, List.length_replicate]
    have : dv (List.replicate j (48 : UInt8)) = 0 := by have := dv_nought j []; simpa [dv] using this
    rw [this]; rfl
  have hsg : sgn (decide (m < 0)) ((List.replicate i 48 ++ a) ++ (b ++ List.replicate j 48)) = m * 10 ^ j := by
    unfold sgn
    rw [hdv]
    have hc : ((m.natAbs * 10 ^ j : Nat) : Int) = (m.natAbs : Int) * 10 ^ j := by push_cast; rfl
    rw [hc]
    by_cases hm : m < 0
    · rw [if_pos (by simpa using hm), ← Int.neg_mul, show -(m.natAbs : Int) = m from by omega]
    · rw [if_neg (by simpa using hm), show (m.natAbs : Int) = m from by omega]
  unfold finS
  rw [hsg, List.length_append, List.length_replicate, hb, least_up]
  have hf : fitsB (least m s).1 = true := by
    obtain ⟨x, u, e1, e2, e3, e4⟩ := least_ex s m
    rw [e1]
    have h3 := quo_hi (p := 10 ^ (s - u)) (c := x) (B := 67108864) (pow_pos' _) (by decide) (by rw [Int.mul_comm, ← e3]; exact h2)
    have h4 := quo_lo (p := 10 ^ (s - u)) (c := x) (B := 67108864) (pow_pos' _) (by decide) (by rw [Int.mul_comm, ← e3]; exact h1)
    unfold fitsB; simp; omega
  rw [if_pos hf]
/-- whole numbers, and numbers -/
theorem whole_yes {l : List UInt8} (h : (intS l).2 = 0) : readS l = ((intS l).1, 0, 0) ∧ -100000000 ≤ (intS l).1 ∧ (intS l).1 ≤ 100000000 := by
  unfold intS at h ⊢
  split at h
  · simp at h
  · rename_i h1
    split at h
    · simp at h
    · rename_i h2
      rw [if_neg h1, if_neg h2]
      simp only [ne_eq, Decidable.not_not] at h2
      split at h
      · rename_i h3
        rw [if_pos h3]
        refine ⟨?_, fits_bd h3⟩
        unfold readS
        rw [if_neg h1, h2, if_neg (by decide), if_neg (by simp)]
        unfold finS
        rw [show (least (sgn (Lib.hasPrefix l [45]) ((Lib.trimPrefix l [45]).takeWhile dig)) 0) = (sgn (Lib.hasPrefix l [45]) ((Lib.trimPrefix l [45]).takeWhile dig), 0) from rfl, if_pos h3]
      · simp at h
theorem read_err {l : List UInt8} (h : (readS l).2.2 ≠ 0) : (readS l).1 = 0 ∧ (readS l).2.1 = 0 := by
  unfold readS finS at h ⊢
  repeat' split
  all_goals simp_all
theorem int_err {l : List UInt8} (h : (intS l).2 ≠ 0) : (intS l).1 = 0 := by
  unfold intS at h ⊢
  repeat' split
  all_goals simp_all
theorem whole_no {l : List UInt8} (h : (intS l).2 ≠ 0) (hr : (readS l).2.2 = 0) : (intS l).2 = 20 := by
  unfold intS at h ⊢
  split at h
  · rename_i h1; rw [if_pos h1]
  · rename_i h1
    split at h
    · rename_i h2; rw [if_neg h1, if_pos h2]
    · rename_i h2
      exfalso
      simp only [ne_eq, Decidable.not_not] at h2
      split at h
      · simp at h
      · rename_i h3
        unfold readS at hr
        rw [if_neg h1, h2, if_neg (by decide), if_neg (by simp)] at hr
        unfold finS at hr
        rw [show (least (sgn (Lib.hasPrefix l [45]) ((Lib.trimPrefix l [45]).takeWhile dig)) 0) = (sgn (Lib.hasPrefix l [45]) ((Lib.trimPrefix l [45]).takeWhile dig), 0) from rfl, if_neg h3] at hr
        simp at hr
end Go.Proofs.YtldllfadidepaaaDoor.Sp
namespace Go.Proofs.YtldllfadidepaaaDoor.Sp
set_option linter.unusedSimpArgs false
/-- so many digits, one at least -/
def allD (l : List UInt8) : Bool := l.all dig
theorem allD_iff {l : List UInt8} : allD l = true ↔ ∀ c ∈ l, dig c = true := by unfold allD; rw [List.all_eq_true]
theorem tw_all {l : List UInt8} (h : allD l = true) : l.takeWhile dig = l ∧ l.dropWhile dig = [] := by
  have := tw_stop (a := l) (r := []) (allD_iff.1 h) (by intro c hc; simp at hc)
  simpa using this
theorem dw_not {l : List UInt8} (h : ¬ allD l = true) : l.dropWhile dig ≠ [] := by
  intro e
  refine h (allD_iff.2 fun c hc => ?_)
  have := List.takeWhile_append_dropWhile (p := dig) (l := l)
  rw [e, List.append_nil] at this
  rw [← this] at hc
  exact tw_dig l c hc
/-- what the document's 'digits' tells -/
def digS (l : List UInt8) (most : Nat) : Int × Bool := if l = [] ∨ most < l.length ∨ ¬ allD l = true then (0, false) else (dv l, true)
theorem intS_eq (l : List UInt8) : intS l = if (digS (Lib.trimPrefix l [45]) 12).2 = true then (if (digS (Lib.trimPrefix l [45]) 12).1 > 100000000 then (0, 2) else (sgn (Lib.hasPrefix l [45]) (Lib.trimPrefix l [45]), 0)) else (0, 20) := by
  unfold intS digS
  generalize Lib.trimPrefix l [45] = l1
  by_cases h : allD l1 = true
  · obtain ⟨h1, h2⟩ := tw_all h
    rw [h1, h2]
    by_cases h3 : l1 = [] ∨ 12 < l1.length
    · rw [if_pos h3, if_pos (show l1 = [] ∨ 12 < l1.length ∨ ¬ allD l1 = true from h3.imp id .inl)]
      rfl
    · rw [if_neg h3, if_neg (by simp), if_neg (show ¬ (l1 = [] ∨ 12 < l1.length ∨ ¬ allD l1 = true) from fun e => by
        rcases e with e | e | e
        · exact h3 (.inl e)
        · exact h3 (.inr e)
        · exact e h)]
      simp only [if_true]
      unfold sgn fitsB
      by_cases hv : (dv l1 : Int) > 100000000
      · rw [if_pos hv, if_neg]
        split <;> simp <;> omega
      · rw [if_neg hv, if_pos]
        split <;> simp <;> omega
  · have h2 := dw_not h
    rw [if_pos h2, if_pos (show l1 = [] ∨ 12 < l1.length ∨ ¬ allD l1 = true from .inr (.inr h))]
    simp
/-- the place of the first point -/
def pt (l : List UInt8) : Nat := l.findIdx (· == 46)
theorem pt_le (l : List UInt8) : pt l ≤ l.length := List.findIdx_le_length
theorem pt_take (l : List UInt8) : ∀ c ∈ l.take (pt l), c ≠ 46 := by
  intro c hc e
  subst e
  obtain ⟨i, hi, h⟩ := List.mem_iff_getElem.1 hc
  rw [List.length_take] at hi
  rw [List.getElem_take] at h
  have := List.not_of_lt_findIdx (p := (· == 46)) (xs := l) (i := i) (by unfold pt at hi; omega)
  simp [h] at this
theorem pt_drop (l : List UInt8) (h : pt l < l.length) : l.drop (pt l) = 46 :: l.drop (pt l + 1) := by
  rw [List.drop_eq_getElem_cons h]
  congr 1
  have := List.findIdx_getElem (p := (· == 46)) (xs := l) (w := h)
  exact beq_iff_eq.1 this
theorem sgn_eq (neg : Bool) (l : List UInt8) : sgn neg l = (if neg = true then -1 else 1) * (dv l : Int) := by
  unfold sgn
  cases neg <;> simp
/-- what the document's 'Read' tells -/
def refS (neg : Bool) (l1 : List UInt8) : Int × Int × Int :=
  if (digS (l1.take (pt l1)) 12).2 = true then
    (if pt l1 < l1.length then
      (if (digS (l1.drop (pt l1 + 1)) 6).2 = true then finS neg (l1.take (pt l1) ++ l1.drop (pt l1 + 1)) (l1.length - pt l1 - 1) else (0, 0, 20))
    else finS neg (l1.take (pt l1)) 0)
  else (0, 0, 20)
theorem readS_eq (l : List UInt8) : readS l = refS (Lib.hasPrefix l [45]) (Lib.trimPrefix l [45]) := by
  unfold readS refS
  generalize Lib.hasPrefix l [45] = neg
  generalize Lib.trimPrefix l [45] = l1
  have hsplit := List.take_append_drop (pt l1) l1
  have hnp := pt_take l1
  by_cases ha : allD (l1.take (pt l1)) = true
  · have had := allD_iff.1 ha
    by_cases hp : pt l1 < l1.length
    · have hd := pt_drop l1 hp
      have hrl : (l1.drop (pt l1 + 1)).length = l1.length - pt l1 - 1 := by rw [List.length_drop]; omega
      obtain ⟨h1, h2⟩ := tw_stop (r := 46 :: l1.drop (pt l1 + 1)) had (by intro c hc; simp at hc; subst hc; decide)
      rw [← hd, hsplit] at h1 h2
      rw [h1, h2, hd, pre_cons, trim_cons, if_pos hp]
      generalize l1.take (pt l1) = a at ha
      generalize hb : l1.drop (pt l1 + 1) = b at hrl
      rw [← hrl]
      unfold digS
      by_cases h3 : a = [] ∨ 12 < a.length
      · rw [if_pos h3, if_pos (show a = [] ∨ 12 < a.length ∨ ¬ allD a = true from h3.imp id .inl)]
        rfl
      · rw [if_neg h3, if_pos rfl, if_neg (show ¬ (a = [] ∨ 12 < a.length ∨ ¬ allD a = true) from fun e => by
          rcases e with e | e | e
          · exact h3 (.inl e)
          · exact h3 (.inr e)
          · exact e ha)]
        simp only [if_true]
        by_cases hbd : allD b = true
        · obtain ⟨k1, k2⟩ := tw_all hbd
          rw [k1, k2]
          by_cases h4 : b = [] ∨ 6 < b.length
          · rw [if_pos h4, if_pos (show b = [] ∨ 6 < b.length ∨ ¬ allD b = true from h4.imp id .inl)]
            rfl
          · rw [if_neg h4, if_neg (by simp), if_neg (show ¬ (b = [] ∨ 6 < b.length ∨ ¬ allD b = true) from fun e => by
              rcases e with e | e | e
              · exact h4 (.inl e)
              · exact h4 (.inr e)
              · exact e hbd)]
            rfl
        · have h5 := dw_not hbd
          rw [if_pos h5, if_pos (show b = [] ∨ 6 < b.length ∨ ¬ allD b = true from .inr (.inr hbd))]
          simp
    · have hpl : pt l1 = l1.length := by have := pt_le l1; omega
      rw [hpl, List.take_length] at ha
      obtain ⟨h1, h2⟩ := tw_all ha
      rw [h1, h2, hpl, List.take_length, if_neg (show ¬ l1.length < l1.length by omega), if_neg (show ¬ Lib.hasPrefix [] [46] = true by decide)]
      unfold digS
      by_cases h3 : l1 = [] ∨ 12 < l1.length
      · rw [if_pos h3, if_pos (show l1 = [] ∨ 12 < l1.length ∨ ¬ allD l1 = true from h3.imp id .inl)]
        rfl
      · rw [if_neg h3, if_neg (by simp), if_neg (show ¬ (l1 = [] ∨ 12 < l1.length ∨ ¬ allD l1 = true) from fun e => by
          rcases e with e | e | e
          · exact h3 (.inl e)
          · exact h3 (.inr e)
          · exact e ha)]
        rfl
  · have hdig : (digS (l1.take (pt l1)) 12).2 = false := by
      unfold digS
      rw [if_pos (.inr (.inr ha))]
    rw [hdig, if_neg (show ¬ (false = true) by decide)]
    -- the digits end within the first part, at a sign that is no point
    have hdw := dw_not ha
    obtain ⟨c, t, hct⟩ := List.exists_cons_of_ne_nil hdw
    have hc : dig c = false := by
      have := List.head?_dropWhile_not dig (l1.take (pt l1))
      rw [hct] at this
      simpa using this
    have hcm : c ∈ l1.take (pt l1) := by
      have := List.takeWhile_append_dropWhile (p := dig) (l := l1.take (pt l1))
      rw [← this, hct]
      simp
    have hl1 : l1 = (l1.take (pt l1)).takeWhile dig ++ (c :: (t ++ l1.drop (pt l1))) := by
      rw [← List.cons_append, ← hct, ← List.append_assoc, List.takeWhile_append_dropWhile, hsplit]
    obtain ⟨h1, h2⟩ := tw_stop (r := c :: (t ++ l1.drop (pt l1))) (tw_dig (l1.take (pt l1))) (by intro x hx; simp at hx; subst hx; exact hc)
    rw [← hl1] at h1 h2
    rw [h2]
    have hpf : Lib.hasPrefix (c :: (t ++ l1.drop (pt l1))) [46] = false := not_pre (c := 0) (by simp; exact hnp c hcm)
    rw [hpf]
    split
    · rfl
    · simp
end Go.Proofs.YtldllfadidepaaaDoor.Sp
namespace Go.Proofs.YtldllfadidepaaaDoor.P
open Go.RowKit Go.Proofs.YtldllfadidepaaaDoor.Sp Go.Proofs.YtldllfadidepaaaDoorW.PrintWords Go.Proofs.YtldllfadidepaaaDoorW.PrintLast Go.Proofs.YtldllfadidepaaaDoorW.PrintMore
set_option linter.unusedSimpArgs false

theorem ba_sz (a : List UInt8) : (⟨a.toArray⟩ : ByteArray).size = a.length := ba_size a
theorem bt_list (l : List UInt8) (i : Nat) (h : i < l.length) : bt ⟨l.toArray⟩ (i : Int) = ((l[i]).toNat : Int) := by
  unfold bt
  rw [dif_pos (by rw [Int.toNat_natCast, ba_sz]; exact h)]
  rfl
theorem dig_bt {c : UInt8} : dig c = true ↔ ¬ ((c.toNat : Int) < 48) ∧ ¬ ((c.toNat : Int) > 57) := by
  unfold dig; simp; omega
theorem rdig_loop (l : List UInt8) (hl : l.length ≤ 18) (d : Nat) : ∀ (i k : Nat) (acc : Nat), i + d = l.length → acc < 10 ^ i → d < k →
    entrepotref02_digits.l0 k ⟨l.toArray⟩ acc i = some (if allD (l.drop i) = true then ((((l.drop i).foldl (fun n c => 10 * n + (c.toNat - 48)) acc : Nat) : Int), true) else (0, false)) := by
  induction d with
  | zero =>
    intro i k acc hi ha hk
    obtain ⟨k, rfl, hk⟩ := succ_of hk
    simp only [entrepotref02_digits.l0]
    rw [if_neg (by rw [ba_sz]; omega), List.drop_eq_nil_of_le (by omega), if_pos (show allD [] = true from rfl)]
    rfl
  | succ d ih =>
    intro i k acc hi ha hk
    obtain ⟨k, rfl, hk⟩ := succ_of hk
    have hlt : i < l.length := by omega
    simp only [entrepotref02_digits.l0]
    rw [if_pos (by rw [ba_sz]; omega), if_pos (by omega), bt_list l i hlt, List.drop_eq_getElem_cons hlt]
    have hal : allD (l[i] :: l.drop (i + 1)) = (dig l[i] && allD (l.drop (i + 1))) := rfl
    by_cases hd : dig l[i] = true
    · obtain ⟨h1, h2⟩ := dig_bt.1 hd
      rw [if_neg h1, if_neg h2, hal, hd, Bool.true_and]
      have hp : 10 ^ (i + 1) ≤ 10 ^ 18 := Nat.pow_le_pow_right (by decide) (by omega)
      rw [Nat.pow_succ, show (10 : Nat) ^ 18 = 1000000000000000000 from rfl] at hp
      generalize hPi : 10 ^ i = P at ha hp
      have HPi := Lib.hid hPi
      clear hPi
      have h9 := dig_val hd
      have hnext : 10 * acc + ((l[i]).toNat - 48) < P * 10 := by clear ih hal hk hi; omega
      have e1 : wrap64 (10 * (acc : Int)) = 10 * (acc : Int) := w64 (by omega) (by omega)
      have e2 : (((l[i]).toNat : Int) - 48) % 256 = (((l[i]).toNat - 48 : Nat) : Int) := by
        clear ih hal hk hi hnext; omega
      have e3 : wrap64 (wrap64 (10 * (acc : Int)) + (((l[i]).toNat : Int) - 48) % 256) = ((10 * acc + ((l[i]).toNat - 48) : Nat) : Int) := by
        rw [e1, e2, w64 (by omega) (by omega)]; omega
      have e4 : wrap64 ((i : Int) + 1) = ((i + 1 : Nat) : Int) := by rw [w64 (by omega) (by omega)]; omega
      rw [e3, e4, ih (i + 1) k _ (by omega) (by rw [Nat.pow_succ, HPi.out]; exact hnext) (by clear e1 e2 e3 e4; omega)]
      rfl
    · have hd' : dig l[i] = false := by simpa using hd
      rw [hal, hd', Bool.false_and, if_neg (show ¬ (false = true) by decide)]
      by_cases h1 : ((l[i]).toNat : Int) < 48
      · rw [if_pos h1]
      · rw [if_neg h1]
        by_cases h2 : ((l[i]).toNat : Int) > 57
        · rw [if_pos h2]
        · exact absurd (dig_bt.2 ⟨h1, h2⟩) hd
theorem rdig_eq (l : List UInt8) (most : Nat) (hm : most ≤ 18) (k : Nat) (hk : 100 ≤ k) : entrepotref02_digits.f k ⟨l.toArray⟩ most = some (digS l most) := by
  obtain ⟨k, rfl, hk⟩ := succ_of (Nat.lt_of_lt_of_le (by decide : 99 < 100) hk)
  unfold entrepotref02_digits.f digS
  rw [ba_sz]
  by_cases h1 : l = []
  · subst h1
    rw [if_pos (by decide), if_pos (.inl rfl)]
    rfl
  · have hpos : 0 < l.length := List.length_pos_iff.2 h1
    rw [if_neg (by omega)]
    by_cases h2 : most < l.length
    · rw [if_pos (.inr (.inl h2)), show decide ((l.length : Int) > (most : Int)) = true from decide_eq_true (by omega)]
      simp only [entrepotref02_digits.j0, if_true]
    · rw [show decide ((l.length : Int) > (most : Int)) = false from decide_eq_false (by omega)]
      simp only [entrepotref02_digits.j0]
      rw [if_neg (by simp)]
      have := rdig_loop l (by omega) l.length 0 k 0 (by omega) (by decide) (by omega)
      simp only [List.drop_zero, Int.natCast_zero] at this
      rw [this]
      by_cases h3 : allD l = true
      · rw [if_pos h3, if_neg (fun e => by
          rcases e with e | e | e
          · exact h1 e
          · exact h2 e
          · exact e h3)]
        rfl
      · rw [if_neg h3, if_pos (.inr (.inr h3))]
theorem drop_ba (l : List UInt8) (k : Nat) : (⟨l.toArray⟩ : ByteArray).extract k l.length = ⟨(l.drop k).toArray⟩ := by
  have := Fx.str_from ⟨l.toArray⟩ k
  rw [ba_sz] at this
  exact this
theorem take_ba (l : List UInt8) (k : Nat) : (⟨l.toArray⟩ : ByteArray).extract 0 k = ⟨(l.take k).toArray⟩ := by
  apply ByteArray.ext
  rw [ByteArray.data_extract]
  apply Array.ext'
  rw [Array.toList_extract, List.extract_eq_take_drop]
  simp
def sg (neg : Bool) : Int := if neg = true then -1 else 1
theorem rint1 (neg : Bool) (l1 : List UInt8) (k : Nat) (hk : 200 ≤ k) :
    entrepotref02_Int.j1 k ⟨l1.toArray⟩ (sg neg) = some (if (digS l1 12).2 = true then (if (digS l1 12).1 > 100000000 then (0, 2) else (sgn neg l1, 0)) else (0, 20)) := by
  obtain ⟨k, rfl, hk⟩ := succ_of (Nat.lt_of_lt_of_le (by decide : 199 < 200) hk)
  simp only [entrepotref02_Int.j1]
  have h12 := rdig_eq l1 12 (by decide) k (by omega)
  rw [show ((12 : Nat) : Int) = 12 from rfl] at h12
  rw [h12]
  simp only [Option.bind_some]
  by_cases h : (digS l1 12).2 = true
  · rw [if_pos h, if_pos h]
    by_cases h2 : (digS l1 12).1 > 100000000
    · rw [if_pos h2, if_pos h2]
    · rw [if_neg h2, if_neg h2]
      have hv : (digS l1 12).1 = (dv l1 : Int) := by
        unfold digS at h ⊢
        split at h
        · simp at h
        · rename_i h3; rw [if_neg h3]
      rw [hv] at h2 ⊢
      rw [sgn_eq]
      have e : wrap64 (sg neg * (dv l1 : Int)) = (if neg = true then -1 else 1) * (dv l1 : Int) := by
        unfold sg
        cases neg
        · simp; rw [w64 (by omega) (by omega)]
        · simp; rw [w64 (by omega) (by omega)]
      rw [e]
  · rw [if_neg h, if_neg h]
theorem sign_case (l : List UInt8) : (l = [] ∨ ∃ c r, l = c :: r ∧ c ≠ 45) ∧ Lib.hasPrefix l [45] = false ∧ Lib.trimPrefix l [45] = l ∨ ∃ r, l = 45 :: r ∧ Lib.hasPrefix l [45] = true ∧ Lib.trimPrefix l [45] = r := by
  cases l with
  | nil => exact .inl ⟨.inl rfl, rfl, rfl⟩
  | cons c r =>
    by_cases h : c = 45
    · subst h; exact .inr ⟨r, rfl, pre_cons r 45, trim_cons r 45⟩
    · have := not_pre (l := c :: r) (c := 0) (k := 45) (by simpa using h)
      exact .inl ⟨.inr ⟨c, r, rfl, h⟩, this, trim_not this⟩
theorem RInt_eq (l : List UInt8) (k : Nat) (hk : 300 ≤ k) : entrepotref02_Int.f k ⟨l.toArray⟩ = some (intS l) := by
  obtain ⟨k, rfl, hk⟩ := succ_of (Nat.lt_of_lt_of_le (by decide : 299 < 300) hk)
  rw [intS_eq]
  unfold entrepotref02_Int.f
  rw [ByteArray.toList_eq]
  rcases sign_case l with ⟨h, h1, h2⟩ | ⟨r, rfl, h1, h2⟩
  · rw [h1, h2, ← rint1 false l k (by omega)]
    rcases h with rfl | ⟨c, r, rfl, h⟩
    · rw [if_pos rfl]; simp only [entrepotref02_Int.j0]; rfl
    · rw [if_neg (by simp), if_pos (by rw [ba_sz]; simp), show ((bt ⟨(c :: r).toArray⟩ 0) == 45) = false from by
        have := bt_list (c :: r) 0 (by simp)
        rw [Int.natCast_zero] at this
        rw [this, beq_eq_false_iff_ne]
        intro e
        refine h ?_
        have e2 : c.toNat = 45 := by have e' : (c.toNat : Int) = 45 := by simpa using e
                                     omega
        exact UInt8.toNat_inj.1 e2]
      simp only [entrepotref02_Int.j0]
      rfl
  · rw [h1, h2, ← rint1 true r k (by omega), if_neg (by simp), if_pos (by rw [ba_sz]; simp), show ((bt ⟨(45 :: r).toArray⟩ 0) == 45) = true from by
      have := bt_list (45 :: r) 0 (by simp)
      rw [Int.natCast_zero] at this
      rw [this]; rfl]
    simp only [entrepotref02_Int.j0, if_true]
    rw [if_pos (by rw [ba_sz]; simp; omega), ba_sz, drop_ba]
    rfl

/-- the tail of the document's 'Read', behind the search for the point -/
theorem rread_end (neg : Bool) (l1 : List UInt8) (hl : l1.length ≤ 1000) (k : Nat) (hk : 200 ≤ k) : entrepotref02_Read.l0 k ⟨l1.toArray⟩ (sg neg) (pt l1) (-1) = some (refS neg l1) := by
  obtain ⟨k, rfl, hk⟩ := succ_of (Nat.lt_of_lt_of_le (by decide : 199 < 200) hk)
  have hple := pt_le l1
  simp only [entrepotref02_Read.l0]
  rw [if_neg (by decide), if_pos (by omega), if_pos (by rw [ba_sz]; omega), Int.toNat_natCast, take_ba]
  have h12 := rdig_eq (l1.take (pt l1)) 12 (by decide) k (by omega)
  rw [show ((12 : Nat) : Int) = 12 from rfl] at h12
  rw [h12]
  simp only [Option.bind_some]
  unfold refS
  have dval : ∀ (x : List UInt8) (n : Nat), (digS x n).2 = true → (digS x n).1 = (dv x : Int) ∧ x.length ≤ n ∧ allD x = true := by
    intro x n h
    unfold digS at h ⊢
    split at h
    · simp at h
    · rename_i h3
      rw [if_neg h3]
      refine ⟨rfl, Nat.le_of_not_lt fun e => h3 (.inr (.inl e)), ?_⟩
      exact Decidable.of_not_not fun e => h3 (.inr (.inr e))
  have fin : ∀ (x : List UInt8) (s : Nat), x.length ≤ 18 → allD x = true → s ≤ 6 → (entrepotref02_Least.f k (sgn neg x) s).bind (fun b => if b.1 > 100000000 then some (0, 0, 2) else if b.1 < -100000000 then some (0, 0, 2) else some (b.1, b.2, 0)) = some (finS neg x s) := by
    intro x s hx hd hs
    have hb := Fx.sgn_bd neg x (allD_iff.1 hd) hx
    rw [RLeast_eq _ s (by omega) hb.1 hb.2 k (by omega)]
    simp only [Option.bind_some]
    unfold finS fitsB
    by_cases g1 : (least (sgn neg x) s).1 > 100000000
    · rw [if_pos g1, if_neg (by simp; omega)]
    · rw [if_neg g1]
      by_cases g2 : (least (sgn neg x) s).1 < -100000000
      · rw [if_pos g2, if_neg (by simp; omega)]
      · rw [if_neg g2, if_pos (by simp; omega)]
  have sgw : ∀ (z : Nat), z < 1000000000000000000 → wrap64 (sg neg * (z : Int)) = (if neg = true then -1 else 1) * (z : Int) := by
    intro z hz
    unfold sg
    cases neg
    · simp; rw [w64 (by omega) (by omega)]
    · simp; rw [w64 (by omega) (by omega)]
  by_cases h : (digS (l1.take (pt l1)) 12).2 = true
  · rw [if_pos h, if_pos h]
    obtain ⟨v1, v2, v3⟩ := dval _ _ h
    rw [v1]
    by_cases hp : pt l1 < l1.length
    · rw [if_pos (by rw [ba_sz]; omega), if_pos hp]
      have e1 : wrap64 (((pt l1 : Nat) : Int) + 1) = ((pt l1 + 1 : Nat) : Int) := by rw [w64 (by omega) (by omega)]; omega
      rw [e1, if_pos (by omega), if_pos (by rw [ba_sz]; omega), Int.toNat_natCast, ba_sz, drop_ba]
      have h6 := rdig_eq (l1.drop (pt l1 + 1)) 6 (by decide) k (by omega)
      rw [show ((6 : Nat) : Int) = 6 from rfl] at h6
      rw [h6]
      simp only [Option.bind_some]
      by_cases g : (digS (l1.drop (pt l1 + 1)) 6).2 = true
      · rw [if_pos g, if_pos g]
        obtain ⟨u1, u2, u3⟩ := dval _ _ g
        have hfl : (l1.drop (pt l1 + 1)).length = l1.length - pt l1 - 1 := by rw [List.length_drop]; omega
        have e2 : wrap64 (wrap64 ((l1.length : Int) - ((pt l1 : Nat) : Int)) - 1) = ((l1.length - pt l1 - 1 : Nat) : Int) := by
          rw [w64 (n := (l1.length : Int) - ((pt l1 : Nat) : Int)) (by omega) (by omega), w64 (by omega) (by omega)]; omega
        rw [u1, e2, rtens_eq _ (by omega) k (by omega)]
        simp only [Option.bind_some]
        rw [← hfl] at *
        generalize l1.drop (pt l1 + 1) = b at *
        generalize l1.take (pt l1) = a at *
        have hab : allD (a ++ b) = true := allD_iff.2 (Fx.all_app (allD_iff.1 v3) (allD_iff.1 u3))
        have hdl := dv_le18 (a ++ b) (allD_iff.1 hab) (by rw [List.length_append]; omega)
        have hdv := dv_app a b
        have hc : (dv a : Int) * 10 ^ b.length = ((dv a * 10 ^ b.length : Nat) : Int) := by push_cast; rfl
        rw [hc, w64 (n := ((dv a * 10 ^ b.length : Nat) : Int)) (by omega) (by omega)]
        rw [w64 (n := ((dv a * 10 ^ b.length : Nat) : Int) + (dv b : Int)) (by omega) (by omega)]
        rw [show ((dv a * 10 ^ b.length : Nat) : Int) + (dv b : Int) = ((dv (a ++ b) : Nat) : Int) from by rw [hdv]; push_cast; rfl]
        rw [sgw _ hdl, ← sgn_eq]
        exact fin (a ++ b) b.length (by rw [List.length_append]; omega) hab u2
      · rw [if_neg g, if_neg g]
    · rw [if_neg (by rw [ba_sz]; omega), if_neg hp]
      have hdl := dv_le18 (l1.take (pt l1)) (allD_iff.1 v3) (by omega)
      rw [sgw _ hdl, ← sgn_eq]
      exact fin _ 0 (by omega) v3 (by decide)
  · rw [if_neg h, if_neg h]
/-- the search for the first point, from the end -/
theorem rread_loop (neg : Bool) (l1 : List UInt8) (hl : l1.length ≤ 1000) (n : Nat) : ∀ (k : Nat), n ≤ l1.length → 200 + n ≤ k →
    entrepotref02_Read.l0 k ⟨l1.toArray⟩ (sg neg) ((n + pt (l1.drop n) : Nat) : Int) ((n : Int) - 1) = some (refS neg l1) := by
  induction n with
  | zero =>
    intro k hn hk
    have := rread_end neg l1 hl k (by omega)
    simpa using this
  | succ n ih =>
    intro k hn hk
    obtain ⟨k, rfl, hk⟩ := succ_of (Nat.lt_of_lt_of_le (by omega : 200 + n < 200 + (n + 1)) hk)
    have hlt : n < l1.length := by omega
    simp only [entrepotref02_Read.l0]
    rw [show ((n + 1 : Nat) : Int) - 1 = (n : Int) from by omega, if_pos (by omega), if_pos (by omega), if_pos (by rw [ba_sz]; omega), bt_list l1 n hlt, w64 (n := (n : Int) - 1) (by omega) (by omega)]
    have hd : l1.drop n = l1[n] :: l1.drop (n + 1) := List.drop_eq_getElem_cons hlt
    by_cases h : l1[n] = 46
    · have hp : n + pt (l1.drop n) = n := by rw [hd]; unfold pt; rw [h]; rfl
      rw [if_pos (by rw [h]; rfl)]
      have := ih k (by omega) (by omega)
      rw [hp] at this
      exact this
    · have hb : (l1[n] == 46) = false := by rw [beq_eq_false_iff_ne]; exact h
      have hp : n + pt (l1.drop n) = n + 1 + pt (l1.drop (n + 1)) := by
        rw [hd]; unfold pt; rw [List.findIdx_cons, hb]; simp; omega
      rw [if_neg (by
        intro e
        refine h ?_
        have e2 : (l1[n]).toNat = 46 := by have e' : ((l1[n]).toNat : Int) = 46 := by simpa using e
                                           omega
        exact UInt8.toNat_inj.1 e2), ← hp]
      exact ih k (by omega) (by omega)
theorem rread1 (neg : Bool) (l1 : List UInt8) (hl : l1.length ≤ 1000) (k : Nat) (hk : 1300 ≤ k) : entrepotref02_Read.j1 k ⟨l1.toArray⟩ (sg neg) = some (refS neg l1) := by
  obtain ⟨k, rfl, hk⟩ := succ_of (Nat.lt_of_lt_of_le (by decide : 1299 < 1300) hk)
  simp only [entrepotref02_Read.j1]
  have := rread_loop neg l1 hl l1.length k (Nat.le_refl _) (by omega)
  rw [List.drop_length] at this
  rw [ba_sz, w64 (by omega) (by omega)]
  exact this
theorem RRead_eq (l : List UInt8) (hl : l.length ≤ 1000) (k : Nat) (hk : 1400 ≤ k) : entrepotref02_Read.f k ⟨l.toArray⟩ = some (readS l) := by
  obtain ⟨k, rfl, hk⟩ := succ_of (Nat.lt_of_lt_of_le (by decide : 1399 < 1400) hk)
  rw [readS_eq]
  unfold entrepotref02_Read.f
  rw [ByteArray.toList_eq]
  rcases sign_case l with ⟨h, h1, h2⟩ | ⟨r, rfl, h1, h2⟩
  · rw [h1, h2, ← rread1 false l hl k (by omega)]
    rcases h with rfl | ⟨c, r, rfl, h⟩
    · rw [if_pos rfl]; simp only [entrepotref02_Read.j0]; rfl
    · rw [if_neg (by simp), if_pos (by rw [ba_sz]; simp), show ((bt ⟨(c :: r).toArray⟩ 0) == 45) = false from by
        have := bt_list (c :: r) 0 (by simp)
        rw [Int.natCast_zero] at this
        rw [this, beq_eq_false_iff_ne]
        intro e
        refine h ?_
        have e2 : c.toNat = 45 := by have e' : (c.toNat : Int) = 45 := by simpa using e
                                     omega
        exact UInt8.toNat_inj.1 e2]
      simp only [entrepotref02_Read.j0]
      rfl
  · rw [h1, h2, ← rread1 true r (by simp at hl; omega) k (by omega), if_neg (by simp), if_pos (by rw [ba_sz]; simp), show ((bt ⟨(45 :: r).toArray⟩ 0) == 45) = true from by
      have := bt_list (45 :: r) 0 (by simp)
      rw [Int.natCast_zero] at this
      rw [this]; rfl]
    simp only [entrepotref02_Read.j0, if_true]
    rw [if_pos (by rw [ba_sz]; simp; omega), ba_sz, drop_ba]
    rfl
end Go.Proofs.YtldllfadidepaaaDoor.P
namespace Go.Proofs.YtldllfadidepaaaDoor.Pure
open Go.RowKit Go.Proofs.YtldllfadidepaaaDoor.P Go.Proofs.YtldllfadidepaaaDoor.Sp
theorem FixedReads : entrepotlaw02_FixedReads.Pure := by
  intro a hsz
  refine ⟨2000, ?_⟩
  have hs := shown_eq 2000 (by decide)
  have hs' := shown_eq 1999 (by decide)
  have hno : entrepotlaw02_FixedReads.j0 2000 a true = some true := by
    simp only [entrepotlaw02_FixedReads.j0, if_true, hs', Option.bind_some]
  unfold entrepotlaw02_FixedReads.f
  by_cases hb : (a.size : Int) > 100
  · rw [if_pos hb]; exact hno
  · rw [if_neg hb, hs]
    show entrepotlaw02_FixedReads.j0 2000 a false = some true
    simp only [entrepotlaw02_FixedReads.j0]
    obtain ⟨l, rfl⟩ : ∃ l : List UInt8, a = ⟨l.toArray⟩ := ⟨a.data.toList, rfl⟩
    rw [ba_sz] at hb
    rw [if_neg (by simp), RInt_eq l 1999 (by decide), RRead_eq l (by omega) 1999 (by decide)]
    unfold fixed_Int.f fixed_Read.f
    rw [if_pos (by rw [ba_sz]; omega), if_pos (by rw [ba_sz]; omega)]
    simp
end Go.Proofs.YtldllfadidepaaaDoor.Pure
namespace Go.Proofs.YtldllfadidepaaaDoor.lawFixedReads
open Go Go.ChangeShapes Go.WideShapes Go.ChangeAt Go.RowKit
open Go.ChangeMaps (open_string shut_string)
set_option linter.unusedVariables false
set_option linter.unusedSimpArgs false
theorem own : ownKnob Tryd.prog.godebug = none := by kernel_rfl
theorem laidOut : laidOutB Tryd.prog = true := by kernel_rfl
theorem door_met (os : Os) (args : Array Value) : laidMetH Tryd.prog [("math/bits.deBruijn32tab", Rows.laid_math_bits_deBruijn32tab), ("math/bits.deBruijn64tab", Rows.laid_math_bits_deBruijn64tab), ("internal/strconv.uint64pow10", Rows.laid_internal_strconv_uint64pow10), ("strconv.ErrRange", Rows.laid_strconv_ErrRange), ("strconv.ErrSyntax", Rows.laid_strconv_ErrSyntax)] ((World.doorLaid Tryd.prog 400 os).forCall (fun _ _ => 0) ⟨#[], args, []⟩).memory :=
  laidMetH_of_parts3 (fuel := 8) (laidMet_of_run' 8 (by kernel_rfl) (by kernel_rfl)) (by kernel_rfl) (by kernel_rfl)
theorem tabs {W : World} (h : laidMetH Tryd.prog [("math/bits.deBruijn32tab", Rows.laid_math_bits_deBruijn32tab), ("math/bits.deBruijn64tab", Rows.laid_math_bits_deBruijn64tab), ("internal/strconv.uint64pow10", Rows.laid_internal_strconv_uint64pow10), ("strconv.ErrRange", Rows.laid_strconv_ErrRange), ("strconv.ErrSyntax", Rows.laid_strconv_ErrSyntax)] W) : Tabs W := by
  rw [MakeChecks.laidMetH_plain _ _ _ (by kernel_rfl)] at h
  have h := h.tail
  have h := h.tail
  exact Lib.tabBelow_of_tabIs (Lib.tabIs_of_head (k := .u64) (zs := Lib.pow10Tab) (g := 2) (t := 110) (e := 85) (n := 20) (by kernel_rfl) (by kernel_rfl) Tryd.underlying110 Tryd.underlying85 (by kernel_rfl) (by kernel_rfl) h)
set_option maxRecDepth 100000 in
theorem lifted (os : Os) (started : os.Started) (H : Type) (enc : TypeId × Value → H) :
    ReturnsInHanded {} Tryd.checked os 3 .any (fun w args => (Rows.fixedReadsSpec.pre enc Tryd.prog Tryd.f3 [] false w args ∧ laidMetH Tryd.prog [("math/bits.deBruijn32tab", Rows.laid_math_bits_deBruijn32tab), ("math/bits.deBruijn64tab", Rows.laid_math_bits_deBruijn64tab), ("internal/strconv.uint64pow10", Rows.laid_internal_strconv_uint64pow10), ("strconv.ErrRange", Rows.laid_strconv_ErrRange), ("strconv.ErrSyntax", Rows.laid_strconv_ErrSyntax)] w) ∧ sizedMet enc Tryd.prog Tryd.f3 (OpenSpec.ofChange Rows.fixedReadsSpec) false w args)
      (Rows.fixedReadsSpec.post enc Tryd.prog Tryd.f3 false true false false) := by
  refine returnsInHanded_of_change_and (C := Tryd.checked) (X := fun w _ => laidMetH Tryd.prog [("math/bits.deBruijn32tab", Rows.laid_math_bits_deBruijn32tab), ("math/bits.deBruijn64tab", Rows.laid_math_bits_deBruijn64tab), ("internal/strconv.uint64pow10", Rows.laid_internal_strconv_uint64pow10), ("strconv.ErrRange", Rows.laid_strconv_ErrRange), ("strconv.ErrSyntax", Rows.laid_strconv_ErrSyntax)] w) (fun _ _ _ hh h => h.of_heap hh) own started (by kernel_rfl) Tryd.func3
    (ChangeSpec.witness_shaped (enc := enc) (C := Tryd.checked) (os := os) (X := fun w _ => laidMetH Tryd.prog [("math/bits.deBruijn32tab", Rows.laid_math_bits_deBruijn32tab), ("math/bits.deBruijn64tab", Rows.laid_math_bits_deBruijn64tab), ("internal/strconv.uint64pow10", Rows.laid_internal_strconv_uint64pow10), ("strconv.ErrRange", Rows.laid_strconv_ErrRange), ("strconv.ErrSyntax", Rows.laid_strconv_ErrSyntax)] w) false (World.doorLaid Tryd.prog 400 os) #[.string ByteArray.empty] 8 rfl (World.shaped_of_RefB (by kernel_rfl) (by kernel_rfl)) (by kernel_rfl) (by kernel_rfl) (by kernel_rfl) (door_met os _)) ?_
  intro W base args ds gs before hval0 hW _ hsz0 hL _
  have hsz : (DataW.weightsEach Tryd.prog (Tryd.f3.params.toList ++ Rows.fixedReadsSpec.plain.varTypes Tryd.prog) (ds ++ gs)).all (· ≤ reachBytes) = true := hsz0
  have hval : ∀ (j : Nat) t v, Tryd.f3.params[j]? = some t → args[j]? = some v → Value.okWide Tryd.prog W .any base t v := hval0
  have hW' := hW
  obtain ⟨p, q, hA0, hV, rfl, hfz, hnd⟩ := hW
  have hA : DataW.TrodAll enc Tryd.prog W 0 (fun _ => true) true Tryd.f3.params.toList args.toList ds p := hA0
  rw [Tryd.params3] at hA hval hsz
  obtain ⟨v0, vs0, d0, ds0, p0, q0, hargs, rfl, rfl, h0, r0⟩ := trodAll_cons hA
  obtain ⟨rfl, rfl, rfl⟩ := trodAll_nil r0
  obtain rfl : args = #[v0] := by cases args; simp_all
  obtain ⟨rfl, rfl⟩ := trodVars_none hV
  have k0 := h0
  have lt0 : ∀ x ∈ p0, x.block < W.heap.size := by obtain ⟨m, hm⟩ := k0; exact DataW.trod_lt m _ _ _ hm
  obtain ⟨a0, rfl, rfl, rfl, y0⟩ := open_string Tryd.underlying9 (hval 0 9 v0 rfl rfl) h0
  have wa0 : a0.size ≤ 140737488351232 := by
    have z := sized_string hsz (j := 0) (t := 9) rfl rfl
    rw [Array.length_toList] at z
    exact z
  clear hA0 hval0 hsz0 hsz
  obtain ⟨k, hk⟩ := Pure.FixedReads a0 wa0
  refine (P.entrepotlaw02_FixedReads.calls k a0 true W (tabs hL) hk).mono fun e W' hp => ?_
  obtain ⟨he, hb⟩ := hp
  subst he
  have bel : Below W.heap.size W W' := hb
  exact ⟨_, rfl, _, _, _, [], _, [], hW', trodAll_mk1 (shut_bool Tryd.underlying4 _), trodAll_cons_mk (Below.trod laidOut (by kernel_rfl) (of_decide_eq_true (by kernel_rfl)) k0 bel lt0) trodAll_mk0, rfl, bel.frame _, fun h => by cases h⟩
theorem over : Rows.fixedReadsRow.holds Tryd.pinned (OpenSpec.ofChange Rows.fixedReadsSpec) :=
  OpenClaim.holds_of_wide 3 Tryd.f3 rfl rfl rfl rfl rfl rfl rfl ⟨rfl, rfl, rfl, rfl, rfl⟩ rfl rfl rfl rfl rfl (by kernel_rfl) Tryd.func3 (by kernel_rfl)
    (of_decide_eq_true (by kernel_rfl)) (by unfold Func.isWrapper; first | (rw [if_pos (by decide +kernel)]; kernel_rfl) | (rw [if_neg (by decide +kernel)]; exact ⟨rfl, rfl⟩))
    (fun os started H enc _ => lifted os started H enc)
theorem card_holds : Rows.FixedReadsCardSaid :=
  Claim7.holds_tied_plain_at .later [] [.data, .data, .data, .sentinel, .sentinel] true (true, "28f43b617a5675dde0b849d940f8ff89a871987def84bbb0a76c1180cb10c2cf") true
    over (fun _ h => by cases h) (by kernel_rfl) (fun _ h => by cases h) fixedReads_row_tie rfl ⟨rfl, rfl⟩ (by kernel_rfl) rfl
    (fun f fn hf hfn => by
      obtain rfl : f = 3 := Option.some.inj ((show Tryd.prog.funcNamed "entrepot/entrepotlaw02.FixedReads" = some 3 by kernel_rfl).symm.trans hf) |>.symm
      obtain rfl : fn = Tryd.f3 := (Option.some.inj (Tryd.func3.symm.trans hfn)).symm
      exact ⟨by kernel_rfl, fun j t ht => by
        rw [Tryd.params3] at ht
        have hm : t ∈ [9] := by simpa using Array.mem_of_getElem? ht
        have hall : ([9].all fun u => !Tryd.prog.wantsStandIn u) = true := by kernel_rfl
        exact (show Tryd.prog.wantsStandIn t = false by simpa using List.all_eq_true.1 hall t hm)⟩)
    (by kernel_rfl)
#print axioms card_holds
end Go.Proofs.YtldllfadidepaaaDoor.lawFixedReads
namespace Go.Proofs.YtldllfadidepaaaDoor
/-- The card, under a short name, for the claim. -/
theorem lawFixedReads_holds : Rows.FixedReadsCardSaid := lawFixedReads.card_holds
end Go.Proofs.YtldllfadidepaaaDoor
