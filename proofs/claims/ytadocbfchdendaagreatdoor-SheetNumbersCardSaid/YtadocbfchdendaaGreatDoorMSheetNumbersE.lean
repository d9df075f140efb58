/- SheetNumbers holds for every input: the law returns true, and its arguments read as they read. Its condition: the library's tables and errors that the row lists lie as the program's text lays them (the card ties this). -/
import Derived.Test.YtadocbfchdendaaGreatDoorMSheetNumbersD
import Derived.Test.YtadocbfchdendaaGreatDoorMSheetNumbersC
import Derived.Lib.Hide
import Derived.Test.YtadocbfchdendaaGreatDoorMSheetNumbersA
import Derived.Test.YtadocbfchdendaaGreatDoorMSheetNumbersB
import Derived.Test.YtadocbfchdendaaGreatDoorRows
import Derived.Test.YtadocbfchdendaaGreatDoorCards
import Derived.Test.YtadocbfchdendaaGreatDoorTie
import Derived.WalkKit
import Derived.ProofKit
import Derived.OpenShut
import Derived.ShutString
import Derived.ChangeOld
import Derived.Below
import Derived.SizedLaws
import Derived.LaidMore
import Derived.Lay
import Derived.SevenTiedAt
import Derived.Lib.SmallJoins
import Derived.Stop.LaidErr
import Derived.Lib.LaidTab
import Derived.Carry
import Derived.Stop.Joined
set_option linter.unusedVariables false
set_option linter.unusedSimpArgs false
namespace Go.Proofs.YtadocbfchdendaaGreatDoor.P
open Go.RowKit Go.Proofs.YtadocbfchdendaaGreatDoor.Sp Go.Proofs.YtadocbfchdendaaGreatDoorW.PrintWords Go.Proofs.YtadocbfchdendaaGreatDoorW.PrintLast Go.Proofs.YtadocbfchdendaaGreatDoorW.PrintMore
set_option linter.unusedSimpArgs false
theorem rtens_l (n : Nat) (hn : n ≤ 18) (d : Nat) : ∀ (i k : Nat), i + d = n → d < k → entrepotref02_tens.l0 k n (10 ^ i) i = some (10 ^ n) := by
  induction d with
  | zero =>
    intro i k hi hk
    obtain ⟨k, rfl, hk⟩ := succ_of hk
    simp only [entrepotref02_tens.l0]
    rw [if_neg (by omega)]
    rw [show i = n from by omega]
  | succ d ih =>
    intro i k hi hk
    obtain ⟨k, rfl, hk⟩ := succ_of hk
    simp only [entrepotref02_tens.l0]
    rw [if_pos (by omega)]
    have hb : (10 : Int) ^ (i + 1) ≤ 10 ^ 18 := pow_le' (by omega)
    have hp := pow_pos' (i + 1)
    rw [Int.mul_comm 10, ← Int.pow_succ, w64 (by omega) (by omega), w64 (by omega) (by omega)]
    exact ih (i + 1) k (by omega) (by omega)
theorem rtens_eq (n : Nat) (hn : n ≤ 18) (k : Nat) (hk : 100 ≤ k) : entrepotref02_tens.f k n = some (10 ^ n) := by
  have := rtens_l n hn n 0 k (by omega) (by omega)
  simpa [entrepotref02_tens.f] using this
theorem rleastF (s : Nat) (hs : s ≤ 1000000) : ∀ (m : Int), -1000000000000000000 < m → m < 1000000000000000000 → entrepotref02_Least.l0 (s + 1) m s = some (least m s) := by
  induction s with
  | zero => intro m _ _; simp only [entrepotref02_Least.l0, least]; rw [if_neg (by omega)]; rfl
  | succ s ih =>
    intro m h1 h2
    simp only [entrepotref02_Least.l0, least]
    rw [if_pos (by omega)]
    by_cases hm : m.tmod 10 = 0
    · rw [if_pos hm, if_pos hm]
      have e3 := Int.tdiv_eq_ediv_of_dvd (Int.dvd_of_tmod_eq_zero hm)
      have e1 : wrap64 (m.tdiv 10) = m.tdiv 10 := by unfold wrap64; omega
      have e2 : wrap64 (((s + 1 : Nat) : Int) - 1) = (s : Int) := by unfold wrap64; omega
      rw [e1, e2]
      exact ih (by omega) _ (by omega) (by omega)
    · rw [if_neg hm, if_neg hm]
theorem RLeast_eq (m : Int) (s : Nat) (hs : s ≤ 50) (h1 : -1000000000000000000 < m) (h2 : m < 1000000000000000000) : ∀ (k : Nat), s < k → entrepotref02_Least.f k m s = some (least m s) := by
  have mono := fun k => entrepotref02_Least.mono m s k
  intro k hk
  induction k with
  | zero => omega
  | succ k ih =>
    by_cases h : s = k
    · subst h; exact rleastF s (by omega) m h1 h2
    · exact mono k _ (ih (by omega))
end Go.Proofs.YtadocbfchdendaaGreatDoor.P
namespace Go.Proofs.YtadocbfchdendaaGreatDoor.Sp
set_option linter.unusedSimpArgs false
set_option linter.unusedVariables false
theorem dv_fold (l : List UInt8) : ∀ acc, l.foldl (fun n c => 10 * n + (c.toNat - 48)) acc = acc * 10 ^ l.length + dv l := by
  induction l with
  | nil => intro acc; simp [dv]
  | cons c r ih =>
    intro acc
    simp only [List.foldl_cons, List.length_cons, dv]
    rw [ih, ih (10 * 0 + (c.toNat - 48)), Nat.pow_succ, Nat.mul_comm (10 ^ r.length) 10, ← Nat.mul_assoc, Nat.add_mul, Nat.mul_comm 10 acc]
    simp
    omega
theorem dv_app (a b : List UInt8) : dv (a ++ b) = dv a * 10 ^ b.length + dv b := by
  unfold dv
  rw [List.foldl_append, dv_fold]
  rfl
theorem not_pre {l : List UInt8} {c : UInt8} {k : UInt8} (h : l.head? ≠ some k) : Lib.hasPrefix l [k] = false := by
  unfold Lib.hasPrefix
  cases l with
  | nil => rfl
  | cons a r =>
    have : a ≠ k := fun e => h (by rw [e]; rfl)
    simp [List.isPrefixOf, Ne.symm this]
theorem pre_cons (r : List UInt8) (k : UInt8) : Lib.hasPrefix (k :: r) [k] = true := by simp [Lib.hasPrefix, List.isPrefixOf]
theorem trim_cons (r : List UInt8) (k : UInt8) : Lib.trimPrefix (k :: r) [k] = r := by unfold Lib.trimPrefix; rw [if_pos (pre_cons r k)]; rfl
theorem trim_not {l : List UInt8} {k : UInt8} (h : Lib.hasPrefix l [k] = false) : Lib.trimPrefix l [k] = l := by unfold Lib.trimPrefix; rw [if_neg (by rw [h]; simp)]
theorem tw_stop {a r : List UInt8} (ha : ∀ c ∈ a, dig c = true) (hr : ∀ c, r.head? = some c → dig c = false) : (a ++ r).takeWhile dig = a ∧ (a ++ r).dropWhile dig = r := by
  induction a with
  | nil =>
    cases r with
    | nil => exact ⟨rfl, rfl⟩
    | cons c t => have := hr c rfl; simp [List.takeWhile_cons, List.dropWhile_cons, this]
  | cons c t ih =>
    obtain ⟨h1, h2⟩ := ih (fun x hx => ha x (by simp [hx]))
    have := ha c (by simp)
    simp [List.takeWhile_cons, List.dropWhile_cons, this, h1, h2]

theorem ba_size (a : List UInt8) : (⟨a.toArray⟩ : ByteArray).size = a.length := by
  show a.toArray.size = _
  exact List.size_toArray
end Go.Proofs.YtadocbfchdendaaGreatDoor.Sp
namespace Go.Proofs.YtadocbfchdendaaGreatDoor.Sp
set_option linter.unusedSimpArgs false
def allD (l : List UInt8) : Bool := l.all dig
theorem allD_iff {l : List UInt8} : allD l = true ↔ ∀ c ∈ l, dig c = true := by unfold allD; rw [List.all_eq_true]
theorem tw_all {l : List UInt8} (h : allD l = true) : l.takeWhile dig = l ∧ l.dropWhile dig = [] := by
  have := tw_stop (a := l) (r := []) (allD_iff.1 h) (by intro c hc; simp at hc)
  simpa using this
theorem dw_not {l : List UInt8} (h : ¬ allD l = true) : l.dropWhile dig ≠ [] := by
  intro e
  refine h (allD_iff.2 fun c hc => ?_)
  have := List.takeWhile_append_dropWhile (p := dig) (l := l)
  rw [e, List.append_nil] at this
  rw [← this] at hc
  exact tw_dig l c hc
def digS (l : List UInt8) (most : Nat) : Int × Bool := if l = [] ∨ most < l.length ∨ ¬ allD l = true then (0, false) else (dv l, true)
theorem intS_eq (l : List UInt8) : intS l = if (digS (Lib.trimPrefix l [45]) 12).2 = true then (if (digS (Lib.trimPrefix l [45]) 12).1 > 100000000 then (0, 2) else (sgn (Lib.hasPrefix l [45]) (Lib.trimPrefix l [45]), 0)) else (0, 20) := by
  unfold intS digS
  generalize Lib.trimPrefix l [45] = l1
  by_cases h : allD l1 = true
  · obtain ⟨h1, h2⟩ := tw_all h
    rw [h1, h2]
    by_cases h3 : l1 = [] ∨ 12 < l1.length
    · rw [if_pos h3, if_pos (show l1 = [] ∨ 12 < l1.length ∨ ¬ allD l1 = true from h3.imp id .inl)]
      rfl
    · rw [if_neg h3, if_neg (by simp), if_neg (show ¬ (l1 = [] ∨ 12 < l1.length ∨ ¬ allD l1 = true) from fun e => by
        rcases e with e | e | e
        · exact h3 (.inl e)
        · exact h3 (.inr e)
        · exact e h)]
      simp only [if_true]
      unfold sgn fitsB
      by_cases hv : (dv l1 : Int) > 100000000
      · rw [if_pos hv, if_neg]
        split <;> simp <;> omega
      · rw [if_neg hv, if_pos]
        split <;> simp <;> omega
  · have h2 := dw_not h
    rw [if_pos h2, if_pos (show l1 = [] ∨ 12 < l1.length ∨ ¬ allD l1 = true from .inr (.inr h))]
    simp
def pt (l : List UInt8) : Nat := l.findIdx (· == 46)
theorem pt_le (l : List UInt8) : pt l ≤ l.length := List.findIdx_le_length
theorem pt_take (l : List UInt8) : ∀ c ∈ l.take (pt l), c ≠ 46 := by
  intro c hc e
  subst e
  obtain ⟨i, hi, h⟩ := List.mem_iff_getElem.1 hc
  rw [List.length_take] at hi
  rw [List.getElem_take] at h
  have := List.not_of_lt_findIdx (p := (· == 46)) (xs := l) (i := i) (by unfold pt at hi; omega)
  simp [h] at this
theorem pt_drop (l : List UInt8) (h : pt l < l.length) : l.drop (pt l) = 46 :: l.drop (pt l + 1) := by
  rw [List.drop_eq_getElem_cons h]
  congr 1
  have := List.findIdx_getElem (p := (· == 46)) (xs := l) (w := h)
  exact beq_iff_eq.1 this
theorem sgn_eq (neg : Bool) (l : List UInt8) : sgn neg l = (if neg = true then -1 else 1) * (dv l : Int) := by
  unfold sgn
  cases neg <;> simp
def refS (neg : Bool) (l1 : List UInt8) : Int × Int × Int :=
  if (digS (l1.take (pt l1)) 12).2 = true then
    (if pt l1 < l1.length then
      (if (digS (l1.drop (pt l1 + 1)) 6).2 = true then finS neg (l1.take (pt l1) ++ l1.drop (pt l1 + 1)) (l1.length - pt l1 - 1) else (0, 0, 20))
    else finS neg (l1.take (pt l1)) 0)
  else (0, 0, 20)
theorem readS_eq (l : List UInt8) : readS l = refS (Lib.hasPrefix l [45]) (Lib.trimPrefix l [45]) := by
  unfold readS refS
  generalize Lib.hasPrefix l [45] = neg
  generalize Lib.trimPrefix l [45] = l1
  have hsplit := List.take_append_drop (pt l1) l1
  have hnp := pt_take l1
  by_cases ha : allD (l1.take (pt l1)) = true
  · have had := allD_iff.1 ha
    by_cases hp : pt l1 < l1.length
    · have hd := pt_drop l1 hp
      have hrl : (l1.drop (pt l1 + 1)).length = l1.length - pt l1 - 1 := by rw [List.length_drop]; omega
      obtain ⟨h1, h2⟩ := tw_stop (r := 46 :: l1.drop (pt l1 + 1)) had (by intro c hc; simp at hc; subst hc; decide)
      rw [← hd, hsplit] at h1 h2
      rw [h1, h2, hd, pre_cons, trim_cons, if_pos hp]
      generalize l1.take (pt l1) = a at ha
      generalize hb : l1.drop (pt l1 + 1) = b at hrl
      rw [← hrl]
      unfold digS
      by_cases h3 : a = [] ∨ 12 < a.length
      · rw [if_pos h3, if_pos (show a = [] ∨ 12 < a.length ∨ ¬ allD a = true from h3.imp id .inl)]
        rfl
      · rw [if_neg h3, if_pos rfl, if_neg (show ¬ (a = [] ∨ 12 < a.length ∨ ¬ allD a = true) from fun e => by
          rcases e with e | e | e
          · exact h3 (.inl e)
          · exact h3 (.inr e)
          · exact e ha)]
        simp only [if_true]
        by_cases hbd : allD b = true
        · obtain ⟨k1, k2⟩ := tw_all hbd
          rw [k1, k2]
          by_cases h4 : b = [] ∨ 6 < b.length
          · rw [if_pos h4, if_pos (show b = [] ∨ 6 < b.length ∨ ¬ allD b = true from h4.imp id .inl)]
            rfl
          · rw [if_neg h4, if_neg (by simp), if_neg (show ¬ (b = [] ∨ 6 < b.length ∨ ¬ allD b = true) from fun e => by
              rcases e with e | e | e
              · exact h4 (.inl e)
              · exact h4 (.inr e)
              · exact e hbd)]
            rfl
        · have h5 := dw_not hbd
          rw [if_pos h5, if_pos (show b = [] ∨ 6 < b.length ∨ ¬ allD b = true from .inr (.inr hbd))]
          simp
    · have hpl : pt l1 = l1.length := by have := pt_le l1; omega
      rw [hpl, List.take_length] at ha
      obtain ⟨h1, h2⟩ := tw_all ha
      rw [h1, h2, hpl, List.take_length, if_neg (show ¬ l1.length < l1.length by omega), if_neg (show ¬ Lib.hasPrefix [] [46] = true by decide)]
      unfold digS
      by_cases h3 : l1 = [] ∨ 12 < l1.length
      · rw [if_pos h3, if_pos (show l1 = [] ∨ 12 < l1.length ∨ ¬ allD l1 = true from h3.imp id .inl)]
        rfl
      · rw [if_neg h3, if_neg (by simp), if_neg (show ¬ (l1 = [] ∨ 12 < l1.length ∨ ¬ allD l1 = true) from fun e => by
          rcases e with e | e | e
          · exact h3 (.inl e)
          · exact h3 (.inr e)
          · exact e ha)]
        rfl
  · have hdig : (digS (l1.take (pt l1)) 12).2 = false := by
      unfold digS
      rw [if_pos (.inr (.inr ha))]
    rw [hdig, if_neg (show ¬ (false = true) by decide)]
    -- the digits end within the first part, at a sign that is no point
    have hdw := dw_not ha
    obtain ⟨c, t, hct⟩ := List.exists_cons_of_ne_nil hdw
    have hc : dig c = false := by
      have := List.head?_dropWhile_not dig (l1.take (pt l1))
      rw [hct] at this
      simpa using this
    have hcm : c ∈ l1.take (pt l1) := by
      have := List.takeWhile_append_dropWhile (p := dig) (l := l1.take (pt l1))
      rw [← this, hct]
      simp
    have hl1 : l1 = (l1.take (pt l1)).takeWhile dig ++ (c :: (t ++ l1.drop (pt l1))) := by
      rw [← List.cons_append, ← hct, ← List.append_assoc, List.takeWhile_append_dropWhile, hsplit]
    obtain ⟨h1, h2⟩ := tw_stop (r := c :: (t ++ l1.drop (pt l1))) (tw_dig (l1.take (pt l1))) (by intro x hx; simp at hx; subst hx; exact hc)
    rw [← hl1] at h1 h2
    rw [h2]
    have hpf : Lib.hasPrefix (c :: (t ++ l1.drop (pt l1))) [46] = false := not_pre (c := 0) (by simp; exact hnp c hcm)
    rw [hpf]
    split
    · rfl
    · simp
end Go.Proofs.YtadocbfchdendaaGreatDoor.Sp
namespace Go.Proofs.YtadocbfchdendaaGreatDoor.P
open Go.RowKit Go.Proofs.YtadocbfchdendaaGreatDoor.Sp Go.Proofs.YtadocbfchdendaaGreatDoorW.PrintWords Go.Proofs.YtadocbfchdendaaGreatDoorW.PrintLast Go.Proofs.YtadocbfchdendaaGreatDoorW.PrintMore
set_option linter.unusedSimpArgs false
theorem ba_sz (a : List UInt8) : (⟨a.toArray⟩ : ByteArray).size = a.length := ba_size a
theorem bt_list (l : List UInt8) (i : Nat) (h : i < l.length) : bt ⟨l.toArray⟩ (i : Int) = ((l[i]).toNat : Int) := by
  unfold bt
  rw [dif_pos (by rw [Int.toNat_natCast, ba_sz]; exact h)]
  rfl
theorem dig_bt {c : UInt8} : dig c = true ↔ ¬ ((c.toNat : Int) < 48) ∧ ¬ ((c.toNat : Int) > 57) := by
  unfold dig; simp; omega
theorem rdig_loop (l : List UInt8) (hl : l.length ≤ 18) (d : Nat) : ∀ (i k : Nat) (acc : Nat), i + d = l.length → acc < 10 ^ i → d < k →
    entrepotref02_digits.l0 k ⟨l.toArray⟩ acc i = some (if allD (l.drop i) = true then ((((l.drop i).foldl (fun n c => 10 * n + (c.toNat - 48)) acc : Nat) : Int), true) else (0, false)) := by
  induction d with
  | zero =>
    intro i k acc hi ha hk
    obtain ⟨k, rfl, hk⟩ := succ_of hk
    simp only [entrepotref02_digits.l0]
    rw [if_neg (by rw [ba_sz]; omega), List.drop_eq_nil_of_le (by omega), if_pos (show allD [] = true from rfl)]
    rfl
  | succ d ih =>
    intro i k acc hi ha hk
    obtain ⟨k, rfl, hk⟩ := succ_of hk
    have hlt : i < l.length := by omega
    simp only [entrepotref02_digits.l0]
    rw [if_pos (by rw [ba_sz]; omega), if_pos (by omega), bt_list l i hlt, List.drop_eq_getElem_cons hlt]
    have hal : allD (l[i] :: l.drop (i + 1)) = (dig l[i] && allD (l.drop (i + 1))) := rfl
    by_cases hd : dig l[i] = true
    · obtain ⟨h1, h2⟩ := dig_bt.1 hd
      rw [if_neg h1, if_neg h2, hal, hd, Bool.true_and]
      have hp : 10 ^ (i + 1) ≤ 10 ^ 18 := Nat.pow_le_pow_right (by decide) (by omega)
      rw [Nat.pow_succ, show (10 : Nat) ^ 18 = 1000000000000000000 from rfl] at hp
      generalize hPi : 10 ^ i = P at ha hp
      have HPi := Lib.hid hPi
      clear hPi
      have h9 := dig_val hd
      have hnext : 10 * acc + ((l[i]).toNat - 48) < P * 10 := by clear ih hal hk hi; omega
      have e1 : wrap64 (10 * (acc : Int)) = 10 * (acc : Int) := w64 (by omega) (by omega)
      have e2 : (((l[i]).toNat : Int) - 48) % 256 = (((l[i]).toNat - 48 : Nat) : Int) := by
        clear ih hal hk hi hnext; omega
      have e3 : wrap64 (wrap64 (10 * (acc : Int)) + (((l[i]).toNat : Int) - 48) % 256) = ((10 * acc + ((l[i]).toNat - 48) : Nat) : Int) := by
        rw [e1, e2, w64 (by omega) (by omega)]; omega
      have e4 : wrap64 ((i : Int) + 1) = ((i + 1 : Nat) : Int) := by rw [w64 (by omega) (by omega)]; omega
      rw [e3, e4, ih (i + 1) k _ (by omega) (by rw [Nat.pow_succ, HPi.out]; exact hnext) (by clear e1 e2 e3 e4; omega)]
      rfl
    · have hd' : dig l[i] = false := by simpa using hd
      rw [hal, hd', Bool.false_and, if_neg (show ¬ (false = true) by decide)]
      by_cases h1 : ((l[i]).toNat : Int) < 48
      · rw [if_pos h1]
      · rw [if_neg h1]
        by_cases h2 : ((l[i]).toNat : Int) > 57
        · rw [if_pos h2]
        · exact absurd (dig_bt.2 ⟨h1, h2⟩) hd
theorem rdig_eq (l : List UInt8) (most : Nat) (hm : most ≤ 18) (k : Nat) (hk : 100 ≤ k) : entrepotref02_digits.f k ⟨l.toArray⟩ most = some (digS l most) := by
  obtain ⟨k, rfl, hk⟩ := succ_of (Nat.lt_of_lt_of_le (by decide : 99 < 100) hk)
  unfold entrepotref02_digits.f digS
  rw [ba_sz]
  by_cases h1 : l = []
  · subst h1
    rw [if_pos (by decide), if_pos (.inl rfl)]
    rfl
  · have hpos : 0 < l.length := List.length_pos_iff.2 h1
    rw [if_neg (by omega)]
    by_cases h2 : most < l.length
    · rw [if_pos (.inr (.inl h2)), show decide ((l.length : Int) > (most : Int)) = true from decide_eq_true (by omega)]
      simp only [entrepotref02_digits.j0, if_true]
    · rw [show decide ((l.length : Int) > (most : Int)) = false from decide_eq_false (by omega)]
      simp only [entrepotref02_digits.j0]
      rw [if_neg (by simp)]
      have := rdig_loop l (by omega) l.length 0 k 0 (by omega) (by decide) (by omega)
      simp only [List.drop_zero, Int.natCast_zero] at this
      rw [this]
      by_cases h3 : allD l = true
      · rw [if_pos h3, if_neg (fun e => by
          rcases e with e | e | e
          · exact h1 e
          · exact h2 e
          · exact e h3)]
        rfl
      · rw [if_neg h3, if_pos (.inr (.inr h3))]
theorem drop_ba (l : List UInt8) (k : Nat) : (⟨l.toArray⟩ : ByteArray).extract k l.length = ⟨(l.drop k).toArray⟩ := by
  have := Fx.str_from ⟨l.toArray⟩ k
  rw [ba_sz] at this
  exact this
theorem take_ba (l : List UInt8) (k : Nat) : (⟨l.toArray⟩ : ByteArray).extract 0 k = ⟨(l.take k).toArray⟩ := by
  apply ByteArray.ext
  rw [ByteArray.data_extract]
  apply Array.ext'
  rw [Array.toList_extract, List.extract_eq_take_drop]
  simp
def sg (neg : Bool) : Int := if neg = true then -1 else 1
theorem rint1 (neg : Bool) (l1 : List UInt8) (k : Nat) (hk : 200 ≤ k) :
    entrepotref02_Int.j1 k ⟨l1.toArray⟩ (sg neg) = some (if (digS l1 12).2 = true then (if (digS l1 12).1 > 100000000 then (0, 2) else (sgn neg l1, 0)) else (0, 20)) := by
  obtain ⟨k, rfl, hk⟩ := succ_of (Nat.lt_of_lt_of_le (by decide : 199 < 200) hk)
  simp only [entrepotref02_Int.j1]
  have h12 := rdig_eq l1 12 (by decide) k (by omega)
  rw [show ((12 : Nat) : Int) = 12 from rfl] at h12
  rw [h12]
  simp only [Option.bind_some]
  by_cases h : (digS l1 12).2 = true
  · rw [if_pos h, if_pos h]
    by_cases h2 : (digS l1 12).1 > 100000000
    · rw [if_pos h2, if_pos h2]
    · rw [if_neg h2, if_neg h2]
      have hv : (digS l1 12).1 = (dv l1 : Int) := by
        unfold digS at h ⊢
        split at h
        · simp at h
        · rename_i h3; rw [if_neg h3]
      rw [hv] at h2 ⊢
      rw [sgn_eq]
      have e : wrap64 (sg neg * (dv l1 : Int)) = (if neg = true then -1 else 1) * (dv l1 : Int) := by
        unfold sg
        cases neg
        · simp; rw [w64 (by omega) (by omega)]
        · simp; rw [w64 (by omega) (by omega)]
      rw [e]
  · rw [if_neg h, if_neg h]
theorem sign_case (l : List UInt8) : (l = [] ∨ ∃ c r, l = c :: r ∧ c ≠ 45) ∧ Lib.hasPrefix l [45] = false ∧ Lib.trimPrefix l [45] = l ∨ ∃ r, l = 45 :: r ∧ Lib.hasPrefix l [45] = true ∧ Lib.trimPrefix l [45] = r := by
  cases l with
  | nil => exact .inl ⟨.inl rfl, rfl, rfl⟩
  | cons c r =>
    by_cases h : c = 45
    · subst h; exact .inr ⟨r, rfl, pre_cons r 45, trim_cons r 45⟩
    · have := not_pre (l := c :: r) (c := 0) (k := 45) (by simpa using h)
      exact .inl ⟨.inr ⟨c, r, rfl, h⟩, this, trim_not this⟩
theorem RInt_eq (l : List UInt8) (k : Nat) (hk : 300 ≤ k) : entrepotref02_Int.f k ⟨l.toArray⟩ = some (intS l) := by
  obtain ⟨k, rfl, hk⟩ := succ_of (Nat.lt_of_lt_of_le (by decide : 299 < 300) hk)
  rw [intS_eq]
  unfold entrepotref02_Int.f
  rw [ByteArray.toList_eq]
  rcases sign_case l with ⟨h, h1, h2⟩ | ⟨r, rfl, h1, h2⟩
  · rw [h1, h2, ← rint1 false l k (by omega)]
    rcases h with rfl | ⟨c, r, rfl, h⟩
    · rw [if_pos rfl]; simp only [entrepotref02_Int.j0]; rfl
    · rw [if_neg (by simp), if_pos (by rw [ba_sz]; simp), show ((bt ⟨(c :: r).toArray⟩ 0) == 45) = false from by
        have := bt_list (c :: r) 0 (by simp)
        rw [Int.natCast_zero] at this
        rw [this, beq_eq_false_iff_ne]
        intro e
        refine h ?_
        have e2 : c.toNat = 45 := by have e' : (c.toNat : Int) = 45 := by simpa using e
                                     omega
        exact UInt8.toNat_inj.1 e2]
      simp only [entrepotref02_Int.j0]
      rfl
  · rw [h1, h2, ← rint1 true r k (by omega), if_neg (by simp), if_pos (by rw [ba_sz]; simp), show ((bt ⟨(45 :: r).toArray⟩ 0) == 45) = true from by
      have := bt_list (45 :: r) 0 (by simp)
      rw [Int.natCast_zero] at this
      rw [this]; rfl]
    simp only [entrepotref02_Int.j0, if_true]
    rw [if_pos (by rw [ba_sz]; simp; omega), ba_sz, drop_ba]
    rfl

theorem rread_end (neg : Bool) (l1 : List UInt8) (hl : l1.length ≤ 1000) (k : Nat) (hk : 200 ≤ k) : entrepotref02_Read.l0 k ⟨l1.toArray⟩ (sg neg) (pt l1) (-1) = some (refS neg l1) := by
  obtain ⟨k, rfl, hk⟩ := succ_of (Nat.lt_of_lt_of_le (by decide : 199 < 200) hk)
  have hple := pt_le l1
  simp only [entrepotref02_Read.l0]
  rw [if_neg (by decide), if_pos (by omega), if_pos (by rw [ba_sz]; omega), Int.toNat_natCast, take_ba]
  have h12 := rdig_eq (l1.take (pt l1)) 12 (by decide) k (by omega)
  rw [show ((12 : Nat) : Int) = 12 from rfl] at h12
  rw [h12]
  simp only [Option.bind_some]
  unfold refS
  have dval : ∀ (x : List UInt8) (n : Nat), (digS x n).2 = true → (digS x n).1 = (dv x : Int) ∧ x.length ≤ n ∧ allD x = true := by
    intro x n h
    unfold digS at h ⊢
    split at h
    · simp at h
    · rename_i h3
      rw [if_neg h3]
      refine ⟨rfl, Nat.le_of_not_lt fun e => h3 (.inr (.inl e)), ?_⟩
      exact Decidable.of_not_not fun e => h3 (.inr (.inr e))
  have fin : ∀ (x : List UInt8) (s : Nat), x.length ≤ 18 → allD x = true → s ≤ 6 → (entrepotref02_Least.f k (sgn neg x) s).bind (fun b => if b.1 > 100000000 then some (0, 0, 2) else if b.1 < -100000000 then some (0, 0, 2) else some (b.1, b.2, 0)) = some (finS neg x s) := by
    intro x s hx hd hs
    have hb := Fx.sgn_bd neg x (allD_iff.1 hd) hx
    rw [RLeast_eq _ s (by omega) hb.1 hb.2 k (by omega)]
    simp only [Option.bind_some]
    unfold finS fitsB
    by_cases g1 : (least (sgn neg x) s).1 > 100000000
    · rw [if_pos g1, if_neg (by simp; omega)]
    · rw [if_neg g1]
      by_cases g2 : (least (sgn neg x) s).1 < -100000000
      · rw [if_pos g2, if_neg (by simp; omega)]
      · rw [if_neg g2, if_pos (by simp; omega)]
  have sgw : ∀ (z : Nat), z < 1000000000000000000 → wrap64 (sg neg * (z : Int)) = (if neg = true then -1 else 1) * (z : Int) := by
    intro z hz
    unfold sg
    cases neg
    · simp; rw [w64 (by omega) (by omega)]
    · simp; rw [w64 (by omega) (by omega)]
  by_cases h : (digS (l1.take (pt l1)) 12).2 = true
  · rw [if_pos h, if_pos h]
    obtain ⟨v1, v2, v3⟩ := dval _ _ h
    rw [v1]
    by_cases hp : pt l1 < l1.length
    · rw [if_pos (by rw [ba_sz]; omega), if_pos hp]
      have e1 : wrap64 (((pt l1 : Nat) : Int) + 1) = ((pt l1 + 1 : Nat) : Int) := by rw [w64 (by omega) (by omega)]; omega
      rw [e1, if_pos (by omega), if_pos (by rw [ba_sz]; omega), Int.toNat_natCast, ba_sz, drop_ba]
      have h6 := rdig_eq (l1.drop (pt l1 + 1)) 6 (by decide) k (by omega)
      rw [show ((6 : Nat) : Int) = 6 from rfl] at h6
      rw [h6]
      simp only [Option.bind_some]
      by_cases g : (digS (l1.drop (pt l1 + 1)) 6).2 = true
      · rw [if_pos g, if_pos g]
        obtain ⟨u1, u2, u3⟩ := dval _ _ g
        have hfl : (l1.drop (pt l1 + 1)).length = l1.length - pt l1 - 1 := by rw [List.length_drop]; omega
        have e2 : wrap64 (wrap64 ((l1.length : Int) - ((pt l1 : Nat) : Int)) - 1) = ((l1.length - pt l1 - 1 : Nat) : Int) := by
          rw [w64 (n := (l1.length : Int) - ((pt l1 : Nat) : Int)) (by omega) (by omega), w64 (by omega) (by omega)]; omega
        rw [u1, e2, rtens_eq _ (by omega) k (by omega)]
        simp only [Option.bind_some]
        rw [← hfl] at *
        generalize l1.drop (pt l1 + 1) = b at *
        generalize l1.take (pt l1) = a at *
        have hab : allD (a ++ b) = true := allD_iff.2 (Fx.all_app (allD_iff.1 v3) (allD_iff.1 u3))
        have hdl := dv_le18 (a ++ b) (allD_iff.1 hab) (by rw [List.length_append]; omega)
        have hdv := dv_app a b
        have hc : (dv a : Int) * 10 ^ b.length = ((dv a * 10 ^ b.length : Nat) : Int) := by push_cast; rfl
        rw [hc, w64 (n := ((dv a * 10 ^ b.length : Nat) : Int)) (by omega) (by omega)]
        rw [w64 (n := ((dv a * 10 ^ b.length : Nat) : Int) + (dv b : Int)) (by omega) (by omega)]
        rw [show ((dv a * 10 ^ b.length : Nat) : Int) + (dv b : Int) = ((dv (a ++ b) : Nat) : Int) from by rw [hdv]; push_cast; rfl]
        rw [sgw _ hdl, ← sgn_eq]
        exact fin (a ++ b) b.length (by rw [List.length_append]; omega) hab u2
      · rw [if_neg g, if_neg g]
    · rw [if_neg (by rw [ba_sz]; omega), if_neg hp]
      have hdl := dv_le18 (l1.take (pt l1)) (allD_iff.1 v3) (by omega)
      rw [sgw _ hdl, ← sgn_eq]
      exact fin _ 0 (by omega) v3 (by decide)
  · rw [if_neg h, if_neg h]
theorem rread_loop (neg : Bool) (l1 : List UInt8) (hl : l1.length ≤ 1000) (n : Nat) : ∀ (k : Nat), n ≤ l1.length → 200 + n ≤ k →
    entrepotref02_Read.l0 k ⟨l1.toArray⟩ (sg neg) ((n + pt (l1.drop n) : Nat) : Int) ((n : Int) - 1) = some (refS neg l1) := by
  induction n with
  | zero =>
    intro k hn hk
    have := rread_end neg l1 hl k (by omega)
    simpa using this
  | succ n ih =>
    intro k hn hk
    obtain ⟨k, rfl, hk⟩ := succ_of (Nat.lt_of_lt_of_le (by omega : 200 + n < 200 + (n + 1)) hk)
    have hlt : n < l1.length := by omega
    simp only [entrepotref02_Read.l0]
    rw [show ((n + 1 : Nat) : Int) - 1 = (n : Int) from by omega, if_pos (by omega), if_pos (by omega), if_pos (by rw [ba_sz]; omega), bt_list l1 n hlt, w64 (n := (n : Int) - 1) (by omega) (by omega)]
    have hd : l1.drop n = l1[n] :: l1.drop (n + 1) := List.drop_eq_getElem_cons hlt
    by_cases h : l1[n] = 46
    · have hp : n + pt (l1.drop n) = n := by rw [hd]; unfold pt; rw [h]; rfl
      rw [if_pos (by rw [h]; rfl)]
      have := ih k (by omega) (by omega)
      rw [hp] at this
      exact this
    · have hb : (l1[n] == 46) = false := by rw [beq_eq_false_iff_ne]; exact h
      have hp : n + pt (l1.drop n) = n + 1 + pt (l1.drop (n + 1)) := by
        rw [hd]; unfold pt; rw [List.findIdx_cons, hb]; simp; omega
      rw [if_neg (by
        intro e
        refine h ?_
        have e2 : (l1[n]).toNat = 46 := by have e' : ((l1[n]).toNat : Int) = 46 := by simpa using e
                                           omega
        exact UInt8.toNat_inj.1 e2), ← hp]
      exact ih k (by omega) (by omega)
theorem rread1 (neg : Bool) (l1 : List UInt8) (hl : l1.length ≤ 1000) (k : Nat) (hk : 1300 ≤ k) : entrepotref02_Read.j1 k ⟨l1.toArray⟩ (sg neg) = some (refS neg l1) := by
  obtain ⟨k, rfl, hk⟩ := succ_of (Nat.lt_of_lt_of_le (by decide : 1299 < 1300) hk)
  simp only [entrepotref02_Read.j1]
  have := rread_loop neg l1 hl l1.length k (Nat.le_refl _) (by omega)
  rw [List.drop_length] at this
  rw [ba_sz, w64 (by omega) (by omega)]
  exact this
theorem RRead_eq (l : List UInt8) (hl : l.length ≤ 1000) (k : Nat) (hk : 1400 ≤ k) : entrepotref02_Read.f k ⟨l.toArray⟩ = some (readS l) := by
  obtain ⟨k, rfl, hk⟩ := succ_of (Nat.lt_of_lt_of_le (by decide : 1399 < 1400) hk)
  rw [readS_eq]
  unfold entrepotref02_Read.f
  rw [ByteArray.toList_eq]
  rcases sign_case l with ⟨h, h1, h2⟩ | ⟨r, rfl, h1, h2⟩
  · rw [h1, h2, ← rread1 false l hl k (by omega)]
    rcases h with rfl | ⟨c, r, rfl, h⟩
    · rw [if_pos rfl]; simp only [entrepotref02_Read.j0]; rfl
    · rw [if_neg (by simp), if_pos (by rw [ba_sz]; simp), show ((bt ⟨(c :: r).toArray⟩ 0) == 45) = false from by
        have := bt_list (c :: r) 0 (by simp)
        rw [Int.natCast_zero] at this
        rw [this, beq_eq_false_iff_ne]
        intro e
        refine h ?_
        have e2 : c.toNat = 45 := by have e' : (c.toNat : Int) = 45 := by simpa using e
                                     omega
        exact UInt8.toNat_inj.1 e2]
      simp only [entrepotref02_Read.j0]
      rfl
  · rw [h1, h2, ← rread1 true r (by simp at hl; omega) k (by omega), if_neg (by simp), if_pos (by rw [ba_sz]; simp), show ((bt ⟨(45 :: r).toArray⟩ 0) == 45) = true from by
      have := bt_list (45 :: r) 0 (by simp)
      rw [Int.natCast_zero] at this
      rw [this]; rfl]
    simp only [entrepotref02_Read.j0, if_true]
    rw [if_pos (by rw [ba_sz]; simp; omega), ba_sz, drop_ba]
    rfl
end Go.Proofs.YtadocbfchdendaaGreatDoor.P
namespace Go.Proofs.YtadocbfchdendaaGreatDoor.P
open Go.RowKit Go.Proofs.YtadocbfchdendaaGreatDoorW.PrintWords Go.Proofs.YtadocbfchdendaaGreatDoorW.PrintLast Go.Proofs.YtadocbfchdendaaGreatDoorW.PrintMore
attribute [local go_sem] max2_int min2_int max_two min_two max_three min_three max_four min_four   -- for this text's walks alone
set_option linter.unusedVariables false
set_option linter.unusedSimpArgs false
mutual
def entrepotref13_Flat.l0 : Nat → ByteArray → List (S36) → Int → List Int → Int → Option (List Int × Int × Int × Int)
 | 0, _, _, _, _, _ => none
 | k + 1, x0, x1, x2, x9, x10 => if x10 < (x1.length : Int) then (entrepotref13_Flat.j1 k x0 x1 x2 x9 x10 (decide ((x9.length : Int) < x2))) else (entrepotref13_Flat.j1 k x0 x1 x2 x9 x10 false)
def entrepotref13_Flat.j1 : Nat → ByteArray → List (S36) → Int → List Int → Int → Bool → Option (List Int × Int × Int × Int)
 | 0, _, _, _, _, _, _ => none
 | k + 1, x0, x1, x2, x9, x10, x25 => if x25 = true then (entrepotref13_Flat.l1 k x0 x1 x2 x9 x10 0) else (if x2 > 0 then (some (([] : List Int), 0, (x0.size : Int), 4)) else (some (x9, 0, 0, 0)))
def entrepotref13_Flat.l1 : Nat → ByteArray → List (S36) → Int → List Int → Int → Int → Option (List Int × Int × Int × Int)
 | 0, _, _, _, _, _, _ => none
 | k + 1, x0, x1, x2, x9, x10, x11 => if 0 ≤ x10 then (if x10 < (x1.length : Int) then (if x11 < (((rd_T36 x1 x10).f1).length : Int) then (if 0 ≤ x11 then (if (x9.length : Int) ≥ x2 then (some (([] : List Int), 0, (rd_T104 ((rd_T36 x1 x10).f1) x11).f0, 3)) else ((entrepotref03_Text.f x0 ((rd_T104 ((rd_T36 x1 x10).f1) x11).f0) ((rd_T104 ((rd_T36 x1 x10).f1) x11).f1)).bind fun t109 => ((entrepotref02_Int.f k t109).bind fun bt110 => (if bt110.2 = 0 then (if x9.length < 17592186044416 then (entrepotref13_Flat.l1 k x0 x1 x2 (x9 ++ [bt110.1]) x10 (wrap64 (x11 + 1))) else (none)) else (some (([] : List Int), 0, (rd_T104 ((rd_T36 x1 x10).f1) x11).f0, bt110.2)))))) else (none)) else (if (x9.length : Int) ≥ x2 then (some (x9, wrap64 (x10 + 1), 0, 0)) else (entrepotref13_Flat.l0 k x0 x1 x2 x9 (wrap64 (x10 + 1))))) else (none)) else (none)
end
def entrepotref13_Flat.f (k : Nat) (a0 : ByteArray) (l1 : List (S36)) (a2 : Int) : Option (List Int × Int × Int × Int) := entrepotref13_Flat.l0 k a0 l1 a2 (([] : List Int)) 0
theorem entrepotref13_Flat.mono_l : ∀ k, (∀ y0 y1 y2 y3 y4, LeO (entrepotref13_Flat.l0 k y0 y1 y2 y3 y4) (entrepotref13_Flat.l0 (k + 1) y0 y1 y2 y3 y4)) ∧ (∀ y0 y1 y2 y3 y4 y5, LeO (entrepotref13_Flat.j1 k y0 y1 y2 y3 y4 y5) (entrepotref13_Flat.j1 (k + 1) y0 y1 y2 y3 y4 y5)) ∧ (∀ y0 y1 y2 y3 y4 y5, LeO (entrepotref13_Flat.l1 k y0 y1 y2 y3 y4 y5) (entrepotref13_Flat.l1 (k + 1) y0 y1 y2 y3 y4 y5))
 | 0 => ⟨fun _ _ _ _ _ r h => by simp [entrepotref13_Flat.l0] at h, fun _ _ _ _ _ _ r h => by simp [entrepotref13_Flat.j1] at h, fun _ _ _ _ _ _ r h => by simp [entrepotref13_Flat.l1] at h⟩
 | k + 1 => by
  obtain ⟨ih0, ih1, ih2⟩ := entrepotref13_Flat.mono_l k; refine ⟨?_, ?_, ?_⟩
  ·intro y0 y1 y2 y3 y4
   unfold entrepotref13_Flat.l0
   repeat' first
   | (with_reducible exact ih0 _ _ _ _ _)
   | (with_reducible exact ih1 _ _ _ _ _ _)
   | (with_reducible exact ih2 _ _ _ _ _ _)
   | (with_reducible exact entrepotref02_Int.mono _ _)
   | (with_reducible exact LeO.refl _)
   | (with_reducible exact LeO.none _)
   | (with_reducible refine LeO.ite ?_ ?_)
   | (with_reducible refine LeO.bind ?_ (fun _ => ?_))
   | exact ih0 _ _ _ _ _
   | exact ih1 _ _ _ _ _ _
   | exact ih2 _ _ _ _ _ _
   | exact entrepotref02_Int.mono _ _
   | exact LeO.none _
   | refine LeO.ite ?_ ?_
   | refine LeO.bind ?_ (fun _ => ?_)
  ·intro y0 y1 y2 y3 y4 y5
   unfold entrepotref13_Flat.j1
   repeat' first
   | (with_reducible exact ih0 _ _ _ _ _)
   | (with_reducible exact ih1 _ _ _ _ _ _)
   | (with_reducible exact ih2 _ _ _ _ _ _)
   | (with_reducible exact entrepotref02_Int.mono _ _)
   | (with_reducible exact LeO.refl _)
   | (with_reducible exact LeO.none _)
   | (with_reducible refine LeO.ite ?_ ?_)
   | (with_reducible refine LeO.bind ?_ (fun _ => ?_))
   | exact ih0 _ _ _ _ _
   | exact ih1 _ _ _ _ _ _
   | exact ih2 _ _ _ _ _ _
   | exact entrepotref02_Int.mono _ _
   | exact LeO.none _
   | refine LeO.ite ?_ ?_
   | refine LeO.bind ?_ (fun _ => ?_)
  ·intro y0 y1 y2 y3 y4 y5
   unfold entrepotref13_Flat.l1
   repeat' first
   | (with_reducible exact ih0 _ _ _ _ _)
   | (with_reducible exact ih1 _ _ _ _ _ _)
   | (with_reducible exact ih2 _ _ _ _ _ _)
   | (with_reducible exact entrepotref02_Int.mono _ _)
   | (with_reducible exact LeO.refl _)
   | (with_reducible exact LeO.none _)
   | (with_reducible refine LeO.ite ?_ ?_)
   | (with_reducible refine LeO.bind ?_ (fun _ => ?_))
   | exact ih0 _ _ _ _ _
   | exact ih1 _ _ _ _ _ _
   | exact ih2 _ _ _ _ _ _
   | exact entrepotref02_Int.mono _ _
   | exact LeO.none _
   | refine LeO.ite ?_ ?_
   | refine LeO.bind ?_ (fun _ => ?_)
theorem entrepotref13_Flat.mono : ∀ a0 a1 a2 k, LeO (entrepotref13_Flat.f k a0 a1 a2) (entrepotref13_Flat.f (k + 1) a0 a1 a2) := by
 intro a0 a1 a2 k
 obtain ⟨ih0, ih1, ih2⟩ := entrepotref13_Flat.mono_l k; unfold entrepotref13_Flat.f
 repeat' first
   | (with_reducible exact ih0 _ _ _ _ _)
   | (with_reducible exact ih1 _ _ _ _ _ _)
   | (with_reducible exact ih2 _ _ _ _ _ _)
   | (with_reducible exact entrepotref02_Int.mono _ _)
   | (with_reducible exact LeO.refl _)
   | (with_reducible exact LeO.none _)
   | (with_reducible refine LeO.ite ?_ ?_)
   | (with_reducible refine LeO.bind ?_ (fun _ => ?_))
   | exact ih0 _ _ _ _ _
   | exact ih1 _ _ _ _ _ _
   | exact ih2 _ _ _ _ _ _
   | exact entrepotref02_Int.mono _ _
   | exact LeO.none _
   | refine LeO.ite ?_ ?_
   | refine LeO.bind ?_ (fun _ => ?_)
set_option maxHeartbeats 8000000 in
set_option maxRecDepth 100000 in
theorem entrepotref13_Flat.calls (k : Nat) (a0 : ByteArray) (A1 : Option Addr) (c1 : Nat) (l1 : List (S36)) (a2 : Int) (r1 : List Int) (r2 : Int) (r3 : Int) (r4 : Int) (w : World) (hr1 : Kd.C k36 w A1 l1.length l1) (hc1 : l1.length ≤ c1) (h : entrepotref13_Flat.f k a0 l1 a2 = some (r1, r2, r3, r4)) :
  Calls Tryz.prog 22 #[.string a0, .slice A1 l1.length c1, .int .i64 a2] w fun e w' => ∃ v0_ : Value, e = .returned (.tuple #[v0_, .int .i64 r2, .agg #[.int .i64 r3, .int .i64 r4]]) ∧ Kd.R (Kd.int .i64) 3 w' w.heap.size (fun _ => True) v0_ r1 ∧ Below w.heap.size w w' := by
 have hu41 := Tryz.underlying41; have hu104 := Tryz.underlying104; have HR1 := Aside0.mk hr1; have HC1 := Aside0.mk hc1; clear hr1 hc1; have HB := Aside0.mk (Below.refl w.heap.size w); have H : (entrepotref13_Flat.l0 k a0 l1 a2 (([] : List Int)) 0) = some (r1, r2, r3, r4) := h; clear h; obtain ⟨y102, hy102⟩ : ∃ y_ : List Int, y_ = (([] : List Int)) := ⟨_, rfl⟩; replace H : (entrepotref13_Flat.l0 k a0 l1 a2 y102 0) = some (r1, r2, r3, r4) := by first | (rw [hy102]; with_reducible exact H) | (have H2_ := (Option.bind_some _ _).symm.trans H; rw [hy102]; with_reducible exact H2_) | (have H2_ := (Option.bind_some _ _).symm.trans H; with_reducible exact H2_) | with_reducible exact H | (rw [hy102]; exact H) | exact H
 have Ny102 := Aside0.mk hy102; clear hy102; have H' := Aside0.mk H; clear H; go_enter Tryz.func22, Tryz.ntmps22
 go_wp2_with (first | ((with_reducible refine gate_dst (N := 8) rfl ?_); (try (refine gate_guard (by rfl) ?_; dsimp only)); refine box_ev (N := 8) (cs := #[.int .i64 0, .int .i64 0]) (t := 41) ?_; intro gb101 hg w4 hbox hb; have BK101 := Aside0.mk (hbox); have GW101 := Aside0.mk ((qg : w.heap.size ≤ gb101)); have GE101 := Aside0.mk ((qg : w.heap.size ≤ gb101)); replace HB := cB HB hb; clear hb hbox hg) | ((with_reducible refine gate_dst (N := 15) rfl ?_); (try (refine gate_guard (by rfl) ?_; dsimp only)); refine Kd.R_lit (Kd.int .i64) _ 3 ?hg (N := 15) ?hd (xs := ([] : List Int)) (inner := []) (ok := fun _ => True) (okp := fun _ => True) ?hr ?hp (fun _ hk => hk) trivial (Below.refl _ _) (Nat.le_refl _) (by simp) ?_; (case hd => rfl); (case hg => rfl); (case hr => first | (go_simp; done) | (go_simp; rfl)); (case hp => exact (Reps.none _ _)); intro v103 w5 ho6 hb hg_ hnew_; clear hg_ hnew_; (first | rw [← Ny102.out] at ho6 | (simp only [Int.reduceToNat] at ho6; rw [← Ny102.out] at ho6)); have HO104 := Aside0.mk (Kd.R_lower ho6 (below_size qb)); replace BK101 := cK BK101 hb; replace HB := cB HB hb; clear hb ho6))
 (try simp only [Act.put, List.setIfInBounds_toArray, List.set_cons_zero, List.set_cons_succ])
 go_loopg [9, 10] k (fun kq v9 v10 w' => ∃ (x9_1 : List Int) (x10_1 : Int) (x102000_1 : Int) (x102001_1 : Int), v10 = .int .i64 x10_1 ∧ Aside0 (entrepotref13_Flat.l0 kq a0 l1 a2 x9_1 x10_1 = some (r1, r2, r3, r4)) ∧ Aside0 (kq ≤ k) ∧ Aside0 (Kd.R (Kd.int .i64) 3 w' w.heap.size (fun _ => True) v9 x9_1) ∧ Aside0 (w'.heap[gb101]? = some (.cells #[.int .i64 x102000_1, .int .i64 x102001_1] 41 (0, 0))) ∧ Aside0 (Below w.heap.size w w'))
 case atStart => exact ⟨(y102), (0), (0), (0), qr, H', ⟨Nat.le_refl _⟩, ⟨qR HO104.out⟩, ⟨qk BK101.out⟩, ⟨qb⟩⟩
 case round =>
  clear H'; (try clear c1); (try clear c2); (try clear p2); obtain ⟨x9_1, x10_1, x102000_1, x102001_1, rfl, HA, HK1, HO_9, BK101, HB⟩ := hrel; cases gk with
  | zero => exact absurd HA.out (by simp [entrepotref13_Flat.l0])
  | succ k1 =>
   have H := HA.out; clear HA; simp only [entrepotref13_Flat.l0] at H; have HC7 := Aside0.mk H; clear H
   go_upto_region 3 with (fail)
   go_cut [25] (fun v25 wc => ∃ (kq : Nat) (x25_6 : Bool), v25 = .bool x25_6 ∧ Aside0 (entrepotref13_Flat.j1 kq a0 l1 a2 x9_1 x10_1 x25_6 = some (r1, r2, r3, r4)) ∧ Aside0 (kq ≤ k1) ∧ Aside0 (Kd.R (Kd.int .i64) 3 wc w.heap.size (fun _ => True) u9 x9_1) ∧ Aside0 (wc.heap[gb101]? = some (.cells #[.int .i64 x102000_1, .int .i64 x102001_1] 41 (0, 0))) ∧ Aside0 (Below w.heap.size w wc))
   case first =>
    have H := HC7.out; clear HC7
    by_cases c8 : x10_1 < (l1.length : Int)
    ·rw [if_pos c8] at H; have c8b0 := decide_eq_true c8; clear c8; (first | rw [c8b0] | (simp only [i64_w, i32_w]; rw [c8b0]) | skip); have H' := Aside0.mk H; clear H; obtain ⟨Ao9, co9, eo9⟩ := Kd.R_slice HO_9.out; subst eo9
     go_wp2
     go_meet
     case rel => exact ⟨_, (decide ((x9_1.length : Int) < a2)), qr, H', ⟨by have := HK1.out; first | omega | exact Nat.le_refl _⟩, ⟨qR HO_9.out⟩, ⟨qk BK101.out⟩, ⟨qb⟩⟩
    ·rw [if_neg c8] at H; have c8b0 := decide_eq_false c8; clear c8; (first | rw [c8b0] | (simp only [i64_w, i32_w]; rw [c8b0]) | skip); have H' := Aside0.mk H; clear H
     go_wp2
     go_meet
     case rel => exact ⟨_, (false), qr, H', ⟨by have := HK1.out; first | omega | exact Nat.le_refl _⟩, ⟨qR HO_9.out⟩, ⟨qk BK101.out⟩, ⟨qb⟩⟩
   case rest =>
    clear HC7; (try clear c1); (try clear c2); (try clear p2); (try clear c8); (try clear c8b0); (try clear p2); obtain ⟨kq, x25_6, rfl, HA, HJ6, HO_9, BK101, HB⟩ := hcut; cases kq with
    | zero => exact absurd HA.out (by simp [entrepotref13_Flat.j1])
    | succ kj6 =>
     have H := HA.out; clear HA; simp only [entrepotref13_Flat.j1] at H
     by_cases c10 : x25_6 = true
     ·subst c10; have H1 : (entrepotref13_Flat.l1 kj6 a0 l1 a2 x9_1 x10_1 0) = some (r1, r2, r3, r4) := by rw [if_pos rfl] at H; exact H
      clear H; have H := H1; clear H1; have H' := Aside0.mk H; clear H
      go_wp2
      (try simp only [Act.put, List.setIfInBounds_toArray, List.set_cons_zero, List.set_cons_succ])
      go_loopg [9, 11] kj6 (fun kq v9 v11 w' => ∃ (x9_3 : List Int) (x11_3 : Int) (x102000_3 : Int) (x102001_3 : Int), v11 = .int .i64 x11_3 ∧ Aside0 (entrepotref13_Flat.l1 kq a0 l1 a2 x9_3 x10_1 x11_3 = some (r1, r2, r3, r4)) ∧ Aside0 (kq ≤ kj6) ∧ Aside0 (Kd.R (Kd.int .i64) 3 w' w.heap.size (fun _ => True) v9 x9_3) ∧ Aside0 (w'.heap[gb101]? = some (.cells #[.int .i64 x102000_3, .int .i64 x102001_3] 41 (0, 0))) ∧ Aside0 (Below w.heap.size w w'))
      case atStart => exact ⟨(x9_1), (0), (x102000_1), (x102001_1), qr, H', ⟨Nat.le_refl _⟩, ⟨qR HO_9.out⟩, ⟨qk BK101.out⟩, ⟨qb⟩⟩
      case round =>
       clear H'; (try clear c1); (try clear c2); (try clear p2); (try clear c8); (try clear c8b0); (try clear c10); (try clear p2); obtain ⟨x9_3, x11_3, x102000_3, x102001_3, rfl, HA, HK3, HO_9, BK101, HB⟩ := hrel; cases gk with
       | zero => exact absurd HA.out (by simp [entrepotref13_Flat.l1])
       | succ k3 =>
        have H := HA.out; clear HA; simp only [entrepotref13_Flat.l1] at H
        by_cases c11 : 0 ≤ x10_1
        ·rw [if_pos c11] at H; have c11b0 := decide_eq_true c11; clear c11
         by_cases c12 : x10_1 < (l1.length : Int)
         ·rw [if_pos c12] at H; have c12b0 := decide_eq_true c12; clear c12
          by_cases c13 : x11_3 < (((rd_T36 l1 x10_1).f1).length : Int)
          ·rw [if_pos c13] at H; have c13b0 := decide_eq_true c13; clear c13
           by_cases c14 : 0 ≤ x11_3
           ·rw [if_pos c14] at H; have c14b0 := decide_eq_true c14; clear c14
            by_cases c15 : (x9_3.length : Int) ≥ a2
            ·rw [if_pos c15] at H; have c15b0 := decide_eq_true c15; clear c15; simp only [Option.some.injEq, Prod.mk.injEq] at H; obtain ⟨rfl, rfl, rfl, rfl⟩ := H; have p105 : 0 ≤ (x10_1 : Int) := of_decide_eq_true qa; have q105 : x10_1 < (l1.length : Int) := of_decide_eq_true qa; obtain ⟨ad105, A105_1, c105_1, e105, hx105_0, hx105_1, hl105_1, hi105_1⟩ := at_T36 HR1.out x10_1 p105 q105; cases e105; replace hx105_0 := (HB.out.cell (World.block_lt_of_cell? w _ hx105_0)).trans hx105_0; replace hx105_1 := (HB.out.cell (World.block_lt_of_cell? w _ hx105_1)).trans hx105_1; have HR105_1 := Aside0.mk hi105_1; have HC105_1 := Aside0.mk hl105_1; clear hi105_1 hl105_1; (try simp only [Go.IntWalk.toNatUp] at hx105_0); (try simp only [Go.IntWalk.toNatUp] at hx105_1); replace p105 := eq_true p105; replace q105 := eq_true q105; have p106 : 0 ≤ (x10_1 : Int) := of_decide_eq_true qa; have q106 : x10_1 < (l1.length : Int) := of_decide_eq_true qa; obtain ⟨ad106, A106_1, c106_1, e106, hx106_0, hx106_1, hl106_1, hi106_1⟩ := at_T36 HR1.out x10_1 p106 q106; obtain rfl : ad105 = ad106 := (by injection e106); replace hx106_0 := (HB.out.cell (World.block_lt_of_cell? w _ hx106_0)).trans hx106_0; replace hx106_1 := (HB.out.cell (World.block_lt_of_cell? w _ hx106_1)).trans hx106_1; have HR106_1 := Aside0.mk hi106_1; have HC106_1 := Aside0.mk hl106_1; clear hi106_1 hl106_1; (try simp only [Go.IntWalk.toNatUp] at hx106_0); (try simp only [Go.IntWalk.toNatUp] at hx106_1); replace p106 := eq_true p106; replace q106 := eq_true q106; have ea_ := Option.some.inj (hx105_1.symm.trans hx106_1); injection ea_ with ea_ en_ ec_
             subst ea_; subst ec_; clear en_; have p107 : 0 ≤ (x11_3 : Int) := of_decide_eq_true qa; have q107 : x11_3 < (((rd_T36 l1 x10_1).f1).length : Int) := of_decide_eq_true qa; obtain ⟨ad107, e107, hx107_0, hx107_1⟩ := at_T104 HR106_1.out x11_3 p107 q107; cases e107; replace hx107_0 := (HB.out.cell (World.block_lt_of_cell? w _ hx107_0)).trans hx107_0; replace hx107_1 := (HB.out.cell (World.block_lt_of_cell? w _ hx107_1)).trans hx107_1; (try simp only [Go.IntWalk.toNatUp] at hx107_0); (try simp only [Go.IntWalk.toNatUp] at hx107_1); replace p107 := eq_true p107; replace q107 := eq_true q107
             try go_wp2_with (first | ((with_reducible refine gate_dst (N := 12) rfl ?_); (try (refine gate_guard (by rfl) ?_; dsimp only)); refine box_ev (N := 12) (cs := #[.int .i64 0, .int .i64 0]) (t := 104) ?_; intro gb108 hg w16 hbox hb; have BK108 := Aside0.mk (hbox); have GW108 := Aside0.mk ((qg : w.heap.size ≤ gb108)); have GE108 := Aside0.mk ((qg : w.heap.size ≤ gb108)); have NB101_108 := Aside0.mk ((by rw [hg]; exact Nat.ne_of_lt (blk_lt (g := gb101) (o := .cells #[.int .i64 x102000_3, .int .i64 x102001_3] 41 (0, 0)) (qk BK101.out)) : gb101 ≠ gb108)); have NB108_101 := Aside0.mk ((by rw [hg]; exact Nat.ne_of_gt (blk_lt (g := gb101) (o := .cells #[.int .i64 x102000_3, .int .i64 x102001_3] 41 (0, 0)) (qk BK101.out)) : gb108 ≠ gb101)); replace HO_9 := cR HO_9 hb; replace BK101 := cK BK101 hb; replace HB := cB HB hb; clear hb hbox hg; have hnb17 := NB108_101.out; have hnc17 := NB101_108.out; have hcz18_0 : w16.cell? ⟨gb108, 0, none⟩ = some (.int .i64 0) := (blk_cell BK108.out 0).trans rfl; have hcz18_1 : w16.cell? ⟨gb108, 1, none⟩ = some (.int .i64 0) := (blk_cell BK108.out 1).trans rfl; have hfz18_0 := blk_frozen BK108.out 0; have hfz18_1 := blk_frozen BK108.out 1; obtain ⟨Ao19, co19, eo19⟩ := Kd.R_slice HO_9.out; subst eo19))
             have n0_ : Aside0 (Kd.R (Kd.int .i64) 3 ((w16.setCell ⟨gb108, 0, none⟩ (.int .i64 ((rd_T104 ((rd_T36 l1 x10_1).f1) x11_3).f0))).setCell ⟨gb108, 1, none⟩ (.int .i64 ((rd_T104 ((rd_T36 l1 x10_1).f1) x11_3).f1))) w.heap.size (fun _ => True) (.slice Ao19 x9_3.length co19) x9_3) := ⟨by refine qR ?_; exact Kd.R_mono (Kd.R_far (p := ⟨gb108, 1, none⟩) (Kd.R_far (p := ⟨gb108, 0, none⟩) (Kd.R_types HO_9.out BK108.out (by decide)) (fun _ hk => hk.2) (.int .i64 ((rd_T104 ((rd_T36 l1 x10_1).f1) x11_3).f0))) (fun _ hk => hk.2) (.int .i64 ((rd_T104 ((rd_T36 l1 x10_1).f1) x11_3).f1))) (fun _ hk => trivial)⟩; have n1_ : Aside0 (((w16.setCell ⟨gb108, 0, none⟩ (.int .i64 ((rd_T104 ((rd_T36 l1 x10_1).f1) x11_3).f0))).setCell ⟨gb108, 1, none⟩ (.int .i64 ((rd_T104 ((rd_T36 l1 x10_1).f1) x11_3).f1))).heap[gb101]? = some (.cells #[.int .i64 x102000_3, .int .i64 x102001_3] 41 (0, 0))) := ⟨by refine qk ?_; refine blk_far ?_ NB101_108.out _; refine qk ?_; refine blk_far ?_ NB101_108.out _; refine qk ?_; exact BK101.out⟩; have n2_ : Aside0 (((w16.setCell ⟨gb108, 0, none⟩ (.int .i64 ((rd_T104 ((rd_T36 l1 x10_1).f1) x11_3).f0))).setCell ⟨gb108, 1, none⟩ (.int .i64 ((rd_T104 ((rd_T36 l1 x10_1).f1) x11_3).f1))).heap[gb108]? = some (.cells #[.int .i64 ((rd_T104 ((rd_T36 l1 x10_1).f1) x11_3).f0), .int .i64 ((rd_T104 ((rd_T36 l1 x10_1).f1) x11_3).f1)] 104 (0, 0))) := ⟨by refine qk ?_; refine blk_put (cs := #[.int .i64 ((rd_T104 ((rd_T36 l1 x10_1).f1) x11_3).f0), .int .i64 0]) ?_ 1 _ rfl; refine qk ?_; refine blk_put (cs := #[.int .i64 0, .int .i64 0]) ?_ 0 _ rfl; refine qk ?_; exact BK108.out⟩; have n3_ : Aside0 (Below w.heap.size w ((w16.setCell ⟨gb108, 0, none⟩ (.int .i64 ((rd_T104 ((rd_T36 l1 x10_1).f1) x11_3).f0))).setCell ⟨gb108, 1, none⟩ (.int .i64 ((rd_T104 ((rd_T36 l1 x10_1).f1) x11_3).f1)))) := ⟨qb⟩; (try clear HO_9); (try clear BK101); (try clear BK108); (try clear HB); generalize ((w16.setCell ⟨gb108, 0, none⟩ (.int .i64 ((rd_T104 ((rd_T36 l1 x10_1).f1) x11_3).f0))).setCell ⟨gb108, 1, none⟩ (.int .i64 ((rd_T104 ((rd_T36 l1 x10_1).f1) x11_3).f1))) = w20 at n0_ n1_ n2_ n3_ ⊢; have HO_9 := n0_; have BK101 := n1_; have BK108 := n2_; have HB := n3_; clear n0_ n1_ n2_ n3_; have n0_ := Aside0.mk (Kd.R_drew HO_9.out); have n1_ := Aside0.mk (blk_drew BK101.out); have n2_ := Aside0.mk (blk_drew BK108.out); have n3_ := Aside0.mk (below_drew1 HB.out); clear HO_9; clear BK101; clear BK108; clear HB; have HO_9 := n0_; have BK101 := n1_; have BK108 := n2_; have HB := n3_; clear n0_ n1_ n2_ n3_; refine start_ (n := 6) (S := fun w' => w'.cell? ⟨gb108, 0, none⟩ = some (.int .i64 ((rd_T104 ((rd_T36 l1 x10_1).f1) x11_3).f0)) ∧ w'.cell? ⟨gb108, 1, none⟩ = some (.int .i64 ((rd_T104 ((rd_T36 l1 x10_1).f1) x11_3).f1))) (ds := []) #[false, false, false, false, false, false] (by kernel_rfl) rfl rfl ⟨(blk_cell BK108.out 0).trans rfl, (blk_cell BK108.out 1).trans rfl⟩ (fun hHeld => ?_); generalize w20.drew = w21 at HO_9 BK101 BK108 HB hHeld ⊢; refine pure_ (i := 0) (N := some 50) (v := ?_) (a' := ?_) #[true, false, false, false, false, false] rfl rfl (by kernel_rfl) (fun _ _ _ h => h) (Or.inl ⟨by rfl, ?_⟩) ?_ ?_
             rotate_left
             ·intro w'
              go_simp
              with_reducible rfl
             rotate_left
             ·simp only [Act.put, List.setIfInBounds_toArray, List.set_cons_zero, List.set_cons_succ, i64_w, i32_w]
              rfl
             refine pure_ (i := 3) (N := some 6) (v := ?_) (a' := ?_) #[true, false, false, true, false, false] rfl rfl (by kernel_rfl) (fun _ _ _ h => h) (Or.inl ⟨by rfl, ?_⟩) ?_ ?_
             rotate_left
             ·intro w'
              go_simp
              with_reducible rfl
             rotate_left
             ·simp only [Act.put, List.setIfInBounds_toArray, List.set_cons_zero, List.set_cons_succ, i64_w, i32_w]
              rfl
             refine pure_ (i := 4) (N := some 7) (v := ?_) (a' := ?_) #[true, false, false, true, true, false] rfl rfl (by kernel_rfl) (fun _ _ _ h => h) (Or.inl ⟨by rfl, ?_⟩) ?_ ?_
             rotate_left
             ·intro w'
              go_simp
              with_reducible rfl
             rotate_left
             ·simp only [Act.put, List.setIfInBounds_toArray, List.set_cons_zero, List.set_cons_succ, i64_w, i32_w]
              rfl
             refine take_ (i := 1) (N := some 51) (v := ?_) (a' := ?_) #[true, true, false, true, true, false] rfl rfl (by kernel_rfl) (fun _ _ _ h => h) (Or.inl ⟨by rfl, ?_⟩) hHeld ?_ ?_
             rotate_left
             ·rintro w' ⟨s0, s1⟩
              go_simp
              with_reducible rfl
             rotate_left
             ·simp only [Act.put, List.setIfInBounds_toArray, List.set_cons_zero, List.set_cons_succ, i64_w, i32_w]
              rfl
             refine pure_ (i := 2) (N := some 52) (v := ?_) (a' := ?_) #[true, true, true, true, true, false] rfl rfl (by kernel_rfl) (fun _ _ _ h => h) (Or.inl ⟨by rfl, ?_⟩) ?_ ?_
             rotate_left
             ·intro w'
              go_simp
              with_reducible rfl
             rotate_left
             ·simp only [Act.put, List.setIfInBounds_toArray, List.set_cons_zero, List.set_cons_succ, i64_w, i32_w]
              rfl
             refine one_ (i := 5) (N := none) #[true, true, true, true, true, true] rfl rfl (by kernel_rfl) (by decide) (fun K hK => ?_); have hs22 : w21.cell? ⟨gb101, 0, none⟩ = some (.int .i64 x102000_3) := (blk_cell BK101.out 0).trans rfl; have hfs22 := blk_frozen BK101.out 0; have hns22_1 := NB108_101.out; have hms22_1 := NB101_108.out; have hs23 : w21.cell? ⟨gb101, 1, none⟩ = some (.int .i64 x102001_3) := (blk_cell BK101.out 1).trans rfl; have hfs23 := blk_frozen BK101.out 1; have hns23_1 := NB108_101.out; have hms23_1 := NB101_108.out; refine skip_ (w1 := ?_) (by rfl) rfl ?_ ?_
             rotate_left
             ·go_simp
              rfl
             refine hK.out _ _ ⟨((cell_far (p := ⟨gb101, _, none⟩) NB108_101.out _).trans (((cell_far (p := ⟨gb101, _, none⟩) NB108_101.out _).trans (hHeld.1)))), ((cell_far (p := ⟨gb101, _, none⟩) NB108_101.out _).trans (((cell_far (p := ⟨gb101, _, none⟩) NB108_101.out _).trans (hHeld.2))))⟩ (fun hHeld => ?_); clear hK K; refine done_ (by kernel_rfl) ?_
             try go_wp2
             refine bodyPost_ret (results_list (rs := [.tmp 6, .tmp 7, .cell 8 41]) rfl (by simp) (.tmp (.tmp (.cell gb101 41 #[.int .i64 ((rd_T104 ((rd_T36 l1 x10_1).f1) x11_3).f0), .int .i64 3] (0, 0) _ rfl (by refine qk ?_; refine blk_put (cs := #[.int .i64 ((rd_T104 ((rd_T36 l1 x10_1).f1) x11_3).f0), .int .i64 x102001_3]) ?_ 1 _ rfl; refine qk ?_; refine blk_put (cs := #[.int .i64 x102000_3, .int .i64 x102001_3]) ?_ 0 _ rfl; refine qk ?_; exact BK101.out) Tryz.underlying41 rfl (by kernel_rfl) .nil)))) rfl ?_
             exact ⟨_, qe, by first | exact Kd.R_nil _ _ _ _ _ | exact Kd.N_nil _ _ _ _ _ | exact Kd.V_nil _ _ _ _ _ | exact Kd.Q_nil _ _ _ _ _ | exact Kd.S_nil _ _ _ _ _, qb⟩
            ·rw [if_neg c15] at H; have c15b0 := decide_eq_false c15; clear c15; replace H := Option.bind_eq_some_iff.mp H; obtain ⟨t109, A240, H⟩ := H; (try dsimp only at H); have A24 := Aside0.mk A240; clear A240; replace H := Option.bind_eq_some_iff.mp H; obtain ⟨⟨t110, t111⟩, A250, H⟩ := H; (try dsimp only at H); have A25 := Aside0.mk A250; clear A250
             by_cases c26 : t111 = 0
             ·rw [if_pos c26] at H; have c26b0 := beq_iff_eq.mpr c26; have c26b1 := bne_eq_false_iff_eq.mpr c26; clear c26
              by_cases c27 : x9_3.length < 17592186044416
              ·rw [if_pos c27] at H; have LMc27 := Aside0.mk c27; clear c27; obtain ⟨y112, hy112⟩ : ∃ y_ : List Int, y_ = (x9_3 ++ [t110]) := ⟨_, rfl⟩; replace H : (entrepotref13_Flat.l1 k3 a0 l1 a2 y112 x10_1 (wrap64 (x11_3 + 1))) = some (r1, r2, r3, r4) := by first | (rw [hy112]; with_reducible exact H) | (have H2_ := (Option.bind_some _ _).symm.trans H; rw [hy112]; with_reducible exact H2_) | (have H2_ := (Option.bind_some _ _).symm.trans H; with_reducible exact H2_) | with_reducible exact H | (rw [hy112]; exact H) | exact H
               have Ny112 := Aside0.mk hy112; clear hy112; have H' := Aside0.mk H; clear H; have p105 : 0 ≤ (x10_1 : Int) := of_decide_eq_true qa; have q105 : x10_1 < (l1.length : Int) := of_decide_eq_true qa; obtain ⟨ad105, A105_1, c105_1, e105, hx105_0, hx105_1, hl105_1, hi105_1⟩ := at_T36 HR1.out x10_1 p105 q105; cases e105; replace hx105_0 := (HB.out.cell (World.block_lt_of_cell? w _ hx105_0)).trans hx105_0; replace hx105_1 := (HB.out.cell (World.block_lt_of_cell? w _ hx105_1)).trans hx105_1; have HR105_1 := Aside0.mk hi105_1; have HC105_1 := Aside0.mk hl105_1; clear hi105_1 hl105_1; (try simp only [Go.IntWalk.toNatUp] at hx105_0); (try simp only [Go.IntWalk.toNatUp] at hx105_1); replace p105 := eq_true p105; replace q105 := eq_true q105; have p106 : 0 ≤ (x10_1 : Int) := of_decide_eq_true qa; have q106 : x10_1 < (l1.length : Int) := of_decide_eq_true qa; obtain ⟨ad106, A106_1, c106_1, e106, hx106_0, hx106_1, hl106_1, hi106_1⟩ := at_T36 HR1.out x10_1 p106 q106; obtain rfl : ad105 = ad106 := (by injection e106); replace hx106_0 := (HB.out.cell (World.block_lt_of_cell? w _ hx106_0)).trans hx106_0; replace hx106_1 := (HB.out.cell (World.block_lt_of_cell? w _ hx106_1)).trans hx106_1; have HR106_1 := Aside0.mk hi106_1; have HC106_1 := Aside0.mk hl106_1; clear hi106_1 hl106_1; (try simp only [Go.IntWalk.toNatUp] at hx106_0); (try simp only [Go.IntWalk.toNatUp] at hx106_1); replace p106 := eq_true p106; replace q106 := eq_true q106; have ea_ := Option.some.inj (hx105_1.symm.trans hx106_1); injection ea_ with ea_ en_ ec_
               subst ea_; subst ec_; clear en_; have p107 : 0 ≤ (x11_3 : Int) := of_decide_eq_true qa; have q107 : x11_3 < (((rd_T36 l1 x10_1).f1).length : Int) := of_decide_eq_true qa; obtain ⟨ad107, e107, hx107_0, hx107_1⟩ := at_T104 HR106_1.out x11_3 p107 q107; cases e107; replace hx107_0 := (HB.out.cell (World.block_lt_of_cell? w _ hx107_0)).trans hx107_0; replace hx107_1 := (HB.out.cell (World.block_lt_of_cell? w _ hx107_1)).trans hx107_1; (try simp only [Go.IntWalk.toNatUp] at hx107_0); (try simp only [Go.IntWalk.toNatUp] at hx107_1); replace p107 := eq_true p107; replace q107 := eq_true q107
               go_wp2_with (first | ((with_reducible refine gate_dst (N := 12) rfl ?_); (try (refine gate_guard (by rfl) ?_; dsimp only)); refine box_ev (N := 12) (cs := #[.int .i64 0, .int .i64 0]) (t := 104) ?_; intro gb108 hg w28 hbox hb; have BK108 := Aside0.mk (hbox); have GW108 := Aside0.mk ((qg : w.heap.size ≤ gb108)); have GE108 := Aside0.mk ((qg : w.heap.size ≤ gb108)); have NB101_108 := Aside0.mk ((by rw [hg]; exact Nat.ne_of_lt (blk_lt (g := gb101) (o := .cells #[.int .i64 x102000_3, .int .i64 x102001_3] 41 (0, 0)) (qk BK101.out)) : gb101 ≠ gb108)); have NB108_101 := Aside0.mk ((by rw [hg]; exact Nat.ne_of_gt (blk_lt (g := gb101) (o := .cells #[.int .i64 x102000_3, .int .i64 x102001_3] 41 (0, 0)) (qk BK101.out)) : gb108 ≠ gb101)); replace HO_9 := cR HO_9 hb; replace BK101 := cK BK101 hb; replace HB := cB HB hb; clear hb hbox hg; have hnb29 := NB108_101.out; have hnc29 := NB101_108.out; have hcz30_0 : w28.cell? ⟨gb108, 0, none⟩ = some (.int .i64 0) := (blk_cell BK108.out 0).trans rfl; have hcz30_1 : w28.cell? ⟨gb108, 1, none⟩ = some (.int .i64 0) := (blk_cell BK108.out 1).trans rfl; have hfz30_0 := blk_frozen BK108.out 0; have hfz30_1 := blk_frozen BK108.out 1; obtain ⟨Ao31, co31, eo31⟩ := Kd.R_slice HO_9.out; subst eo31) | ((with_reducible refine gate_callee (f := 55) rfl ?_); refine goesL_ (some 56) rfl rfl Tryz.func55 (by kernel_rfl) rfl #[.string a0, .agg #[.int .i64 ((rd_T104 ((rd_T36 l1 x10_1).f1) x11_3).f0), .int .i64 ((rd_T104 ((rd_T36 l1 x10_1).f1) x11_3).f1)]] rfl qm ?_; (with_reducible refine (entrepotref03_Text.calls a0 ((rd_T104 ((rd_T36 l1 x10_1).f1) x11_3).f0) ((rd_T104 ((rd_T36 l1 x10_1).f1) x11_3).f1) t109 _ A24.out).mono ?_); rintro e w32 ⟨rfl, hb⟩; refine ⟨_, rfl, ?_⟩; have n0_ := Aside0.mk (Kd.R_below (by refine qR ?_; exact (Kd.R_mono (Kd.R_far (p := ⟨gb108, 1, none⟩) (Kd.R_far (p := ⟨gb108, 0, none⟩) (Kd.R_types HO_9.out BK108.out (by decide)) (fun _ hk => hk.2) (.int .i64 ((rd_T104 ((rd_T36 l1 x10_1).f1) x11_3).f0))) (fun _ hk => hk.2) (.int .i64 ((rd_T104 ((rd_T36 l1 x10_1).f1) x11_3).f1))) (fun _ h_ => by first | exact h_.1 | exact ⟨trivial, h_.1⟩))) hb); have n1_ := Aside0.mk (blk_below (g := gb101) (o := .cells #[.int .i64 x102000_3, .int .i64 x102001_3] 41 (0, 0)) (by refine qk ?_; refine blk_far ?_ NB101_108.out _; refine qk ?_; refine blk_far ?_ NB101_108.out _; refine qk ?_; exact BK101.out) hb); have n2_ := Aside0.mk (blk_below (g := gb108) (o := .cells #[.int .i64 ((rd_T104 ((rd_T36 l1 x10_1).f1) x11_3).f0), .int .i64 ((rd_T104 ((rd_T36 l1 x10_1).f1) x11_3).f1)] 104 (0, 0)) (by refine qk ?_; refine blk_put (cs := #[.int .i64 ((rd_T104 ((rd_T36 l1 x10_1).f1) x11_3).f0), .int .i64 0]) ?_ 1 _ rfl; refine qk ?_; refine blk_put (cs := #[.int .i64 0, .int .i64 0]) ?_ 0 _ rfl; refine qk ?_; exact BK108.out) hb); replace HB := cB HB hb; replace HO_9 := n0_; replace BK101 := n1_; replace BK108 := n2_; clear n0_ n1_ n2_; (try clear hb); (try clear hb2); (try clear hk); (try clear hi)) | ((with_reducible refine gate_callee (f := 58) rfl ?_); refine goesL_ (some 57) rfl rfl Tryz.func58 (by kernel_rfl) rfl #[.string t109] rfl qm ?_; (with_reducible refine (entrepotref02_Int.calls k3 t109 t110 t111 _ A25.out).mono ?_); rintro e w' ⟨rfl, ⟨nd, rfl⟩⟩; refine ⟨_, rfl, ?_⟩) | ((with_reducible refine gate_builtin (b := .append) (xs := #[.tmp 66, .tmp 68]) rfl ?_); (try (refine gate_guard (by rfl) ?_; dsimp only)); at_builtin; refine Kd.R_append (Kd.int .i64) (w0 := w) w.heap.size rfl (.tmp 66) (.tmp 68) 38 3 (.int .i64 0) 8 rfl Tryz.underlying38 info3 rfl (by decide) (by omega) (.slice Ao31 x9_3.length co31) x9_3 t110 [.int .i64 t110] (fun _ => True) (fun _ => False) rfl rfl ?aP (fun _ hk => hk.elim) ?aF ?aO ?aB ?aS ?aL ?_; (case aP => exact rfl); (case aB => exact qb); (case aF => exact (fun _ _ => trivial)); (case aO => exact (qR HO_9.out)); (case aS => exact (below_size qb)); (case aL => have := LMc27.out; omega); intro v113 w33 ho hb hg hat; rw [← Ny112.out] at ho; have n0_ := Aside0.mk (blk_grown (g := gb101) (o := .cells #[.int .i64 x102000_3, .int .i64 x102001_3] 41 (0, 0)) (qk BK101.out) hg (Kd.R_ne HO_9.out BK101.out (by decide))); have n1_ := Aside0.mk (blk_grown (g := gb108) (o := .cells #[.int .i64 ((rd_T104 ((rd_T36 l1 x10_1).f1) x11_3).f0), .int .i64 ((rd_T104 ((rd_T36 l1 x10_1).f1) x11_3).f1)] 104 (0, 0)) (qk BK108.out) hg (Kd.R_ne HO_9.out BK108.out (by decide))); have n2_ := Aside0.mk (hb); have HO114 := Aside0.mk (ho); replace BK101 := n0_; replace BK108 := n1_; replace HB := n2_; clear n0_ n1_ n2_; clear HO_9; clear ho hb hg hat))
               go_roundg k3
               case measure => have := HK1.out; have := HJ6.out; have := HK3.out; omega
               case rel => exact ⟨(y112), (wrap64 (x11_3 + 1)), (x102000_3), (x102001_3), qr, H', ⟨by have := HK1.out; have := HJ6.out; have := HK3.out; omega⟩, ⟨qR HO114.out⟩, ⟨qk BK101.out⟩, ⟨qb⟩⟩
              ·rw [if_neg c27] at H
               exact absurd H (by simp)
             ·rw [if_neg c26] at H; have c26b0 := beq_eq_false_iff_ne.mpr c26; have c26b1 := bne_iff_ne.mpr c26; simp only [Option.some.injEq, Prod.mk.injEq] at H; obtain ⟨rfl, rfl, rfl, rfl⟩ := H; have p105 : 0 ≤ (x10_1 : Int) := of_decide_eq_true qa; have q105 : x10_1 < (l1.length : Int) := of_decide_eq_true qa; obtain ⟨ad105, A105_1, c105_1, e105, hx105_0, hx105_1, hl105_1, hi105_1⟩ := at_T36 HR1.out x10_1 p105 q105; cases e105; replace hx105_0 := (HB.out.cell (World.block_lt_of_cell? w _ hx105_0)).trans hx105_0; replace hx105_1 := (HB.out.cell (World.block_lt_of_cell? w _ hx105_1)).trans hx105_1; have HR105_1 := Aside0.mk hi105_1; have HC105_1 := Aside0.mk hl105_1; clear hi105_1 hl105_1; (try simp only [Go.IntWalk.toNatUp] at hx105_0); (try simp only [Go.IntWalk.toNatUp] at hx105_1); replace p105 := eq_true p105; replace q105 := eq_true q105; have p106 : 0 ≤ (x10_1 : Int) := of_decide_eq_true qa; have q106 : x10_1 < (l1.length : Int) := of_decide_eq_true qa; obtain ⟨ad106, A106_1, c106_1, e106, hx106_0, hx106_1, hl106_1, hi106_1⟩ := at_T36 HR1.out x10_1 p106 q106; obtain rfl : ad105 = ad106 := (by injection e106); replace hx106_0 := (HB.out.cell (World.block_lt_of_cell? w _ hx106_0)).trans hx106_0; replace hx106_1 := (HB.out.cell (World.block_lt_of_cell? w _ hx106_1)).trans hx106_1; have HR106_1 := Aside0.mk hi106_1; have HC106_1 := Aside0.mk hl106_1; clear hi106_1 hl106_1; (try simp only [Go.IntWalk.toNatUp] at hx106_0); (try simp only [Go.IntWalk.toNatUp] at hx106_1); replace p106 := eq_true p106; replace q106 := eq_true q106; have ea_ := Option.some.inj (hx105_1.symm.trans hx106_1); injection ea_ with ea_ en_ ec_
              subst ea_; subst ec_; clear en_; have p107 : 0 ≤ (x11_3 : Int) := of_decide_eq_true qa; have q107 : x11_3 < (((rd_T36 l1 x10_1).f1).length : Int) := of_decide_eq_true qa; obtain ⟨ad107, e107, hx107_0, hx107_1⟩ := at_T104 HR106_1.out x11_3 p107 q107; cases e107; replace hx107_0 := (HB.out.cell (World.block_lt_of_cell? w _ hx107_0)).trans hx107_0; replace hx107_1 := (HB.out.cell (World.block_lt_of_cell? w _ hx107_1)).trans hx107_1; (try simp only [Go.IntWalk.toNatUp] at hx107_0); (try simp only [Go.IntWalk.toNatUp] at hx107_1); replace p107 := eq_true p107; replace q107 := eq_true q107
              try go_wp2_with (first | ((with_reducible refine gate_dst (N := 12) rfl ?_); (try (refine gate_guard (by rfl) ?_; dsimp only)); refine box_ev (N := 12) (cs := #[.int .i64 0, .int .i64 0]) (t := 104) ?_; intro gb108 hg w34 hbox hb; have BK108 := Aside0.mk (hbox); have GW108 := Aside0.mk ((qg : w.heap.size ≤ gb108)); have GE108 := Aside0.mk ((qg : w.heap.size ≤ gb108)); have NB101_108 := Aside0.mk ((by rw [hg]; exact Nat.ne_of_lt (blk_lt (g := gb101) (o := .cells #[.int .i64 x102000_3, .int .i64 x102001_3] 41 (0, 0)) (qk BK101.out)) : gb101 ≠ gb108)); have NB108_101 := Aside0.mk ((by rw [hg]; exact Nat.ne_of_gt (blk_lt (g := gb101) (o := .cells #[.int .i64 x102000_3, .int .i64 x102001_3] 41 (0, 0)) (qk BK101.out)) : gb108 ≠ gb101)); replace HO_9 := cR HO_9 hb; replace BK101 := cK BK101 hb; replace HB := cB HB hb; clear hb hbox hg; have hnb35 := NB108_101.out; have hnc35 := NB101_108.out; have hcz36_0 : w34.cell? ⟨gb108, 0, none⟩ = some (.int .i64 0) := (blk_cell BK108.out 0).trans rfl; have hcz36_1 : w34.cell? ⟨gb108, 1, none⟩ = some (.int .i64 0) := (blk_cell BK108.out 1).trans rfl; have hfz36_0 := blk_frozen BK108.out 0; have hfz36_1 := blk_frozen BK108.out 1; obtain ⟨Ao37, co37, eo37⟩ := Kd.R_slice HO_9.out; subst eo37) | ((with_reducible refine gate_callee (f := 55) rfl ?_); refine goesL_ (some 56) rfl rfl Tryz.func55 (by kernel_rfl) rfl #[.string a0, .agg #[.int .i64 ((rd_T104 ((rd_T36 l1 x10_1).f1) x11_3).f0), .int .i64 ((rd_T104 ((rd_T36 l1 x10_1).f1) x11_3).f1)]] rfl qm ?_; (with_reducible refine (entrepotref03_Text.calls a0 ((rd_T104 ((rd_T36 l1 x10_1).f1) x11_3).f0) ((rd_T104 ((rd_T36 l1 x10_1).f1) x11_3).f1) t109 _ A24.out).mono ?_); rintro e w38 ⟨rfl, hb⟩; refine ⟨_, rfl, ?_⟩; have n0_ := Aside0.mk (Kd.R_below (by refine qR ?_; exact (Kd.R_mono (Kd.R_far (p := ⟨gb108, 1, none⟩) (Kd.R_far (p := ⟨gb108, 0, none⟩) (Kd.R_types HO_9.out BK108.out (by decide)) (fun _ hk => hk.2) (.int .i64 ((rd_T104 ((rd_T36 l1 x10_1).f1) x11_3).f0))) (fun _ hk => hk.2) (.int .i64 ((rd_T104 ((rd_T36 l1 x10_1).f1) x11_3).f1))) (fun _ h_ => by first | exact h_.1 | exact ⟨trivial, h_.1⟩))) hb); have n1_ := Aside0.mk (blk_below (g := gb101) (o := .cells #[.int .i64 x102000_3, .int .i64 x102001_3] 41 (0, 0)) (by refine qk ?_; refine blk_far ?_ NB101_108.out _; refine qk ?_; refine blk_far ?_ NB101_108.out _; refine qk ?_; exact BK101.out) hb); have n2_ := Aside0.mk (blk_below (g := gb108) (o := .cells #[.int .i64 ((rd_T104 ((rd_T36 l1 x10_1).f1) x11_3).f0), .int .i64 ((rd_T104 ((rd_T36 l1 x10_1).f1) x11_3).f1)] 104 (0, 0)) (by refine qk ?_; refine blk_put (cs := #[.int .i64 ((rd_T104 ((rd_T36 l1 x10_1).f1) x11_3).f0), .int .i64 0]) ?_ 1 _ rfl; refine qk ?_; refine blk_put (cs := #[.int .i64 0, .int .i64 0]) ?_ 0 _ rfl; refine qk ?_; exact BK108.out) hb); replace HB := cB HB hb; replace HO_9 := n0_; replace BK101 := n1_; replace BK108 := n2_; clear n0_ n1_ n2_; (try clear hb); (try clear hb2); (try clear hk); (try clear hi)) | ((with_reducible refine gate_callee (f := 58) rfl ?_); refine goesL_ (some 57) rfl rfl Tryz.func58 (by kernel_rfl) rfl #[.string t109] rfl qm ?_; (with_reducible refine (entrepotref02_Int.calls k3 t109 t110 t111 _ A25.out).mono ?_); rintro e w' ⟨rfl, ⟨nd, rfl⟩⟩; refine ⟨_, rfl, ?_⟩; (try (rw [drewN_self w38]; generalize hq_ : World.drewN w38 _ = w38; have n0_ : Aside0 (Kd.R (Kd.int .i64) 3 w38 w.heap.size (fun _ => True) (.slice Ao37 x9_3.length co37) x9_3) := ⟨by rw [← hq_]; exact (qR HO_9.out)⟩; have n1_ : Aside0 (w38.heap[gb101]? = some (.cells #[.int .i64 x102000_3, .int .i64 x102001_3] 41 (0, 0))) := ⟨by rw [← hq_]; exact (qk BK101.out)⟩; have n2_ : Aside0 (w38.heap[gb108]? = some (.cells #[.int .i64 ((rd_T104 ((rd_T36 l1 x10_1).f1) x11_3).f0), .int .i64 ((rd_T104 ((rd_T36 l1 x10_1).f1) x11_3).f1)] 104 (0, 0))) := ⟨by rw [← hq_]; exact (qk BK108.out)⟩; have n3_ : Aside0 (Below w.heap.size w w38) := ⟨by rw [← hq_]; exact qb⟩; clear HO_9 BK101 BK108 HB hq_; have HO_9 := n0_; have BK101 := n1_; have BK108 := n2_; have HB := n3_; clear n0_ n1_ n2_ n3_))))
              have n0_ := Aside0.mk (Kd.R_drew HO_9.out); have n1_ := Aside0.mk (blk_drew BK101.out); have n2_ := Aside0.mk (blk_drew BK108.out); have n3_ := Aside0.mk (below_drew1 HB.out); clear HO_9; clear BK101; clear BK108; clear HB; have HO_9 := n0_; have BK101 := n1_; have BK108 := n2_; have HB := n3_; clear n0_ n1_ n2_ n3_; refine start_ (n := 7) (S := fun w' => w'.cell? ⟨gb108, 0, none⟩ = some (.int .i64 ((rd_T104 ((rd_T36 l1 x10_1).f1) x11_3).f0)) ∧ w'.cell? ⟨gb108, 1, none⟩ = some (.int .i64 ((rd_T104 ((rd_T36 l1 x10_1).f1) x11_3).f1))) (ds := []) #[false, false, false, false, false, false, false] (by kernel_rfl) rfl rfl ⟨(blk_cell BK108.out 0).trans rfl, (blk_cell BK108.out 1).trans rfl⟩ (fun hHeld => ?_); generalize w38.drew = w39 at HO_9 BK101 BK108 HB hHeld ⊢; refine pure_ (i := 0) (N := some 62) (v := ?_) (a' := ?_) #[true, false, false, false, false, false, false] rfl rfl (by kernel_rfl) (fun _ _ _ h => h) (Or.inl ⟨by rfl, ?_⟩) ?_ ?_
              rotate_left
              ·intro w'
               go_simp
               with_reducible rfl
              rotate_left
              ·simp only [Act.put, List.setIfInBounds_toArray, List.set_cons_zero, List.set_cons_succ, i64_w, i32_w]
               rfl
              refine pure_ (i := 2) (N := some 64) (v := ?_) (a' := ?_) #[true, false, true, false, false, false, false] rfl rfl (by kernel_rfl) (fun _ _ _ h => h) (Or.inl ⟨by rfl, ?_⟩) ?_ ?_
              rotate_left
              ·intro w'
               go_simp
               with_reducible rfl
              rotate_left
              ·simp only [Act.put, List.setIfInBounds_toArray, List.set_cons_zero, List.set_cons_succ, i64_w, i32_w]
               rfl
              refine pure_ (i := 4) (N := some 6) (v := ?_) (a' := ?_) #[true, false, true, false, true, false, false] rfl rfl (by kernel_rfl) (fun _ _ _ h => h) (Or.inl ⟨by rfl, ?_⟩) ?_ ?_
              rotate_left
              ·intro w'
               go_simp
               with_reducible rfl
              rotate_left
              ·simp only [Act.put, List.setIfInBounds_toArray, List.set_cons_zero, List.set_cons_succ, i64_w, i32_w]
               rfl
              refine pure_ (i := 5) (N := some 7) (v := ?_) (a' := ?_) #[true, false, true, false, true, true, false] rfl rfl (by kernel_rfl) (fun _ _ _ h => h) (Or.inl ⟨by rfl, ?_⟩) ?_ ?_
              rotate_left
              ·intro w'
               go_simp
               with_reducible rfl
              rotate_left
              ·simp only [Act.put, List.setIfInBounds_toArray, List.set_cons_zero, List.set_cons_succ, i64_w, i32_w]
               rfl
              refine take_ (i := 1) (N := some 63) (v := ?_) (a' := ?_) #[true, true, true, false, true, true, false] rfl rfl (by kernel_rfl) (fun _ _ _ h => h) (Or.inl ⟨by rfl, ?_⟩) hHeld ?_ ?_
              rotate_left
              ·rintro w' ⟨s0, s1⟩
               go_simp
               with_reducible rfl
              rotate_left
              ·simp only [Act.put, List.setIfInBounds_toArray, List.set_cons_zero, List.set_cons_succ, i64_w, i32_w]
               rfl
              refine pure_ (i := 3) (N := some 65) (v := ?_) (a' := ?_) #[true, true, true, true, true, true, false] rfl rfl (by kernel_rfl) (fun _ _ _ h => h) (Or.inl ⟨by rfl, ?_⟩) ?_ ?_
              rotate_left
              ·intro w'
               go_simp
               with_reducible rfl
              rotate_left
              ·simp only [Act.put, List.setIfInBounds_toArray, List.set_cons_zero, List.set_cons_succ, i64_w, i32_w]
               rfl
              refine one_ (i := 6) (N := none) #[true, true, true, true, true, true, true] rfl rfl (by kernel_rfl) (by decide) (fun K hK => ?_); have hs40 : w39.cell? ⟨gb101, 0, none⟩ = some (.int .i64 x102000_3) := (blk_cell BK101.out 0).trans rfl; have hfs40 := blk_frozen BK101.out 0; have hns40_1 := NB108_101.out; have hms40_1 := NB101_108.out; have hs41 : w39.cell? ⟨gb101, 1, none⟩ = some (.int .i64 x102001_3) := (blk_cell BK101.out 1).trans rfl; have hfs41 := blk_frozen BK101.out 1; have hns41_1 := NB108_101.out; have hms41_1 := NB101_108.out; refine skip_ (w1 := ?_) (by rfl) rfl ?_ ?_
              rotate_left
              ·go_simp
               rfl
              refine hK.out _ _ ⟨((cell_far (p := ⟨gb101, _, none⟩) NB108_101.out _).trans (((cell_far (p := ⟨gb101, _, none⟩) NB108_101.out _).trans (hHeld.1)))), ((cell_far (p := ⟨gb101, _, none⟩) NB108_101.out _).trans (((cell_far (p := ⟨gb101, _, none⟩) NB108_101.out _).trans (hHeld.2))))⟩ (fun hHeld => ?_); clear hK K; refine done_ (by kernel_rfl) ?_
              try go_wp2
              refine bodyPost_ret (results_list (rs := [.tmp 6, .tmp 7, .cell 8 41]) rfl (by simp) (.tmp (.tmp (.cell gb101 41 #[.int .i64 ((rd_T104 ((rd_T36 l1 x10_1).f1) x11_3).f0), .int .i64 t111] (0, 0) _ rfl (by refine qk ?_; refine blk_put (cs := #[.int .i64 ((rd_T104 ((rd_T36 l1 x10_1).f1) x11_3).f0), .int .i64 x102001_3]) ?_ 1 _ rfl; refine qk ?_; refine blk_put (cs := #[.int .i64 x102000_3, .int .i64 x102001_3]) ?_ 0 _ rfl; refine qk ?_; exact BK101.out) Tryz.underlying41 rfl (by kernel_rfl) .nil)))) rfl ?_
              exact ⟨_, qe, by first | exact Kd.R_nil _ _ _ _ _ | exact Kd.N_nil _ _ _ _ _ | exact Kd.V_nil _ _ _ _ _ | exact Kd.Q_nil _ _ _ _ _ | exact Kd.S_nil _ _ _ _ _, qb⟩
           ·rw [if_neg c14] at H
            exact absurd H (by simp)
          ·rw [if_neg c13] at H; have c13b0 := decide_eq_false c13; clear c13
           by_cases c42 : (x9_3.length : Int) ≥ a2
           ·rw [if_pos c42] at H; have c42b0 := decide_eq_true c42; clear c42; simp only [Option.some.injEq, Prod.mk.injEq] at H; obtain ⟨rfl, rfl, rfl, rfl⟩ := H; have p105 : 0 ≤ (x10_1 : Int) := of_decide_eq_true qa; have q105 : x10_1 < (l1.length : Int) := of_decide_eq_true qa; obtain ⟨ad105, A105_1, c105_1, e105, hx105_0, hx105_1, hl105_1, hi105_1⟩ := at_T36 HR1.out x10_1 p105 q105; cases e105; replace hx105_0 := (HB.out.cell (World.block_lt_of_cell? w _ hx105_0)).trans hx105_0; replace hx105_1 := (HB.out.cell (World.block_lt_of_cell? w _ hx105_1)).trans hx105_1; have HR105_1 := Aside0.mk hi105_1; have HC105_1 := Aside0.mk hl105_1; clear hi105_1 hl105_1; (try simp only [Go.IntWalk.toNatUp] at hx105_0); (try simp only [Go.IntWalk.toNatUp] at hx105_1); replace p105 := eq_true p105; replace q105 := eq_true q105; obtain ⟨Ao43, co43, eo43⟩ := Kd.R_slice HO_9.out; subst eo43; obtain ⟨hcz44_0, hcz44_1, hfz44_0, hfz44_1⟩ := bc2 BK101.out
            go_wp2
            refine bodyPost_ret (results_list (rs := [.tmp 6, .tmp 7, .cell 8 41]) rfl (by simp) (.tmp (.tmp (.cell gb101 41 #[.int .i64 0, .int .i64 0] (0, 0) _ rfl (by refine qk ?_; refine blk_put (cs := #[.int .i64 0, .int .i64 x102001_3]) ?_ 1 _ rfl; refine qk ?_; refine blk_put (cs := #[.int .i64 x102000_3, .int .i64 x102001_3]) ?_ 0 _ rfl; refine qk ?_; exact BK101.out) Tryz.underlying41 rfl (by kernel_rfl) .nil)))) rfl ?_
            exact ⟨_, qe, by refine qR ?_; exact Kd.R_mono (Kd.R_far (p := ⟨gb101, 1, none⟩) (Kd.R_far (p := ⟨gb101, 0, none⟩) (Kd.R_types HO_9.out BK101.out (by decide)) (fun _ hk => hk.2) (.int .i64 0)) (fun _ hk => hk.2) (.int .i64 0)) (fun _ hk => trivial), qb⟩
           ·rw [if_neg c42] at H; have c42b0 := decide_eq_false c42; clear c42; have H' := Aside0.mk H; clear H; have p105 : 0 ≤ (x10_1 : Int) := of_decide_eq_true qa; have q105 : x10_1 < (l1.length : Int) := of_decide_eq_true qa; obtain ⟨ad105, A105_1, c105_1, e105, hx105_0, hx105_1, hl105_1, hi105_1⟩ := at_T36 HR1.out x10_1 p105 q105; cases e105; replace hx105_0 := (HB.out.cell (World.block_lt_of_cell? w _ hx105_0)).trans hx105_0; replace hx105_1 := (HB.out.cell (World.block_lt_of_cell? w _ hx105_1)).trans hx105_1; have HR105_1 := Aside0.mk hi105_1; have HC105_1 := Aside0.mk hl105_1; clear hi105_1 hl105_1; (try simp only [Go.IntWalk.toNatUp] at hx105_0); (try simp only [Go.IntWalk.toNatUp] at hx105_1); replace p105 := eq_true p105; replace q105 := eq_true q105; obtain ⟨Ao45, co45, eo45⟩ := Kd.R_slice HO_9.out; subst eo45
            go_wp2
            go_roundg k3
            case measure => have := HK1.out; have := HJ6.out; have := HK3.out; omega
            case rel => exact ⟨(x9_3), (wrap64 (x10_1 + 1)), (x102000_3), (x102001_3), qr, H', ⟨by have := HK1.out; have := HJ6.out; have := HK3.out; omega⟩, ⟨qR HO_9.out⟩, ⟨qk BK101.out⟩, ⟨qb⟩⟩
         ·rw [if_neg c12] at H
          exact absurd H (by simp)
        ·rw [if_neg c11] at H
         exact absurd H (by simp)
     ·replace c10 := Bool.eq_false_iff.mpr c10; subst c10; have H1 : (if a2 > 0 then (some (([] : List Int), 0, (a0.size : Int), 4)) else (some (x9_1, 0, 0, 0))) = some (r1, r2, r3, r4) := by rw [if_neg (show ¬ (false = true) by decide)] at H; exact H
      clear H; have H := H1; clear H1
      by_cases c46 : a2 > 0
      ·rw [if_pos c46] at H; have c46b0 := decide_eq_true c46; clear c46; simp only [Option.some.injEq, Prod.mk.injEq] at H; obtain ⟨rfl, rfl, rfl, rfl⟩ := H; obtain ⟨hcz47_0, hcz47_1, hfz47_0, hfz47_1⟩ := bc2 BK101.out
       go_wp2
       refine bodyPost_ret (results_list (rs := [.tmp 6, .tmp 7, .cell 8 41]) rfl (by simp) (.tmp (.tmp (.cell gb101 41 #[.int .i64 (a0.size : Int), .int .i64 4] (0, 0) _ rfl (by refine qk ?_; refine blk_put (cs := #[.int .i64 (a0.size : Int), .int .i64 x102001_1]) ?_ 1 _ rfl; refine qk ?_; refine blk_put (cs := #[.int .i64 x102000_1, .int .i64 x102001_1]) ?_ 0 _ rfl; refine qk ?_; exact BK101.out) Tryz.underlying41 rfl (by kernel_rfl) .nil)))) rfl ?_
       exact ⟨_, qe, by first | exact Kd.R_nil _ _ _ _ _ | exact Kd.N_nil _ _ _ _ _ | exact Kd.V_nil _ _ _ _ _ | exact Kd.Q_nil _ _ _ _ _ | exact Kd.S_nil _ _ _ _ _, qb⟩
      ·rw [if_neg c46] at H; have c46b0 := decide_eq_false c46; clear c46; simp only [Option.some.injEq, Prod.mk.injEq] at H; obtain ⟨rfl, rfl, rfl, rfl⟩ := H; obtain ⟨hcz48_0, hcz48_1, hfz48_0, hfz48_1⟩ := bc2 BK101.out
       go_wp2
       refine bodyPost_ret (results_list (rs := [.tmp 6, .tmp 7, .cell 8 41]) rfl (by simp) (.tmp (.tmp (.cell gb101 41 #[.int .i64 0, .int .i64 0] (0, 0) _ rfl (by refine qk ?_; refine blk_put (cs := #[.int .i64 0, .int .i64 x102001_1]) ?_ 1 _ rfl; refine qk ?_; refine blk_put (cs := #[.int .i64 x102000_1, .int .i64 x102001_1]) ?_ 0 _ rfl; refine qk ?_; exact BK101.out) Tryz.underlying41 rfl (by kernel_rfl) .nil)))) rfl ?_
       exact ⟨_, qe, by refine qR ?_; exact Kd.R_mono (Kd.R_far (p := ⟨gb101, 1, none⟩) (Kd.R_far (p := ⟨gb101, 0, none⟩) (Kd.R_types HO_9.out BK101.out (by decide)) (fun _ hk => hk.2) (.int .i64 0)) (fun _ hk => hk.2) (.int .i64 0)) (fun _ hk => trivial), qb⟩

end Go.Proofs.YtadocbfchdendaaGreatDoor.P
namespace Go.Proofs.YtadocbfchdendaaGreatDoor.Cu
open Go.RowKit Go.Lib Go.Proofs.YtadocbfchdendaaGreatDoorW.PrintWords Go.Proofs.YtadocbfchdendaaGreatDoorW.PrintLast Go.Proofs.YtadocbfchdendaaGreatDoorW.PrintMore Go.Proofs.YtadocbfchdendaaGreatDoor.P Go.Proofs.YtadocbfchdendaaGreatDoor.Sp
set_option linter.unusedSimpArgs false
def num (s : ByteArray) (w : Wd) : Int × Int := intS (txt s w.f0 w.f1).data.toList
def eachR (s : ByteArray) : List Wd → List Int → List Int × Int × Int
  | [], acc => (acc, 0, 0)
  | w :: ws, acc => if (num s w).2 = 0 then eachR s ws (acc ++ [(num s w).1]) else ([], w.f0, (num s w).2)
theorem eachI_l (s : ByteArray) (hs : s.size < 1000000000) (ws : List Wd) (hl : ws.length < 1000000) (d : Nat) : ∀ (i k : Nat) (acc : List Int), i + d = ws.length → acc.length ≤ i → d < k →
    sheet_each_int.l0 k s acc ws (ws.length : Int) i 0 0 = some (eachR s (ws.drop i) acc) := by
  induction d with
  | zero =>
    intro i k acc hi hacc hk
    obtain ⟨k, rfl, hk⟩ := succ' hk
    simp only [sheet_each_int.l0]
    rw [if_neg (by omega), List.drop_of_length_le (by omega)]
    rfl
  | succ d ih =>
    intro i k acc hi hacc hk
    obtain ⟨k, rfl, hk⟩ := succ' hk
    obtain ⟨x, hx⟩ : ∃ x, ws[i]? = some x := ⟨_, List.getElem?_eq_getElem (show i < ws.length by omega)⟩
    have e1 : wrap64 ((i : Int) + 1) = ((i + 1 : Nat) : Int) := by rw [w64' (by omega) (by omega)]; omega
    have ht := txt_size s x.f0 x.f1
    have hI : fixed_Int.f (txt s x.f0 x.f1) = some (num s x) := by
      unfold fixed_Int.f
      rw [if_pos (by omega)]; rfl
    simp only [sheet_each_int.l0]
    rw [if_pos (by omega), if_pos (by omega), if_pos (by omega), rdW ws i x hx, Text_eq]
    simp only [Option.bind_some]
    rw [hI, drop_cons' ws i x hx]
    simp only [Option.bind_some, eachR]
    by_cases h0 : (num s x).2 = 0
    · rw [if_pos h0, if_pos h0, if_pos (by omega), e1]
      exact ih (i + 1) k _ (by omega) (by simp; omega) (by omega)
    · rw [if_neg h0, if_neg h0]
theorem eachI (s : ByteArray) (hs : s.size < 1000000000) (ws : List Wd) (hl : ws.length < 1000000) (k : Nat) (hk : ws.length < k) : sheet_each_int.f k s () ws = some (eachR s ws []) := by
  have := eachI_l s hs ws hl ws.length 0 k [] (by omega) (by simp) hk
  simpa [sheet_each_int.f] using this
theorem RInt_txt (s : ByteArray) (w : Wd) (k : Nat) (hk : 300 ≤ k) : entrepotref02_Int.f k (txt s w.f0 w.f1) = some (num s w) := by
  have := RInt_eq (txt s w.f0 w.f1).data.toList k hk
  rwa [show (⟨(txt s w.f0 w.f1).data.toList.toArray⟩ : ByteArray) = txt s w.f0 w.f1 by simp] at this
theorem ints_l (l : List Int) (hl : l.length < 100000000) (d : Nat) : ∀ (i k : Nat), i + d = l.length → d < k → entrepotref07_Ints.l0 k l l i = some true := by
  induction d with
  | zero =>
    intro i k hi hk
    obtain ⟨k, rfl, hk⟩ := succ' hk
    simp only [entrepotref07_Ints.l0]
    rw [if_neg (by omega)]
  | succ d ih =>
    intro i k hi hk
    obtain ⟨k, rfl, hk⟩ := succ' hk
    have e1 : wrap64 ((i : Int) + 1) = ((i + 1 : Nat) : Int) := by rw [w64' (by omega) (by omega)]; omega
    simp only [entrepotref07_Ints.l0]
    rw [if_pos (by omega), if_pos (by omega), if_pos (by omega), if_pos trivial, e1]
    exact ih (i + 1) k (by omega) (by omega)
theorem Ints_same (l : List Int) (hl : l.length < 100000000) (k : Nat) (hk : l.length < k) : entrepotref07_Ints.f k l l = some true := by
  unfold entrepotref07_Ints.f
  rw [if_pos rfl]
  exact ints_l l hl l.length 0 k (by omega) hk
end Go.Proofs.YtadocbfchdendaaGreatDoor.Cu
namespace Go.Proofs.YtadocbfchdendaaGreatDoor.P
open Go.RowKit Go.Proofs.YtadocbfchdendaaGreatDoorW.PrintWords Go.Proofs.YtadocbfchdendaaGreatDoorW.PrintLast Go.Proofs.YtadocbfchdendaaGreatDoorW.PrintMore
attribute [local go_sem] max2_int min2_int max_two min_two max_three min_three max_four min_four   -- for this text's walks alone
set_option linter.unusedVariables false
set_option linter.unusedSimpArgs false
mutual
def entrepotref13_Common.l0 : Nat → List (S51) → Int → Int → Option (List Int × Int × Int)
 | 0, _, _, _ => none
 | k + 1, x0, x5, x6 => if x6 < (x0.length : Int) then (if 0 ≤ x6 then (entrepotref13_Common.l0 k x0 (mx x5 ((rd_T51 x0 x6).f1)) (wrap64 (x6 + 1))) else (none)) else (entrepotref13_Common.l1 k x0 x5 (([] : List Int)) 0)
def entrepotref13_Common.l1 : Nat → List (S51) → Int → List Int → Int → Option (List Int × Int × Int)
 | 0, _, _, _, _ => none
 | k + 1, x0, x5, x7, x8 => if x8 < (x0.length : Int) then (if 0 ≤ x8 then ((entrepotref02_To.f k ((rd_T51 x0 x8).f0) ((rd_T51 x0 x8).f1) x5).bind fun bt106 => (if bt106.2 = 0 then (if x7.length < 17592186044416 then (entrepotref13_Common.l1 k x0 x5 (x7 ++ [bt106.1]) (wrap64 (x8 + 1))) else (none)) else (some (([] : List Int), 0, x8)))) else (none)) else (some (x7, x5, (-1)))
end
def entrepotref13_Common.f (k : Nat) (l0 : List (S51)) : Option (List Int × Int × Int) := entrepotref13_Common.l0 k l0 0 0
theorem entrepotref13_Common.mono_l : ∀ k, (∀ y0 y1 y2, LeO (entrepotref13_Common.l0 k y0 y1 y2) (entrepotref13_Common.l0 (k + 1) y0 y1 y2)) ∧ (∀ y0 y1 y2 y3, LeO (entrepotref13_Common.l1 k y0 y1 y2 y3) (entrepotref13_Common.l1 (k + 1) y0 y1 y2 y3))
 | 0 => ⟨fun _ _ _ r h => by simp [entrepotref13_Common.l0] at h, fun _ _ _ _ r h => by simp [entrepotref13_Common.l1] at h⟩
 | k + 1 => by
  obtain ⟨ih0, ih1⟩ := entrepotref13_Common.mono_l k; refine ⟨?_, ?_⟩
  ·intro y0 y1 y2
   unfold entrepotref13_Common.l0
   repeat' first
   | (with_reducible exact ih0 _ _ _)
   | (with_reducible exact ih1 _ _ _ _)
   | (with_reducible exact entrepotref02_To.mono _ _ _ _)
   | (with_reducible exact LeO.refl _)
   | (with_reducible exact LeO.none _)
   | (with_reducible refine LeO.ite ?_ ?_)
   | (with_reducible refine LeO.bind ?_ (fun _ => ?_))
   | exact ih0 _ _ _
   | exact ih1 _ _ _ _
   | exact entrepotref02_To.mono _ _ _ _
   | exact LeO.none _
   | refine LeO.ite ?_ ?_
   | refine LeO.bind ?_ (fun _ => ?_)
  ·intro y0 y1 y2 y3
   unfold entrepotref13_Common.l1
   repeat' first
   | (with_reducible exact ih0 _ _ _)
   | (with_reducible exact ih1 _ _ _ _)
   | (with_reducible exact entrepotref02_To.mono _ _ _ _)
   | (with_reducible exact LeO.refl _)
   | (with_reducible exact LeO.none _)
   | (with_reducible refine LeO.ite ?_ ?_)
   | (with_reducible refine LeO.bind ?_ (fun _ => ?_))
   | exact ih0 _ _ _
   | exact ih1 _ _ _ _
   | exact entrepotref02_To.mono _ _ _ _
   | exact LeO.none _
   | refine LeO.ite ?_ ?_
   | refine LeO.bind ?_ (fun _ => ?_)
theorem entrepotref13_Common.mono : ∀ a0 k, LeO (entrepotref13_Common.f k a0) (entrepotref13_Common.f (k + 1) a0) := by
 intro a0 k
 obtain ⟨ih0, ih1⟩ := entrepotref13_Common.mono_l k; unfold entrepotref13_Common.f
 repeat' first
   | (with_reducible exact ih0 _ _ _)
   | (with_reducible exact ih1 _ _ _ _)
   | (with_reducible exact entrepotref02_To.mono _ _ _ _)
   | (with_reducible exact LeO.refl _)
   | (with_reducible exact LeO.none _)
   | (with_reducible refine LeO.ite ?_ ?_)
   | (with_reducible refine LeO.bind ?_ (fun _ => ?_))
   | exact ih0 _ _ _
   | exact ih1 _ _ _ _
   | exact entrepotref02_To.mono _ _ _ _
   | exact LeO.none _
   | refine LeO.ite ?_ ?_
   | refine LeO.bind ?_ (fun _ => ?_)
set_option maxHeartbeats 8000000 in
set_option maxRecDepth 100000 in
theorem entrepotref13_Common.calls (k : Nat) (A0 : Option Addr) (c0 : Nat) (l0 : List (S51)) (r1 : List Int) (r2 : Int) (r3 : Int) (w : World) (hr0 : Kd.C k51 w A0 l0.length l0) (hc0 : l0.length ≤ c0) (h : entrepotref13_Common.f k l0 = some (r1, r2, r3)) :
  Calls Tryz.prog 25 #[.slice A0 l0.length c0] w fun e w' => ∃ v0_ : Value, e = .returned (.tuple #[v0_, .int .i64 r2, .int .i64 r3]) ∧ Kd.R (Kd.int .i64) 3 w' w.heap.size (fun _ => True) v0_ r1 ∧ Below w.heap.size w w' := by
 have hu51 := Tryz.underlying51; have HR0 := Aside0.mk hr0; have HC0 := Aside0.mk hc0; clear hr0 hc0; have HB := Aside0.mk (Below.refl w.heap.size w); have H : (entrepotref13_Common.l0 k l0 0 0) = some (r1, r2, r3) := h; clear h; have H' := Aside0.mk H; clear H; go_enter Tryz.func25, Tryz.ntmps25
 go_wp2
 (try simp only [Act.put, List.setIfInBounds_toArray, List.set_cons_zero, List.set_cons_succ])
 go_loopg [5, 6] k (fun kq v5 v6 w' => ∃ (x5_1 : Int) (x6_1 : Int), v5 = .int .i64 x5_1 ∧ v6 = .int .i64 x6_1 ∧ Aside0 (entrepotref13_Common.l0 kq l0 x5_1 x6_1 = some (r1, r2, r3)) ∧ Aside0 (kq ≤ k) ∧ Aside0 (Below w.heap.size w w'))
 case atStart => exact ⟨(0), (0), qr, qr, H', ⟨Nat.le_refl _⟩, ⟨qb⟩⟩
 case round =>
  clear H'; obtain ⟨x5_1, x6_1, rfl, rfl, HA, HK1, HB⟩ := hrel; cases gk with
  | zero => exact absurd HA.out (by simp [entrepotref13_Common.l0])
  | succ k1 =>
   have H := HA.out; clear HA; simp only [entrepotref13_Common.l0] at H
   by_cases c2 : x6_1 < (l0.length : Int)
   ·rw [if_pos c2] at H; have c2b0 := decide_eq_true c2; clear c2
    by_cases c3 : 0 ≤ x6_1
    ·rw [if_pos c3] at H; have c3b0 := decide_eq_true c3; clear c3; obtain ⟨ji4, hji4⟩ : ∃ j_ : Int, (mx x5_1 ((rd_T51 l0 x6_1).f1)) = j_ := ⟨_, rfl⟩; replace H : (entrepotref13_Common.l0 k1 l0 ji4 (wrap64 (x6_1 + 1))) = some (r1, r2, r3) := by first | (rw [hji4] at H; exact H) | (simp only [hji4] at H ⊢; exact H)
     have hji4_ : (if x5_1 < ((rd_T51 l0 x6_1).f1) then ((rd_T51 l0 x6_1).f1) else x5_1) = ji4 := hji4; have H' := Aside0.mk H; clear H; have p101 : 0 ≤ (x6_1 : Int) := of_decide_eq_true qa; have q101 : x6_1 < (l0.length : Int) := of_decide_eq_true qa; obtain ⟨ad101, e101, hx101_0, hx101_1⟩ := at_T51 HR0.out x6_1 p101 q101; cases e101; replace hx101_0 := (HB.out.cell (World.block_lt_of_cell? w _ hx101_0)).trans hx101_0; replace hx101_1 := (HB.out.cell (World.block_lt_of_cell? w _ hx101_1)).trans hx101_1; (try simp only [Go.IntWalk.toNatUp] at hx101_0); (try simp only [Go.IntWalk.toNatUp] at hx101_1); replace p101 := eq_true p101; replace q101 := eq_true q101
     go_wp2
     go_roundg k1
     case measure => have := HK1.out; omega
     case rel => exact ⟨(ji4), (wrap64 (x6_1 + 1)), (by first | rfl | (simp; done) | (simp only [← hji4] <;> (first | rfl | simp)) | (simp [*]; done)), qr, H', ⟨by have := HK1.out; omega⟩, ⟨qb⟩⟩
    ·rw [if_neg c3] at H
     exact absurd H (by simp)
   ·rw [if_neg c2] at H; have c2b0 := decide_eq_false c2; clear c2; obtain ⟨y102, hy102⟩ : ∃ y_ : List Int, y_ = (([] : List Int)) := ⟨_, rfl⟩; replace H : (entrepotref13_Common.l1 k1 l0 x5_1 y102 0) = some (r1, r2, r3) := by first | (rw [hy102]; with_reducible exact H) | (have H2_ := (Option.bind_some _ _).symm.trans H; rw [hy102]; with_reducible exact H2_) | (have H2_ := (Option.bind_some _ _).symm.trans H; with_reducible exact H2_) | with_reducible exact H | (rw [hy102]; exact H) | exact H
    have Ny102 := Aside0.mk hy102; clear hy102; have H' := Aside0.mk H; clear H
    go_wp2_with (first | ((with_reducible refine gate_dst (N := 24) rfl ?_); refine Kd.R_lit (Kd.int .i64) _ 3 ?hg (N := 24) ?hd (xs := ([] : List Int)) (inner := []) (ok := fun _ => True) (okp := fun _ => True) ?hr ?hp (fun _ hk => hk) trivial (Below.refl _ _) (Nat.le_refl _) (by simp) ?_; (case hd => rfl); (case hg => rfl); (case hr => first | (go_simp; done) | (go_simp; rfl)); (case hp => exact (Reps.none _ _)); intro v103 w5 ho6 hb hg_ hnew_; clear hg_ hnew_; (first | rw [← Ny102.out] at ho6 | (simp only [Int.reduceToNat] at ho6; rw [← Ny102.out] at ho6)); have HO104 := Aside0.mk (Kd.R_lower ho6 (below_size qb)); replace HB := cB HB hb; clear hb ho6))
    (try simp only [Act.put, List.setIfInBounds_toArray, List.set_cons_zero, List.set_cons_succ])
    go_loopg [7, 8] k1 (fun kq v7 v8 w' => ∃ (x7_2 : List Int) (x8_2 : Int), v8 = .int .i64 x8_2 ∧ Aside0 (entrepotref13_Common.l1 kq l0 x5_1 x7_2 x8_2 = some (r1, r2, r3)) ∧ Aside0 (kq ≤ k1) ∧ Aside0 (Kd.R (Kd.int .i64) 3 w' w.heap.size (fun _ => True) v7 x7_2) ∧ Aside0 (Below w.heap.size w w'))
    case atStart => exact ⟨(y102), (0), qr, H', ⟨Nat.le_refl _⟩, ⟨qR HO104.out⟩, ⟨qb⟩⟩
    case round =>
     clear H'; (try clear p1); (try clear q1); (try clear hx1); (try clear c2); (try clear c2b0); (try clear p2); (try clear c3); (try clear c3b0); (try clear p6); (try clear hx101_0); (try clear hx101_1); (try clear p101); (try clear q101); obtain ⟨x7_2, x8_2, rfl, HA, HK2, HO_7, HB⟩ := hrel; cases gk with
     | zero => exact absurd HA.out (by simp [entrepotref13_Common.l1])
     | succ k2 =>
      have H := HA.out; clear HA; simp only [entrepotref13_Common.l1] at H
      by_cases c7 : x8_2 < (l0.length : Int)
      ·rw [if_pos c7] at H; have c7b0 := decide_eq_true c7; clear c7
       by_cases c8 : 0 ≤ x8_2
       ·rw [if_pos c8] at H; have c8b0 := decide_eq_true c8; clear c8; replace H := Option.bind_eq_some_iff.mp H; obtain ⟨⟨t106, t107⟩, A90, H⟩ := H; (try dsimp only at H); have A9 := Aside0.mk A90; clear A90
        by_cases c10 : t107 = 0
        ·rw [if_pos c10] at H; have c10b0 := beq_iff_eq.mpr c10; have c10b1 := bne_eq_false_iff_eq.mpr c10; clear c10
         by_cases c11 : x7_2.length < 17592186044416
         ·rw [if_pos c11] at H; have LMc11 := Aside0.mk c11; clear c11; obtain ⟨y108, hy108⟩ : ∃ y_ : List Int, y_ = (x7_2 ++ [t106]) := ⟨_, rfl⟩; replace H : (entrepotref13_Common.l1 k2 l0 x5_1 y108 (wrap64 (x8_2 + 1))) = some (r1, r2, r3) := by first | (rw [hy108]; with_reducible exact H) | (have H2_ := (Option.bind_some _ _).symm.trans H; rw [hy108]; with_reducible exact H2_) | (have H2_ := (Option.bind_some _ _).symm.trans H; with_reducible exact H2_) | with_reducible exact H | (rw [hy108]; exact H) | exact H
          have Ny108 := Aside0.mk hy108; clear hy108; have H' := Aside0.mk H; clear H; have p105 : 0 ≤ (x8_2 : Int) := of_decide_eq_true qa; have q105 : x8_2 < (l0.length : Int) := of_decide_eq_true qa; obtain ⟨ad105, e105, hx105_0, hx105_1⟩ := at_T51 HR0.out x8_2 p105 q105; cases e105; replace hx105_0 := (HB.out.cell (World.block_lt_of_cell? w _ hx105_0)).trans hx105_0; replace hx105_1 := (HB.out.cell (World.block_lt_of_cell? w _ hx105_1)).trans hx105_1; (try simp only [Go.IntWalk.toNatUp] at hx105_0); (try simp only [Go.IntWalk.toNatUp] at hx105_1); replace p105 := eq_true p105; replace q105 := eq_true q105
          go_wp2_with (first | ((with_reducible refine gate_callee (f := 60) rfl ?_); refine goesL_ (some 37) rfl rfl Tryz.func60 (by kernel_rfl) rfl #[.agg #[.int .i64 ((rd_T51 l0 x8_2).f0), .int .i64 ((rd_T51 l0 x8_2).f1)], .int .i64 x5_1] rfl qm ?_; (with_reducible refine (entrepotref02_To.calls k2 ((rd_T51 l0 x8_2).f0) ((rd_T51 l0 x8_2).f1) x5_1 t106 t107 _ A9.out).mono ?_); rintro e w12 ⟨rfl, hb⟩; refine ⟨_, rfl, ?_⟩; replace HO_7 := cR HO_7 hb; replace HB := cB HB hb; (try clear hb); (try clear hb2); (try clear hk); (try clear hi)) | ((with_reducible refine gate_builtin (b := .append) (xs := #[.tmp 43, .tmp 45]) rfl ?_); at_builtin; refine Kd.R_append (Kd.int .i64) (w0 := w) w.heap.size rfl (.tmp 43) (.tmp 45) 38 3 (.int .i64 0) 8 rfl Tryz.underlying38 info3 rfl (by decide) (by omega) u7 x7_2 t106 [.int .i64 t106] (fun _ => True) (fun _ => False) rfl rfl ?aP (fun _ hk => hk.elim) ?aF ?aO ?aB ?aS ?aL ?_; (case aP => exact rfl); (case aB => exact qb); (case aF => exact (fun _ _ => trivial)); (case aO => exact (qR HO_7.out)); (case aS => exact (below_size qb)); (case aL => have := LMc11.out; omega); intro v109 w13 ho hb hg hat; rw [← Ny108.out] at ho; have n0_ := Aside0.mk (hb); have HO110 := Aside0.mk (ho); replace HB := n0_; clear n0_; clear HO_7; clear ho hb hg hat))
          go_roundg k2
          case measure => have := HK1.out; have := HK2.out; omega
          case rel => exact ⟨(y108), (wrap64 (x8_2 + 1)), qr, H', ⟨by have := HK1.out; have := HK2.out; omega⟩, ⟨qR HO110.out⟩, ⟨qb⟩⟩
         ·rw [if_neg c11] at H
          exact absurd H (by simp)
        ·rw [if_neg c10] at H; have c10b0 := beq_eq_false_iff_ne.mpr c10; have c10b1 := bne_iff_ne.mpr c10; simp only [Option.some.injEq, Prod.mk.injEq] at H; obtain ⟨rfl, rfl, rfl⟩ := H; have p105 : 0 ≤ (x8_2 : Int) := of_decide_eq_true qa; have q105 : x8_2 < (l0.length : Int) := of_decide_eq_true qa; obtain ⟨ad105, e105, hx105_0, hx105_1⟩ := at_T51 HR0.out x8_2 p105 q105; cases e105; replace hx105_0 := (HB.out.cell (World.block_lt_of_cell? w _ hx105_0)).trans hx105_0; replace hx105_1 := (HB.out.cell (World.block_lt_of_cell? w _ hx105_1)).trans hx105_1; (try simp only [Go.IntWalk.toNatUp] at hx105_0); (try simp only [Go.IntWalk.toNatUp] at hx105_1); replace p105 := eq_true p105; replace q105 := eq_true q105
         go_wp2_with (first | ((with_reducible refine gate_callee (f := 60) rfl ?_); refine goesL_ (some 37) rfl rfl Tryz.func60 (by kernel_rfl) rfl #[.agg #[.int .i64 ((rd_T51 l0 x8_2).f0), .int .i64 ((rd_T51 l0 x8_2).f1)], .int .i64 x5_1] rfl qm ?_; (with_reducible refine (entrepotref02_To.calls k2 ((rd_T51 l0 x8_2).f0) ((rd_T51 l0 x8_2).f1) x5_1 t106 t107 _ A9.out).mono ?_); rintro e w14 ⟨rfl, hb⟩; refine ⟨_, rfl, ?_⟩; replace HO_7 := cR HO_7 hb; replace HB := cB HB hb; (try clear hb); (try clear hb2); (try clear hk); (try clear hi)))
         go_ret3
         exact ⟨_, qe, by first | exact Kd.R_nil _ _ _ _ _ | exact Kd.N_nil _ _ _ _ _ | exact Kd.V_nil _ _ _ _ _ | exact Kd.Q_nil _ _ _ _ _ | exact Kd.S_nil _ _ _ _ _, qb⟩
       ·rw [if_neg c8] at H
        exact absurd H (by simp)
      ·rw [if_neg c7] at H; have c7b0 := decide_eq_false c7; clear c7; simp only [Option.some.injEq, Prod.mk.injEq] at H; obtain ⟨rfl, rfl, rfl⟩ := H
       go_wp2
       go_ret3
       exact ⟨_, qe, by refine qR ?_; exact HO_7.out, qb⟩

end Go.Proofs.YtadocbfchdendaaGreatDoor.P
namespace Go.Proofs.YtadocbfchdendaaGreatDoor.Cu
open Go.RowKit Go.Lib Go.Proofs.YtadocbfchdendaaGreatDoorW.PrintWords Go.Proofs.YtadocbfchdendaaGreatDoorW.PrintLast Go.Proofs.YtadocbfchdendaaGreatDoorW.PrintMore Go.Proofs.YtadocbfchdendaaGreatDoor.P Go.Proofs.YtadocbfchdendaaGreatDoor.Sp
set_option linter.unusedSimpArgs false
abbrev Nm := S50
abbrev RNm := S51
def toN (x : Nm) : RNm := ⟨x.f0, x.f1⟩
structure NOk (x : Nm) : Prop where
  lo : -1000000000000 ≤ x.f0
  hi : x.f0 ≤ 1000000000000
  s0 : 0 ≤ x.f1
  s6 : x.f1 ≤ 6
theorem NOk.num {x : Nm} (h : NOk x) : NumOk x.f0 x.f1.toNat := ⟨h.lo, h.hi, by have := h.s6; omega⟩
theorem rdN (l : List Nm) (i : Nat) (x : Nm) (h : l[i]? = some x) : rd_T50 l (i : Int) = x := by
  unfold rd_T50
  rw [Int.toNat_natCast, List.getD_eq_getElem?_getD, h]
  rfl
theorem rdRN (l : List RNm) (i : Nat) (x : RNm) (h : l[i]? = some x) : rd_T51 l (i : Int) = x := by
  unfold rd_T51
  rw [Int.toNat_natCast, List.getD_eq_getElem?_getD, h]
  rfl
theorem rdNN (l : List Nm) (i : Nat) (x : Nm) (h : l[i]? = some x) : rd_T51 (l.map toN) (i : Int) = toN x := rdRN _ i _ (by rw [List.getElem?_map, h]; rfl)
end Go.Proofs.YtadocbfchdendaaGreatDoor.Cu
namespace Go.Proofs.YtadocbfchdendaaGreatDoor.Cu
open Go.RowKit Go.Lib Go.Proofs.YtadocbfchdendaaGreatDoorW.PrintWords Go.Proofs.YtadocbfchdendaaGreatDoorW.PrintLast Go.Proofs.YtadocbfchdendaaGreatDoorW.PrintMore Go.Proofs.YtadocbfchdendaaGreatDoor.P Go.Proofs.YtadocbfchdendaaGreatDoor.Sp
set_option linter.unusedSimpArgs false
def intsR (s : ByteArray) (f : Int) (ws : List Wd) (n : Int) : List Int × Int × Int := if (ws.length : Int) = n then eachR s ws [] else ([], f, 3)
theorem SInts_eq (s : ByteArray) (hs : s.size < 1000000000) (f : Int) (ws : List Wd) (hl : ws.length < 1000000) (n : Int) (k : Nat) (hk : ws.length < k) : sheet_Ints.f k s f ws n = some (intsR s f ws n) := by
  unfold sheet_Ints.f intsR
  by_cases h : (ws.length : Int) = n
  · rw [if_pos h, if_pos h, eachI s hs ws hl k hk]; rfl
  · rw [if_neg h, if_neg h]
theorem rints_l (s : ByteArray) (f : Int) (ws : List Wd) (hl : ws.length < 1000000) (d : Nat) : ∀ (i k : Nat) (acc : List Int), i + d = ws.length → acc.length ≤ i → d + 300 < k →
    entrepotref13_Ints.l0 k s (ws.length : Int) acc i f (ws.map toW) = some (eachR s (ws.drop i) acc) := by
  induction d with
  | zero =>
    intro i k acc hi hacc hk
    obtain ⟨k, rfl, hk⟩ := succ' hk
    simp only [entrepotref13_Ints.l0]
    rw [if_neg (by omega), List.drop_of_length_le (by omega)]
    rfl
  | succ d ih =>
    intro i k acc hi hacc hk
    obtain ⟨k, rfl, hk⟩ := succ' hk
    obtain ⟨y, hy⟩ : ∃ y, ws[i]? = some y := ⟨_, List.getElem?_eq_getElem (show i < ws.length by omega)⟩
    have hyr : (ws.map toW)[i]? = some (toW y) := by rw [List.getElem?_map, hy]; rfl
    have e1 : wrap64 ((i : Int) + 1) = ((i + 1 : Nat) : Int) := by rw [w64' (by omega) (by omega)]; omega
    simp only [entrepotref13_Ints.l0]
    rw [if_pos (by omega), if_pos (by omega), if_pos (by rw [List.length_map]; omega), rdRW _ i _ hyr, drop_cons' ws i y hy, eachR, show (toW y).f0 = y.f0 from rfl, show (toW y).f1 = y.f1 from rfl, RText_eq]
    simp only [Option.bind_some]
    rw [RInt_txt s y k (by omega)]
    simp only [Option.bind_some]
    by_cases h0 : (num s y).2 = 0
    · rw [if_pos h0, if_pos h0, if_pos (by omega), e1]
      exact ih (i + 1) k _ (by omega) (by simp; omega) (by omega)
    · rw [if_neg h0, if_neg h0]
theorem RInts_eq (s : ByteArray) (f : Int) (ws : List Wd) (hl : ws.length < 1000000) (n : Int) (k : Nat) (hk : ws.length + 300 < k) : entrepotref13_Ints.f k s f (ws.map toW) n = some (intsR s f ws n) := by
  unfold entrepotref13_Ints.f intsR
  rw [List.length_map]
  by_cases h : (ws.length : Int) = n
  · rw [if_pos h, if_pos h, ← h]
    have := rints_l s f ws hl ws.length 0 k [] (by omega) (by simp) hk
    simpa using this
  · rw [if_neg h, if_neg h]
def numN (s : ByteArray) (w : Wd) : Int × Int × Int := readS (txt s w.f0 w.f1).data.toList
def eachN (s : ByteArray) : List Wd → List Nm → List Nm × Int × Int
  | [], acc => (acc, 0, 0)
  | w :: ws, acc => if (numN s w).2.2 = 0 then eachN s ws (acc ++ [⟨(numN s w).1, (numN s w).2.1⟩]) else ([], w.f0, (numN s w).2.2)
theorem eachN_l (s : ByteArray) (hs : s.size < 1000000000) (ws : List Wd) (hl : ws.length < 1000000) (d : Nat) : ∀ (i k : Nat) (acc : List Nm), i + d = ws.length → acc.length ≤ i → d < k →
    fixed_Num.l0 k s acc ws (ws.length : Int) i 0 0 = some (eachN s (ws.drop i) acc) := by
  induction d with
  | zero =>
    intro i k acc hi hacc hk
    obtain ⟨k, rfl, hk⟩ := succ' hk
    simp only [fixed_Num.l0]
    rw [if_neg (by omega), List.drop_of_length_le (by omega)]
    rfl
  | succ d ih =>
    intro i k acc hi hacc hk
    obtain ⟨k, rfl, hk⟩ := succ' hk
    obtain ⟨x, hx⟩ : ∃ x, ws[i]? = some x := ⟨_, List.getElem?_eq_getElem (show i < ws.length by omega)⟩
    have e1 : wrap64 ((i : Int) + 1) = ((i + 1 : Nat) : Int) := by rw [w64' (by omega) (by omega)]; omega
    have ht := txt_size s x.f0 x.f1
    have hI : fixed_Read.f (txt s x.f0 x.f1) = some (numN s x) := by
      unfold fixed_Read.f
      rw [if_pos (by omega)]; rfl
    simp only [fixed_Num.l0]
    rw [if_pos (by omega), if_pos (by omega), if_pos (by omega), rdW ws i x hx, Text_eq]
    simp only [Option.bind_some]
    rw [hI, drop_cons' ws i x hx]
    simp only [Option.bind_some, eachN]
    by_cases h0 : (numN s x).2.2 = 0
    · rw [if_pos h0, if_pos h0, if_pos (by omega), e1]
      exact ih (i + 1) k _ (by omega) (by simp; omega) (by omega)
    · rw [if_neg h0, if_neg h0]
theorem mx_mn (n : Int) (l : Nat) : mn (mx n 0) (l : Int) = ((min n.toNat l : Nat) : Int) := by unfold mn mx; split <;> split <;> omega
theorem drop_min {α : Type} (l : List α) (n : Nat) : l.drop (min n l.length) = l.drop n := by
  rcases Nat.le_total n l.length with h | h
  · rw [Nat.min_eq_left h]
  · rw [Nat.min_eq_right h, List.drop_of_length_le (Nat.le_refl _), List.drop_of_length_le h]
theorem SNums_eq (s : ByteArray) (hs : s.size < 1000000000) (f : Int) (ws : List Wd) (hl : ws.length < 1000000) (n : Int) (k : Nat) (hk : ws.length < k) : sheet_Nums.f k s f ws n = some (eachN s (ws.drop n.toNat) []) := by
  unfold sheet_Nums.f
  rw [mx_mn, if_pos (by omega), if_pos (by omega), Int.toNat_natCast, drop_min]
  have h := eachN_l s hs (ws.drop n.toNat) (by rw [List.length_drop]; omega) (ws.drop n.toNat).length 0 k [] (by omega) (by simp) (by rw [List.length_drop]; omega)
  have h' : fixed_Num.f k s () (ws.drop n.toNat) = some (eachN s (ws.drop n.toNat) []) := by simpa [fixed_Num.f] using h
  rw [h']
  rfl
theorem numN_len (s : ByteArray) (hs : s.size ≤ 1000) (w : Wd) (k : Nat) (hk : 1400 ≤ k) : entrepotref02_Read.f k (txt s w.f0 w.f1) = some (numN s w) := by
  have ht := txt_size s w.f0 w.f1
  have := RRead_eq (txt s w.f0 w.f1).data.toList (by show (txt s w.f0 w.f1).size ≤ 1000; omega) k hk
  rwa [show (⟨(txt s w.f0 w.f1).data.toList.toArray⟩ : ByteArray) = txt s w.f0 w.f1 by simp] at this
theorem rnums_l (s : ByteArray) (hs : s.size ≤ 1000) (f : Int) (ws : List Wd) (hl : ws.length < 1000000) (d : Nat) : ∀ (i k : Nat) (acc : List Nm), i + d = ws.length → acc.length ≤ i → d + 1400 < k →
    entrepotref13_Nums.l0 k s (acc.map toN) i f (ws.map toW) = some ((eachN s (ws.drop i) acc).1.map toN, (eachN s (ws.drop i) acc).2) := by
  induction d with
  | zero =>
    intro i k acc hi hacc hk
    obtain ⟨k, rfl, hk⟩ := succ' hk
    simp only [entrepotref13_Nums.l0]
    rw [if_neg (by rw [List.length_map]; omega), List.drop_of_length_le (by omega)]
    rfl
  | succ d ih =>
    intro i k acc hi hacc hk
    obtain ⟨k, rfl, hk⟩ := succ' hk
    obtain ⟨y, hy⟩ : ∃ y, ws[i]? = some y := ⟨_, List.getElem?_eq_getElem (show i < ws.length by omega)⟩
    have hyr : (ws.map toW)[i]? = some (toW y) := by rw [List.getElem?_map, hy]; rfl
    have e1 : wrap64 ((i : Int) + 1) = ((i + 1 : Nat) : Int) := by rw [w64' (by omega) (by omega)]; omega
    simp only [entrepotref13_Nums.l0]
    rw [if_pos (by rw [List.length_map]; omega), if_pos (by omega), rdRW _ i _ hyr, drop_cons' ws i y hy, eachN, show (toW y).f0 = y.f0 from rfl, show (toW y).f1 = y.f1 from rfl, RText_eq]
    simp only [Option.bind_some]
    rw [numN_len s hs y k (by omega)]
    simp only [Option.bind_some]
    by_cases h0 : (numN s y).2.2 = 0
    · rw [if_pos h0, if_pos h0, if_pos (by rw [List.length_map]; omega), e1]
      have := ih (i + 1) k (acc ++ [⟨(numN s y).1, (numN s y).2.1⟩]) (by omega) (by simp; omega) (by omega)
      rw [List.map_append] at this
      exact this
    · rw [if_neg h0, if_neg h0]; rfl
theorem RNums_eq (s : ByteArray) (hs : s.size ≤ 1000) (f : Int) (ws : List Wd) (hl : ws.length < 1000000) (n : Int) (hn : n ≤ 9223372036854775807) (k : Nat) (hk : ws.length + 1500 < k) :
    entrepotref13_Nums.f k s f (ws.map toW) n = some ((eachN s (ws.drop n.toNat) []).1.map toN, (eachN s (ws.drop n.toNat) []).2) := by
  unfold entrepotref13_Nums.f
  have e : mx n 0 = (n.toNat : Int) := by unfold mx; split <;> omega
  rw [e]
  by_cases h : n.toNat ≤ ws.length
  · exact rnums_l s hs f ws hl (ws.length - n.toNat) n.toNat k [] (by omega) (by simp) (by omega)
  · obtain ⟨k, rfl, hk⟩ := succ' (show 0 < k by omega)
    simp only [entrepotref13_Nums.l0]
    rw [if_neg (by rw [List.length_map]; omega), List.drop_of_length_le (by omega)]
    rfl
end Go.Proofs.YtadocbfchdendaaGreatDoor.Cu
namespace Go.Proofs.YtadocbfchdendaaGreatDoor.Cu
open Go.RowKit Go.Lib Go.Proofs.YtadocbfchdendaaGreatDoorW.PrintWords Go.Proofs.YtadocbfchdendaaGreatDoorW.PrintLast Go.Proofs.YtadocbfchdendaaGreatDoorW.PrintMore Go.Proofs.YtadocbfchdendaaGreatDoor.P Go.Proofs.YtadocbfchdendaaGreatDoor.Sp
set_option linter.unusedSimpArgs false
theorem nums_l (l : List Nm) (hl : l.length < 1000000) (d : Nat) : ∀ (i k : Nat), i + d = l.length → d < k → entrepotlaw13_nums.l0 k l (l.map toN) i = some true := by
  induction d with
  | zero =>
    intro i k hi hk
    obtain ⟨k, rfl, hk⟩ := succ' hk
    simp only [entrepotlaw13_nums.l0]
    rw [if_neg (by omega)]
  | succ d ih =>
    intro i k hi hk
    obtain ⟨k, rfl, hk⟩ := succ' hk
    obtain ⟨x, hx⟩ : ∃ x, l[i]? = some x := ⟨_, List.getElem?_eq_getElem (show i < l.length by omega)⟩
    have e1 : wrap64 ((i : Int) + 1) = ((i + 1 : Nat) : Int) := by rw [w64' (by omega) (by omega)]; omega
    simp only [entrepotlaw13_nums.l0]
    rw [if_pos (by omega), if_pos (by omega), if_pos (by rw [List.length_map]; omega), rdN l i x hx, rdNN l i x hx, if_neg (by simp [toN]), e1]
    exact ih (i + 1) k (by omega) (by omega)
theorem nums_same (l : List Nm) (hl : l.length < 1000000) (k : Nat) (hk : l.length < k) : entrepotlaw13_nums.f k l (l.map toN) = some true := by
  unfold entrepotlaw13_nums.f
  rw [if_pos (by rw [List.length_map])]
  exact nums_l l hl l.length 0 k (by omega) hk
theorem eachR_len (s : ByteArray) (ws : List Wd) : ∀ acc, (eachR s ws acc).1.length ≤ acc.length + ws.length := by
  induction ws with
  | nil => intro acc; simp [eachR]
  | cons w ws ih =>
    intro acc
    rw [eachR]
    split
    · have := ih (acc ++ [(num s w).1]); simp at this ⊢; omega
    · simp
theorem eachN_len (s : ByteArray) (ws : List Wd) : ∀ acc, (eachN s ws acc).1.length ≤ acc.length + ws.length := by
  induction ws with
  | nil => intro acc; simp [eachN]
  | cons w ws ih =>
    intro acc
    rw [eachN]
    split
    · have := ih (acc ++ [⟨(numN s w).1, (numN s w).2.1⟩]); simp at this ⊢; omega
    · simp
theorem intsR_len (s : ByteArray) (f : Int) (ws : List Wd) (n : Int) : (intsR s f ws n).1.length ≤ ws.length := by
  unfold intsR
  split
  · have := eachR_len s ws []; simpa using this
  · simp
theorem numbers_l (s : ByteArray) (hs : s.size ≤ 500) (n m : Int) (hm : m ≤ 9223372036854775807) (L : List Row) (hlen : L.length ≤ 500) (hw : ∀ x ∈ L, x.f1.length ≤ 501) (d : Nat) : ∀ (i k : Nat), i + d = L.length → d + 3000 < k →
    entrepotlaw13_SheetNumbers.l0 k s n m L (L.map toRow) i = some true := by
  induction d with
  | zero =>
    intro i k hi hk
    obtain ⟨k, rfl, hk⟩ := succ' hk
    simp only [entrepotlaw13_SheetNumbers.l0]
    rw [if_neg (by omega)]
  | succ d ih =>
    intro i k hi hk
    obtain ⟨k, rfl, hk⟩ := succ' hk
    obtain ⟨x, hx⟩ : ∃ x, L[i]? = some x := ⟨_, List.getElem?_eq_getElem (show i < L.length by omega)⟩
    have hxr : (L.map toRow)[i]? = some (toRow x) := by rw [List.getElem?_map, hx]; rfl
    have hxm := hw x (List.mem_of_getElem? hx)
    have e1 : wrap64 ((i : Int) + 1) = ((i + 1 : Nat) : Int) := by rw [w64' (by omega) (by omega)]; omega
    have l1 := intsR_len s x.f0 x.f1 n
    have l2 := eachN_len s (x.f1.drop m.toNat) []
    rw [List.length_drop] at l2
    have l3 : ([] : List Nm).length = 0 := rfl
    simp only [entrepotlaw13_SheetNumbers.l0]
    rw [if_pos (by omega), if_pos (by omega), rdS L i x hx, rdRR _ i _ hxr, SInts_eq s (by omega) x.f0 x.f1 (by omega) n k (by omega)]
    simp only [Option.bind_some]
    rw [if_pos (by rw [List.length_map]; omega), show (toRow x).f0 = x.f0 from rfl, show (toRow x).f1 = x.f1.map toW from rfl, RInts_eq s x.f0 x.f1 (by omega) n k (by omega)]
    simp only [Option.bind_some]
    rw [SNums_eq s (by omega) x.f0 x.f1 (by omega) m k (by omega)]
    simp only [Option.bind_some]
    rw [RNums_eq s (by omega) x.f0 x.f1 (by omega) m hm k (by omega)]
    simp only [Option.bind_some]
    rw [Ints_same _ (by omega) k (by omega)]
    simp only [Option.bind_some, if_true, beq_self_eq_true, Bool.not_true, Bool.or_self, Bool.false_eq_true, if_false]
    rw [nums_same _ (by omega) k (by omega)]
    simp only [Option.bind_some, if_true, beq_self_eq_true, Bool.not_true, Bool.or_self, Bool.false_eq_true, if_false]
    rw [e1]
    exact ih (i + 1) k (by omega) (by omega)
end Go.Proofs.YtadocbfchdendaaGreatDoor.Cu
namespace Go.Proofs.YtadocbfchdendaaGreatDoor.Pure
open Go.RowKit Go.Proofs.YtadocbfchdendaaGreatDoor.P Go.Proofs.YtadocbfchdendaaGreatDoor.Cu
theorem SheetNumbers : entrepotlaw13_SheetNumbers.Pure := by
  intro s n m _ _ hm
  refine ⟨1000000, ?_⟩
  have hm2 : m ≤ 9223372036854775807 := by
    simp only [Lit.wf, Bool.and_eq_true] at hm
    exact of_decide_eq_true hm.2
  unfold entrepotlaw13_SheetNumbers.f
  split
  · simp only [entrepotlaw13_SheetNumbers.j0, if_true]
    rw [up13 999999 (by omega)]
    rfl
  · rename_i h1
    rw [up13 1000000 (by omega)]
    simp only [Option.bind_some, Bool.not_true]
    rw [show (1000000 : Nat) = 999999 + 1 from rfl]
    simp only [entrepotlaw13_SheetNumbers.j0, Bool.false_eq_true, if_false]
    have hL : s.data.toList.length = s.size := rfl
    have h3 := shR_len s.data.toList 0
    have h4 := shR_words s.data.toList 0
    have h5 : (shR s.data.toList 0).length * (501 + 2) ≤ 500 * 503 := Nat.mul_le_mul (by omega) (by omega)
    rw [Rows_sheet s (by omega) 0 999999 (by omega)]
    simp only [Option.bind_some]
    rw [Rows_ref s (by omega) 0 999999 (by omega)]
    simp only [Option.bind_some]
    rw [its_eq _ (by omega) 501 (by omega) (fun x hx => by have := h4 x hx; omega) 999999 (by omega)]
    simp only [Option.bind_some]
    rw [Same13 _ (by rw [List.length_map]; omega) 501 (by omega) (by
      intro x hx
      obtain ⟨y, hy, rfl⟩ := List.mem_map.1 hx
      have := h4 y hy
      show (y.f1.map toW).length ≤ 501
      rw [List.length_map]; omega) 999999 (by rw [List.length_map]; omega)]
    simp only [Option.bind_some, if_true]
    exact numbers_l s (by omega) n m hm2 _ (by omega) (fun x hx => by have := h4 x hx; omega) (shR s.data.toList 0).length 0 999999 (by omega) (by omega)
end Go.Proofs.YtadocbfchdendaaGreatDoor.Pure
namespace Go.Proofs.YtadocbfchdendaaGreatDoor.lawSheetNumbers
open Go Go.ChangeShapes Go.WideShapes Go.ChangeAt Go.RowKit
open Go.ChangeMaps (open_string shut_string)
set_option linter.unusedVariables false
set_option linter.unusedSimpArgs false
theorem own : ownKnob Tryz.prog.godebug = none := by kernel_rfl
theorem laidOut : laidOutB Tryz.prog = true := by kernel_rfl
set_option maxRecDepth 100000 in
theorem lifted (os : Os) (started : os.Started) (H : Type) (enc : TypeId × Value → H) :
    ReturnsInHanded {} Tryz.checked os 7 .any (fun w args => (Rows.sheetNumbersSpec.pre enc Tryz.prog Tryz.f7 [] false w args ∧ laidMetH Tryz.prog [("math/bits.deBruijn32tab", Rows.laid_math_bits_deBruijn32tab), ("math/bits.deBruijn64tab", Rows.laid_math_bits_deBruijn64tab), ("internal/strconv.uint64pow10", Rows.laid_internal_strconv_uint64pow10), ("unicode/utf8.acceptRanges", Rows.laid_unicode_utf8_acceptRanges), ("strconv.ErrRange", Rows.laid_strconv_ErrRange), ("strconv.ErrSyntax", Rows.laid_strconv_ErrSyntax), ("unicode/utf8.first", Rows.laid_unicode_utf8_first)] w) ∧ sizedMet enc Tryz.prog Tryz.f7 (OpenSpec.ofChange Rows.sheetNumbersSpec) false w args)
      (Rows.sheetNumbersSpec.post enc Tryz.prog Tryz.f7 false true false false) := by
  refine returnsInHanded_of_change_and (C := Tryz.checked) (X := fun w _ => laidMetH Tryz.prog [("math/bits.deBruijn32tab", Rows.laid_math_bits_deBruijn32tab), ("math/bits.deBruijn64tab", Rows.laid_math_bits_deBruijn64tab), ("internal/strconv.uint64pow10", Rows.laid_internal_strconv_uint64pow10), ("unicode/utf8.acceptRanges", Rows.laid_unicode_utf8_acceptRanges), ("strconv.ErrRange", Rows.laid_strconv_ErrRange), ("strconv.ErrSyntax", Rows.laid_strconv_ErrSyntax), ("unicode/utf8.first", Rows.laid_unicode_utf8_first)] w) (fun _ _ _ hh h => h.of_heap hh) own started (by kernel_rfl) Tryz.func7
    (ChangeSpec.witness_shaped (enc := enc) (C := Tryz.checked) (os := os) (X := fun w _ => laidMetH Tryz.prog [("math/bits.deBruijn32tab", Rows.laid_math_bits_deBruijn32tab), ("math/bits.deBruijn64tab", Rows.laid_math_bits_deBruijn64tab), ("internal/strconv.uint64pow10", Rows.laid_internal_strconv_uint64pow10), ("unicode/utf8.acceptRanges", Rows.laid_unicode_utf8_acceptRanges), ("strconv.ErrRange", Rows.laid_strconv_ErrRange), ("strconv.ErrSyntax", Rows.laid_strconv_ErrSyntax), ("unicode/utf8.first", Rows.laid_unicode_utf8_first)] w) false (World.laidAll Tryz.prog os [("math/bits.deBruijn32tab", Rows.laid_math_bits_deBruijn32tab), ("math/bits.deBruijn64tab", Rows.laid_math_bits_deBruijn64tab), ("internal/strconv.uint64pow10", Rows.laid_internal_strconv_uint64pow10), ("unicode/utf8.acceptRanges", Rows.laid_unicode_utf8_acceptRanges), ("strconv.ErrRange", Rows.laid_strconv_ErrRange), ("strconv.ErrSyntax", Rows.laid_strconv_ErrSyntax), ("unicode/utf8.first", Rows.laid_unicode_utf8_first)]) #[.string ByteArray.empty, .int .i64 0, .int .i64 0] 8 (World.laidAll_os _ _ _) (World.shaped_of_ZipB (by kernel_rfl) (by kernel_rfl)) (by kernel_rfl) (by kernel_rfl) (by kernel_rfl) (by rw [MakeChecks.laidMetH_plain _ _ _ (by kernel_rfl)]; exact laidMet_laidAll _ (by kernel_rfl) (by kernel_rfl))) ?_
  intro W base args ds gs before hval0 hW _ hsz0 hL _
  have hsz : (DataW.weightsEach Tryz.prog (Tryz.f7.params.toList ++ Rows.sheetNumbersSpec.plain.varTypes Tryz.prog) (ds ++ gs)).all (· ≤ reachBytes) = true := hsz0
  have hval : ∀ (j : Nat) t v, Tryz.f7.params[j]? = some t → args[j]? = some v → Value.okWide Tryz.prog W .any base t v := hval0
  have hW' := hW
  obtain ⟨p, q, hA0, hV, rfl, hfz, hnd⟩ := hW
  have hA : DataW.TrodAll enc Tryz.prog W 0 (fun _ => true) true Tryz.f7.params.toList args.toList ds p := hA0
  rw [Tryz.params7] at hA hval hsz
  obtain ⟨v0, vs0, d0, ds0, p0, q0, hargs, rfl, rfl, h0, r0⟩ := trodAll_cons hA
  obtain ⟨v1, vs1, d1, ds1, p1, q1, rfl, rfl, rfl, h1, r1⟩ := trodAll_cons r0
  obtain ⟨v2, vs2, d2, ds2, p2, q2, rfl, rfl, rfl, h2, r2⟩ := trodAll_cons r1
  obtain ⟨rfl, rfl, rfl⟩ := trodAll_nil r2
  obtain rfl : args = #[v0, v1, v2] := by cases args; simp_all
  obtain ⟨rfl, rfl⟩ := trodVars_none hV
  have k0 := h0
  have lt0 : ∀ x ∈ p0, x.block < W.heap.size := by obtain ⟨m, hm⟩ := k0; exact DataW.trod_lt m _ _ _ hm
  obtain ⟨a0, rfl, rfl, rfl, y0⟩ := open_string Tryz.underlying9 (hval 0 9 v0 rfl rfl) h0
  have wa0 : a0.size ≤ 140737488351232 := by
    have z := sized_string hsz (j := 0) (t := 9) rfl rfl
    rw [Array.length_toList] at z
    exact z
  have k1 := h1
  have lt1 : ∀ x ∈ p1, x.block < W.heap.size := by obtain ⟨m, hm⟩ := k1; exact DataW.trod_lt m _ _ _ hm
  obtain ⟨a1, rfl, rfl, rfl, wa1⟩ := open_int Tryz.underlying3 (hval 1 3 v1 rfl rfl) h1
  have k2 := h2
  have lt2 : ∀ x ∈ p2, x.block < W.heap.size := by obtain ⟨m, hm⟩ := k2; exact DataW.trod_lt m _ _ _ hm
  obtain ⟨a2, rfl, rfl, rfl, wa2⟩ := open_int Tryz.underlying3 (hval 2 3 v2 rfl rfl) h2
  clear hA0 hval0 hsz0 hsz
  obtain ⟨k, hk⟩ := Pure.SheetNumbers a0 a1 a2 wa0 wa1 wa2
  refine (P.entrepotlaw13_SheetNumbers.calls k a0 a1 a2 true W hk).mono fun e W' hp => ?_
  obtain ⟨he, hb⟩ := hp
  subst he
  have bel : Below W.heap.size W W' := hb
  exact ⟨_, rfl, _, _, _, [], _, [], hW', trodAll_mk1 (shut_bool Tryz.underlying4 _), trodAll_cons_mk (Below.trod laidOut (by kernel_rfl) (of_decide_eq_true (by kernel_rfl)) k0 bel lt0) (trodAll_cons_mk (Below.trod laidOut (by kernel_rfl) (of_decide_eq_true (by kernel_rfl)) k1 bel lt1) (trodAll_cons_mk (Below.trod laidOut (by kernel_rfl) (of_decide_eq_true (by kernel_rfl)) k2 bel lt2) trodAll_mk0)), rfl, bel.frame _, fun h => by cases h⟩
theorem over : Rows.sheetNumbersRow.holds Tryz.pinned (OpenSpec.ofChange Rows.sheetNumbersSpec) :=
  OpenClaim.holds_of_wide 7 Tryz.f7 rfl rfl rfl rfl rfl rfl rfl ⟨rfl, rfl, rfl, rfl, rfl⟩ rfl rfl rfl rfl rfl (by kernel_rfl) Tryz.func7 (by kernel_rfl)
    (of_decide_eq_true (by kernel_rfl)) (by unfold Func.isWrapper; first | (rw [if_pos (by decide +kernel)]; kernel_rfl) | (rw [if_neg (by decide +kernel)]; exact ⟨rfl, rfl⟩))
    (fun os started H enc _ => lifted os started H enc)
theorem card_holds : Rows.SheetNumbersCardSaid :=
  Claim7.holds_tied_plain_at .later [] [.data, .data, .data, .data, .sentinel, .sentinel, .pinned] true (true, "50ff171a6ebaa1dc44acd7db4d9128ea4c6fd5289ca809cb7593c385ab16d17b") true
    over (fun _ h => by cases h) (by kernel_rfl) (fun _ h => by cases h) sheetNumbers_row_tie rfl ⟨rfl, rfl⟩ (by kernel_rfl) rfl
    (fun f fn hf hfn => by
      obtain rfl : f = 7 := Option.some.inj ((show Tryz.prog.funcNamed "entrepot/entrepotlaw13.SheetNumbers" = some 7 by kernel_rfl).symm.trans hf) |>.symm
      obtain rfl : fn = Tryz.f7 := (Option.some.inj (Tryz.func7.symm.trans hfn)).symm
      exact ⟨by kernel_rfl, fun j t ht => by
        rw [Tryz.params7] at ht
        have hm : t ∈ [9, 3, 3] := by simpa using Array.mem_of_getElem? ht
        have hall : ([9, 3, 3].all fun u => !Tryz.prog.wantsStandIn u) = true := by kernel_rfl
        exact (show Tryz.prog.wantsStandIn t = false by simpa using List.all_eq_true.1 hall t hm)⟩)
    (by kernel_rfl)
#print axioms card_holds
end Go.Proofs.YtadocbfchdendaaGreatDoor.lawSheetNumbers
namespace Go.Proofs.YtadocbfchdendaaGreatDoor
theorem lawSheetNumbers_holds : Rows.SheetNumbersCardSaid := lawSheetNumbers.card_holds
end Go.Proofs.YtadocbfchdendaaGreatDoor
