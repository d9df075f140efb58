/- Part 3 of the proof of TourBack: contracts of functions, and the words that they use. -/
import Derived.Test.YtadocbfchdendaaGreatDoorMTourBackB
import Derived.Lib.Hide
import Derived.Test.YtadocbfchdendaaGreatDoorMTourBackA
import Derived.Deep.LoopGhost
import Derived.Laws.EntriesVeiled
import Derived.Deep.DeepCutAuto
import Derived.Deep.CutBlock
import Derived.Deep.RegionHeld3
import Derived.WalkMore
set_option linter.unusedVariables false
set_option linter.unusedSimpArgs false
namespace Go.Proofs.YtadocbfchdendaaGreatDoor.Sp
set_option linter.unusedSimpArgs false
set_option linter.unusedVariables false
theorem dv_snoc (l : List UInt8) (c : UInt8) : dv (l ++ [c]) = 10 * dv l + (c.toNat - 48) := by simp [dv]
theorem dv_dec (u : Nat) : dv (Lib.decDigits u) = u := by
  induction u using Nat.strongRecOn with
  | _ u ih =>
    by_cases h : u < 10
    · rw [Lib.decDigits_one h]
      simp [dv]
      omega
    · rw [Lib.decDigits, dif_neg h, dv_snoc, ih (u / 10) (by omega)]
      simp
      omega
theorem dec_dig (u : Nat) : ∀ c ∈ Lib.decDigits u, dig c = true := by
  induction u using Nat.strongRecOn with
  | _ u ih =>
    by_cases h : u < 10
    · rw [Lib.decDigits_one h]
      intro c hc
      simp only [List.mem_singleton] at hc
      subst hc
      simp [dig]; omega
    · rw [Lib.decDigits, dif_neg h]
      intro c hc
      rcases List.mem_append.1 hc with hc | hc
      · exact ih (u / 10) (by omega) c hc
      · simp only [List.mem_singleton] at hc
        subst hc
        simp [dig]; omega
theorem dec_ne (u : Nat) : Lib.decDigits u ≠ [] := by
  intro h
  have := Lib.decDigits_length u
  rw [h] at this
  have := Lib.nDigits_pos u
  simp at *
  omega
theorem not_pre {l : List UInt8} {c : UInt8} {k : UInt8} (h : l.head? ≠ some k) : Lib.hasPrefix l [k] = false := by
  unfold Lib.hasPrefix
  cases l with
  | nil => rfl
  | cons a r =>
    have : a ≠ k := fun e => h (by rw [e]; rfl)
    simp [List.isPrefixOf, Ne.symm this]
theorem pre_cons (r : List UInt8) (k : UInt8) : Lib.hasPrefix (k :: r) [k] = true := by simp [Lib.hasPrefix, List.isPrefixOf]
theorem trim_cons (r : List UInt8) (k : UInt8) : Lib.trimPrefix (k :: r) [k] = r := by unfold Lib.trimPrefix; rw [if_pos (pre_cons r k)]; rfl
theorem trim_not {l : List UInt8} {k : UInt8} (h : Lib.hasPrefix l [k] = false) : Lib.trimPrefix l [k] = l := by unfold Lib.trimPrefix; rw [if_neg (by rw [h]; simp)]
theorem tw_stop {a r : List UInt8} (ha : ∀ c ∈ a, dig c = true) (hr : ∀ c, r.head? = some c → dig c = false) : (a ++ r).takeWhile dig = a ∧ (a ++ r).dropWhile dig = r := by
  induction a with
  | nil =>
    cases r with
    | nil => exact ⟨rfl, rfl⟩
    | cons c t => have := hr c rfl; simp [List.takeWhile_cons, List.dropWhile_cons, this]
  | cons c t ih =>
    obtain ⟨h1, h2⟩ := ih (fun x hx => ha x (by simp [hx]))
    have := ha c (by simp)
    simp [List.takeWhile_cons, List.dropWhile_cons, this, h1, h2]
def sgnT (neg : Bool) : List UInt8 := if neg = true then [45] else []
theorem sgnT_trim (neg : Bool) (b : List UInt8) (hb : b.head? ≠ some 45) : Lib.trimPrefix (sgnT neg ++ b) [45] = b ∧ Lib.hasPrefix (sgnT neg ++ b) [45] = neg := by
  cases neg with
  | true => exact ⟨trim_cons b 45, pre_cons b 45⟩
  | false =>
    have h := not_pre (c := 0) hb
    exact ⟨trim_not h, h⟩
theorem head_dig {a : List UInt8} (h : ∀ c ∈ a, dig c = true) : a.head? ≠ some 45 := by
  cases a with
  | nil => simp
  | cons c t => intro e; have := h c (by simp); simp at e; subst e; simp [dig] at this
theorem int_whole (neg : Bool) (a : List UInt8) (ha : ∀ c ∈ a, dig c = true) (ha0 : a ≠ []) (ha1 : a.length ≤ 12) : intS (sgnT neg ++ a) = if fitsB (sgn neg a) = true then (sgn neg a, 0) else (0, 2) := by
  obtain ⟨h1, h2⟩ := sgnT_trim neg a (head_dig ha)
  obtain ⟨h3, h4⟩ := tw_stop (r := []) ha (by intro c hc; simp at hc)
  rw [List.append_nil] at h3 h4
  unfold intS
  rw [h1, h2, h3, h4, if_neg (by simp [ha0]; omega), if_neg (by simp)]
theorem sgn_abs (m : Int) (l : List UInt8) (h : dv l = m.natAbs) : sgn (decide (m < 0)) l = m := by
  unfold sgn
  rw [h]
  by_cases hm : m < 0
  · rw [if_pos (by simpa using hm)]; omega
  · rw [if_neg (by simpa using hm)]; omega
theorem nd_bd {k u : Nat} (h : u < 10 ^ (k + 1)) : Lib.nDigits u ≤ k + 1 := by
  induction k generalizing u with
  | zero => rw [Lib.nDigits_small (by simpa using h)]; exact Nat.le_refl _
  | succ k ih =>
    by_cases h1 : u < 10
    · rw [Lib.nDigits_small h1]; omega
    · rw [Lib.nDigits_big h1]
      have := ih (u := u / 10) (by rw [Nat.pow_succ] at h; omega)
      omega
theorem ba_app (a b : List UInt8) : (⟨a.toArray⟩ : ByteArray) ++ ⟨b.toArray⟩ = ⟨(a ++ b).toArray⟩ := by
  apply ByteArray.ext
  rw [ByteArray.data_append]
  simp
theorem ba_size (a : List UInt8) : (⟨a.toArray⟩ : ByteArray).size = a.length := by
  show a.toArray.size = _
  exact List.size_toArray
end Go.Proofs.YtadocbfchdendaaGreatDoor.Sp
namespace Go.Proofs.YtadocbfchdendaaGreatDoor.Sp
set_option linter.unusedSimpArgs false
end Go.Proofs.YtadocbfchdendaaGreatDoor.Sp
namespace Go.Proofs.YtadocbfchdendaaGreatDoor.P
open Go.RowKit Go.Proofs.YtadocbfchdendaaGreatDoor.Sp Go.Proofs.YtadocbfchdendaaGreatDoorW.PrintWords Go.Proofs.YtadocbfchdendaaGreatDoorW.PrintLast Go.Proofs.YtadocbfchdendaaGreatDoorW.PrintMore
set_option linter.unusedSimpArgs false
end Go.Proofs.YtadocbfchdendaaGreatDoor.P
namespace Go.Proofs.YtadocbfchdendaaGreatDoor.P
open Go.RowKit Go.Proofs.YtadocbfchdendaaGreatDoorW.PrintWords Go.Proofs.YtadocbfchdendaaGreatDoorW.PrintLast Go.Proofs.YtadocbfchdendaaGreatDoorW.PrintMore
attribute [local go_sem] max2_int min2_int max_two min_two max_three min_three max_four min_four
set_option linter.unusedVariables false
set_option linter.unusedSimpArgs false
end Go.Proofs.YtadocbfchdendaaGreatDoor.P
namespace Go.Proofs.YtadocbfchdendaaGreatDoor.Cu
open Go.RowKit Go.Lib Go.Proofs.YtadocbfchdendaaGreatDoorW.PrintWords Go.Proofs.YtadocbfchdendaaGreatDoorW.PrintLast Go.Proofs.YtadocbfchdendaaGreatDoorW.PrintMore Go.Proofs.YtadocbfchdendaaGreatDoor.P Go.Proofs.YtadocbfchdendaaGreatDoor.Sp
set_option linter.unusedSimpArgs false
def num (s : ByteArray) (w : Wd) : Int × Int := intS (txt s w.f0 w.f1).data.toList
def eachR (s : ByteArray) : List Wd → List Int → List Int × Int × Int
  | [], acc => (acc, 0, 0)
  | w :: ws, acc => if (num s w).2 = 0 then eachR s ws (acc ++ [(num s w).1]) else ([], w.f0, (num s w).2)
theorem eachI_l (s : ByteArray) (hs : s.size < 1000000000) (ws : List Wd) (hl : ws.length < 1000000) (d : Nat) : ∀ (i k : Nat) (acc : List Int), i + d = ws.length → acc.length ≤ i → d < k →
    sheet_each_int.l0 k s acc ws (ws.length : Int) i 0 0 = some (eachR s (ws.drop i) acc) := by
  induction d with
  | zero =>
    intro i k acc hi hacc hk
    obtain ⟨k, rfl, hk⟩ := succ' hk
    simp only [sheet_each_int.l0]
    rw [if_neg (by omega), List.drop_of_length_le (by omega)]
    rfl
  | succ d ih =>
    intro i k acc hi hacc hk
    obtain ⟨k, rfl, hk⟩ := succ' hk
    obtain ⟨x, hx⟩ : ∃ x, ws[i]? = some x := ⟨_, List.getElem?_eq_getElem (show i < ws.length by omega)⟩
    have e1 : wrap64 ((i : Int) + 1) = ((i + 1 : Nat) : Int) := by rw [w64' (by omega) (by omega)]; omega
    have ht := txt_size s x.f0 x.f1
    have hI : fixed_Int.f (txt s x.f0 x.f1) = some (num s x) := by
      unfold fixed_Int.f
      rw [if_pos (by omega)]; rfl
    simp only [sheet_each_int.l0]
    rw [if_pos (by omega), if_pos (by omega), if_pos (by omega), rdW ws i x hx, Text_eq]
    simp only [Option.bind_some]
    rw [hI, drop_cons' ws i x hx]
    simp only [Option.bind_some, eachR]
    by_cases h0 : (num s x).2 = 0
    · rw [if_pos h0, if_pos h0, if_pos (by omega), e1]
      exact ih (i + 1) k _ (by omega) (by simp; omega) (by omega)
    · rw [if_neg h0, if_neg h0]
theorem eachI (s : ByteArray) (hs : s.size < 1000000000) (ws : List Wd) (hl : ws.length < 1000000) (k : Nat) (hk : ws.length < k) : sheet_each_int.f k s () ws = some (eachR s ws []) := by
  have := eachI_l s hs ws hl ws.length 0 k [] (by omega) (by simp) hk
  simpa [sheet_each_int.f] using this
theorem ints_l (l : List Int) (hl : l.length < 100000000) (d : Nat) : ∀ (i k : Nat), i + d = l.length → d < k → entrepotref07_Ints.l0 k l l i = some true := by
  induction d with
  | zero =>
    intro i k hi hk
    obtain ⟨k, rfl, hk⟩ := succ' hk
    simp only [entrepotref07_Ints.l0]
    rw [if_neg (by omega)]
  | succ d ih =>
    intro i k hi hk
    obtain ⟨k, rfl, hk⟩ := succ' hk
    have e1 : wrap64 ((i : Int) + 1) = ((i + 1 : Nat) : Int) := by rw [w64' (by omega) (by omega)]; omega
    simp only [entrepotref07_Ints.l0]
    rw [if_pos (by omega), if_pos (by omega), if_pos (by omega), if_pos trivial, e1]
    exact ih (i + 1) k (by omega) (by omega)
theorem Ints_same (l : List Int) (hl : l.length < 100000000) (k : Nat) (hk : l.length < k) : entrepotref07_Ints.f k l l = some true := by
  unfold entrepotref07_Ints.f
  rw [if_pos rfl]
  exact ints_l l hl l.length 0 k (by omega) hk
end Go.Proofs.YtadocbfchdendaaGreatDoor.Cu
namespace Go.Proofs.YtadocbfchdendaaGreatDoor.P
open Go.RowKit Go.Proofs.YtadocbfchdendaaGreatDoorW.PrintWords Go.Proofs.YtadocbfchdendaaGreatDoorW.PrintLast Go.Proofs.YtadocbfchdendaaGreatDoorW.PrintMore
attribute [local go_sem] max2_int min2_int max_two min_two max_three min_three max_four min_four
set_option linter.unusedVariables false
set_option linter.unusedSimpArgs false
end Go.Proofs.YtadocbfchdendaaGreatDoor.P
namespace Go.Proofs.YtadocbfchdendaaGreatDoor.Cu
open Go.RowKit Go.Lib Go.Proofs.YtadocbfchdendaaGreatDoorW.PrintWords Go.Proofs.YtadocbfchdendaaGreatDoorW.PrintLast Go.Proofs.YtadocbfchdendaaGreatDoorW.PrintMore Go.Proofs.YtadocbfchdendaaGreatDoor.P Go.Proofs.YtadocbfchdendaaGreatDoor.Sp
set_option linter.unusedSimpArgs false
abbrev Nm := S50
structure NOk (x : Nm) : Prop where
  lo : -1000000000000 ≤ x.f0
  hi : x.f0 ≤ 1000000000000
  s0 : 0 ≤ x.f1
  s6 : x.f1 ≤ 6
theorem NOk.num {x : Nm} (h : NOk x) : NumOk x.f0 x.f1.toNat := ⟨h.lo, h.hi, by have := h.s6; omega⟩
end Go.Proofs.YtadocbfchdendaaGreatDoor.Cu
namespace Go.Proofs.YtadocbfchdendaaGreatDoor.P
open Go.RowKit Go.Proofs.YtadocbfchdendaaGreatDoorW.PrintWords Go.Proofs.YtadocbfchdendaaGreatDoorW.PrintLast Go.Proofs.YtadocbfchdendaaGreatDoorW.PrintMore
attribute [local go_sem] max2_int min2_int max_two min_two max_three min_three max_four min_four
set_option linter.unusedVariables false
set_option linter.unusedSimpArgs false
end Go.Proofs.YtadocbfchdendaaGreatDoor.P
namespace Go.Proofs.YtadocbfchdendaaGreatDoor.Cu
open Go.RowKit Go.Lib Go.Proofs.YtadocbfchdendaaGreatDoorW.PrintWords Go.Proofs.YtadocbfchdendaaGreatDoorW.PrintLast Go.Proofs.YtadocbfchdendaaGreatDoorW.PrintMore Go.Proofs.YtadocbfchdendaaGreatDoor.P Go.Proofs.YtadocbfchdendaaGreatDoor.Sp
set_option linter.unusedSimpArgs false
def intsR (s : ByteArray) (f : Int) (ws : List Wd) (n : Int) : List Int × Int × Int := if (ws.length : Int) = n then eachR s ws [] else ([], f, 3)
theorem SInts_eq (s : ByteArray) (hs : s.size < 1000000000) (f : Int) (ws : List Wd) (hl : ws.length < 1000000) (n : Int) (k : Nat) (hk : ws.length < k) : sheet_Ints.f k s f ws n = some (intsR s f ws n) := by
  unfold sheet_Ints.f intsR
  by_cases h : (ws.length : Int) = n
  · rw [if_pos h, if_pos h, eachI s hs ws hl k hk]; rfl
  · rw [if_neg h, if_neg h]
end Go.Proofs.YtadocbfchdendaaGreatDoor.Cu
namespace Go.Proofs.YtadocbfchdendaaGreatDoor.Cu
open Go.RowKit Go.Lib Go.Proofs.YtadocbfchdendaaGreatDoorW.PrintWords Go.Proofs.YtadocbfchdendaaGreatDoor.P
set_option linter.unusedSimpArgs false
set_option linter.unusedVariables false
def stepS (s : ByteArray) (n : Int) (x : Row) : (Int × Int) ⊕ Int :=
 if (intsR s x.f0 x.f1 1).2.2 = 0 then (if (intsR s x.f0 x.f1 1).1.getD 0 0 < 1 ∨ n < (intsR s x.f0 x.f1 1).1.getD 0 0 then .inl ((x.f1.getD 0 z105).f0, 141) else .inr ((intsR s x.f0 x.f1 1).1.getD 0 0 - 1)) else .inl (intsR s x.f0 x.f1 1).2
def loopS (s : ByteArray) (n : Int) : List Row → List Int → List Row × List Int × Int × Int
 | [], out => if (out.length : Int) < n then ([], out, (s.size : Int), 4) else ([], out, 0, 0)
 | x :: l, out => if (out.length : Int) < n then (match stepS s n x with | .inl e => (l, out, e) | .inr v => loopS s n l (out ++ [v])) else (x :: l, out, 0, 0)
def contS (s : ByteArray) (n : Int) (l : List Row) (out : List Int) (d : Int × Int) : List Row × List Int × Int × Int := if d.2 = 0 then loopS s n l out else (l, out, d)
def sectS : ByteArray := ⟨#[84, 79, 85, 82, 95, 83, 69, 67, 84, 73, 79, 78]⟩
def endS (s : ByteArray) (r : List Row × List Int × Int × Int) : List Int × Int × Int :=
 let r1 := if r.2.2.2 = 0 then tlS s ⟨#[45, 49]⟩ r.1 r.2.2 else (r.1, r.2.2)
 let r2 := if r1.2.2 = 0 ∧ r1.1 ≠ [] then tlS s ⟨#[69, 79, 70]⟩ r1.1 r1.2 else r1
 (r.2.1, if r2.2.2 = 0 then (match r2.1 with | [] => r2.2 | x :: _ => (x.f0, 4)) else r2.2)
def stopsS (s : ByteArray) (n : Int) (l : List Row) : List Int × Int × Int := endS s (contS s n (tlS s sectS l (0, 0)).1 [] (tlS s sectS l (0, 0)).2)
theorem SS.start (w : World) (s : ByteArray) (L : List Row) (A : Option Addr) (c : Nat) (hc : L.length ≤ c) (hC : Kd.C k32 w A L.length L) :
  SS w ((((w.alloc (.cells #[.string s] 9)).alloc (.cells #[.slice A L.length c] 23)).alloc (.cells #[.int .i64 0, .int .i64 0] 41)).alloc
   (.cells #[.func (.func 112) #[] #[.pointer (some ⟨w.heap.size + 1, 0, none⟩), .pointer (some ⟨w.heap.size + 1 + 1, 0, none⟩), .pointer (some ⟨w.heap.size, 0, none⟩)]] 172)) s L 0 0 := by
 have b1 := blk_new w (.cells #[.string s] 9)
 have b2 := blk_new (w.alloc (.cells #[.string s] 9)) (.cells #[.slice A L.length c] 23)
 have b3 := blk_new ((w.alloc (.cells #[.string s] 9)).alloc (.cells #[.slice A L.length c] 23)) (.cells #[.int .i64 0, .int .i64 0] 41)
 have b4 := blk_new (((w.alloc (.cells #[.string s] 9)).alloc (.cells #[.slice A L.length c] 23)).alloc (.cells #[.int .i64 0, .int .i64 0] 41)) (.cells #[.func (.func 112) #[] #[.pointer (some ⟨w.heap.size + 1, 0, none⟩), .pointer (some ⟨w.heap.size + 1 + 1, 0, none⟩), .pointer (some ⟨w.heap.size, 0, none⟩)]] 172)
 have s1 : ∀ (W : World) (o : Obj), (W.alloc o).heap.size = W.heap.size + 1 := fun W o => by simp
 rw [s1] at b2
 rw [s1, s1] at b3
 rw [s1, s1, s1] at b4
 exact ⟨((((Below.refl _ w).alloc (Nat.le_refl _) _).alloc (by simp) _).alloc (by simp; omega) _).alloc (by simp; omega) _, blk_alloc (blk_alloc (blk_alloc b1 _) _) _, ⟨A, c, blk_alloc (blk_alloc b2 _) _, hc, hC⟩, blk_alloc b3 _, b4, by simp⟩
theorem own_oth {w W W' : World} {s : ByteArray} {l : List Row} {d1 d2 : Int} {v : Value} {xs : List Int} (hR : Kd.R (Kd.int .i64) 3 W w.heap.size (fun _ => True) v xs) (h : SS w W s l d1 d2) (ho : Oth w W W') : Kd.R (Kd.int .i64) 3 W' w.heap.size (fun _ => True) v xs := by
 refine Kd.R_mono (Kd.R_move (Kd.R_bound hR) fun k hk => ?_) (fun k hk => hk.1)
 obtain ⟨_, _, hlt, q, hq, cells, hc⟩ := hk
 obtain ⟨A, c, h1, _, _⟩ := h.rows
 have hq3 : q = 3 := by
  have : q ∈ [3] := hq
  simpa using this
 subst hq3
 refine ho.2 k hlt (fun e => ?_) (fun e => ?_)
 ·subst e
  rw [h1] at hc
  injection hc with hc
  injection hc with _ ht
  cases ht
 ·subst e
  rw [h.bd] at hc
  injection hc with hc
  injection hc with _ ht
  cases ht
theorem intsR_ok {s : ByteArray} {f : Int} {ws : List Wd} (h : (intsR s f ws 1).2.2 = 0) : (intsR s f ws 1).2.1 = 0 ∧ ∃ v y, (intsR s f ws 1).1 = [v] ∧ ws = [y] := by
 unfold intsR at h ⊢
 by_cases hl : (ws.length : Int) = 1
 ·rw [if_pos hl] at h ⊢
  match ws, hl with
  | [y], _ =>
   simp only [eachR] at h ⊢
   by_cases h0 : (num s y).2 = 0
   ·rw [if_pos h0]; exact ⟨rfl, _, y, rfl, rfl⟩
   ·rw [if_neg h0] at h; exact absurd h h0
 ·rw [if_neg hl] at h
  cases h
theorem title_len (s t : ByteArray) (l : List Row) (d : Int × Int) : (tlS s t l d).1.length ≤ l.length ∧ ∀ x ∈ (tlS s t l d).1, x ∈ l := by
 cases l with
 | nil => exact ⟨Nat.le_refl _, fun x h => h⟩
 | cons y l => exact ⟨Nat.le_succ _, fun x h => List.mem_cons_of_mem _ h⟩
theorem tlS_zero (s t : ByteArray) (l : List Row) : (tlS s t l (0, 0)).2.2 = 0 → (tlS s t l (0, 0)).2.1 = 0 := by
 cases l with
 | nil => intro h; exact absurd h (by show (noRow s 0 0).2 ≠ 0; unfold noRow; rw [if_pos rfl]; show (4 : Int) ≠ 0; decide)
 | cons x l =>
  intro h
  show (tlD x _ 0 0).1 = 0
  have h : (tlD x (joinW s x.f1 == t.toList) 0 0).2 = 0 := h
  unfold tlD at h ⊢
  rw [if_pos rfl] at h ⊢
  split at h
  ·rename_i h1; rw [if_pos h1]
  ·exact absurd h (by show ¬ (3 : Int) = 0; decide)
theorem contS_err (s : ByteArray) (n : Int) (l : List Row) (out : List Int) (d : Int × Int) (h : d.2 ≠ 0) : contS s n l out d = (l, out, d) := by unfold contS; rw [if_neg h]
theorem contS_go (s : ByteArray) (n : Int) (x : Row) (l : List Row) (out : List Int) (d1 : Int) (h : (out.length : Int) < n) : contS s n (x :: l) out (d1, 0) = (match stepS s n x with | .inl e => (l, out, e) | .inr v => contS s n l (out ++ [v]) (0, 0)) := by
 unfold contS
 rw [if_pos rfl, loopS, if_pos h]
 cases stepS s n x with
 | inl e => rfl
 | inr v => simp
theorem stepS_bad (s : ByteArray) (n : Int) (x : Row) (h : (intsR s x.f0 x.f1 1).2.2 ≠ 0) : stepS s n x = .inl (intsR s x.f0 x.f1 1).2 := by unfold stepS; rw [if_neg h]
theorem stepS_off (s : ByteArray) (n : Int) (x : Row) (h : (intsR s x.f0 x.f1 1).2.2 = 0) (v : Int) (y : Wd) (hv : (intsR s x.f0 x.f1 1).1 = [v]) (hy : x.f1 = [y]) (ho : v < 1 ∨ n < v) : stepS s n x = .inl (y.f0, 141) := by
 unfold stepS
 rw [if_pos h, hv, if_pos (by simpa using ho), hy]
 rfl
theorem stepS_in (s : ByteArray) (n : Int) (x : Row) (h : (intsR s x.f0 x.f1 1).2.2 = 0) (v : Int) (hv : (intsR s x.f0 x.f1 1).1 = [v]) (ho : ¬ (v < 1 ∨ n < v)) : stepS s n x = .inr (v - 1) := by
 unfold stepS
 rw [if_pos h, hv, if_neg (by simpa using ho)]
 rfl
theorem loopS_stop (s : ByteArray) (n : Int) (l : List Row) (out : List Int) (h : ¬ (out.length : Int) < n) : loopS s n l out = (l, out, 0, 0) := by
 cases l with
 | nil => rw [loopS, if_neg h]
 | cons x l => rw [loopS, if_neg h]
theorem word0 {w : World} {A : Option Addr} {n : Nat} {ws : List Wd} {y : Wd} (h : Kd.C k105 w A n ws) (hy : ws = [y]) : ∃ ad, A = some ad ∧ w.cell? ad = some (.int .i64 y.f0) := by
 subst hy
 obtain ⟨ad, e, h0, _⟩ := at_T105 h 0 (by decide) (by have := h.1; simp at this; omega)
 rw [show ad.add (Int.toNat 0 * 2) = ad by simp [Addr.add]] at h0
 exact ⟨ad, e, h0⟩
theorem SS.grown {w W W' : World} {s : ByteArray} {l : List Row} {d1 d2 : Int} {v : Value} {xs : List Int} {ok : Nat → Prop} (h : SS w W s l d1 d2) (hR : Kd.R (Kd.int .i64) 3 W w.heap.size ok v xs) (hg : W.grownBy W' v.ownBlock) (hb : Below w.heap.size w W') : SS w W' s l d1 d2 := by
 obtain ⟨A, c, h1, h2, h3⟩ := h.rows
 exact ⟨hb, blk_grown h.bs hg (Kd.R_ne hR h.bs (by decide)), ⟨A, c, blk_grown h1 hg (Kd.R_ne hR h1 (by decide)), h2, h3⟩, blk_grown h.bd hg (Kd.R_ne hR h.bd (by decide)), blk_grown h.bn hg (Kd.R_ne hR h.bn (by decide)), Nat.le_trans h.sz (by have := hg.size; omega)⟩
theorem Oth.refl (w W : World) : Oth w W W := ⟨Nat.le_refl _, fun _ _ _ _ => rfl⟩
theorem row0 {w : World} {A : Option Addr} {n : Nat} {x : Row} {l : List Row} (h : Kd.C k32 w A n (x :: l)) : ∃ ad, A = some ad ∧ w.cell? ad = some (.int .i64 x.f0) := by
 obtain ⟨ad, _, _, e, h0, _⟩ := at_T32 h 0 (by decide) (by have := h.1; simp at this; omega)
 rw [show ad.add (Int.toNat 0 * 2) = ad by simp [Addr.add]] at h0
 exact ⟨ad, e, h0⟩
structure LS (w wr : World) (s : ByteArray) (n : Int) (v : Value) (l : List Row) (out : List Int) (d1 d2 : Int) (RES : List Row × List Int × Int × Int) : Prop where
 ss : SS w wr s l d1 d2
 own : Kd.R (Kd.int .i64) 3 wr w.heap.size (fun _ => True) v out
 eq : contS s n l out (d1, d2) = RES
 zero : d2 = 0 → d1 = 0
 bd : ∀ x ∈ l, x.f1.length ≤ 100000
 len : out.length + l.length < 2000000
set_option maxRecDepth 100000 in
set_option maxHeartbeats 4000000 in
theorem stops_calls (s : ByteArray) (hs : s.size ≤ 100000) (L : List Row) (hL : ∀ x ∈ L, x.f1.length ≤ 100000) (hLl : L.length < 1000000) (A : Option Addr) (c : Nat) (n : Int) (hn : -9223372036854775808 ≤ n ∧ n ≤ 9223372036854775807) (w : World)
  (hC : Kd.C k32 w A L.length L) (hc : L.length ≤ c) :
  Calls Tryz.prog 72 #[.string s, .slice A L.length c, .int .i64 n] w fun e W' => ∃ v, e = .returned (.tuple #[v, .agg #[.int .i64 (stopsS s n L).2.1, .int .i64 (stopsS s n L).2.2]]) ∧
   Kd.R (Kd.int .i64) 3 W' w.heap.size (fun _ => True) v (stopsS s n L).1 ∧ Below w.heap.size w W' := by
 have HC := Lib.hid hC
 have HL := Lib.hid hL
 clear hC hL
 go_enter Tryz.func72, Tryz.ntmps72
 have hT := title_len s sectS L (0, 0)
 obtain ⟨T, hTe⟩ : ∃ T, tlS s sectS L (0, 0) = T := ⟨_, rfl⟩
 rw [hTe] at hT
 obtain ⟨RES, hRES⟩ : ∃ RES, contS s n T.1 [] T.2 = RES := ⟨_, rfl⟩
 have HRES := Lib.hid hRES
 have HTE := Lib.hid hTe
 have HTB := Lib.hid hT
 clear hRES hTe hT
 go_upto_block 0 with (go_at_call 113; refine (title_calls (SS.start w s L A c hc HC.out) hs HL.out sectS).mono ?_; rintro e W1 ⟨⟨v1, rfl⟩, HS1, HO1⟩)
 go_cut [6] (fun v6 wc => ∃ (l : List Row) (out : List Int) (d1 d2 : Int), RES = (l, out, d1, d2) ∧ Hid (SS w wc s l d1 d2) ∧ Hid (Kd.R (Kd.int .i64) 3 wc w.heap.size (fun _ => True) v6 out) ∧ Hid (∀ x ∈ l, x.f1.length ≤ 100000))
 case first =>
  go_wp2
  go_loopg [6] (L.length + 3) (fun k v6 wr => ∃ (l : List Row) (out : List Int) (d1 d2 : Int), l.length + (if d2 = 0 then 1 else 0) ≤ k ∧ Hid (LS w wr s n v6 l out d1 d2 RES))
  case atStart =>
   refine ⟨T.1, [], T.2.1, T.2.2, ?_, ?_⟩
   ·have := HTB.out.1; split <;> omega
   ·rw [HTE.out] at HS1
    refine ⟨HS1.out, Kd.R_nil _ _ _ _ _, HRES.out, ?_, fun x hx => HL.out x (HTB.out.2 x hx), by have := HTB.out.1; simp; omega⟩
    rw [← HTE.out]
    exact tlS_zero s sectS L
  case round =>
   obtain ⟨l, out, d1, d2, hk, HLS⟩ := hrel
   obtain ⟨A6, c6, rfl⟩ := Kd.R_slice HLS.out.own
   have HS := Lib.hid HLS.out.ss
   obtain ⟨e1, e2, e3, e4, e5⟩ := HS.out.cells
   have cn := (bc1 HS.out.bn).1
   by_cases hd : d2 = 0
   ·by_cases hlt : (out.length : Int) < n
    ·cases l with
     | nil =>
      have hz : (d2 == 0) = true := by rw [hd]; rfl
      have hq := noRow_ne s d1 d2
      have hR : Hid (RES = ([], out, (noRow s d1 d2).1, (noRow s d1 d2).2)) := by
       have := HLS.out.eq
       unfold contS at this
       rw [if_pos hd, loopS, if_pos hlt] at this
       unfold noRow
       rw [if_pos hd]
       exact Lib.hid this.symm
      clear hd
      go_wp2_with (first
       | (go_at_call 112; refine (next_none HS.out).mono ?_; rintro e W1 ⟨rfl, HS1, HO1⟩; obtain ⟨e1, e2, e3, e4, e5⟩ := HS1.out.cells; clear cn)
       | ((with_reducible refine gate_dst (N := 10) rfl ?_); refine box_ev (N := 10) (cs := #[.int .i64 0, .slice none 0 0]) (t := 32) ?_; intro g hg W2 hbox hb; have hgo : W1.heap.size ≤ g := (by omega); have HB2 := Lib.hid hb; have HX2 := Lib.hid hbox; obtain ⟨z0, z1, z2, z3⟩ := bc2 hbox; clear hbox hg hb)
       | ((with_reducible refine gate_store (t := 32) (p := 10) rfl ?_); refine store_ev (t := 32) (p := 10) (w1 := ((W2.setCell ⟨g, 0, none⟩ (.int .i64 0)).setCell ⟨g, 1, none⟩ (.slice none 0 0))) ?_; intro W3 hw; have HB3 : Hid (Below W1.heap.size W1 W3) := (by rw [hw]; exact (HB2.out.setCell (p := ⟨g, 0, none⟩) hgo _).setCell (p := ⟨g, 1, none⟩) hgo _); have HX3 : Hid (W3.heap[g]? = some (.cells #[.int .i64 0, .slice none 0 0] 32 (0, 0))) := (by rw [hw]; exact blk_put (blk_put HX2.out 0 _ rfl) 1 _ rfl); clear hw HX2 HB2 z0 z1 z2 z3; have HS3 := Lib.hid (HS1.out.step (HB3.out.mono HS1.out.sz)); have HO3 := Lib.hid (HO1.out.trans (Oth.below HB3.out)); clear HS1 HO1 e1 e2 e3 e4 e5; obtain ⟨e1, e2, e3, e4, e5⟩ := HS3.out.cells; obtain ⟨k0, k1, k2, k3⟩ := bc2 HX3.out))
      go_meet
      case rel => exact ⟨[], out, _, _, hR.out, HS3, Lib.hid (own_oth HLS.out.own HS.out HO3.out), Lib.hid (by simp)⟩
     | cons x l =>
      have hz : (d2 == 0) = true := by rw [hd]; rfl
      have hE := HLS.out.eq
      rw [hd, contS_go s n x l out d1 hlt] at hE
      have hbx := HLS.out.bd x List.mem_cons_self
      have hbd : Hid (∀ y ∈ l, y.f1.length ≤ 100000) := Lib.hid fun y hy => HLS.out.bd y (List.mem_cons_of_mem _ hy)
      have hlen : out.length + (l.length + 1) < 2000000 := HLS.out.len
      have hk1 : l.length + 1 < gk := by
       have : (x :: l).length + (if d2 = 0 then 1 else 0) ≤ gk := hk
       rw [if_pos hd] at this
       simp at this
       omega
      have hI := SInts_eq s (by omega) x.f0 x.f1 (by omega) 1 100001 (by omega)
      obtain ⟨q, hq⟩ : ∃ q, intsR s x.f0 x.f1 1 = q := ⟨_, rfl⟩
      have hok := @intsR_ok s x.f0 x.f1
      have hb1 := stepS_bad s n x
      have hb2 := stepS_off s n x
      have hb3 := stepS_in s n x
      rw [hq] at hI hok hb1 hb2 hb3
      obtain ⟨q0, q1, q2⟩ := q
      have HI := Lib.hid hI
      have HE := Lib.hid hE
      clear hI hq hE hk hd
      by_cases hc2 : q2 = 0
      ·obtain ⟨h1, v, y, h2, h3⟩ := hok hc2
       replace hb2 := hb2 hc2 v y h2 h3
       replace hb3 := hb3 hc2 v h2
       simp only at h1 h2
       subst h2
       obtain rfl := h1
       have HX := Lib.hid h3
       have hqz : (q2 == 0) = true := by rw [hc2]; rfl
       have HC2 := Lib.hid hc2
       clear hc2 hok hb1 h3
       by_cases g1 : v < 1
       ·have HST := Lib.hid (hb2 (.inl g1))
        have hl1 : 0 < x.f1.length := by rw [HX.out]; simp
        clear hb2 hb3
        go_wp2_with (first
         | (go_at_call 112; refine (next_some HS.out).mono ?_; rintro e W1 ⟨⟨A1, c1, rfl, hc1, hC1⟩, HS1, HO1⟩; have HC1 := Lib.hid hC1; obtain ⟨e1, e2, e3, e4, e5⟩ := HS1.out.cells; obtain ⟨ad1, rfl, hw0⟩ := word0 hC1 HX.out; clear hC1 cn)
         | ((with_reducible refine gate_dst (N := 10) rfl ?_); refine box_ev (N := 10) (cs := #[.int .i64 0, .slice none 0 0]) (t := 32) ?_; intro g hg W2 hbox hb; have hgo : W1.heap.size ≤ g := (by omega); have HB2 := Lib.hid hb; have HX2 := Lib.hid hbox; obtain ⟨z0, z1, z2, z3⟩ := bc2 hbox; clear hbox hg hb)
         | ((with_reducible refine gate_store (t := 32) (p := 10) rfl ?_); refine store_ev (t := 32) (p := 10) (w1 := ((W2.setCell ⟨g, 0, none⟩ (.int .i64 x.f0)).setCell ⟨g, 1, none⟩ (.slice (some ad1) x.f1.length c1))) ?_; intro W3 hw; have HB3 : Hid (Below W1.heap.size W1 W3) := (by rw [hw]; exact (HB2.out.setCell (p := ⟨g, 0, none⟩) hgo _).setCell (p := ⟨g, 1, none⟩) hgo _); have HX3 : Hid (W3.heap[g]? = some (.cells #[.int .i64 x.f0, .slice (some ad1) x.f1.length c1] 32 (0, 0))) := (by rw [hw]; exact blk_put (blk_put HX2.out 0 _ rfl) 1 _ rfl); clear hw HX2 HB2 z0 z1 z2 z3; have HS3 := Lib.hid (HS1.out.step (HB3.out.mono HS1.out.sz)); have HO3 := Lib.hid (HO1.out.trans (Oth.below HB3.out)); clear HS1 HO1 e1 e2 e3 e4 e5; obtain ⟨e1, e2, e3, e4, e5⟩ := HS3.out.cells; obtain ⟨k0, k1, k2, k3⟩ := bc2 HX3.out)
         | (go_at_call 28; refine (sheet_Ints.calls 100001 s x.f0 (some ad1) c1 x.f1 1 _ _ _ _ ?hr hc1 HI.out).mono ?_; (case hr => exact Kd.C_below HC1.out HS3.out.bel); rintro e W4 ⟨v4, rfl, hR4, hb4⟩; have HS4 := Lib.hid (HS3.out.step (hb4.mono HS3.out.sz)); have HO4 := Lib.hid (HO3.out.trans (Oth.below hb4)); have HX4 := Lib.hid (blk_below HX3.out hb4); have HR4 := Lib.hid hR4; clear hR4 hb4 HS3 HO3 HX3 k0 k1 k2 k3 e1 e2 e3 e4 e5; obtain ⟨A4, c4, rfl⟩ := Kd.R_slice HR4.out; obtain ⟨ad4, ea4, hx4⟩ := int_at (Kd.R_reads' HR4.out).2.2 0 v rfl; rw [Addr.add_zero'] at hx4; subst ea4; have hne4 := Kd.own_blk (Kd.R_ne HR4.out HS4.out.bd (by decide)); have HS3sz : w.heap.size + 4 ≤ W4.heap.size := HS4.out.sz; have HO4sz : wr.heap.size ≤ W4.heap.size := HO4.out.1)
         | ((with_reducible refine gate_dst (N := 12) rfl ?_); refine box_ev (N := 12) (cs := #[.int .i64 0, .int .i64 0]) (t := 41) ?_; intro h hh W5 hbox hb; have hho : W4.heap.size ≤ h := (by omega); have HB5 := Lib.hid hb; have HX5 := Lib.hid hbox; obtain ⟨z0, z1, z2, z3⟩ := bc2 hbox; clear hbox hh hb)
         | ((with_reducible refine gate_store (t := 41) (p := 12) rfl ?_); refine store_ev (t := 41) (p := 12) (w1 := ((W5.setCell ⟨h, 0, none⟩ (.int .i64 0)).setCell ⟨h, 1, none⟩ (.int .i64 q2))) ?_; intro W6 hw; have HB6 : Hid (Below W4.heap.size W4 W6) := (by rw [hw]; exact (HB5.out.setCell (p := ⟨h, 0, none⟩) hho _).setCell (p := ⟨h, 1, none⟩) hho _); have HY6 : Hid (W6.heap[h]? = some (.cells #[.int .i64 0, .int .i64 q2] 41 (0, 0))) := (by rw [hw]; exact blk_put (blk_put HX5.out 0 _ rfl) 1 _ rfl); clear hw HX5 HB5 z0 z1 z2 z3; have HS6 := Lib.hid (HS4.out.step (HB6.out.mono HS4.out.sz)); have HO6 := Lib.hid (HO4.out.trans (Oth.below HB6.out)); have HX6 := Lib.hid (blk_below HX4.out HB6.out); clear HS4 HO4 HX4; obtain ⟨e1, e2, e3, e4, e5⟩ := HS6.out.cells; obtain ⟨y0, y1, y2, y3⟩ := bc2 HY6.out; have hl6 := pw_cell_below HB6.out hx4; have hy6 := pw_cell_below HS6.out.bel hw0; obtain ⟨k0, k1, k2, k3⟩ := bc2 HX6.out; clear hx4)
         | (go_at_call 70; refine (wrong_calls _ _ _).mono ?_; rintro e W7 ⟨rfl, hb7⟩; have HS7 := Lib.hid (HS6.out.step (hb7.mono HS6.out.sz)); have HO7 := Lib.hid (HO6.out.trans (Oth.below hb7)); have HY7 := Lib.hid (blk_below HY6.out hb7); have hh4 : w.heap.size + 4 ≤ h := (by have := HS3sz; omega); have hh5 : wr.heap.size ≤ h := (by have := HO4sz; omega); clear hb7 HS6 HO6 HX6 HY6 e1 e2 e3 e4 e5 y0 y1 y2 y3 k0 k1 k2 k3 hl6 hy6; obtain ⟨e1, e2, e3, e4, e5⟩ := HS7.out.cells; obtain ⟨y0, y1, y2, y3⟩ := bc2 HY7.out)
         | ((with_reducible refine gate_store (t := 41) (p := 12) rfl ?_); refine store_ev (t := 41) (p := 12) (w1 := ((W7.setCell ⟨h, 0, none⟩ (.int .i64 y.f0)).setCell ⟨h, 1, none⟩ (.int .i64 141))) ?_; intro W8 hw; have HS8 : Hid (SS w W8 s l d1 d2) := (by rw [hw]; exact HS7.out.step (((Below.refl _ W7).setCell (p := ⟨h, 0, none⟩) hh4 _).setCell (p := ⟨h, 1, none⟩) hh4 _)); have HO8 : Hid (Oth w wr W8) := (by rw [hw]; exact (HO7.out.set (b := h) (.inr (.inr hh5)) 0 _).set (b := h) (.inr (.inr hh5)) 1 _); have HY8 : Hid (W8.heap[h]? = some (.cells #[.int .i64 y.f0, .int .i64 141] 41 (0, 0))) := (by rw [hw]; exact blk_put (blk_put HY7.out 0 _ rfl) 1 _ rfl); clear hw HS7 HO7 HY7 e1 e2 e3 e4 e5 y0 y1 y2 y3; obtain ⟨e1, e2, e3, e4, e5⟩ := HS8.out.cells; obtain ⟨y0, y1, y2, y3⟩ := bc2 HY8.out)
         | ((with_reducible refine gate_store (t := 41) (p := 7) rfl ?_); refine store_ev (t := 41) (p := 7) (w1 := ((W8.setCell ⟨w.heap.size + 2, 0, none⟩ (.int .i64 y.f0)).setCell ⟨w.heap.size + 2, 1, none⟩ (.int .i64 141))) ?_; intro W9 hw; have HS9 : Hid (SS w W9 s l y.f0 141) := (by rw [hw]; exact HS8.out.setD _ _); have HO9 : Hid (Oth w wr W9) := (by rw [hw]; exact (HO8.out.set (.inr (.inl rfl)) 0 _).set (.inr (.inl rfl)) 1 _); clear hw e1 e2 e3 e4 e5; obtain ⟨e1, e2, e3, e4, e5⟩ := HS9.out.cells))
        go_roundg (l.length + 1)
        case measure => exact hk1
        case rel => exact ⟨l, out, y.f0, 141, by split <;> omega, HS9.out, own_oth HLS.out.own HS.out HO9.out, by rw [contS_err s n l out (y.f0, 141) (by show ¬ (141 : Int) = 0; decide)]; have := HE.out; rw [HST.out] at this; exact this, fun h => absurd h (by decide), hbd.out, by omega⟩
       ·have g1' : 1 ≤ v := by omega
        by_cases g2 : n < v
        ·have HST := Lib.hid (hb2 (.inr g2))
         have hl1 : 0 < x.f1.length := by rw [HX.out]; simp
         clear hb2 hb3
         go_wp2_with (first
          | (go_at_call 112; refine (next_some HS.out).mono ?_; rintro e W1 ⟨⟨A1, c1, rfl, hc1, hC1⟩, HS1, HO1⟩; have HC1 := Lib.hid hC1; obtain ⟨e1, e2, e3, e4, e5⟩ := HS1.out.cells; obtain ⟨ad1, rfl, hw0⟩ := word0 hC1 HX.out; clear hC1 cn)
          | ((with_reducible refine gate_dst (N := 10) rfl ?_); refine box_ev (N := 10) (cs := #[.int .i64 0, .slice none 0 0]) (t := 32) ?_; intro g hg W2 hbox hb; have hgo : W1.heap.size ≤ g := (by omega); have HB2 := Lib.hid hb; have HX2 := Lib.hid hbox; obtain ⟨z0, z1, z2, z3⟩ := bc2 hbox; clear hbox hg hb)
          | ((with_reducible refine gate_store (t := 32) (p := 10) rfl ?_); refine store_ev (t := 32) (p := 10) (w1 := ((W2.setCell ⟨g, 0, none⟩ (.int .i64 x.f0)).setCell ⟨g, 1, none⟩ (.slice (some ad1) x.f1.length c1))) ?_; intro W3 hw; have HB3 : Hid (Below W1.heap.size W1 W3) := (by rw [hw]; exact (HB2.out.setCell (p := ⟨g, 0, none⟩) hgo _).setCell (p := ⟨g, 1, none⟩) hgo _); have HX3 : Hid (W3.heap[g]? = some (.cells #[.int .i64 x.f0, .slice (some ad1) x.f1.length c1] 32 (0, 0))) := (by rw [hw]; exact blk_put (blk_put HX2.out 0 _ rfl) 1 _ rfl); clear hw HX2 HB2 z0 z1 z2 z3; have HS3 := Lib.hid (HS1.out.step (HB3.out.mono HS1.out.sz)); have HO3 := Lib.hid (HO1.out.trans (Oth.below HB3.out)); clear HS1 HO1 e1 e2 e3 e4 e5; obtain ⟨e1, e2, e3, e4, e5⟩ := HS3.out.cells; obtain ⟨k0, k1, k2, k3⟩ := bc2 HX3.out)
          | (go_at_call 28; refine (sheet_Ints.calls 100001 s x.f0 (some ad1) c1 x.f1 1 _ _ _ _ ?hr hc1 HI.out).mono ?_; (case hr => exact Kd.C_below HC1.out HS3.out.bel); rintro e W4 ⟨v4, rfl, hR4, hb4⟩; have HS4 := Lib.hid (HS3.out.step (hb4.mono HS3.out.sz)); have HO4 := Lib.hid (HO3.out.trans (Oth.below hb4)); have HX4 := Lib.hid (blk_below HX3.out hb4); have HR4 := Lib.hid hR4; clear hR4 hb4 HS3 HO3 HX3 k0 k1 k2 k3 e1 e2 e3 e4 e5; obtain ⟨A4, c4, rfl⟩ := Kd.R_slice HR4.out; obtain ⟨ad4, ea4, hx4⟩ := int_at (Kd.R_reads' HR4.out).2.2 0 v rfl; rw [Addr.add_zero'] at hx4; subst ea4; have hne4 := Kd.own_blk (Kd.R_ne HR4.out HS4.out.bd (by decide)); have HS3sz : w.heap.size + 4 ≤ W4.heap.size := HS4.out.sz; have HO4sz : wr.heap.size ≤ W4.heap.size := HO4.out.1)
          | ((with_reducible refine gate_dst (N := 12) rfl ?_); refine box_ev (N := 12) (cs := #[.int .i64 0, .int .i64 0]) (t := 41) ?_; intro h hh W5 hbox hb; have hho : W4.heap.size ≤ h := (by omega); have HB5 := Lib.hid hb; have HX5 := Lib.hid hbox; obtain ⟨z0, z1, z2, z3⟩ := bc2 hbox; clear hbox hh hb)
          | ((with_reducible refine gate_store (t := 41) (p := 12) rfl ?_); refine store_ev (t := 41) (p := 12) (w1 := ((W5.setCell ⟨h, 0, none⟩ (.int .i64 0)).setCell ⟨h, 1, none⟩ (.int .i64 q2))) ?_; intro W6 hw; have HB6 : Hid (Below W4.heap.size W4 W6) := (by rw [hw]; exact (HB5.out.setCell (p := ⟨h, 0, none⟩) hho _).setCell (p := ⟨h, 1, none⟩) hho _); have HY6 : Hid (W6.heap[h]? = some (.cells #[.int .i64 0, .int .i64 q2] 41 (0, 0))) := (by rw [hw]; exact blk_put (blk_put HX5.out 0 _ rfl) 1 _ rfl); clear hw HX5 HB5 z0 z1 z2 z3; have HS6 := Lib.hid (HS4.out.step (HB6.out.mono HS4.out.sz)); have HO6 := Lib.hid (HO4.out.trans (Oth.below HB6.out)); have HX6 := Lib.hid (blk_below HX4.out HB6.out); clear HS4 HO4 HX4; obtain ⟨e1, e2, e3, e4, e5⟩ := HS6.out.cells; obtain ⟨y0, y1, y2, y3⟩ := bc2 HY6.out; have hl6 := pw_cell_below HB6.out hx4; have hy6 := pw_cell_below HS6.out.bel hw0; obtain ⟨k0, k1, k2, k3⟩ := bc2 HX6.out; clear hx4)
          | (go_at_call 70; refine (wrong_calls _ _ _).mono ?_; rintro e W7 ⟨rfl, hb7⟩; have HS7 := Lib.hid (HS6.out.step (hb7.mono HS6.out.sz)); have HO7 := Lib.hid (HO6.out.trans (Oth.below hb7)); have HY7 := Lib.hid (blk_below HY6.out hb7); have hh4 : w.heap.size + 4 ≤ h := (by have := HS3sz; omega); have hh5 : wr.heap.size ≤ h := (by have := HO4sz; omega); clear hb7 HS6 HO6 HX6 HY6 e1 e2 e3 e4 e5 y0 y1 y2 y3 k0 k1 k2 k3 hl6 hy6; obtain ⟨e1, e2, e3, e4, e5⟩ := HS7.out.cells; obtain ⟨y0, y1, y2, y3⟩ := bc2 HY7.out)
          | ((with_reducible refine gate_store (t := 41) (p := 12) rfl ?_); refine store_ev (t := 41) (p := 12) (w1 := ((W7.setCell ⟨h, 0, none⟩ (.int .i64 y.f0)).setCell ⟨h, 1, none⟩ (.int .i64 141))) ?_; intro W8 hw; have HS8 : Hid (SS w W8 s l d1 d2) := (by rw [hw]; exact HS7.out.step (((Below.refl _ W7).setCell (p := ⟨h, 0, none⟩) hh4 _).setCell (p := ⟨h, 1, none⟩) hh4 _)); have HO8 : Hid (Oth w wr W8) := (by rw [hw]; exact (HO7.out.set (b := h) (.inr (.inr hh5)) 0 _).set (b := h) (.inr (.inr hh5)) 1 _); have HY8 : Hid (W8.heap[h]? = some (.cells #[.int .i64 y.f0, .int .i64 141] 41 (0, 0))) := (by rw [hw]; exact blk_put (blk_put HY7.out 0 _ rfl) 1 _ rfl); clear hw HS7 HO7 HY7 e1 e2 e3 e4 e5 y0 y1 y2 y3; obtain ⟨e1, e2, e3, e4, e5⟩ := HS8.out.cells; obtain ⟨y0, y1, y2, y3⟩ := bc2 HY8.out)
          | ((with_reducible refine gate_store (t := 41) (p := 7) rfl ?_); refine store_ev (t := 41) (p := 7) (w1 := ((W8.setCell ⟨w.heap.size + 2, 0, none⟩ (.int .i64 y.f0)).setCell ⟨w.heap.size + 2, 1, none⟩ (.int .i64 141))) ?_; intro W9 hw; have HS9 : Hid (SS w W9 s l y.f0 141) := (by rw [hw]; exact HS8.out.setD _ _); have HO9 : Hid (Oth w wr W9) := (by rw [hw]; exact (HO8.out.set (.inr (.inl rfl)) 0 _).set (.inr (.inl rfl)) 1 _); clear hw e1 e2 e3 e4 e5; obtain ⟨e1, e2, e3, e4, e5⟩ := HS9.out.cells))
         go_roundg (l.length + 1)
         case measure => exact hk1
         case rel => exact ⟨l, out, y.f0, 141, by split <;> omega, HS9.out, own_oth HLS.out.own HS.out HO9.out, by rw [contS_err s n l out (y.f0, 141) (by show ¬ (141 : Int) = 0; decide)]; have := HE.out; rw [HST.out] at this; exact this, fun h => absurd h (by decide), hbd.out, by omega⟩
        ·have HST := Lib.hid (hb3 (fun h => h.elim g1 g2))
         have g2' : v ≤ n := by omega
         have g3 : v ≤ 9223372036854775807 := by omega
         clear hb2 hb3
         go_wp2_with (first
          | (go_at_call 112; refine (next_some HS.out).mono ?_; rintro e W1 ⟨⟨A1, c1, rfl, hc1, hC1⟩, HS1, HO1⟩; have HC1 := Lib.hid hC1; obtain ⟨e1, e2, e3, e4, e5⟩ := HS1.out.cells; obtain ⟨ad1, rfl, hw0⟩ := word0 hC1 HX.out; clear hC1 cn)
          | ((with_reducible refine gate_dst (N := 10) rfl ?_); refine box_ev (N := 10) (cs := #[.int .i64 0, .slice none 0 0]) (t := 32) ?_; intro g hg W2 hbox hb; have hgo : W1.heap.size ≤ g := (by omega); have HB2 := Lib.hid hb; have HX2 := Lib.hid hbox; obtain ⟨z0, z1, z2, z3⟩ := bc2 hbox; clear hbox hg hb)
          | ((with_reducible refine gate_store (t := 32) (p := 10) rfl ?_); refine store_ev (t := 32) (p := 10) (w1 := ((W2.setCell ⟨g, 0, none⟩ (.int .i64 x.f0)).setCell ⟨g, 1, none⟩ (.slice (some ad1) x.f1.length c1))) ?_; intro W3 hw; have HB3 : Hid (Below W1.heap.size W1 W3) := (by rw [hw]; exact (HB2.out.setCell (p := ⟨g, 0, none⟩) hgo _).setCell (p := ⟨g, 1, none⟩) hgo _); have HX3 : Hid (W3.heap[g]? = some (.cells #[.int .i64 x.f0, .slice (some ad1) x.f1.length c1] 32 (0, 0))) := (by rw [hw]; exact blk_put (blk_put HX2.out 0 _ rfl) 1 _ rfl); clear hw HX2 HB2 z0 z1 z2 z3; have HS3 := Lib.hid (HS1.out.step (HB3.out.mono HS1.out.sz)); have HO3 := Lib.hid (HO1.out.trans (Oth.below HB3.out)); clear HS1 HO1 e1 e2 e3 e4 e5; obtain ⟨e1, e2, e3, e4, e5⟩ := HS3.out.cells; obtain ⟨k0, k1, k2, k3⟩ := bc2 HX3.out)
          | (go_at_call 28; refine (sheet_Ints.calls 100001 s x.f0 (some ad1) c1 x.f1 1 _ _ _ _ ?hr hc1 HI.out).mono ?_; (case hr => exact Kd.C_below HC1.out HS3.out.bel); rintro e W4 ⟨v4, rfl, hR4, hb4⟩; have HS4 := Lib.hid (HS3.out.step (hb4.mono HS3.out.sz)); have HO4 := Lib.hid (HO3.out.trans (Oth.below hb4)); have HX4 := Lib.hid (blk_below HX3.out hb4); have HR4 := Lib.hid hR4; clear hR4 hb4 HS3 HO3 HX3 k0 k1 k2 k3 e1 e2 e3 e4 e5; obtain ⟨A4, c4, rfl⟩ := Kd.R_slice HR4.out; obtain ⟨ad4, ea4, hx4⟩ := int_at (Kd.R_reads' HR4.out).2.2 0 v rfl; rw [Addr.add_zero'] at hx4; subst ea4; have hne4 := Kd.own_blk (Kd.R_ne HR4.out HS4.out.bd (by decide)); have HS3sz : w.heap.size + 4 ≤ W4.heap.size := HS4.out.sz; have HO4sz : wr.heap.size ≤ W4.heap.size := HO4.out.1)
          | ((with_reducible refine gate_dst (N := 12) rfl ?_); refine box_ev (N := 12) (cs := #[.int .i64 0, .int .i64 0]) (t := 41) ?_; intro h hh W5 hbox hb; have hho : W4.heap.size ≤ h := (by omega); have HB5 := Lib.hid hb; have HX5 := Lib.hid hbox; obtain ⟨z0, z1, z2, z3⟩ := bc2 hbox; clear hbox hh hb)
          | ((with_reducible refine gate_store (t := 41) (p := 12) rfl ?_); refine store_ev (t := 41) (p := 12) (w1 := ((W5.setCell ⟨h, 0, none⟩ (.int .i64 0)).setCell ⟨h, 1, none⟩ (.int .i64 q2))) ?_; intro W6 hw; have HB6 : Hid (Below W4.heap.size W4 W6) := (by rw [hw]; exact (HB5.out.setCell (p := ⟨h, 0, none⟩) hho _).setCell (p := ⟨h, 1, none⟩) hho _); have HY6 : Hid (W6.heap[h]? = some (.cells #[.int .i64 0, .int .i64 q2] 41 (0, 0))) := (by rw [hw]; exact blk_put (blk_put HX5.out 0 _ rfl) 1 _ rfl); clear hw HX5 HB5 z0 z1 z2 z3; have HS6 := Lib.hid (HS4.out.step (HB6.out.mono HS4.out.sz)); have HO6 := Lib.hid (HO4.out.trans (Oth.below HB6.out)); have HX6 := Lib.hid (blk_below HX4.out HB6.out); clear HS4 HO4 HX4; obtain ⟨e1, e2, e3, e4, e5⟩ := HS6.out.cells; obtain ⟨y0, y1, y2, y3⟩ := bc2 HY6.out; have hl6 := pw_cell_below HB6.out hx4; have hy6 := pw_cell_below HS6.out.bel hw0; obtain ⟨k0, k1, k2, k3⟩ := bc2 HX6.out; clear hx4)
          | ((with_reducible refine gate_store (t := 41) (p := 7) rfl ?_); refine store_ev (t := 41) (p := 7) (w1 := ((W6.setCell ⟨w.heap.size + 2, 0, none⟩ (.int .i64 0)).setCell ⟨w.heap.size + 2, 1, none⟩ (.int .i64 q2))) ?_; intro W9 hw; have HS9 : Hid (SS w W9 s l 0 q2) := (by rw [hw]; exact HS6.out.setD _ _); have HO9 : Hid (Oth w wr W9) := (by rw [hw]; exact (HO6.out.set (.inr (.inl rfl)) 0 _).set (.inr (.inl rfl)) 1 _); have hl9 : W9.cell? ad4 = some (.int .i64 v) := (by rw [hw]; exact (cell_far (p := ⟨w.heap.size + 2, 1, none⟩) hne4 _).trans ((cell_far (p := ⟨w.heap.size + 2, 0, none⟩) hne4 _).trans hl6)); clear hw e1 e2 e3 e4 e5 hl6 hy6 y0 y1 y2 y3 k0 k1 k2 k3 HX6 HY6 HS6 HO6; obtain ⟨e1, e2, e3, e4, e5⟩ := HS9.out.cells; have HR9 := Lib.hid (own_oth HLS.out.own HS.out HO9.out))
          | ((with_reducible refine gate_builtin (b := .append) (xs := #[.tmp 63, .tmp 68]) rfl ?_); at_builtin; refine Kd.R_append (Kd.int .i64) (w0 := w) w.heap.size rfl (.tmp 63) (.tmp 68) 38 3 (.int .i64 0) 8 rfl Tryz.underlying38 info3 rfl (by decide) (by omega) (.slice A6 out.length c6) out (v - 1) [.int .i64 (v - 1)] (fun _ => True) (fun _ => False) rfl rfl ?aP (fun _ hk => hk.elim) ?aF ?aO ?aB ?aS ?aL ?_; (case aP => exact rfl); (case aB => exact HS9.out.bel); (case aF => exact (fun _ _ => trivial)); (case aO => exact HR9.out); (case aS => exact HS9.out.bel.size); (case aL => omega); intro v10 W10 ho hb hg hat; have HS10 := Lib.hid (HS9.out.grown HR9.out hg hb); have HR10 := Lib.hid ho; clear ho hb hg hat e1 e2 e3 e4 e5 HS9 HR9 hl9; obtain ⟨e1, e2, e3, e4, e5⟩ := HS10.out.cells))
         go_roundg (l.length + 1)
         case measure => exact hk1
         case rel => exact ⟨l, out ++ [v - 1], 0, q2, by split <;> omega, HS10.out, HR10.out, by rw [HC2.out]; have := HE.out; rw [HST.out] at this; exact this, fun _ => rfl, hbd.out, by rw [List.length_append]; simp; omega⟩
      ·have hst := hb1 hc2
       have hqz : (q2 == 0) = false := by rw [beq_eq_false_iff_ne]; exact hc2
       have HC2 := Lib.hid hc2
       have HST := Lib.hid hst
       clear hok hb1 hb2 hb3 hst hc2
       go_wp2_with (first
        | (go_at_call 112; refine (next_some HS.out).mono ?_; rintro e W1 ⟨⟨A1, c1, rfl, hc1, hC1⟩, HS1, HO1⟩; have HC1 := Lib.hid hC1; obtain ⟨e1, e2, e3, e4, e5⟩ := HS1.out.cells; clear hC1 cn)
        | ((with_reducible refine gate_dst (N := 10) rfl ?_); refine box_ev (N := 10) (cs := #[.int .i64 0, .slice none 0 0]) (t := 32) ?_; intro g hg W2 hbox hb; have hgo : W1.heap.size ≤ g := (by omega); have HB2 := Lib.hid hb; have HX2 := Lib.hid hbox; obtain ⟨z0, z1, z2, z3⟩ := bc2 hbox; clear hbox hg hb)
        | ((with_reducible refine gate_store (t := 32) (p := 10) rfl ?_); refine store_ev (t := 32) (p := 10) (w1 := ((W2.setCell ⟨g, 0, none⟩ (.int .i64 x.f0)).setCell ⟨g, 1, none⟩ (.slice A1 x.f1.length c1))) ?_; intro W3 hw; have HB3 : Hid (Below W1.heap.size W1 W3) := (by rw [hw]; exact (HB2.out.setCell (p := ⟨g, 0, none⟩) hgo _).setCell (p := ⟨g, 1, none⟩) hgo _); have HX3 : Hid (W3.heap[g]? = some (.cells #[.int .i64 x.f0, .slice A1 x.f1.length c1] 32 (0, 0))) := (by rw [hw]; exact blk_put (blk_put HX2.out 0 _ rfl) 1 _ rfl); clear hw HX2 HB2 z0 z1 z2 z3; have HS3 := Lib.hid (HS1.out.step (HB3.out.mono HS1.out.sz)); have HO3 := Lib.hid (HO1.out.trans (Oth.below HB3.out)); clear HS1 HO1 e1 e2 e3 e4 e5; obtain ⟨e1, e2, e3, e4, e5⟩ := HS3.out.cells; obtain ⟨k0, k1, k2, k3⟩ := bc2 HX3.out)
        | (go_at_call 28; refine (sheet_Ints.calls 100001 s x.f0 A1 c1 x.f1 1 _ _ _ _ ?hr hc1 HI.out).mono ?_; (case hr => exact Kd.C_below HC1.out HS3.out.bel); rintro e W4 ⟨v4, rfl, hR4, hb4⟩; have HS4 := Lib.hid (HS3.out.step (hb4.mono HS3.out.sz)); have HO4 := Lib.hid (HO3.out.trans (Oth.below hb4)); have HX4 := Lib.hid (blk_below HX3.out hb4); have HR4 := Lib.hid hR4; clear hR4 hb4 HS3 HO3 HX3 k0 k1 k2 k3 e1 e2 e3 e4 e5; obtain ⟨A4, c4, rfl⟩ := Kd.R_slice HR4.out)
        | ((with_reducible refine gate_dst (N := 12) rfl ?_); refine box_ev (N := 12) (cs := #[.int .i64 0, .int .i64 0]) (t := 41) ?_; intro h hh W5 hbox hb; have hho : W4.heap.size ≤ h := (by omega); have HB5 := Lib.hid hb; have HX5 := Lib.hid hbox; obtain ⟨z0, z1, z2, z3⟩ := bc2 hbox; clear hbox hh hb)
        | ((with_reducible refine gate_store (t := 41) (p := 12) rfl ?_); refine store_ev (t := 41) (p := 12) (w1 := ((W5.setCell ⟨h, 0, none⟩ (.int .i64 q1)).setCell ⟨h, 1, none⟩ (.int .i64 q2))) ?_; intro W6 hw; have HB6 : Hid (Below W4.heap.size W4 W6) := (by rw [hw]; exact (HB5.out.setCell (p := ⟨h, 0, none⟩) hho _).setCell (p := ⟨h, 1, none⟩) hho _); have HY6 : Hid (W6.heap[h]? = some (.cells #[.int .i64 q1, .int .i64 q2] 41 (0, 0))) := (by rw [hw]; exact blk_put (blk_put HX5.out 0 _ rfl) 1 _ rfl); clear hw HX5 HB5 z0 z1 z2 z3; have HS6 := Lib.hid (HS4.out.step (HB6.out.mono HS4.out.sz)); have HO6 := Lib.hid (HO4.out.trans (Oth.below HB6.out)); have HX6 := Lib.hid (blk_below HX4.out HB6.out); clear HS4 HO4 HX4; obtain ⟨e1, e2, e3, e4, e5⟩ := HS6.out.cells; obtain ⟨y0, y1, y2, y3⟩ := bc2 HY6.out)
        | ((with_reducible refine gate_store (t := 41) (p := 7) rfl ?_); refine store_ev (t := 41) (p := 7) (w1 := ((W6.setCell ⟨w.heap.size + 2, 0, none⟩ (.int .i64 q1)).setCell ⟨w.heap.size + 2, 1, none⟩ (.int .i64 q2))) ?_; intro W9 hw; have HS9 : Hid (SS w W9 s l q1 q2) := (by rw [hw]; exact HS6.out.setD _ _); have HO9 : Hid (Oth w wr W9) := (by rw [hw]; exact (HO6.out.set (.inr (.inl rfl)) 0 _).set (.inr (.inl rfl)) 1 _); clear hw e1 e2 e3 e4 e5; obtain ⟨e1, e2, e3, e4, e5⟩ := HS9.out.cells))
       go_roundg (l.length + 1)
       case measure => exact hk1
       case rel => exact ⟨l, out, q1, q2, by split <;> omega, HS9.out, own_oth HLS.out.own HS.out HO9.out, by rw [contS_err s n l out (q1, q2) HC2.out]; have := HE.out; rw [HST.out] at this; exact this, fun h => absurd h HC2.out, hbd.out, by omega⟩
    ·have hz : (d2 == 0) = true := by rw [hd]; rfl
     have hR : Hid (RES = (l, out, d1, d2)) := by
      have h1 := HLS.out.zero hd
      have := HLS.out.eq
      unfold contS at this
      rw [if_pos hd, loopS_stop s n l out hlt] at this
      rw [h1, hd]
      exact Lib.hid this.symm
     clear hd
     go_wp2
     go_meet
     case rel => exact ⟨l, out, d1, d2, hR.out, HS, Lib.hid HLS.out.own, Lib.hid HLS.out.bd⟩
   ·have hz : (d2 == 0) = false := by rw [beq_eq_false_iff_ne]; exact hd
    have hR : Hid (RES = (l, out, d1, d2)) := by
     have := HLS.out.eq
     unfold contS at this
     rw [if_neg hd] at this
     exact Lib.hid this.symm
    clear hd
    go_wp2
    go_meet
    case rel => exact ⟨l, out, d1, d2, hR.out, HS, Lib.hid HLS.out.own, Lib.hid HLS.out.bd⟩
 case rest =>
  obtain ⟨l, out, d1, d2, hR, HS, HR, HB⟩ := hcut
  obtain ⟨A6, c6, rfl⟩ := Kd.R_slice HR.out
  obtain ⟨e1, e2, e3, e4, e5⟩ := HS.out.cells
  have HE : Hid (stopsS s n L = endS s (l, out, d1, d2)) := Lib.hid (by unfold stopsS; rw [HTE.out, HRES.out, hR])
  clear hR
  by_cases hd : d2 = 0
  ·have hz : (d2 == 0) = true := by rw [hd]; rfl
   obtain ⟨T1, hT1⟩ : ∃ T1, tlS s ⟨#[45, 49]⟩ l (d1, d2) = T1 := ⟨_, rfl⟩
   obtain ⟨l3, a1, a2⟩ := T1
   have HT1 := Lib.hid hT1
   have hl3 := title_len s ⟨#[45, 49]⟩ l (d1, d2)
   rw [hT1] at hl3
   have HBa : Hid (∀ x ∈ l3, x.f1.length ≤ 100000) := Lib.hid fun x hx => HB.out x (hl3.2 x hx)
   have hE1 : endS s (l, out, d1, d2) = (let r2 := if a2 = 0 ∧ l3 ≠ [] then tlS s ⟨#[69, 79, 70]⟩ l3 (a1, a2) else (l3, a1, a2); (out, if r2.2.2 = 0 then (match r2.1 with | [] => r2.2 | x :: _ => (x.f0, 4)) else r2.2)) := by
    unfold endS
    simp only [hd, if_true]
    rw [hd] at hT1
    rw [hT1]
   clear hT1 hl3 hd
   by_cases ha : a2 = 0
   ·have hza : (a2 == 0) = true := by rw [ha]; rfl
    cases l3 with
    | nil =>
     have HN : Hid (endS s (l, out, d1, d2) = (out, a1, a2)) := Lib.hid (by rw [hE1]; simp)
     clear hE1 ha
     go_wp2_with (first
      | (go_at_call 113; refine (title_calls HS.out hs HB.out _).mono ?_; rintro e Wt1 ⟨⟨vt1, rfl⟩, HSa, HOt1⟩; have HRa := Lib.hid (own_oth HR.out HS.out HOt1.out); rw [HT1.out] at HSa; clear e1 e2 e3 e4 e5; obtain ⟨e1, e2, e3, e4, e5⟩ := HSa.out.cells; obtain ⟨Ar, cr, hr1, hr2, hr3⟩ := HSa.out.rows; have hcr := (bc1 hr1).1; clear hr1 hr2 hr3))
     go_region
     go_wp2
     refine bodyPost_ret (results_list (rs := [.tmp 6, .cell 7 41]) rfl (by simp) (.tmp (.cell (w.heap.size + 2) 41 #[.int .i64 a1, .int .i64 a2] (0, 0) _ rfl (HSa.out.setD a1 a2).bd Tryz.underlying41 rfl (by kernel_rfl) .nil))) rfl ?_
     rw [HE.out, HN.out]
     exact ⟨_, rfl, own_oth HRa.out HSa.out ((((Oth.refl w _).set (.inr (.inl rfl)) 0 _).set (.inr (.inl rfl)) 1 _).drew), below_drew1 (HSa.out.setD a1 a2).bel⟩
    | cons y l3 =>
     obtain ⟨T2, hT2⟩ : ∃ T2, tlS s ⟨#[69, 79, 70]⟩ (y :: l3) (a1, a2) = T2 := ⟨_, rfl⟩
     obtain ⟨l4, b1, b2⟩ := T2
     have HT2 := Lib.hid hT2
     have hp1 : (0 : Int) < (l3.length : Int) + 1 := by omega
     rw [if_pos ⟨ha, by simp⟩, hT2] at hE1
     simp only at hE1
     clear hT2 ha
     by_cases hb : b2 = 0
     ·have hzb : (b2 == 0) = true := by rw [hb]; rfl
      rw [if_pos hb] at hE1
      clear hb
      cases l4 with
      | nil =>
       have HN := Lib.hid hE1
       clear hE1
       go_wp2_with (first
        | (go_at_call 113; refine (title_calls HS.out hs HB.out _).mono ?_; rintro e Wt1 ⟨⟨vt1, rfl⟩, HSa, HOt1⟩; have HRa := Lib.hid (own_oth HR.out HS.out HOt1.out); rw [HT1.out] at HSa; clear e1 e2 e3 e4 e5; obtain ⟨e1, e2, e3, e4, e5⟩ := HSa.out.cells; obtain ⟨Ar, cr, hr1, hr2, hr3⟩ := HSa.out.rows; have hcr := (bc1 hr1).1; clear hr1 hr2 hr3)
        | (go_at_call 113; refine (title_calls HSa.out hs HBa.out _).mono ?_; rintro e Wt2 ⟨⟨vt2, rfl⟩, HSb, HOt2⟩; have HRb := Lib.hid (own_oth HRa.out HSa.out HOt2.out); rw [HT2.out] at HSb; clear e1 e2 e3 e4 e5; obtain ⟨e1, e2, e3, e4, e5⟩ := HSb.out.cells; clear hcr; obtain ⟨Ar, cr, hr1, hr2, hr3⟩ := HSb.out.rows; have hcr := (bc1 hr1).1; clear hr1 hr2 hr3))
       go_region
       go_wp2
       refine bodyPost_ret (results_list (rs := [.tmp 6, .cell 7 41]) rfl (by simp) (.tmp (.cell (w.heap.size + 2) 41 #[.int .i64 b1, .int .i64 b2] (0, 0) _ rfl (HSb.out.setD b1 b2).bd Tryz.underlying41 rfl (by kernel_rfl) .nil))) rfl ?_
       rw [HE.out, HN.out]
       exact ⟨_, rfl, own_oth HRb.out HSb.out ((((Oth.refl w _).set (.inr (.inl rfl)) 0 _).set (.inr (.inl rfl)) 1 _).drew), below_drew1 (HSb.out.setD b1 b2).bel⟩
      | cons z l5 =>
       have HN := Lib.hid hE1
       have hp2 : (0 : Int) < (l5.length : Int) + 1 := by omega
       clear hE1
       go_wp2_with (first
        | (go_at_call 113; refine (title_calls HS.out hs HB.out _).mono ?_; rintro e Wt1 ⟨⟨vt1, rfl⟩, HSa, HOt1⟩; have HRa := Lib.hid (own_oth HR.out HS.out HOt1.out); rw [HT1.out] at HSa; clear e1 e2 e3 e4 e5; obtain ⟨e1, e2, e3, e4, e5⟩ := HSa.out.cells; obtain ⟨Ar, cr, hr1, hr2, hr3⟩ := HSa.out.rows; have hcr := (bc1 hr1).1; clear hr1 hr2 hr3)
        | (go_at_call 113; refine (title_calls HSa.out hs HBa.out _).mono ?_; rintro e Wt2 ⟨⟨vt2, rfl⟩, HSb, HOt2⟩; have HRb := Lib.hid (own_oth HRa.out HSa.out HOt2.out); rw [HT2.out] at HSb; clear e1 e2 e3 e4 e5; obtain ⟨e1, e2, e3, e4, e5⟩ := HSb.out.cells; clear hcr; obtain ⟨Ar, cr, hr1, hr2, hr3⟩ := HSb.out.rows; obtain ⟨adz, rfl, hz0⟩ := row0 hr3; have hz1 := pw_cell_below HSb.out.bel hz0; have hcr := (bc1 hr1).1; clear hr1 hr2 hr3 hz0)
        | (go_at_call 70; refine (wrong_calls _ _ _).mono ?_; rintro e Ww ⟨rfl, hbw⟩; have HSw := Lib.hid (HSb.out.step (hbw.mono HSb.out.sz)); have HRw := Lib.hid (own_oth HRb.out HSb.out (Oth.below hbw)); clear hbw HSb HRb e1 e2 e3 e4 e5 hcr hz1; obtain ⟨e1, e2, e3, e4, e5⟩ := HSw.out.cells)
        | ((with_reducible refine gate_store (t := 41) (p := 7) rfl ?_); refine store_ev (t := 41) (p := 7) (w1 := ((Ww.setCell ⟨w.heap.size + 2, 0, none⟩ (.int .i64 z.f0)).setCell ⟨w.heap.size + 2, 1, none⟩ (.int .i64 4))) ?_; intro Wx hw; have HSx : Hid (SS w Wx s (z :: l5) z.f0 4) := (by rw [hw]; exact HSw.out.setD _ _); have HRx : Hid (Kd.R (Kd.int .i64) 3 Wx w.heap.size (fun _ => True) (.slice A6 out.length c6) out) := (by rw [hw]; exact own_oth HRw.out HSw.out (((Oth.refl w _).set (.inr (.inl rfl)) 0 _).set (.inr (.inl rfl)) 1 _)); clear hw HSw HRw e1 e2 e3 e4 e5; obtain ⟨e1, e2, e3, e4, e5⟩ := HSx.out.cells))
       go_region
       go_wp2
       refine bodyPost_ret (results_list (rs := [.tmp 6, .cell 7 41]) rfl (by simp) (.tmp (.cell (w.heap.size + 2) 41 #[.int .i64 z.f0, .int .i64 4] (0, 0) _ rfl (HSx.out.setD z.f0 4).bd Tryz.underlying41 rfl (by kernel_rfl) .nil))) rfl ?_
       rw [HE.out, HN.out]
       exact ⟨_, rfl, own_oth HRx.out HSx.out ((((Oth.refl w _).set (.inr (.inl rfl)) 0 _).set (.inr (.inl rfl)) 1 _).drew), below_drew1 (HSx.out.setD z.f0 4).bel⟩
     ·have hzb : (b2 == 0) = false := by rw [beq_eq_false_iff_ne]; exact hb
      rw [if_neg hb] at hE1
      have HN := Lib.hid hE1
      clear hE1 hb
      go_wp2_with (first
       | (go_at_call 113; refine (title_calls HS.out hs HB.out _).mono ?_; rintro e Wt1 ⟨⟨vt1, rfl⟩, HSa, HOt1⟩; have HRa := Lib.hid (own_oth HR.out HS.out HOt1.out); rw [HT1.out] at HSa; clear e1 e2 e3 e4 e5; obtain ⟨e1, e2, e3, e4, e5⟩ := HSa.out.cells; obtain ⟨Ar, cr, hr1, hr2, hr3⟩ := HSa.out.rows; have hcr := (bc1 hr1).1; clear hr1 hr2 hr3)
       | (go_at_call 113; refine (title_calls HSa.out hs HBa.out _).mono ?_; rintro e Wt2 ⟨⟨vt2, rfl⟩, HSb, HOt2⟩; have HRb := Lib.hid (own_oth HRa.out HSa.out HOt2.out); rw [HT2.out] at HSb; clear e1 e2 e3 e4 e5; obtain ⟨e1, e2, e3, e4, e5⟩ := HSb.out.cells; skip))
      go_region
      go_wp2
      refine bodyPost_ret (results_list (rs := [.tmp 6, .cell 7 41]) rfl (by simp) (.tmp (.cell (w.heap.size + 2) 41 #[.int .i64 b1, .int .i64 b2] (0, 0) _ rfl (HSb.out.setD b1 b2).bd Tryz.underlying41 rfl (by kernel_rfl) .nil))) rfl ?_
      rw [HE.out, HN.out]
      exact ⟨_, rfl, own_oth HRb.out HSb.out ((((Oth.refl w _).set (.inr (.inl rfl)) 0 _).set (.inr (.inl rfl)) 1 _).drew), below_drew1 (HSb.out.setD b1 b2).bel⟩
   ·have hza : (a2 == 0) = false := by rw [beq_eq_false_iff_ne]; exact ha
    have HN : Hid (endS s (l, out, d1, d2) = (out, a1, a2)) := Lib.hid (by rw [hE1]; simp [ha])
    clear hE1 ha
    go_wp2_with (first
     | (go_at_call 113; refine (title_calls HS.out hs HB.out _).mono ?_; rintro e Wt1 ⟨⟨vt1, rfl⟩, HSa, HOt1⟩; have HRa := Lib.hid (own_oth HR.out HS.out HOt1.out); rw [HT1.out] at HSa; clear e1 e2 e3 e4 e5; obtain ⟨e1, e2, e3, e4, e5⟩ := HSa.out.cells; skip))
    go_region
    go_wp2
    refine bodyPost_ret (results_list (rs := [.tmp 6, .cell 7 41]) rfl (by simp) (.tmp (.cell (w.heap.size + 2) 41 #[.int .i64 a1, .int .i64 a2] (0, 0) _ rfl (HSa.out.setD a1 a2).bd Tryz.underlying41 rfl (by kernel_rfl) .nil))) rfl ?_
    rw [HE.out, HN.out]
    exact ⟨_, rfl, own_oth HRa.out HSa.out ((((Oth.refl w _).set (.inr (.inl rfl)) 0 _).set (.inr (.inl rfl)) 1 _).drew), below_drew1 (HSa.out.setD a1 a2).bel⟩
  ·have hz : (d2 == 0) = false := by rw [beq_eq_false_iff_ne]; exact hd
   have HN : Hid (endS s (l, out, d1, d2) = (out, d1, d2)) := Lib.hid (by unfold endS; simp [hd])
   clear hd
   go_wp2
   go_region
   go_wp2
   refine bodyPost_ret (results_list (rs := [.tmp 6, .cell 7 41]) rfl (by simp) (.tmp (.cell (w.heap.size + 2) 41 #[.int .i64 d1, .int .i64 d2] (0, 0) _ rfl (HS.out.setD d1 d2).bd Tryz.underlying41 rfl (by kernel_rfl) .nil))) rfl ?_
   rw [HE.out, HN.out]
   exact ⟨_, rfl, own_oth HR.out HS.out ((((Oth.refl w _).set (.inr (.inl rfl)) 0 _).set (.inr (.inl rfl)) 1 _).drew), below_drew1 (HS.out.setD d1 d2).bel⟩
end Go.Proofs.YtadocbfchdendaaGreatDoor.Cu
namespace Go.Proofs.YtadocbfchdendaaGreatDoor.P
open Go.RowKit Go.Proofs.YtadocbfchdendaaGreatDoorW.PrintWords Go.Proofs.YtadocbfchdendaaGreatDoorW.PrintLast Go.Proofs.YtadocbfchdendaaGreatDoorW.PrintMore
attribute [local go_sem] max2_int min2_int max_two min_two max_three min_three max_four min_four
set_option linter.unusedVariables false
set_option linter.unusedSimpArgs false
def words_Key.f (a0 : ByteArray) (a1 : Int) (a2 : Int) : Option (ByteArray × Int × Int × Bool) := (words_places.f a0 a1 a2).bind fun t102 => (if t102 = true then (if 0 ≤ a1 then (if a1 ≤ a2 then (if a2 ≤ (a0.size : Int) then ((strings_Cut.f (a0.extract (a1 : Int).toNat (a2 : Int).toNat) (⟨#[58]⟩ : ByteArray)).bind fun bt103 => ((strings_Trim.f bt103.1 (⟨#[32, 9]⟩ : ByteArray)).bind fun t106 => ((words_all_cap.f t106 ()).bind fun t107 => (if t107 = true then ((strings_TrimLeft.f bt103.2.1 (⟨#[32, 9]⟩ : ByteArray)).bind fun t109 => (if t109.toList = ([] : List UInt8) then (some (t106, a2, a2, true)) else ((strings_TrimRight.f t109 (⟨#[32, 9]⟩ : ByteArray)).bind fun t110 => (some (t106, wrap64 (a2 - (t109.size : Int)), wrap64 ((wrap64 (a2 - (t109.size : Int))) + (t110.size : Int)), true))))) else (some ((⟨#[]⟩ : ByteArray), 0, 0, false)))))) else (none)) else (none)) else (none)) else (some ((⟨#[]⟩ : ByteArray), 0, 0, false)))
set_option maxHeartbeats 8000000 in
set_option maxRecDepth 100000 in
theorem words_Key.calls (a0 : ByteArray) (a1 : Int) (a2 : Int) (r1 : ByteArray) (r2 : Int) (r3 : Int) (r4 : Bool) (w : World) (h : words_Key.f a0 a1 a2 = some (r1, r2, r3, r4)) :
  Calls Tryz.prog 111 #[.string a0, .int .i64 a1, .int .i64 a2] w fun e w' => e = .returned (.tuple #[.string r1, .agg #[.int .i64 r2, .int .i64 r3], .bool r4]) ∧ Below w.heap.size w w' := by
 have hu105 := Tryz.underlying105; have HB := Aside0.mk (Below.refl w.heap.size w); have H : ((words_places.f a0 a1 a2).bind fun t102 => (if t102 = true then (if 0 ≤ a1 then (if a1 ≤ a2 then (if a2 ≤ (a0.size : Int) then ((strings_Cut.f (a0.extract (a1 : Int).toNat (a2 : Int).toNat) (⟨#[58]⟩ : ByteArray)).bind fun bt103 => ((strings_Trim.f bt103.1 (⟨#[32, 9]⟩ : ByteArray)).bind fun t106 => ((words_all_cap.f t106 ()).bind fun t107 => (if t107 = true then ((strings_TrimLeft.f bt103.2.1 (⟨#[32, 9]⟩ : ByteArray)).bind fun t109 => (if t109.toList = ([] : List UInt8) then (some (t106, a2, a2, true)) else ((strings_TrimRight.f t109 (⟨#[32, 9]⟩ : ByteArray)).bind fun t110 => (some (t106, wrap64 (a2 - (t109.size : Int)), wrap64 ((wrap64 (a2 - (t109.size : Int))) + (t110.size : Int)), true))))) else (some ((⟨#[]⟩ : ByteArray), 0, 0, false)))))) else (none)) else (none)) else (none)) else (some ((⟨#[]⟩ : ByteArray), 0, 0, false)))) = some (r1, r2, r3, r4) := h; clear h; replace H := Option.bind_eq_some_iff.mp H; obtain ⟨t102, A40, H⟩ := H; (try dsimp only at H); have A4 := Aside0.mk A40; clear A40
 by_cases c5 : t102 = true
 ·subst c5; have H1 : (if 0 ≤ a1 then (if a1 ≤ a2 then (if a2 ≤ (a0.size : Int) then ((strings_Cut.f (a0.extract (a1 : Int).toNat (a2 : Int).toNat) (⟨#[58]⟩ : ByteArray)).bind fun bt103 => ((strings_Trim.f bt103.1 (⟨#[32, 9]⟩ : ByteArray)).bind fun t106 => ((words_all_cap.f t106 ()).bind fun t107 => (if t107 = true then ((strings_TrimLeft.f bt103.2.1 (⟨#[32, 9]⟩ : ByteArray)).bind fun t109 => (if t109.toList = ([] : List UInt8) then (some (t106, a2, a2, true)) else ((strings_TrimRight.f t109 (⟨#[32, 9]⟩ : ByteArray)).bind fun t110 => (some (t106, wrap64 (a2 - (t109.size : Int)), wrap64 ((wrap64 (a2 - (t109.size : Int))) + (t110.size : Int)), true))))) else (some ((⟨#[]⟩ : ByteArray), 0, 0, false)))))) else (none)) else (none)) else (none)) = some (r1, r2, r3, r4) := by rw [if_pos rfl] at H; exact H
  clear H; have H := H1; clear H1
  by_cases c6 : 0 ≤ a1
  ·rw [if_pos c6] at H; have c6b0 := eq_true c6; have c6b1 := decide_eq_true c6; clear c6
   by_cases c7 : a1 ≤ a2
   ·rw [if_pos c7] at H; have c7b0 := eq_true c7; have c7b1 := decide_eq_true c7; clear c7
    by_cases c8 : a2 ≤ (a0.size : Int)
    ·rw [if_pos c8] at H; have c8b0 := eq_true c8; have c8b1 := decide_eq_true c8; clear c8; replace H := Option.bind_eq_some_iff.mp H; obtain ⟨⟨t103, t104, t105⟩, A90, H⟩ := H; (try dsimp only at H); have A9 := Aside0.mk A90; clear A90; replace H := Option.bind_eq_some_iff.mp H; obtain ⟨t106, A100, H⟩ := H; (try dsimp only at H); have A10 := Aside0.mk A100; clear A100; replace H := Option.bind_eq_some_iff.mp H; obtain ⟨t107, A110, H⟩ := H; (try dsimp only at H); have A11 := Aside0.mk A110; clear A110
     by_cases c12 : t107 = true
     ·subst c12; have H1 : ((strings_TrimLeft.f t104 (⟨#[32, 9]⟩ : ByteArray)).bind fun t109 => (if t109.toList = ([] : List UInt8) then (some (t106, a2, a2, true)) else ((strings_TrimRight.f t109 (⟨#[32, 9]⟩ : ByteArray)).bind fun t110 => (some (t106, wrap64 (a2 - (t109.size : Int)), wrap64 ((wrap64 (a2 - (t109.size : Int))) + (t110.size : Int)), true))))) = some (r1, r2, r3, r4) := by rw [if_pos rfl] at H; exact H
      clear H; have H := H1; clear H1; replace H := Option.bind_eq_some_iff.mp H; obtain ⟨t109, A130, H⟩ := H; (try dsimp only at H); have A13 := Aside0.mk A130; clear A130
      by_cases c14 : t109.toList = ([] : List UInt8)
      ·rw [if_pos c14] at H; have c14b0 := beq_iff_eq.mpr c14; have c14b1 := bne_eq_false_iff_eq.mpr c14; clear c14; simp only [Option.some.injEq, Prod.mk.injEq] at H; obtain ⟨rfl, rfl, rfl, rfl⟩ := H; go_enter Tryz.func111, Tryz.ntmps111
       try go_wp2_with (first | ((with_reducible refine gate_dst (N := 7) rfl ?_); refine box_ev (N := 7) (cs := #[.int .i64 0, .int .i64 0]) (t := 105) ?_; intro gb101 hg w15 hbox hb; have BK101 := Aside0.mk (hbox); have GW101 := Aside0.mk ((qg : w.heap.size ≤ gb101)); have GE101 := Aside0.mk ((qg : w.heap.size ≤ gb101)); replace HB := cB HB hb; clear hb hbox hg) | ((with_reducible refine gate_callee (f := 88) rfl ?_); refine goesL_ (some 17) rfl rfl Tryz.func88 (by kernel_rfl) rfl #[.string a0, .int .i64 a1, .int .i64 a2] rfl qm ?_; (with_reducible refine (words_places.calls a0 a1 a2 true _ A4.out).mono ?_); rintro e w' ⟨rfl, ⟨nd, rfl⟩⟩; refine ⟨_, rfl, ?_⟩; (try (rw [drewN_self w15]; generalize hq_ : World.drewN w15 _ = w15; have n0_ : Aside0 (w15.heap[gb101]? = some (.cells #[.int .i64 0, .int .i64 0] 105 (0, 0))) := ⟨by rw [← hq_]; exact (qk BK101.out)⟩; have n1_ : Aside0 (Below w.heap.size w w15) := ⟨by rw [← hq_]; exact qb⟩; clear BK101 HB hq_; have BK101 := n0_; have HB := n1_; clear n0_ n1_))) | ((with_reducible refine gate_callee (f := 118) rfl ?_); refine goesL_ (some 25) rfl rfl Tryz.func118 (by kernel_rfl) rfl #[.string (a0.extract (a1 : Int).toNat (a2 : Int).toNat), .string (⟨#[58]⟩ : ByteArray)] rfl qm ?_; (with_reducible refine (strings_Cut.calls (a0.extract (a1 : Int).toNat (a2 : Int).toNat) (⟨#[58]⟩ : ByteArray) t103 t104 t105 _ A9.out).mono ?_); rintro e w16 ⟨rfl, hb⟩; refine ⟨_, rfl, ?_⟩; replace BK101 := cK BK101 hb; replace HB := cB HB hb; (try clear hb); (try clear hb2); (try clear hk); (try clear hi)) | ((with_reducible refine gate_callee (f := 120) rfl ?_); refine goesL_ (some 30) rfl rfl Tryz.func120 (by kernel_rfl) rfl #[.string t103, .string (⟨#[32, 9]⟩ : ByteArray)] rfl qm ?_; (with_reducible refine (strings_Trim.calls t103 (⟨#[32, 9]⟩ : ByteArray) t106 _ A10.out).mono ?_); rintro e w17 ⟨rfl, hb⟩; refine ⟨_, rfl, ?_⟩; replace BK101 := cK BK101 hb; replace HB := cB HB hb; (try clear hb); (try clear hb2); (try clear hk); (try clear hi)) | ((with_reducible refine gate_callee (f := 109) rfl ?_); refine goesL_ (some 32) rfl rfl Tryz.func109 (by kernel_rfl) rfl #[.string t106, .func (.func 125) #[] #[]] rfl qm ?_; (with_reducible refine (words_all_cap.calls t106 () true _ A11.out).mono ?_); rintro e w18 ⟨rfl, hb⟩; refine ⟨_, rfl, ?_⟩; replace BK101 := cK BK101 hb; replace HB := cB HB hb; (try clear hb); (try clear hb2); (try clear hk); (try clear hi)) | ((with_reducible refine gate_dst (N := 12) rfl ?_); refine box_ev (N := 12) (cs := #[.int .i64 0, .int .i64 0]) (t := 105) ?_; intro gb108 hg w19 hbox hb; have BK108 := Aside0.mk (hbox); have GW108 := Aside0.mk ((qg : w.heap.size ≤ gb108)); have GE108 := Aside0.mk ((qg : w.heap.size ≤ gb108)); have NB101_108 := Aside0.mk ((by rw [hg]; exact Nat.ne_of_lt (blk_lt (g := gb101) (o := .cells #[.int .i64 0, .int .i64 0] 105 (0, 0)) (qk BK101.out)) : gb101 ≠ gb108)); have NB108_101 := Aside0.mk ((by rw [hg]; exact Nat.ne_of_gt (blk_lt (g := gb101) (o := .cells #[.int .i64 0, .int .i64 0] 105 (0, 0)) (qk BK101.out)) : gb108 ≠ gb101)); replace BK101 := cK BK101 hb; replace HB := cB HB hb; clear hb hbox hg; have hnb20 := NB108_101.out; have hnc20 := NB101_108.out; have hcz21_0 : w19.cell? ⟨gb108, 0, none⟩ = some (.int .i64 0) := (blk_cell BK108.out 0).trans rfl; have hcz21_1 : w19.cell? ⟨gb108, 1, none⟩ = some (.int .i64 0) := (blk_cell BK108.out 1).trans rfl; have hfz21_0 := blk_frozen BK108.out 0; have hfz21_1 := blk_frozen BK108.out 1) | ((with_reducible refine gate_callee (f := 127) rfl ?_); refine goesL_ (some 39) rfl rfl Tryz.func127 (by kernel_rfl) rfl #[.string t104, .string (⟨#[32, 9]⟩ : ByteArray)] rfl qm ?_; (with_reducible refine (strings_TrimLeft.calls t104 (⟨#[32, 9]⟩ : ByteArray) t109 _ A13.out).mono ?_); rintro e w22 ⟨rfl, hb⟩; refine ⟨_, rfl, ?_⟩; have n0_ := Aside0.mk (blk_below (g := gb101) (o := .cells #[.int .i64 0, .int .i64 0] 105 (0, 0)) (by refine qk ?_; refine blk_far ?_ NB101_108.out _; refine qk ?_; refine blk_far ?_ NB101_108.out _; refine qk ?_; exact BK101.out) hb); have n1_ := Aside0.mk (blk_below (g := gb108) (o := .cells #[.int .i64 a2, .int .i64 a2] 105 (0, 0)) (by refine qk ?_; refine blk_put (cs := #[.int .i64 a2, .int .i64 0]) ?_ 1 _ rfl; refine qk ?_; refine blk_put (cs := #[.int .i64 0, .int .i64 0]) ?_ 0 _ rfl; refine qk ?_; exact BK108.out) hb); replace HB := cB HB hb; replace BK101 := n0_; replace BK108 := n1_; clear n0_ n1_; (try clear hb); (try clear hb2); (try clear hk); (try clear hi)))
       have n0_ := Aside0.mk (blk_drew BK101.out); have n1_ := Aside0.mk (blk_drew BK108.out); have n2_ := Aside0.mk (below_drew1 HB.out); clear BK101; clear BK108; clear HB; have BK101 := n0_; have BK108 := n1_; have HB := n2_; clear n0_ n1_ n2_; refine start_ (n := 5) (S := fun w' => w'.cell? ⟨gb108, 0, none⟩ = some (.int .i64 a2) ∧ w'.cell? ⟨gb108, 1, none⟩ = some (.int .i64 a2)) (ds := []) #[false, false, false, false, false] (by kernel_rfl) rfl rfl ⟨(blk_cell BK108.out 0).trans rfl, (blk_cell BK108.out 1).trans rfl⟩ (fun hHeld => ?_); generalize w22.drew = w23 at BK101 BK108 HB hHeld ⊢; refine pure_ (i := 0) (N := some 55) (v := ?_) (a' := ?_) #[true, false, false, false, false] rfl rfl (by kernel_rfl) (fun _ _ _ h => h) (Or.inl ⟨by rfl, ?_⟩) ?_ ?_
       rotate_left
       ·intro w'
        go_simp
        with_reducible rfl
       rotate_left
       ·simp only [Act.put, List.setIfInBounds_toArray, List.set_cons_zero, List.set_cons_succ, i64_w, i32_w]
        rfl
       refine pure_ (i := 2) (N := some 6) (v := ?_) (a' := ?_) #[true, false, true, false, false] rfl rfl (by kernel_rfl) (fun _ _ _ h => h) (Or.inl ⟨by rfl, ?_⟩) ?_ ?_
       rotate_left
       ·intro w'
        go_simp
        with_reducible rfl
       rotate_left
       ·simp only [Act.put, List.setIfInBounds_toArray, List.set_cons_zero, List.set_cons_succ, i64_w, i32_w]
        rfl
       refine take_ (i := 1) (N := some 56) (v := ?_) (a' := ?_) #[true, true, true, false, false] rfl rfl (by kernel_rfl) (fun _ _ _ h => h) (Or.inl ⟨by rfl, ?_⟩) hHeld ?_ ?_
       rotate_left
       ·rintro w' ⟨s0, s1⟩
        go_simp
        with_reducible rfl
       rotate_left
       ·simp only [Act.put, List.setIfInBounds_toArray, List.set_cons_zero, List.set_cons_succ, i64_w, i32_w]
        rfl
       refine one_ (i := 3) (N := none) #[true, true, true, true, false] rfl rfl (by kernel_rfl) (by decide) (fun K hK => ?_); have hs24 : w23.cell? ⟨gb101, 0, none⟩ = some (.int .i64 0) := (blk_cell BK101.out 0).trans rfl; have hfs24 := blk_frozen BK101.out 0; have hns24_1 := NB108_101.out; have hms24_1 := NB101_108.out; have hs25 : w23.cell? ⟨gb101, 1, none⟩ = some (.int .i64 0) := (blk_cell BK101.out 1).trans rfl; have hfs25 := blk_frozen BK101.out 1; have hns25_1 := NB108_101.out; have hms25_1 := NB101_108.out; refine skip_ (w1 := ?_) (by rfl) rfl ?_ ?_
       rotate_left
       ·go_simp
        rfl
       refine hK.out _ _ ⟨((cell_far (p := ⟨gb101, _, none⟩) NB108_101.out _).trans (((cell_far (p := ⟨gb101, _, none⟩) NB108_101.out _).trans (hHeld.1)))), ((cell_far (p := ⟨gb101, _, none⟩) NB108_101.out _).trans (((cell_far (p := ⟨gb101, _, none⟩) NB108_101.out _).trans (hHeld.2))))⟩ (fun hHeld => ?_); clear hK K; refine pure_ (i := 4) (N := some 8) (v := ?_) (a' := ?_) #[true, true, true, true, true] rfl rfl (by kernel_rfl) (fun _ _ _ h => h) (Or.inl ⟨by rfl, ?_⟩) ?_ ?_
       rotate_left
       ·intro w'
        go_simp
        with_reducible rfl
       rotate_left
       ·simp only [Act.put, List.setIfInBounds_toArray, List.set_cons_zero, List.set_cons_succ, i64_w, i32_w]
        rfl
       refine done_ (by kernel_rfl) ?_
       try go_wp2
       refine bodyPost_ret (results_list (rs := [.tmp 6, .cell 7 105, .tmp 8]) rfl (by simp) (.tmp (.cell gb101 105 #[.int .i64 a2, .int .i64 a2] (0, 0) _ rfl (by refine qk ?_; refine blk_put (cs := #[.int .i64 a2, .int .i64 0]) ?_ 1 _ rfl; refine qk ?_; refine blk_put (cs := #[.int .i64 0, .int .i64 0]) ?_ 0 _ rfl; refine qk ?_; exact BK101.out) Tryz.underlying105 rfl (by kernel_rfl) (.tmp .nil)))) rfl ?_
       exact ⟨qe, qb⟩
      ·rw [if_neg c14] at H; have c14b0 := beq_eq_false_iff_ne.mpr c14; have c14b1 := bne_iff_ne.mpr c14; replace H := Option.bind_eq_some_iff.mp H; obtain ⟨t110, A260, H⟩ := H; (try dsimp only at H); have A26 := Aside0.mk A260; clear A260; simp only [Option.some.injEq, Prod.mk.injEq] at H; obtain ⟨rfl, rfl, rfl, rfl⟩ := H; go_enter Tryz.func111, Tryz.ntmps111
       try go_wp2_with (first | ((with_reducible refine gate_dst (N := 7) rfl ?_); refine box_ev (N := 7) (cs := #[.int .i64 0, .int .i64 0]) (t := 105) ?_; intro gb101 hg w27 hbox hb; have BK101 := Aside0.mk (hbox); have GW101 := Aside0.mk ((qg : w.heap.size ≤ gb101)); have GE101 := Aside0.mk ((qg : w.heap.size ≤ gb101)); replace HB := cB HB hb; clear hb hbox hg) | ((with_reducible refine gate_callee (f := 88) rfl ?_); refine goesL_ (some 17) rfl rfl Tryz.func88 (by kernel_rfl) rfl #[.string a0, .int .i64 a1, .int .i64 a2] rfl qm ?_; (with_reducible refine (words_places.calls a0 a1 a2 true _ A4.out).mono ?_); rintro e w' ⟨rfl, ⟨nd, rfl⟩⟩; refine ⟨_, rfl, ?_⟩; (try (rw [drewN_self w27]; generalize hq_ : World.drewN w27 _ = w27; have n0_ : Aside0 (w27.heap[gb101]? = some (.cells #[.int .i64 0, .int .i64 0] 105 (0, 0))) := ⟨by rw [← hq_]; exact (qk BK101.out)⟩; have n1_ : Aside0 (Below w.heap.size w w27) := ⟨by rw [← hq_]; exact qb⟩; clear BK101 HB hq_; have BK101 := n0_; have HB := n1_; clear n0_ n1_))) | ((with_reducible refine gate_callee (f := 118) rfl ?_); refine goesL_ (some 25) rfl rfl Tryz.func118 (by kernel_rfl) rfl #[.string (a0.extract (a1 : Int).toNat (a2 : Int).toNat), .string (⟨#[58]⟩ : ByteArray)] rfl qm ?_; (with_reducible refine (strings_Cut.calls (a0.extract (a1 : Int).toNat (a2 : Int).toNat) (⟨#[58]⟩ : ByteArray) t103 t104 t105 _ A9.out).mono ?_); rintro e w28 ⟨rfl, hb⟩; refine ⟨_, rfl, ?_⟩; replace BK101 := cK BK101 hb; replace HB := cB HB hb; (try clear hb); (try clear hb2); (try clear hk); (try clear hi)) | ((with_reducible refine gate_callee (f := 120) rfl ?_); refine goesL_ (some 30) rfl rfl Tryz.func120 (by kernel_rfl) rfl #[.string t103, .string (⟨#[32, 9]⟩ : ByteArray)] rfl qm ?_; (with_reducible refine (strings_Trim.calls t103 (⟨#[32, 9]⟩ : ByteArray) t106 _ A10.out).mono ?_); rintro e w29 ⟨rfl, hb⟩; refine ⟨_, rfl, ?_⟩; replace BK101 := cK BK101 hb; replace HB := cB HB hb; (try clear hb); (try clear hb2); (try clear hk); (try clear hi)) | ((with_reducible refine gate_callee (f := 109) rfl ?_); refine goesL_ (some 32) rfl rfl Tryz.func109 (by kernel_rfl) rfl #[.string t106, .func (.func 125) #[] #[]] rfl qm ?_; (with_reducible refine (words_all_cap.calls t106 () true _ A11.out).mono ?_); rintro e w30 ⟨rfl, hb⟩; refine ⟨_, rfl, ?_⟩; replace BK101 := cK BK101 hb; replace HB := cB HB hb; (try clear hb); (try clear hb2); (try clear hk); (try clear hi)) | ((with_reducible refine gate_dst (N := 12) rfl ?_); refine box_ev (N := 12) (cs := #[.int .i64 0, .int .i64 0]) (t := 105) ?_; intro gb108 hg w31 hbox hb; have BK108 := Aside0.mk (hbox); have GW108 := Aside0.mk ((qg : w.heap.size ≤ gb108)); have GE108 := Aside0.mk ((qg : w.heap.size ≤ gb108)); have NB101_108 := Aside0.mk ((by rw [hg]; exact Nat.ne_of_lt (blk_lt (g := gb101) (o := .cells #[.int .i64 0, .int .i64 0] 105 (0, 0)) (qk BK101.out)) : gb101 ≠ gb108)); have NB108_101 := Aside0.mk ((by rw [hg]; exact Nat.ne_of_gt (blk_lt (g := gb101) (o := .cells #[.int .i64 0, .int .i64 0] 105 (0, 0)) (qk BK101.out)) : gb108 ≠ gb101)); replace BK101 := cK BK101 hb; replace HB := cB HB hb; clear hb hbox hg; have hnb32 := NB108_101.out; have hnc32 := NB101_108.out; have hcz33_0 : w31.cell? ⟨gb108, 0, none⟩ = some (.int .i64 0) := (blk_cell BK108.out 0).trans rfl; have hcz33_1 : w31.cell? ⟨gb108, 1, none⟩ = some (.int .i64 0) := (blk_cell BK108.out 1).trans rfl; have hfz33_0 := blk_frozen BK108.out 0; have hfz33_1 := blk_frozen BK108.out 1) | ((with_reducible refine gate_callee (f := 127) rfl ?_); refine goesL_ (some 39) rfl rfl Tryz.func127 (by kernel_rfl) rfl #[.string t104, .string (⟨#[32, 9]⟩ : ByteArray)] rfl qm ?_; (with_reducible refine (strings_TrimLeft.calls t104 (⟨#[32, 9]⟩ : ByteArray) t109 _ A13.out).mono ?_); rintro e w34 ⟨rfl, hb⟩; refine ⟨_, rfl, ?_⟩; have n0_ := Aside0.mk (blk_below (g := gb101) (o := .cells #[.int .i64 0, .int .i64 0] 105 (0, 0)) (by refine qk ?_; refine blk_far ?_ NB101_108.out _; refine qk ?_; refine blk_far ?_ NB101_108.out _; refine qk ?_; exact BK101.out) hb); have n1_ := Aside0.mk (blk_below (g := gb108) (o := .cells #[.int .i64 a2, .int .i64 a2] 105 (0, 0)) (by refine qk ?_; refine blk_put (cs := #[.int .i64 a2, .int .i64 0]) ?_ 1 _ rfl; refine qk ?_; refine blk_put (cs := #[.int .i64 0, .int .i64 0]) ?_ 0 _ rfl; refine qk ?_; exact BK108.out) hb); replace HB := cB HB hb; replace BK101 := n0_; replace BK108 := n1_; clear n0_ n1_; (try clear hb); (try clear hb2); (try clear hk); (try clear hi)) | ((with_reducible refine gate_callee (f := 128) rfl ?_); refine goesL_ (some 51) rfl rfl Tryz.func128 (by kernel_rfl) rfl #[.string t109, .string (⟨#[32, 9]⟩ : ByteArray)] rfl qm ?_; (with_reducible refine (strings_TrimRight.calls t109 (⟨#[32, 9]⟩ : ByteArray) t110 _ A26.out).mono ?_); rintro e w35 ⟨rfl, hb⟩; refine ⟨_, rfl, ?_⟩; replace BK101 := cK BK101 hb; replace BK108 := cK BK108 hb; replace HB := cB HB hb; (try clear hb); (try clear hb2); (try clear hk); (try clear hi); have hcz36_0 : w35.cell? ⟨gb108, 0, none⟩ = some (.int .i64 a2) := (blk_cell BK108.out 0).trans rfl; have hcz36_1 : w35.cell? ⟨gb108, 1, none⟩ = some (.int .i64 a2) := (blk_cell BK108.out 1).trans rfl; have hfz36_0 := blk_frozen BK108.out 0; have hfz36_1 := blk_frozen BK108.out 1))
       have n0_ : Aside0 (((w35.setCell ⟨gb108, 0, none⟩ (.int .i64 (wrap64 (a2 - (t109.size : Int))))).setCell ⟨gb108, 1, none⟩ (.int .i64 (wrap64 ((wrap64 (a2 - (t109.size : Int))) + (t110.size : Int))))).heap[gb101]? = some (.cells #[.int .i64 0, .int .i64 0] 105 (0, 0))) := ⟨by refine qk ?_; refine blk_far ?_ NB101_108.out _; refine qk ?_; refine blk_far ?_ NB101_108.out _; refine qk ?_; exact BK101.out⟩; have n1_ : Aside0 (((w35.setCell ⟨gb108, 0, none⟩ (.int .i64 (wrap64 (a2 - (t109.size : Int))))).setCell ⟨gb108, 1, none⟩ (.int .i64 (wrap64 ((wrap64 (a2 - (t109.size : Int))) + (t110.size : Int))))).heap[gb108]? = some (.cells #[.int .i64 (wrap64 (a2 - (t109.size : Int))), .int .i64 (wrap64 ((wrap64 (a2 - (t109.size : Int))) + (t110.size : Int)))] 105 (0, 0))) := ⟨by refine qk ?_; refine blk_put (cs := #[.int .i64 (wrap64 (a2 - (t109.size : Int))), .int .i64 a2]) ?_ 1 _ rfl; refine qk ?_; refine blk_put (cs := #[.int .i64 a2, .int .i64 a2]) ?_ 0 _ rfl; refine qk ?_; exact BK108.out⟩; have n2_ : Aside0 (Below w.heap.size w ((w35.setCell ⟨gb108, 0, none⟩ (.int .i64 (wrap64 (a2 - (t109.size : Int))))).setCell ⟨gb108, 1, none⟩ (.int .i64 (wrap64 ((wrap64 (a2 - (t109.size : Int))) + (t110.size : Int)))))) := ⟨qb⟩; (try clear BK101); (try clear BK108); (try clear HB); generalize ((w35.setCell ⟨gb108, 0, none⟩ (.int .i64 (wrap64 (a2 - (t109.size : Int))))).setCell ⟨gb108, 1, none⟩ (.int .i64 (wrap64 ((wrap64 (a2 - (t109.size : Int))) + (t110.size : Int))))) = w37 at n0_ n1_ n2_ ⊢; have BK101 := n0_; have BK108 := n1_; have HB := n2_; clear n0_ n1_ n2_; have n0_ := Aside0.mk (blk_drew BK101.out); have n1_ := Aside0.mk (blk_drew BK108.out); have n2_ := Aside0.mk (below_drew1 HB.out); clear BK101; clear BK108; clear HB; have BK101 := n0_; have BK108 := n1_; have HB := n2_; clear n0_ n1_ n2_; refine start_ (n := 5) (S := fun w' => w'.cell? ⟨gb108, 0, none⟩ = some (.int .i64 (wrap64 (a2 - (t109.size : Int)))) ∧ w'.cell? ⟨gb108, 1, none⟩ = some (.int .i64 (wrap64 ((wrap64 (a2 - (t109.size : Int))) + (t110.size : Int))))) (ds := []) #[false, false, false, false, false] (by kernel_rfl) rfl rfl ⟨(blk_cell BK108.out 0).trans rfl, (blk_cell BK108.out 1).trans rfl⟩ (fun hHeld => ?_); generalize w37.drew = w38 at BK101 BK108 HB hHeld ⊢; refine pure_ (i := 0) (N := some 55) (v := ?_) (a' := ?_) #[true, false, false, false, false] rfl rfl (by kernel_rfl) (fun _ _ _ h => h) (Or.inl ⟨by rfl, ?_⟩) ?_ ?_
       rotate_left
       ·intro w'
        go_simp
        with_reducible rfl
       rotate_left
       ·simp only [Act.put, List.setIfInBounds_toArray, List.set_cons_zero, List.set_cons_succ, i64_w, i32_w]
        rfl
       refine pure_ (i := 2) (N := some 6) (v := ?_) (a' := ?_) #[true, false, true, false, false] rfl rfl (by kernel_rfl) (fun _ _ _ h => h) (Or.inl ⟨by rfl, ?_⟩) ?_ ?_
       rotate_left
       ·intro w'
        go_simp
        with_reducible rfl
       rotate_left
       ·simp only [Act.put, List.setIfInBounds_toArray, List.set_cons_zero, List.set_cons_succ, i64_w, i32_w]
        rfl
       refine take_ (i := 1) (N := some 56) (v := ?_) (a' := ?_) #[true, true, true, false, false] rfl rfl (by kernel_rfl) (fun _ _ _ h => h) (Or.inl ⟨by rfl, ?_⟩) hHeld ?_ ?_
       rotate_left
       ·rintro w' ⟨s0, s1⟩
        go_simp
        with_reducible rfl
       rotate_left
       ·simp only [Act.put, List.setIfInBounds_toArray, List.set_cons_zero, List.set_cons_succ, i64_w, i32_w]
        rfl
       refine one_ (i := 3) (N := none) #[true, true, true, true, false] rfl rfl (by kernel_rfl) (by decide) (fun K hK => ?_); have hs39 : w38.cell? ⟨gb101, 0, none⟩ = some (.int .i64 0) := (blk_cell BK101.out 0).trans rfl; have hfs39 := blk_frozen BK101.out 0; have hns39_1 := NB108_101.out; have hms39_1 := NB101_108.out; have hs40 : w38.cell? ⟨gb101, 1, none⟩ = some (.int .i64 0) := (blk_cell BK101.out 1).trans rfl; have hfs40 := blk_frozen BK101.out 1; have hns40_1 := NB108_101.out; have hms40_1 := NB101_108.out; refine skip_ (w1 := ?_) (by rfl) rfl ?_ ?_
       rotate_left
       ·go_simp
        rfl
       refine hK.out _ _ ⟨((cell_far (p := ⟨gb101, _, none⟩) NB108_101.out _).trans (((cell_far (p := ⟨gb101, _, none⟩) NB108_101.out _).trans (hHeld.1)))), ((cell_far (p := ⟨gb101, _, none⟩) NB108_101.out _).trans (((cell_far (p := ⟨gb101, _, none⟩) NB108_101.out _).trans (hHeld.2))))⟩ (fun hHeld => ?_); clear hK K; refine pure_ (i := 4) (N := some 8) (v := ?_) (a' := ?_) #[true, true, true, true, true] rfl rfl (by kernel_rfl) (fun _ _ _ h => h) (Or.inl ⟨by rfl, ?_⟩) ?_ ?_
       rotate_left
       ·intro w'
        go_simp
        with_reducible rfl
       rotate_left
       ·simp only [Act.put, List.setIfInBounds_toArray, List.set_cons_zero, List.set_cons_succ, i64_w, i32_w]
        rfl
       refine done_ (by kernel_rfl) ?_
       try go_wp2
       refine bodyPost_ret (results_list (rs := [.tmp 6, .cell 7 105, .tmp 8]) rfl (by simp) (.tmp (.cell gb101 105 #[.int .i64 (wrap64 (a2 - (t109.size : Int))), .int .i64 (wrap64 ((wrap64 (a2 - (t109.size : Int))) + (t110.size : Int)))] (0, 0) _ rfl (by refine qk ?_; refine blk_put (cs := #[.int .i64 (wrap64 (a2 - (t109.size : Int))), .int .i64 0]) ?_ 1 _ rfl; refine qk ?_; refine blk_put (cs := #[.int .i64 0, .int .i64 0]) ?_ 0 _ rfl; refine qk ?_; exact BK101.out) Tryz.underlying105 rfl (by kernel_rfl) (.tmp .nil)))) rfl ?_
       exact ⟨qe, qb⟩
     ·replace c12 := Bool.eq_false_iff.mpr c12; subst c12; have H1 : (some ((⟨#[]⟩ : ByteArray), 0, 0, false)) = some (r1, r2, r3, r4) := by rw [if_neg (show ¬ (false = true) by decide)] at H; exact H
      clear H; have H := H1; clear H1; simp only [Option.some.injEq, Prod.mk.injEq] at H; obtain ⟨rfl, rfl, rfl, rfl⟩ := H; go_enter Tryz.func111, Tryz.ntmps111
      go_wp2_with (first | ((with_reducible refine gate_dst (N := 7) rfl ?_); refine box_ev (N := 7) (cs := #[.int .i64 0, .int .i64 0]) (t := 105) ?_; intro gb101 hg w41 hbox hb; have BK101 := Aside0.mk (hbox); have GW101 := Aside0.mk ((qg : w.heap.size ≤ gb101)); have GE101 := Aside0.mk ((qg : w.heap.size ≤ gb101)); replace HB := cB HB hb; clear hb hbox hg) | ((with_reducible refine gate_callee (f := 88) rfl ?_); refine goesL_ (some 17) rfl rfl Tryz.func88 (by kernel_rfl) rfl #[.string a0, .int .i64 a1, .int .i64 a2] rfl qm ?_; (with_reducible refine (words_places.calls a0 a1 a2 true _ A4.out).mono ?_); rintro e w' ⟨rfl, ⟨nd, rfl⟩⟩; refine ⟨_, rfl, ?_⟩; (try (rw [drewN_self w41]; generalize hq_ : World.drewN w41 _ = w41; have n0_ : Aside0 (w41.heap[gb101]? = some (.cells #[.int .i64 0, .int .i64 0] 105 (0, 0))) := ⟨by rw [← hq_]; exact (qk BK101.out)⟩; have n1_ : Aside0 (Below w.heap.size w w41) := ⟨by rw [← hq_]; exact qb⟩; clear BK101 HB hq_; have BK101 := n0_; have HB := n1_; clear n0_ n1_))) | ((with_reducible refine gate_callee (f := 118) rfl ?_); refine goesL_ (some 25) rfl rfl Tryz.func118 (by kernel_rfl) rfl #[.string (a0.extract (a1 : Int).toNat (a2 : Int).toNat), .string (⟨#[58]⟩ : ByteArray)] rfl qm ?_; (with_reducible refine (strings_Cut.calls (a0.extract (a1 : Int).toNat (a2 : Int).toNat) (⟨#[58]⟩ : ByteArray) t103 t104 t105 _ A9.out).mono ?_); rintro e w42 ⟨rfl, hb⟩; refine ⟨_, rfl, ?_⟩; replace BK101 := cK BK101 hb; replace HB := cB HB hb; (try clear hb); (try clear hb2); (try clear hk); (try clear hi)) | ((with_reducible refine gate_callee (f := 120) rfl ?_); refine goesL_ (some 30) rfl rfl Tryz.func120 (by kernel_rfl) rfl #[.string t103, .string (⟨#[32, 9]⟩ : ByteArray)] rfl qm ?_; (with_reducible refine (strings_Trim.calls t103 (⟨#[32, 9]⟩ : ByteArray) t106 _ A10.out).mono ?_); rintro e w43 ⟨rfl, hb⟩; refine ⟨_, rfl, ?_⟩; replace BK101 := cK BK101 hb; replace HB := cB HB hb; (try clear hb); (try clear hb2); (try clear hk); (try clear hi)) | ((with_reducible refine gate_callee (f := 109) rfl ?_); refine goesL_ (some 32) rfl rfl Tryz.func109 (by kernel_rfl) rfl #[.string t106, .func (.func 125) #[] #[]] rfl qm ?_; (with_reducible refine (words_all_cap.calls t106 () false _ A11.out).mono ?_); rintro e w44 ⟨rfl, hb⟩; refine ⟨_, rfl, ?_⟩; replace BK101 := cK BK101 hb; replace HB := cB HB hb; (try clear hb); (try clear hb2); (try clear hk); (try clear hi); have hcz45_0 : w44.cell? ⟨gb101, 0, none⟩ = some (.int .i64 0) := (blk_cell BK101.out 0).trans rfl; have hcz45_1 : w44.cell? ⟨gb101, 1, none⟩ = some (.int .i64 0) := (blk_cell BK101.out 1).trans rfl; have hfz45_0 := blk_frozen BK101.out 0; have hfz45_1 := blk_frozen BK101.out 1))
      refine bodyPost_ret (results_list (rs := [.tmp 6, .cell 7 105, .tmp 8]) rfl (by simp) (.tmp (.cell gb101 105 #[.int .i64 0, .int .i64 0] (0, 0) _ rfl (by refine qk ?_; refine blk_put (cs := #[.int .i64 0, .int .i64 0]) ?_ 1 _ rfl; refine qk ?_; refine blk_put (cs := #[.int .i64 0, .int .i64 0]) ?_ 0 _ rfl; refine qk ?_; exact BK101.out) Tryz.underlying105 rfl (by kernel_rfl) (.tmp .nil)))) rfl ?_
      exact ⟨qe, qb⟩
    ·rw [if_neg c8] at H
     exact absurd H (by simp)
   ·rw [if_neg c7] at H
    exact absurd H (by simp)
  ·rw [if_neg c6] at H
   exact absurd H (by simp)
 ·replace c5 := Bool.eq_false_iff.mpr c5; subst c5; have H1 : (some ((⟨#[]⟩ : ByteArray), 0, 0, false)) = some (r1, r2, r3, r4) := by rw [if_neg (show ¬ (false = true) by decide)] at H; exact H
  clear H; have H := H1; clear H1; simp only [Option.some.injEq, Prod.mk.injEq] at H; obtain ⟨rfl, rfl, rfl, rfl⟩ := H; go_enter Tryz.func111, Tryz.ntmps111
  go_wp2_with (first | ((with_reducible refine gate_dst (N := 7) rfl ?_); refine box_ev (N := 7) (cs := #[.int .i64 0, .int .i64 0]) (t := 105) ?_; intro gb101 hg w46 hbox hb; have BK101 := Aside0.mk (hbox); have GW101 := Aside0.mk ((qg : w.heap.size ≤ gb101)); have GE101 := Aside0.mk ((qg : w.heap.size ≤ gb101)); replace HB := cB HB hb; clear hb hbox hg) | ((with_reducible refine gate_callee (f := 88) rfl ?_); refine goesL_ (some 17) rfl rfl Tryz.func88 (by kernel_rfl) rfl #[.string a0, .int .i64 a1, .int .i64 a2] rfl qm ?_; (with_reducible refine (words_places.calls a0 a1 a2 false _ A4.out).mono ?_); rintro e w' ⟨rfl, ⟨nd, rfl⟩⟩; refine ⟨_, rfl, ?_⟩; (try (rw [drewN_self w46]; generalize hq_ : World.drewN w46 _ = w46; have n0_ : Aside0 (w46.heap[gb101]? = some (.cells #[.int .i64 0, .int .i64 0] 105 (0, 0))) := ⟨by rw [← hq_]; exact (qk BK101.out)⟩; have n1_ : Aside0 (Below w.heap.size w w46) := ⟨by rw [← hq_]; exact qb⟩; clear BK101 HB hq_; have BK101 := n0_; have HB := n1_; clear n0_ n1_)); have hcz47_0 : w46.cell? ⟨gb101, 0, none⟩ = some (.int .i64 0) := (blk_cell BK101.out 0).trans rfl; have hcz47_1 : w46.cell? ⟨gb101, 1, none⟩ = some (.int .i64 0) := (blk_cell BK101.out 1).trans rfl; have hfz47_0 := blk_frozen BK101.out 0; have hfz47_1 := blk_frozen BK101.out 1))
  refine bodyPost_ret (results_list (rs := [.tmp 6, .cell 7 105, .tmp 8]) rfl (by simp) (.tmp (.cell gb101 105 #[.int .i64 0, .int .i64 0] (0, 0) _ rfl (by refine qk ?_; refine blk_put (cs := #[.int .i64 0, .int .i64 0]) ?_ 1 _ rfl; refine qk ?_; refine blk_put (cs := #[.int .i64 0, .int .i64 0]) ?_ 0 _ rfl; refine qk ?_; exact BK101.out) Tryz.underlying105 rfl (by kernel_rfl) (.tmp .nil)))) rfl ?_
  exact ⟨qe, qb⟩
def tour_dimension.f (a0 : ByteArray) : Option (Int) := (fixed_Int.f a0).bind fun bt101 => (if bt101.2 = 0 then (if bt101.1 < 1 then (some 0) else (if bt101.1 > 400 then (some 0) else (some bt101.1))) else (some 0))
set_option maxHeartbeats 8000000 in
set_option maxRecDepth 100000 in
theorem tour_dimension.calls (a0 : ByteArray) (r : Int) (w : World) (h : tour_dimension.f a0 = some r) :
  Calls Tryz.prog 69 #[.string a0] w fun e w' => e = .returned (.int .i64 r) ∧ Below w.heap.size w w' := by
 have HB := Aside0.mk (Below.refl w.heap.size w); have H : ((fixed_Int.f a0).bind fun bt101 => (if bt101.2 = 0 then (if bt101.1 < 1 then (some 0) else (if bt101.1 > 400 then (some 0) else (some bt101.1))) else (some 0))) = some r := h; clear h; replace H := Option.bind_eq_some_iff.mp H; obtain ⟨⟨t101, t102⟩, A20, H⟩ := H; (try dsimp only at H); have A2 := Aside0.mk A20; clear A20
 by_cases c3 : t102 = 0
 ·rw [if_pos c3] at H; have c3b0 := beq_iff_eq.mpr c3; have c3b1 := bne_eq_false_iff_eq.mpr c3; clear c3
  by_cases c4 : t101 < 1
  ·rw [if_pos c4] at H; have c4b0 := decide_eq_true c4; clear c4; obtain rfl := Option.some.inj H; go_enter Tryz.func69, Tryz.ntmps69
   go_wp2_with (first | ((with_reducible refine gate_callee (f := 57) rfl ?_); refine goesL_ (some 7) rfl rfl Tryz.func57 (by kernel_rfl) rfl #[.string a0] rfl qm ?_; (with_reducible refine (fixed_Int.calls a0 t101 t102 _ A2.out).mono ?_); rintro e w5 ⟨rfl, hb⟩; refine ⟨_, rfl, ?_⟩; replace HB := cB HB hb; (try clear hb); (try clear hb2); (try clear hk); (try clear hi)))
   go_ret
   exact ⟨qe, qb⟩
  ·rw [if_neg c4] at H; have c4b0 := decide_eq_false c4; clear c4
   by_cases c6 : t101 > 400
   ·rw [if_pos c6] at H; have c6b0 := decide_eq_true c6; clear c6; obtain rfl := Option.some.inj H; go_enter Tryz.func69, Tryz.ntmps69
    go_wp2_with (first | ((with_reducible refine gate_callee (f := 57) rfl ?_); refine goesL_ (some 7) rfl rfl Tryz.func57 (by kernel_rfl) rfl #[.string a0] rfl qm ?_; (with_reducible refine (fixed_Int.calls a0 t101 t102 _ A2.out).mono ?_); rintro e w7 ⟨rfl, hb⟩; refine ⟨_, rfl, ?_⟩; replace HB := cB HB hb; (try clear hb); (try clear hb2); (try clear hk); (try clear hi)))
    go_ret
    exact ⟨qe, qb⟩
   ·rw [if_neg c6] at H; have c6b0 := decide_eq_false c6; clear c6; obtain rfl := Option.some.inj H; go_enter Tryz.func69, Tryz.ntmps69
    go_wp2_with (first | ((with_reducible refine gate_callee (f := 57) rfl ?_); refine goesL_ (some 7) rfl rfl Tryz.func57 (by kernel_rfl) rfl #[.string a0] rfl qm ?_; (with_reducible refine (fixed_Int.calls a0 t101 t102 _ A2.out).mono ?_); rintro e w8 ⟨rfl, hb⟩; refine ⟨_, rfl, ?_⟩; replace HB := cB HB hb; (try clear hb); (try clear hb2); (try clear hk); (try clear hi)))
    go_ret
    exact ⟨qe, qb⟩
 ·rw [if_neg c3] at H; have c3b0 := beq_eq_false_iff_ne.mpr c3; have c3b1 := bne_iff_ne.mpr c3; obtain rfl := Option.some.inj H; go_enter Tryz.func69, Tryz.ntmps69
  go_wp2_with (first | ((with_reducible refine gate_callee (f := 57) rfl ?_); refine goesL_ (some 7) rfl rfl Tryz.func57 (by kernel_rfl) rfl #[.string a0] rfl qm ?_; (with_reducible refine (fixed_Int.calls a0 t101 t102 _ A2.out).mono ?_); rintro e w9 ⟨rfl, hb⟩; refine ⟨_, rfl, ?_⟩; replace HB := cB HB hb; (try clear hb); (try clear hb2); (try clear hk); (try clear hi)))
  go_ret
  exact ⟨qe, qb⟩
def tour_ParseTour_1.f (a0 : ByteArray) : Option (Bool) := some (a0.toList == ([84, 79, 85, 82] : List UInt8))
set_option maxHeartbeats 8000000 in
set_option maxRecDepth 100000 in
theorem tour_ParseTour_1.calls (a0 : ByteArray) (r : Bool) (w : World) (h : tour_ParseTour_1.f a0 = some r) :
  Calls Tryz.prog 67 #[.string a0] w fun e w' => e = .returned (.bool r) ∧ Drawn0 w w' := by
 have H : (some (a0.toList == ([84, 79, 85, 82] : List UInt8))) = some r := h; clear h; obtain rfl := Option.some.inj H; go_enter Tryz.func67, Tryz.ntmps67
 go_wp2
 go_ret
 exact ⟨qr, qd⟩
end Go.Proofs.YtadocbfchdendaaGreatDoor.P
namespace Go.Proofs.YtadocbfchdendaaGreatDoor.Cu
open Go.RowKit Go.Lib Go.Proofs.YtadocbfchdendaaGreatDoorW.PrintWords Go.Proofs.YtadocbfchdendaaGreatDoor.P
set_option linter.unusedSimpArgs false
set_option linter.unusedVariables false
def keyD (f0 : Int) (k : ByteArray) (at_ : Int) (key : ByteArray) (b : Bool) : Int × Int := if k.toList = key.toList then (if b = true then (0, 0) else (at_, 141)) else (f0, 3)
structure KS (n : Nat) (w W : World) (f0 f1 f2 e1 e2 : Int) : Prop where
 bel : Below n w W
 b5 : W.heap[n]? = some (.cells #[.int .i64 f0, .int .i64 f1, .int .i64 f2] 96 (0, 0))
 b8 : W.heap[n + 1]? = some (.cells #[.int .i64 e1, .int .i64 e2] 41 (0, 0))
 sz : n + 2 ≤ W.heap.size
theorem KS.start (w : World) (f0 f1 f2 : Int) : KS w.heap.size w ((w.alloc (.cells #[.int .i64 f0, .int .i64 f1, .int .i64 f2] 96)).alloc (.cells #[.int .i64 0, .int .i64 0] 41)) f0 f1 f2 0 0 := by
 have b2 := blk_new (w.alloc (.cells #[.int .i64 f0, .int .i64 f1, .int .i64 f2] 96)) (.cells #[.int .i64 0, .int .i64 0] 41)
 rw [show (w.alloc (.cells #[.int .i64 f0, .int .i64 f1, .int .i64 f2] 96)).heap.size = w.heap.size + 1 by simp] at b2
 exact ⟨((Below.refl _ w).alloc (Nat.le_refl _) _).alloc (by simp) _, blk_alloc (blk_new w _) _, b2, by simp⟩
theorem KS.step {n : Nat} {w W W' : World} {f0 f1 f2 e1 e2 : Int} (h : KS n w W f0 f1 f2 e1 e2) (hb : Below (n + 2) W W') : KS n w W' f0 f1 f2 e1 e2 :=
 ⟨h.bel.trans (hb.mono (by omega)), (hb.block _ (by omega)).trans h.b5, (hb.block _ (by omega)).trans h.b8, Nat.le_trans h.sz hb.size⟩
theorem KS.set8 {n : Nat} {w W : World} {f0 f1 f2 e1 e2 : Int} (h : KS n w W f0 f1 f2 e1 e2) (a b : Int) : KS n w ((W.setCell ⟨n + 1, 0, none⟩ (.int .i64 a)).setCell ⟨n + 1, 1, none⟩ (.int .i64 b)) f0 f1 f2 a b :=
 ⟨(h.bel.setCell (by simp) _).setCell (by simp) _, (Below.heap_setCell _ _ _ _ (by simp)).trans ((Below.heap_setCell _ _ _ _ (by simp)).trans h.b5), blk_put (blk_put h.b8 0 _ rfl) 1 _ rfl, by simpa [World.setCell] using h.sz⟩
theorem KS.cells {n : Nat} {w W : World} {f0 f1 f2 e1 e2 : Int} (h : KS n w W f0 f1 f2 e1 e2) :
  W.cell? ⟨n, 0, none⟩ = some (.int .i64 f0) ∧ W.cell? ⟨n, 1, none⟩ = some (.int .i64 f1) ∧ W.cell? ⟨n + 1, 0, none⟩ = some (.int .i64 e1) ∧ W.cell? ⟨n + 1, 1, none⟩ = some (.int .i64 e2) ∧ W.frozen? ⟨n + 1, 0, none⟩ = false ∧ W.frozen? ⟨n + 1, 1, none⟩ = false :=
 ⟨(bc3 h.b5).1, (bc3 h.b5).2.1, (bc2 h.b8).1, (bc2 h.b8).2.1, (bc2 h.b8).2.2.1, (bc2 h.b8).2.2.2⟩
theorem below_both {n B : Nat} {w W : World} {t : TypeId} {x : Value} (h : Below n w W) (hB : B < n) (hb : w.heap[B]? = some (.cells #[x] t (0, 0))) (v : Value) : Below n (w.setCell ⟨B, 0, none⟩ v) (W.setCell ⟨B, 0, none⟩ v) := by
 refine ⟨h.os, h.tape, h.output, by simpa [World.setCell] using h.size, fun i hi => ?_⟩
 by_cases e : i = B
 ·subst e
  rw [show (W.setCell ⟨i, 0, none⟩ v).heap[i]? = _ from blk_put ((h.block i hi).trans hb) 0 v rfl, show (w.setCell ⟨i, 0, none⟩ v).heap[i]? = _ from blk_put hb 0 v rfl]
 ·rw [Below.heap_setCell W ⟨B, 0, none⟩ v i e, Below.heap_setCell w ⟨B, 0, none⟩ v i e]
  exact h.block i hi
theorem KS.setB {n B : Nat} {w W : World} {f0 f1 f2 e1 e2 : Int} {t : TypeId} {x : Value} (h : KS n w W f0 f1 f2 e1 e2) (hB : B < n) (hb : w.heap[B]? = some (.cells #[x] t (0, 0))) (v : Value) : KS n (w.setCell ⟨B, 0, none⟩ v) (W.setCell ⟨B, 0, none⟩ v) f0 f1 f2 e1 e2 :=
 ⟨below_both h.bel hB hb v, (Below.heap_setCell _ _ _ _ (by show n ≠ B; omega)).trans h.b5, (Below.heap_setCell _ _ _ _ (by show n + 1 ≠ B; omega)).trans h.b8, by simpa [World.setCell] using h.sz⟩
theorem is_tour_calls (v : ByteArray) (b : Bool) (h : tour_ParseTour_1.f v = some b) (W : World) : Calls Tryz.prog 67 #[.string v] W fun e W' => e = .returned (.bool b) ∧ Below W.heap.size W W' :=
 (tour_ParseTour_1.calls v b W h).mono fun e W' ⟨he, hD⟩ => ⟨he, by obtain ⟨n, rfl⟩ := hD.out; exact Go.below_drewN (Below.refl _ _) n⟩
set_option maxRecDepth 100000 in
theorem dim_calls (v : ByteArray) (r : Int) (h : tour_dimension.f v = some r) (B : Nat) (n0 : Int) (W : World) (hB : W.heap[B]? = some (.cells #[.int .i64 n0] 3 (0, 0))) :
  Calls Tryz.prog 68 #[.string v, .pointer (some ⟨B, 0, none⟩)] W fun e W' => e = .returned (.bool (decide (0 < r))) ∧ ∃ W1, Below W.heap.size W W1 ∧ W' = W1.setCell ⟨B, 0, none⟩ (.int .i64 r) := by
 have H := Lib.hid h
 clear h
 go_enter Tryz.func68, Tryz.ntmps68
 go_wp2_with (go_at_call 69; refine (tour_dimension.calls v r _ H.out).mono ?_; rintro e W1 ⟨rfl, hb⟩; obtain ⟨c0, c1⟩ := bc1 (blk_below hB hb))
 go_ret
 exact ⟨rfl, W1, hb, rfl⟩
theorem dim_calls2 (v : ByteArray) (r : Int) (h : tour_dimension.f v = some r) (b : Bool) (hd : decide (0 < r) = b) (B : Nat) (n0 : Int) (W : World) (hB : W.heap[B]? = some (.cells #[.int .i64 n0] 3 (0, 0))) :
  Calls Tryz.prog 68 #[.string v, .pointer (some ⟨B, 0, none⟩)] W fun e W' => e = .returned (.bool b) ∧ ∃ W1, Below W.heap.size W W1 ∧ W' = W1.setCell ⟨B, 0, none⟩ (.int .i64 r) := by
 rw [← hd]
 exact dim_calls v r h B n0 W hB
theorem below_sets {n g : Nat} {w W : World} (h : Below n w W) (hg : n ≤ g) (a b : Value) : Below n w ((W.setCell ⟨g, 0, none⟩ a).setCell ⟨g, 1, none⟩ b) := (h.setCell (p := ⟨g, 0, none⟩) hg _).setCell (p := ⟨g, 1, none⟩) hg _
set_option maxRecDepth 100000 in
set_option maxHeartbeats 4000000 in
theorem keyed_nam (s : ByteArray) (f0 f1 f2 : Int) (key k : ByteArray) (r2 r3 : Int) (r4 : Bool) (hK : words_Key.f s f0 f1 = some (k, r2, r3, r4)) (v : ByteArray) (hV : words_Text.f s r2 r3 = some v) (b : Bool) (hF : words_Name.f v = some b) (w : World) :
  Calls Tryz.prog 71 #[.string s, .agg #[.int .i64 f0, .int .i64 f1, .int .i64 f2], .string key, .func (.func 66) #[] #[]] w fun e W' =>
   e = .returned (.agg #[.int .i64 (keyD f0 k r2 key b).1, .int .i64 (keyD f0 k r2 key b).2]) ∧ Below w.heap.size w W' := by
 have HK := Lib.hid hK
 have HV := Lib.hid hV
 have HF := Lib.hid hF
 clear hK hV hF
 by_cases hk : k.toList = key.toList
 ·have hq : (k.toList != key.toList) = false := by rw [hk]; simp
  have hq2 : (k.toList == key.toList) = true := by rw [hk]; simp
  have HN : Hid (keyD f0 k r2 key b = if b = true then (0, 0) else (r2, 141)) := Lib.hid (by unfold keyD; rw [if_pos hk])
  clear hk
  cases b
  ·go_enter Tryz.func71, Tryz.ntmps71
   go_wp2_with (first
    | (go_at_call 111; refine (words_Key.calls s f0 f1 _ _ _ _ _ HK.out).mono ?_; rintro e W1 ⟨rfl, hb1⟩; have HS1 := Lib.hid ((KS.start w f0 f1 f2).step (hb1.mono (KS.start w f0 f1 f2).sz)); clear hb1; obtain ⟨e1, e2, e3, e4, e5, e6⟩ := HS1.out.cells)
    | ((with_reducible refine gate_dst (N := 10) rfl ?_); refine box_ev (N := 10) (cs := #[.int .i64 0, .int .i64 0]) (t := 105) ?_; intro g hg W2 hbox hb; have HS2 := Lib.hid (HS1.out.step (hb.mono HS1.out.sz)); have hg2 : w.heap.size + 2 ≤ g := (by have := HS1.out.sz; omega); have HX2 := Lib.hid hbox; clear HS1 hb hg e1 e2 e3 e4 e5 e6; obtain ⟨z0, z1, z2, z3⟩ := bc2 hbox; clear hbox)
    | ((with_reducible refine gate_store (t := 105) (p := 10) rfl ?_); refine store_ev (t := 105) (p := 10) (w1 := ((W2.setCell ⟨g, 0, none⟩ (.int .i64 r2)).setCell ⟨g, 1, none⟩ (.int .i64 r3))) ?_; intro W3 hw; have HS3 : Hid (KS w.heap.size w W3 f0 f1 f2 0 0) := (by rw [hw]; exact HS2.out.step (below_sets (Below.refl _ W2) hg2 _ _)); have HX3 : Hid (W3.heap[g]? = some (.cells #[.int .i64 r2, .int .i64 r3] 105 (0, 0))) := (by rw [hw]; exact blk_put (blk_put HX2.out 0 _ rfl) 1 _ rfl); clear hw HS2 HX2 z0 z1 z2 z3; obtain ⟨e1, e2, e3, e4, e5, e6⟩ := HS3.out.cells; obtain ⟨z0, z1, z2, z3⟩ := bc2 HX3.out)
    | (go_at_call 78; refine (words_Text.calls s r2 r3 _ _ HV.out).mono ?_; rintro e W4 ⟨rfl, hb4⟩; have HS4 := Lib.hid (HS3.out.step (hb4.mono HS3.out.sz)); have HX4 := Lib.hid (blk_below HX3.out hb4); clear HX3 z0 z1 z2 z3; clear HS3 hb4 e1 e2 e3 e4 e5 e6; obtain ⟨e1, e2, e3, e4, e5, e6⟩ := HS4.out.cells; obtain ⟨z0, z1, z2, z3⟩ := bc2 HX4.out)
    | (go_at_call 66; refine (words_Name.calls v _ _ HF.out).mono ?_; rintro e W5 ⟨rfl, hb5⟩; have HS5 := Lib.hid (HS4.out.step (hb5.mono HS4.out.sz)); have HX5 := Lib.hid (blk_below HX4.out hb5); clear HX4 z0 z1 z2 z3; clear HS4 hb5 e1 e2 e3 e4 e5 e6; obtain ⟨e1, e2, e3, e4, e5, e6⟩ := HS5.out.cells; obtain ⟨z0, z1, z2, z3⟩ := bc2 HX5.out)
    | (go_at_call 70; refine (wrong_calls _ _ _).mono ?_; rintro e W6 ⟨rfl, hb6⟩; have HS6 := Lib.hid (HS5.out.step (hb6.mono HS5.out.sz)); clear HS5 hb6 e1 e2 e3 e4 e5 e6; obtain ⟨e1, e2, e3, e4, e5, e6⟩ := HS6.out.cells))
   refine bodyPost_ret (results_cell_row rfl _ _ (w.heap.size + 1) 41 #[.int .i64 r2, .int .i64 141] (0, 0) _ rfl (HS6.out.set8 _ _).b8 Tryz.underlying41 rfl (by kernel_rfl)) rfl ?_
   rw [HN.out]
   exact ⟨rfl, (HS6.out.set8 _ _).bel⟩
  ·go_enter Tryz.func71, Tryz.ntmps71
   go_wp2_with (first
    | (go_at_call 111; refine (words_Key.calls s f0 f1 _ _ _ _ _ HK.out).mono ?_; rintro e W1 ⟨rfl, hb1⟩; have HS1 := Lib.hid ((KS.start w f0 f1 f2).step (hb1.mono (KS.start w f0 f1 f2).sz)); clear hb1; obtain ⟨e1, e2, e3, e4, e5, e6⟩ := HS1.out.cells)
    | ((with_reducible refine gate_dst (N := 10) rfl ?_); refine box_ev (N := 10) (cs := #[.int .i64 0, .int .i64 0]) (t := 105) ?_; intro g hg W2 hbox hb; have HS2 := Lib.hid (HS1.out.step (hb.mono HS1.out.sz)); have hg2 : w.heap.size + 2 ≤ g := (by have := HS1.out.sz; omega); have HX2 := Lib.hid hbox; clear HS1 hb hg e1 e2 e3 e4 e5 e6; obtain ⟨z0, z1, z2, z3⟩ := bc2 hbox; clear hbox)
    | ((with_reducible refine gate_store (t := 105) (p := 10) rfl ?_); refine store_ev (t := 105) (p := 10) (w1 := ((W2.setCell ⟨g, 0, none⟩ (.int .i64 r2)).setCell ⟨g, 1, none⟩ (.int .i64 r3))) ?_; intro W3 hw; have HS3 : Hid (KS w.heap.size w W3 f0 f1 f2 0 0) := (by rw [hw]; exact HS2.out.step (below_sets (Below.refl _ W2) hg2 _ _)); have HX3 : Hid (W3.heap[g]? = some (.cells #[.int .i64 r2, .int .i64 r3] 105 (0, 0))) := (by rw [hw]; exact blk_put (blk_put HX2.out 0 _ rfl) 1 _ rfl); clear hw HS2 HX2 z0 z1 z2 z3; obtain ⟨e1, e2, e3, e4, e5, e6⟩ := HS3.out.cells; obtain ⟨z0, z1, z2, z3⟩ := bc2 HX3.out)
    | (go_at_call 78; refine (words_Text.calls s r2 r3 _ _ HV.out).mono ?_; rintro e W4 ⟨rfl, hb4⟩; have HS4 := Lib.hid (HS3.out.step (hb4.mono HS3.out.sz)); have HX4 := Lib.hid (blk_below HX3.out hb4); clear HX3 z0 z1 z2 z3; clear HS3 hb4 e1 e2 e3 e4 e5 e6; obtain ⟨e1, e2, e3, e4, e5, e6⟩ := HS4.out.cells; obtain ⟨z0, z1, z2, z3⟩ := bc2 HX4.out)
    | (go_at_call 66; refine (words_Name.calls v _ _ HF.out).mono ?_; rintro e W5 ⟨rfl, hb5⟩; have HS5 := Lib.hid (HS4.out.step (hb5.mono HS4.out.sz)); have HX5 := Lib.hid (blk_below HX4.out hb5); clear HX4 z0 z1 z2 z3; clear HS4 hb5 e1 e2 e3 e4 e5 e6; obtain ⟨e1, e2, e3, e4, e5, e6⟩ := HS5.out.cells; obtain ⟨z0, z1, z2, z3⟩ := bc2 HX5.out))
   refine bodyPost_ret (results_cell_row rfl _ _ (w.heap.size + 1) 41 #[.int .i64 0, .int .i64 0] (0, 0) _ rfl (HS5.out.set8 _ _).b8 Tryz.underlying41 rfl (by kernel_rfl)) rfl ?_
   rw [HN.out]
   exact ⟨rfl, (HS5.out.set8 _ _).bel⟩
 ·have hq : (k.toList != key.toList) = true := by rw [bne_iff_ne]; exact hk
  have hq2 : (k.toList == key.toList) = false := by rw [beq_eq_false_iff_ne]; exact hk
  have HN : Hid (keyD f0 k r2 key b = (f0, 3)) := Lib.hid (by unfold keyD; rw [if_neg hk])
  clear hk
  go_enter Tryz.func71, Tryz.ntmps71
  go_wp2_with (first
   | (go_at_call 111; refine (words_Key.calls s f0 f1 _ _ _ _ _ HK.out).mono ?_; rintro e W1 ⟨rfl, hb1⟩; have HS1 := Lib.hid ((KS.start w f0 f1 f2).step (hb1.mono (KS.start w f0 f1 f2).sz)); clear hb1; obtain ⟨e1, e2, e3, e4, e5, e6⟩ := HS1.out.cells)
   | ((with_reducible refine gate_dst (N := 10) rfl ?_); refine box_ev (N := 10) (cs := #[.int .i64 0, .int .i64 0]) (t := 105) ?_; intro g hg W2 hbox hb; have HS2 := Lib.hid (HS1.out.step (hb.mono HS1.out.sz)); have hg2 : w.heap.size + 2 ≤ g := (by have := HS1.out.sz; omega); have HX2 := Lib.hid hbox; clear HS1 hb hg e1 e2 e3 e4 e5 e6; obtain ⟨z0, z1, z2, z3⟩ := bc2 hbox; clear hbox)
   | ((with_reducible refine gate_store (t := 105) (p := 10) rfl ?_); refine store_ev (t := 105) (p := 10) (w1 := ((W2.setCell ⟨g, 0, none⟩ (.int .i64 r2)).setCell ⟨g, 1, none⟩ (.int .i64 r3))) ?_; intro W3 hw; have HS3 : Hid (KS w.heap.size w W3 f0 f1 f2 0 0) := (by rw [hw]; exact HS2.out.step (below_sets (Below.refl _ W2) hg2 _ _)); have HX3 : Hid (W3.heap[g]? = some (.cells #[.int .i64 r2, .int .i64 r3] 105 (0, 0))) := (by rw [hw]; exact blk_put (blk_put HX2.out 0 _ rfl) 1 _ rfl); clear hw HS2 HX2 z0 z1 z2 z3; obtain ⟨e1, e2, e3, e4, e5, e6⟩ := HS3.out.cells; obtain ⟨z0, z1, z2, z3⟩ := bc2 HX3.out)
   | (go_at_call 70; refine (wrong_calls _ _ _).mono ?_; rintro e W6 ⟨rfl, hb6⟩; have HS6 := Lib.hid (HS3.out.step (hb6.mono HS3.out.sz)); clear HS3 hb6 e1 e2 e3 e4 e5 e6; obtain ⟨e1, e2, e3, e4, e5, e6⟩ := HS6.out.cells))
  refine bodyPost_ret (results_cell_row rfl _ _ (w.heap.size + 1) 41 #[.int .i64 f0, .int .i64 3] (0, 0) _ rfl (HS6.out.set8 _ _).b8 Tryz.underlying41 rfl (by kernel_rfl)) rfl ?_
  rw [HN.out]
  exact ⟨rfl, (HS6.out.set8 _ _).bel⟩
set_option maxRecDepth 100000 in
set_option maxHeartbeats 4000000 in
theorem keyed_typ (s : ByteArray) (f0 f1 f2 : Int) (key k : ByteArray) (r2 r3 : Int) (r4 : Bool) (hK : words_Key.f s f0 f1 = some (k, r2, r3, r4)) (v : ByteArray) (hV : words_Text.f s r2 r3 = some v) (b : Bool) (hF : tour_ParseTour_1.f v = some b) (w : World) :
  Calls Tryz.prog 71 #[.string s, .agg #[.int .i64 f0, .int .i64 f1, .int .i64 f2], .string key, .func (.func 67) #[] #[]] w fun e W' =>
   e = .returned (.agg #[.int .i64 (keyD f0 k r2 key b).1, .int .i64 (keyD f0 k r2 key b).2]) ∧ Below w.heap.size w W' := by
 have HK := Lib.hid hK
 have HV := Lib.hid hV
 have HF := Lib.hid hF
 clear hK hV hF
 by_cases hk : k.toList = key.toList
 ·have hq : (k.toList != key.toList) = false := by rw [hk]; simp
  have hq2 : (k.toList == key.toList) = true := by rw [hk]; simp
  have HN : Hid (keyD f0 k r2 key b = if b = true then (0, 0) else (r2, 141)) := Lib.hid (by unfold keyD; rw [if_pos hk])
  clear hk
  cases b
  ·go_enter Tryz.func71, Tryz.ntmps71
   go_wp2_with (first
    | (go_at_call 111; refine (words_Key.calls s f0 f1 _ _ _ _ _ HK.out).mono ?_; rintro e W1 ⟨rfl, hb1⟩; have HS1 := Lib.hid ((KS.start w f0 f1 f2).step (hb1.mono (KS.start w f0 f1 f2).sz)); clear hb1; obtain ⟨e1, e2, e3, e4, e5, e6⟩ := HS1.out.cells)
    | ((with_reducible refine gate_dst (N := 10) rfl ?_); refine box_ev (N := 10) (cs := #[.int .i64 0, .int .i64 0]) (t := 105) ?_; intro g hg W2 hbox hb; have HS2 := Lib.hid (HS1.out.step (hb.mono HS1.out.sz)); have hg2 : w.heap.size + 2 ≤ g := (by have := HS1.out.sz; omega); have HX2 := Lib.hid hbox; clear HS1 hb hg e1 e2 e3 e4 e5 e6; obtain ⟨z0, z1, z2, z3⟩ := bc2 hbox; clear hbox)
    | ((with_reducible refine gate_store (t := 105) (p := 10) rfl ?_); refine store_ev (t := 105) (p := 10) (w1 := ((W2.setCell ⟨g, 0, none⟩ (.int .i64 r2)).setCell ⟨g, 1, none⟩ (.int .i64 r3))) ?_; intro W3 hw; have HS3 : Hid (KS w.heap.size w W3 f0 f1 f2 0 0) := (by rw [hw]; exact HS2.out.step (below_sets (Below.refl _ W2) hg2 _ _)); have HX3 : Hid (W3.heap[g]? = some (.cells #[.int .i64 r2, .int .i64 r3] 105 (0, 0))) := (by rw [hw]; exact blk_put (blk_put HX2.out 0 _ rfl) 1 _ rfl); clear hw HS2 HX2 z0 z1 z2 z3; obtain ⟨e1, e2, e3, e4, e5, e6⟩ := HS3.out.cells; obtain ⟨z0, z1, z2, z3⟩ := bc2 HX3.out)
    | (go_at_call 78; refine (words_Text.calls s r2 r3 _ _ HV.out).mono ?_; rintro e W4 ⟨rfl, hb4⟩; have HS4 := Lib.hid (HS3.out.step (hb4.mono HS3.out.sz)); have HX4 := Lib.hid (blk_below HX3.out hb4); clear HX3 z0 z1 z2 z3; clear HS3 hb4 e1 e2 e3 e4 e5 e6; obtain ⟨e1, e2, e3, e4, e5, e6⟩ := HS4.out.cells; obtain ⟨z0, z1, z2, z3⟩ := bc2 HX4.out)
    | (go_at_call 67; refine (is_tour_calls v _ HF.out _).mono ?_; rintro e W5 ⟨rfl, hb5⟩; have HS5 := Lib.hid (HS4.out.step (hb5.mono HS4.out.sz)); have HX5 := Lib.hid (blk_below HX4.out hb5); clear HX4 z0 z1 z2 z3; clear HS4 hb5 e1 e2 e3 e4 e5 e6; obtain ⟨e1, e2, e3, e4, e5, e6⟩ := HS5.out.cells; obtain ⟨z0, z1, z2, z3⟩ := bc2 HX5.out)
    | (go_at_call 70; refine (wrong_calls _ _ _).mono ?_; rintro e W6 ⟨rfl, hb6⟩; have HS6 := Lib.hid (HS5.out.step (hb6.mono HS5.out.sz)); clear HS5 hb6 e1 e2 e3 e4 e5 e6; obtain ⟨e1, e2, e3, e4, e5, e6⟩ := HS6.out.cells))
   refine bodyPost_ret (results_cell_row rfl _ _ (w.heap.size + 1) 41 #[.int .i64 r2, .int .i64 141] (0, 0) _ rfl (HS6.out.set8 _ _).b8 Tryz.underlying41 rfl (by kernel_rfl)) rfl ?_
   rw [HN.out]
   exact ⟨rfl, (HS6.out.set8 _ _).bel⟩
  ·go_enter Tryz.func71, Tryz.ntmps71
   go_wp2_with (first
    | (go_at_call 111; refine (words_Key.calls s f0 f1 _ _ _ _ _ HK.out).mono ?_; rintro e W1 ⟨rfl, hb1⟩; have HS1 := Lib.hid ((KS.start w f0 f1 f2).step (hb1.mono (KS.start w f0 f1 f2).sz)); clear hb1; obtain ⟨e1, e2, e3, e4, e5, e6⟩ := HS1.out.cells)
    | ((with_reducible refine gate_dst (N := 10) rfl ?_); refine box_ev (N := 10) (cs := #[.int .i64 0, .int .i64 0]) (t := 105) ?_; intro g hg W2 hbox hb; have HS2 := Lib.hid (HS1.out.step (hb.mono HS1.out.sz)); have hg2 : w.heap.size + 2 ≤ g := (by have := HS1.out.sz; omega); have HX2 := Lib.hid hbox; clear HS1 hb hg e1 e2 e3 e4 e5 e6; obtain ⟨z0, z1, z2, z3⟩ := bc2 hbox; clear hbox)
    | ((with_reducible refine gate_store (t := 105) (p := 10) rfl ?_); refine store_ev (t := 105) (p := 10) (w1 := ((W2.setCell ⟨g, 0, none⟩ (.int .i64 r2)).setCell ⟨g, 1, none⟩ (.int .i64 r3))) ?_; intro W3 hw; have HS3 : Hid (KS w.heap.size w W3 f0 f1 f2 0 0) := (by rw [hw]; exact HS2.out.step (below_sets (Below.refl _ W2) hg2 _ _)); have HX3 : Hid (W3.heap[g]? = some (.cells #[.int .i64 r2, .int .i64 r3] 105 (0, 0))) := (by rw [hw]; exact blk_put (blk_put HX2.out 0 _ rfl) 1 _ rfl); clear hw HS2 HX2 z0 z1 z2 z3; obtain ⟨e1, e2, e3, e4, e5, e6⟩ := HS3.out.cells; obtain ⟨z0, z1, z2, z3⟩ := bc2 HX3.out)
    | (go_at_call 78; refine (words_Text.calls s r2 r3 _ _ HV.out).mono ?_; rintro e W4 ⟨rfl, hb4⟩; have HS4 := Lib.hid (HS3.out.step (hb4.mono HS3.out.sz)); have HX4 := Lib.hid (blk_below HX3.out hb4); clear HX3 z0 z1 z2 z3; clear HS3 hb4 e1 e2 e3 e4 e5 e6; obtain ⟨e1, e2, e3, e4, e5, e6⟩ := HS4.out.cells; obtain ⟨z0, z1, z2, z3⟩ := bc2 HX4.out)
    | (go_at_call 67; refine (is_tour_calls v _ HF.out _).mono ?_; rintro e W5 ⟨rfl, hb5⟩; have HS5 := Lib.hid (HS4.out.step (hb5.mono HS4.out.sz)); have HX5 := Lib.hid (blk_below HX4.out hb5); clear HX4 z0 z1 z2 z3; clear HS4 hb5 e1 e2 e3 e4 e5 e6; obtain ⟨e1, e2, e3, e4, e5, e6⟩ := HS5.out.cells; obtain ⟨z0, z1, z2, z3⟩ := bc2 HX5.out))
   refine bodyPost_ret (results_cell_row rfl _ _ (w.heap.size + 1) 41 #[.int .i64 0, .int .i64 0] (0, 0) _ rfl (HS5.out.set8 _ _).b8 Tryz.underlying41 rfl (by kernel_rfl)) rfl ?_
   rw [HN.out]
   exact ⟨rfl, (HS5.out.set8 _ _).bel⟩
 ·have hq : (k.toList != key.toList) = true := by rw [bne_iff_ne]; exact hk
  have hq2 : (k.toList == key.toList) = false := by rw [beq_eq_false_iff_ne]; exact hk
  have HN : Hid (keyD f0 k r2 key b = (f0, 3)) := Lib.hid (by unfold keyD; rw [if_neg hk])
  clear hk
  go_enter Tryz.func71, Tryz.ntmps71
  go_wp2_with (first
   | (go_at_call 111; refine (words_Key.calls s f0 f1 _ _ _ _ _ HK.out).mono ?_; rintro e W1 ⟨rfl, hb1⟩; have HS1 := Lib.hid ((KS.start w f0 f1 f2).step (hb1.mono (KS.start w f0 f1 f2).sz)); clear hb1; obtain ⟨e1, e2, e3, e4, e5, e6⟩ := HS1.out.cells)
   | ((with_reducible refine gate_dst (N := 10) rfl ?_); refine box_ev (N := 10) (cs := #[.int .i64 0, .int .i64 0]) (t := 105) ?_; intro g hg W2 hbox hb; have HS2 := Lib.hid (HS1.out.step (hb.mono HS1.out.sz)); have hg2 : w.heap.size + 2 ≤ g := (by have := HS1.out.sz; omega); have HX2 := Lib.hid hbox; clear HS1 hb hg e1 e2 e3 e4 e5 e6; obtain ⟨z0, z1, z2, z3⟩ := bc2 hbox; clear hbox)
   | ((with_reducible refine gate_store (t := 105) (p := 10) rfl ?_); refine store_ev (t := 105) (p := 10) (w1 := ((W2.setCell ⟨g, 0, none⟩ (.int .i64 r2)).setCell ⟨g, 1, none⟩ (.int .i64 r3))) ?_; intro W3 hw; have HS3 : Hid (KS w.heap.size w W3 f0 f1 f2 0 0) := (by rw [hw]; exact HS2.out.step (below_sets (Below.refl _ W2) hg2 _ _)); have HX3 : Hid (W3.heap[g]? = some (.cells #[.int .i64 r2, .int .i64 r3] 105 (0, 0))) := (by rw [hw]; exact blk_put (blk_put HX2.out 0 _ rfl) 1 _ rfl); clear hw HS2 HX2 z0 z1 z2 z3; obtain ⟨e1, e2, e3, e4, e5, e6⟩ := HS3.out.cells; obtain ⟨z0, z1, z2, z3⟩ := bc2 HX3.out)
   | (go_at_call 70; refine (wrong_calls _ _ _).mono ?_; rintro e W6 ⟨rfl, hb6⟩; have HS6 := Lib.hid (HS3.out.step (hb6.mono HS3.out.sz)); clear HS3 hb6 e1 e2 e3 e4 e5 e6; obtain ⟨e1, e2, e3, e4, e5, e6⟩ := HS6.out.cells))
  refine bodyPost_ret (results_cell_row rfl _ _ (w.heap.size + 1) 41 #[.int .i64 f0, .int .i64 3] (0, 0) _ rfl (HS6.out.set8 _ _).b8 Tryz.underlying41 rfl (by kernel_rfl)) rfl ?_
  rw [HN.out]
  exact ⟨rfl, (HS6.out.set8 _ _).bel⟩
set_option maxRecDepth 100000 in
set_option maxHeartbeats 4000000 in
theorem keyed_dim (s : ByteArray) (f0 f1 f2 : Int) (key k : ByteArray) (r2 r3 : Int) (r4 : Bool) (hK : words_Key.f s f0 f1 = some (k, r2, r3, r4)) (v : ByteArray) (hV : words_Text.f s r2 r3 = some v) (r : Int) (hF : tour_dimension.f v = some r) (B : Nat) (n0 : Int) (w : World) (hB : B < w.heap.size) (hb : w.heap[B]? = some (.cells #[.int .i64 n0] 3 (0, 0))) :
  Calls Tryz.prog 71 #[.string s, .agg #[.int .i64 f0, .int .i64 f1, .int .i64 f2], .string key, .func (.func 68) #[] #[.pointer (some ⟨B, 0, none⟩)]] w fun e W' =>
   e = .returned (.agg #[.int .i64 (keyD f0 k r2 key (decide (0 < r))).1, .int .i64 (keyD f0 k r2 key (decide (0 < r))).2]) ∧ Below w.heap.size (if k.toList = key.toList then w.setCell ⟨B, 0, none⟩ (.int .i64 r) else w) W' := by
 have HK := Lib.hid hK
 have HV := Lib.hid hV
 have HF := Lib.hid hF
 clear hK hV hF
 by_cases hk : k.toList = key.toList
 ·have hq : (k.toList != key.toList) = false := by rw [hk]; simp
  have hq2 : (k.toList == key.toList) = true := by rw [hk]; simp
  have HN : Hid (keyD f0 k r2 key (decide (0 < r)) = if 0 < r then (0, 0) else (r2, 141)) := Lib.hid (by unfold keyD; rw [if_pos hk]; simp)
  rw [if_pos hk]
  clear hk
  rcases Bool.eq_false_or_eq_true (decide (0 < r)) with hd | hd
  rotate_left
  ·go_enter Tryz.func71, Tryz.ntmps71
   go_wp2_with (first
    | (go_at_call 111; refine (words_Key.calls s f0 f1 _ _ _ _ _ HK.out).mono ?_; rintro e W1 ⟨rfl, hb1⟩; have HS1 := Lib.hid ((KS.start w f0 f1 f2).step (hb1.mono (KS.start w f0 f1 f2).sz)); clear hb1; obtain ⟨e1, e2, e3, e4, e5, e6⟩ := HS1.out.cells)
    | ((with_reducible refine gate_dst (N := 10) rfl ?_); refine box_ev (N := 10) (cs := #[.int .i64 0, .int .i64 0]) (t := 105) ?_; intro g hg W2 hbox hb; have HS2 := Lib.hid (HS1.out.step (hb.mono HS1.out.sz)); have hg2 : w.heap.size + 2 ≤ g := (by have := HS1.out.sz; omega); have HX2 := Lib.hid hbox; clear HS1 hb hg e1 e2 e3 e4 e5 e6; obtain ⟨z0, z1, z2, z3⟩ := bc2 hbox; clear hbox)
    | ((with_reducible refine gate_store (t := 105) (p := 10) rfl ?_); refine store_ev (t := 105) (p := 10) (w1 := ((W2.setCell ⟨g, 0, none⟩ (.int .i64 r2)).setCell ⟨g, 1, none⟩ (.int .i64 r3))) ?_; intro W3 hw; have HS3 : Hid (KS w.heap.size w W3 f0 f1 f2 0 0) := (by rw [hw]; exact HS2.out.step (below_sets (Below.refl _ W2) hg2 _ _)); have HX3 : Hid (W3.heap[g]? = some (.cells #[.int .i64 r2, .int .i64 r3] 105 (0, 0))) := (by rw [hw]; exact blk_put (blk_put HX2.out 0 _ rfl) 1 _ rfl); clear hw HS2 HX2 z0 z1 z2 z3; obtain ⟨e1, e2, e3, e4, e5, e6⟩ := HS3.out.cells; obtain ⟨z0, z1, z2, z3⟩ := bc2 HX3.out)
    | (go_at_call 78; refine (words_Text.calls s r2 r3 _ _ HV.out).mono ?_; rintro e W4 ⟨rfl, hb4⟩; have HS4 := Lib.hid (HS3.out.step (hb4.mono HS3.out.sz)); have HX4 := Lib.hid (blk_below HX3.out hb4); clear HX3 z0 z1 z2 z3; clear HS3 hb4 e1 e2 e3 e4 e5 e6; obtain ⟨e1, e2, e3, e4, e5, e6⟩ := HS4.out.cells; obtain ⟨z0, z1, z2, z3⟩ := bc2 HX4.out)
    | (go_at_call 68; refine (dim_calls2 v r HF.out _ hd B n0 _ ((HS4.out.bel.block B hB).trans hb)).mono ?_; rintro e W5 ⟨rfl, W5a, hb5, rfl⟩; have HS5 := Lib.hid ((HS4.out.step (hb5.mono HS4.out.sz)).setB hB hb (.int .i64 r)); have HX5 := Lib.hid ((Below.heap_setCell W5a ⟨B, 0, none⟩ (.int .i64 r) g (by show g ≠ B; omega)).trans (blk_below HX4.out hb5)); clear HX4 z0 z1 z2 z3 HS4 hb5 e1 e2 e3 e4 e5 e6; obtain ⟨e1, e2, e3, e4, e5, e6⟩ := HS5.out.cells; obtain ⟨z0, z1, z2, z3⟩ := bc2 HX5.out)
    | (go_at_call 70; refine (wrong_calls _ _ _).mono ?_; rintro e W6 ⟨rfl, hb6⟩; have HS6 := Lib.hid (HS5.out.step (hb6.mono HS5.out.sz)); clear HS5 hb6 e1 e2 e3 e4 e5 e6; obtain ⟨e1, e2, e3, e4, e5, e6⟩ := HS6.out.cells))
   refine bodyPost_ret (results_cell_row rfl _ _ (w.heap.size + 1) 41 #[.int .i64 r2, .int .i64 141] (0, 0) _ rfl (HS6.out.set8 _ _).b8 Tryz.underlying41 rfl (by kernel_rfl)) rfl ?_
   rw [HN.out, if_neg (of_decide_eq_false hd)]
   exact ⟨rfl, (HS6.out.set8 _ _).bel⟩
  ·go_enter Tryz.func71, Tryz.ntmps71
   go_wp2_with (first
    | (go_at_call 111; refine (words_Key.calls s f0 f1 _ _ _ _ _ HK.out).mono ?_; rintro e W1 ⟨rfl, hb1⟩; have HS1 := Lib.hid ((KS.start w f0 f1 f2).step (hb1.mono (KS.start w f0 f1 f2).sz)); clear hb1; obtain ⟨e1, e2, e3, e4, e5, e6⟩ := HS1.out.cells)
    | ((with_reducible refine gate_dst (N := 10) rfl ?_); refine box_ev (N := 10) (cs := #[.int .i64 0, .int .i64 0]) (t := 105) ?_; intro g hg W2 hbox hb; have HS2 := Lib.hid (HS1.out.step (hb.mono HS1.out.sz)); have hg2 : w.heap.size + 2 ≤ g := (by have := HS1.out.sz; omega); have HX2 := Lib.hid hbox; clear HS1 hb hg e1 e2 e3 e4 e5 e6; obtain ⟨z0, z1, z2, z3⟩ := bc2 hbox; clear hbox)
    | ((with_reducible refine gate_store (t := 105) (p := 10) rfl ?_); refine store_ev (t := 105) (p := 10) (w1 := ((W2.setCell ⟨g, 0, none⟩ (.int .i64 r2)).setCell ⟨g, 1, none⟩ (.int .i64 r3))) ?_; intro W3 hw; have HS3 : Hid (KS w.heap.size w W3 f0 f1 f2 0 0) := (by rw [hw]; exact HS2.out.step (below_sets (Below.refl _ W2) hg2 _ _)); have HX3 : Hid (W3.heap[g]? = some (.cells #[.int .i64 r2, .int .i64 r3] 105 (0, 0))) := (by rw [hw]; exact blk_put (blk_put HX2.out 0 _ rfl) 1 _ rfl); clear hw HS2 HX2 z0 z1 z2 z3; obtain ⟨e1, e2, e3, e4, e5, e6⟩ := HS3.out.cells; obtain ⟨z0, z1, z2, z3⟩ := bc2 HX3.out)
    | (go_at_call 78; refine (words_Text.calls s r2 r3 _ _ HV.out).mono ?_; rintro e W4 ⟨rfl, hb4⟩; have HS4 := Lib.hid (HS3.out.step (hb4.mono HS3.out.sz)); have HX4 := Lib.hid (blk_below HX3.out hb4); clear HX3 z0 z1 z2 z3; clear HS3 hb4 e1 e2 e3 e4 e5 e6; obtain ⟨e1, e2, e3, e4, e5, e6⟩ := HS4.out.cells; obtain ⟨z0, z1, z2, z3⟩ := bc2 HX4.out)
    | (go_at_call 68; refine (dim_calls2 v r HF.out _ hd B n0 _ ((HS4.out.bel.block B hB).trans hb)).mono ?_; rintro e W5 ⟨rfl, W5a, hb5, rfl⟩; have HS5 := Lib.hid ((HS4.out.step (hb5.mono HS4.out.sz)).setB hB hb (.int .i64 r)); have HX5 := Lib.hid ((Below.heap_setCell W5a ⟨B, 0, none⟩ (.int .i64 r) g (by show g ≠ B; omega)).trans (blk_below HX4.out hb5)); clear HX4 z0 z1 z2 z3 HS4 hb5 e1 e2 e3 e4 e5 e6; obtain ⟨e1, e2, e3, e4, e5, e6⟩ := HS5.out.cells; obtain ⟨z0, z1, z2, z3⟩ := bc2 HX5.out))
   refine bodyPost_ret (results_cell_row rfl _ _ (w.heap.size + 1) 41 #[.int .i64 0, .int .i64 0] (0, 0) _ rfl (HS5.out.set8 _ _).b8 Tryz.underlying41 rfl (by kernel_rfl)) rfl ?_
   rw [HN.out, if_pos (of_decide_eq_true hd)]
   exact ⟨rfl, (HS5.out.set8 _ _).bel⟩
 ·have hq : (k.toList != key.toList) = true := by rw [bne_iff_ne]; exact hk
  have hq2 : (k.toList == key.toList) = false := by rw [beq_eq_false_iff_ne]; exact hk
  have HN : Hid (keyD f0 k r2 key (decide (0 < r)) = (f0, 3)) := Lib.hid (by unfold keyD; rw [if_neg hk])
  rw [if_neg hk]
  clear hk
  go_enter Tryz.func71, Tryz.ntmps71
  go_wp2_with (first
   | (go_at_call 111; refine (words_Key.calls s f0 f1 _ _ _ _ _ HK.out).mono ?_; rintro e W1 ⟨rfl, hb1⟩; have HS1 := Lib.hid ((KS.start w f0 f1 f2).step (hb1.mono (KS.start w f0 f1 f2).sz)); clear hb1; obtain ⟨e1, e2, e3, e4, e5, e6⟩ := HS1.out.cells)
   | ((with_reducible refine gate_dst (N := 10) rfl ?_); refine box_ev (N := 10) (cs := #[.int .i64 0, .int .i64 0]) (t := 105) ?_; intro g hg W2 hbox hb; have HS2 := Lib.hid (HS1.out.step (hb.mono HS1.out.sz)); have hg2 : w.heap.size + 2 ≤ g := (by have := HS1.out.sz; omega); have HX2 := Lib.hid hbox; clear HS1 hb hg e1 e2 e3 e4 e5 e6; obtain ⟨z0, z1, z2, z3⟩ := bc2 hbox; clear hbox)
   | ((with_reducible refine gate_store (t := 105) (p := 10) rfl ?_); refine store_ev (t := 105) (p := 10) (w1 := ((W2.setCell ⟨g, 0, none⟩ (.int .i64 r2)).setCell ⟨g, 1, none⟩ (.int .i64 r3))) ?_; intro W3 hw; have HS3 : Hid (KS w.heap.size w W3 f0 f1 f2 0 0) := (by rw [hw]; exact HS2.out.step (below_sets (Below.refl _ W2) hg2 _ _)); have HX3 : Hid (W3.heap[g]? = some (.cells #[.int .i64 r2, .int .i64 r3] 105 (0, 0))) := (by rw [hw]; exact blk_put (blk_put HX2.out 0 _ rfl) 1 _ rfl); clear hw HS2 HX2 z0 z1 z2 z3; obtain ⟨e1, e2, e3, e4, e5, e6⟩ := HS3.out.cells; obtain ⟨z0, z1, z2, z3⟩ := bc2 HX3.out)
   | (go_at_call 70; refine (wrong_calls _ _ _).mono ?_; rintro e W6 ⟨rfl, hb6⟩; have HS6 := Lib.hid (HS3.out.step (hb6.mono HS3.out.sz)); clear HS3 hb6 e1 e2 e3 e4 e5 e6; obtain ⟨e1, e2, e3, e4, e5, e6⟩ := HS6.out.cells))
  refine bodyPost_ret (results_cell_row rfl _ _ (w.heap.size + 1) 41 #[.int .i64 f0, .int .i64 3] (0, 0) _ rfl (HS6.out.set8 _ _).b8 Tryz.underlying41 rfl (by kernel_rfl)) rfl ?_
  rw [HN.out]
  exact ⟨rfl, (HS6.out.set8 _ _).bel⟩
end Go.Proofs.YtadocbfchdendaaGreatDoor.Cu
namespace Go.Proofs.YtadocbfchdendaaGreatDoor.Cu
open Go.RowKit Go.Lib Go.Proofs.YtadocbfchdendaaGreatDoorW.PrintWords Go.Proofs.YtadocbfchdendaaGreatDoor.P
set_option linter.unusedSimpArgs false
set_option linter.unusedVariables false
abbrev Told := List (List Int) × Int × Int
def kD (s : ByteArray) (x : S96) (key : ByteArray) (fits : ByteArray → Option Bool) : Option (Int × Int) :=
 (words_Key.f s x.f0 x.f1).bind fun K => (words_Text.f s K.2.1 K.2.2.1).bind fun v => (fits v).bind fun b => some (keyD x.f0 K.1 K.2.1 key b)
def look3 (s : ByteArray) (L : List S96) (n : Int) : Option Told := match L[2]? with
 | none => none
 | some x => (sheet_Rows.f 100002 s x.f2).bind fun R => if (stopsS s n R).2.2 = 0 then some ([(stopsS s n R).1], (stopsS s n R).2) else some ([], (stopsS s n R).2)
def look2 (s : ByteArray) (L : List S96) : Option Told := match L[2]? with
 | none => some ([], (s.size : Int), 4)
 | some x => (words_Key.f s x.f0 x.f1).bind fun K => (words_Text.f s K.2.1 K.2.2.1).bind fun v => (tour_dimension.f v).bind fun n =>
   if (keyD x.f0 K.1 K.2.1 (⟨#[68, 73, 77, 69, 78, 83, 73, 79, 78]⟩ : ByteArray) (decide (0 < n))).2 = 0 then look3 s L n else some ([], keyD x.f0 K.1 K.2.1 (⟨#[68, 73, 77, 69, 78, 83, 73, 79, 78]⟩ : ByteArray) (decide (0 < n)))
def look1 (s : ByteArray) (L : List S96) : Option Told := match L[1]? with
 | none => some ([], (s.size : Int), 4)
 | some x => (kD s x (⟨#[84, 89, 80, 69]⟩ : ByteArray) tour_ParseTour_1.f).bind fun d => if d.2 = 0 then look2 s L else some ([], d)
def look0 (s : ByteArray) (L : List S96) : Option Told := match L[0]? with
 | none => some ([], (s.size : Int), 4)
 | some x => (kD s x (⟨#[78, 65, 77, 69]⟩ : ByteArray) words_Name.f).bind fun d => if d.2 = 0 then look1 s L else some ([], d)
def parseTour (s : ByteArray) : Option Told := if s.size ≤ 90000 then (cursor_Rows.f s).bind fun L => look0 s L else none
structure PT (W1 W : World) (g5 gl : Nat) (n : Int) : Prop where
 b1 : Below W1.heap.size W1 W
 b5 : W.heap[g5]? = some (.cells #[.int .i64 n] 3 (0, 0))
 bl : W.heap[gl]? = some (.cells #[.string (⟨#[78, 65, 77, 69]⟩ : ByteArray), .func (.func 66) #[] #[], .string (⟨#[84, 89, 80, 69]⟩ : ByteArray), .func (.func 67) #[] #[], .string (⟨#[68, 73, 77, 69, 78, 83, 73, 79, 78]⟩ : ByteArray), .func (.func 68) #[] #[.pointer (some ⟨g5, 0, none⟩)]] 124 (0, 0))
 h5 : W1.heap.size ≤ g5
 hl : g5 < gl
 sz : gl < W.heap.size
theorem PT.step {W1 W W' : World} {g5 gl : Nat} {n : Int} (h : PT W1 W g5 gl n) (hb : Below W.heap.size W W') : PT W1 W' g5 gl n :=
 ⟨h.b1.trans (hb.mono h.b1.size), blk_below h.b5 hb, blk_below h.bl hb, h.h5, h.hl, Nat.lt_of_lt_of_le h.sz hb.size⟩
theorem PT.set8 {W1 W : World} {g5 gl g8 : Nat} {n : Int} (h : PT W1 W g5 gl n) (h8 : gl < g8) (a b : Value) : PT W1 ((W.setCell ⟨g8, 0, none⟩ a).setCell ⟨g8, 1, none⟩ b) g5 gl n :=
 have hw : W1.heap.size ≤ g8 := by have := h.hl; have := h.h5; omega
 ⟨(h.b1.setCell (p := ⟨g8, 0, none⟩) hw _).setCell (p := ⟨g8, 1, none⟩) hw _, (Below.heap_setCell _ _ _ _ (by have := h.hl; show g5 ≠ g8; omega)).trans ((Below.heap_setCell _ _ _ _ (by have := h.hl; show g5 ≠ g8; omega)).trans h.b5), (Below.heap_setCell _ _ _ _ (by show gl ≠ g8; omega)).trans ((Below.heap_setCell _ _ _ _ (by show gl ≠ g8; omega)).trans h.bl), h.h5, h.hl, by simpa [World.setCell] using h.sz⟩
theorem lit_ev {P : Program} {ops : Array Oper} {rest : List Oper} {o : Oper} {a : Act} {Q : Exit → Act → World → Prop} {W : World} {N : Tmp} {n : Nat} {cs : Array Value} {t : TypeId} (h : ∀ g, g = W.heap.size → ∀ w1, w1.heap[g]? = some (.cells cs t (0, 0)) → Below W.heap.size W w1 → wpList P ops Q rest (a.put o.dst (.slice (some ⟨g, 0, none⟩) n n)) w1) (hgd : o.guard = none := by rfl) (_hd : o.dst = some N := by rfl) (hrun : (execOp a.eval o).run P W = .ok (.value (.slice (some ⟨W.heap.size, 0, none⟩) n n)) (W.alloc (.cells cs t (0, 0))) := by first | (go_simp; done) | (go_simp; rfl)) : wpList P ops Q (o :: rest) a W :=
 Kd.event_run hgd hrun (h _ rfl _ (blk_new W _) (below_alloc (Below.refl _ _) _))
theorem keep8 {W7 W : World} {a b c d e : Addr} {va vb vc vd ve : Value} (h1 : W7.cell? a = some va) (h2 : W7.cell? b = some vb) (h3 : W7.cell? c = some vc) (h4 : W7.cell? d = some vd) (h5 : W7.cell? e = some ve) (hb : Below W7.heap.size W7 W) :
  W.cell? a = some va ∧ W.cell? b = some vb ∧ W.cell? c = some vc ∧ W.cell? d = some vd ∧ W.cell? e = some ve ∧ Below W7.heap.size W7 W :=
 ⟨pw_cell_below hb h1, pw_cell_below hb h2, pw_cell_below hb h3, pw_cell_below hb h4, pw_cell_below hb h5, hb⟩
theorem below_via {W7 Y W : World} (h : Below Y.heap.size Y W) (h1 : Below W7.heap.size W7 Y) : Below W7.heap.size W7 W := h1.trans (h.mono h1.size)
theorem at9 {P : Program} {f : Nat} {args : Array Value} {W : World} {A : Ending → Prop} (g : Nat) (hV : W.heap[g]? = some (.cells #[.int .i64 0, .int .i64 0] 41 (0, 0))) (h : Calls P f args W fun e W' => A e ∧ Below W.heap.size W W') :
  Calls P f args W fun e W' => A e ∧ Below W.heap.size W W' ∧
   W'.cell? ⟨g, 0, none⟩ = some (.int .i64 0) ∧ W'.cell? ⟨g, 1, none⟩ = some (.int .i64 0) ∧ W'.frozen? ⟨g, 0, none⟩ = false ∧ W'.frozen? ⟨g, 1, none⟩ = false ∧ Hid (W'.heap[g]? = some (.cells #[.int .i64 0, .int .i64 0] 41 (0, 0))) :=
 h.mono fun e W' ⟨h1, h2⟩ => ⟨h1, h2, (bc2 (blk_below hV h2)).1, (bc2 (blk_below hV h2)).2.1, (bc2 (blk_below hV h2)).2.2.1, (bc2 (blk_below hV h2)).2.2.2, Lib.hid (blk_below hV h2)⟩
def B5 (g5 : Nat) (w W : World) : Prop := Below g5 w W ∧ ∀ k, g5 < k → k < w.heap.size → W.heap[k]? = w.heap[k]?
theorem B5.refl (g5 : Nat) (w : World) : B5 g5 w w := ⟨Below.refl _ _, fun _ _ _ => rfl⟩
theorem B5.trans {g5 : Nat} {w W1 W : World} (h : B5 g5 w W1) (k : B5 g5 W1 W) : B5 g5 w W := ⟨h.1.trans k.1, fun i h1 h2 => (k.2 i h1 (Nat.lt_of_lt_of_le h2 h.1.size)).trans (h.2 i h1 h2)⟩
theorem B5.drew {g5 : Nat} {w W : World} (h : B5 g5 w W) : B5 g5 w W.drew := ⟨h.1.drew, h.2⟩
theorem B5.of {g5 : Nat} {w W : World} (h : Below w.heap.size w W) (hg : g5 ≤ w.heap.size) : B5 g5 w W := ⟨h.mono hg, fun k _ hk => h.block k hk⟩
theorem B5.alloc {g5 : Nat} {w W : World} (h : B5 g5 w W) (hg : g5 ≤ W.heap.size) (o : Obj) : B5 g5 w (W.alloc o) := h.trans (B5.of ((Below.refl _ _).alloc (Nat.le_refl _) _) hg)
theorem dim5 {g5 : Nat} {c : Prop} [Decidable c] {n r : Int} {w W : World} (hg : g5 < w.heap.size) (hn : w.heap[g5]? = some (.cells #[.int .i64 n] 3 (0, 0))) (h : Below w.heap.size (if c then w.setCell ⟨g5, 0, none⟩ (.int .i64 r) else w) W) :
  B5 g5 w W ∧ Hid (W.heap[g5]? = some (.cells #[.int .i64 (if c then r else n)] 3 (0, 0))) := by
 by_cases hc : c
 ·rw [if_pos hc] at h
  rw [if_pos hc]
  refine ⟨⟨((Below.refl _ w).setCell (p := ⟨g5, 0, none⟩) (Nat.le_refl _) _).trans (h.mono (Nat.le_of_lt hg)), fun k h1 h2 => (h.block k h2).trans (Below.heap_setCell _ _ _ _ (by show k ≠ g5; omega))⟩, Lib.hid ((h.block g5 hg).trans (blk_put hn 0 _ rfl))⟩
 ·rw [if_neg hc] at h
  rw [if_neg hc]
  exact ⟨B5.of h (Nat.le_of_lt hg), Lib.hid ((h.block g5 hg).trans hn)⟩
theorem PT.five {W1 W W' : World} {g5 gl : Nat} {n m : Int} (h : PT W1 W g5 gl n) (hb : B5 g5 W W') (h5 : W'.heap[g5]? = some (.cells #[.int .i64 m] 3 (0, 0))) : PT W1 W' g5 gl m :=
 ⟨h.b1.trans (hb.1.mono h.h5), h5, (hb.2 gl h.hl h.sz).trans h.bl, h.h5, h.hl, Nat.lt_of_lt_of_le h.sz hb.1.size⟩
theorem B5.cell {g5 : Nat} {w W : World} {a : Addr} {v : Value} (h : B5 g5 w W) (ha : a.block ≠ g5) (hc : w.cell? a = some v) : W.cell? a = some v := by
 have hlt := World.block_lt_of_cell? w a hc
 have hh : W.heap[a.block]? = w.heap[a.block]? := by
  by_cases h1 : a.block < g5
  ·exact h.1.block _ h1
  ·exact h.2 _ (by omega) hlt
 simp only [World.cell?, hh] at hc ⊢
 exact hc
theorem B5.size {g5 : Nat} {w W : World} (h : B5 g5 w W) : w.heap.size ≤ W.heap.size := h.1.size
theorem B5.allocs {g5 : Nat} {w W : World} (h : B5 g5 w W) (hg : g5 < w.heap.size) (o : Obj) : B5 g5 w (W.alloc o) := h.alloc (by have := h.1.size; omega) o
theorem B5.setCell {g5 : Nat} {w W : World} (h : B5 g5 w W) (hg : g5 < w.heap.size) {p : Addr} (hp : w.heap.size ≤ p.block) (v : Value) : B5 g5 w (W.setCell p v) :=
 ⟨h.1.setCell (by omega) v, fun k h1 h2 => (Below.heap_setCell _ _ _ _ (by omega)).trans (h.2 k h1 h2)⟩
theorem B5.below {g5 : Nat} {w W : World} (h : Below w.heap.size w W) (hg : g5 < w.heap.size) : B5 g5 w W := B5.of h (Nat.le_of_lt hg)
theorem at9d {P : Program} {f : Nat} {args : Array Value} {W : World} {g5 : Nat} {A : Ending → Prop} {B : World → Prop} (g : Nat) (hg5 : g5 < g) (hV : W.heap[g]? = some (.cells #[.int .i64 0, .int .i64 0] 41 (0, 0))) (h : Calls P f args W fun e W' => A e ∧ B5 g5 W W' ∧ B W') :
  Calls P f args W fun e W' => A e ∧ (B5 g5 W W' ∧ B W') ∧
   W'.cell? ⟨g, 0, none⟩ = some (.int .i64 0) ∧ W'.cell? ⟨g, 1, none⟩ = some (.int .i64 0) ∧ W'.frozen? ⟨g, 0, none⟩ = false ∧ W'.frozen? ⟨g, 1, none⟩ = false ∧ Hid (W'.heap[g]? = some (.cells #[.int .i64 0, .int .i64 0] 41 (0, 0))) :=
 h.mono fun e W' ⟨h1, h2, h3⟩ => by
  have hh := (h2.2 g hg5 (blk_lt hV)).trans hV
  exact ⟨h1, ⟨h2, h3⟩, (bc2 hh).1, (bc2 hh).2.1, (bc2 hh).2.2.1, (bc2 hh).2.2.2, Lib.hid hh⟩
theorem keyed5 {W1 W : World} {g5 gl : Nat} {n : Int} (h : PT W1 W g5 gl n) (s : ByteArray) (f0 f1 f2 : Int) (key k : ByteArray) (r2 r3 : Int) (r4 : Bool) (hK : words_Key.f s f0 f1 = some (k, r2, r3, r4)) (v : ByteArray) (hV : words_Text.f s r2 r3 = some v) (r : Int) (hF : tour_dimension.f v = some r) (D : Int × Int) (hD : keyD f0 k r2 key (decide (0 < r)) = D) :
  Calls Tryz.prog 71 #[.string s, .agg #[.int .i64 f0, .int .i64 f1, .int .i64 f2], .string key, .func (.func 68) #[] #[.pointer (some ⟨g5, 0, none⟩)]] W fun e W' =>
   e = .returned (.agg #[.int .i64 D.1, .int .i64 D.2]) ∧ B5 g5 W W' ∧ Hid (W'.heap[g5]? = some (.cells #[.int .i64 (if k.toList = key.toList then r else n)] 3 (0, 0))) :=
 (keyed_dim s f0 f1 f2 key k r2 r3 r4 hK v hV r hF g5 n W (Nat.lt_trans h.hl h.sz) h.b5).mono fun e W' ⟨h1, h2⟩ => ⟨by rw [← hD]; exact h1, dim5 (Nat.lt_trans h.hl h.sz) h.b5 h2⟩
theorem keep8d {g5 : Nat} {W7 W : World} {a b c d e : Addr} {va vb vc vd ve : Value} (ha : a.block ≠ g5) (hb' : b.block ≠ g5) (hc : c.block ≠ g5) (hd : d.block ≠ g5) (he : e.block ≠ g5) (h1 : W7.cell? a = some va) (h2 : W7.cell? b = some vb) (h3 : W7.cell? c = some vc) (h4 : W7.cell? d = some vd) (h5 : W7.cell? e = some ve) (hb : B5 g5 W7 W) :
  W.cell? a = some va ∧ W.cell? b = some vb ∧ W.cell? c = some vc ∧ W.cell? d = some vd ∧ W.cell? e = some ve ∧ B5 g5 W7 W :=
 ⟨hb.cell ha h1, hb.cell hb' h2, hb.cell hc h3, hb.cell hd h4, hb.cell he h5, hb⟩
theorem b5_via {g5 : Nat} {W7 Y W : World} (h : B5 g5 Y W) (h1 : B5 g5 W7 Y) : B5 g5 W7 W := h1.trans h
theorem qup5 {P : Prop} (h : P := by repeat' (first | assumption | exact B5.refl _ _ | exact Nat.le_refl _ | refine B5.drew ?_ | refine B5.allocs ?_ ?_ _ | refine B5.setCell (p := ⟨_, _, none⟩) ?_ ?_ ?_ _ | (apply b5_via; assumption))) : P := h
theorem at9e {P : Program} {f : Nat} {args : Array Value} {W : World} {B : Ending → World → Prop} (g : Nat) (hV : W.heap[g]? = some (.cells #[.int .i64 0, .int .i64 0] 41 (0, 0))) (h : Calls P f args W fun e W' => B e W' ∧ Below W.heap.size W W') :
  Calls P f args W fun e W' => (B e W' ∧ Below W.heap.size W W') ∧
   W'.cell? ⟨g, 0, none⟩ = some (.int .i64 0) ∧ W'.cell? ⟨g, 1, none⟩ = some (.int .i64 0) ∧ W'.frozen? ⟨g, 0, none⟩ = false ∧ W'.frozen? ⟨g, 1, none⟩ = false ∧ Hid (W'.heap[g]? = some (.cells #[.int .i64 0, .int .i64 0] 41 (0, 0))) :=
 h.mono fun e W' ⟨h1, h2⟩ => ⟨⟨h1, h2⟩, (bc2 (blk_below hV h2)).1, (bc2 (blk_below hV h2)).2.1, (bc2 (blk_below hV h2)).2.2.1, (bc2 (blk_below hV h2)).2.2.2, Lib.hid (blk_below hV h2)⟩
theorem R_put {W : World} {base g : Nat} {ok : Nat → Prop} {v : Value} {xs : List Int} {c : Array Value} (h : Kd.R (Kd.int .i64) 3 W base ok v xs) (hb : W.heap[g]? = some (.cells c 41 (0, 0))) (j : Nat) (u : Value) : Kd.R (Kd.int .i64) 3 (W.setCell ⟨g, j, none⟩ u) base ok v xs :=
 Kd.R_mono (Kd.R_step (Kd.R_types h hb (by decide)) fun k hk _ => Below.heap_setCell _ _ _ _ hk.2) (fun _ hk => hk.1)
theorem S_lit1 {W : World} {base : Nat} {v : Value} {xs : List Int} (hR : Kd.R (Kd.int .i64) 3 W base (fun _ => True) v xs) (hb : base ≤ W.heap.size) :
  Kd.S (Kd.slice 3 (Kd.int .i64)) 38 (W.alloc (.cells #[v] 38 (0, 0))) base (fun _ => True) (.slice (some ⟨W.heap.size, 0, none⟩) 1 1) [xs] := by
 refine ⟨fun _ => 0, fun _ _ => trivial, [v], ?_, Reps.one ⟨v, rfl, Kd.R_mono (Kd.R_below (Kd.R_bound hR) (below_alloc (Below.refl _ _) _)) (fun k hk => ⟨⟨trivial, fun he => ?_⟩, rfl⟩)⟩ (Reps.none _ _)⟩
 ·have h2 := World.ownsRow_lit (base := base) (e := 38) (size := 1) W #[v] 1 hb (by decide) rfl
  exact h2
 ·have h3 : k = W.heap.size := by simpa [Value.ownBlock] using he
  have := hk.2.2.1
  omega
theorem keep2 {W7 W : World} {a b : Addr} {va vb : Value} (h1 : W7.cell? a = some va) (h2 : W7.cell? b = some vb) (hb : Below W7.heap.size W7 W) :
  W.cell? a = some va ∧ W.cell? b = some vb ∧ Below W7.heap.size W7 W := ⟨pw_cell_below hb h1, pw_cell_below hb h2, hb⟩
theorem rows_calls (k : Nat) (a0 : ByteArray) (a1 : Int) (r : List (S32)) (w : World) (h : sheet_Rows.f k a0 a1 = some r) :
  Calls Tryz.prog 15 #[.string a0, .int .i64 a1] w fun e w' => (∃ A c, e = .returned (.slice A r.length c) ∧ r.length ≤ c ∧ Hid (Kd.C k32 w' A r.length r)) ∧ Below w.heap.size w w' :=
 (sheet_Rows.calls k a0 a1 r w h).mono fun e w' ⟨v, h1, h2, h3⟩ => by
  obtain ⟨A, c, rfl, hc, hC⟩ := Kd.S_reads h2
  exact ⟨⟨A, c, h1, hc, Lib.hid hC⟩, h3⟩
theorem stops_calls2 (s : ByteArray) (hs : s.size ≤ 90000) (L : List Row) (hL : ∀ x ∈ L, x.f1.length ≤ 100000) (hLl : L.length < 1000000) (A : Option Addr) (c : Nat) (n : Int) (hn : 0 ≤ n ∧ n ≤ 400) (w : World)
  (hC : Kd.C k32 w A L.length L) (hc : L.length ≤ c) (S : List Int × Int × Int) (hS : stopsS s n L = S) :
  Calls Tryz.prog 72 #[.string s, .slice A L.length c, .int .i64 n] w fun e W' => (∃ A2 c2, e = .returned (.tuple #[.slice A2 S.1.length c2, .agg #[.int .i64 S.2.1, .int .i64 S.2.2]]) ∧
   Hid (Kd.R (Kd.int .i64) 3 W' w.heap.size (fun _ => True) (.slice A2 S.1.length c2) S.1)) ∧ Below w.heap.size w W' := by
 subst hS
 refine (stops_calls s (by omega) L hL hLl A c n ⟨by omega, by omega⟩ w hC hc).mono ?_
 rintro e W' ⟨v, h1, h2, h3⟩
 obtain ⟨A2, c2, rfl⟩ := Kd.R_slice h2
 exact ⟨⟨A2, c2, h1, Lib.hid h2⟩, h3⟩
theorem all9 : (∀ W : World, (W.alloc (.cells #[.int .i64 0, .int .i64 0] 41 (0, 0))).cell? ⟨W.heap.size, 0, none⟩ = some (.int .i64 0)) ∧ (∀ W : World, (W.alloc (.cells #[.int .i64 0, .int .i64 0] 41 (0, 0))).cell? ⟨W.heap.size, 1, none⟩ = some (.int .i64 0)) ∧
  (∀ W : World, (W.alloc (.cells #[.int .i64 0, .int .i64 0] 41 (0, 0))).frozen? ⟨W.heap.size, 0, none⟩ = false) ∧ (∀ W : World, (W.alloc (.cells #[.int .i64 0, .int .i64 0] 41 (0, 0))).frozen? ⟨W.heap.size, 1, none⟩ = false) :=
 ⟨fun W => (bc2 (blk_new W _)).1, fun W => (bc2 (blk_new W _)).2.1, fun W => (bc2 (blk_new W _)).2.2.1, fun W => (bc2 (blk_new W _)).2.2.2⟩
theorem qup {P : Prop} (h : P := by repeat' (first | exact Below.refl _ _ | exact Nat.le_refl _ | refine below_drew1 ?_ | refine below_alloc ?_ _ | refine Below.setCell (p := ⟨_, _, none⟩) ?_ ?_ _ | (apply below_via; assumption) | exact Nat.le_trans (by first | exact Nat.le_refl _ | simp) (Below.size hb8))) : P := h
theorem dim_le {v : ByteArray} {m : Int} (h : tour_dimension.f v = some m) : 0 ≤ m ∧ m ≤ 400 := by
 unfold tour_dimension.f at h
 obtain ⟨q, _, h⟩ := Option.bind_eq_some_iff.mp h
 split at h
 ·split at h
  ·obtain rfl := Option.some.inj h; omega
  ·split at h
   ·obtain rfl := Option.some.inj h; omega
   ·obtain rfl := Option.some.inj h; omega
 ·obtain rfl := Option.some.inj h; omega
theorem kD_some {s : ByteArray} {x : S96} {key : ByteArray} {fits : ByteArray → Option Bool} {d : Int × Int} (h : kD s x key fits = some d) :
  ∃ k r2 r3 r4 v b, words_Key.f s x.f0 x.f1 = some (k, r2, r3, r4) ∧ words_Text.f s r2 r3 = some v ∧ fits v = some b ∧ d = keyD x.f0 k r2 key b := by
 obtain ⟨⟨k, r2, r3, r4⟩, h1, h⟩ := Option.bind_eq_some_iff.mp h
 obtain ⟨v, h2, h⟩ := Option.bind_eq_some_iff.mp h
 obtain ⟨b, h3, h⟩ := Option.bind_eq_some_iff.mp h
 exact ⟨k, r2, r3, r4, v, b, h1, h2, h3, (Option.some.inj h).symm⟩
structure PZ (w W1 : World) (A : Option Addr) (L : List S96) : Prop where
 bel : Below w.heap.size w W1
 bp : W1.heap[w.heap.size]? = some (.cells #[.slice none 0 0] 70 (0, 0))
 bd : W1.heap[w.heap.size + 1]? = some (.cells #[.int .i64 0, .int .i64 0] 41 (0, 0))
 lines : Kd.C k96 W1 A L.length L
 sz : w.heap.size + 2 ≤ W1.heap.size
theorem PT.cells {w W1 W : World} {A : Option Addr} {L : List S96} {g5 gl : Nat} {n : Int} (hz : PZ w W1 A L) (h : PT W1 W g5 gl n) :
  W.cell? ⟨w.heap.size, 0, none⟩ = some (.slice none 0 0) ∧ W.frozen? ⟨w.heap.size, 0, none⟩ = false ∧ W.cell? ⟨w.heap.size + 1, 0, none⟩ = some (.int .i64 0) ∧ W.cell? ⟨w.heap.size + 1, 1, none⟩ = some (.int .i64 0) ∧ W.frozen? ⟨w.heap.size + 1, 0, none⟩ = false ∧ W.frozen? ⟨w.heap.size + 1, 1, none⟩ = false ∧ W.cell? ⟨g5, 0, none⟩ = some (.int .i64 n) := by
 have hp := (h.b1.block _ (by have := hz.sz; omega)).trans hz.bp
 have hd := (h.b1.block _ (by have := hz.sz; omega)).trans hz.bd
 exact ⟨(bc1 hp).1, (bc1 hp).2, (bc2 hd).1, (bc2 hd).2.1, (bc2 hd).2.2.1, (bc2 hd).2.2.2, (bc1 h.b5).1⟩
theorem PT.res {w W1 W : World} {A : Option Addr} {L : List S96} {g5 gl : Nat} {n : Int} (hz : PZ w W1 A L) (h : PT W1 W g5 gl n) (v : Value) (a b : Int) :
  (((W.setCell ⟨w.heap.size, 0, none⟩ v).setCell ⟨w.heap.size + 1, 0, none⟩ (.int .i64 a)).setCell ⟨w.heap.size + 1, 1, none⟩ (.int .i64 b)).heap[w.heap.size]? = some (.cells #[v] 70 (0, 0)) ∧
  (((W.setCell ⟨w.heap.size, 0, none⟩ v).setCell ⟨w.heap.size + 1, 0, none⟩ (.int .i64 a)).setCell ⟨w.heap.size + 1, 1, none⟩ (.int .i64 b)).heap[w.heap.size + 1]? = some (.cells #[.int .i64 a, .int .i64 b] 41 (0, 0)) ∧
  Below w.heap.size w (((W.setCell ⟨w.heap.size, 0, none⟩ v).setCell ⟨w.heap.size + 1, 0, none⟩ (.int .i64 a)).setCell ⟨w.heap.size + 1, 1, none⟩ (.int .i64 b)) := by
 have hp := (h.b1.block _ (by have := hz.sz; omega)).trans hz.bp
 have hd := (h.b1.block _ (by have := hz.sz; omega)).trans hz.bd
 refine ⟨(Below.heap_setCell _ _ _ _ (by simp)).trans ((Below.heap_setCell _ _ _ _ (by simp)).trans (blk_put hp 0 _ rfl)), blk_put (blk_put ((Below.heap_setCell _ _ _ _ (by simp)).trans hd) 0 _ rfl) 1 _ rfl, ?_⟩
 exact (((hz.bel.trans (h.b1.mono (by have := hz.sz; omega))).setCell (p := ⟨w.heap.size, 0, none⟩) (Nat.le_refl _) _).setCell (p := ⟨w.heap.size + 1, 0, none⟩) (Nat.le_succ _) _).setCell (p := ⟨w.heap.size + 1, 1, none⟩) (Nat.le_succ _) _
theorem PT.looks {W1 W : World} {g5 gl : Nat} {n : Int} (h : PT W1 W g5 gl n) :
  W.cell? ⟨gl, 0, none⟩ = some (.string (⟨#[78, 65, 77, 69]⟩ : ByteArray)) ∧ W.cell? ⟨gl, 1, none⟩ = some (.func (.func 66) #[] #[]) ∧ W.cell? ⟨gl, 2, none⟩ = some (.string (⟨#[84, 89, 80, 69]⟩ : ByteArray)) ∧ W.cell? ⟨gl, 3, none⟩ = some (.func (.func 67) #[] #[]) ∧ W.cell? ⟨gl, 4, none⟩ = some (.string (⟨#[68, 73, 77, 69, 78, 83, 73, 79, 78]⟩ : ByteArray)) ∧ W.cell? ⟨gl, 5, none⟩ = some (.func (.func 68) #[] #[.pointer (some ⟨g5, 0, none⟩)]) :=
 ⟨(blk_cell h.bl 0).trans rfl, (blk_cell h.bl 1).trans rfl, (blk_cell h.bl 2).trans rfl, (blk_cell h.bl 3).trans rfl, (blk_cell h.bl 4).trans rfl, (blk_cell h.bl 5).trans rfl⟩
set_option maxRecDepth 100000 in
set_option maxHeartbeats 4000000 in
theorem ParseTour_calls (s : ByteArray) (rt : List (List Int)) (r1 r2 : Int) (w : World) (h : parseTour s = some (rt, r1, r2)) :
  Calls Tryz.prog 34 #[.string s] w fun e W' => ∃ v0, e = .returned (.tuple #[.agg #[v0], .agg #[.int .i64 r1, .int .i64 r2]]) ∧
   Kd.S (Kd.slice 3 (Kd.int .i64)) 38 W' w.heap.size (fun _ => True) v0 rt ∧ Below w.heap.size w W' := by
 unfold parseTour at h
 by_cases hs : s.size ≤ 90000
 rotate_left
 ·rw [if_neg hs] at h; exact absurd h (by simp)
 rw [if_pos hs] at h
 obtain ⟨L, hL, h⟩ := Option.bind_eq_some_iff.mp h
 have HL := Lib.hid hL
 have H := Lib.hid h
 have HK := Lib.hid hs
 clear hL h hs
 go_enter Tryz.func34, Tryz.ntmps34
 go_wp2_with (first
  | (go_at_call 47; refine (cursor_Rows.calls s L _ HL.out).mono ?_; rintro e W1 ⟨v1, rfl, hR1, hb1⟩; obtain ⟨A, c, rfl⟩ := Kd.R_slice hR1; have HZ : Hid (PZ w W1 A L) := Lib.hid ⟨(((Below.refl _ w).alloc (Nat.le_refl _) _).alloc (by simp) _).trans (hb1.mono (by simp; omega)), blk_below (blk_alloc (blk_new w _) _) hb1, blk_below (by have := blk_new (w.alloc (.cells #[.slice none 0 0] 70 (0, 0))) (.cells #[.int .i64 0, .int .i64 0] 41 (0, 0)); rw [show (w.alloc (.cells #[.slice none 0 0] 70 (0, 0))).heap.size = w.heap.size + 1 by simp] at this; exact this) hb1, (Kd.R_reads' hR1).2.2, by have := hb1.size; simp at this; omega⟩; clear hR1 hb1)
  | ((with_reducible refine gate_dst (N := 5) rfl ?_); refine box_ev (N := 5) (cs := #[.int .i64 0]) (t := 3) ?_; intro g5 hg W2 hbox hb; have h5 : W1.heap.size ≤ g5 := (by omega); have HB2 := Lib.hid hb; have HX2 := Lib.hid hbox; obtain ⟨z0, z1⟩ := bc1 hbox; have hg2 : g5 < W2.heap.size := blk_lt hbox; clear hbox hg hb)
  | ((with_reducible refine gate_store (t := 3) (p := 5) rfl ?_); refine store_ev (t := 3) (p := 5) (w1 := (W2.setCell ⟨g5, 0, none⟩ (.int .i64 0))) ?_; intro W3 hw; have HB3 : Hid (Below W1.heap.size W1 W3) := (by rw [hw]; exact (HB2.out.setCell (p := ⟨g5, 0, none⟩) h5 _)); have HX3 : Hid (W3.heap[g5]? = some (.cells #[.int .i64 0] 3 (0, 0))) := (by rw [hw]; exact blk_put HX2.out 0 _ rfl); have hg3 : g5 < W3.heap.size := (by rw [hw]; simpa [World.setCell] using hg2); clear hw HX2 HB2 z0 z1 hg2)
  | ((with_reducible refine gate_dst (N := 18) rfl ?_); refine lit_ev (N := 18) (n := 3) (cs := #[.string ⟨#[78, 65, 77, 69]⟩, .func (.func 66) #[] #[], .string ⟨#[84, 89, 80, 69]⟩, .func (.func 67) #[] #[], .string ⟨#[68, 73, 77, 69, 78, 83, 73, 79, 78]⟩, .func (.func 68) #[] #[.pointer (some ⟨g5, 0, none⟩)]]) (t := 124) ?_; intro gl hg W4 hbox hb; have HT : Hid (PT W1 W4 g5 gl 0) := Lib.hid ⟨HB3.out.trans (hb.mono HB3.out.size), blk_below HX3.out hb, hbox, h5, by omega, blk_lt hbox⟩; clear hbox hg hb HB3 HX3 hg3))
 go_loopg [21] 3 (fun k v21 wr => ∃ (i n : Int), v21 = .int .i64 i ∧ (3 : Int) - i ≤ k ∧ i ≤ (L.length : Int) ∧ Hid (PT W1 wr g5 gl n) ∧ (i = 0 ∧ Hid (look0 s L = some (rt, r1, r2)) ∨ i = 1 ∧ Hid (look1 s L = some (rt, r1, r2)) ∨ i = 2 ∧ Hid (look2 s L = some (rt, r1, r2)) ∨ i = 3 ∧ Hid (look3 s L n = some (rt, r1, r2)) ∧ Hid (0 ≤ n ∧ n ≤ 400)))
 case atStart => exact ⟨0, 0, rfl, by omega, by omega, HT, .inl ⟨rfl, H⟩⟩
 case round =>
  obtain ⟨i, n, rfl, hk, hiL, HT, ⟨rfl, HI⟩ | ⟨rfl, HI⟩ | ⟨rfl, HI⟩ | ⟨rfl, HI, HNN⟩⟩ := hrel
  ·cases hx : L[0]? with
   | none =>
    have hq : ((0 : Int) == (L.length : Int)) = true := by rw [beq_iff_eq]; have := List.getElem?_eq_none_iff.1 hx; omega
    have HE : Hid ((rt, r1, r2) = (([] : List (List Int)), (s.size : Int), (4 : Int))) := by have := HI.out; unfold look0 at this; rw [hx] at this; exact Lib.hid (Option.some.inj this).symm
    clear hx hk hiL HI
    obtain ⟨p0, p1, q0, q1, q2, q3, n0⟩ := PT.cells HZ.out HT.out
    obtain ⟨l0, l1, l2, l3, l4, l5⟩ := PT.looks HT.out
    go_wp2_with (first
     | ((with_reducible refine gate_dst (N := 8) rfl ?_); refine box_ev (N := 8) (cs := #[.string ⟨#[]⟩, .nilFunc]) (t := 124) ?_; intro g8 hg W6 hbox hb; have h8 : gl < g8 := (by have := HT.out.sz; omega); have h80 : wr.heap.size ≤ g8 := (by omega); have HB6 := Lib.hid hb; replace HT := Lib.hid (HT.out.step hb); have HX6 := Lib.hid hbox; obtain ⟨z0, z1, z2, z3⟩ := bc2 hbox; clear hbox hg hb)
     | ((with_reducible refine gate_store (t := 124) (p := 8) rfl ?_); refine store_ev (t := 124) (p := 8) (w1 := ((W6.setCell ⟨g8, 0, none⟩ (.string (⟨#[78, 65, 77, 69]⟩ : ByteArray))).setCell ⟨g8, 1, none⟩ (.func (.func 66) #[] #[]))) ?_; intro W7 hw; replace HT : Hid (PT W1 W7 g5 gl n) := (by rw [hw]; exact (HT.out.set8 h8 _ _)); have HX7 : Hid (W7.heap[g8]? = some (.cells #[.string (⟨#[78, 65, 77, 69]⟩ : ByteArray), (.func (.func 66) #[] #[])] 124 (0, 0))) := (by rw [hw]; exact blk_put (blk_put HX6.out 0 _ rfl) 1 _ rfl); clear hw HX6 HB6 z0 z1 z2 z3 l0 l1 l2 l3 l4 l5; obtain ⟨z0, z1, z2, z3⟩ := bc2 HX7.out; clear p0 p1 q0 q1 q2 q3 n0; obtain ⟨p0, p1, q0, q1, q2, q3, n0⟩ := PT.cells HZ.out HT.out)
     | (go_at_call 70; refine (wrong_calls _ _ _).mono ?_; rintro e W5 ⟨rfl, hb5⟩; replace HT := Lib.hid (HT.out.step hb5); clear hb5; clear p0 p1 q0 q1 q2 q3 n0; obtain ⟨p0, p1, q0, q1, q2, q3, n0⟩ := PT.cells HZ.out HT.out))
    go_wp2
    obtain ⟨rP, rD, rB⟩ := PT.res HZ.out HT.out (.slice none 0 0) (s.size : Int) 4
    have hE := HE.out
    simp only [Prod.mk.injEq] at hE
    obtain ⟨rfl, rfl, rfl⟩ := hE
    refine bodyPost_ret (results_list (rs := [.cell 2 70, .cell 3 41]) rfl (by simp) (.cell (w.heap.size) 70 _ (0, 0) _ rfl rP Tryz.underlying70 rfl (by kernel_rfl) (.cell (w.heap.size + 1) 41 _ (0, 0) _ rfl rD Tryz.underlying41 rfl (by kernel_rfl) .nil))) rfl ?_
    exact ⟨_, rfl, Kd.S_nil _ _ _ _ _, rB⟩
   | some x =>
    have hlt : 0 < L.length := (List.getElem?_eq_some_iff.1 hx).1
    have hlL : (1 : Int) ≤ (L.length : Int) := by omega
    have hq : ((0 : Int) == (L.length : Int)) = false := by rw [beq_eq_false_iff_ne]; omega
    obtain ⟨ad, eA, x0, x1, x2⟩ := at_T96 HZ.out.lines 0 (by decide) (by omega)
    subst eA
    rw [show rd_T96 L 0 = x by simp [rd_T96, hx]] at x0 x1 x2
    have e0 : ad.add (Int.toNat 0 * 3) = ad := by simp [Addr.add]
    rw [e0] at x0 x1 x2
    replace x1 : _root_.Go.World.cell? W1 ⟨ad.block, ad.off + 1, none⟩ = some (.int .i64 x.f1) := x1
    replace x2 : _root_.Go.World.cell? W1 ⟨ad.block, ad.off + 2, none⟩ = some (.int .i64 x.f2) := x2
    have hlI : (0 : Int) < (L.length : Int) := by omega
    have hI := HI.out
    unfold look0 at hI
    rw [hx] at hI
    obtain ⟨d, hd, hI⟩ := Option.bind_eq_some_iff.mp hI
    obtain ⟨k, s2, s3, s4, v, b, h1, h2, h3, rfl⟩ := kD_some hd
    clear hd
    obtain ⟨⟨da, db⟩, hD⟩ : ∃ D, keyD x.f0 k s2 (⟨#[78, 65, 77, 69]⟩ : ByteArray) b = D := ⟨_, rfl⟩
    rw [hD] at hI
    have H1 := Lib.hid h1
    have H2 := Lib.hid h2
    have H3 := Lib.hid h3
    have HD := Lib.hid hD
    have HI2 := Lib.hid hI
    clear hI h1 h2 h3 hD hx HI hiL e0
    obtain ⟨p0, p1, q0, q1, q2, q3, n0⟩ := PT.cells HZ.out HT.out
    obtain ⟨l0, l1, l2, l3, l4, l5⟩ := PT.looks HT.out
    go_upto_region 8 with (first
     | ((with_reducible refine gate_dst (N := 8) rfl ?_); refine box_ev (N := 8) (cs := #[.string ⟨#[]⟩, .nilFunc]) (t := 124) ?_; intro g8 hg W6 hbox hb; have h8 : gl < g8 := (by have := HT.out.sz; omega); have h80 : wr.heap.size ≤ g8 := (by omega); have HB6 := Lib.hid hb; replace HT := Lib.hid (HT.out.step hb); have HX6 := Lib.hid hbox; obtain ⟨z0, z1, z2, z3⟩ := bc2 hbox; clear hbox hg hb)
     | ((with_reducible refine gate_store (t := 124) (p := 8) rfl ?_); refine store_ev (t := 124) (p := 8) (w1 := ((W6.setCell ⟨g8, 0, none⟩ (.string (⟨#[78, 65, 77, 69]⟩ : ByteArray))).setCell ⟨g8, 1, none⟩ (.func (.func 66) #[] #[]))) ?_; intro W7 hw; replace HT : Hid (PT W1 W7 g5 gl n) := (by rw [hw]; exact (HT.out.set8 h8 _ _)); have HX7 : Hid (W7.heap[g8]? = some (.cells #[.string (⟨#[78, 65, 77, 69]⟩ : ByteArray), (.func (.func 66) #[] #[])] 124 (0, 0))) := (by rw [hw]; exact blk_put (blk_put HX6.out 0 _ rfl) 1 _ rfl); clear hw HX6 HB6 z0 z1 z2 z3 l0 l1 l2 l3 l4 l5; obtain ⟨z0, z1, z2, z3⟩ := bc2 HX7.out; clear p0 p1 q0 q1 q2 q3 n0; obtain ⟨p0, p1, q0, q1, q2, q3, n0⟩ := PT.cells HZ.out HT.out; have y0 := pw_cell_below HT.out.b1 x0; have y1 := pw_cell_below HT.out.b1 x1; have y2 := pw_cell_below HT.out.b1 x2; have HW := Lib.hid (Below.refl W7.heap.size W7)))
    go_cut [9] (fun v9 wc => ∃ g9 : Nat, v9 = .pointer (some ⟨g9, 0, none⟩) ∧ gl < g9 ∧ Hid (PT W1 wc g5 gl n) ∧ Hid (wc.heap[g9]? = some (.cells #[.int .i64 da, .int .i64 db] 41 (0, 0))))
    case first =>
     obtain ⟨a90, a91, a92, a93⟩ := all9
     have hg7 : gl < W7.heap.size := HT.out.sz
     go_region_held3 (fun W => W.cell? ad = some (.int .i64 x.f0) ∧ W.cell? ⟨ad.block, ad.off + 1, none⟩ = some (.int .i64 x.f1) ∧ W.cell? ⟨ad.block, ad.off + 2, none⟩ = some (.int .i64 x.f2) ∧ W.cell? ⟨g8, 0, none⟩ = some (.string (⟨#[78, 65, 77, 69]⟩ : ByteArray)) ∧ W.cell? ⟨g8, 1, none⟩ = some (.func (.func 66) #[] #[]) ∧ Below W7.heap.size W7 W) (exact keep8 y0 y1 y2 z0 z1 qup) (first | (go_at_call 71; first | (refine (at9 W7.heap.size (by first | exact blk_new W7 _ | exact blk_new W7.drew _) (keyed_nam s x.f0 x.f1 x.f2 _ k s2 s3 s4 H1.out v H2.out b H3.out _)).mono ?_; rw [HD.out]; rintro e W8 ⟨rfl, hb8, k90, k91, k92, k93, k94⟩) | (refine (keyed_nam s x.f0 x.f1 x.f2 _ k s2 s3 s4 H1.out v H2.out b H3.out _).mono ?_; rw [HD.out]; rintro e W8 ⟨rfl, hb8⟩)))
     ·go_wp2
      go_meet
      case rel => exact ⟨_, rfl, Nat.lt_of_lt_of_le hg7 (Below.size (w := W7) (B := W7.heap.size) qup), Lib.hid (HT.out.step qup), Lib.hid (blk_new W8 _)⟩
     ·go_wp2
      go_meet
      case rel => exact ⟨_, rfl, hg7, Lib.hid (HT.out.step qup), Lib.hid (blk_put (blk_put k94.out 0 _ rfl) 1 _ rfl)⟩
    case rest =>
     obtain ⟨g9, rfl, h9, HT, HX9⟩ := hcut
     obtain ⟨z0, z1, z2, z3⟩ := bc2 HX9.out
     obtain ⟨p0, p1, q0, q1, q2, q3, n0⟩ := PT.cells HZ.out HT.out
     have g91 : w.heap.size + 1 < g9 := by have := HZ.out.sz; have := HT.out.h5; have := HT.out.hl; omega
     have g92 : ¬ g9 = w.heap.size := by omega
     have g93 : ¬ g9 = w.heap.size + 1 := by omega
     have g94 : ¬ w.heap.size = g9 := by omega
     have g95 : ¬ w.heap.size + 1 = g9 := by omega
     by_cases hdb : db = 0
     ·have hz : (db == 0) = true := by rw [hdb]; rfl
      have HN : Hid (look1 s L = some (rt, r1, r2)) := Lib.hid (by have := HI2.out; rw [if_pos hdb] at this; exact this)
      clear hdb HI2
      go_wp2
      go_roundg 2
      case measure => omega
      case rel => exact ⟨1, n, rfl, by omega, hlL, HT, .inr (.inl ⟨rfl, HN⟩)⟩
     ·have hz : (db == 0) = false := by rw [beq_eq_false_iff_ne]; exact hdb
      have HE : Hid ((rt, r1, r2) = (([] : List (List Int)), da, db)) := Lib.hid (by have := HI2.out; rw [if_neg hdb] at this; exact (Option.some.inj this).symm)
      clear hdb HI2
      go_wp2
      go_region
      go_wp2
      obtain ⟨rP, rD, rB⟩ := PT.res HZ.out HT.out (.slice none 0 0) da db
      have hE := HE.out
      simp only [Prod.mk.injEq] at hE
      obtain ⟨rfl, rfl, rfl⟩ := hE
      refine bodyPost_ret (results_list (rs := [.cell 2 70, .cell 3 41]) rfl (by simp) (.cell (w.heap.size) 70 _ (0, 0) _ rfl rP Tryz.underlying70 rfl (by kernel_rfl) (.cell (w.heap.size + 1) 41 _ (0, 0) _ rfl rD Tryz.underlying41 rfl (by kernel_rfl) .nil))) rfl ?_
      exact ⟨_, rfl, Kd.S_nil _ _ _ _ _, below_drew1 rB⟩
  ·cases hx : L[1]? with
   | none =>
    have hq : ((1 : Int) == (L.length : Int)) = true := by rw [beq_iff_eq]; have := List.getElem?_eq_none_iff.1 hx; omega
    have HE : Hid ((rt, r1, r2) = (([] : List (List Int)), (s.size : Int), (4 : Int))) := by have := HI.out; unfold look1 at this; rw [hx] at this; exact Lib.hid (Option.some.inj this).symm
    clear hx hk hiL HI
    obtain ⟨p0, p1, q0, q1, q2, q3, n0⟩ := PT.cells HZ.out HT.out
    obtain ⟨l0, l1, l2, l3, l4, l5⟩ := PT.looks HT.out
    go_wp2_with (first
     | ((with_reducible refine gate_dst (N := 8) rfl ?_); refine box_ev (N := 8) (cs := #[.string ⟨#[]⟩, .nilFunc]) (t := 124) ?_; intro g8 hg W6 hbox hb; have h8 : gl < g8 := (by have := HT.out.sz; omega); have h80 : wr.heap.size ≤ g8 := (by omega); have HB6 := Lib.hid hb; replace HT := Lib.hid (HT.out.step hb); have HX6 := Lib.hid hbox; obtain ⟨z0, z1, z2, z3⟩ := bc2 hbox; clear hbox hg hb)
     | ((with_reducible refine gate_store (t := 124) (p := 8) rfl ?_); refine store_ev (t := 124) (p := 8) (w1 := ((W6.setCell ⟨g8, 0, none⟩ (.string (⟨#[84, 89, 80, 69]⟩ : ByteArray))).setCell ⟨g8, 1, none⟩ (.func (.func 67) #[] #[]))) ?_; intro W7 hw; replace HT : Hid (PT W1 W7 g5 gl n) := (by rw [hw]; exact (HT.out.set8 h8 _ _)); have HX7 : Hid (W7.heap[g8]? = some (.cells #[.string (⟨#[84, 89, 80, 69]⟩ : ByteArray), (.func (.func 67) #[] #[])] 124 (0, 0))) := (by rw [hw]; exact blk_put (blk_put HX6.out 0 _ rfl) 1 _ rfl); clear hw HX6 HB6 z0 z1 z2 z3 l0 l1 l2 l3 l4 l5; obtain ⟨z0, z1, z2, z3⟩ := bc2 HX7.out; clear p0 p1 q0 q1 q2 q3 n0; obtain ⟨p0, p1, q0, q1, q2, q3, n0⟩ := PT.cells HZ.out HT.out)
     | (go_at_call 70; refine (wrong_calls _ _ _).mono ?_; rintro e W5 ⟨rfl, hb5⟩; replace HT := Lib.hid (HT.out.step hb5); clear hb5; clear p0 p1 q0 q1 q2 q3 n0; obtain ⟨p0, p1, q0, q1, q2, q3, n0⟩ := PT.cells HZ.out HT.out))
    go_wp2
    obtain ⟨rP, rD, rB⟩ := PT.res HZ.out HT.out (.slice none 0 0) (s.size : Int) 4
    have hE := HE.out
    simp only [Prod.mk.injEq] at hE
    obtain ⟨rfl, rfl, rfl⟩ := hE
    refine bodyPost_ret (results_list (rs := [.cell 2 70, .cell 3 41]) rfl (by simp) (.cell (w.heap.size) 70 _ (0, 0) _ rfl rP Tryz.underlying70 rfl (by kernel_rfl) (.cell (w.heap.size + 1) 41 _ (0, 0) _ rfl rD Tryz.underlying41 rfl (by kernel_rfl) .nil))) rfl ?_
    exact ⟨_, rfl, Kd.S_nil _ _ _ _ _, rB⟩
   | some x =>
    have hlt : 1 < L.length := (List.getElem?_eq_some_iff.1 hx).1
    have hlL : (2 : Int) ≤ (L.length : Int) := by omega
    have hq : ((1 : Int) == (L.length : Int)) = false := by rw [beq_eq_false_iff_ne]; omega
    obtain ⟨ad, eA, x0, x1, x2⟩ := at_T96 HZ.out.lines 1 (by decide) (by omega)
    subst eA
    rw [show rd_T96 L 1 = x by simp [rd_T96, hx]] at x0 x1 x2
    have e0 : ad.add (Int.toNat 1 * 3) = (⟨ad.block, ad.off + 3, none⟩ : Addr) := by simp [Addr.add]
    rw [e0] at x0 x1 x2
    replace x1 : _root_.Go.World.cell? W1 ⟨ad.block, ad.off + 3 + 1, none⟩ = some (.int .i64 x.f1) := x1
    replace x2 : _root_.Go.World.cell? W1 ⟨ad.block, ad.off + 3 + 2, none⟩ = some (.int .i64 x.f2) := x2
    have hlI : (1 : Int) < (L.length : Int) := by omega
    have hI := HI.out
    unfold look1 at hI
    rw [hx] at hI
    obtain ⟨d, hd, hI⟩ := Option.bind_eq_some_iff.mp hI
    obtain ⟨k, s2, s3, s4, v, b, h1, h2, h3, rfl⟩ := kD_some hd
    clear hd
    obtain ⟨⟨da, db⟩, hD⟩ : ∃ D, keyD x.f0 k s2 (⟨#[84, 89, 80, 69]⟩ : ByteArray) b = D := ⟨_, rfl⟩
    rw [hD] at hI
    have H1 := Lib.hid h1
    have H2 := Lib.hid h2
    have H3 := Lib.hid h3
    have HD := Lib.hid hD
    have HI2 := Lib.hid hI
    clear hI h1 h2 h3 hD hx HI hiL e0
    obtain ⟨p0, p1, q0, q1, q2, q3, n0⟩ := PT.cells HZ.out HT.out
    obtain ⟨l0, l1, l2, l3, l4, l5⟩ := PT.looks HT.out
    go_upto_region 8 with (first
     | ((with_reducible refine gate_dst (N := 8) rfl ?_); refine box_ev (N := 8) (cs := #[.string ⟨#[]⟩, .nilFunc]) (t := 124) ?_; intro g8 hg W6 hbox hb; have h8 : gl < g8 := (by have := HT.out.sz; omega); have h80 : wr.heap.size ≤ g8 := (by omega); have HB6 := Lib.hid hb; replace HT := Lib.hid (HT.out.step hb); have HX6 := Lib.hid hbox; obtain ⟨z0, z1, z2, z3⟩ := bc2 hbox; clear hbox hg hb)
     | ((with_reducible refine gate_store (t := 124) (p := 8) rfl ?_); refine store_ev (t := 124) (p := 8) (w1 := ((W6.setCell ⟨g8, 0, none⟩ (.string (⟨#[84, 89, 80, 69]⟩ : ByteArray))).setCell ⟨g8, 1, none⟩ (.func (.func 67) #[] #[]))) ?_; intro W7 hw; replace HT : Hid (PT W1 W7 g5 gl n) := (by rw [hw]; exact (HT.out.set8 h8 _ _)); have HX7 : Hid (W7.heap[g8]? = some (.cells #[.string (⟨#[84, 89, 80, 69]⟩ : ByteArray), (.func (.func 67) #[] #[])] 124 (0, 0))) := (by rw [hw]; exact blk_put (blk_put HX6.out 0 _ rfl) 1 _ rfl); clear hw HX6 HB6 z0 z1 z2 z3 l0 l1 l2 l3 l4 l5; obtain ⟨z0, z1, z2, z3⟩ := bc2 HX7.out; clear p0 p1 q0 q1 q2 q3 n0; obtain ⟨p0, p1, q0, q1, q2, q3, n0⟩ := PT.cells HZ.out HT.out; have y0 := pw_cell_below HT.out.b1 x0; have y1 := pw_cell_below HT.out.b1 x1; have y2 := pw_cell_below HT.out.b1 x2; have HW := Lib.hid (Below.refl W7.heap.size W7)))
    go_cut [9] (fun v9 wc => ∃ g9 : Nat, v9 = .pointer (some ⟨g9, 0, none⟩) ∧ gl < g9 ∧ Hid (PT W1 wc g5 gl n) ∧ Hid (wc.heap[g9]? = some (.cells #[.int .i64 da, .int .i64 db] 41 (0, 0))))
    case first =>
     obtain ⟨a90, a91, a92, a93⟩ := all9
     have hg7 : gl < W7.heap.size := HT.out.sz
     go_region_held3 (fun W => W.cell? (⟨ad.block, ad.off + 3, none⟩ : Addr) = some (.int .i64 x.f0) ∧ W.cell? ⟨ad.block, ad.off + 3 + 1, none⟩ = some (.int .i64 x.f1) ∧ W.cell? ⟨ad.block, ad.off + 3 + 2, none⟩ = some (.int .i64 x.f2) ∧ W.cell? ⟨g8, 0, none⟩ = some (.string (⟨#[84, 89, 80, 69]⟩ : ByteArray)) ∧ W.cell? ⟨g8, 1, none⟩ = some (.func (.func 67) #[] #[]) ∧ Below W7.heap.size W7 W) (exact keep8 y0 y1 y2 z0 z1 qup) (first | (go_at_call 71; first | (refine (at9 W7.heap.size (by first | exact blk_new W7 _ | exact blk_new W7.drew _) (keyed_typ s x.f0 x.f1 x.f2 _ k s2 s3 s4 H1.out v H2.out b H3.out _)).mono ?_; rw [HD.out]; rintro e W8 ⟨rfl, hb8, k90, k91, k92, k93, k94⟩) | (refine (keyed_typ s x.f0 x.f1 x.f2 _ k s2 s3 s4 H1.out v H2.out b H3.out _).mono ?_; rw [HD.out]; rintro e W8 ⟨rfl, hb8⟩)))
     ·go_wp2
      go_meet
      case rel => exact ⟨_, rfl, Nat.lt_of_lt_of_le hg7 (Below.size (w := W7) (B := W7.heap.size) qup), Lib.hid (HT.out.step qup), Lib.hid (blk_new W8 _)⟩
     ·go_wp2
      go_meet
      case rel => exact ⟨_, rfl, hg7, Lib.hid (HT.out.step qup), Lib.hid (blk_put (blk_put k94.out 0 _ rfl) 1 _ rfl)⟩
    case rest =>
     obtain ⟨g9, rfl, h9, HT, HX9⟩ := hcut
     obtain ⟨z0, z1, z2, z3⟩ := bc2 HX9.out
     obtain ⟨p0, p1, q0, q1, q2, q3, n0⟩ := PT.cells HZ.out HT.out
     have g91 : w.heap.size + 1 < g9 := by have := HZ.out.sz; have := HT.out.h5; have := HT.out.hl; omega
     have g92 : ¬ g9 = w.heap.size := by omega
     have g93 : ¬ g9 = w.heap.size + 1 := by omega
     have g94 : ¬ w.heap.size = g9 := by omega
     have g95 : ¬ w.heap.size + 1 = g9 := by omega
     by_cases hdb : db = 0
     ·have hz : (db == 0) = true := by rw [hdb]; rfl
      have HN : Hid (look2 s L = some (rt, r1, r2)) := Lib.hid (by have := HI2.out; rw [if_pos hdb] at this; exact this)
      clear hdb HI2
      go_wp2
      go_roundg 1
      case measure => omega
      case rel => exact ⟨2, n, rfl, by omega, hlL, HT, .inr (.inr (.inl ⟨rfl, HN⟩))⟩
     ·have hz : (db == 0) = false := by rw [beq_eq_false_iff_ne]; exact hdb
      have HE : Hid ((rt, r1, r2) = (([] : List (List Int)), da, db)) := Lib.hid (by have := HI2.out; rw [if_neg hdb] at this; exact (Option.some.inj this).symm)
      clear hdb HI2
      go_wp2
      go_region
      go_wp2
      obtain ⟨rP, rD, rB⟩ := PT.res HZ.out HT.out (.slice none 0 0) da db
      have hE := HE.out
      simp only [Prod.mk.injEq] at hE
      obtain ⟨rfl, rfl, rfl⟩ := hE
      refine bodyPost_ret (results_list (rs := [.cell 2 70, .cell 3 41]) rfl (by simp) (.cell (w.heap.size) 70 _ (0, 0) _ rfl rP Tryz.underlying70 rfl (by kernel_rfl) (.cell (w.heap.size + 1) 41 _ (0, 0) _ rfl rD Tryz.underlying41 rfl (by kernel_rfl) .nil))) rfl ?_
      exact ⟨_, rfl, Kd.S_nil _ _ _ _ _, below_drew1 rB⟩
  ·cases hx : L[2]? with
   | none =>
    have hq : ((2 : Int) == (L.length : Int)) = true := by rw [beq_iff_eq]; have := List.getElem?_eq_none_iff.1 hx; omega
    have HE : Hid ((rt, r1, r2) = (([] : List (List Int)), (s.size : Int), (4 : Int))) := by have := HI.out; unfold look2 at this; rw [hx] at this; exact Lib.hid (Option.some.inj this).symm
    clear hx hk hiL HI
    obtain ⟨p0, p1, q0, q1, q2, q3, n0⟩ := PT.cells HZ.out HT.out
    obtain ⟨l0, l1, l2, l3, l4, l5⟩ := PT.looks HT.out
    go_wp2_with (first
     | ((with_reducible refine gate_dst (N := 8) rfl ?_); refine box_ev (N := 8) (cs := #[.string ⟨#[]⟩, .nilFunc]) (t := 124) ?_; intro g8 hg W6 hbox hb; have h8 : gl < g8 := (by have := HT.out.sz; omega); have h80 : wr.heap.size ≤ g8 := (by omega); have HB6 := Lib.hid hb; replace HT := Lib.hid (HT.out.step hb); have HX6 := Lib.hid hbox; obtain ⟨z0, z1, z2, z3⟩ := bc2 hbox; clear hbox hg hb)
     | ((with_reducible refine gate_store (t := 124) (p := 8) rfl ?_); refine store_ev (t := 124) (p := 8) (w1 := ((W6.setCell ⟨g8, 0, none⟩ (.string (⟨#[68, 73, 77, 69, 78, 83, 73, 79, 78]⟩ : ByteArray))).setCell ⟨g8, 1, none⟩ (.func (.func 68) #[] #[.pointer (some ⟨g5, 0, none⟩)]))) ?_; intro W7 hw; replace HT : Hid (PT W1 W7 g5 gl n) := (by rw [hw]; exact (HT.out.set8 h8 _ _)); have HX7 : Hid (W7.heap[g8]? = some (.cells #[.string (⟨#[68, 73, 77, 69, 78, 83, 73, 79, 78]⟩ : ByteArray), (.func (.func 68) #[] #[.pointer (some ⟨g5, 0, none⟩)])] 124 (0, 0))) := (by rw [hw]; exact blk_put (blk_put HX6.out 0 _ rfl) 1 _ rfl); clear hw HX6 HB6 z0 z1 z2 z3 l0 l1 l2 l3 l4 l5; obtain ⟨z0, z1, z2, z3⟩ := bc2 HX7.out; clear p0 p1 q0 q1 q2 q3 n0; obtain ⟨p0, p1, q0, q1, q2, q3, n0⟩ := PT.cells HZ.out HT.out)
     | (go_at_call 70; refine (wrong_calls _ _ _).mono ?_; rintro e W5 ⟨rfl, hb5⟩; replace HT := Lib.hid (HT.out.step hb5); clear hb5; clear p0 p1 q0 q1 q2 q3 n0; obtain ⟨p0, p1, q0, q1, q2, q3, n0⟩ := PT.cells HZ.out HT.out))
    go_wp2
    obtain ⟨rP, rD, rB⟩ := PT.res HZ.out HT.out (.slice none 0 0) (s.size : Int) 4
    have hE := HE.out
    simp only [Prod.mk.injEq] at hE
    obtain ⟨rfl, rfl, rfl⟩ := hE
    refine bodyPost_ret (results_list (rs := [.cell 2 70, .cell 3 41]) rfl (by simp) (.cell (w.heap.size) 70 _ (0, 0) _ rfl rP Tryz.underlying70 rfl (by kernel_rfl) (.cell (w.heap.size + 1) 41 _ (0, 0) _ rfl rD Tryz.underlying41 rfl (by kernel_rfl) .nil))) rfl ?_
    exact ⟨_, rfl, Kd.S_nil _ _ _ _ _, rB⟩
   | some x =>
    have hlt : 2 < L.length := (List.getElem?_eq_some_iff.1 hx).1
    have hlL : (3 : Int) ≤ (L.length : Int) := by omega
    have hq : ((2 : Int) == (L.length : Int)) = false := by rw [beq_eq_false_iff_ne]; omega
    obtain ⟨ad, eA, x0, x1, x2⟩ := at_T96 HZ.out.lines 2 (by decide) (by omega)
    subst eA
    rw [show rd_T96 L 2 = x by simp [rd_T96, hx]] at x0 x1 x2
    have e0 : ad.add (Int.toNat 2 * 3) = (⟨ad.block, ad.off + 6, none⟩ : Addr) := by simp [Addr.add]
    rw [e0] at x0 x1 x2
    replace x1 : _root_.Go.World.cell? W1 ⟨ad.block, ad.off + 6 + 1, none⟩ = some (.int .i64 x.f1) := x1
    replace x2 : _root_.Go.World.cell? W1 ⟨ad.block, ad.off + 6 + 2, none⟩ = some (.int .i64 x.f2) := x2
    have hlI : (2 : Int) < (L.length : Int) := by omega
    have hI := HI.out
    unfold look2 at hI
    rw [hx] at hI
    obtain ⟨⟨k, s2, s3, s4⟩, h1, hI⟩ := Option.bind_eq_some_iff.mp hI
    obtain ⟨v, h2, hI⟩ := Option.bind_eq_some_iff.mp hI
    obtain ⟨m, h3, hI⟩ := Option.bind_eq_some_iff.mp hI
    obtain ⟨⟨da, db⟩, hD⟩ : ∃ D, keyD x.f0 k s2 (⟨#[68, 73, 77, 69, 78, 83, 73, 79, 78]⟩ : ByteArray) (decide (0 < m)) = D := ⟨_, rfl⟩
    simp only at hI
    rw [hD] at hI
    have H1 := Lib.hid h1
    have H2 := Lib.hid h2
    have H3 := Lib.hid h3
    have HD := Lib.hid hD
    have HI2 := Lib.hid hI
    clear hI h1 h2 h3 hD hx HI hiL e0
    obtain ⟨p0, p1, q0, q1, q2, q3, n0⟩ := PT.cells HZ.out HT.out
    obtain ⟨l0, l1, l2, l3, l4, l5⟩ := PT.looks HT.out
    go_upto_region 8 with (first
     | ((with_reducible refine gate_dst (N := 8) rfl ?_); refine box_ev (N := 8) (cs := #[.string ⟨#[]⟩, .nilFunc]) (t := 124) ?_; intro g8 hg W6 hbox hb; have h8 : gl < g8 := (by have := HT.out.sz; omega); have h80 : wr.heap.size ≤ g8 := (by omega); have HB6 := Lib.hid hb; replace HT := Lib.hid (HT.out.step hb); have HX6 := Lib.hid hbox; obtain ⟨z0, z1, z2, z3⟩ := bc2 hbox; clear hbox hg hb)
     | ((with_reducible refine gate_store (t := 124) (p := 8) rfl ?_); refine store_ev (t := 124) (p := 8) (w1 := ((W6.setCell ⟨g8, 0, none⟩ (.string (⟨#[68, 73, 77, 69, 78, 83, 73, 79, 78]⟩ : ByteArray))).setCell ⟨g8, 1, none⟩ (.func (.func 68) #[] #[.pointer (some ⟨g5, 0, none⟩)]))) ?_; intro W7 hw; replace HT : Hid (PT W1 W7 g5 gl n) := (by rw [hw]; exact (HT.out.set8 h8 _ _)); have HX7 : Hid (W7.heap[g8]? = some (.cells #[.string (⟨#[68, 73, 77, 69, 78, 83, 73, 79, 78]⟩ : ByteArray), (.func (.func 68) #[] #[.pointer (some ⟨g5, 0, none⟩)])] 124 (0, 0))) := (by rw [hw]; exact blk_put (blk_put HX6.out 0 _ rfl) 1 _ rfl); clear hw HX6 HB6 z0 z1 z2 z3 l0 l1 l2 l3 l4 l5; obtain ⟨z0, z1, z2, z3⟩ := bc2 HX7.out; clear p0 p1 q0 q1 q2 q3 n0; obtain ⟨p0, p1, q0, q1, q2, q3, n0⟩ := PT.cells HZ.out HT.out; have y0 := pw_cell_below HT.out.b1 x0; have y1 := pw_cell_below HT.out.b1 x1; have y2 := pw_cell_below HT.out.b1 x2; have HW := Lib.hid (Below.refl W7.heap.size W7)))
    go_cut [9] (fun v9 wc => ∃ g9 : Nat, v9 = .pointer (some ⟨g9, 0, none⟩) ∧ gl < g9 ∧ Hid (PT W1 wc g5 gl (if k.toList = (⟨#[68, 73, 77, 69, 78, 83, 73, 79, 78]⟩ : ByteArray).toList then m else n)) ∧ Hid (wc.heap[g9]? = some (.cells #[.int .i64 da, .int .i64 db] 41 (0, 0))))
    case first =>
     have hg57 : g5 < W7.heap.size := Nat.lt_trans HT.out.hl HT.out.sz
     have hne1 : ad.block ≠ g5 := by have := World.block_lt_of_cell? W1 _ x0; have := HT.out.h5; simp only at *; omega
     have hne2 : g8 ≠ g5 := by have := HT.out.hl; omega
     obtain ⟨a90, a91, a92, a93⟩ := all9
     have hg7 : gl < W7.heap.size := HT.out.sz
     go_region_held3 (fun W => W.cell? (⟨ad.block, ad.off + 6, none⟩ : Addr) = some (.int .i64 x.f0) ∧ W.cell? ⟨ad.block, ad.off + 6 + 1, none⟩ = some (.int .i64 x.f1) ∧ W.cell? ⟨ad.block, ad.off + 6 + 2, none⟩ = some (.int .i64 x.f2) ∧ W.cell? ⟨g8, 0, none⟩ = some (.string (⟨#[68, 73, 77, 69, 78, 83, 73, 79, 78]⟩ : ByteArray)) ∧ W.cell? ⟨g8, 1, none⟩ = some (.func (.func 68) #[] #[.pointer (some ⟨g5, 0, none⟩)]) ∧ B5 g5 W7 W) (exact keep8d hne1 hne1 hne1 hne2 hne2 y0 y1 y2 z0 z1 qup5) (first | (go_at_call 71; first | (refine (at9d W7.heap.size hg57 (by first | exact blk_new W7 _ | exact blk_new W7.drew _) (keyed5 (HT.out.step qup) s x.f0 x.f1 x.f2 _ k s2 s3 s4 H1.out v H2.out m H3.out _ HD.out)).mono ?_; rintro e W8 ⟨rfl, ⟨hb8, k95⟩, k90, k91, k92, k93, k94⟩) | (refine (keyed5 (HT.out.step qup) s x.f0 x.f1 x.f2 _ k s2 s3 s4 H1.out v H2.out m H3.out _ HD.out).mono ?_; rintro e W8 ⟨rfl, hb8, k95⟩)))
     ·go_wp2
      go_meet
      case rel => exact ⟨_, rfl, Nat.lt_of_lt_of_le hg7 (B5.size (g5 := g5) (w := W7) qup5), Lib.hid (HT.out.five qup5 (blk_alloc k95.out _)), Lib.hid (blk_new W8 _)⟩
     ·go_wp2
      go_meet
      case rel => exact ⟨_, rfl, hg7, Lib.hid (HT.out.five qup5 ((Below.heap_setCell _ _ _ _ (by show g5 ≠ W7.heap.size; omega)).trans ((Below.heap_setCell _ _ _ _ (by show g5 ≠ W7.heap.size; omega)).trans k95.out))), Lib.hid (blk_put (blk_put k94.out 0 _ rfl) 1 _ rfl)⟩
    case rest =>
     obtain ⟨g9, rfl, h9, HT, HX9⟩ := hcut
     obtain ⟨z0, z1, z2, z3⟩ := bc2 HX9.out
     obtain ⟨p0, p1, q0, q1, q2, q3, n0⟩ := PT.cells HZ.out HT.out
     have g91 : w.heap.size + 1 < g9 := by have := HZ.out.sz; have := HT.out.h5; have := HT.out.hl; omega
     have g92 : ¬ g9 = w.heap.size := by omega
     have g93 : ¬ g9 = w.heap.size + 1 := by omega
     have g94 : ¬ w.heap.size = g9 := by omega
     have g95 : ¬ w.heap.size + 1 = g9 := by omega
     by_cases hdb : db = 0
     ·have hz : (db == 0) = true := by rw [hdb]; rfl
      have HN : Hid (look3 s L m = some (rt, r1, r2)) := Lib.hid (by have := HI2.out; rw [if_pos hdb] at this; exact this)
      have hkk : k.toList = (⟨#[68, 73, 77, 69, 78, 83, 73, 79, 78]⟩ : ByteArray).toList := by have := HD.out; unfold keyD at this; split at this; assumption; rw [hdb] at this; cases this
      rw [if_pos hkk] at HT
      clear hkk
      clear hdb HI2
      go_wp2
      go_roundg 0
      case measure => omega
      case rel => exact ⟨3, m, rfl, by omega, hlL, HT, .inr (.inr (.inr ⟨rfl, HN, Lib.hid (dim_le H3.out)⟩))⟩
     ·have hz : (db == 0) = false := by rw [beq_eq_false_iff_ne]; exact hdb
      have HE : Hid ((rt, r1, r2) = (([] : List (List Int)), da, db)) := Lib.hid (by have := HI2.out; rw [if_neg hdb] at this; exact (Option.some.inj this).symm)
      clear hdb HI2
      go_wp2
      go_region
      go_wp2
      obtain ⟨rP, rD, rB⟩ := PT.res HZ.out HT.out (.slice none 0 0) da db
      have hE := HE.out
      simp only [Prod.mk.injEq] at hE
      obtain ⟨rfl, rfl, rfl⟩ := hE
      refine bodyPost_ret (results_list (rs := [.cell 2 70, .cell 3 41]) rfl (by simp) (.cell (w.heap.size) 70 _ (0, 0) _ rfl rP Tryz.underlying70 rfl (by kernel_rfl) (.cell (w.heap.size + 1) 41 _ (0, 0) _ rfl rD Tryz.underlying41 rfl (by kernel_rfl) .nil))) rfl ?_
      exact ⟨_, rfl, Kd.S_nil _ _ _ _ _, below_drew1 rB⟩
  ·cases hx : L[2]? with
   | none => have hI := HI.out; unfold look3 at hI; rw [hx] at hI; exact absurd hI (by simp)
   | some x =>
    have hlt : 2 < L.length := (List.getElem?_eq_some_iff.1 hx).1
    have hI := HI.out
    unfold look3 at hI
    rw [hx] at hI
    obtain ⟨R, hR, hI⟩ := Option.bind_eq_some_iff.mp hI
    have hRe : R = shR s.data.toList x.f2 := by
     have := Rows_sheet s (by have := HK.out; omega) x.f2 100002 (by have := HK.out; omega)
     rw [hR] at this
     exact Option.some.inj this
    have hL : s.data.toList.length = s.size := rfl
    have hRw : Hid (∀ y ∈ R, y.f1.length ≤ 100000) := Lib.hid fun y hy => by
     have := shR_words s.data.toList x.f2 y (by rw [← hRe]; exact hy)
     have := HK.out
     omega
    have hRl : R.length < 1000000 := by
     have := shR_len s.data.toList x.f2
     have := HK.out
     rw [hRe]
     omega
    clear hRe hL
    obtain ⟨ad, eA, x0, x1, x2⟩ := at_T96 HZ.out.lines 2 (by decide) (by omega)
    subst eA
    rw [show rd_T96 L 2 = x by simp [rd_T96, hx]] at x2
    have e0 : ad.add (Int.toNat 2 * 3) = (⟨ad.block, ad.off + 6, none⟩ : Addr) := by simp [Addr.add]
    rw [e0] at x2
    replace x2 : World.cell? W1 ⟨ad.block, ad.off + 6 + 2, none⟩ = some (.int .i64 x.f2) := x2
    have hlI : (2 : Int) < (L.length : Int) := by omega
    have HR := Lib.hid hR
    obtain ⟨⟨rl, d1, d2⟩, hS⟩ : ∃ S, stopsS s n R = S := ⟨_, rfl⟩
    rw [hS] at hI
    have HS := Lib.hid hS
    have HI2 := Lib.hid hI
    have x3 := pw_cell_below HT.out.b1 x2
    clear hI hR hx HI hiL e0 x0 x1 x2 hS
    obtain ⟨p0, p1, q0, q1, q2, q3, n0⟩ := PT.cells HZ.out HT.out
    go_upto_region 12 with (fail)
    obtain ⟨a90, a91, a92, a93⟩ := all9
    have hgl7 : gl < wr.heap.size := HT.out.sz
    have hww : w.heap.size ≤ wr.heap.size := Nat.le_trans HZ.out.bel.size HT.out.b1.size
    go_cut [10, 11] (fun v10 v11 wc => ∃ (A6 : Option Addr) (c6 g11 : Nat), v10 = .slice A6 rl.length c6 ∧ v11 = .pointer (some ⟨g11, 0, none⟩) ∧ gl < g11 ∧ Hid (PT W1 wc g5 gl n) ∧ Hid (wc.heap[g11]? = some (.cells #[.int .i64 d1, .int .i64 d2] 41 (0, 0))) ∧ Hid (Kd.R (Kd.int .i64) 3 wc w.heap.size (fun _ => True) (.slice A6 rl.length c6) rl))
    case first =>
     go_region_held3 (fun W => W.cell? ⟨ad.block, ad.off + 6 + 2, none⟩ = some (.int .i64 x.f2) ∧ W.cell? ⟨g5, 0, none⟩ = some (.int .i64 n) ∧ Below wr.heap.size wr W) (exact keep2 x3 n0 qup) (first | (go_at_call 15; first | (refine (at9e wr.heap.size (by first | exact blk_new wr _ | exact blk_new wr.drew _) (rows_calls 100002 s x.f2 R _ HR.out)).mono ?_; rintro e W8 ⟨⟨⟨A2, c2, rfl, hc8, hC8⟩, hb8⟩, k90, k91, k92, k93, k94⟩) | (refine (rows_calls 100002 s x.f2 R _ HR.out).mono ?_; rintro e W8 ⟨⟨A2, c2, rfl, hc8, hC8⟩, hb8⟩)) | (go_at_call 72; first | (refine (at9e wr.heap.size k94.out (stops_calls2 s HK.out R hRw.out hRl A2 c2 n HNN.out _ (Kd.C_below hC8.out qup) hc8 _ HS.out)).mono ?_; rintro e W9 ⟨⟨⟨A6, c6, rfl, hR9⟩, hb9⟩, m90, m91, m92, m93, m94⟩) | (refine (at9e W8.heap.size (blk_new W8 _) (stops_calls2 s HK.out R hRw.out hRl A2 c2 n HNN.out _ (Kd.C_below hC8.out qup) hc8 _ HS.out)).mono ?_; rintro e W9 ⟨⟨⟨A6, c6, rfl, hR9⟩, hb9⟩, m90, m91, m92, m93, m94⟩) | (refine (stops_calls2 s HK.out R hRw.out hRl A2 c2 n HNN.out _ (Kd.C_below hC8.out qup) hc8 _ HS.out).mono ?_; rintro e W9 ⟨⟨A6, c6, rfl, hR9⟩, hb9⟩)))
     ·go_wp2
      go_meet
      case rel => exact ⟨_, _, _, rfl, rfl, Nat.lt_of_lt_of_le hgl7 (Below.size (w := wr) (B := wr.heap.size) qup), Lib.hid (HT.out.step qup), Lib.hid (blk_new W9 _), Lib.hid (Kd.R_below (Kd.R_lower hR9.out (Nat.le_trans hww (Below.size (B := wr.heap.size) qup))) (below_alloc (Below.refl _ _) _))⟩
     ·go_wp2
      go_meet
      case rel => exact ⟨_, _, _, rfl, rfl, Nat.lt_of_lt_of_le hgl7 (Below.size (w := wr) (B := wr.heap.size) qup), Lib.hid (HT.out.step qup), Lib.hid (blk_put (blk_put m94.out 0 _ rfl) 1 _ rfl), Lib.hid (R_put (R_put (Kd.R_lower hR9.out (Nat.le_trans hww (Below.size (B := wr.heap.size) qup))) m94.out 0 _) (blk_put m94.out 0 _ rfl) 1 _)⟩
     ·go_wp2
      go_meet
      case rel => exact ⟨_, _, _, rfl, rfl, hgl7, Lib.hid (HT.out.step qup), Lib.hid (blk_put (blk_put m94.out 0 _ rfl) 1 _ rfl), Lib.hid (R_put (R_put (Kd.R_lower hR9.out (Nat.le_trans hww (Below.size (B := wr.heap.size) qup))) m94.out 0 _) (blk_put m94.out 0 _ rfl) 1 _)⟩
    case rest =>
     obtain ⟨A6, c6, g11, rfl, rfl, h11, HT, HX11, HR11⟩ := hcut
     obtain ⟨z0, z1, z2, z3⟩ := bc2 HX11.out
     obtain ⟨p0, p1, q0, q1, q2, q3, n0⟩ := PT.cells HZ.out HT.out
     have g91 : w.heap.size + 1 < g11 := by have := HZ.out.sz; have := HT.out.h5; have := HT.out.hl; omega
     have g92 : ¬ g11 = w.heap.size := by omega
     have g93 : ¬ g11 = w.heap.size + 1 := by omega
     have g94 : ¬ w.heap.size = g11 := by omega
     have g95 : ¬ w.heap.size + 1 = g11 := by omega
     by_cases hdb : d2 = 0
     ·have hz : (d2 == 0) = true := by rw [hdb]; rfl
      have HE : Hid ((rt, r1, r2) = ([rl], d1, d2)) := Lib.hid (by have := HI2.out; rw [if_pos hdb] at this; exact (Option.some.inj this).symm)
      clear hdb HI2 hk HNN
      go_wp2
      have hlx := blk_lt HX11.out
      have HT2 : Hid (PT W1 (wc.alloc (.cells #[.slice A6 rl.length c6] 38 (0, 0))).drew g5 gl n) := Lib.hid (HT.out.step (below_drew1 (below_alloc (Below.refl _ _) _)))
      obtain ⟨t0, t1, t2, t3⟩ := bc2 (w := (wc.alloc (.cells #[.slice A6 rl.length c6] 38 (0, 0))).drew) (blk_alloc HX11.out _)
      obtain ⟨s0, s1, s2, s3, s4, s5, s6⟩ := PT.cells HZ.out HT2.out
      have HT3 : Hid (PT W1 (wc.alloc (.cells #[.slice A6 rl.length c6] 38 (0, 0))) g5 gl n) := Lib.hid (HT.out.step (below_alloc (Below.refl _ _) _))
      obtain ⟨r0', r1', r2', r3', r4', r5', r6'⟩ := PT.cells HZ.out HT3.out
      obtain ⟨y0, y1, y2, y3⟩ := bc2 (w := wc.alloc (.cells #[.slice A6 rl.length c6] 38 (0, 0))) (blk_alloc HX11.out _)
      go_region
      go_wp2
      obtain ⟨rP, rD, rB⟩ := PT.res HZ.out HT3.out (.slice (some ⟨wc.heap.size, 0, none⟩) 1 1) d1 d2
      have hbp := (HT3.out.b1.block _ (by have := HZ.out.sz; omega)).trans HZ.out.bp
      have hbd := (HT3.out.b1.block _ (by have := HZ.out.sz; omega)).trans HZ.out.bd
      have hRf := S_lit1 HR11.out (Nat.le_trans HZ.out.bel.size HT.out.b1.size)
      have hRg := Kd.S_set (Kd.S_set (Kd.S_set hRf hbp (by decide) 0 (.slice (some ⟨wc.heap.size, 0, none⟩) 1 1)) ((Below.heap_setCell _ _ _ _ (by simp)).trans hbd) (by decide) 0 (.int .i64 d1)) (blk_put ((Below.heap_setCell _ _ _ _ (by simp)).trans hbd) 0 _ rfl) (by decide) 1 (.int .i64 d2)
      have hE := HE.out
      simp only [Prod.mk.injEq] at hE
      obtain ⟨rfl, rfl, rfl⟩ := hE
      refine bodyPost_ret (results_list (rs := [.cell 2 70, .cell 3 41]) rfl (by simp) (.cell (w.heap.size) 70 _ (0, 0) _ rfl rP Tryz.underlying70 rfl (by kernel_rfl) (.cell (w.heap.size + 1) 41 _ (0, 0) _ rfl rD Tryz.underlying41 rfl (by kernel_rfl) .nil))) rfl ?_
      exact ⟨_, rfl, Kd.S_step hRg (fun _ _ _ => rfl), below_drew1 rB⟩
     ·have hz : (d2 == 0) = false := by rw [beq_eq_false_iff_ne]; exact hdb
      have HE : Hid ((rt, r1, r2) = (([] : List (List Int)), d1, d2)) := Lib.hid (by have := HI2.out; rw [if_neg hdb] at this; exact (Option.some.inj this).symm)
      clear hdb HI2 hk HNN
      go_wp2
      go_region
      go_wp2
      obtain ⟨rP, rD, rB⟩ := PT.res HZ.out HT.out (.slice none 0 0) d1 d2
      have hE := HE.out
      simp only [Prod.mk.injEq] at hE
      obtain ⟨rfl, rfl, rfl⟩ := hE
      refine bodyPost_ret (results_list (rs := [.cell 2 70, .cell 3 41]) rfl (by simp) (.cell (w.heap.size) 70 _ (0, 0) _ rfl rP Tryz.underlying70 rfl (by kernel_rfl) (.cell (w.heap.size + 1) 41 _ (0, 0) _ rfl rD Tryz.underlying41 rfl (by kernel_rfl) .nil))) rfl ?_
      exact ⟨_, rfl, Kd.S_nil _ _ _ _ _, below_drew1 rB⟩
end Go.Proofs.YtadocbfchdendaaGreatDoor.Cu
namespace Go.Proofs.YtadocbfchdendaaGreatDoor.P
open Go.RowKit Go.Lib Go.Proofs.YtadocbfchdendaaGreatDoorW.PrintWords
def tour_ParseTour.f (a0 : ByteArray) : Option (List (List Int) × Int × Int) := Cu.parseTour a0
theorem tour_ParseTour.calls (a0 : ByteArray) (r1 : List (List Int)) (r2 : Int) (r3 : Int) (w : World) (h : tour_ParseTour.f a0 = some (r1, r2, r3)) :
  Calls Tryz.prog 34 #[.string a0] w fun e w' => ∃ v0_ : Value, e = .returned (.tuple #[.agg #[v0_], .agg #[.int .i64 r2, .int .i64 r3]]) ∧ Kd.S (Kd.slice 3 (Kd.int .i64)) 38 w' w.heap.size (fun _ => True) v0_ r1 ∧ Below w.heap.size w w' := Cu.ParseTour_calls a0 r1 r2 r3 w h
end Go.Proofs.YtadocbfchdendaaGreatDoor.P
namespace Go.Proofs.YtadocbfchdendaaGreatDoor.P
open Go.RowKit Go.Proofs.YtadocbfchdendaaGreatDoorW.PrintWords Go.Proofs.YtadocbfchdendaaGreatDoorW.PrintLast Go.Proofs.YtadocbfchdendaaGreatDoorW.PrintMore
attribute [local go_sem] max2_int min2_int max_two min_two max_three min_three max_four min_four
set_option linter.unusedVariables false
set_option linter.unusedSimpArgs false
def tour_begins.l0 : Nat → ByteArray → List ByteArray → Int → Int → Int → List (S105) → Option (Int)
 | 0, _, _, _, _, _, _ => none
 | k + 1, x0, x17, x18, x19, x102000, x102001 => if x19 < x18 then (if 0 ≤ x19 then (if x19 < (x17.length : Int) then (if (x102001.length : Int) ≥ (wrap64 (x19 + 2)) then (if 0 ≤ (wrap64 (x19 + 2)) then (if (wrap64 (x19 + 2)) ≤ (x102001.length : Int) then ((sheet_Title.f k x0 0 (x102001.take ((wrap64 (x19 + 2)) : Int).toNat) (rdOf ByteArray.empty x17 x19)).bind fun t112 => (if t112 = true then (some (wrap64 (x19 + 2))) else (tour_begins.l0 k x0 x17 x18 (wrap64 (x19 + 1)) x102000 x102001))) else (none)) else (none)) else (tour_begins.l0 k x0 x17 x18 (wrap64 (x19 + 1)) x102000 x102001)) else (none)) else (none)) else (some 0)
def tour_begins.f (k : Nat) (a0 : ByteArray) (a1_0 : Int) (l1_1 : List (S105)) (a2 : Int) : Option (Int) := (strconv_Itoa.f a2).bind fun t102 => (if 7 + t102.size ≤ 9223372036854775807 then (if ((⟨#[82, 111, 117, 116, 101, 32, 35]⟩ : ByteArray) ++ t102).size + 1 ≤ 9223372036854775807 then ((strconv_Itoa.f a2).bind fun t103 => (if 6 + t103.size ≤ 9223372036854775807 then (if ((⟨#[82, 111, 117, 116, 101, 32]⟩ : ByteArray) ++ t103).size + 2 ≤ 9223372036854775807 then ((some (([((⟨#[82, 111, 117, 116, 101, 32, 35]⟩ : ByteArray) ++ t102) ++ (⟨#[58]⟩ : ByteArray), ((⟨#[82, 111, 117, 116, 101, 32]⟩ : ByteArray) ++ t103) ++ (⟨#[32, 58]⟩ : ByteArray)] : List ByteArray) : List ByteArray)).bind fun y104 => (tour_begins.l0 k a0 y104 (y104.length : Int) 0 a1_0 l1_1)) else (none)) else (none))) else (none)) else (none))
theorem tour_begins.mono_l : ∀ k, (∀ y0 y1 y2 y3 y4 y5, LeO (tour_begins.l0 k y0 y1 y2 y3 y4 y5) (tour_begins.l0 (k + 1) y0 y1 y2 y3 y4 y5))
 | 0 => fun _ _ _ _ _ _ r h => by simp [tour_begins.l0] at h
 | k + 1 => by
  have ih0 := tour_begins.mono_l k
  ·intro y0 y1 y2 y3 y4 y5
   unfold tour_begins.l0
   repeat' first
   | (with_reducible exact ih0 _ _ _ _ _ _)
   | (with_reducible exact sheet_Title.mono _ _ _ _ _)
   | (with_reducible exact LeO.refl _)
   | (with_reducible exact LeO.none _)
   | (with_reducible refine LeO.ite ?_ ?_)
   | (with_reducible refine LeO.bind ?_ (fun _ => ?_))
   | exact ih0 _ _ _ _ _ _
   | exact sheet_Title.mono _ _ _ _ _
   | exact LeO.none _
   | refine LeO.ite ?_ ?_
   | refine LeO.bind ?_ (fun _ => ?_)
theorem tour_begins.mono : ∀ a0 a1 a2 a3 k, LeO (tour_begins.f k a0 a1 a2 a3) (tour_begins.f (k + 1) a0 a1 a2 a3) := by
 intro a0 a1 a2 a3 k
 have ih0 := tour_begins.mono_l k; unfold tour_begins.f
 repeat' first
   | (with_reducible exact ih0 _ _ _ _ _ _)
   | (with_reducible exact sheet_Title.mono _ _ _ _ _)
   | (with_reducible exact LeO.refl _)
   | (with_reducible exact LeO.none _)
   | (with_reducible refine LeO.ite ?_ ?_)
   | (with_reducible refine LeO.bind ?_ (fun _ => ?_))
   | exact ih0 _ _ _ _ _ _
   | exact sheet_Title.mono _ _ _ _ _
   | exact LeO.none _
   | refine LeO.ite ?_ ?_
   | refine LeO.bind ?_ (fun _ => ?_)
set_option maxHeartbeats 8000000 in
set_option maxRecDepth 100000 in
theorem tour_begins.calls (k : Nat) (a0 : ByteArray) (a1_0 : Int) (A1_1 : Option Addr) (c1_1 : Nat) (l1_1 : List (S105)) (a2 : Int) (r : Int) (w : World) (hr1_1 : Kd.C k105 w A1_1 l1_1.length l1_1) (hc1_1 : l1_1.length ≤ c1_1) (hT : Tabs w) (h : tour_begins.f k a0 a1_0 l1_1 a2 = some r) :
  Calls Tryz.prog 77 #[.string a0, .agg #[.int .i64 a1_0, .slice A1_1 l1_1.length c1_1], .int .i64 a2] w fun e w' => e = .returned (.int .i64 r) ∧ Below w.heap.size w w' := by
 have hu32 := Tryz.underlying32; have HT0 := Aside0.mk hT; clear hT; have HR1_1 := Aside0.mk hr1_1; have HC1_1 := Aside0.mk hc1_1; clear hr1_1 hc1_1; have HB := Aside0.mk (Below.refl w.heap.size w); have H : ((strconv_Itoa.f a2).bind fun t102 => (if 7 + t102.size ≤ 9223372036854775807 then (if ((⟨#[82, 111, 117, 116, 101, 32, 35]⟩ : ByteArray) ++ t102).size + 1 ≤ 9223372036854775807 then ((strconv_Itoa.f a2).bind fun t103 => (if 6 + t103.size ≤ 9223372036854775807 then (if ((⟨#[82, 111, 117, 116, 101, 32]⟩ : ByteArray) ++ t103).size + 2 ≤ 9223372036854775807 then ((some (([((⟨#[82, 111, 117, 116, 101, 32, 35]⟩ : ByteArray) ++ t102) ++ (⟨#[58]⟩ : ByteArray), ((⟨#[82, 111, 117, 116, 101, 32]⟩ : ByteArray) ++ t103) ++ (⟨#[32, 58]⟩ : ByteArray)] : List ByteArray) : List ByteArray)).bind fun y104 => (tour_begins.l0 k a0 y104 (y104.length : Int) 0 a1_0 l1_1)) else (none)) else (none))) else (none)) else (none))) = some r := h; clear h; replace H := Option.bind_eq_some_iff.mp H; obtain ⟨t102, A40, H⟩ := H; (try dsimp only at H); have A4 := Aside0.mk A40; clear A40
 by_cases c5 : 7 + t102.size ≤ 9223372036854775807
 ·rw [if_pos c5] at H; have c5b0 := eq_true c5; have c5b1 := decide_eq_true c5
  try have c5b2 : (9223372036854775807 < 7 + t102.size) = False := eq_false (Nat.not_lt.2 c5)
  by_cases c6 : ((⟨#[82, 111, 117, 116, 101, 32, 35]⟩ : ByteArray) ++ t102).size + 1 ≤ 9223372036854775807
  ·rw [if_pos c6] at H; have c6s : 7 + t102.size + 1 ≤ 9223372036854775807 := by (have z_ := c6); simp only [ByteArray.size_append] at z_; exact z_
   replace c6s := eq_true c6s
   try have c6t := eq_false (Nat.not_lt.2 (of_eq_true c6s))
   have c6b0 := eq_true c6; have c6b1 := decide_eq_true c6
   try have c6b2 : (9223372036854775807 < ((⟨#[82, 111, 117, 116, 101, 32, 35]⟩ : ByteArray) ++ t102).size + 1) = False := eq_false (Nat.not_lt.2 c6)
   replace H := Option.bind_eq_some_iff.mp H; obtain ⟨t103, A70, H⟩ := H; (try dsimp only at H); have A7 := Aside0.mk A70; clear A70
   by_cases c8 : 6 + t103.size ≤ 9223372036854775807
   ·rw [if_pos c8] at H; have c8b0 := eq_true c8; have c8b1 := decide_eq_true c8
    try have c8b2 : (9223372036854775807 < 6 + t103.size) = False := eq_false (Nat.not_lt.2 c8)
    by_cases c9 : ((⟨#[82, 111, 117, 116, 101, 32]⟩ : ByteArray) ++ t103).size + 2 ≤ 9223372036854775807
    ·rw [if_pos c9] at H; have c9s : 6 + t103.size + 2 ≤ 9223372036854775807 := by (have z_ := c9); simp only [ByteArray.size_append] at z_; exact z_
     replace c9s := eq_true c9s
     try have c9t := eq_false (Nat.not_lt.2 (of_eq_true c9s))
     have c9b0 := eq_true c9; have c9b1 := decide_eq_true c9
     try have c9b2 : (9223372036854775807 < ((⟨#[82, 111, 117, 116, 101, 32]⟩ : ByteArray) ++ t103).size + 2) = False := eq_false (Nat.not_lt.2 c9)
     obtain ⟨y104, hy104⟩ : ∃ y_ : List ByteArray, y_ = (([((⟨#[82, 111, 117, 116, 101, 32, 35]⟩ : ByteArray) ++ t102) ++ (⟨#[58]⟩ : ByteArray), ((⟨#[82, 111, 117, 116, 101, 32]⟩ : ByteArray) ++ t103) ++ (⟨#[32, 58]⟩ : ByteArray)] : List ByteArray)) := ⟨_, rfl⟩; replace H : (tour_begins.l0 k a0 y104 (y104.length : Int) 0 a1_0 l1_1) = some r := by first | (rw [hy104]; with_reducible exact H) | (have H2_ := (Option.bind_some _ _).symm.trans H; rw [hy104]; with_reducible exact H2_) | (have H2_ := (Option.bind_some _ _).symm.trans H; with_reducible exact H2_) | with_reducible exact H | (rw [hy104]; exact H) | exact H
     have Ny104 := Aside0.mk hy104; clear hy104; have H' := Aside0.mk H; clear H; go_enter Tryz.func77, Tryz.ntmps77
     go_wp2_with (first | ((with_reducible refine gate_dst (N := 4) rfl ?_); refine box_ev (N := 4) (cs := #[.int .i64 a1_0, .slice A1_1 l1_1.length c1_1]) (t := 32) ?_; intro gb101 hg w10 hbox hb; have BK101 := Aside0.mk (hbox); have GW101 := Aside0.mk ((qg : w.heap.size ≤ gb101)); have GE101 := Aside0.mk ((qg : w.heap.size ≤ gb101)); replace HB := cB HB hb; clear hb hbox hg) | ((with_reducible refine gate_callee (f := 80) rfl ?_); refine goesL_ (some 10) rfl rfl Tryz.func80 (by kernel_rfl) rfl #[.int .i64 a2] rfl qm ?_; (with_reducible refine (strconv_Itoa.calls a2 t102 _ (Tabs.kept HT0.out qb) A4.out).mono ?_); rintro e w11 ⟨rfl, hb⟩; refine ⟨_, rfl, ?_⟩; replace BK101 := cK BK101 hb; replace HB := cB HB hb; (try clear hb); (try clear hb2); (try clear hk); (try clear hi)) | ((with_reducible refine gate_callee (f := 80) rfl ?_); refine goesL_ (some 14) rfl rfl Tryz.func80 (by kernel_rfl) rfl #[.int .i64 a2] rfl qm ?_; (with_reducible refine (strconv_Itoa.calls a2 t103 _ (Tabs.kept HT0.out qb) A7.out).mono ?_); rintro e w12 ⟨rfl, hb⟩; refine ⟨_, rfl, ?_⟩; replace BK101 := cK BK101 hb; replace HB := cB HB hb; (try clear hb); (try clear hb2); (try clear hk); (try clear hi)) | ((with_reducible refine gate_dst (N := 17) rfl ?_); refine Kd.R_lit Kd.string _ 9 ?hg (N := 17) ?hd (xs := ([((⟨#[82, 111, 117, 116, 101, 32, 35]⟩ : ByteArray) ++ t102) ++ (⟨#[58]⟩ : ByteArray), ((⟨#[82, 111, 117, 116, 101, 32]⟩ : ByteArray) ++ t103) ++ (⟨#[32, 58]⟩ : ByteArray)] : List ByteArray)) (inner := [.string (((⟨#[82, 111, 117, 116, 101, 32, 35]⟩ : ByteArray) ++ t102) ++ (⟨#[58]⟩ : ByteArray)), .string (((⟨#[82, 111, 117, 116, 101, 32]⟩ : ByteArray) ++ t103) ++ (⟨#[32, 58]⟩ : ByteArray))]) (ok := fun _ => True) (okp := fun _ => True) ?hr ?hp (fun _ hk => hk) trivial (Below.refl _ _) (Nat.le_refl _) (by simp) ?_; (case hd => rfl); (case hg => rfl); (case hr => first | (go_simp; done) | (go_simp; rfl)); (case hp => exact (Reps.one (show Kd.M Kd.string _ _ _ (((⟨#[82, 111, 117, 116, 101, 32, 35]⟩ : ByteArray) ++ t102) ++ (⟨#[58]⟩ : ByteArray)) [.string (((⟨#[82, 111, 117, 116, 101, 32, 35]⟩ : ByteArray) ++ t102) ++ (⟨#[58]⟩ : ByteArray))] from rfl) (Reps.one (show Kd.M Kd.string _ _ _ (((⟨#[82, 111, 117, 116, 101, 32]⟩ : ByteArray) ++ t103) ++ (⟨#[32, 58]⟩ : ByteArray)) [.string (((⟨#[82, 111, 117, 116, 101, 32]⟩ : ByteArray) ++ t103) ++ (⟨#[32, 58]⟩ : ByteArray))] from rfl) (Reps.none _ _)))); intro v105 w13 ho14 hb hg_ hnew_; clear hg_ hnew_; (first | rw [← Ny104.out] at ho14 | (simp only [Int.reduceToNat] at ho14; rw [← Ny104.out] at ho14)); have HO106 := Aside0.mk (Kd.R_lower ho14 (below_size qb)); replace BK101 := cK BK101 hb; replace HB := cB HB hb; clear hb ho14; obtain ⟨Ao15, co15, eo15⟩ := Kd.R_slice HO106.out; subst eo15))
     (try simp only [Act.put, List.setIfInBounds_toArray, List.set_cons_zero, List.set_cons_succ])
     go_loopg [19] k (fun kq v19 w' => ∃ (x19_1 : Int), v19 = .int .i64 x19_1 ∧ Aside0 (tour_begins.l0 kq a0 y104 (y104.length : Int) x19_1 a1_0 l1_1 = some r) ∧ Aside0 (kq ≤ k) ∧ Aside0 (Kd.R Kd.string 9 w' w.heap.size (fun _ => True) (.slice Ao15 y104.length co15) y104) ∧ Aside0 (w'.heap[gb101]? = some (.cells #[.int .i64 a1_0, (.slice A1_1 l1_1.length c1_1)] 32 (0, 0))) ∧ Aside0 (Below w.heap.size w w'))
     case atStart => exact ⟨(0), qr, H', ⟨Nat.le_refl _⟩, ⟨qR HO106.out⟩, ⟨qk BK101.out⟩, ⟨qb⟩⟩
     case round =>
      clear H'; (try clear c1); (try clear p2); (try clear c5); (try clear c5b0); (try clear c5b1); (try clear c5b2); (try clear c6); (try clear c6b0); (try clear c6b1); (try clear c6b2); (try clear c7); (try clear c8); (try clear c8b0); (try clear c8b1); (try clear c8b2); (try clear c9); (try clear c9b0); (try clear c9b1); (try clear c9b2); obtain ⟨x19_1, rfl, HA, HK1, HO_17, BK101, HB⟩ := hrel; cases gk with
      | zero => exact absurd HA.out (by simp [tour_begins.l0])
      | succ k1 =>
       have H := HA.out; clear HA; simp only [tour_begins.l0] at H
       by_cases c16 : x19_1 < (y104.length : Int)
       ·rw [if_pos c16] at H; have c16b0 := decide_eq_true c16; clear c16
        by_cases c17 : 0 ≤ x19_1
        ·rw [if_pos c17] at H; have c17b0 := decide_eq_true c17; clear c17
         by_cases c18 : x19_1 < (y104.length : Int)
         ·rw [if_pos c18] at H; have c18b0 := decide_eq_true c18; clear c18
          by_cases c19 : (l1_1.length : Int) ≥ (wrap64 (x19_1 + 2))
          ·rw [if_pos c19] at H; have c19b0 := decide_eq_true c19; clear c19; obtain ⟨ji20, hji20⟩ : ∃ j_ : Int, (wrap64 (x19_1 + 2)) = j_ := ⟨_, rfl⟩; replace H : (if 0 ≤ (ji20) then (if (ji20) ≤ (l1_1.length : Int) then ((sheet_Title.f k1 a0 0 (l1_1.take ((ji20) : Int).toNat) (rdOf ByteArray.empty y104 x19_1)).bind fun t112 => (if t112 = true then (some ji20) else (tour_begins.l0 k1 a0 y104 (y104.length : Int) (wrap64 (x19_1 + 1)) a1_0 l1_1))) else (none)) else (none)) = some r := by first | (rw [hji20] at H; exact H) | (simp only [hji20] at H ⊢; exact H)
           (try rw [hji20] at c19b0); have hji20w : (IntKind.i64.wrap (x19_1 + 2)) = ji20 := (i64_w _).trans hji20
           by_cases c21 : 0 ≤ (ji20)
           ·rw [if_pos c21] at H; have c21b0 := eq_true c21; have c21b1 := decide_eq_true c21; clear c21
            by_cases c22 : (ji20) ≤ (l1_1.length : Int)
            ·rw [if_pos c22] at H; have c22b0 := eq_true c22; have c22b1 := decide_eq_true c22; clear c22; obtain ⟨y108, hy108⟩ : ∃ y_ : List (S105), y_ = (l1_1.take ((ji20) : Int).toNat) := ⟨_, rfl⟩; replace H : ((sheet_Title.f k1 a0 0 y108 (rdOf ByteArray.empty y104 x19_1)).bind fun t112 => (if t112 = true then (some ji20) else (tour_begins.l0 k1 a0 y104 (y104.length : Int) (wrap64 (x19_1 + 1)) a1_0 l1_1))) = some r := by first | (rw [hy108]; with_reducible exact H) | (have H2_ := (Option.bind_some _ _).symm.trans H; rw [hy108]; with_reducible exact H2_) | (have H2_ := (Option.bind_some _ _).symm.trans H; with_reducible exact H2_) | with_reducible exact H | (rw [hy108]; exact H) | exact H
             have Ny108 := Aside0.mk hy108; clear hy108; replace H := Option.bind_eq_some_iff.mp H; obtain ⟨t112, A230, H⟩ := H; (try dsimp only at H); have A23 := Aside0.mk A230; clear A230
             by_cases c24 : t112 = true
             ·subst c24; have H1 : (some ji20) = some r := by rw [if_pos rfl] at H; exact H
              clear H; have H := H1; clear H1; obtain rfl := Option.some.inj H; have p107 : 0 ≤ (x19_1 : Int) := of_decide_eq_true qa; have q107 : x19_1 < (y104.length : Int) := of_decide_eq_true qa; obtain ⟨ad107, e107, hx107_0⟩ := Kd.at_string (Kd.R_reads' HO_17.out).2.2 x19_1 p107 q107; cases e107; (try simp only [Go.IntWalk.toNatUp] at hx107_0); replace p107 := eq_true p107; replace q107 := eq_true q107; obtain ⟨hcz25_0, hcz25_1, hfz25_0, hfz25_1⟩ := bc2 BK101.out; have q26 : ((ji20) : Int) ≤ ((l1_1.length : Int) : Int) := of_decide_eq_true qa; obtain ⟨i026, hi026, _, hsz26, _⟩ := info_parts info105; have hroom26 : l1_1.length ≤ c1_1 := HC1_1.out; have hC26 : Kd.C k105 _ A1_1 l1_1.length l1_1 := HR1_1.out; have hcut26 := cut_to (P := Tryz.prog) 30 105 .i64 Tryz.underlying30 hi026 A1_1 l1_1.length c1_1 (ji20) (of_decide_eq_true qa) q26 hroom26; have hr26 := Kd.C_take (m := ((ji20) : Int).toNat) hC26 (by omega); have hy26 : y108.length = ((ji20) : Int).toNat := (by rw [Ny108.out, List.length_take]; omega); rw [← Ny108.out] at hr26; rw [← hy26] at hcut26; have HR111 := Aside0.mk hr26; have HC111 := Aside0.mk (show y108.length ≤ c1_1 from by omega); clear hr26 hC26 hroom26 hi026 hsz26; have KY26 := Aside0.mk hy26; clear hy26; replace q26 := eq_true q26
              go_wp2_with (first | (go_at_call 19; (with_reducible refine (sheet_Title.calls k1 a0 0 _ _ y108 (rdOf ByteArray.empty y104 x19_1) true _ ?side1 ?side2 A23.out).mono ?_); (case side1 => exact qC (Kd.C_below HR111.out HB.out)); (case side2 => exact HC111.out); rintro e w27 ⟨rfl, hb⟩; replace HO_17 := cR HO_17 hb; replace BK101 := cK BK101 hb; replace HB := cB HB hb; (try clear hb); (try clear hb2); (try clear hk); (try clear hi)))
              go_ret
              exact ⟨by first | rfl | (simp [errW_none, errW_some] <;> rfl) | (simp only [← hji20]; first | rfl | (simp [errW_none, errW_some] <;> rfl)) | (simp [*, errW_none, errW_some] <;> rfl), qb⟩
             ·replace c24 := Bool.eq_false_iff.mpr c24; subst c24; have H1 : (tour_begins.l0 k1 a0 y104 (y104.length : Int) (wrap64 (x19_1 + 1)) a1_0 l1_1) = some r := by rw [if_neg (show ¬ (false = true) by decide)] at H; exact H
              clear H; have H := H1; clear H1; have H' := Aside0.mk H; clear H; have p107 : 0 ≤ (x19_1 : Int) := of_decide_eq_true qa; have q107 : x19_1 < (y104.length : Int) := of_decide_eq_true qa; obtain ⟨ad107, e107, hx107_0⟩ := Kd.at_string (Kd.R_reads' HO_17.out).2.2 x19_1 p107 q107; cases e107; (try simp only [Go.IntWalk.toNatUp] at hx107_0); replace p107 := eq_true p107; replace q107 := eq_true q107; obtain ⟨hcz28_0, hcz28_1, hfz28_0, hfz28_1⟩ := bc2 BK101.out; have q29 : ((ji20) : Int) ≤ ((l1_1.length : Int) : Int) := of_decide_eq_true qa; obtain ⟨i029, hi029, _, hsz29, _⟩ := info_parts info105; have hroom29 : l1_1.length ≤ c1_1 := HC1_1.out; have hC29 : Kd.C k105 _ A1_1 l1_1.length l1_1 := HR1_1.out; have hcut29 := cut_to (P := Tryz.prog) 30 105 .i64 Tryz.underlying30 hi029 A1_1 l1_1.length c1_1 (ji20) (of_decide_eq_true qa) q29 hroom29; have hr29 := Kd.C_take (m := ((ji20) : Int).toNat) hC29 (by omega); have hy29 : y108.length = ((ji20) : Int).toNat := (by rw [Ny108.out, List.length_take]; omega); rw [← Ny108.out] at hr29; rw [← hy29] at hcut29; have HR111 := Aside0.mk hr29; have HC111 := Aside0.mk (show y108.length ≤ c1_1 from by omega); clear hr29 hC29 hroom29 hi029 hsz29; have KY29 := Aside0.mk hy29; clear hy29; replace q29 := eq_true q29
              go_wp2_with (first | (go_at_call 19; (with_reducible refine (sheet_Title.calls k1 a0 0 _ _ y108 (rdOf ByteArray.empty y104 x19_1) false _ ?side1 ?side2 A23.out).mono ?_); (case side1 => exact qC (Kd.C_below HR111.out HB.out)); (case side2 => exact HC111.out); rintro e w30 ⟨rfl, hb⟩; replace HO_17 := cR HO_17 hb; replace BK101 := cK BK101 hb; replace HB := cB HB hb; (try clear hb); (try clear hb2); (try clear hk); (try clear hi)))
              go_roundg k1
              case measure => have := HK1.out; omega
              case rel => exact ⟨(wrap64 (x19_1 + 1)), qr, H', ⟨by have := HK1.out; omega⟩, ⟨qR HO_17.out⟩, ⟨qk BK101.out⟩, ⟨qb⟩⟩
            ·rw [if_neg c22] at H
             exact absurd H (by simp)
           ·rw [if_neg c21] at H
            exact absurd H (by simp)
          ·rw [if_neg c19] at H; have c19b0 := decide_eq_false c19; clear c19; have H' := Aside0.mk H; clear H; have p107 : 0 ≤ (x19_1 : Int) := of_decide_eq_true qa; have q107 : x19_1 < (y104.length : Int) := of_decide_eq_true qa; obtain ⟨ad107, e107, hx107_0⟩ := Kd.at_string (Kd.R_reads' HO_17.out).2.2 x19_1 p107 q107; cases e107; (try simp only [Go.IntWalk.toNatUp] at hx107_0); replace p107 := eq_true p107; replace q107 := eq_true q107; obtain ⟨hcz31_0, hcz31_1, hfz31_0, hfz31_1⟩ := bc2 BK101.out
           go_wp2
           go_roundg k1
           case measure => have := HK1.out; omega
           case rel => exact ⟨(wrap64 (x19_1 + 1)), qr, H', ⟨by have := HK1.out; omega⟩, ⟨qR HO_17.out⟩, ⟨qk BK101.out⟩, ⟨qb⟩⟩
         ·rw [if_neg c18] at H
          exact absurd H (by simp)
        ·rw [if_neg c17] at H
         exact absurd H (by simp)
       ·rw [if_neg c16] at H; have c16b0 := decide_eq_false c16; clear c16; obtain rfl := Option.some.inj H
        go_wp2
        go_ret
        exact ⟨qe, qb⟩
    ·rw [if_neg c9] at H
     exact absurd H (by simp)
   ·rw [if_neg c8] at H
    exact absurd H (by simp)
  ·rw [if_neg c6] at H
   exact absurd H (by simp)
 ·rw [if_neg c5] at H
  exact absurd H (by simp)
end Go.Proofs.YtadocbfchdendaaGreatDoor.P
namespace Go.Proofs.YtadocbfchdendaaGreatDoor.Cu
open Go.RowKit Go.Lib Go.Proofs.YtadocbfchdendaaGreatDoorW.PrintWords Go.Proofs.YtadocbfchdendaaGreatDoorW.PrintLast Go.Proofs.YtadocbfchdendaaGreatDoorW.PrintMore Go.Proofs.YtadocbfchdendaaGreatDoor.P
set_option linter.unusedSimpArgs false
set_option linter.unusedVariables false
abbrev RTold := List (List Int) × Int × Int × Int
abbrev costL : List UInt8 := [67, 111, 115, 116]
def fromS (x : Row) (b : Int) (t : ByteArray) : Int := if t.toList = costL then (if x.f1.length = 2 then 1 else 0) else b
def lastS (l : List Row) (acc : List (List Int)) (r : List Int) : Option RTold := match r with
 | [] => none
 | v :: _ => match l with
  | z :: _ => some ([], 0, z.f0, 4)
  | [] => some (acc, v, 0, 0)
def intsS (s : ByteArray) (x : Row) (f : Int) (k : List Int → Option RTold) : Option RTold :=
 if 0 ≤ f ∧ f ≤ (x.f1.length : Int) then (sheet_Ints.f 200000 s x.f0 (x.f1.drop f.toNat) ((x.f1.length : Int) - f)).bind fun r =>
  if r.2.2 = 0 then (if r.2.1 = 0 then k r.1 else none) else some ([], 0, r.2.1, r.2.2) else none
def routesS (s : ByteArray) : List Row → Int → List (List Int) → Option RTold
 | [], _, acc => some (acc, -1, 0, 0)
 | x :: l, i, acc => match x.f1 with
  | [] => none
  | y :: _ => (tour_begins.f 200000 s x.f0 x.f1 (i + 1)).bind fun b => (words_Text.f s y.f0 y.f1).bind fun t =>
   if fromS x b t = 0 then some ([], 0, x.f0, 3)
   else intsS s x (fromS x b t) fun r => if t.toList = costL then lastS l acc r else routesS s l (i + 1) (acc ++ [r])
def parseRoutes (s : ByteArray) : Option RTold := if s.size ≤ 90000 then (sheet_Rows.f 100002 s 0).bind fun L => if L.length ≤ 100000 then routesS s L 0 [] else none else none
structure QS (w W1 : World) (N : Nat) (W : World) (acc : List (List Int)) (a b : Int) : Prop where
 bel : Below w.heap.size w W
 oth : ∀ k, w.heap.size + 2 ≤ k → k < W1.heap.size → W.heap[k]? = W1.heap[k]?
 sz : W1.heap.size ≤ W.heap.size
 sz1 : w.heap.size + 2 ≤ W1.heap.size
 plan : ∃ A c, W.heap[w.heap.size]? = some (.cells #[.slice A acc.length c] 70 (0, 0)) ∧ Kd.S (Kd.slice 3 (Kd.int .i64)) 38 W w.heap.size (fun k => W1.heap.size ≤ k ∧ k < N) (.slice A acc.length c) acc
 bd : W.heap[w.heap.size + 1]? = some (.cells #[.int .i64 a, .int .i64 b] 41 (0, 0))
theorem QS.step {w W1 W W' : World} {N : Nat} {acc : List (List Int)} {a b : Int} (h : QS w W1 N W acc a b) (hb : Below W.heap.size W W') : QS w W1 N W' acc a b := by
 obtain ⟨A, c, h1, h2⟩ := h.plan
 have := h.sz
 have := h.sz1
 exact ⟨h.bel.trans (hb.mono (by omega)), fun k h1 h2 => (hb.block k (by omega)).trans (h.oth k h1 h2), Nat.le_trans h.sz hb.size, h.sz1, ⟨A, c, (hb.block _ (by omega)).trans h1, Kd.S_below h2 hb⟩, (hb.block _ (by omega)).trans h.bd⟩
theorem QS.setD {w W1 W : World} {N : Nat} {acc : List (List Int)} {a b : Int} (h : QS w W1 N W acc a b) (a' b' : Int) : QS w W1 N ((W.setCell ⟨w.heap.size + 1, 0, none⟩ (.int .i64 a')).setCell ⟨w.heap.size + 1, 1, none⟩ (.int .i64 b')) acc a' b' := by
 obtain ⟨A, c, h1, h2⟩ := h.plan
 refine ⟨(h.bel.setCell (p := ⟨_, _, none⟩) (Nat.le_succ _) _).setCell (p := ⟨_, _, none⟩) (Nat.le_succ _) _, fun k h1 h2 => (Below.heap_setCell _ _ _ _ (by show k ≠ w.heap.size + 1; omega)).trans ((Below.heap_setCell _ _ _ _ (by show k ≠ w.heap.size + 1; omega)).trans (h.oth k h1 h2)), by simpa [World.setCell] using h.sz, h.sz1, ⟨A, c, (Below.heap_setCell _ _ _ _ (by simp)).trans ((Below.heap_setCell _ _ _ _ (by simp)).trans h1), ?_⟩, blk_put (blk_put h.bd 0 _ rfl) 1 _ rfl⟩
 exact Kd.S_set (Kd.S_set h2 h.bd (by decide) 0 _) (blk_put h.bd 0 _ rfl) (by decide) 1 _
theorem QS.cells {w W1 W : World} {N : Nat} {acc : List (List Int)} {a b : Int} (h : QS w W1 N W acc a b) : W.cell? ⟨w.heap.size + 1, 0, none⟩ = some (.int .i64 a) ∧ W.cell? ⟨w.heap.size + 1, 1, none⟩ = some (.int .i64 b) ∧ W.frozen? ⟨w.heap.size + 1, 0, none⟩ = false ∧ W.frozen? ⟨w.heap.size + 1, 1, none⟩ = false ∧ W.frozen? ⟨w.heap.size, 0, none⟩ = false := by
 obtain ⟨A, c, h1, h2⟩ := h.plan
 exact ⟨(bc2 h.bd).1, (bc2 h.bd).2.1, (bc2 h.bd).2.2.1, (bc2 h.bd).2.2.2, (bc1 h1).2⟩
theorem QS.rows {w W1 W : World} {N : Nat} {acc : List (List Int)} {a b : Int} (h : QS w W1 N W acc a b) {A : Option Addr} {c : Nat} {L : List Row} (hL : Kd.S k32 32 W1 (w.heap.size + 2) (fun _ => True) (.slice A L.length c) L) : Kd.C k32 W A L.length L :=
 (Kd.S_reads' (Kd.S_move (Kd.S_bound hL) (fun k hk => h.oth k hk.2.1 hk.2.2.1))).2.2
theorem QS.app {w W1 W W' : World} {N N' : Nat} {acc acc' : List (List Int)} {a b : Int} (h : QS w W1 N W acc a b) {row : Option Nat} (hrow : ∀ k, row = some k → W1.heap.size ≤ k) (hg : W.grownBy W' row) (hb : Below w.heap.size w W') (hsz : W.heap.size ≤ W'.heap.size) {A' : Option Addr} {c' : Nat}
  (ho : Kd.S (Kd.slice 3 (Kd.int .i64)) 38 W' w.heap.size (fun k => W1.heap.size ≤ k ∧ k < N') (.slice A' acc'.length c') acc') : QS w W1 N' (W'.setCell ⟨w.heap.size, 0, none⟩ (.slice A' acc'.length c')) acc' a b := by
 obtain ⟨A, c, h1, h2⟩ := h.plan
 have hs := h.sz
 have hs1 := h.sz1
 have hblk : ∀ k, k < W1.heap.size → W'.heap[k]? = W.heap[k]? := fun k hk => hg.block k (by omega) (fun he => by have := hrow k he.symm; omega)
 have hp := (hblk w.heap.size (by omega)).trans h1
 have hd := (hblk (w.heap.size + 1) (by omega)).trans h.bd
 exact ⟨hb.setCell (p := ⟨_, _, none⟩) (Nat.le_refl _) _, fun k h1 h2 => (Below.heap_setCell _ _ _ _ (by show k ≠ w.heap.size; omega)).trans ((hblk k h2).trans (h.oth k h1 h2)), by simpa [World.setCell] using Nat.le_trans hs hsz, hs1, ⟨A', c', blk_put hp 0 _ rfl, Kd.S_set ho hp (by decide) 0 _⟩, (Below.heap_setCell _ _ _ _ (by simp)).trans hd⟩
theorem R_D {W : World} {base g : Nat} {ok : Nat → Prop} {v : Value} {xs : List Int} (h : Kd.R (Kd.int .i64) 3 W base ok v xs) (hlt : g < base) (j : Nat) (u : Value) : Kd.R (Kd.int .i64) 3 (W.setCell ⟨g, j, none⟩ u) base ok v xs :=
 Kd.R_mono (Kd.R_step (Kd.R_bound h) fun k hk _ => Below.heap_setCell _ _ _ _ (by have := hk.2.1; show k ≠ g; omega)) (fun _ hk => hk.1)
theorem ints_calls (k : Nat) (s : ByteArray) (f0 : Int) (A : Option Addr) (c : Nat) (ws : List Wd) (n : Int) (q : List Int) (e1 e2 : Int) (w : World) (hC : Kd.C k105 w A ws.length ws) (hc : ws.length ≤ c) (h : sheet_Ints.f k s f0 ws n = some (q, e1, e2)) :
  Calls Tryz.prog 28 #[.string s, .agg #[.int .i64 f0, .slice A ws.length c], .int .i64 n] w fun e w' => (∃ A6 c6, e = .returned (.tuple #[.slice A6 q.length c6, .agg #[.int .i64 e1, .int .i64 e2]]) ∧ Hid (Kd.R (Kd.int .i64) 3 w' w.heap.size (fun _ => True) (.slice A6 q.length c6) q)) ∧ Below w.heap.size w w' :=
 (sheet_Ints.calls k s f0 A c ws n q e1 e2 w hC hc h).mono fun e w' ⟨v, h1, h2, h3⟩ => by
  obtain ⟨A6, c6, rfl⟩ := Kd.R_slice h2
  exact ⟨⟨A6, c6, h1, Lib.hid h2⟩, h3⟩
theorem fin2 {w W : World} {v0 : Value} {a b : Int} (hp : W.heap[w.heap.size]? = some (.cells #[v0] 70 (0, 0))) (hd : W.heap[w.heap.size + 1]? = some (.cells #[.int .i64 a, .int .i64 b] 41 (0, 0))) (hbel : Below w.heap.size w W) (v : Value) (a' b' : Int) :
  (((W.setCell ⟨w.heap.size, 0, none⟩ v).setCell ⟨w.heap.size + 1, 0, none⟩ (.int .i64 a')).setCell ⟨w.heap.size + 1, 1, none⟩ (.int .i64 b')).heap[w.heap.size]? = some (.cells #[v] 70 (0, 0)) ∧
  (((W.setCell ⟨w.heap.size, 0, none⟩ v).setCell ⟨w.heap.size + 1, 0, none⟩ (.int .i64 a')).setCell ⟨w.heap.size + 1, 1, none⟩ (.int .i64 b')).heap[w.heap.size + 1]? = some (.cells #[.int .i64 a', .int .i64 b'] 41 (0, 0)) ∧
  Below w.heap.size w (((W.setCell ⟨w.heap.size, 0, none⟩ v).setCell ⟨w.heap.size + 1, 0, none⟩ (.int .i64 a')).setCell ⟨w.heap.size + 1, 1, none⟩ (.int .i64 b')) := by
 refine ⟨(Below.heap_setCell _ _ _ _ (by simp)).trans ((Below.heap_setCell _ _ _ _ (by simp)).trans (blk_put hp 0 _ rfl)), blk_put (blk_put ((Below.heap_setCell _ _ _ _ (by simp)).trans hd) 0 _ rfl) 1 _ rfl, ?_⟩
 exact ((hbel.setCell (p := ⟨w.heap.size, 0, none⟩) (Nat.le_refl _) _).setCell (p := ⟨w.heap.size + 1, 0, none⟩) (Nat.le_succ _) _).setCell (p := ⟨w.heap.size + 1, 1, none⟩) (Nat.le_succ _) _
theorem finS {w W : World} {v0 : Value} {a b : Int} {base : Nat} {ok : Nat → Prop} {u : Value} {xs : List (List Int)} (hS : Kd.S (Kd.slice 3 (Kd.int .i64)) 38 W base ok u xs) (hp : W.heap[w.heap.size]? = some (.cells #[v0] 70 (0, 0))) (hd : W.heap[w.heap.size + 1]? = some (.cells #[.int .i64 a, .int .i64 b] 41 (0, 0))) (v : Value) (a' b' : Int) :
  Kd.S (Kd.slice 3 (Kd.int .i64)) 38 (((W.setCell ⟨w.heap.size, 0, none⟩ v).setCell ⟨w.heap.size + 1, 0, none⟩ (.int .i64 a')).setCell ⟨w.heap.size + 1, 1, none⟩ (.int .i64 b')) base (fun _ => True) u xs :=
 Kd.S_mono (Kd.S_set (Kd.S_set (Kd.S_set hS hp (by decide) 0 v) ((Below.heap_setCell _ _ _ _ (by simp)).trans hd) (by decide) 0 _) (blk_put ((Below.heap_setCell _ _ _ _ (by simp)).trans hd) 0 _ rfl) (by decide) 1 _) (fun _ _ => trivial)
theorem rows_callsS (k : Nat) (a0 : ByteArray) (a1 : Int) (r : List (S32)) (w : World) (h : sheet_Rows.f k a0 a1 = some r) :
  Calls Tryz.prog 15 #[.string a0, .int .i64 a1] w fun e w' => (∃ A c, e = .returned (.slice A r.length c) ∧ Hid (Kd.S k32 32 w' w.heap.size (fun _ => True) (.slice A r.length c) r)) ∧ Below w.heap.size w w' :=
 (sheet_Rows.calls k a0 a1 r w h).mono fun e w' ⟨v, h1, h2, h3⟩ => by
  obtain ⟨A, c, rfl⟩ := Kd.S_slice h2
  exact ⟨⟨A, c, h1, Lib.hid h2⟩, h3⟩
theorem rdL' (l : List Row) (i : Nat) (x : Row) (h : l[i]? = some x) : rd_T32 l (i : Int) = x := by
 simp [rd_T32, h]
theorem words0 {w : World} {A : Option Addr} {n : Nat} {ws : List Wd} {y : Wd} (h : Kd.C k105 w A n ws) (hy : ws.head? = some y) : ∃ ad, A = some ad ∧ w.cell? ad = some (.int .i64 y.f0) ∧ w.cell? ⟨ad.block, ad.off + 1, none⟩ = some (.int .i64 y.f1) := by
 cases ws with
 | nil => cases hy
 | cons z ws =>
  obtain rfl := Option.some.inj hy
  obtain ⟨ad, e, h0, h1⟩ := at_T105 h 0 (by decide) (by have := h.1; simp at this; omega)
  rw [show ad.add (Int.toNat 0 * 2) = ad by simp [Addr.add]] at h0 h1
  exact ⟨ad, e, h0, h1⟩
set_option maxRecDepth 100000 in
set_option maxHeartbeats 4000000 in
theorem ParseRoutes_calls (s : ByteArray) (rt : List (List Int)) (rc r1 r2 : Int) (w : World) (hT : Tabs w) (h : parseRoutes s = some (rt, rc, r1, r2)) :
  Calls Tryz.prog 36 #[.string s] w fun e W' => ∃ v0, e = .returned (.tuple #[.agg #[v0], .int .i64 rc, .agg #[.int .i64 r1, .int .i64 r2]]) ∧
   Kd.S (Kd.slice 3 (Kd.int .i64)) 38 W' w.heap.size (fun _ => True) v0 rt ∧ Below w.heap.size w W' := by
 unfold parseRoutes at h
 by_cases hs : s.size ≤ 90000
 rotate_left
 ·rw [if_neg hs] at h; exact absurd h (by simp)
 rw [if_pos hs] at h
 obtain ⟨L, hL, h⟩ := Option.bind_eq_some_iff.mp h
 by_cases hl : L.length ≤ 100000
 rotate_left
 ·rw [if_neg hl] at h; exact absurd h (by simp)
 rw [if_pos hl] at h
 have HLe : Hid (L = shR s.data.toList 0) := Lib.hid (by
  have := Rows_sheet s (by omega) 0 100002 (by omega)
  rw [hL] at this
  exact Option.some.inj this)
 have HL := Lib.hid hL
 have H := Lib.hid h
 have HK := Lib.hid hs
 have HTB := Lib.hid hT
 clear hL h hs hT
 go_enter Tryz.func36, Tryz.ntmps36
 go_wp2
 go_step3
 go_wp2_with (first
  | (go_at_call 15; refine (rows_callsS 100002 s 0 L _ HL.out).mono ?_; rintro e W1 ⟨⟨A, c, rfl, HR1⟩, hb1⟩; have HQ : Hid (QS w W1 W1.heap.size W1 [] 0 0) := Lib.hid ⟨(((Below.refl _ w).alloc (Nat.le_refl _) _).alloc (by simp) _).trans (hb1.mono (by simp; omega)), fun _ _ _ => rfl, Nat.le_refl _, by have := hb1.size; simp at this; omega, ⟨none, 0, blk_below (blk_alloc (blk_new w _) _) hb1, Kd.S_nil _ _ _ _ _⟩, blk_below (by have := blk_new (w.alloc (.cells #[.slice none 0 0] 70 (0, 0))) (.cells #[.int .i64 0, .int .i64 0] 41 (0, 0)); rw [show (w.alloc (.cells #[.slice none 0 0] 70 (0, 0))).heap.size = w.heap.size + 1 by simp] at this; exact this) hb1⟩; have HR : Hid (Kd.S k32 32 W1 (w.heap.size + 2) (fun _ => True) (.slice A L.length c) L) := Lib.hid (by have := HR1.out; simpa using this); clear HR1 hb1))
 go_step3
 go_wp2
 go_loopg [3, 16] L.length (fun k v3 v16 wr => ∃ (i : Int) (acc : List (List Int)) (N : Nat), v3 = .int .i64 (-1) ∧ v16 = .int .i64 i ∧ 0 ≤ i ∧ i ≤ (L.length : Int) ∧ (L.length : Int) - i ≤ (k : Int) ∧ (acc.length : Int) ≤ i ∧ Hid (QS w W1 N wr acc 0 0) ∧ N ≤ wr.heap.size ∧ Hid (routesS s (L.drop i.toNat) i acc = some (rt, rc, r1, r2)))
 case atStart => exact ⟨0, [], _, rfl, rfl, by omega, by omega, by omega, by simp, HQ, Nat.le_refl _, Lib.hid (by simpa using H.out)⟩
 case round =>
  clear HQ H
  obtain ⟨i, acc, N, rfl, rfl, hi0, hiL, hk, hacc, HQ, hN, H⟩ := hrel
  by_cases hlt : i < (L.length : Int)
  ·obtain ⟨x, hx⟩ : ∃ x, L[i.toNat]? = some x := ⟨_, List.getElem?_eq_getElem (by omega)⟩
   have HI1 : Hid ((i + 1).toNat = i.toNat + 1) := Lib.hid (by omega)
   have hI := H.out
   rw [drop_cons' L i.toNat x hx, routesS] at hI
   cases hxw : x.f1 with
   | nil => rw [hxw] at hI; exact absurd hI (by simp)
   | cons y ys =>
    rw [hxw] at hI
    simp only at hI
    rw [← hxw] at hI
    obtain ⟨b, hb, hI⟩ := Option.bind_eq_some_iff.mp hI
    obtain ⟨t, ht, hI⟩ := Option.bind_eq_some_iff.mp hI
    have hwi : wrap64 (i + 1) = i + 1 := w64' (by omega) (by omega)
    have HBG := Lib.hid hb
    have HTX := Lib.hid ht
    have HY : Hid (x.f1.head? = some y) := Lib.hid (by rw [hxw]; rfl)
    have hx1 : 0 < x.f1.length := by rw [hxw]; simp
    have HI := Lib.hid hI
    have hCL := HQ.out.rows HR.out
    obtain ⟨ad, A1, c1, eA, x0, x1, hl1, hC1⟩ := at_T32 hCL i hi0 hlt
    subst eA
    have hrd : rd_T32 L i = x := by
     have h2 : ((i.toNat : Nat) : Int) = i := by omega
     rw [← h2]; exact rdL' L i.toNat x hx
    rw [hrd] at x0 x1 hl1 hC1
    have HC1 := Lib.hid hC1
    obtain ⟨adw, rfl, w0, w1⟩ := words0 hC1 HY.out
    clear hb ht hI hCL hC1 hrd hxw
    obtain ⟨AP, cP, hpl, hplS⟩ := HQ.out.plan
    have hp0 := (bc1 hpl).1
    have HPL := Lib.hid hpl
    have HPS := Lib.hid hplS
    clear hpl hplS
    obtain ⟨d0, d1, d2, d3, p3⟩ := QS.cells HQ.out
    have hDlt0 : w.heap.size + 1 < wr.heap.size := by have := HQ.out.sz1; have := HQ.out.sz; omega
    have hwr0 : w.heap.size ≤ wr.heap.size := HQ.out.bel.size
    have hW1r : W1.heap.size ≤ wr.heap.size := HQ.out.sz
    have hxlen : x.f1.length ≤ 1000000 := by
     have := shR_words s.data.toList 0 x (by rw [← HLe.out]; exact List.mem_of_getElem? hx)
     have h3 : s.data.toList.length = s.size := rfl
     have := HK.out
     omega
    by_cases hc : t.toList = costL
    ·have hq : (t.toList == ([67, 111, 115, 116] : List UInt8)) = true := by rw [beq_iff_eq]; exact hc
     by_cases h2 : x.f1.length = 2
     ·have hfr : fromS x b t = 1 := by unfold fromS; rw [if_pos hc, if_pos h2]
      have hf : ¬ fromS x b t = 0 := by rw [hfr]; decide
      have hq2 : ((x.f1.length : Int) == 2) = true := by rw [beq_iff_eq]; omega
      have hq3 : ((x.f1.length : Int) != 2) = false := by rw [h2]; rfl
      clear h2
      have hI := HI.out
      rw [if_neg hf, hfr] at hI
      unfold intsS at hI
      by_cases hb : 0 ≤ (1 : Int) ∧ (1 : Int) ≤ (x.f1.length : Int)
      rotate_left
      ·rw [if_neg hb] at hI; exact absurd hI (by simp)
      rw [if_pos hb] at hI
      obtain ⟨⟨q, e1, e2⟩, hin, hI⟩ := Option.bind_eq_some_iff.mp hI
      have HIN := Lib.hid hin
      replace HI := Lib.hid hI
      clear hI hin hf hfr
      obtain ⟨hb0, hb1⟩ := hb
      have hxl : x.f1.length ≤ 1000000 := hxlen
      have hws : wrap64 ((x.f1.length : Int) - 1) = (x.f1.length : Int) - 1 := w64' (by omega) (by omega)
      have hws2 : IntKind.i64.wrap ((x.f1.length : Int) - 1) = (x.f1.length : Int) - 1 := (i64_w _).trans hws
      obtain ⟨ii, hii, _, hsz, _⟩ := info_parts info105
      have hcut := cut_from (P := Tryz.prog) 30 105 .i64 Tryz.underlying30 hii 2 hsz (some adw) x.f1.length c1 1 hb0 hb1
      have hCd := Kd.C_drop (m := (1 : Int).toNat) (c := c1) HC1.out (by omega) hl1
      obtain ⟨A2, hA2⟩ : ∃ A2, (if c1 = (1 : Int).toNat then some adw else (some adw).map (·.add ((1 : Int).toNat * 2))) = A2 := ⟨_, rfl⟩
      obtain ⟨ws, hwe⟩ : ∃ ws, x.f1.drop (1 : Int).toNat = ws := ⟨_, rfl⟩
      have hwl : x.f1.length - (1 : Int).toNat = ws.length := by rw [← hwe, List.length_drop]
      obtain ⟨c2, hc2⟩ : ∃ c2, c1 - (1 : Int).toNat = c2 := ⟨_, rfl⟩
      replace hCd : Kd.C k105 wr A2 ws.length ws := by rw [← hA2, ← hwe]; exact hCd
      have hwc : ws.length ≤ c2 := by rw [← hwl, ← hc2]; omega
      rw [hwe] at HIN
      rw [hA2, hc2, hwl] at hcut
      have HCd := Lib.hid hCd
      clear hCd hA2 hwe hc2 hwl hii hsz
      go_upto_region 14 with (first
       | ((with_reducible refine gate_dst (N := 7) rfl ?_); refine box_ev (N := 7) (cs := #[.int .i64 0, .slice none 0 0]) (t := 32) ?_; intro g7 hg W2 hbox hb; have h7 : wr.heap.size ≤ g7 := (by omega); have HB2 := Lib.hid hb; have HX2 := Lib.hid hbox; obtain ⟨z0, z1, z2, z3⟩ := bc2 hbox; clear hbox hg hb)
       | ((with_reducible refine gate_store (t := 32) (p := 7) rfl ?_); refine store_ev (t := 32) (p := 7) (w1 := ((W2.setCell ⟨g7, 0, none⟩ (.int .i64 x.f0)).setCell ⟨g7, 1, none⟩ (.slice (some adw) x.f1.length c1))) ?_; intro W3 hw; have HB3 : Hid (Below wr.heap.size wr W3) := (by rw [hw]; exact (HB2.out.setCell (p := ⟨g7, 0, none⟩) h7 _).setCell (p := ⟨g7, 1, none⟩) h7 _); have HX3 : Hid (W3.heap[g7]? = some (.cells #[.int .i64 x.f0, .slice (some adw) x.f1.length c1] 32 (0, 0))) := (by rw [hw]; exact blk_put (blk_put HX2.out 0 _ rfl) 1 _ rfl); clear hw HX2 HB2 z0 z1 z2 z3 x0 x1 d0 d1 d2 d3 p3 hp0; obtain ⟨z0, z1, z2, z3⟩ := bc2 HX3.out)
       | (go_at_call 77; refine (tour_begins.calls 200000 s x.f0 (some adw) c1 x.f1 (i + 1) b _ ?hr hl1 ?hT HBG.out).mono ?_; (case hr => exact Kd.C_below HC1.out HB3.out); (case hT => exact Tabs.kept HTB.out (HQ.out.bel.trans (HB3.out.mono HQ.out.bel.size))); rintro e W4 ⟨rfl, hb4⟩; have HB4 := Lib.hid (HB3.out.trans (hb4.mono HB3.out.size)); have HX4 := Lib.hid (blk_below HX3.out hb4); clear HB3 HX3 z0 z1 z2 z3 hb4; obtain ⟨z0, z1, z2, z3⟩ := bc2 HX4.out; have y0 := pw_cell_below HB4.out w0; have y1 := pw_cell_below HB4.out w1)
       | (go_at_call 78; refine (words_Text.calls s y.f0 y.f1 t _ HTX.out).mono ?_; rintro e W5 ⟨rfl, hb5⟩; have HB5 := Lib.hid (HB4.out.trans (hb5.mono HB4.out.size)); have HX5 := Lib.hid (blk_below HX4.out hb5); clear HB4 HX4 z0 z1 z2 z3 hb5 y0 y1; replace HQ := Lib.hid (HQ.out.step HB5.out); obtain ⟨z0, z1, z2, z3⟩ := bc2 HX5.out; clear HPL HPS; obtain ⟨AP, cP, hpl, hplS⟩ := HQ.out.plan; have hp0 := (bc1 hpl).1; have HPL := Lib.hid hpl; have HPS := Lib.hid hplS; clear hpl hplS; obtain ⟨d0, d1, d2, d3, p3⟩ := QS.cells HQ.out))
      go_cut [10, 11] (fun v10 v11 wc => ∃ (A6 : Option Addr) (c6 g11 : Nat), v10 = .slice A6 q.length c6 ∧ v11 = .pointer (some ⟨g11, 0, none⟩) ∧ wr.heap.size ≤ g11 ∧ Hid (QS w W1 N wc acc 0 0) ∧ wr.heap.size ≤ wc.heap.size ∧ Hid (wc.heap[g11]? = some (.cells #[.int .i64 e1, .int .i64 e2] 41 (0, 0))) ∧ Hid (Kd.R (Kd.int .i64) 3 wc wr.heap.size (fun _ => True) (.slice A6 q.length c6) q))
      case first =>
       obtain ⟨a90, a91, a92, a93⟩ := all9
       have hww : wr.heap.size ≤ W5.heap.size := HB5.out.size
       go_region_held3 (fun W => W.cell? ⟨g7, 0, none⟩ = some (.int .i64 x.f0) ∧ W.cell? ⟨g7, 1, none⟩ = some (.slice (some adw) x.f1.length c1) ∧ Below W5.heap.size W5 W) (exact keep2 z0 z1 qup) (first | (go_at_call 28; first | (refine (at9e W5.heap.size (by first | exact blk_new W5 _ | exact blk_new W5.drew _) (ints_calls 200000 s x.f0 A2 c2 ws _ q e1 e2 _ (Kd.C_below (Kd.C_below HCd.out HB5.out) qup) hwc HIN.out)).mono ?_; rintro e W8 ⟨⟨⟨A6, c6, rfl, hR8⟩, hb8⟩, k90, k91, k92, k93, k94⟩) | (refine (ints_calls 200000 s x.f0 A2 c2 ws _ q e1 e2 _ (Kd.C_below (Kd.C_below HCd.out HB5.out) qup) hwc HIN.out).mono ?_; rintro e W8 ⟨⟨A6, c6, rfl, hR8⟩, hb8⟩)))
       ·go_wp2
        go_meet
        case rel => exact ⟨_, _, _, rfl, rfl, Nat.le_trans hww (Below.size (w := W5) (B := W5.heap.size) qup), Lib.hid (HQ.out.step qup), Nat.le_trans hww (Below.size (w := W5) (B := W5.heap.size) qup), Lib.hid (blk_new W8 _), Lib.hid (Kd.R_below (Kd.R_lower hR8.out (Nat.le_trans hww (Below.size (B := W5.heap.size) qup))) (below_alloc (Below.refl _ _) _))⟩
       ·go_wp2
        go_meet
        case rel => exact ⟨_, _, _, rfl, rfl, hww, Lib.hid (HQ.out.step qup), Nat.le_trans hww (Below.size (w := W5) (B := W5.heap.size) qup), Lib.hid (blk_put (blk_put k94.out 0 _ rfl) 1 _ rfl), Lib.hid (R_put (R_put (Kd.R_lower hR8.out (Nat.le_trans hww (Below.size (B := W5.heap.size) qup))) k94.out 0 _) (blk_put k94.out 0 _ rfl) 1 _)⟩
      case rest =>
       obtain ⟨A6, c6, g11, rfl, rfl, h11, HQ, hwc2, HX11, HRq⟩ := hcut
       obtain ⟨z0, z1, z2, z3⟩ := bc2 HX11.out
       obtain ⟨AP, cP, hpl, hplS⟩ := HQ.out.plan
       have hp0 := (bc1 hpl).1
       have HPL := Lib.hid hpl
       have HPS := Lib.hid hplS
       clear hpl hplS
       obtain ⟨d0, d1, d2, d3, p3⟩ := QS.cells HQ.out
       have hDlt : w.heap.size + 1 < wr.heap.size := hDlt0
       by_cases he : e2 = 0
       rotate_left
       ·have hez : (e2 == 0) = false := by rw [beq_eq_false_iff_ne]; exact he
        have HE : Hid ((rt, rc, r1, r2) = (([] : List (List Int)), 0, e1, e2)) := Lib.hid (by have := HI.out; (try simp only at this); rw [if_neg he] at this; exact (Option.some.inj this).symm)
        clear he
        go_wp2_with (first
         | ((with_reducible refine gate_store (t := 41) (p := 4) rfl ?_); refine store_ev (t := 41) (p := 4) (w1 := ((wc.setCell ⟨w.heap.size + 1, 0, none⟩ (.int .i64 e1)).setCell ⟨w.heap.size + 1, 1, none⟩ (.int .i64 e2))) ?_; intro W9 hw; replace HQ : Hid (QS w W1 N W9 acc e1 e2) := (by rw [hw]; exact HQ.out.setD _ _); clear hw d0 d1 d2 d3 p3; obtain ⟨AP, cP, hpl, hplS⟩ := HQ.out.plan; have hp0 := (bc1 hpl).1; have HPL := Lib.hid hpl; have HPS := Lib.hid hplS; clear hpl hplS; obtain ⟨d0, d1, d2, d3, p3⟩ := QS.cells HQ.out))
        go_region
        go_wp2
        obtain ⟨rP, rD, rB⟩ := fin2 HPL.out HQ.out.bd HQ.out.bel (.slice none 0 0) e1 e2
        have hS := finS (w := w) (Kd.S_nil (Kd.slice 3 (Kd.int .i64)) 38 _ w.heap.size (fun _ => True)) HPL.out HQ.out.bd (.slice none 0 0) e1 e2
        have hE := HE.out
        simp only [Prod.mk.injEq] at hE
        obtain ⟨rfl, rfl, rfl, rfl⟩ := hE
        (try rw [Exit.noGoto_ret])
        refine bodyPost_ret (results_list (rs := [.cell 2 70, .tmp 3, .cell 4 41]) rfl (by simp) (.cell (w.heap.size) 70 _ (0, 0) _ rfl rP Tryz.underlying70 rfl (by kernel_rfl) (.tmp (.cell (w.heap.size + 1) 41 _ (0, 0) _ rfl rD Tryz.underlying41 rfl (by kernel_rfl) .nil)))) rfl ?_
        exact ⟨_, rfl, Kd.S_step hS (fun _ _ _ => rfl), below_drew1 rB⟩
       have hI := HI.out
       (try simp only at hI)
       rw [if_pos he] at hI
       by_cases he1 : e1 = 0
       rotate_left
       ·rw [if_neg he1] at hI; exact absurd hI (by simp)
       rw [if_pos he1] at hI
       subst he
       subst he1
       have hez : ((0 : Int) == 0) = true := rfl
       rw [if_pos hc] at hI
       unfold lastS at hI
       cases q with
       | nil => exact absurd hI (by simp)
       | cons v vs =>
        (try simp only at hI)
        cases hz : L[i.toNat + 1]? with
        | none =>
         have hd : L.drop (i.toNat + 1) = [] := List.drop_eq_nil_of_le (List.getElem?_eq_none_iff.1 hz)
         rw [hd] at hI
         have HE : Hid ((rt, rc, r1, r2) = (acc, v, 0, 0)) := Lib.hid (Option.some.inj hI).symm
         have hlt2 : ¬ (i + 1 < (L.length : Int)) := by have := List.getElem?_eq_none_iff.1 hz; omega
         clear hI hd hz
         obtain ⟨adq, rfl, hq0⟩ := int_at (Kd.R_reads' HRq.out).2.2 0 v rfl
         rw [show adq.add 0 = adq by simp [Addr.add]] at hq0
         have hlq : 0 < (v :: vs).length := by simp
         go_wp2_with (first
          | ((with_reducible refine gate_store (t := 41) (p := 4) rfl ?_); refine store_ev (t := 41) (p := 4) (w1 := ((wc.setCell ⟨w.heap.size + 1, 0, none⟩ (.int .i64 0)).setCell ⟨w.heap.size + 1, 1, none⟩ (.int .i64 0))) ?_; intro W9 hw; replace HQ : Hid (QS w W1 N W9 acc 0 0) := (by rw [hw]; exact HQ.out.setD _ _); replace HRq : Hid (Kd.R (Kd.int .i64) 3 W9 wr.heap.size (fun _ => True) (.slice (some adq) (v :: vs).length c6) (v :: vs)) := (by rw [hw]; exact Lib.hid (R_D (R_D HRq.out hDlt 0 _) hDlt 1 _)); have hwc9 : wr.heap.size ≤ W9.heap.size := (by rw [hw]; simpa [World.setCell] using hwc2); clear hw d0 d1 d2 d3 p3; obtain ⟨AP, cP, hpl, hplS⟩ := HQ.out.plan; have hp0 := (bc1 hpl).1; have HPL := Lib.hid hpl; have HPS := Lib.hid hplS; clear hpl hplS; obtain ⟨d0, d1, d2, d3, p3⟩ := QS.cells HQ.out; have hq9 := (by obtain ⟨adz, ez, hzz⟩ := int_at (Kd.R_reads' HRq.out).2.2 0 v rfl; injection ez with ez; subst ez; rw [show adq.add 0 = adq by simp [Addr.add]] at hzz; exact hzz : W9.cell? adq = some (.int .i64 v))))
         go_region
         go_wp2
         obtain ⟨rP, rD, rB⟩ := fin2 HPL.out HQ.out.bd HQ.out.bel (.slice AP acc.length cP) 0 0
         have hS := finS (w := w) HPS.out HPL.out HQ.out.bd (.slice AP acc.length cP) 0 0
         have hE := HE.out
         simp only [Prod.mk.injEq] at hE
         obtain ⟨rfl, rfl, rfl, rfl⟩ := hE
         (try rw [Exit.noGoto_ret])
         refine bodyPost_ret (results_list (rs := [.cell 2 70, .tmp 3, .cell 4 41]) rfl (by simp) (.cell (w.heap.size) 70 _ (0, 0) _ rfl rP Tryz.underlying70 rfl (by kernel_rfl) (.tmp (.cell (w.heap.size + 1) 41 _ (0, 0) _ rfl rD Tryz.underlying41 rfl (by kernel_rfl) .nil)))) rfl ?_
         exact ⟨_, rfl, Kd.S_step hS (fun _ _ _ => rfl), below_drew1 rB⟩
        | some z =>
         have hd := drop_cons' L (i.toNat + 1) z hz
         rw [hd] at hI
         have HE : Hid ((rt, rc, r1, r2) = (([] : List (List Int)), 0, z.f0, 4)) := Lib.hid (Option.some.inj hI).symm
         have hlt2 : i + 1 < (L.length : Int) := by have := (List.getElem?_eq_some_iff.1 hz).1; omega
         clear hI hd
         obtain ⟨adq, rfl, hq0⟩ := int_at (Kd.R_reads' HRq.out).2.2 0 v rfl
         rw [show adq.add 0 = adq by simp [Addr.add]] at hq0
         have hlq : 0 < (v :: vs).length := by simp
         have hi0' : 0 ≤ i + 1 := by omega
         have hrd : rd_T32 L (i + 1) = z := by
          have h2 : ((i.toNat + 1 : Nat) : Int) = i + 1 := by omega
          rw [← h2]; exact rdL' L (i.toNat + 1) z hz
         have HRD := Lib.hid hrd
         clear hz hrd
         go_wp2_with (first
          | ((with_reducible refine gate_store (t := 41) (p := 4) rfl ?_); refine store_ev (t := 41) (p := 4) (w1 := ((wc.setCell ⟨w.heap.size + 1, 0, none⟩ (.int .i64 0)).setCell ⟨w.heap.size + 1, 1, none⟩ (.int .i64 0))) ?_; intro W9 hw; replace HQ : Hid (QS w W1 N W9 acc 0 0) := (by rw [hw]; exact HQ.out.setD _ _); replace HRq : Hid (Kd.R (Kd.int .i64) 3 W9 wr.heap.size (fun _ => True) (.slice (some adq) (v :: vs).length c6) (v :: vs)) := (by rw [hw]; exact Lib.hid (R_D (R_D HRq.out hDlt 0 _) hDlt 1 _)); have hwc9 : wr.heap.size ≤ W9.heap.size := (by rw [hw]; simpa [World.setCell] using hwc2); clear hw d0 d1 d2 d3 p3; obtain ⟨AP, cP, hpl, hplS⟩ := HQ.out.plan; have hp0 := (bc1 hpl).1; have HPL := Lib.hid hpl; have HPS := Lib.hid hplS; clear hpl hplS; obtain ⟨d0, d1, d2, d3, p3⟩ := QS.cells HQ.out; have hq9 := (by obtain ⟨adz, ez, hzz⟩ := int_at (Kd.R_reads' HRq.out).2.2 0 v rfl; injection ez with ez; subst ez; rw [show adq.add 0 = adq by simp [Addr.add]] at hzz; exact hzz : W9.cell? adq = some (.int .i64 v)); have hz9 := (by obtain ⟨adz, _, _, ez, hzz, _⟩ := at_T32 (HQ.out.rows HR.out) (i + 1) hi0' hlt2; injection ez with ez; subst ez; rw [HRD.out] at hzz; exact hzz : W9.cell? (ad.add ((i + 1).toNat * 2)) = some (.int .i64 z.f0)))
          | (go_at_call 70; refine (wrong_calls _ _ _).mono ?_; rintro e W10 ⟨rfl, hb10⟩; replace HQ := Lib.hid (HQ.out.step hb10); have hq10 := pw_cell_below hb10 hq9; have HRz := Lib.hid (Kd.R_below HRq.out hb10); clear hb10 hq9 hz9 z0 z1 z2 z3 d0 d1 d2 d3 p3 hp0 HPL HPS; obtain ⟨d0, d1, d2, d3, p3⟩ := QS.cells HQ.out)
          | ((with_reducible refine gate_store (t := 41) (p := 4) rfl ?_); refine store_ev (t := 41) (p := 4) (w1 := ((W10.setCell ⟨w.heap.size + 1, 0, none⟩ (.int .i64 z.f0)).setCell ⟨w.heap.size + 1, 1, none⟩ (.int .i64 4))) ?_; intro W11 hw; replace HQ : Hid (QS w W1 N W11 acc z.f0 4) := (by rw [hw]; exact HQ.out.setD _ _); have HRy : Hid (Kd.R (Kd.int .i64) 3 W11 wr.heap.size (fun _ => True) (.slice (some adq) (v :: vs).length c6) (v :: vs)) := (by rw [hw]; exact Lib.hid (R_D (R_D HRz.out hDlt 0 _) hDlt 1 _)); have hq11 := (by obtain ⟨adz, ez, hzz⟩ := int_at (Kd.R_reads' HRy.out).2.2 0 v rfl; injection ez with ez; subst ez; rw [show adq.add 0 = adq by simp [Addr.add]] at hzz; exact hzz : W11.cell? adq = some (.int .i64 v)); clear hw d0 d1 d2 d3 p3; obtain ⟨AP, cP, hpl, hplS⟩ := HQ.out.plan; have hp0 := (bc1 hpl).1; have HPL := Lib.hid hpl; have HPS := Lib.hid hplS; clear hpl hplS; obtain ⟨d0, d1, d2, d3, p3⟩ := QS.cells HQ.out))
         go_region
         go_wp2
         obtain ⟨rP, rD, rB⟩ := fin2 HPL.out HQ.out.bd HQ.out.bel (.slice none 0 0) z.f0 4
         have hS := finS (w := w) (Kd.S_nil (Kd.slice 3 (Kd.int .i64)) 38 _ w.heap.size (fun _ => True)) HPL.out HQ.out.bd (.slice none 0 0) z.f0 4
         have hE := HE.out
         simp only [Prod.mk.injEq] at hE
         obtain ⟨rfl, rfl, rfl, rfl⟩ := hE
         (try rw [Exit.noGoto_ret])
         refine bodyPost_ret (results_list (rs := [.cell 2 70, .tmp 3, .cell 4 41]) rfl (by simp) (.cell (w.heap.size) 70 _ (0, 0) _ rfl rP Tryz.underlying70 rfl (by kernel_rfl) (.tmp (.cell (w.heap.size + 1) 41 _ (0, 0) _ rfl rD Tryz.underlying41 rfl (by kernel_rfl) .nil)))) rfl ?_
         exact ⟨_, rfl, Kd.S_step hS (fun _ _ _ => rfl), below_drew1 rB⟩
     ·have hf : fromS x b t = 0 := by unfold fromS; rw [if_pos hc, if_neg h2]
      have hq2 : ((x.f1.length : Int) == 2) = false := by rw [beq_eq_false_iff_ne]; omega
      have hq3 : ((x.f1.length : Int) != 2) = true := by rw [bne_iff_ne]; omega
      clear h2
      have HE : Hid ((rt, rc, r1, r2) = (([] : List (List Int)), 0, x.f0, 3)) := Lib.hid (by have := HI.out; rw [if_pos hf] at this; exact (Option.some.inj this).symm)
      clear hf
      go_wp2_with (first
       | ((with_reducible refine gate_dst (N := 7) rfl ?_); refine box_ev (N := 7) (cs := #[.int .i64 0, .slice none 0 0]) (t := 32) ?_; intro g7 hg W2 hbox hb; have h7 : wr.heap.size ≤ g7 := (by omega); have HB2 := Lib.hid hb; have HX2 := Lib.hid hbox; obtain ⟨z0, z1, z2, z3⟩ := bc2 hbox; clear hbox hg hb)
       | ((with_reducible refine gate_store (t := 32) (p := 7) rfl ?_); refine store_ev (t := 32) (p := 7) (w1 := ((W2.setCell ⟨g7, 0, none⟩ (.int .i64 x.f0)).setCell ⟨g7, 1, none⟩ (.slice (some adw) x.f1.length c1))) ?_; intro W3 hw; have HB3 : Hid (Below wr.heap.size wr W3) := (by rw [hw]; exact (HB2.out.setCell (p := ⟨g7, 0, none⟩) h7 _).setCell (p := ⟨g7, 1, none⟩) h7 _); have HX3 : Hid (W3.heap[g7]? = some (.cells #[.int .i64 x.f0, .slice (some adw) x.f1.length c1] 32 (0, 0))) := (by rw [hw]; exact blk_put (blk_put HX2.out 0 _ rfl) 1 _ rfl); clear hw HX2 HB2 z0 z1 z2 z3 x0 x1 d0 d1 d2 d3 p3 hp0; obtain ⟨z0, z1, z2, z3⟩ := bc2 HX3.out)
       | (go_at_call 77; refine (tour_begins.calls 200000 s x.f0 (some adw) c1 x.f1 (i + 1) b _ ?hr hl1 ?hT HBG.out).mono ?_; (case hr => exact Kd.C_below HC1.out HB3.out); (case hT => exact Tabs.kept HTB.out (HQ.out.bel.trans (HB3.out.mono HQ.out.bel.size))); rintro e W4 ⟨rfl, hb4⟩; have HB4 := Lib.hid (HB3.out.trans (hb4.mono HB3.out.size)); have HX4 := Lib.hid (blk_below HX3.out hb4); clear HB3 HX3 z0 z1 z2 z3 hb4; obtain ⟨z0, z1, z2, z3⟩ := bc2 HX4.out; have y0 := pw_cell_below HB4.out w0; have y1 := pw_cell_below HB4.out w1)
       | (go_at_call 78; refine (words_Text.calls s y.f0 y.f1 t _ HTX.out).mono ?_; rintro e W5 ⟨rfl, hb5⟩; have HB5 := Lib.hid (HB4.out.trans (hb5.mono HB4.out.size)); have HX5 := Lib.hid (blk_below HX4.out hb5); clear HB4 HX4 z0 z1 z2 z3 hb5 y0 y1; replace HQ := Lib.hid (HQ.out.step HB5.out); obtain ⟨z0, z1, z2, z3⟩ := bc2 HX5.out; clear HPL HPS; obtain ⟨AP, cP, hpl, hplS⟩ := HQ.out.plan; have hp0 := (bc1 hpl).1; have HPL := Lib.hid hpl; have HPS := Lib.hid hplS; clear hpl hplS; obtain ⟨d0, d1, d2, d3, p3⟩ := QS.cells HQ.out)
       | (go_at_call 70; refine (wrong_calls _ _ _).mono ?_; rintro e W6 ⟨rfl, hb6⟩; replace HQ := Lib.hid (HQ.out.step hb6); clear hb6 z0 z1 z2 z3 d0 d1 d2 d3 p3 hp0 HPL HPS; obtain ⟨d0, d1, d2, d3, p3⟩ := QS.cells HQ.out)
       | ((with_reducible refine gate_store (t := 41) (p := 4) rfl ?_); refine store_ev (t := 41) (p := 4) (w1 := ((W6.setCell ⟨w.heap.size + 1, 0, none⟩ (.int .i64 x.f0)).setCell ⟨w.heap.size + 1, 1, none⟩ (.int .i64 3))) ?_; intro W7 hw; replace HQ : Hid (QS w W1 N W7 acc x.f0 3) := (by rw [hw]; exact HQ.out.setD _ _); clear hw d0 d1 d2 d3 p3; obtain ⟨AP, cP, hpl, hplS⟩ := HQ.out.plan; have hp0 := (bc1 hpl).1; have HPL := Lib.hid hpl; have HPS := Lib.hid hplS; clear hpl hplS; obtain ⟨d0, d1, d2, d3, p3⟩ := QS.cells HQ.out))
      go_region
      go_wp2
      obtain ⟨rP, rD, rB⟩ := fin2 HPL.out HQ.out.bd HQ.out.bel (.slice none 0 0) x.f0 3
      have hS := finS (w := w) (Kd.S_nil (Kd.slice 3 (Kd.int .i64)) 38 _ w.heap.size (fun _ => True)) HPL.out HQ.out.bd (.slice none 0 0) x.f0 3
      have hE := HE.out
      simp only [Prod.mk.injEq] at hE
      obtain ⟨rfl, rfl, rfl, rfl⟩ := hE
      (try rw [Exit.noGoto_ret])
      refine bodyPost_ret (results_list (rs := [.cell 2 70, .tmp 3, .cell 4 41]) rfl (by simp) (.cell (w.heap.size) 70 _ (0, 0) _ rfl rP Tryz.underlying70 rfl (by kernel_rfl) (.tmp (.cell (w.heap.size + 1) 41 _ (0, 0) _ rfl rD Tryz.underlying41 rfl (by kernel_rfl) .nil)))) rfl ?_
      exact ⟨_, rfl, Kd.S_step hS (fun _ _ _ => rfl), below_drew1 rB⟩
    ·have hq : (t.toList == ([67, 111, 115, 116] : List UInt8)) = false := by rw [beq_eq_false_iff_ne]; exact hc
     have hfr : fromS x b t = b := by unfold fromS; rw [if_neg hc]
     by_cases hf : fromS x b t = 0
     ·have hqb : (b == 0) = true := by rw [beq_iff_eq, ← hfr]; exact hf
      have HE : Hid ((rt, rc, r1, r2) = (([] : List (List Int)), 0, x.f0, 3)) := Lib.hid (by have := HI.out; rw [if_pos hf] at this; exact (Option.some.inj this).symm)
      clear hf
      go_wp2_with (first
       | ((with_reducible refine gate_dst (N := 7) rfl ?_); refine box_ev (N := 7) (cs := #[.int .i64 0, .slice none 0 0]) (t := 32) ?_; intro g7 hg W2 hbox hb; have h7 : wr.heap.size ≤ g7 := (by omega); have HB2 := Lib.hid hb; have HX2 := Lib.hid hbox; obtain ⟨z0, z1, z2, z3⟩ := bc2 hbox; clear hbox hg hb)
       | ((with_reducible refine gate_store (t := 32) (p := 7) rfl ?_); refine store_ev (t := 32) (p := 7) (w1 := ((W2.setCell ⟨g7, 0, none⟩ (.int .i64 x.f0)).setCell ⟨g7, 1, none⟩ (.slice (some adw) x.f1.length c1))) ?_; intro W3 hw; have HB3 : Hid (Below wr.heap.size wr W3) := (by rw [hw]; exact (HB2.out.setCell (p := ⟨g7, 0, none⟩) h7 _).setCell (p := ⟨g7, 1, none⟩) h7 _); have HX3 : Hid (W3.heap[g7]? = some (.cells #[.int .i64 x.f0, .slice (some adw) x.f1.length c1] 32 (0, 0))) := (by rw [hw]; exact blk_put (blk_put HX2.out 0 _ rfl) 1 _ rfl); clear hw HX2 HB2 z0 z1 z2 z3 x0 x1 d0 d1 d2 d3 p3 hp0; obtain ⟨z0, z1, z2, z3⟩ := bc2 HX3.out)
       | (go_at_call 77; refine (tour_begins.calls 200000 s x.f0 (some adw) c1 x.f1 (i + 1) b _ ?hr hl1 ?hT HBG.out).mono ?_; (case hr => exact Kd.C_below HC1.out HB3.out); (case hT => exact Tabs.kept HTB.out (HQ.out.bel.trans (HB3.out.mono HQ.out.bel.size))); rintro e W4 ⟨rfl, hb4⟩; have HB4 := Lib.hid (HB3.out.trans (hb4.mono HB3.out.size)); have HX4 := Lib.hid (blk_below HX3.out hb4); clear HB3 HX3 z0 z1 z2 z3 hb4; obtain ⟨z0, z1, z2, z3⟩ := bc2 HX4.out; have y0 := pw_cell_below HB4.out w0; have y1 := pw_cell_below HB4.out w1)
       | (go_at_call 78; refine (words_Text.calls s y.f0 y.f1 t _ HTX.out).mono ?_; rintro e W5 ⟨rfl, hb5⟩; have HB5 := Lib.hid (HB4.out.trans (hb5.mono HB4.out.size)); have HX5 := Lib.hid (blk_below HX4.out hb5); clear HB4 HX4 z0 z1 z2 z3 hb5 y0 y1; replace HQ := Lib.hid (HQ.out.step HB5.out); obtain ⟨z0, z1, z2, z3⟩ := bc2 HX5.out; clear HPL HPS; obtain ⟨AP, cP, hpl, hplS⟩ := HQ.out.plan; have hp0 := (bc1 hpl).1; have HPL := Lib.hid hpl; have HPS := Lib.hid hplS; clear hpl hplS; obtain ⟨d0, d1, d2, d3, p3⟩ := QS.cells HQ.out)
       | (go_at_call 70; refine (wrong_calls _ _ _).mono ?_; rintro e W6 ⟨rfl, hb6⟩; replace HQ := Lib.hid (HQ.out.step hb6); clear hb6 z0 z1 z2 z3 d0 d1 d2 d3 p3 hp0 HPL HPS; obtain ⟨d0, d1, d2, d3, p3⟩ := QS.cells HQ.out)
       | ((with_reducible refine gate_store (t := 41) (p := 4) rfl ?_); refine store_ev (t := 41) (p := 4) (w1 := ((W6.setCell ⟨w.heap.size + 1, 0, none⟩ (.int .i64 x.f0)).setCell ⟨w.heap.size + 1, 1, none⟩ (.int .i64 3))) ?_; intro W7 hw; replace HQ : Hid (QS w W1 N W7 acc x.f0 3) := (by rw [hw]; exact HQ.out.setD _ _); clear hw d0 d1 d2 d3 p3; obtain ⟨AP, cP, hpl, hplS⟩ := HQ.out.plan; have hp0 := (bc1 hpl).1; have HPL := Lib.hid hpl; have HPS := Lib.hid hplS; clear hpl hplS; obtain ⟨d0, d1, d2, d3, p3⟩ := QS.cells HQ.out))
      go_region
      go_wp2
      obtain ⟨rP, rD, rB⟩ := fin2 HPL.out HQ.out.bd HQ.out.bel (.slice none 0 0) x.f0 3
      have hS := finS (w := w) (Kd.S_nil (Kd.slice 3 (Kd.int .i64)) 38 _ w.heap.size (fun _ => True)) HPL.out HQ.out.bd (.slice none 0 0) x.f0 3
      have hE := HE.out
      simp only [Prod.mk.injEq] at hE
      obtain ⟨rfl, rfl, rfl, rfl⟩ := hE
      (try rw [Exit.noGoto_ret])
      refine bodyPost_ret (results_list (rs := [.cell 2 70, .tmp 3, .cell 4 41]) rfl (by simp) (.cell (w.heap.size) 70 _ (0, 0) _ rfl rP Tryz.underlying70 rfl (by kernel_rfl) (.tmp (.cell (w.heap.size + 1) 41 _ (0, 0) _ rfl rD Tryz.underlying41 rfl (by kernel_rfl) .nil)))) rfl ?_
      exact ⟨_, rfl, Kd.S_step hS (fun _ _ _ => rfl), below_drew1 rB⟩
     ·have hqb : (b == 0) = false := by rw [beq_eq_false_iff_ne, ← hfr]; exact hf
      have hI := HI.out
      rw [if_neg hf, hfr] at hI
      unfold intsS at hI
      by_cases hb : 0 ≤ (b : Int) ∧ (b : Int) ≤ (x.f1.length : Int)
      rotate_left
      ·rw [if_neg hb] at hI; exact absurd hI (by simp)
      rw [if_pos hb] at hI
      obtain ⟨⟨q, e1, e2⟩, hin, hI⟩ := Option.bind_eq_some_iff.mp hI
      have HIN := Lib.hid hin
      replace HI := Lib.hid hI
      clear hI hin hf hfr
      obtain ⟨hb0, hb1⟩ := hb
      have hxl : x.f1.length ≤ 1000000 := hxlen
      have hws : wrap64 ((x.f1.length : Int) - b) = (x.f1.length : Int) - b := w64' (by omega) (by omega)
      have hws2 : IntKind.i64.wrap ((x.f1.length : Int) - b) = (x.f1.length : Int) - b := (i64_w _).trans hws
      obtain ⟨ii, hii, _, hsz, _⟩ := info_parts info105
      have hcut := cut_from (P := Tryz.prog) 30 105 .i64 Tryz.underlying30 hii 2 hsz (some adw) x.f1.length c1 b hb0 hb1
      have hCd := Kd.C_drop (m := (b : Int).toNat) (c := c1) HC1.out (by omega) hl1
      obtain ⟨A2, hA2⟩ : ∃ A2, (if c1 = (b : Int).toNat then some adw else (some adw).map (·.add ((b : Int).toNat * 2))) = A2 := ⟨_, rfl⟩
      obtain ⟨ws, hwe⟩ : ∃ ws, x.f1.drop (b : Int).toNat = ws := ⟨_, rfl⟩
      have hwl : x.f1.length - (b : Int).toNat = ws.length := by rw [← hwe, List.length_drop]
      obtain ⟨c2, hc2⟩ : ∃ c2, c1 - (b : Int).toNat = c2 := ⟨_, rfl⟩
      replace hCd : Kd.C k105 wr A2 ws.length ws := by rw [← hA2, ← hwe]; exact hCd
      have hwc : ws.length ≤ c2 := by rw [← hwl, ← hc2]; omega
      rw [hwe] at HIN
      rw [hA2, hc2, hwl] at hcut
      have HCd := Lib.hid hCd
      clear hCd hA2 hwe hc2 hwl hii hsz
      go_upto_region 14 with (first
       | ((with_reducible refine gate_dst (N := 7) rfl ?_); refine box_ev (N := 7) (cs := #[.int .i64 0, .slice none 0 0]) (t := 32) ?_; intro g7 hg W2 hbox hb; have h7 : wr.heap.size ≤ g7 := (by omega); have HB2 := Lib.hid hb; have HX2 := Lib.hid hbox; obtain ⟨z0, z1, z2, z3⟩ := bc2 hbox; clear hbox hg hb)
       | ((with_reducible refine gate_store (t := 32) (p := 7) rfl ?_); refine store_ev (t := 32) (p := 7) (w1 := ((W2.setCell ⟨g7, 0, none⟩ (.int .i64 x.f0)).setCell ⟨g7, 1, none⟩ (.slice (some adw) x.f1.length c1))) ?_; intro W3 hw; have HB3 : Hid (Below wr.heap.size wr W3) := (by rw [hw]; exact (HB2.out.setCell (p := ⟨g7, 0, none⟩) h7 _).setCell (p := ⟨g7, 1, none⟩) h7 _); have HX3 : Hid (W3.heap[g7]? = some (.cells #[.int .i64 x.f0, .slice (some adw) x.f1.length c1] 32 (0, 0))) := (by rw [hw]; exact blk_put (blk_put HX2.out 0 _ rfl) 1 _ rfl); clear hw HX2 HB2 z0 z1 z2 z3 x0 x1 d0 d1 d2 d3 p3 hp0; obtain ⟨z0, z1, z2, z3⟩ := bc2 HX3.out)
       | (go_at_call 77; refine (tour_begins.calls 200000 s x.f0 (some adw) c1 x.f1 (i + 1) b _ ?hr hl1 ?hT HBG.out).mono ?_; (case hr => exact Kd.C_below HC1.out HB3.out); (case hT => exact Tabs.kept HTB.out (HQ.out.bel.trans (HB3.out.mono HQ.out.bel.size))); rintro e W4 ⟨rfl, hb4⟩; have HB4 := Lib.hid (HB3.out.trans (hb4.mono HB3.out.size)); have HX4 := Lib.hid (blk_below HX3.out hb4); clear HB3 HX3 z0 z1 z2 z3 hb4; obtain ⟨z0, z1, z2, z3⟩ := bc2 HX4.out; have y0 := pw_cell_below HB4.out w0; have y1 := pw_cell_below HB4.out w1)
       | (go_at_call 78; refine (words_Text.calls s y.f0 y.f1 t _ HTX.out).mono ?_; rintro e W5 ⟨rfl, hb5⟩; have HB5 := Lib.hid (HB4.out.trans (hb5.mono HB4.out.size)); have HX5 := Lib.hid (blk_below HX4.out hb5); clear HB4 HX4 z0 z1 z2 z3 hb5 y0 y1; replace HQ := Lib.hid (HQ.out.step HB5.out); obtain ⟨z0, z1, z2, z3⟩ := bc2 HX5.out; clear HPL HPS; obtain ⟨AP, cP, hpl, hplS⟩ := HQ.out.plan; have hp0 := (bc1 hpl).1; have HPL := Lib.hid hpl; have HPS := Lib.hid hplS; clear hpl hplS; obtain ⟨d0, d1, d2, d3, p3⟩ := QS.cells HQ.out))
      go_cut [10, 11] (fun v10 v11 wc => ∃ (A6 : Option Addr) (c6 g11 : Nat), v10 = .slice A6 q.length c6 ∧ v11 = .pointer (some ⟨g11, 0, none⟩) ∧ wr.heap.size ≤ g11 ∧ Hid (QS w W1 N wc acc 0 0) ∧ wr.heap.size ≤ wc.heap.size ∧ Hid (wc.heap[g11]? = some (.cells #[.int .i64 e1, .int .i64 e2] 41 (0, 0))) ∧ Hid (Kd.R (Kd.int .i64) 3 wc wr.heap.size (fun _ => True) (.slice A6 q.length c6) q))
      case first =>
       obtain ⟨a90, a91, a92, a93⟩ := all9
       have hww : wr.heap.size ≤ W5.heap.size := HB5.out.size
       go_region_held3 (fun W => W.cell? ⟨g7, 0, none⟩ = some (.int .i64 x.f0) ∧ W.cell? ⟨g7, 1, none⟩ = some (.slice (some adw) x.f1.length c1) ∧ Below W5.heap.size W5 W) (exact keep2 z0 z1 qup) (first | (go_at_call 28; first | (refine (at9e W5.heap.size (by first | exact blk_new W5 _ | exact blk_new W5.drew _) (ints_calls 200000 s x.f0 A2 c2 ws _ q e1 e2 _ (Kd.C_below (Kd.C_below HCd.out HB5.out) qup) hwc HIN.out)).mono ?_; rintro e W8 ⟨⟨⟨A6, c6, rfl, hR8⟩, hb8⟩, k90, k91, k92, k93, k94⟩) | (refine (ints_calls 200000 s x.f0 A2 c2 ws _ q e1 e2 _ (Kd.C_below (Kd.C_below HCd.out HB5.out) qup) hwc HIN.out).mono ?_; rintro e W8 ⟨⟨A6, c6, rfl, hR8⟩, hb8⟩)))
       ·go_wp2
        go_meet
        case rel => exact ⟨_, _, _, rfl, rfl, Nat.le_trans hww (Below.size (w := W5) (B := W5.heap.size) qup), Lib.hid (HQ.out.step qup), Nat.le_trans hww (Below.size (w := W5) (B := W5.heap.size) qup), Lib.hid (blk_new W8 _), Lib.hid (Kd.R_below (Kd.R_lower hR8.out (Nat.le_trans hww (Below.size (B := W5.heap.size) qup))) (below_alloc (Below.refl _ _) _))⟩
       ·go_wp2
        go_meet
        case rel => exact ⟨_, _, _, rfl, rfl, hww, Lib.hid (HQ.out.step qup), Nat.le_trans hww (Below.size (w := W5) (B := W5.heap.size) qup), Lib.hid (blk_put (blk_put k94.out 0 _ rfl) 1 _ rfl), Lib.hid (R_put (R_put (Kd.R_lower hR8.out (Nat.le_trans hww (Below.size (B := W5.heap.size) qup))) k94.out 0 _) (blk_put k94.out 0 _ rfl) 1 _)⟩
      case rest =>
       obtain ⟨A6, c6, g11, rfl, rfl, h11, HQ, hwc2, HX11, HRq⟩ := hcut
       obtain ⟨z0, z1, z2, z3⟩ := bc2 HX11.out
       obtain ⟨AP, cP, hpl, hplS⟩ := HQ.out.plan
       have hp0 := (bc1 hpl).1
       have HPL := Lib.hid hpl
       have HPS := Lib.hid hplS
       clear hpl hplS
       obtain ⟨d0, d1, d2, d3, p3⟩ := QS.cells HQ.out
       have hDlt : w.heap.size + 1 < wr.heap.size := hDlt0
       by_cases he : e2 = 0
       rotate_left
       ·have hez : (e2 == 0) = false := by rw [beq_eq_false_iff_ne]; exact he
        have HE : Hid ((rt, rc, r1, r2) = (([] : List (List Int)), 0, e1, e2)) := Lib.hid (by have := HI.out; (try simp only at this); rw [if_neg he] at this; exact (Option.some.inj this).symm)
        clear he
        go_wp2_with (first
         | ((with_reducible refine gate_store (t := 41) (p := 4) rfl ?_); refine store_ev (t := 41) (p := 4) (w1 := ((wc.setCell ⟨w.heap.size + 1, 0, none⟩ (.int .i64 e1)).setCell ⟨w.heap.size + 1, 1, none⟩ (.int .i64 e2))) ?_; intro W9 hw; replace HQ : Hid (QS w W1 N W9 acc e1 e2) := (by rw [hw]; exact HQ.out.setD _ _); clear hw d0 d1 d2 d3 p3; obtain ⟨AP, cP, hpl, hplS⟩ := HQ.out.plan; have hp0 := (bc1 hpl).1; have HPL := Lib.hid hpl; have HPS := Lib.hid hplS; clear hpl hplS; obtain ⟨d0, d1, d2, d3, p3⟩ := QS.cells HQ.out))
        go_region
        go_wp2
        obtain ⟨rP, rD, rB⟩ := fin2 HPL.out HQ.out.bd HQ.out.bel (.slice none 0 0) e1 e2
        have hS := finS (w := w) (Kd.S_nil (Kd.slice 3 (Kd.int .i64)) 38 _ w.heap.size (fun _ => True)) HPL.out HQ.out.bd (.slice none 0 0) e1 e2
        have hE := HE.out
        simp only [Prod.mk.injEq] at hE
        obtain ⟨rfl, rfl, rfl, rfl⟩ := hE
        (try rw [Exit.noGoto_ret])
        refine bodyPost_ret (results_list (rs := [.cell 2 70, .tmp 3, .cell 4 41]) rfl (by simp) (.cell (w.heap.size) 70 _ (0, 0) _ rfl rP Tryz.underlying70 rfl (by kernel_rfl) (.tmp (.cell (w.heap.size + 1) 41 _ (0, 0) _ rfl rD Tryz.underlying41 rfl (by kernel_rfl) .nil)))) rfl ?_
        exact ⟨_, rfl, Kd.S_step hS (fun _ _ _ => rfl), below_drew1 rB⟩
       have hI := HI.out
       (try simp only at hI)
       rw [if_pos he] at hI
       by_cases he1 : e1 = 0
       rotate_left
       ·rw [if_neg he1] at hI; exact absurd hI (by simp)
       rw [if_pos he1] at hI
       subst he
       subst he1
       have hez : ((0 : Int) == 0) = true := rfl
       rw [if_neg hc] at hI
       have HI3 := Lib.hid hI
       clear hI HI
       have hal : (acc.length + 1) * 24 ≤ 140737488355328 := by omega
       go_wp2_with (first
        | ((with_reducible refine gate_store (t := 41) (p := 4) rfl ?_); refine store_ev (t := 41) (p := 4) (w1 := ((wc.setCell ⟨w.heap.size + 1, 0, none⟩ (.int .i64 0)).setCell ⟨w.heap.size + 1, 1, none⟩ (.int .i64 0))) ?_; intro W9 hw; replace HQ : Hid (QS w W1 N W9 acc 0 0) := (by rw [hw]; exact HQ.out.setD _ _); replace HRq : Hid (Kd.R (Kd.int .i64) 3 W9 wr.heap.size (fun _ => True) (.slice A6 q.length c6) q) := (by rw [hw]; exact Lib.hid (R_D (R_D HRq.out hDlt 0 _) hDlt 1 _)); have hwc9 : wr.heap.size ≤ W9.heap.size := (by rw [hw]; simpa [World.setCell] using hwc2); clear hw d0 d1 d2 d3 p3; obtain ⟨AP, cP, hpl, hplS⟩ := HQ.out.plan; have hp0 := (bc1 hpl).1; have HPL := Lib.hid hpl; have HPS := Lib.hid hplS; clear hpl hplS; obtain ⟨d0, d1, d2, d3, p3⟩ := QS.cells HQ.out)
        | ((with_reducible refine gate_builtin (b := .append) (xs := #[.tmp 70, .tmp 72]) rfl ?_); at_builtin; refine Kd.S_append (Kd.slice 3 (Kd.int .i64)) (w0 := w) w.heap.size rfl (.tmp 70) (.tmp 72) 68 38 (.slice none 0 0) 24 rfl Tryz.underlying68 info38 rfl (by decide) (by omega) (.slice AP acc.length cP) acc q [.slice A6 q.length c6] (fun k => W1.heap.size ≤ k) (fun k => wr.heap.size ≤ k) rfl rfl ?aP ?aK ?aF ?aO ?aB ?aS ?aL ?_; (case aP => exact ⟨_, rfl, Kd.R_lower (Kd.R_mono (Kd.R_bound HRq.out) (fun k hk => hk.2.1)) hwr0⟩); (case aK => exact (fun k hk => ⟨Nat.le_trans hW1r hk, fun he => by have := (Kd.S_R HPS.out).1 k he.symm; have := this.2; omega⟩)); (case aF => exact (fun k hk => Nat.le_trans HQ.out.sz hk)); (case aO => exact Kd.S_mono HPS.out (fun k hk => ⟨hk.1, by have := hk.2; omega⟩)); (case aB => exact HQ.out.bel); (case aS => exact HQ.out.bel.size); (case aL => exact hal); intro v10 W10 ho hb hg hat; obtain ⟨A11, c11, rfl⟩ := Kd.S_slice ho; have HG := Lib.hid (hg); have HBW := Lib.hid hb; have HO := Lib.hid ho; have HSZ : Hid (W9.heap.size ≤ W10.heap.size) := Lib.hid (hg.size); have hp10 := (bc1 ((hg.block w.heap.size (Nat.lt_of_lt_of_le (by omega) hwc9) (fun he => by have := ((Kd.S_R HPS.out).1 _ he.symm).1; have := HQ.out.sz1; omega)).trans HPL.out)); clear ho hb hg hat hp0 d0 d1 d2 d3 p3; obtain ⟨hp0, p3⟩ := hp10))
       have hk1 : gk - 1 < gk := by omega
       have hk2 : (L.length : Int) - (i + 1) ≤ ((gk - 1 : Nat) : Int) := by omega
       go_roundg (gk - 1)
       case measure => exact hk1
       case rel =>
        have hA := QS.app HQ.out (row := (Value.slice AP acc.length cP).ownBlock) (fun k he => ((Kd.S_R HPS.out).1 k he).1) HG.out HBW.out HSZ.out (Kd.S_mono (Kd.S_bound HO.out) (fun k hk => ⟨hk.1, hk.2.2.1⟩))
        simp only [List.length_append, List.length_cons, List.length_nil, Nat.zero_add] at hA
        exact ⟨i + 1, acc ++ [q], W10.heap.size, rfl, rfl, by omega, by omega, hk2, by rw [List.length_append]; simp; omega, Lib.hid hA, by simp [World.setCell], Lib.hid (by rw [HI1.out]; exact HI3.out)⟩
  ·have hE : routesS s (L.drop i.toNat) i acc = some (acc, -1, 0, 0) := by
    rw [List.drop_eq_nil_of_le (by omega), routesS]
   have HE := Lib.hid (Option.some.inj (H.out.symm.trans hE))
   clear hE H
   obtain ⟨AP, cP, hpl, hplS⟩ := HQ.out.plan
   have hp0 := (bc1 hpl).1
   have HPL := Lib.hid hpl
   have HPS := Lib.hid hplS
   clear hpl hplS
   obtain ⟨d0, d1, d2, d3, p3⟩ := QS.cells HQ.out
   go_wp2
   go_region
   go_wp2
   obtain ⟨rP, rD, rB⟩ := fin2 HPL.out HQ.out.bd HQ.out.bel (.slice AP acc.length cP) 0 0
   have hS := finS (w := w) HPS.out HPL.out HQ.out.bd (.slice AP acc.length cP) 0 0
   have hE := HE.out
   simp only [Prod.mk.injEq] at hE
   obtain ⟨rfl, rfl, rfl, rfl⟩ := hE
   (try rw [Exit.noGoto_ret])
   refine bodyPost_ret (results_list (rs := [.cell 2 70, .tmp 3, .cell 4 41]) rfl (by simp) (.cell (w.heap.size) 70 _ (0, 0) _ rfl rP Tryz.underlying70 rfl (by kernel_rfl) (.tmp (.cell (w.heap.size + 1) 41 _ (0, 0) _ rfl rD Tryz.underlying41 rfl (by kernel_rfl) .nil)))) rfl ?_
   exact ⟨_, rfl, Kd.S_step hS (fun _ _ _ => rfl), below_drew1 rB⟩
end Go.Proofs.YtadocbfchdendaaGreatDoor.Cu
namespace Go.Proofs.YtadocbfchdendaaGreatDoor.P
open Go.RowKit Go.Lib Go.Proofs.YtadocbfchdendaaGreatDoorW.PrintWords
def tour_ParseRoutes.f (a0 : ByteArray) : Option (List (List Int) × Int × Int × Int) := Cu.parseRoutes a0
theorem tour_ParseRoutes.calls (a0 : ByteArray) (r1 : List (List Int)) (r2 : Int) (r3 : Int) (r4 : Int) (w : World) (hT : Tabs w) (h : tour_ParseRoutes.f a0 = some (r1, r2, r3, r4)) :
  Calls Tryz.prog 36 #[.string a0] w fun e w' => ∃ v0_ : Value, e = .returned (.tuple #[.agg #[v0_], .int .i64 r2, .agg #[.int .i64 r3, .int .i64 r4]]) ∧ Kd.S (Kd.slice 3 (Kd.int .i64)) 38 w' w.heap.size (fun _ => True) v0_ r1 ∧ Below w.heap.size w w' := Cu.ParseRoutes_calls a0 r1 r2 r3 r4 w hT h
end Go.Proofs.YtadocbfchdendaaGreatDoor.P
