/- Part 2 of the proof of SheetNumbers: contracts of functions, and the words that they use. -/
import Derived.Test.YtadocbfchdendaaGreatDoorProg
import Derived.Tactics
import Derived.Tactics2
import Derived.Defers
import Derived.Recover
import Derived.Below
import Derived.WalkKit
import Derived.WalkLawsBesides
import Derived.WalkSpells
import Derived.Outline
import Derived.Lib.Hide
import Derived.BigQuiet
import Derived.Deep.QuietTactic
import Derived.Lib.Strings
import Derived.Lib.Atoi
import Derived.Lib.ItoaNum
import Derived.Lib.OthersKept
import Derived.Deep.LoopGhost
import Derived.Laws.RangeAny
import Derived.Test.YtadocbfchdendaaGreatDoorMSheetNumbersA
import Derived.Lib.SpaceUEq
import Derived.WalkSmall
import Derived.Lib.AtoiErrMem
set_option linter.unusedVariables false
set_option linter.unusedSimpArgs false
namespace Go.Proofs.YtadocbfchdendaaGreatDoor.Fx
open Go.RowKit
theorem need_yes (e : Int) (w : World) :
    Calls Tryz.prog 102 #[.bool true, .int .i64 e] w fun en w' => en = .returned (.tuple #[]) ∧ w' = w := by
  go_enter Tryz.func102, Tryz.ntmps102
  go_wp2
  go_end0
  exact ⟨rfl, rfl⟩

theorem need_no (e : Int) (w : World) :
    Calls Tryz.prog 102 #[.bool false, .int .i64 e] w fun en w' => en = .panicked [{ v := .iface 180 (.int .i64 e), recovered := false }] ∧ w' = w := by
  go_enter Tryz.func102, Tryz.ntmps102
  go_wp2
  exact ⟨rfl, rfl, rfl⟩

theorem caught_nil (p : Addr) (w : World) :
    Calls Tryz.prog 97 #[.pointer (some p), .nilIface] w fun en w' => en = .returned (.tuple #[]) ∧ w' = w := by
  go_enter Tryz.func97, Tryz.ntmps97
  go_wp2
  go_end0
  exact ⟨rfl, rfl⟩

theorem caught_fault (p : Addr) (e : Int) (x : Value) (w : World) (hc : w.cell? p = some x) (hz : w.frozen? p = false) :
    Calls Tryz.prog 97 #[.pointer (some p), .iface 180 (.int .i64 e)] w fun en w' => en = .returned (.tuple #[]) ∧ w' = w.setCell p (.int .i64 e) := by
  have hta : ∀ (v : Value) (W : World), (Instr.typeAssert (.iface 180 v) 20 180 true).run Tryz.prog W = .ok (.tuple #[v, .bool true]) W := fun v W => by simp [Instr.typeAssert, run_underlying Tryz.underlying180, go_sem, Result.andThen]
  go_enter Tryz.func97, Tryz.ntmps97
  go_wp2
  go_end0
  exact ⟨rfl, rfl⟩
theorem readD_fault (p : Addr) (e : Int) (x : Value) (older : List PanicEntry) (w : World) (hc : w.cell? p = some x) (hz : w.frozen? p = false) :
    CallsD Tryz.prog 107 #[.pointer (some p)] (.panicking ({ v := .iface 180 (.int .i64 e), recovered := false } :: older)) w fun en u' w' =>
      en = .returned (.tuple #[]) ∧ u' = .panicking ({ v := .iface 180 (.int .i64 e), recovered := true } :: older) ∧ w' = w.setCell p (.int .i64 e) := by
  refine callsD_of_wpS Tryz.func107 rfl fun c₀ cs hu => ?_
  apply wpS_region
  simp [wpOpsS, go_sem, recoverD, hu, Tryz.ntmps107]
  refine (caught_fault p e x w hc hz).mono ?_
  rintro e w' ⟨rfl, rfl⟩
  simp [bodyPostS, results, Tryz.results107]

theorem readD_idle (p : Addr) (w : World) :
    CallsD Tryz.prog 107 #[.pointer (some p)] .returning w fun en u' w' =>
      en = .returned (.tuple #[]) ∧ u' = .returning ∧ w' = w := by
  refine callsD_of_wpS Tryz.func107 rfl fun c₀ cs hu => ?_
  apply wpS_region
  simp [wpOpsS, go_sem, recoverD, hu, Tryz.ntmps107]
  refine (caught_nil p w).mono ?_
  rintro e w' ⟨rfl, rfl⟩
  cases c₀
  simp_all [bodyPostS, results, Tryz.results107]

theorem intD_fault (p : Addr) (e : Int) (x : Value) (older : List PanicEntry) (w : World) (hc : w.cell? p = some x) (hz : w.frozen? p = false) :
    CallsD Tryz.prog 96 #[.pointer (some p)] (.panicking ({ v := .iface 180 (.int .i64 e), recovered := false } :: older)) w fun en u' w' =>
      en = .returned (.tuple #[]) ∧ u' = .panicking ({ v := .iface 180 (.int .i64 e), recovered := true } :: older) ∧ w' = w.setCell p (.int .i64 e) := by
  refine callsD_of_wpS Tryz.func96 rfl fun c₀ cs hu => ?_
  apply wpS_region
  simp [wpOpsS, go_sem, recoverD, hu, Tryz.ntmps96]
  refine (caught_fault p e x w hc hz).mono ?_
  rintro e w' ⟨rfl, rfl⟩
  simp [bodyPostS, results, Tryz.results96]

theorem intD_idle (p : Addr) (w : World) :
    CallsD Tryz.prog 96 #[.pointer (some p)] .returning w fun en u' w' =>
      en = .returned (.tuple #[]) ∧ u' = .returning ∧ w' = w := by
  refine callsD_of_wpS Tryz.func96 rfl fun c₀ cs hu => ?_
  apply wpS_region
  simp [wpOpsS, go_sem, recoverD, hu, Tryz.ntmps96]
  refine (caught_nil p w).mono ?_
  rintro e w' ⟨rfl, rfl⟩
  cases c₀
  simp_all [bodyPostS, results, Tryz.results96]

theorem end_yes (g : Nat) (w : World) (hc : w.cell? ⟨g, 0, none⟩ = some (.string ⟨#[]⟩)) :
    Calls Tryz.prog 101 #[.pointer (some ⟨g, 0, none⟩)] w fun en w' => en = .returned (.tuple #[]) ∧ w' = w := by
  go_enter Tryz.func101, Tryz.ntmps101
  go_wp2_with (go_at_call 102; refine (need_yes 20 _).mono ?_; rintro e w' ⟨rfl, rfl⟩)
  go_end0
  exact ⟨rfl, rfl⟩

theorem end_no (g : Nat) (s : ByteArray) (w : World) (hc : w.cell? ⟨g, 0, none⟩ = some (.string s)) (hs : s.toList.isEmpty = false) :
    Calls Tryz.prog 101 #[.pointer (some ⟨g, 0, none⟩)] w fun en w' => en = .panicked [{ v := .iface 180 (.int .i64 20), recovered := false }] ∧ w' = w := by
  go_enter Tryz.func101, Tryz.ntmps101
  go_wp2_with (go_at_call 102; refine (need_no 20 _).mono ?_; rintro e w' ⟨rfl, rfl⟩)
  exact ⟨rfl, rfl, rfl⟩
end Go.Proofs.YtadocbfchdendaaGreatDoor.Fx
namespace Go.Proofs.YtadocbfchdendaaGreatDoor.Sp
def dig (c : UInt8) : Bool := decide (48 ≤ c.toNat) && decide (c.toNat ≤ 57)
def dv (l : List UInt8) : Nat := l.foldl (fun n c => 10 * n + (c.toNat - 48)) 0
def least (m : Int) : Nat → Int × Int
  | 0 => (m, 0)
  | s + 1 => if m.tmod 10 = 0 then least (m.tdiv 10) s else (m, (s + 1 : Nat))
def sgn (neg : Bool) (d : List UInt8) : Int := if neg = true then -(dv d : Int) else dv d
def fitsB (m : Int) : Bool := decide (-100000000 ≤ m) && decide (m ≤ 100000000)
def finS (neg : Bool) (d : List UInt8) (s : Nat) : Int × Int × Int :=
  if fitsB (least (sgn neg d) s).1 = true then ((least (sgn neg d) s).1, (least (sgn neg d) s).2, 0) else (0, 0, 2)
def readS (l : List UInt8) : Int × Int × Int :=
  if (Lib.trimPrefix l [45]).takeWhile dig = [] ∨ 12 < ((Lib.trimPrefix l [45]).takeWhile dig).length then (0, 0, 20)
  else if Lib.hasPrefix ((Lib.trimPrefix l [45]).dropWhile dig) [46] = true then
    if (Lib.trimPrefix ((Lib.trimPrefix l [45]).dropWhile dig) [46]).takeWhile dig = [] ∨ 6 < ((Lib.trimPrefix ((Lib.trimPrefix l [45]).dropWhile dig) [46]).takeWhile dig).length then (0, 0, 20)
    else if (Lib.trimPrefix ((Lib.trimPrefix l [45]).dropWhile dig) [46]).dropWhile dig ≠ [] then (0, 0, 20)
    else finS (Lib.hasPrefix l [45]) ((Lib.trimPrefix l [45]).takeWhile dig ++ (Lib.trimPrefix ((Lib.trimPrefix l [45]).dropWhile dig) [46]).takeWhile dig) ((Lib.trimPrefix ((Lib.trimPrefix l [45]).dropWhile dig) [46]).takeWhile dig).length
  else if (Lib.trimPrefix l [45]).dropWhile dig ≠ [] then (0, 0, 20)
  else finS (Lib.hasPrefix l [45]) ((Lib.trimPrefix l [45]).takeWhile dig) 0
def intS (l : List UInt8) : Int × Int :=
  if (Lib.trimPrefix l [45]).takeWhile dig = [] ∨ 12 < ((Lib.trimPrefix l [45]).takeWhile dig).length then (0, 20)
  else if (Lib.trimPrefix l [45]).dropWhile dig ≠ [] then (0, 20)
  else if fitsB (sgn (Lib.hasPrefix l [45]) ((Lib.trimPrefix l [45]).takeWhile dig)) = true then (sgn (Lib.hasPrefix l [45]) ((Lib.trimPrefix l [45]).takeWhile dig), 0) else (0, 2)

theorem trim_len (l p : List UInt8) : (Lib.trimPrefix l p).length ≤ l.length := by
  unfold Lib.trimPrefix
  split
  · rw [List.length_drop]; omega
  · exact Nat.le_refl _
theorem dig_val {c : UInt8} (h : dig c = true) : 48 ≤ c.toNat ∧ c.toNat ≤ 57 := by
  unfold dig at h
  simpa using h
theorem decFrom_dv (l : List UInt8) (h : ∀ c ∈ l, dig c = true) : ∀ acc, Lib.decFrom acc l = some (l.foldl (fun n c => 10 * n + (c.toNat - 48)) acc) := by
  induction l with
  | nil => intro acc; rfl
  | cons c r ih =>
    intro acc
    have hc := dig_val (h c (by simp))
    unfold Lib.decFrom
    unfold Lib.digitVal
    rw [if_pos hc]
    simp only [List.foldl_cons]
    rw [ih (fun x hx => h x (by simp [hx]))]
    rw [Nat.mul_comm acc 10]
theorem atoi_dv (l : List UInt8) (h0 : l ≠ []) (h : ∀ c ∈ l, dig c = true) : Lib.atoi l = some (dv l : Int) := by
  cases l with
  | nil => exact absurd rfl h0
  | cons c r =>
    have hc := dig_val (h c (by simp))
    have h1 : (c == 45) = false := by
      rw [beq_eq_false_iff_ne]; intro e; subst e; simp at hc
    have h2 : (c == 43) = false := by
      rw [beq_eq_false_iff_ne]; intro e; subst e; simp at hc
    unfold Lib.atoi
    simp only [h1, h2]
    unfold Lib.decNat
    rw [decFrom_dv _ h]
    rfl
theorem foldl_lt (l : List UInt8) (h : ∀ c ∈ l, dig c = true) : ∀ acc, l.foldl (fun n c => 10 * n + (c.toNat - 48)) acc < (acc + 1) * 10 ^ l.length := by
  induction l with
  | nil => intro acc; simp
  | cons c r ih =>
    intro acc
    have hc := dig_val (h c (by simp))
    have := ih (fun x hx => h x (by simp [hx])) (10 * acc + (c.toNat - 48))
    simp only [List.foldl_cons, List.length_cons]
    refine Nat.lt_of_lt_of_le this ?_
    rw [Nat.pow_succ, Nat.mul_comm (10 ^ r.length) 10, ← Nat.mul_assoc]
    exact Nat.mul_le_mul_right _ (by omega)
theorem dv_lt (l : List UInt8) (h : ∀ c ∈ l, dig c = true) : dv l < 10 ^ l.length := by
  have := foldl_lt l h 0
  simpa [dv] using this
theorem dv_le18 (l : List UInt8) (h : ∀ c ∈ l, dig c = true) (hl : l.length ≤ 18) : dv l < 1000000000000000000 := by
  have h1 := dv_lt l h
  have h2 : 10 ^ l.length ≤ 10 ^ 18 := Nat.pow_le_pow_right (by omega) hl
  omega
theorem tw_dig (l : List UInt8) : ∀ c ∈ l.takeWhile dig, dig c = true := by
  intro c hc
  have := List.all_takeWhile (p := dig) (l := l)
  rw [List.all_eq_true] at this
  exact this c hc
end Go.Proofs.YtadocbfchdendaaGreatDoor.Sp
namespace Go.Proofs.YtadocbfchdendaaGreatDoor.Fx
open Go.RowKit Go.Lib Go.Proofs.YtadocbfchdendaaGreatDoor.Sp
def tenD : ByteArray := ⟨#[48, 49, 50, 51, 52, 53, 54, 55, 56, 57]⟩
theorem tenD_dec (q : Nat) (h : q < 10) : Utf8.decode tenD q = (48 + q, 1) := by
  have : q = 0 ∨ q = 1 ∨ q = 2 ∨ q = 3 ∨ q = 4 ∨ q = 5 ∨ q = 6 ∨ q = 7 ∨ q = 8 ∨ q = 9 := by omega
  rcases this with rfl | rfl | rfl | rfl | rfl | rfl | rfl | rfl | rfl | rfl <;> decide

theorem below_iter {a w : World} (h : Below a.heap.size a w) (s : ByteArray) (p : Nat) : Below a.heap.size a (w.iter s p) := h.alloc h.size _

theorem next_step {P : Program} (a w : World) (k : Nat) (s : ByteArray) (pos : Nat) (hk : w.heap[k]? = some (.stringIter s pos)) (hB : Below a.heap.size a w) (hka : a.heap.size ≤ k) (h : pos < s.size) :
    ∃ W, (∀ ty, (Instr.next (.pointer (some ⟨k, 0, none⟩)) true ty).run P w = .ok (.tuple #[.bool true, .int .i64 pos, .int .i32 (Utf8.decode s pos).1]) W) ∧
      W.heap[k]? = some (.stringIter s (pos + (Utf8.decode s pos).2)) ∧ Below a.heap.size a W ∧ W.heap.size = w.heap.size ∧ (∀ j, j ≠ k → W.heap[j]? = w.heap[j]?) :=
  ⟨w.iterAt k s (pos + (Utf8.decode s pos).2), fun ty => run_next_any_at w k s pos ty hk h, iterAt_heap _ _ _ _ _ hk, below_iterAt hB hka _ _, iterAt_size _ _ _ _, fun _ hj => iterAt_other _ _ _ _ _ hj⟩

theorem eqDec (c : Int) (q : Nat) (h : q < 10) (hc : 0 ≤ c) : (decide (48 ≤ c) && decide (c < 48 + (q : Int)) || (c == 48 + (q : Int))) = (decide (48 ≤ c) && decide (c < 48 + ((q + 1 : Nat) : Int))) := by
  rw [Bool.eq_iff_iff]; simp; omega

theorem drop_step (l : List UInt8) (pos : Nat) (h : pos < l.length) (hd : dig l[pos] = true) (e : (l.drop pos).dropWhile dig = l.dropWhile dig) : (l.drop (pos + 1)).dropWhile dig = l.dropWhile dig := by
  rw [List.drop_eq_getElem_cons h, List.dropWhile_cons] at e
  simpa [hd] using e
theorem drop_stop (l : List UInt8) (pos : Nat) (h : pos < l.length) (hd : dig l[pos] = false) (e : (l.drop pos).dropWhile dig = l.dropWhile dig) : l.dropWhile dig = l.drop pos := by
  rw [← e]
  rw [List.drop_eq_getElem_cons h, List.dropWhile_cons]
  simp [hd]

theorem ret_str {a b : ByteArray} (h : a = b) : Ending.returned (.string a) = .returned (.string b) := by rw [h]
theorem str_from (s : ByteArray) (k : Nat) : s.extract k s.size = ⟨(s.data.toList.drop k).toArray⟩ := by
  apply ByteArray.ext
  rw [ByteArray.data_extract]
  apply Array.ext'
  simp [List.extract_eq_take_drop]
  exact List.take_of_length_le (by simp)
theorem digit_at (s : ByteArray) (pos : Nat) (hp : pos < s.size) (b : Bool) (hb : b = (decide ((48 : Int) ≤ ((Utf8.decode s pos).1 : Nat)) && decide (((Utf8.decode s pos).1 : Int) ≤ 57))) :
    dig (s.data.toList[pos]'(by simpa using hp)) = b ∧ (b = true → (Utf8.decode s pos).2 = 1) := by
  have e : (s.data.toList[pos]'(by simpa using hp)) = s[pos]'hp := rfl
  rw [e]
  by_cases ha : (s[pos]'hp).toNat < 128
  · rw [decode_ascii s pos hp ha] at hb ⊢
    refine ⟨?_, fun _ => rfl⟩
    rw [hb, Bool.eq_iff_iff]; simp [dig]; omega
  · have := decode_high s pos hp (by omega)
    rw [hb, Bool.eq_iff_iff]; simp [dig]; omega

set_option maxHeartbeats 1000000 in
theorem cutLeft_calls (s : ByteArray) (hs : s.size ≤ maxLen) (w : World) :
    Calls Tryz.prog 124 #[.string s, .string ⟨#[48, 49, 50, 51, 52, 53, 54, 55, 56, 57]⟩] w fun en w' => en = .returned (.string ⟨(s.data.toList.dropWhile dig).toArray⟩) ∧ Below w.heap.size w w' := by
  unfold maxLen at hs
  go_enter Tryz.func124, Tryz.ntmps124
  go_wp2
  go_loopg [] s.size (fun n wr => ∃ pos : Nat, Hid (pos ≤ s.size ∧ s.size - pos ≤ n ∧ wr.heap[w.heap.size]? = some (.stringIter s pos) ∧ Below w.heap.size w wr ∧ (s.data.toList.drop pos).dropWhile dig = s.data.toList.dropWhile dig))
  case atStart => exact ⟨0, Nat.zero_le _, by omega, World.iter_heap _ _ _, below_iter (Below.refl _ _) _ _, rfl⟩
  case round =>
    obtain ⟨pos, H⟩ := hrel
    by_cases hp : pos < s.size
    · obtain ⟨W, hnx, R⟩ : ∃ W, (∀ ty, (Instr.next (.pointer (some ⟨w.heap.size, 0, none⟩)) true ty).run Tryz.prog wr = .ok (.tuple #[.bool true, .int .i64 pos, .int .i32 (Utf8.decode s pos).1]) W) ∧ Hid (W.heap[w.heap.size]? = some (.stringIter s (pos + (Utf8.decode s pos).2)) ∧ Below w.heap.size w W) := by
        obtain ⟨_, _, hk, hB, _⟩ := H.out
        obtain ⟨W, h1, h2, h3, _⟩ := next_step (P := Tryz.prog) w wr w.heap.size s pos hk hB (Nat.le_refl _) hp
        exact ⟨W, h1, h2, h3⟩
      have hc0 : (0 : Int) ≤ ((Utf8.decode s pos).1 : Int) := by omega
      have hc1 := decode_le s pos
      generalize hcc : (Utf8.decode s pos).1 = c at *
      have HC := Lib.hid hcc
      clear hcc
      go_wp2
      go_loopg [7] 10 (fun n v7 wi => ∃ (q : Nat) (b : Bool), v7 = .bool b ∧ Hid (b = (decide ((48 : Int) ≤ c) && decide ((c : Int) < 48 + (q : Int))) ∧ q ≤ 10 ∧ 10 - q ≤ n ∧ wi.heap[w.heap.size]? = some (.stringIter s (pos + (Utf8.decode s pos).2)) ∧ wi.heap[W.heap.size]? = some (.stringIter tenD q) ∧ Below w.heap.size w wi))
      case atStart =>
        obtain ⟨hk, hB⟩ := R.out
        have hlt : w.heap.size < W.heap.size := (Array.getElem?_eq_some_iff.1 hk).1
        refine ⟨0, false, rfl, ?_, Nat.zero_le _, Nat.le_refl _, ?_, World.iter_heap _ _ _, below_iter hB _ _⟩
        · rw [Bool.eq_iff_iff]; simp
        · rw [← hk]; exact Below.heap_alloc _ _ _ hlt
      case round =>
        obtain ⟨q, b, rfl, H2⟩ := hrel
        have hlt : w.heap.size < W.heap.size := (Array.getElem?_eq_some_iff.1 R.out.1).1
        by_cases hq : q < 10
        · obtain ⟨W2, hnx2, R2⟩ : ∃ W2, (∀ ty, (Instr.next (.pointer (some ⟨W.heap.size, 0, none⟩)) true ty).run Tryz.prog wr = .ok (.tuple #[.bool true, .int .i64 q, .int .i32 ((48 : Int) + (q : Int))]) W2) ∧ Hid (W2.heap[w.heap.size]? = some (.stringIter s (pos + (Utf8.decode s pos).2)) ∧ W2.heap[W.heap.size]? = some (.stringIter tenD (q + 1)) ∧ Below w.heap.size w W2) := by
            obtain ⟨_, _, _, hk1, hk, hB⟩ := H2.out
            obtain ⟨W2, h1, h2, h3, h4, h5⟩ := next_step (P := Tryz.prog) w wr W.heap.size tenD q hk hB (by omega) hq
            rw [tenD_dec q hq] at h1 h2
            exact ⟨W2, h1, by rw [h5 _ (by omega)]; exact hk1, h2, h3⟩
          cases b with
          | true =>
            go_wp2
            go_roundg (9 - q)
            case measure => have := H2.out.2.2.1; omega
            case rel =>
              obtain ⟨hb, hq1, _, _, _, _⟩ := H2.out
              refine ⟨q + 1, true, rfl, ?_, by omega, by omega, R2.out⟩
              rw [← eqDec _ _ hq hc0, ← hb]; rfl
          | false =>
            go_wp2
            go_roundg (9 - q)
            case measure => have := H2.out.2.2.1; omega
            case rel =>
              obtain ⟨hb, hq1, _, _, _, _⟩ := H2.out
              refine ⟨q + 1, _, rfl, ?_, by omega, by omega, R2.out⟩
              rw [← eqDec _ _ hq hc0, ← hb]; simp
        · have hnx2 : ∀ ty, (Instr.next (.pointer (some ⟨W.heap.size, 0, none⟩)) true ty).run Tryz.prog wr = .ok (.tuple #[.bool false]) wr := by
            obtain ⟨_, _, _, _, hk, _⟩ := H2.out
            exact fun ty => run_next_end_at wr _ tenD q ty hk hq
          have HB2 : Hid (b = (decide ((48 : Int) ≤ c) && decide ((c : Int) ≤ 57))) := by
            obtain ⟨hb, hq1, _⟩ := H2.out
            have : q = 10 := by omega
            subst this
            rw [hb]
            show _ = _
            congr 1
            rw [Bool.eq_iff_iff]; simp; omega
          have hdig : Hid (dig (s.data.toList[pos]'(by simpa using hp)) = b ∧ (b = true → (Utf8.decode s pos).2 = 1)) := digit_at s pos hp b (by rw [HB2.out, ← HC.out])
          cases b with
          | true =>
            go_wp2
            go_roundg (s.size - (pos + 1))
            case measure => have := H.out.2.1; omega
            case rel =>
              obtain ⟨_, _, _, hk, _, hB⟩ := H2.out
              obtain ⟨h1, h2, _, _, hd⟩ := H.out
              obtain ⟨g1, g2⟩ := hdig.out
              refine ⟨pos + 1, by omega, by omega, ?_, hB, drop_step _ _ _ g1 hd⟩
              rw [← g2 trivial]; exact hk
          | false =>
            go_wp2
            go_ret
            obtain ⟨_, _, _, hk, _, hB⟩ := H2.out
            obtain ⟨h1, h2, _, _, hd⟩ := H.out
            refine ⟨?_, hB⟩
            exact ret_str (by rw [drop_stop _ _ _ hdig.out.1 hd, str_from])
    · have hnx : ∀ ty, (Instr.next (.pointer (some ⟨w.heap.size, 0, none⟩)) true ty).run Tryz.prog wr = .ok (.tuple #[.bool false]) wr := by
        obtain ⟨_, _, hk, _⟩ := H.out
        exact fun ty => run_next_end_at wr _ s pos ty hk hp
      go_wp2
      go_ret
      obtain ⟨h1, _, _, hB, hd⟩ := H.out
      have : pos = s.size := by omega
      subst this
      refine ⟨?_, hB⟩
      rw [← hd, List.drop_eq_nil_of_le (by simp)]
      rfl
end Go.Proofs.YtadocbfchdendaaGreatDoor.Fx
namespace Go.Proofs.YtadocbfchdendaaGreatDoor.P
open Go.RowKit Go.Proofs.YtadocbfchdendaaGreatDoorW.PrintWords Go.Proofs.YtadocbfchdendaaGreatDoorW.PrintLast Go.Proofs.YtadocbfchdendaaGreatDoorW.PrintMore
attribute [local go_sem] max2_int min2_int max_two min_two max_three min_three max_four min_four   -- for this text's walks alone
set_option linter.unusedVariables false
set_option linter.unusedSimpArgs false
def words_blank.f (a0 : Int) : Option (Bool) := if a0 = 32 then (some true) else (some (a0 == 9))
set_option maxHeartbeats 8000000 in
set_option maxRecDepth 100000 in
theorem words_blank.calls (a0 : Int) (r : Bool) (w : World) (h : words_blank.f a0 = some r) :
  Calls Tryz.prog 90 #[.int .i32 a0] w fun e w' => e = .returned (.bool r) ∧ Drawn0 w w' := by
 have H : (if a0 = 32 then (some true) else (some (a0 == 9))) = some r := h; clear h
 by_cases c2 : a0 = 32
 ·rw [if_pos c2] at H; have c2b0 := beq_iff_eq.mpr c2; have c2b1 := bne_eq_false_iff_eq.mpr c2; clear c2; obtain rfl := Option.some.inj H; go_enter Tryz.func90, Tryz.ntmps90
  go_wp2
  go_ret
  exact ⟨qr, qd⟩
 ·rw [if_neg c2] at H; have c2b0 := beq_eq_false_iff_ne.mpr c2; have c2b1 := bne_iff_ne.mpr c2; obtain rfl := Option.some.inj H; go_enter Tryz.func90, Tryz.ntmps90
  go_wp2
  go_ret
  exact ⟨qr, qd⟩

end Go.Proofs.YtadocbfchdendaaGreatDoor.P
namespace Go.Proofs.YtadocbfchdendaaGreatDoor.P
open Go.RowKit Go.Proofs.YtadocbfchdendaaGreatDoorW.PrintWords Go.Proofs.YtadocbfchdendaaGreatDoorW.PrintLast Go.Proofs.YtadocbfchdendaaGreatDoorW.PrintMore
attribute [local go_sem] max2_int min2_int max_two min_two max_three min_three max_four min_four   -- for this text's walks alone
set_option linter.unusedVariables false
set_option linter.unusedSimpArgs false
def words_places.f (a0 : ByteArray) (a1 : Int) (a2 : Int) : Option (Bool) := if 0 ≤ a1 then (if a1 ≤ a2 then (some (decide (a2 ≤ (a0.size : Int)))) else (some false)) else (some false)
set_option maxHeartbeats 8000000 in
set_option maxRecDepth 100000 in
theorem words_places.calls (a0 : ByteArray) (a1 : Int) (a2 : Int) (r : Bool) (w : World) (h : words_places.f a0 a1 a2 = some r) :
  Calls Tryz.prog 88 #[.string a0, .int .i64 a1, .int .i64 a2] w fun e w' => e = .returned (.bool r) ∧ Drawn0 w w' := by
 have H : (if 0 ≤ a1 then (if a1 ≤ a2 then (some (decide (a2 ≤ (a0.size : Int)))) else (some false)) else (some false)) = some r := h; clear h
 by_cases c4 : 0 ≤ a1
 ·rw [if_pos c4] at H; have c4b0 := decide_eq_true c4; clear c4
  by_cases c5 : a1 ≤ a2
  ·rw [if_pos c5] at H; have c5b0 := decide_eq_true c5; clear c5; obtain rfl := Option.some.inj H; go_enter Tryz.func88, Tryz.ntmps88
   go_wp2
   go_ret
   exact ⟨qr, qd⟩
  ·rw [if_neg c5] at H; have c5b0 := decide_eq_false c5; clear c5; obtain rfl := Option.some.inj H; go_enter Tryz.func88, Tryz.ntmps88
   go_wp2
   go_ret
   exact ⟨qr, qd⟩
 ·rw [if_neg c4] at H; have c4b0 := decide_eq_false c4; clear c4; obtain rfl := Option.some.inj H; go_enter Tryz.func88, Tryz.ntmps88
  go_wp2
  go_ret
  exact ⟨qr, qd⟩

end Go.Proofs.YtadocbfchdendaaGreatDoor.P
namespace Go.Proofs.YtadocbfchdendaaGreatDoor.Cu
open Go.RowKit Go.Lib Go.Proofs.YtadocbfchdendaaGreatDoorW.PrintWords Go.Proofs.YtadocbfchdendaaGreatDoor.P
set_option linter.unusedSimpArgs false
set_option linter.unusedVariables false
abbrev Wd := S105
def fieldsG : List UInt8 → Nat → Option Nat → List Wd
  | [], _, none => []
  | [], a, some b => [⟨b, a⟩]
  | c :: l, a, st => if blankC c then (match st with | none => fieldsG l (a + 1) none | some b => ⟨b, a⟩ :: fieldsG l (a + 1) none) else fieldsG l (a + 1) (some (st.getD a))
theorem fieldsG_skip (c : UInt8) (l : List UInt8) (a : Nat) (st : Option Nat) (h : blankC c = false) : fieldsG (c :: l) a st = fieldsG l (a + 1) (some (st.getD a)) := by
  cases st <;> simp [fieldsG, h]
theorem fieldsG_none (c : UInt8) (l : List UInt8) (a : Nat) (h : blankC c = true) : fieldsG (c :: l) a none = fieldsG l (a + 1) none := by
  simp [fieldsG, h]
theorem fieldsG_some (c : UInt8) (l : List UInt8) (a b : Nat) (h : blankC c = true) : fieldsG (c :: l) a (some b) = ⟨b, a⟩ :: fieldsG l (a + 1) none := by
  simp [fieldsG, h]
theorem fieldsG_len (l : List UInt8) : ∀ (a : Nat) (st : Option Nat), (fieldsG l a st).length ≤ l.length + 1 := by
  induction l with
  | nil => intro a st; cases st <;> simp [fieldsG]
  | cons c l ih =>
    intro a st
    cases hb : blankC c with
    | false => rw [fieldsG_skip _ _ _ _ hb]; have := ih (a + 1) (some (st.getD a)); simp; omega
    | true =>
      cases st with
      | none => rw [fieldsG_none _ _ _ hb]; have := ih (a + 1) none; simp; omega
      | some b => rw [fieldsG_some _ _ _ _ hb]; have := ih (a + 1) none; simp; omega
theorem fieldsG_run (w : Nat) : ∀ (l : List UInt8) (a : Nat) (st : Option Nat), w + 1 ≤ l.length → (∀ j c, j < w + 1 → l[j]? = some c → blankC c = false) → fieldsG l a st = fieldsG (l.drop (w + 1)) (a + (w + 1)) (some (st.getD a)) := by
  induction w with
  | zero =>
    intro l a st hl h
    cases l with
    | nil => simp at hl
    | cons c l =>
      rw [fieldsG_skip _ _ _ _ (h 0 c (by omega) rfl)]
      rfl
  | succ w ih =>
    intro l a st hl h
    cases l with
    | nil => simp at hl
    | cons c l =>
      rw [fieldsG_skip _ _ _ _ (h 0 c (by omega) rfl)]
      rw [ih l (a + 1) _ (by simp at hl; omega) (fun j d hj hd => h (j + 1) d (by omega) (by simpa using hd))]
      simp only [Option.getD_some]
      rw [show a + 1 + (w + 1) = a + (w + 1 + 1) by omega]
      rfl
theorem rune_bytes (s : ByteArray) (pos : Nat) (hp : pos < s.size) (hb : ¬ (((Utf8.decode s pos).1 = 32) ∨ ((Utf8.decode s pos).1 = 9))) :
    pos + (Utf8.decode s pos).2 ≤ s.size ∧ ∀ j c, j < (Utf8.decode s pos).2 → (s.data.toList.drop pos)[j]? = some c → blankC c = false := by
  have hL : s.data.toList.length = s.size := rfl
  have hd := Lib.decode_N s pos
  have hc := Lib.decodeN_conts (s.data.toList.length - pos) (s.data.toList.getD pos 0).toNat (s.data.toList.getD (pos + 1) 0).toNat (s.data.toList.getD (pos + 2) 0).toNat (s.data.toList.getD (pos + 3) 0).toNat
  have hw : (Utf8.decode s pos).2 ≤ s.data.toList.length - pos := by rw [← hd] at hc; omega
  rw [← hd] at hc
  refine ⟨by omega, fun j c hj hc' => ?_⟩
  rw [List.getElem?_drop] at hc'
  have hg : s.data.toList.getD (pos + j) 0 = c := by rw [List.getD_eq_getElem?_getD, hc']; rfl
  have key : ∀ x : UInt8, x.toNat / 64 = 2 → blankC x = false := by
    intro x hx
    unfold blankC
    have h1 : x ≠ 32 := by intro h; subst h; simp at hx
    have h2 : x ≠ 9 := by intro h; subst h; simp at hx
    simp [h1, h2]
  obtain ⟨c1, c2, c3, c4⟩ := hc
  have hj4 : j = 0 ∨ j = 1 ∨ j = 2 ∨ j = 3 := by omega
  rcases hj4 with rfl | rfl | rfl | rfl
  · rw [Nat.add_zero] at hg
    by_cases ha : c.toNat < 128
    · have hdec : (Utf8.decode s pos).1 = c.toNat := by
        rw [hd]
        unfold Lib.decodeN
        rw [hg, if_pos ha]
      rw [hdec] at hb
      unfold blankC
      have h1 : c ≠ 32 := by intro h; subst h; exact hb (.inl rfl)
      have h2 : c ≠ 9 := by intro h; subst h; exact hb (.inr rfl)
      simp [h1, h2]
    · unfold blankC
      have h1 : c ≠ 32 := by intro h; subst h; simp at ha
      have h2 : c ≠ 9 := by intro h; subst h; simp at ha
      simp [h1, h2]
  · exact key c (by rw [← hg]; exact (c1 (by omega)).1)
  · exact key c (by rw [← hg]; exact (c2 (by omega)).1)
  · exact key c (by rw [← hg]; exact (c3 (by omega)).1)
theorem rune_blank (s : ByteArray) (pos : Nat) (hp : pos < s.size) (hb : ((Utf8.decode s pos).1 = 32) ∨ ((Utf8.decode s pos).1 = 9)) :
    (Utf8.decode s pos).2 = 1 ∧ ∃ c, s.data.toList[pos]? = some c ∧ blankC c = true := by
  have hL : s.data.toList.length = s.size := rfl
  obtain ⟨c, hc⟩ : ∃ c, s.data.toList[pos]? = some c := ⟨_, List.getElem?_eq_getElem (by omega)⟩
  have hd := Lib.decode_N s pos
  have hg : s.data.toList.getD pos 0 = c := by rw [List.getD_eq_getElem?_getD, hc]; rfl
  rw [hg] at hd
  by_cases ha : c.toNat < 128
  · have hdec : Utf8.decode s pos = (c.toNat, 1) := by
      rw [hd]
      unfold Lib.decodeN
      rw [if_pos ha]
    rw [hdec] at hb ⊢
    refine ⟨rfl, c, hc, ?_⟩
    unfold blankC
    rcases hb with h | h
    · have : c = 32 := UInt8.toNat_inj.1 h
      simp [this]
    · have : c = 9 := UInt8.toNat_inj.1 h
      simp [this]
  · exfalso
    rw [hd] at hb
    unfold Lib.decodeN at hb
    rw [if_neg ha] at hb
    revert hb
    repeat' split
    all_goals (simp only; omega)
theorem appendedG {α : Type} (d : Kd α) (e t : Nat) {W w2 : World} {B base : Nat} {v v' : Value} {xs : List α} {x : α} {inner cs : List Value} {tmp : Obj} (hte : t ≠ e) (hE : ∀ q, q ∈ e :: d.E → q ≠ t) (bv : Boxed W B t v) (hbB : base ≤ B) (hbs : base ≤ W.heap.size)
    (h0 : ∀ k, v.ownBlock = some k → True) (hreps : Reps (d.M (W.alloc tmp) base (fun k => True ∧ some k ≠ v.ownBlock)) d.sz xs inner) (hown : (W.alloc tmp).ownsRow base e d.sz v xs.length inner) (hx : d.M (W.alloc tmp) base (fun _ => False) x cs)
    (hown' : w2.ownsRow base e d.sz v' (xs.length + 1) (inner ++ cs)) (hg : (W.alloc tmp).grownBy w2 v.ownBlock) (hat : v'.ownBlock = v.ownBlock ∨ v'.ownBlock = some (W.alloc tmp).heap.size) :
    Boxed w2 B t v ∧ Boxed (w2.setCell ⟨B, 0, none⟩ v') B t v' ∧ d.R e (w2.setCell ⟨B, 0, none⟩ v') base (fun _ => True) v' (xs ++ [x]) ∧ KeepsOthers W (w2.setCell ⟨B, 0, none⟩ v') ∧ Below base W (w2.setCell ⟨B, 0, none⟩ v') ∧
      (∀ (B2 t2 : Nat) (u : Value), B2 ≠ B → t2 ≠ e → Boxed W B2 t2 u → Boxed (w2.setCell ⟨B, 0, none⟩ v') B2 t2 u) := by
  have hbt : Below W.heap.size W (W.alloc tmp) := (Below.refl _ W).alloc (Nat.le_refl _) _
  have bt : Boxed (W.alloc tmp) B t v := (hbt.block B bv.lt).trans bv
  have hnr : some B ≠ v.ownBlock := bt.not_row hte hown
  have b2 : Boxed w2 B t v := bt.kept hg hnr
  have hcell : ∀ k o, (W.alloc tmp).heap[k]? = some o → v.ownBlock = some k → o.isCells = true := by
    intro k o hk he
    rcases hown.2 with ⟨rfl, _⟩ | ⟨g, cap, cur, rfl, _, hgb, _⟩
    · simp [Value.ownBlock] at he
    · obtain rfl : g = k := by simpa [Value.ownBlock] using he
      rw [hgb] at hk; cases hk; rfl
  have hR2 : d.R e w2 base (fun _ => True) v' (xs ++ [x]) :=
    Kd.R_appended (okp := fun _ => False) h0 hreps hx (fun _ h => h.elim) (fun _ _ => trivial) hown' hg (hat.imp id (fun h => ⟨_, h, Nat.le_refl _⟩))
  refine ⟨b2, b2.set v', Kd.R_set hR2 b2 hE 0 v', ?_, ?_, ?_⟩
  · exact ((KeepsOthers.of_grownBy (grown_none hbt) (fun j o ej _ => by cases ej)).trans (KeepsOthers.of_grownBy hg (fun j o ej hj => hcell j o hj ej))).trans (KeepsOthers.setCell _ _ _)
  · refine ((hbt.mono hbs).grown hg (Nat.le_trans hbs hbt.size) fun j ej => own_base hown j ej).setCell (p := ⟨B, 0, none⟩) hbB v'
  · intro B2 t2 u hne ht hb2
    have h1 : Boxed (W.alloc tmp) B2 t2 u := (hbt.block B2 hb2.lt).trans hb2
    have h2 : Boxed w2 B2 t2 u := h1.kept hg (h1.not_row ht hown)
    exact (Below.heap_setCell _ _ _ _ hne).trans h2
theorem info_word : (Tryz.prog.info? 105).map (fun i => (i.zero, i.size, i.bytes)) = some (some (.agg #[.int .i64 0, .int .i64 0]), 2, 16) := by kernel_rfl
def stv : Option Nat → Int
  | none => -1
  | some b => b
def endW (ws : List Wd) (st : Option Nat) (a : Nat) : List Wd := match st with | none => ws | some b => ws ++ [⟨b, a⟩]
structure EndPost (base Bo Bb : Nat) (ws : List Wd) (W W' : World) : Prop where
  beg : Boxed W' Bb 3 (.int .i64 (-1))
  out : ∃ v, Boxed W' Bo 30 v ∧ Kd.R k105 105 W' base (fun _ => True) v ws
  oth : KeepsOthers W W'
  bel : Below base W W'
set_option maxRecDepth 100000 in
set_option maxHeartbeats 2000000 in
theorem end_calls (base Bo Bb : Nat) (ai : Int) (at_ : Nat) (hai : ai = (at_ : Int)) (st : Option Nat) (ws : List Wd) (W : World) (hb : ∀ b, st = some b → b < 1000000000) (hbo : base ≤ Bo) (hbb : base ≤ Bb) (hne : Bo ≠ Bb) (hl : ws.length < 1000000000)
    (hB : Boxed W Bb 3 (.int .i64 (stv st))) (hO : ∃ v, Boxed W Bo 30 v ∧ Kd.R k105 105 W base (fun _ => True) v ws) (hbW : base ≤ W.heap.size) :
    Calls Tryz.prog 89 #[.int .i64 ai, .pointer (some ⟨Bb, 0, none⟩), .pointer (some ⟨Bo, 0, none⟩)] W fun e W' => (∃ v, e = .returned v) ∧ EndPost base Bo Bb (endW ws st at_) W W' := by
  subst hai
  obtain ⟨v, bv, hR⟩ := hO
  obtain ⟨i0, hi, hz0, hz1, hz2⟩ := info_parts info_word
  obtain ⟨A, c, rfl⟩ := Kd.R_slice hR
  have cb := hB.cell
  have fb := hB.frozen
  have cv := bv.cell
  cases st with
  | none =>
    simp only [stv] at cb fb hB
    go_enter Tryz.func89, Tryz.ntmps89
    go_wp2
    refine bodyPost_end (results_none rfl _ _ _) rfl ?_
    exact ⟨⟨_, rfl⟩, hB.set _, ⟨_, bv.other hne _, Kd.R_set hR hB (fun q hq => by have hq' : q ∈ [105] := hq; simp at hq'; omega) 0 _⟩, KeepsOthers.setCell _ _ _, (Below.refl _ _).setCell (p := ⟨Bb, 0, none⟩) hbb _⟩
  | some b =>
    simp only [stv] at cb fb hB
    have hb0 := hb b rfl
    have g0 : (0 : Int) ≤ (b : Int) := by omega
    obtain ⟨h0, inner, hown, hreps⟩ := Kd.R_below hR ((Below.refl _ W).alloc (Nat.le_refl _) (.cells #[.int .i64 b, .int .i64 at_] 105))
    go_enter Tryz.func89, Tryz.ntmps89
    go_wp2_with (at_builtin; go_loud (refine wpList_append_own_at _ rfl _ _ 30 rfl base 105 i0 (.agg #[.int .i64 0, .int .i64 0]) 2 16 Tryz.underlying30 hi hz0 hz1 hz2 rfl (by decide) _ _ _ rfl hown ⟨W.heap.size, 0, none⟩ 1 1 [.int .i64 b, .int .i64 at_] rfl rfl (cells_new _ _ _) (by simp [Value.oneCell']) (by unfold maxLen; omega) (by omega) (by simp; omega) ?_; intro v' w2 hown' hgrow _ hat; obtain ⟨g', cap', rfl⟩ := ownsRow_succ hown'; obtain ⟨b2, b3, hR3, hk3, hb3, ho3⟩ := appendedG (x := (⟨b, at_⟩ : Wd)) k105 105 30 (by decide) (fun q hq => by have hq' : q ∈ [105] := hq; simp at hq'; omega) bv hbo hbW h0 hreps hown (k105_mkM _ _ _ _) hown' hgrow hat; have cv2 := b2.cell; have fv2 := b2.frozen; have hB3 := ho3 Bb 3 _ (Ne.symm hne) (by decide) hB; have cb3 := hB3.cell; have fb3 := hB3.frozen))
    refine bodyPost_end (results_none rfl _ _ _) rfl ?_
    exact ⟨⟨_, rfl⟩, hB3.set _, ⟨_, b3.other hne _, Kd.R_set hR3 hB3 (fun q hq => by have hq' : q ∈ [105] := hq; simp at hq'; omega) 0 _⟩, hk3.trans (KeepsOthers.setCell _ _ _), hb3.setCell (p := ⟨Bb, 0, none⟩) hbb _⟩
structure FSt (w wr : World) (Bo Bb it a : Nat) (t : ByteArray) (pos : Nat) (st : Option Nat) (ws : List Wd) : Prop where
  le : pos ≤ t.size
  iter : wr.heap[it]? = some (.stringIter t pos)
  bel : Below w.heap.size w wr
  beg : Boxed wr Bb 3 (.int .i64 (stv st))
  out : ∃ v, Boxed wr Bo 30 v ∧ Kd.R k105 105 wr w.heap.size (fun _ => True) v ws
  eq : fieldsG t.data.toList a none = ws ++ fieldsG (t.data.toList.drop pos) (a + pos) st
  lo : ∀ b, st = some b → b < a + pos + 1
  len : ws.length ≤ pos
  bb : it < wr.heap.size
set_option maxRecDepth 100000 in
set_option maxHeartbeats 4000000 in
theorem Fields_calls (s : ByteArray) (hs : s.size < 1000000000) (a b : Nat) (h1 : a ≤ b) (h2 : b ≤ s.size) (w : World) :
    Calls Tryz.prog 48 #[.string s, .int .i64 a, .int .i64 b] w fun e W' => ∃ v, e = .returned v ∧ Kd.R k105 105 W' w.heap.size (fun _ => True) v (fieldsG ((s.data.toList.drop a).take (b - a)) a none) ∧ Below w.heap.size w W' := by
  have hP : words_places.f s a b = some true := by
    unfold words_places.f
    rw [if_pos (by omega), if_pos (by omega)]
    simp; omega
  have g1 : (0 : Int) ≤ (a : Int) := by omega
  have g2 : (a : Int) ≤ (b : Int) := by omega
  have g3 : (b : Int) ≤ (s.size : Int) := by omega
  obtain ⟨t, ht⟩ : ∃ t, s.extract a b = t := ⟨_, rfl⟩
  have htl : t.data.toList = (s.data.toList.drop a).take (b - a) := by rw [← ht, seg_data]
  have hts : t.size = b - a := by rw [← ht, ByteArray.size_extract]; omega
  rw [← htl]
  go_enter Tryz.func48, Tryz.ntmps48
  go_wp2_with (go_at_call 88; refine (words_places.calls s a b true _ hP).mono ?_; rintro e w1 ⟨rfl, nd, rfl⟩)
  try rw [ht]
  go_loopg [] t.size (fun n wr => ∃ (pos : Nat) (st : Option Nat) (ws : List Wd), t.size - pos ≤ n ∧ Hid (FSt w wr w.heap.size (w.heap.size + 1) (w.heap.size + 2) a t pos st ws))
  case atStart =>
    refine ⟨0, none, [], by omega, ?_⟩
    have hB1 : Below w.heap.size w (((w.alloc (.cells #[.slice none 0 0] 30)).drewN nd).alloc (.cells #[.int .i64 (-1)] 3)) := (below_drewN ((Below.refl _ w).alloc (Nat.le_refl _) _) _).alloc (by simp) _
    have b0 : Boxed ((w.alloc (.cells #[.slice none 0 0] 30)).drewN nd) w.heap.size 30 (.slice none 0 0) := Boxed.new w _ _
    have b1 := Boxed.new ((w.alloc (.cells #[.slice none 0 0] 30)).drewN nd) 3 (.int .i64 (-1))
    have e1 : ((w.alloc (.cells #[.slice none 0 0] 30)).drewN nd).heap.size = w.heap.size + 1 := by simp
    rw [e1] at b1
    obtain ⟨W1, hW1⟩ : ∃ W1, ((w.alloc (.cells #[.slice none 0 0] 30)).drewN nd).alloc (.cells #[.int .i64 (-1)] 3) = W1 := ⟨_, rfl⟩
    have b0' := b0.alloc (.cells #[.int .i64 (-1)] 3)
    have hsz : W1.heap.size = w.heap.size + 2 := by rw [← hW1]; simp
    rw [hW1] at b1 b0' hB1 ⊢
    have hit : Below W1.heap.size W1 (W1.iter t 0) := (Below.refl _ W1).alloc (Nat.le_refl _) _
    have hi := World.iter_heap W1 t 0
    rw [hsz] at hi
    exact ⟨Nat.zero_le _, hi, hB1.trans (hit.mono (by omega)), (hit.block _ b1.lt).trans b1, ⟨_, (hit.block _ b0'.lt).trans b0', Kd.R_nil _ _ _ _ _⟩, by simp, by simp, by simp, lt_of_get hi⟩
  case round =>
    obtain ⟨pos, st, ws, hn, HF⟩ := hrel
    by_cases hp : pos < t.size
    · obtain ⟨hd1, hd2, hd3⟩ : 1 ≤ (Utf8.decode t pos).2 ∧ (Utf8.decode t pos).2 ≤ t.size - pos ∧ True := by
        refine ⟨Lib.width_pos t pos, ?_, trivial⟩
        by_cases hb : ((Utf8.decode t pos).1 = 32) ∨ ((Utf8.decode t pos).1 = 9)
        · have := (rune_blank t pos hp hb).1; omega
        · have := (rune_bytes t pos hp hb).1; omega
      obtain ⟨W, hnx, hW1, hW2, hW3, hW4⟩ := Fx.next_step (P := Tryz.prog) w wr (w.heap.size + 2) t pos HF.out.iter HF.out.bel (by omega) hp
      have bbg : Boxed W (w.heap.size + 1) 3 (.int .i64 (stv st)) := (hW4 _ (by omega)).trans HF.out.beg
      have bou : ∃ v, Boxed W w.heap.size 30 v ∧ Kd.R k105 105 W w.heap.size (fun _ => True) v ws := by
        obtain ⟨v, hv, hR⟩ := HF.out.out
        refine ⟨v, (hW4 _ (by omega)).trans hv, ?_⟩
        refine Kd.R_mono (Kd.R_move (Kd.R_bound hR) fun k hk => ?_) (fun k hk => hk.1)
        obtain ⟨_, _, _, q, _, cells, hc⟩ := hk
        refine hW4 k fun he => ?_
        rw [he, HF.out.iter] at hc
        cases hc
      have hTl : t.data.toList.length = t.size := rfl
      obtain ⟨c, hc⟩ : ∃ c, (Utf8.decode t pos).1 = c := ⟨_, rfl⟩
      obtain ⟨d, hd⟩ : ∃ d, (Utf8.decode t pos).2 = d := ⟨_, rfl⟩
      have hrb := rune_blank t pos hp
      have hry := rune_bytes t pos hp
      rw [hc, hd] at hrb hry
      rw [hc] at hnx
      rw [hd] at hW1 hd1 hd2
      have HRB := Lib.hid hrb
      have HRY := Lib.hid hry
      have HW := Lib.hid hW4
      clear hrb hry hW4
      have hlen := HF.out.len
      by_cases hb : c = 32 ∨ c = 9
      · have hbl : words_blank.f (c : Int) = some true := by
          unfold words_blank.f
          rcases hb with rfl | rfl <;> rfl
        go_wp2_with (first
          | (go_at_call 90; refine (words_blank.calls (c : Int) true _ hbl).mono ?_; rintro e w3 ⟨rfl, nd3, rfl⟩)
          | (go_at_call 89; refine (end_calls w.heap.size w.heap.size (w.heap.size + 1) _ (a + pos) (by omega) st ws (W.drewN nd3) (fun b hb => by have := HF.out.lo b hb; omega) (Nat.le_refl _) (by omega) (by omega) (by omega) bbg (by obtain ⟨v, h1, h2⟩ := bou; exact ⟨v, h1, Kd.R_drewN h2 nd3⟩) hW2.size).mono ?_; rintro e W5 ⟨⟨v5, rfl⟩, H5⟩))
        obtain ⟨hd0, c0, hc0, hbc⟩ := HRB.out hb
        go_roundg (t.size - (pos + 1))
        case measure => omega
        case rel =>
          refine ⟨pos + 1, none, endW ws st (a + pos), Nat.le_refl _, ?_⟩
          have hdrop : t.data.toList.drop pos = c0 :: t.data.toList.drop (pos + 1) := by
            rw [List.drop_eq_getElem_cons (show pos < t.data.toList.length by omega)]
            congr 1
            exact Option.some.inj ((List.getElem?_eq_getElem (show pos < t.data.toList.length by omega)).symm.trans hc0)
          refine ⟨by omega, H5.oth.same _ _ (by rw [← hd0]; exact hW1) rfl, hW2.trans ((below_drewN (Below.refl _ W) nd3).trans H5.bel |> fun h => h.mono (Nat.le_refl _)), H5.beg, H5.out, ?_, by simp, ?_, ?_⟩
          · rw [HF.out.eq, hdrop]
            cases st with
            | none => rw [fieldsG_none _ _ _ hbc]; rfl
            | some b0 => rw [fieldsG_some _ _ _ _ hbc]; simp [endW, Nat.add_assoc]
          · cases st with
            | none => simp only [endW]; omega
            | some b0 => simp only [endW, List.length_append, List.length_cons, List.length_nil]; omega
          · have q1 := H5.oth.size; have q2 := lt_of_get hW1; have q3 : W.heap.size ≤ W5.heap.size := q1; omega
      · have hbl : words_blank.f (c : Int) = some false := by
          unfold words_blank.f
          rw [if_neg (by omega)]
          have : ((c : Int) == 9) = false := by rw [beq_eq_false_iff_ne]; omega
          rw [this]
        cases st with
        | none =>
          have cb := bbg.cell
          have fb := bbg.frozen
          simp only [stv] at cb fb
          go_wp2_with (go_at_call 90; refine (words_blank.calls (c : Int) false _ hbl).mono ?_; rintro e w3 ⟨rfl, nd3, rfl⟩)
          obtain ⟨hr1, hr2⟩ := HRY.out hb
          go_roundg (t.size - (pos + d))
          case measure => omega
          case rel =>
            refine ⟨pos + d, some (a + pos), ws, Nat.le_refl _, ?_⟩
            obtain ⟨d', rfl⟩ : ∃ d', d = d' + 1 := ⟨d - 1, by omega⟩
            have hrun := fieldsG_run d' (t.data.toList.drop pos) (a + pos) none (by rw [List.length_drop]; have : pos + (d' + 1) ≤ t.size := hr1; omega) (fun j c hj hc => hr2 j c hj hc)
            rw [List.drop_drop] at hrun
            refine ⟨by omega, (Below.heap_setCell _ _ _ _ (by simp)).trans hW1, (hW2.trans (below_drewN (Below.refl _ W) nd3)).setCell (p := ⟨w.heap.size + 1, 0, none⟩) (by simp) _, ?_, ?_, ?_, ?_, by omega, ?_⟩
            · have := Boxed.set (W := W.drewN nd3) (.int .i64 (↑a + ↑pos)) bbg
              simpa [stv] using this
            · obtain ⟨v, hv, hR⟩ := bou
              exact ⟨v, Boxed.other (W := W.drewN nd3) hv (by omega) _, Kd.R_set (Kd.R_drewN hR nd3) (show Boxed (W.drewN nd3) (w.heap.size + 1) 3 _ from bbg) (fun q hq => by have hq' : q ∈ [105] := hq; simp at hq'; omega) 0 _⟩
            · rw [HF.out.eq, hrun, show a + pos + (d' + 1) = a + (pos + (d' + 1)) by omega]; rfl
            · intro b hb'; injection hb' with hb'; omega
            · have := lt_of_get hW1; simpa using this
        | some b0 =>
          have cb := bbg.cell
          simp only [stv] at cb
          have g0 : ¬ ((b0 : Int) < 0) := by omega
          go_wp2_with (go_at_call 90; refine (words_blank.calls (c : Int) false _ hbl).mono ?_; rintro e w3 ⟨rfl, nd3, rfl⟩)
          obtain ⟨hr1, hr2⟩ := HRY.out hb
          go_roundg (t.size - (pos + d))
          case measure => omega
          case rel =>
            refine ⟨pos + d, some (b0), ws, Nat.le_refl _, ?_⟩
            obtain ⟨d', rfl⟩ : ∃ d', d = d' + 1 := ⟨d - 1, by omega⟩
            have hrun := fieldsG_run d' (t.data.toList.drop pos) (a + pos) (some b0) (by rw [List.length_drop]; have : pos + (d' + 1) ≤ t.size := hr1; omega) (fun j c hj hc => hr2 j c hj hc)
            rw [List.drop_drop] at hrun
            refine ⟨by omega, hW1, hW2.trans (below_drewN (Below.refl _ W) nd3), bbg, ?_, ?_, ?_, by omega, ?_⟩
            · obtain ⟨v, hv, hR⟩ := bou
              exact ⟨v, hv, Kd.R_drewN hR nd3⟩
            · rw [HF.out.eq, hrun, show a + pos + (d' + 1) = a + (pos + (d' + 1)) by omega]; rfl
            · intro b hb'; injection hb' with hb'; have := HF.out.lo b0 rfl; omega
            · have := lt_of_get hW1; simpa using this
    · have hps : pos = t.size := by have := HF.out.le; omega
      have hnx : ∀ ty, (Instr.next (.pointer (some ⟨w.heap.size + 2, 0, none⟩)) true ty).run Tryz.prog wr = .ok (.tuple #[.bool false]) wr := fun ty => run_next_end_at wr _ t pos ty HF.out.iter hp
      have hlen := HF.out.len
      have e0 : fieldsG t.data.toList a none = endW ws st b := by
        rw [HF.out.eq, hps, List.drop_of_length_le (show t.data.toList.length ≤ t.size from Nat.le_refl _), show a + t.size = b by omega]
        cases st <;> simp [fieldsG, endW]
      go_wp2_with (go_at_call 89; refine (end_calls w.heap.size w.heap.size (w.heap.size + 1) _ b rfl st ws wr (fun b hb => by have := HF.out.lo b hb; omega) (Nat.le_refl _) (by omega) (by omega) (by omega) HF.out.beg HF.out.out HF.out.bel.size).mono ?_; rintro e W5 ⟨⟨v5, rfl⟩, H5⟩; obtain ⟨v6, bv6, hR6⟩ := H5.out; obtain ⟨A6, c6, rfl⟩ := Kd.R_slice hR6; have cv6 := bv6.cell; have fv6 := bv6.frozen)
      have b7 := bv6.set (.slice A6 (endW ws st b).length c6)
      have c7 := b7.cell
      have hR7 := Kd.R_set hR6 bv6 (fun q hq => by have hq' : q ∈ [105] := hq; simp at hq'; omega) 0 (.slice A6 (endW ws st b).length c6)
      rw [e0]
      refine bodyPost_ret (v := .slice A6 (endW ws st b).length c6) ?_ rfl ⟨_, rfl, hR7, (HF.out.bel.trans (H5.bel)).setCell (p := ⟨w.heap.size, 0, none⟩) (by simp) _⟩
      simp [results, show Tryz.f48.results = #[.cell 6 30] from rfl, go_sem, c7]
set_option maxRecDepth 100000 in
set_option maxHeartbeats 4000000 in
theorem Fields_none (s : ByteArray) (a b : Int) (h : words_places.f s a b = some false) (w : World) :
    Calls Tryz.prog 48 #[.string s, .int .i64 a, .int .i64 b] w fun e W' => ∃ v, e = .returned v ∧ Kd.R k105 105 W' w.heap.size (fun _ => True) v ([] : List Wd) ∧ Below w.heap.size w W' := by
  go_enter Tryz.func48, Tryz.ntmps48
  go_wp2_with (go_at_call 88; refine (words_places.calls s a b false _ h).mono ?_; rintro e w1 ⟨rfl, nd, rfl⟩)
  have b0 : Boxed (((w.alloc (.cells #[.slice none 0 0] 30)).drewN nd).setCell ⟨w.heap.size, 0, none⟩ (.slice none 0 0)) w.heap.size 30 (.slice none 0 0) := Boxed.set (W := (w.alloc (.cells #[.slice none 0 0] 30)).drewN nd) (t := 30) (v := .slice none 0 0) _ (Boxed.new w _ _)
  have c0 := b0.cell
  refine bodyPost_ret (v := .slice none 0 0) ?_ rfl ⟨_, rfl, Kd.R_nil _ _ _ _ _, (below_drewN ((Below.refl _ w).alloc (Nat.le_refl _) _) _).setCell (p := ⟨w.heap.size, 0, none⟩) (by simp) _⟩
  simp [results, show Tryz.f48.results = #[.cell 6 30] from rfl, go_sem, c0]
end Go.Proofs.YtadocbfchdendaaGreatDoor.Cu
namespace Go.Proofs.YtadocbfchdendaaGreatDoor.P
open Go.RowKit Go.Lib Go.Proofs.YtadocbfchdendaaGreatDoorW.PrintWords
set_option linter.unusedSimpArgs false
set_option linter.unusedVariables false
def words_Fields.f (a0 : ByteArray) (a1 a2 : Int) : Option (List S105) :=
  if a0.size < 1000000000 then (if 0 ≤ a1 ∧ a1 ≤ a2 ∧ a2 ≤ (a0.size : Int) then some (Cu.fieldsG ((a0.data.toList.drop a1.toNat).take (a2.toNat - a1.toNat)) a1.toNat none) else some []) else none
theorem words_Fields.calls (a0 : ByteArray) (a1 a2 : Int) (r : List S105) (w : World) (h : words_Fields.f a0 a1 a2 = some r) :
    Calls Tryz.prog 48 #[.string a0, .int .i64 a1, .int .i64 a2] w fun e w' => ∃ v0_ : Value, e = .returned (v0_) ∧ Kd.R k105 105 w' w.heap.size (fun _ => True) v0_ r ∧ Below w.heap.size w w' := by
  unfold words_Fields.f at h
  split at h
  · rename_i hs
    split at h
    · rename_i hb
      obtain rfl := Option.some.inj h
      obtain ⟨b1, b2, b3⟩ := hb
      have := Cu.Fields_calls a0 hs a1.toNat a2.toNat (by omega) (by omega) w
      rwa [Int.toNat_of_nonneg b1, Int.toNat_of_nonneg (by omega : 0 ≤ a2)] at this
    · rename_i hb
      obtain rfl := Option.some.inj h
      refine Cu.Fields_none a0 a1 a2 ?_ w
      unfold words_places.f
      split
      · split
        · rw [Option.some.injEq, decide_eq_false_iff_not]
          intro h3
          exact hb ⟨by assumption, by assumption, h3⟩
        · rfl
      · rfl
  · cases h
end Go.Proofs.YtadocbfchdendaaGreatDoor.P
namespace Go.Proofs.YtadocbfchdendaaGreatDoor.P
open Go.RowKit Go.Proofs.YtadocbfchdendaaGreatDoorW.PrintWords Go.Proofs.YtadocbfchdendaaGreatDoorW.PrintLast Go.Proofs.YtadocbfchdendaaGreatDoorW.PrintMore
attribute [local go_sem] max2_int min2_int max_two min_two max_three min_three max_four min_four   -- for this text's walks alone
set_option linter.unusedVariables false
set_option linter.unusedSimpArgs false
def sheet_Rows.l0 : Nat → ByteArray → Int → List (S32) → List (S96) → Int → Int → Option ((List (S32)))
 | 0, _, _, _, _, _, _ => none
 | k + 1, x0, x1, x4, x8, x9, x10 => if x10 < x9 then (if 0 ≤ x10 then (if x10 < (x8.length : Int) then (if ((rd_T96 x8 x10).f0) ≥ x1 then ((words_Fields.f x0 ((rd_T96 x8 x10).f0) ((rd_T96 x8 x10).f1)).bind fun t106 => (if x4.length < 4398046511104 then (sheet_Rows.l0 k x0 x1 (x4 ++ [(⟨(rd_T96 x8 x10).f0, t106⟩ : S32)]) x8 x9 (wrap64 (x10 + 1))) else (none))) else (sheet_Rows.l0 k x0 x1 x4 x8 x9 (wrap64 (x10 + 1)))) else (none)) else (none)) else (some x4)
def sheet_Rows.f (k : Nat) (a0 : ByteArray) (a1 : Int) : Option ((List (S32))) := (cursor_Rows.f a0).bind fun t101 => (sheet_Rows.l0 k a0 a1 ([] : List (S32)) t101 (t101.length : Int) 0)
theorem sheet_Rows.mono_l : ∀ k, (∀ y0 y1 y2 y3 y4 y5, LeO (sheet_Rows.l0 k y0 y1 y2 y3 y4 y5) (sheet_Rows.l0 (k + 1) y0 y1 y2 y3 y4 y5))
 | 0 => fun _ _ _ _ _ _ r h => by simp [sheet_Rows.l0] at h
 | k + 1 => by
  have ih0 := sheet_Rows.mono_l k
  ·intro y0 y1 y2 y3 y4 y5
   unfold sheet_Rows.l0
   repeat' first
   | (with_reducible exact ih0 _ _ _ _ _ _)
   | (with_reducible exact LeO.refl _)
   | (with_reducible exact LeO.none _)
   | (with_reducible refine LeO.ite ?_ ?_)
   | (with_reducible refine LeO.bind ?_ (fun _ => ?_))
   | exact ih0 _ _ _ _ _ _
   | exact LeO.none _
   | refine LeO.ite ?_ ?_
   | refine LeO.bind ?_ (fun _ => ?_)
theorem sheet_Rows.mono : ∀ a0 a1 k, LeO (sheet_Rows.f k a0 a1) (sheet_Rows.f (k + 1) a0 a1) := by
 intro a0 a1 k
 have ih0 := sheet_Rows.mono_l k; unfold sheet_Rows.f
 repeat' first
   | (with_reducible exact ih0 _ _ _ _ _ _)
   | (with_reducible exact LeO.refl _)
   | (with_reducible exact LeO.none _)
   | (with_reducible refine LeO.ite ?_ ?_)
   | (with_reducible refine LeO.bind ?_ (fun _ => ?_))
   | exact ih0 _ _ _ _ _ _
   | exact LeO.none _
   | refine LeO.ite ?_ ?_
   | refine LeO.bind ?_ (fun _ => ?_)
def sheet_Rows.T5 : Bool × List (List Nat × List Nat) := (true, [([], []), ([], []), ([1], [1]), ([], []), ([], []), ([4], [4]), ([], []), ([6], [6]), ([3, 5, 7], [3, 5, 7]), ([2, 8], [2, 8]), ([9], [9]), ([0, 10, 8], [0, 10]), ([11, 11, 0, 1, 2, 3, 4, 5, 6, 7, 8, 9, 10, 11], [0, 11])])
def sheet_Rows.B5 : List Nat := [0, 0, 2, 0, 0, 16, 0, 64, 248, 510, 1022, 2047, 4095]
theorem sheet_Rows.tab5 : rtab .any (opsOf Tryz.f15 5) = sheet_Rows.T5 := by kernel_rfl
theorem sheet_Rows.bits5 : waitsOk sheet_Rows.T5.2 sheet_Rows.B5 = true := by kernel_rfl
set_option maxHeartbeats 8000000 in
set_option maxRecDepth 100000 in
theorem sheet_Rows.calls (k : Nat) (a0 : ByteArray) (a1 : Int) (r : List (S32)) (w : World) (h : sheet_Rows.f k a0 a1 = some r) :
  Calls Tryz.prog 15 #[.string a0, .int .i64 a1] w fun e w' => ∃ v0_ : Value, e = .returned (v0_) ∧ Kd.S k32 32 w' w.heap.size (fun _ => True) v0_ r ∧ Below w.heap.size w w' := by
 have hu96 := Tryz.underlying96; have hu32 := Tryz.underlying32; have HB := Aside0.mk (Below.refl w.heap.size w); have H : ((cursor_Rows.f a0).bind fun t101 => (sheet_Rows.l0 k a0 a1 ([] : List (S32)) t101 (t101.length : Int) 0)) = some r := h; clear h; replace H := Option.bind_eq_some_iff.mp H; obtain ⟨t101, A30, H⟩ := H; (try dsimp only at H); have A3 := Aside0.mk A30; clear A30; have H' := Aside0.mk H; clear H; go_enter Tryz.func15, Tryz.ntmps15
 go_wp2_with (first | ((with_reducible refine gate_callee (f := 47) rfl ?_); refine goesL_ (some 8) rfl rfl Tryz.func47 (by kernel_rfl) rfl #[.string a0] rfl qm ?_; (with_reducible refine (cursor_Rows.calls a0 t101 _ A3.out).mono ?_); rintro e w4 ⟨v102, rfl, ho0, hb⟩; refine ⟨_, rfl, ?_⟩; have HO103 := Aside0.mk (Kd.R_lower ho0 (below_size qb)); replace HB := cB HB hb; (try clear hb); (try clear hb2); (try clear hk); (try clear hi); (try clear ho0); obtain ⟨Ao5, co5, eo5⟩ := Kd.R_slice HO103.out; subst eo5))
 (try simp only [Act.put, List.setIfInBounds_toArray, List.set_cons_zero, List.set_cons_succ])
 go_loopg [4, 10] k (fun kq v4 v10 w' => ∃ (x4_1 : List (S32)) (x10_1 : Int), v10 = .int .i64 x10_1 ∧ Aside0 (sheet_Rows.l0 kq a0 a1 x4_1 t101 (t101.length : Int) x10_1 = some r) ∧ Aside0 (kq ≤ k) ∧ Aside0 (Kd.S k32 32 w' w.heap.size (fun _ => True) v4 x4_1) ∧ Aside0 (Kd.R k96 96 w' w.heap.size (fun _ => True) (.slice Ao5 t101.length co5) t101) ∧ Aside0 (Below w.heap.size w w'))
 case atStart => exact ⟨(([] : List (S32))), (0), qr, H', ⟨Nat.le_refl _⟩, ⟨by first | exact Kd.S_nil _ _ _ _ _ | exact Kd.N_nil _ _ _ _ _ | exact Kd.V_nil _ _ _ _ _ | exact Kd.Q_nil _ _ _ _ _ | exact Kd.R_nil _ _ _ _ _⟩, ⟨qR HO103.out⟩, ⟨qb⟩⟩
 case round =>
  clear H'; (try clear c1); (try clear p2); (try clear c4); obtain ⟨x4_1, x10_1, rfl, HA, HK1, HO_4, HO_8, HB⟩ := hrel; cases gk with
  | zero => exact absurd HA.out (by simp [sheet_Rows.l0])
  | succ k1 =>
   have H := HA.out; clear HA; simp only [sheet_Rows.l0] at H
   by_cases c6 : x10_1 < (t101.length : Int)
   ·rw [if_pos c6] at H; have c6b0 := decide_eq_true c6; clear c6
    by_cases c7 : 0 ≤ x10_1
    ·rw [if_pos c7] at H; have c7b0 := decide_eq_true c7; clear c7
     by_cases c8 : x10_1 < (t101.length : Int)
     ·rw [if_pos c8] at H; have c8b0 := decide_eq_true c8; clear c8
      by_cases c9 : ((rd_T96 t101 x10_1).f0) ≥ a1
      ·rw [if_pos c9] at H; have c9b0 := decide_eq_true c9; clear c9; replace H := Option.bind_eq_some_iff.mp H; obtain ⟨t106, A100, H⟩ := H; (try dsimp only at H); have A10 := Aside0.mk A100; clear A100
       by_cases c11 : x4_1.length < 4398046511104
       ·rw [if_pos c11] at H; have LMc11 := Aside0.mk c11; clear c11; obtain ⟨y109, hy109⟩ : ∃ y_ : List (S32), y_ = (x4_1 ++ [(⟨(rd_T96 t101 x10_1).f0, t106⟩ : S32)]) := ⟨_, rfl⟩; replace H : (sheet_Rows.l0 k1 a0 a1 y109 t101 (t101.length : Int) (wrap64 (x10_1 + 1))) = some r := by first | (rw [hy109]; with_reducible exact H) | (have H2_ := (Option.bind_some _ _).symm.trans H; rw [hy109]; with_reducible exact H2_) | (have H2_ := (Option.bind_some _ _).symm.trans H; with_reducible exact H2_) | with_reducible exact H | (rw [hy109]; exact H) | exact H
        have Ny109 := Aside0.mk hy109; clear hy109; have H' := Aside0.mk H; clear H; have p104 : 0 ≤ (x10_1 : Int) := of_decide_eq_true qa; have q104 : x10_1 < (t101.length : Int) := of_decide_eq_true qa; obtain ⟨ad104, e104, hx104_0, hx104_1, hx104_2⟩ := at_T96 (Kd.R_reads' HO_8.out).2.2 x10_1 p104 q104; cases e104; (try simp only [Go.IntWalk.toNatUp] at hx104_0); (try simp only [Go.IntWalk.toNatUp] at hx104_1); (try simp only [Go.IntWalk.toNatUp] at hx104_2); replace p104 := eq_true p104; replace q104 := eq_true q104
        try go_wp2_with (first | ((with_reducible refine gate_dst (N := 6) rfl ?_); refine box_ev (N := 6) (cs := #[.int .i64 0, .int .i64 0, .int .i64 0]) (t := 96) ?_; intro gb105 hg w12 hbox hb; have n1_ := Aside0.mk (Kd.R_below (Kd.R_elderB (qR HO_8.out) gb105 (Nat.le_of_eq hg.symm)) hb); have BK105 := Aside0.mk (hbox); have GW105 := Aside0.mk ((qg : w.heap.size ≤ gb105)); have GE105 := Aside0.mk ((qg : w.heap.size ≤ gb105)); replace HO_4 := cS HO_4 hb; replace HB := cB HB hb; replace HO_8 := n1_; clear n1_; clear hb hbox hg; have hcz13_0 : w12.cell? ⟨gb105, 0, none⟩ = some (.int .i64 0) := (blk_cell BK105.out 0).trans rfl; have hcz13_1 : w12.cell? ⟨gb105, 1, none⟩ = some (.int .i64 0) := (blk_cell BK105.out 1).trans rfl; have hcz13_2 : w12.cell? ⟨gb105, 2, none⟩ = some (.int .i64 0) := (blk_cell BK105.out 2).trans rfl; have hfz13_0 := blk_frozen BK105.out 0; have hfz13_1 := blk_frozen BK105.out 1; have hfz13_2 := blk_frozen BK105.out 2))
        have n0_ : Aside0 (Kd.S k32 32 (((w12.setCell ⟨gb105, 0, none⟩ (.int .i64 ((rd_T96 t101 x10_1).f0))).setCell ⟨gb105, 1, none⟩ (.int .i64 ((rd_T96 t101 x10_1).f1))).setCell ⟨gb105, 2, none⟩ (.int .i64 ((rd_T96 t101 x10_1).f2))) w.heap.size (fun _ => True) u4 x4_1) := ⟨by refine qS ?_; exact Kd.S_mono (Kd.S_far (p := ⟨gb105, 2, none⟩) (Kd.S_far (p := ⟨gb105, 1, none⟩) (Kd.S_far (p := ⟨gb105, 0, none⟩) (Kd.S_types HO_4.out BK105.out (by decide)) (fun _ hk => hk.2) (.int .i64 ((rd_T96 t101 x10_1).f0))) (fun _ hk => hk.2) (.int .i64 ((rd_T96 t101 x10_1).f1))) (fun _ hk => hk.2) (.int .i64 ((rd_T96 t101 x10_1).f2))) (fun _ hk => trivial)⟩; have n1_ : Aside0 (Kd.R k96 96 (((w12.setCell ⟨gb105, 0, none⟩ (.int .i64 ((rd_T96 t101 x10_1).f0))).setCell ⟨gb105, 1, none⟩ (.int .i64 ((rd_T96 t101 x10_1).f1))).setCell ⟨gb105, 2, none⟩ (.int .i64 ((rd_T96 t101 x10_1).f2))) w.heap.size (fun k_ => k_ ≠ gb105) (.slice (some ad104) t101.length co5) t101) := ⟨by refine qR ?_; exact Kd.R_mono (Kd.R_far (p := ⟨gb105, 2, none⟩) (Kd.R_far (p := ⟨gb105, 1, none⟩) (Kd.R_far (p := ⟨gb105, 0, none⟩) (Kd.R_mono HO_8.out (fun k_ hk => (⟨hk, hk.2⟩ : _ ∧ k_ ≠ gb105))) (fun _ hk => hk.2) (.int .i64 ((rd_T96 t101 x10_1).f0))) (fun _ hk => hk.2) (.int .i64 ((rd_T96 t101 x10_1).f1))) (fun _ hk => hk.2) (.int .i64 ((rd_T96 t101 x10_1).f2))) (fun _ hk => hk.1.2)⟩; have n2_ : Aside0 ((((w12.setCell ⟨gb105, 0, none⟩ (.int .i64 ((rd_T96 t101 x10_1).f0))).setCell ⟨gb105, 1, none⟩ (.int .i64 ((rd_T96 t101 x10_1).f1))).setCell ⟨gb105, 2, none⟩ (.int .i64 ((rd_T96 t101 x10_1).f2))).heap[gb105]? = some (.cells #[.int .i64 ((rd_T96 t101 x10_1).f0), .int .i64 ((rd_T96 t101 x10_1).f1), .int .i64 ((rd_T96 t101 x10_1).f2)] 96 (0, 0))) := ⟨by refine qk ?_; refine blk_put (cs := #[.int .i64 ((rd_T96 t101 x10_1).f0), .int .i64 ((rd_T96 t101 x10_1).f1), .int .i64 0]) ?_ 2 _ rfl; refine qk ?_; refine blk_put (cs := #[.int .i64 ((rd_T96 t101 x10_1).f0), .int .i64 0, .int .i64 0]) ?_ 1 _ rfl; refine qk ?_; refine blk_put (cs := #[.int .i64 0, .int .i64 0, .int .i64 0]) ?_ 0 _ rfl; refine qk ?_; exact BK105.out⟩; have n3_ : Aside0 (Below w.heap.size w (((w12.setCell ⟨gb105, 0, none⟩ (.int .i64 ((rd_T96 t101 x10_1).f0))).setCell ⟨gb105, 1, none⟩ (.int .i64 ((rd_T96 t101 x10_1).f1))).setCell ⟨gb105, 2, none⟩ (.int .i64 ((rd_T96 t101 x10_1).f2)))) := ⟨qb⟩; (try clear HO_4); (try clear HO_8); (try clear BK105); (try clear HB); generalize (((w12.setCell ⟨gb105, 0, none⟩ (.int .i64 ((rd_T96 t101 x10_1).f0))).setCell ⟨gb105, 1, none⟩ (.int .i64 ((rd_T96 t101 x10_1).f1))).setCell ⟨gb105, 2, none⟩ (.int .i64 ((rd_T96 t101 x10_1).f2))) = w14 at n0_ n1_ n2_ n3_ ⊢; have HO_4 := n0_; have HO_8 := n1_; have BK105 := n2_; have HB := n3_; clear n0_ n1_ n2_ n3_; have n0_ := Aside0.mk (Kd.S_drew HO_4.out); have n1_ := Aside0.mk (Kd.R_drew HO_8.out); have n2_ := Aside0.mk (blk_drew BK105.out); have n3_ := Aside0.mk (below_drew1 HB.out); clear HO_4; clear HO_8; clear BK105; clear HB; have HO_4 := n0_; have HO_8 := n1_
        have BK105 := n2_; have HB := n3_; clear n0_ n1_ n2_ n3_; refine start_ (n := 13) (S := fun w' => w'.cell? ⟨gb105, 0, none⟩ = some (.int .i64 ((rd_T96 t101 x10_1).f0)) ∧ w'.cell? ⟨gb105, 1, none⟩ = some (.int .i64 ((rd_T96 t101 x10_1).f1)) ∧ w'.cell? ⟨gb105, 2, none⟩ = some (.int .i64 ((rd_T96 t101 x10_1).f2))) (ds := []) #[false, false, false, false, false, false, false, false, false, false, false, false, false] (by kernel_rfl) rfl rfl ⟨(blk_cell BK105.out 0).trans rfl, (blk_cell BK105.out 1).trans rfl, (blk_cell BK105.out 2).trans rfl⟩ (fun hHeld => ?_); refine with_tabW sheet_Rows.tab5 sheet_Rows.bits5 (fun HT_ HW_ => ?_); generalize w14.drew = w15 at HO_4 HO_8 BK105 HB hHeld ⊢; refine pure_ (i := 0) (N := some 18) (v := ?_) (a' := ?_) #[true, false, false, false, false, false, false, false, false, false, false, false, false] rfl rfl (any_of HT_.out (by kernel_rfl)) (fun _ _ _ h => h) (Or.inl ⟨by rfl, ?_⟩) ?_ ?_
        rotate_left
        ·intro w'
         go_simp
         with_reducible rfl
        rotate_left
        ·simp only [Act.put, List.setIfInBounds_toArray, List.set_cons_zero, List.set_cons_succ, i64_w, i32_w]
         rfl
        refine pure_ (i := 1) (N := some 19) (v := ?_) (a' := ?_) #[true, true, false, false, false, false, false, false, false, false, false, false, false] rfl rfl (any_of HT_.out (by kernel_rfl)) (fun _ _ _ h => h) (Or.inl ⟨by rfl, ?_⟩) ?_ ?_
        rotate_left
        ·intro w'
         go_simp
         with_reducible rfl
        rotate_left
        ·simp only [Act.put, List.setIfInBounds_toArray, List.set_cons_zero, List.set_cons_succ, i64_w, i32_w]
         rfl
        refine pure_ (i := 3) (N := some 21) (v := ?_) (a' := ?_) #[true, true, false, true, false, false, false, false, false, false, false, false, false] rfl rfl (any_of HT_.out (by kernel_rfl)) (fun _ _ _ h => h) (Or.inl ⟨by rfl, ?_⟩) ?_ ?_
        rotate_left
        ·intro w'
         go_simp
         with_reducible rfl
        rotate_left
        ·simp only [Act.put, List.setIfInBounds_toArray, List.set_cons_zero, List.set_cons_succ, i64_w, i32_w]
         rfl
        refine pure_ (i := 4) (N := some 22) (v := ?_) (a' := ?_) #[true, true, false, true, true, false, false, false, false, false, false, false, false] rfl rfl (any_of HT_.out (by kernel_rfl)) (fun _ _ _ h => h) (Or.inl ⟨by rfl, ?_⟩) ?_ ?_
        rotate_left
        ·intro w'
         go_simp
         with_reducible rfl
        rotate_left
        ·simp only [Act.put, List.setIfInBounds_toArray, List.set_cons_zero, List.set_cons_succ, i64_w, i32_w]
         rfl
        refine pure_ (i := 6) (N := some 24) (v := ?_) (a' := ?_) #[true, true, false, true, true, false, true, false, false, false, false, false, false] rfl rfl (any_of HT_.out (by kernel_rfl)) (fun _ _ _ h => h) (Or.inl ⟨by rfl, ?_⟩) ?_ ?_
        rotate_left
        ·intro w'
         go_simp
         with_reducible rfl
        rotate_left
        ·simp only [Act.put, List.setIfInBounds_toArray, List.set_cons_zero, List.set_cons_succ, i64_w, i32_w]
         rfl
        refine take_ (i := 2) (N := some 20) (v := ?_) (a' := ?_) #[true, true, true, true, true, false, true, false, false, false, false, false, false] rfl rfl (take_ofW HT_.out HW_.out (by kernel_rfl)) (fun _ _ _ h => h) (Or.inl ⟨by rfl, ?_⟩) hHeld ?_ ?_
        rotate_left
        ·rintro w' ⟨s0, s1, s2⟩
         go_simp
         with_reducible rfl
        rotate_left
        ·simp only [Act.put, List.setIfInBounds_toArray, List.set_cons_zero, List.set_cons_succ, i64_w, i32_w]
         rfl
        refine take_ (i := 5) (N := some 23) (v := ?_) (a' := ?_) #[true, true, true, true, true, true, true, false, false, false, false, false, false] rfl rfl (take_ofW HT_.out HW_.out (by kernel_rfl)) (fun _ _ _ h => h) (Or.inl ⟨by rfl, ?_⟩) hHeld ?_ ?_
        rotate_left
        ·rintro w' ⟨s0, s1, s2⟩
         go_simp
         with_reducible rfl
        rotate_left
        ·simp only [Act.put, List.setIfInBounds_toArray, List.set_cons_zero, List.set_cons_succ, i64_w, i32_w]
         rfl
        refine take_ (i := 7) (N := some 25) (v := ?_) (a' := ?_) #[true, true, true, true, true, true, true, true, false, false, false, false, false] rfl rfl (take_ofW HT_.out HW_.out (by kernel_rfl)) (fun _ _ _ h => h) (Or.inl ⟨by rfl, ?_⟩) hHeld ?_ ?_
        rotate_left
        ·rintro w' ⟨s0, s1, s2⟩
         go_simp
         with_reducible rfl
        rotate_left
        ·simp only [Act.put, List.setIfInBounds_toArray, List.set_cons_zero, List.set_cons_succ, i64_w, i32_w]
         rfl
        refine one_ (i := 8) (N := some 26) #[true, true, true, true, true, true, true, true, true, false, false, false, false] rfl rfl (one_of HT_.out (by kernel_rfl)) (by decide) (fun K hK => ?_); refine goes_ Tryz.func48 (by kernel_rfl) rfl #[.string a0, .int .i64 ((rd_T96 t101 x10_1).f0), .int .i64 ((rd_T96 t101 x10_1).f1)] (by rfl) rfl rfl qm ?_
        with_reducible refine (words_Fields.calls a0 ((rd_T96 t101 x10_1).f0) ((rd_T96 t101 x10_1).f1) t106 _ A10.out).mono ?_
        rintro e w16 ⟨v107, rfl, ho0, hb⟩
        refine ⟨_, rfl, ?_⟩; have n0_ := Aside0.mk (Kd.S_elder' (qS HO_4.out) (Kd.R_base ho0) hb); have n1_ := Aside0.mk (Kd.R_below (qR HO_8.out) hb); have n2_ := Aside0.mk (Kd.R_lower ho0 (below_size qb)); have n3_ := Aside0.mk (blk_below (g := gb105) (o := .cells #[.int .i64 ((rd_T96 t101 x10_1).f0), .int .i64 ((rd_T96 t101 x10_1).f1), .int .i64 ((rd_T96 t101 x10_1).f2)] 96 (0, 0)) (qk BK105.out) hb); have n4_ := Aside0.mk (below_step qb hb); clear HO_4; clear HO_8; clear BK105; clear HB; have HO_4 := n0_; have HO_8 := n1_; have HO108 := n2_; have BK105 := n3_; have HB := n4_; clear n0_ n1_ n2_ n3_ n4_; (try clear hb); (try clear hb2); (try clear hk); (try clear hi); (try clear ho0); obtain ⟨Ao17, co17, eo17⟩ := Kd.R_slice HO108.out; (first | subst eo17 | (injection eo17 with f1_ f2_ f3_; have f4_ := f1_.symm; have f5_ := f3_.symm; clear f1_ f2_ f3_; subst f4_; subst f5_)); refine hK.out _ _ ⟨(blk_cell BK105.out 0).trans rfl, (blk_cell BK105.out 1).trans rfl, (blk_cell BK105.out 2).trans rfl⟩ (fun hHeld => ?_); clear hK K; refine norm_ (a' := ?_) ?_ ?_
        rotate_left
        ·show Act.put _ (some 26) _ = _
         simp only [Act.put, List.setIfInBounds_toArray, List.set_cons_zero, List.set_cons_succ, i64_w, i32_w]
         rfl
        refine pure_ (i := 9) (N := some 27) (v := ?_) (a' := ?_) #[true, true, true, true, true, true, true, true, true, true, false, false, false] rfl rfl (any_of HT_.out (by kernel_rfl)) (fun _ _ _ h => h) (Or.inl ⟨by rfl, ?_⟩) ?_ ?_
        rotate_left
        ·intro w'
         go_simp
         with_reducible rfl
        rotate_left
        ·simp only [Act.put, List.setIfInBounds_toArray, List.set_cons_zero, List.set_cons_succ, i64_w, i32_w]
         rfl
        refine one_ (i := 10) (N := some 28) #[true, true, true, true, true, true, true, true, true, true, true, false, false] rfl rfl (one_of HT_.out (by kernel_rfl)) (by decide) (fun K hK => ?_); refine value_ (w1 := ?_) (v := ?_) (by rfl) rfl ?_ ?_
        rotate_left 2
        ·go_simp
         constructor
         ·rfl
         ·rfl
        refine hK.out _ _ ⟨(blk_cell (blk_alloc BK105.out _) 0).trans rfl, (blk_cell (blk_alloc BK105.out _) 1).trans rfl, (blk_cell (blk_alloc BK105.out _) 2).trans rfl⟩ (fun hHeld => ?_); clear hK K; refine norm_ (a' := ?_) ?_ ?_
        rotate_left
        ·show Act.put _ (some 28) _ = _
         simp only [Act.put, List.setIfInBounds_toArray, List.set_cons_zero, List.set_cons_succ, i64_w, i32_w]
         rfl
        refine one_ (i := 11) (N := some 29) #[true, true, true, true, true, true, true, true, true, true, true, true, false] rfl rfl (one_of HT_.out (by kernel_rfl)) (by decide) (fun K hK => ?_); refine Kd.S_append_step k32 (w0 := w) w.heap.size (by rfl) (.tmp 18) (.tmp 28) 23 32 (.agg #[(.int .i64 0), (.slice none 0 0)]) 32 rfl Tryz.underlying23 info32 rfl (by decide) (by omega) u4 x4_1 (⟨(rd_T96 t101 x10_1).f0, t106⟩ : S32) [.int .i64 ((rd_T96 t101 x10_1).f0), .slice Ao17 t106.length co17] (fun _ => True) (fun k_ => some k_ = (.slice Ao17 t106.length co17 : Value).ownBlock) rfl rfl ?aP (fun k_ hk_ => ((Kd.R_mono (ok' := fun k_ => ((fun _ => True)) k_ ∧ some k_ ≠ (u4 : Value).ownBlock) (Kd.R_apart' (HO108.out) (Kd.S_typed HO_4.out) (by decide)) (fun k_ hk => ⟨trivial, hk.2⟩))).1 k_ hk_.symm) ?aF ?aO ?aB ?aS ?aL ?_; (case aP => exact k32_mkM _ _ _ (⟨(rd_T96 t101 x10_1).f0, t106⟩ : S32) (Kd.R_mono (Kd.R_tight rfl (Kd.R_mono (ok' := fun k_ => ((fun _ => True)) k_ ∧ some k_ ≠ (u4 : Value).ownBlock) (Kd.R_apart' (HO108.out) (Kd.S_typed HO_4.out) (by decide)) (fun k_ hk => ⟨trivial, hk.2⟩))) (fun _ h_ => h_))); (case aB => exact qb); (case aF => exact (fun _ _ => trivial)); (case aO => exact (by refine qS ?_; exact Kd.S_mono HO_4.out (fun k_ hk => ⟨trivial, fun e_ => hk.2 e_⟩))); (case aS => exact (below_size qb)); (case aL => have := LMc11.out; omega)
        intro v110 w18 ho hb hg hat
        rw [← Ny109.out] at ho; have n0_ := Aside0.mk (Kd.R_over' (qR HO_8.out) (Kd.S_typed (qS HO_4.out)) (by decide) hg); have n1_ := Aside0.mk (blk_grown (g := gb105) (o := .cells #[.int .i64 ((rd_T96 t101 x10_1).f0), .int .i64 ((rd_T96 t101 x10_1).f1), .int .i64 ((rd_T96 t101 x10_1).f2)] 96 (0, 0)) (qk BK105.out) hg (Kd.S_ne HO_4.out BK105.out (by decide))); have n2_ := Aside0.mk (hb); have n3_ := Aside0.mk (ho); clear HO_8; clear BK105; clear HB; clear HO_4; clear HO108; have HO_8 := n0_; have BK105 := n1_; have HB := n2_; have HO111 := n3_; clear n0_ n1_ n2_ n3_; clear ho hb hg hat; refine hK.out _ _ ⟨(blk_cell BK105.out 0).trans rfl, (blk_cell BK105.out 1).trans rfl, (blk_cell BK105.out 2).trans rfl⟩ (fun hHeld => ?_); clear hK K; refine norm_ (a' := ?_) ?_ ?_
        rotate_left
        ·show Act.put _ (some 29) _ = _
         simp only [Act.put, List.setIfInBounds_toArray, List.set_cons_zero, List.set_cons_succ, i64_w, i32_w]
         rfl
        refine pure_ (i := 12) (N := some 4) (v := ?_) (a' := ?_) #[true, true, true, true, true, true, true, true, true, true, true, true, true] rfl rfl (any_of HT_.out (by kernel_rfl)) (fun _ _ _ h => h) (Or.inl ⟨by rfl, ?_⟩) ?_ ?_
        rotate_left
        ·intro w'
         go_simp
         with_reducible rfl
        rotate_left
        ·simp only [Act.put, List.setIfInBounds_toArray, List.set_cons_zero, List.set_cons_succ, i64_w, i32_w]
         rfl
        refine done_ (done_of HT_.out (by kernel_rfl)) ?_
        try go_wp2
        go_roundg k1
        case measure => have := HK1.out; omega
        case rel => exact ⟨(y109), (wrap64 (x10_1 + 1)), qr, H', ⟨by have := HK1.out; omega⟩, ⟨qS HO111.out⟩, ⟨by refine qR ?_; exact Kd.R_mono HO_8.out (fun _ hk => trivial)⟩, ⟨qb⟩⟩
       ·rw [if_neg c11] at H
        exact absurd H (by simp)
      ·rw [if_neg c9] at H; have c9b0 := decide_eq_false c9; clear c9; have H' := Aside0.mk H; clear H; have p104 : 0 ≤ (x10_1 : Int) := of_decide_eq_true qa; have q104 : x10_1 < (t101.length : Int) := of_decide_eq_true qa; obtain ⟨ad104, e104, hx104_0, hx104_1, hx104_2⟩ := at_T96 (Kd.R_reads' HO_8.out).2.2 x10_1 p104 q104; cases e104; (try simp only [Go.IntWalk.toNatUp] at hx104_0); (try simp only [Go.IntWalk.toNatUp] at hx104_1); (try simp only [Go.IntWalk.toNatUp] at hx104_2); replace p104 := eq_true p104; replace q104 := eq_true q104
       go_wp2_with (first | ((with_reducible refine gate_dst (N := 6) rfl ?_); refine box_ev (N := 6) (cs := #[.int .i64 0, .int .i64 0, .int .i64 0]) (t := 96) ?_; intro gb105 hg w19 hbox hb; have n1_ := Aside0.mk (Kd.R_below (Kd.R_elderB (qR HO_8.out) gb105 (Nat.le_of_eq hg.symm)) hb); have BK105 := Aside0.mk (hbox); have GW105 := Aside0.mk ((qg : w.heap.size ≤ gb105)); have GE105 := Aside0.mk ((qg : w.heap.size ≤ gb105)); replace HO_4 := cS HO_4 hb; replace HB := cB HB hb; replace HO_8 := n1_; clear n1_; clear hb hbox hg; have hcz20_0 : w19.cell? ⟨gb105, 0, none⟩ = some (.int .i64 0) := (blk_cell BK105.out 0).trans rfl; have hcz20_1 : w19.cell? ⟨gb105, 1, none⟩ = some (.int .i64 0) := (blk_cell BK105.out 1).trans rfl; have hcz20_2 : w19.cell? ⟨gb105, 2, none⟩ = some (.int .i64 0) := (blk_cell BK105.out 2).trans rfl; have hfz20_0 := blk_frozen BK105.out 0; have hfz20_1 := blk_frozen BK105.out 1; have hfz20_2 := blk_frozen BK105.out 2))
       go_roundg k1
       case measure => have := HK1.out; omega
       case rel => exact ⟨(x4_1), (wrap64 (x10_1 + 1)), qr, H', ⟨by have := HK1.out; omega⟩, ⟨by refine qS ?_; exact Kd.S_mono (Kd.S_far (p := ⟨gb105, 2, none⟩) (Kd.S_far (p := ⟨gb105, 1, none⟩) (Kd.S_far (p := ⟨gb105, 0, none⟩) (Kd.S_types HO_4.out BK105.out (by decide)) (fun _ hk => hk.2) (.int .i64 ((rd_T96 t101 x10_1).f0))) (fun _ hk => hk.2) (.int .i64 ((rd_T96 t101 x10_1).f1))) (fun _ hk => hk.2) (.int .i64 ((rd_T96 t101 x10_1).f2))) (fun _ hk => trivial)⟩, ⟨by refine qR ?_; exact Kd.R_mono (Kd.R_far (p := ⟨gb105, 2, none⟩) (Kd.R_far (p := ⟨gb105, 1, none⟩) (Kd.R_far (p := ⟨gb105, 0, none⟩) (Kd.R_mono HO_8.out (fun k_ hk => (⟨hk, hk.2⟩ : _ ∧ k_ ≠ gb105))) (fun _ hk => hk.2) (.int .i64 ((rd_T96 t101 x10_1).f0))) (fun _ hk => hk.2) (.int .i64 ((rd_T96 t101 x10_1).f1))) (fun _ hk => hk.2) (.int .i64 ((rd_T96 t101 x10_1).f2))) (fun _ hk => trivial)⟩, ⟨qb⟩⟩
     ·rw [if_neg c8] at H
      exact absurd H (by simp)
    ·rw [if_neg c7] at H
     exact absurd H (by simp)
   ·rw [if_neg c6] at H; have c6b0 := decide_eq_false c6; clear c6; obtain rfl := Option.some.inj H
    go_wp2
    go_ret
    exact ⟨_, qe, by refine qS ?_; exact HO_4.out, qb⟩

end Go.Proofs.YtadocbfchdendaaGreatDoor.P
namespace Go.Proofs.YtadocbfchdendaaGreatDoor.P
open Go.RowKit Go.Proofs.YtadocbfchdendaaGreatDoorW.PrintWords
set_option linter.unusedSimpArgs false
set_option linter.unusedVariables false
def strings_Join.f (l0 : List ByteArray) (a1 : ByteArray) : Option ByteArray :=
  if l0.length ≤ 140737488355328 ∧ (Lib.join (l0.map (·.data.toList)) a1.data.toList).length ≤ 140737488355328 then some ⟨(Lib.join (l0.map (·.data.toList)) a1.data.toList).toArray⟩ else none
theorem cell_spot {w : World} {a : Addr} {v : Value} (h : w.cell? a = some v) : a = ⟨a.block, a.off, none⟩ := by
  obtain ⟨b, o, sp⟩ := a
  unfold World.cell? at h
  split at h
  · split at h
    · cases h
    · rename_i hs
      cases sp with
      | none => rfl
      | some x => simp at hs
  · cases h
theorem strings_Join.calls (A0 : Option Addr) (c0 : Nat) (l0 : List ByteArray) (a1 r : ByteArray) (w : World) (hr0 : Kd.C Kd.string w A0 l0.length l0) (hc0 : l0.length ≤ c0) (h : strings_Join.f l0 a1 = some r) :
    Calls Tryz.prog 54 #[.slice A0 l0.length c0, .string a1] w fun e w' => e = .returned (.string r) ∧ Below w.heap.size w w' := by
  unfold strings_Join.f at h
  split at h
  · rename_i hb
    obtain rfl := Option.some.inj h
    cases l0 with
    | nil =>
      refine (Tryz.strings_Join_none A0 c0 a1 w).mono ?_
      rintro e w' ⟨rfl, rfl⟩
      exact ⟨rfl, Below.refl _ _⟩
    | cons x l =>
      obtain ⟨_, _, h3⟩ := hr0
      obtain ⟨ad, rfl, h4⟩ := h3 (by simp)
      have h5 : ∀ (j : Nat) y, (x :: l)[j]? = some y → w.cell? (ad.add j) = some (.string y) := by
        intro j y hy
        obtain ⟨c, _, hk, hc⟩ := h4 j y hy
        have hk' : c = [.string y] := hk
        subst hk'
        have := hc 0 _ rfl
        simpa [show (Kd.string).sz = 1 from rfl] using this
      have h6 := h5 0 x rfl
      rw [show ad.add 0 = ad from rfl] at h6
      have h7 := cell_spot h6
      obtain ⟨b, o, sp⟩ := ad
      obtain rfl : sp = none := by injection h7
      refine Tryz.strings_Join b o c0 (x :: l) a1 w ?_ (World.block_lt_of_cell? w _ h6) hb.1 hc0 hb.2
      intro j y hy
      have := h5 j y hy
      unfold Addr.add at this
      split at this
      · rename_i hj; subst hj; simpa using this
      · exact this
  · cases h
end Go.Proofs.YtadocbfchdendaaGreatDoor.P
namespace Go.Proofs.YtadocbfchdendaaGreatDoor.P
open Go.RowKit Go.Proofs.YtadocbfchdendaaGreatDoorW.PrintWords Go.Proofs.YtadocbfchdendaaGreatDoorW.PrintLast Go.Proofs.YtadocbfchdendaaGreatDoorW.PrintMore
attribute [local go_sem] max2_int min2_int max_two min_two max_three min_three max_four min_four   -- for this text's walks alone
set_option linter.unusedVariables false
set_option linter.unusedSimpArgs false
def sheet_Title_1.f (a0 : ByteArray) : Option (ByteArray × Int) := some (a0, 0)
set_option maxHeartbeats 8000000 in
set_option maxRecDepth 100000 in
theorem sheet_Title_1.calls (a0 : ByteArray) (r1 : ByteArray) (r2 : Int) (w : World) (h : sheet_Title_1.f a0 = some (r1, r2)) :
  Calls Tryz.prog 53 #[.string a0] w fun e w' => e = .returned (.tuple #[.string r1, .int .i64 r2]) ∧ Drawn0 w w' := by
 have H : (some (a0, 0)) = some (r1, r2) := h; clear h; simp only [Option.some.injEq, Prod.mk.injEq] at H; obtain ⟨rfl, rfl⟩ := H; go_enter Tryz.func53, Tryz.ntmps53
 go_wp2
 go_ret2
 exact ⟨qr, qd⟩

end Go.Proofs.YtadocbfchdendaaGreatDoor.P
namespace Go.Proofs.YtadocbfchdendaaGreatDoor.P
open Go.RowKit Go.Proofs.YtadocbfchdendaaGreatDoorW.PrintWords Go.Proofs.YtadocbfchdendaaGreatDoorW.PrintLast Go.Proofs.YtadocbfchdendaaGreatDoorW.PrintMore
attribute [local go_sem] max2_int min2_int max_two min_two max_three min_three max_four min_four   -- for this text's walks alone
set_option linter.unusedVariables false
set_option linter.unusedSimpArgs false
def words_Text.f (a0 : ByteArray) (a1_0 : Int) (a1_1 : Int) : Option (ByteArray) := (words_places.f a0 a1_0 a1_1).bind fun t102 => (if t102 = true then (if 0 ≤ a1_0 then (if a1_0 ≤ a1_1 then (if a1_1 ≤ (a0.size : Int) then (some (a0.extract (a1_0 : Int).toNat (a1_1 : Int).toNat)) else (none)) else (none)) else (none)) else (some (⟨#[]⟩ : ByteArray)))
set_option maxHeartbeats 8000000 in
set_option maxRecDepth 100000 in
theorem words_Text.calls (a0 : ByteArray) (a1_0 : Int) (a1_1 : Int) (r : ByteArray) (w : World) (h : words_Text.f a0 a1_0 a1_1 = some r) :
  Calls Tryz.prog 78 #[.string a0, .agg #[.int .i64 a1_0, .int .i64 a1_1]] w fun e w' => e = .returned (.string r) ∧ Below w.heap.size w w' := by
 have hu105 := Tryz.underlying105; have HB := Aside0.mk (Below.refl w.heap.size w); have H : ((words_places.f a0 a1_0 a1_1).bind fun t102 => (if t102 = true then (if 0 ≤ a1_0 then (if a1_0 ≤ a1_1 then (if a1_1 ≤ (a0.size : Int) then (some (a0.extract (a1_0 : Int).toNat (a1_1 : Int).toNat)) else (none)) else (none)) else (none)) else (some (⟨#[]⟩ : ByteArray)))) = some r := h; clear h; replace H := Option.bind_eq_some_iff.mp H; obtain ⟨t102, A30, H⟩ := H; (try dsimp only at H); have A3 := Aside0.mk A30; clear A30
 by_cases c4 : t102 = true
 ·subst c4; have H1 : (if 0 ≤ a1_0 then (if a1_0 ≤ a1_1 then (if a1_1 ≤ (a0.size : Int) then (some (a0.extract (a1_0 : Int).toNat (a1_1 : Int).toNat)) else (none)) else (none)) else (none)) = some r := by rw [if_pos rfl] at H; exact H
  clear H; have H := H1; clear H1
  by_cases c5 : 0 ≤ a1_0
  ·rw [if_pos c5] at H; have c5b0 := eq_true c5; have c5b1 := decide_eq_true c5; clear c5
   by_cases c6 : a1_0 ≤ a1_1
   ·rw [if_pos c6] at H; have c6b0 := eq_true c6; have c6b1 := decide_eq_true c6; clear c6
    by_cases c7 : a1_1 ≤ (a0.size : Int)
    ·rw [if_pos c7] at H; have c7b0 := eq_true c7; have c7b1 := decide_eq_true c7; clear c7; obtain rfl := Option.some.inj H; go_enter Tryz.func78, Tryz.ntmps78
     go_wp2_with (first | ((with_reducible refine gate_dst (N := 3) rfl ?_); refine box_ev (N := 3) (cs := #[.int .i64 a1_0, .int .i64 a1_1]) (t := 105) ?_; intro gb101 hg w8 hbox hb; have BK101 := Aside0.mk (hbox); have GW101 := Aside0.mk ((qg : w.heap.size ≤ gb101)); have GE101 := Aside0.mk ((qg : w.heap.size ≤ gb101)); replace HB := cB HB hb; clear hb hbox hg; have hcz9_0 : w8.cell? ⟨gb101, 0, none⟩ = some (.int .i64 a1_0) := (blk_cell BK101.out 0).trans rfl; have hcz9_1 : w8.cell? ⟨gb101, 1, none⟩ = some (.int .i64 a1_1) := (blk_cell BK101.out 1).trans rfl; have hfz9_0 := blk_frozen BK101.out 0; have hfz9_1 := blk_frozen BK101.out 1) | ((with_reducible refine gate_callee (f := 88) rfl ?_); refine goesL_ (some 10) rfl rfl Tryz.func88 (by kernel_rfl) rfl #[.string a0, .int .i64 a1_0, .int .i64 a1_1] rfl qm ?_; (with_reducible refine (words_places.calls a0 a1_0 a1_1 true _ A3.out).mono ?_); rintro e w' ⟨rfl, ⟨nd, rfl⟩⟩; refine ⟨_, rfl, ?_⟩))
     go_ret
     exact ⟨qe, qb⟩
    ·rw [if_neg c7] at H
     exact absurd H (by simp)
   ·rw [if_neg c6] at H
    exact absurd H (by simp)
  ·rw [if_neg c5] at H
   exact absurd H (by simp)
 ·replace c4 := Bool.eq_false_iff.mpr c4; subst c4; have H1 : (some (⟨#[]⟩ : ByteArray)) = some r := by rw [if_neg (show ¬ (false = true) by decide)] at H; exact H
  clear H; have H := H1; clear H1; obtain rfl := Option.some.inj H; go_enter Tryz.func78, Tryz.ntmps78
  go_wp2_with (first | ((with_reducible refine gate_dst (N := 3) rfl ?_); refine box_ev (N := 3) (cs := #[.int .i64 a1_0, .int .i64 a1_1]) (t := 105) ?_; intro gb101 hg w10 hbox hb; have BK101 := Aside0.mk (hbox); have GW101 := Aside0.mk ((qg : w.heap.size ≤ gb101)); have GE101 := Aside0.mk ((qg : w.heap.size ≤ gb101)); replace HB := cB HB hb; clear hb hbox hg; have hcz11_0 : w10.cell? ⟨gb101, 0, none⟩ = some (.int .i64 a1_0) := (blk_cell BK101.out 0).trans rfl; have hcz11_1 : w10.cell? ⟨gb101, 1, none⟩ = some (.int .i64 a1_1) := (blk_cell BK101.out 1).trans rfl; have hfz11_0 := blk_frozen BK101.out 0; have hfz11_1 := blk_frozen BK101.out 1) | ((with_reducible refine gate_callee (f := 88) rfl ?_); refine goesL_ (some 10) rfl rfl Tryz.func88 (by kernel_rfl) rfl #[.string a0, .int .i64 a1_0, .int .i64 a1_1] rfl qm ?_; (with_reducible refine (words_places.calls a0 a1_0 a1_1 false _ A3.out).mono ?_); rintro e w' ⟨rfl, ⟨nd, rfl⟩⟩; refine ⟨_, rfl, ?_⟩))
  go_ret
  exact ⟨qe, qb⟩

end Go.Proofs.YtadocbfchdendaaGreatDoor.P
namespace Go.Proofs.YtadocbfchdendaaGreatDoor.P
open Go.RowKit Go.Proofs.YtadocbfchdendaaGreatDoorW.PrintWords Go.Proofs.YtadocbfchdendaaGreatDoorW.PrintLast Go.Proofs.YtadocbfchdendaaGreatDoorW.PrintMore
attribute [local go_sem] max2_int min2_int max_two min_two max_three min_three max_four min_four   -- for this text's walks alone
set_option linter.unusedVariables false
set_option linter.unusedSimpArgs false
def sheet_each_string.l0 : Nat → ByteArray → List ByteArray → List (S105) → Int → Int → Int → Int → Option (List ByteArray × Int × Int)
 | 0, _, _, _, _, _, _, _ => none
 | k + 1, x0, x6, x12, x13, x14, x102000, x102001 => if x14 < x13 then (if 0 ≤ x14 then (if x14 < (x12.length : Int) then ((words_Text.f x0 ((rd_T105 x12 x14).f0) ((rd_T105 x12 x14).f1)).bind fun t104 => ((sheet_Title_1.f t104).bind fun bt105 => (if bt105.2 = 0 then (if x6.length < 8796093022208 then (sheet_each_string.l0 k x0 (x6 ++ [bt105.1]) x12 x13 (wrap64 (x14 + 1)) x102000 x102001) else (none)) else (some (([] : List ByteArray), (rd_T105 x12 x14).f0, bt105.2))))) else (none)) else (none)) else (some (x6, x102000, x102001))
def sheet_each_string.f (k : Nat) (a0 : ByteArray) (a1 : Unit) (l2 : List (S105)) : Option (List ByteArray × Int × Int) := sheet_each_string.l0 k a0 ([] : List ByteArray) l2 (l2.length : Int) 0 0 0
theorem sheet_each_string.mono_l : ∀ k, (∀ y0 y1 y2 y3 y4 y5 y6, LeO (sheet_each_string.l0 k y0 y1 y2 y3 y4 y5 y6) (sheet_each_string.l0 (k + 1) y0 y1 y2 y3 y4 y5 y6))
 | 0 => fun _ _ _ _ _ _ _ r h => by simp [sheet_each_string.l0] at h
 | k + 1 => by
  have ih0 := sheet_each_string.mono_l k
  ·intro y0 y1 y2 y3 y4 y5 y6
   unfold sheet_each_string.l0
   repeat' first
   | (with_reducible exact ih0 _ _ _ _ _ _ _)
   | (with_reducible exact LeO.refl _)
   | (with_reducible exact LeO.none _)
   | (with_reducible refine LeO.ite ?_ ?_)
   | (with_reducible refine LeO.bind ?_ (fun _ => ?_))
   | exact ih0 _ _ _ _ _ _ _
   | exact LeO.none _
   | refine LeO.ite ?_ ?_
   | refine LeO.bind ?_ (fun _ => ?_)
theorem sheet_each_string.mono : ∀ a0 a1 a2 k, LeO (sheet_each_string.f k a0 a1 a2) (sheet_each_string.f (k + 1) a0 a1 a2) := by
 intro a0 a1 a2 k
 have ih0 := sheet_each_string.mono_l k; unfold sheet_each_string.f
 repeat' first
   | (with_reducible exact ih0 _ _ _ _ _ _ _)
   | (with_reducible exact LeO.refl _)
   | (with_reducible exact LeO.none _)
   | (with_reducible refine LeO.ite ?_ ?_)
   | (with_reducible refine LeO.bind ?_ (fun _ => ?_))
   | exact ih0 _ _ _ _ _ _ _
   | exact LeO.none _
   | refine LeO.ite ?_ ?_
   | refine LeO.bind ?_ (fun _ => ?_)
set_option maxHeartbeats 8000000 in
set_option maxRecDepth 100000 in
theorem sheet_each_string.calls (k : Nat) (a0 : ByteArray) (a1 : Unit) (A2 : Option Addr) (c2 : Nat) (l2 : List (S105)) (r1 : List ByteArray) (r2 : Int) (r3 : Int) (w : World) (hr2 : Kd.C k105 w A2 l2.length l2) (hc2 : l2.length ≤ c2) (h : sheet_each_string.f k a0 a1 l2 = some (r1, r2, r3)) :
  Calls Tryz.prog 52 #[.string a0, .func (.func 53) #[] #[], .slice A2 l2.length c2] w fun e w' => ∃ v0_ : Value, e = .returned (.tuple #[v0_, .agg #[.int .i64 r2, .int .i64 r3]]) ∧ Kd.R Kd.string 9 w' w.heap.size (fun _ => True) v0_ r1 ∧ Below w.heap.size w w' := by
 have hu41 := Tryz.underlying41; have hu105 := Tryz.underlying105; have HR2 := Aside0.mk hr2; have HC2 := Aside0.mk hc2; clear hr2 hc2; have HB := Aside0.mk (Below.refl w.heap.size w); have H : (sheet_each_string.l0 k a0 ([] : List ByteArray) l2 (l2.length : Int) 0 0 0) = some (r1, r2, r3) := h; clear h; have H' := Aside0.mk H; clear H; go_enter Tryz.func52, Tryz.ntmps52
 go_wp2_with (first | ((with_reducible refine gate_dst (N := 7) rfl ?_); refine box_ev (N := 7) (cs := #[.int .i64 0, .int .i64 0]) (t := 41) ?_; intro gb101 hg w4 hbox hb; have BK101 := Aside0.mk (hbox); have GW101 := Aside0.mk ((qg : w.heap.size ≤ gb101)); have GE101 := Aside0.mk ((qg : w.heap.size ≤ gb101)); replace HB := cB HB hb; clear hb hbox hg))
 (try simp only [Act.put, List.setIfInBounds_toArray, List.set_cons_zero, List.set_cons_succ])
 go_loopg [6, 14] k (fun kq v6 v14 w' => ∃ (x6_1 : List ByteArray) (x14_1 : Int) (x102000_1 : Int) (x102001_1 : Int), v14 = .int .i64 x14_1 ∧ Aside0 (sheet_each_string.l0 kq a0 x6_1 l2 (l2.length : Int) x14_1 x102000_1 x102001_1 = some (r1, r2, r3)) ∧ Aside0 (kq ≤ k) ∧ Aside0 (Kd.R Kd.string 9 w' w.heap.size (fun _ => True) v6 x6_1) ∧ Aside0 (w'.heap[gb101]? = some (.cells #[.int .i64 x102000_1, .int .i64 x102001_1] 41 (0, 0))) ∧ Aside0 (Below w.heap.size w w'))
 case atStart => exact ⟨(([] : List ByteArray)), (0), (0), (0), qr, H', ⟨Nat.le_refl _⟩, ⟨by first | exact Kd.R_nil _ _ _ _ _ | exact Kd.N_nil _ _ _ _ _ | exact Kd.V_nil _ _ _ _ _ | exact Kd.Q_nil _ _ _ _ _ | exact Kd.S_nil _ _ _ _ _⟩, ⟨qk BK101.out⟩, ⟨qb⟩⟩
 case round =>
  clear H'; (try clear c2); (try clear p2); obtain ⟨x6_1, x14_1, x102000_1, x102001_1, rfl, HA, HK1, HO_6, BK101, HB⟩ := hrel; cases gk with
  | zero => exact absurd HA.out (by simp [sheet_each_string.l0])
  | succ k1 =>
   have H := HA.out; clear HA; simp only [sheet_each_string.l0] at H
   by_cases c5 : x14_1 < (l2.length : Int)
   ·rw [if_pos c5] at H; have c5b0 := decide_eq_true c5; clear c5
    by_cases c6 : 0 ≤ x14_1
    ·rw [if_pos c6] at H; have c6b0 := decide_eq_true c6; clear c6
     by_cases c7 : x14_1 < (l2.length : Int)
     ·rw [if_pos c7] at H; have c7b0 := decide_eq_true c7; clear c7; replace H := Option.bind_eq_some_iff.mp H; obtain ⟨t104, A80, H⟩ := H; (try dsimp only at H); have A8 := Aside0.mk A80; clear A80; replace H := Option.bind_eq_some_iff.mp H; obtain ⟨⟨t105, t106⟩, A90, H⟩ := H; (try dsimp only at H); have A9 := Aside0.mk A90; clear A90
      by_cases c10 : t106 = 0
      ·rw [if_pos c10] at H; have c10b0 := beq_iff_eq.mpr c10; have c10b1 := bne_eq_false_iff_eq.mpr c10; clear c10
       by_cases c11 : x6_1.length < 8796093022208
       ·rw [if_pos c11] at H; have LMc11 := Aside0.mk c11; clear c11; obtain ⟨y107, hy107⟩ : ∃ y_ : List ByteArray, y_ = (x6_1 ++ [t105]) := ⟨_, rfl⟩; replace H : (sheet_each_string.l0 k1 a0 y107 l2 (l2.length : Int) (wrap64 (x14_1 + 1)) x102000_1 x102001_1) = some (r1, r2, r3) := by first | (rw [hy107]; with_reducible exact H) | (have H2_ := (Option.bind_some _ _).symm.trans H; rw [hy107]; with_reducible exact H2_) | (have H2_ := (Option.bind_some _ _).symm.trans H; with_reducible exact H2_) | with_reducible exact H | (rw [hy107]; exact H) | exact H
        have Ny107 := Aside0.mk hy107; clear hy107; have H' := Aside0.mk H; clear H; have p102 : 0 ≤ (x14_1 : Int) := of_decide_eq_true qa; have q102 : x14_1 < (l2.length : Int) := of_decide_eq_true qa; obtain ⟨ad102, e102, hx102_0, hx102_1⟩ := at_T105 HR2.out x14_1 p102 q102; cases e102; replace hx102_0 := (HB.out.cell (World.block_lt_of_cell? w _ hx102_0)).trans hx102_0; replace hx102_1 := (HB.out.cell (World.block_lt_of_cell? w _ hx102_1)).trans hx102_1; (try simp only [Go.IntWalk.toNatUp] at hx102_0); (try simp only [Go.IntWalk.toNatUp] at hx102_1); replace p102 := eq_true p102; replace q102 := eq_true q102
        go_wp2_with (first | ((with_reducible refine gate_dst (N := 9) rfl ?_); refine box_ev (N := 9) (cs := #[.int .i64 0, .int .i64 0]) (t := 105) ?_; intro gb103 hg w12 hbox hb; have BK103 := Aside0.mk (hbox); have GW103 := Aside0.mk ((qg : w.heap.size ≤ gb103)); have GE103 := Aside0.mk ((qg : w.heap.size ≤ gb103)); have NB101_103 := Aside0.mk ((by rw [hg]; exact Nat.ne_of_lt (blk_lt (g := gb101) (o := .cells #[.int .i64 x102000_1, .int .i64 x102001_1] 41 (0, 0)) (qk BK101.out)) : gb101 ≠ gb103)); have NB103_101 := Aside0.mk ((by rw [hg]; exact Nat.ne_of_gt (blk_lt (g := gb101) (o := .cells #[.int .i64 x102000_1, .int .i64 x102001_1] 41 (0, 0)) (qk BK101.out)) : gb103 ≠ gb101)); replace HO_6 := cR HO_6 hb; replace BK101 := cK BK101 hb; replace HB := cB HB hb; clear hb hbox hg; have hnb13 := NB103_101.out; have hnc13 := NB101_103.out; have hcz14_0 : w12.cell? ⟨gb103, 0, none⟩ = some (.int .i64 0) := (blk_cell BK103.out 0).trans rfl; have hcz14_1 : w12.cell? ⟨gb103, 1, none⟩ = some (.int .i64 0) := (blk_cell BK103.out 1).trans rfl; have hfz14_0 := blk_frozen BK103.out 0; have hfz14_1 := blk_frozen BK103.out 1) | ((with_reducible refine gate_callee (f := 78) rfl ?_); refine goesL_ (some 22) rfl rfl Tryz.func78 (by kernel_rfl) rfl #[.string a0, .agg #[.int .i64 ((rd_T105 l2 x14_1).f0), .int .i64 ((rd_T105 l2 x14_1).f1)]] rfl qm ?_; (with_reducible refine (words_Text.calls a0 ((rd_T105 l2 x14_1).f0) ((rd_T105 l2 x14_1).f1) t104 _ A8.out).mono ?_); rintro e w15 ⟨rfl, hb⟩; refine ⟨_, rfl, ?_⟩; have n0_ := Aside0.mk (Kd.R_below (by refine qR ?_; exact (Kd.R_mono (Kd.R_far (p := ⟨gb103, 1, none⟩) (Kd.R_far (p := ⟨gb103, 0, none⟩) (Kd.R_types HO_6.out BK103.out (by decide)) (fun _ hk => hk.2) (.int .i64 ((rd_T105 l2 x14_1).f0))) (fun _ hk => hk.2) (.int .i64 ((rd_T105 l2 x14_1).f1))) (fun _ h_ => by first | exact h_.1 | exact ⟨trivial, h_.1⟩))) hb); have n1_ := Aside0.mk (blk_below (g := gb101) (o := .cells #[.int .i64 x102000_1, .int .i64 x102001_1] 41 (0, 0)) (by refine qk ?_; refine blk_far ?_ NB101_103.out _; refine qk ?_; refine blk_far ?_ NB101_103.out _; refine qk ?_; exact BK101.out) hb); have n2_ := Aside0.mk (blk_below (g := gb103) (o := .cells #[.int .i64 ((rd_T105 l2 x14_1).f0), .int .i64 ((rd_T105 l2 x14_1).f1)] 105 (0, 0)) (by refine qk ?_; refine blk_put (cs := #[.int .i64 ((rd_T105 l2 x14_1).f0), .int .i64 0]) ?_ 1 _ rfl; refine qk ?_; refine blk_put (cs := #[.int .i64 0, .int .i64 0]) ?_ 0 _ rfl; refine qk ?_; exact BK103.out) hb); replace HB := cB HB hb; replace HO_6 := n0_; replace BK101 := n1_; replace BK103 := n2_; clear n0_ n1_ n2_; (try clear hb); (try clear hb2); (try clear hk); (try clear hi)) | (go_at_call 53; (with_reducible refine (sheet_Title_1.calls t104 t105 t106 _ A9.out).mono ?_); rintro e w' ⟨rfl, ⟨nd, rfl⟩⟩) | ((with_reducible refine gate_builtin (b := .append) (xs := #[.tmp 32, .tmp 34]) rfl ?_); at_builtin; refine Kd.R_append Kd.string (w0 := w) w.heap.size rfl (.tmp 32) (.tmp 34) 106 9 (.string ⟨#[]⟩) 16 rfl Tryz.underlying106 info9 rfl (by decide) (by omega) u6 x6_1 t105 [.string t105] (fun _ => True) (fun _ => False) rfl rfl ?aP (fun _ hk => hk.elim) ?aF ?aO ?aB ?aS ?aL ?_; (case aP => exact rfl); (case aB => exact qb); (case aF => exact (fun _ _ => trivial)); (case aO => exact (qR HO_6.out)); (case aS => exact (below_size qb)); (case aL => have := LMc11.out; omega); intro v108 w16 ho hb hg hat; rw [← Ny107.out] at ho; have n0_ := Aside0.mk (blk_grown (g := gb101) (o := .cells #[.int .i64 x102000_1, .int .i64 x102001_1] 41 (0, 0)) (qk BK101.out) hg (Kd.R_ne HO_6.out BK101.out (by decide))); have n1_ := Aside0.mk (blk_grown (g := gb103) (o := .cells #[.int .i64 ((rd_T105 l2 x14_1).f0), .int .i64 ((rd_T105 l2 x14_1).f1)] 105 (0, 0)) (qk BK103.out) hg (Kd.R_ne HO_6.out BK103.out (by decide))); have n2_ := Aside0.mk (hb); have HO109 := Aside0.mk (ho); replace BK101 := n0_; replace BK103 := n1_; replace HB := n2_; clear n0_ n1_ n2_; clear HO_6; clear ho hb hg hat))
        go_roundg k1
        case measure => have := HK1.out; omega
        case rel => exact ⟨(y107), (wrap64 (x14_1 + 1)), (x102000_1), (x102001_1), qr, H', ⟨by have := HK1.out; omega⟩, ⟨qR HO109.out⟩, ⟨qk BK101.out⟩, ⟨qb⟩⟩
       ·rw [if_neg c11] at H
        exact absurd H (by simp)
      ·rw [if_neg c10] at H; have c10b0 := beq_eq_false_iff_ne.mpr c10; have c10b1 := bne_iff_ne.mpr c10; simp only [Option.some.injEq, Prod.mk.injEq] at H; obtain ⟨rfl, rfl, rfl⟩ := H; have p102 : 0 ≤ (x14_1 : Int) := of_decide_eq_true qa; have q102 : x14_1 < (l2.length : Int) := of_decide_eq_true qa; obtain ⟨ad102, e102, hx102_0, hx102_1⟩ := at_T105 HR2.out x14_1 p102 q102; cases e102; replace hx102_0 := (HB.out.cell (World.block_lt_of_cell? w _ hx102_0)).trans hx102_0; replace hx102_1 := (HB.out.cell (World.block_lt_of_cell? w _ hx102_1)).trans hx102_1; (try simp only [Go.IntWalk.toNatUp] at hx102_0); (try simp only [Go.IntWalk.toNatUp] at hx102_1); replace p102 := eq_true p102; replace q102 := eq_true q102
       try go_wp2_with (first | ((with_reducible refine gate_dst (N := 9) rfl ?_); refine box_ev (N := 9) (cs := #[.int .i64 0, .int .i64 0]) (t := 105) ?_; intro gb103 hg w17 hbox hb; have BK103 := Aside0.mk (hbox); have GW103 := Aside0.mk ((qg : w.heap.size ≤ gb103)); have GE103 := Aside0.mk ((qg : w.heap.size ≤ gb103)); have NB101_103 := Aside0.mk ((by rw [hg]; exact Nat.ne_of_lt (blk_lt (g := gb101) (o := .cells #[.int .i64 x102000_1, .int .i64 x102001_1] 41 (0, 0)) (qk BK101.out)) : gb101 ≠ gb103)); have NB103_101 := Aside0.mk ((by rw [hg]; exact Nat.ne_of_gt (blk_lt (g := gb101) (o := .cells #[.int .i64 x102000_1, .int .i64 x102001_1] 41 (0, 0)) (qk BK101.out)) : gb103 ≠ gb101)); replace HO_6 := cR HO_6 hb; replace BK101 := cK BK101 hb; replace HB := cB HB hb; clear hb hbox hg; have hnb18 := NB103_101.out; have hnc18 := NB101_103.out; have hcz19_0 : w17.cell? ⟨gb103, 0, none⟩ = some (.int .i64 0) := (blk_cell BK103.out 0).trans rfl; have hcz19_1 : w17.cell? ⟨gb103, 1, none⟩ = some (.int .i64 0) := (blk_cell BK103.out 1).trans rfl; have hfz19_0 := blk_frozen BK103.out 0; have hfz19_1 := blk_frozen BK103.out 1) | ((with_reducible refine gate_callee (f := 78) rfl ?_); refine goesL_ (some 22) rfl rfl Tryz.func78 (by kernel_rfl) rfl #[.string a0, .agg #[.int .i64 ((rd_T105 l2 x14_1).f0), .int .i64 ((rd_T105 l2 x14_1).f1)]] rfl qm ?_; (with_reducible refine (words_Text.calls a0 ((rd_T105 l2 x14_1).f0) ((rd_T105 l2 x14_1).f1) t104 _ A8.out).mono ?_); rintro e w20 ⟨rfl, hb⟩; refine ⟨_, rfl, ?_⟩; have n0_ := Aside0.mk (Kd.R_below (by refine qR ?_; exact (Kd.R_mono (Kd.R_far (p := ⟨gb103, 1, none⟩) (Kd.R_far (p := ⟨gb103, 0, none⟩) (Kd.R_types HO_6.out BK103.out (by decide)) (fun _ hk => hk.2) (.int .i64 ((rd_T105 l2 x14_1).f0))) (fun _ hk => hk.2) (.int .i64 ((rd_T105 l2 x14_1).f1))) (fun _ h_ => by first | exact h_.1 | exact ⟨trivial, h_.1⟩))) hb); have n1_ := Aside0.mk (blk_below (g := gb101) (o := .cells #[.int .i64 x102000_1, .int .i64 x102001_1] 41 (0, 0)) (by refine qk ?_; refine blk_far ?_ NB101_103.out _; refine qk ?_; refine blk_far ?_ NB101_103.out _; refine qk ?_; exact BK101.out) hb); have n2_ := Aside0.mk (blk_below (g := gb103) (o := .cells #[.int .i64 ((rd_T105 l2 x14_1).f0), .int .i64 ((rd_T105 l2 x14_1).f1)] 105 (0, 0)) (by refine qk ?_; refine blk_put (cs := #[.int .i64 ((rd_T105 l2 x14_1).f0), .int .i64 0]) ?_ 1 _ rfl; refine qk ?_; refine blk_put (cs := #[.int .i64 0, .int .i64 0]) ?_ 0 _ rfl; refine qk ?_; exact BK103.out) hb); replace HB := cB HB hb; replace HO_6 := n0_; replace BK101 := n1_; replace BK103 := n2_; clear n0_ n1_ n2_; (try clear hb); (try clear hb2); (try clear hk); (try clear hi)) | (go_at_call 53; (with_reducible refine (sheet_Title_1.calls t104 t105 t106 _ A9.out).mono ?_); rintro e w' ⟨rfl, ⟨nd, rfl⟩⟩; (try (rw [drewN_self w20]; generalize hq_ : World.drewN w20 _ = w20; have n0_ : Aside0 (Kd.R Kd.string 9 w20 w.heap.size (fun _ => True) u6 x6_1) := ⟨by rw [← hq_]; exact (qR HO_6.out)⟩; have n1_ : Aside0 (w20.heap[gb101]? = some (.cells #[.int .i64 x102000_1, .int .i64 x102001_1] 41 (0, 0))) := ⟨by rw [← hq_]; exact (qk BK101.out)⟩; have n2_ : Aside0 (w20.heap[gb103]? = some (.cells #[.int .i64 ((rd_T105 l2 x14_1).f0), .int .i64 ((rd_T105 l2 x14_1).f1)] 105 (0, 0))) := ⟨by rw [← hq_]; exact (qk BK103.out)⟩; have n3_ : Aside0 (Below w.heap.size w w20) := ⟨by rw [← hq_]; exact qb⟩; clear HO_6 BK101 BK103 HB hq_; have HO_6 := n0_; have BK101 := n1_; have BK103 := n2_; have HB := n3_; clear n0_ n1_ n2_ n3_))))
       have n0_ := Aside0.mk (Kd.R_drew HO_6.out); have n1_ := Aside0.mk (blk_drew BK101.out); have n2_ := Aside0.mk (blk_drew BK103.out); have n3_ := Aside0.mk (below_drew1 HB.out); clear HO_6; clear BK101; clear BK103; clear HB; have HO_6 := n0_; have BK101 := n1_; have BK103 := n2_; have HB := n3_; clear n0_ n1_ n2_ n3_; refine start_ (n := 6) (S := fun w' => w'.cell? ⟨gb103, 0, none⟩ = some (.int .i64 ((rd_T105 l2 x14_1).f0)) ∧ w'.cell? ⟨gb103, 1, none⟩ = some (.int .i64 ((rd_T105 l2 x14_1).f1))) (ds := []) #[false, false, false, false, false, false] (by kernel_rfl) rfl rfl ⟨(blk_cell BK103.out 0).trans rfl, (blk_cell BK103.out 1).trans rfl⟩ (fun hHeld => ?_); generalize w20.drew = w21 at HO_6 BK101 BK103 HB hHeld ⊢; refine pure_ (i := 0) (N := some 28) (v := ?_) (a' := ?_) #[true, false, false, false, false, false] rfl rfl (by kernel_rfl) (fun _ _ _ h => h) (Or.inl ⟨by rfl, ?_⟩) ?_ ?_
       rotate_left
       ·intro w'
        go_simp
        with_reducible rfl
       rotate_left
       ·simp only [Act.put, List.setIfInBounds_toArray, List.set_cons_zero, List.set_cons_succ, i64_w, i32_w]
        rfl
       refine pure_ (i := 2) (N := some 30) (v := ?_) (a' := ?_) #[true, false, true, false, false, false] rfl rfl (by kernel_rfl) (fun _ _ _ h => h) (Or.inl ⟨by rfl, ?_⟩) ?_ ?_
       rotate_left
       ·intro w'
        go_simp
        with_reducible rfl
       rotate_left
       ·simp only [Act.put, List.setIfInBounds_toArray, List.set_cons_zero, List.set_cons_succ, i64_w, i32_w]
        rfl
       refine pure_ (i := 4) (N := some 6) (v := ?_) (a' := ?_) #[true, false, true, false, true, false] rfl rfl (by kernel_rfl) (fun _ _ _ h => h) (Or.inl ⟨by rfl, ?_⟩) ?_ ?_
       rotate_left
       ·intro w'
        go_simp
        with_reducible rfl
       rotate_left
       ·simp only [Act.put, List.setIfInBounds_toArray, List.set_cons_zero, List.set_cons_succ, i64_w, i32_w]
        rfl
       refine take_ (i := 1) (N := some 29) (v := ?_) (a' := ?_) #[true, true, true, false, true, false] rfl rfl (by kernel_rfl) (fun _ _ _ h => h) (Or.inl ⟨by rfl, ?_⟩) hHeld ?_ ?_
       rotate_left
       ·rintro w' ⟨s0, s1⟩
        go_simp
        with_reducible rfl
       rotate_left
       ·simp only [Act.put, List.setIfInBounds_toArray, List.set_cons_zero, List.set_cons_succ, i64_w, i32_w]
        rfl
       refine pure_ (i := 3) (N := some 31) (v := ?_) (a' := ?_) #[true, true, true, true, true, false] rfl rfl (by kernel_rfl) (fun _ _ _ h => h) (Or.inl ⟨by rfl, ?_⟩) ?_ ?_
       rotate_left
       ·intro w'
        go_simp
        with_reducible rfl
       rotate_left
       ·simp only [Act.put, List.setIfInBounds_toArray, List.set_cons_zero, List.set_cons_succ, i64_w, i32_w]
        rfl
       refine one_ (i := 5) (N := none) #[true, true, true, true, true, true] rfl rfl (by kernel_rfl) (by decide) (fun K hK => ?_); have hs22 : w21.cell? ⟨gb101, 0, none⟩ = some (.int .i64 x102000_1) := (blk_cell BK101.out 0).trans rfl; have hfs22 := blk_frozen BK101.out 0; have hns22_1 := NB103_101.out; have hms22_1 := NB101_103.out; have hs23 : w21.cell? ⟨gb101, 1, none⟩ = some (.int .i64 x102001_1) := (blk_cell BK101.out 1).trans rfl; have hfs23 := blk_frozen BK101.out 1; have hns23_1 := NB103_101.out; have hms23_1 := NB101_103.out; refine skip_ (w1 := ?_) (by rfl) rfl ?_ ?_
       rotate_left
       ·go_simp
        rfl
       refine hK.out _ _ ⟨((cell_far (p := ⟨gb101, _, none⟩) NB103_101.out _).trans (((cell_far (p := ⟨gb101, _, none⟩) NB103_101.out _).trans (hHeld.1)))), ((cell_far (p := ⟨gb101, _, none⟩) NB103_101.out _).trans (((cell_far (p := ⟨gb101, _, none⟩) NB103_101.out _).trans (hHeld.2))))⟩ (fun hHeld => ?_); clear hK K; refine done_ (by kernel_rfl) ?_
       try go_wp2
       refine bodyPost_ret (results_tc rfl _ _ gb101 41 #[.int .i64 ((rd_T105 l2 x14_1).f0), .int .i64 t106] (0, 0) _ rfl (by refine qk ?_; refine blk_put (cs := #[.int .i64 ((rd_T105 l2 x14_1).f0), .int .i64 x102001_1]) ?_ 1 _ rfl; refine qk ?_; refine blk_put (cs := #[.int .i64 x102000_1, .int .i64 x102001_1]) ?_ 0 _ rfl; refine qk ?_; exact BK101.out) Tryz.underlying41 rfl (by kernel_rfl)) rfl ?_
       exact ⟨_, qe, by first | exact Kd.R_nil _ _ _ _ _ | exact Kd.N_nil _ _ _ _ _ | exact Kd.V_nil _ _ _ _ _ | exact Kd.Q_nil _ _ _ _ _ | exact Kd.S_nil _ _ _ _ _, qb⟩
     ·rw [if_neg c7] at H
      exact absurd H (by simp)
    ·rw [if_neg c6] at H
     exact absurd H (by simp)
   ·rw [if_neg c5] at H; have c5b0 := decide_eq_false c5; clear c5; simp only [Option.some.injEq, Prod.mk.injEq] at H; obtain ⟨rfl, rfl, rfl⟩ := H
    try go_wp2
    have n0_ := Aside0.mk (Kd.R_drew HO_6.out); have n1_ := Aside0.mk (blk_drew BK101.out); have n2_ := Aside0.mk (below_drew1 HB.out); clear HO_6; clear BK101; clear HB; have HO_6 := n0_; have BK101 := n1_; have HB := n2_; clear n0_ n1_ n2_; refine start_ (n := 4) (S := fun w' => w'.cell? ⟨gb101, 0, none⟩ = some (.int .i64 x102000_1) ∧ w'.cell? ⟨gb101, 1, none⟩ = some (.int .i64 x102001_1)) (ds := [3]) #[false, false, false, false] (by kernel_rfl) rfl rfl ⟨(blk_cell BK101.out 0).trans rfl, (blk_cell BK101.out 1).trans rfl⟩ (fun hHeld => ?_); generalize wr.drew = w24 at HO_6 BK101 HB hHeld ⊢; refine pure_ (i := 0) (N := some 37) (v := ?_) (a' := ?_) #[true, false, false, false] rfl rfl (by kernel_rfl) (fun _ _ _ h => h) (Or.inl ⟨by rfl, ?_⟩) ?_ ?_
    rotate_left
    ·intro w'
     go_simp
     with_reducible rfl
    rotate_left
    ·simp only [Act.put, List.setIfInBounds_toArray, List.set_cons_zero, List.set_cons_succ, i64_w, i32_w]
     rfl
    refine pure_ (i := 2) (N := some 6) (v := ?_) (a' := ?_) #[true, false, true, false] rfl rfl (by kernel_rfl) (fun _ _ _ h => h) (Or.inl ⟨by rfl, ?_⟩) ?_ ?_
    rotate_left
    ·intro w'
     go_simp
     with_reducible rfl
    rotate_left
    ·simp only [Act.put, List.setIfInBounds_toArray, List.set_cons_zero, List.set_cons_succ, i64_w, i32_w]
     rfl
    refine take_ (i := 1) (N := some 38) (v := ?_) (a' := ?_) #[true, true, true, false] rfl rfl (by kernel_rfl) (fun _ _ _ h => h) (Or.inl ⟨by rfl, ?_⟩) hHeld ?_ ?_
    rotate_left
    ·rintro w' ⟨s0, s1⟩
     go_simp
     with_reducible rfl
    rotate_left
    ·simp only [Act.put, List.setIfInBounds_toArray, List.set_cons_zero, List.set_cons_succ, i64_w, i32_w]
     rfl
    refine last_ (i := 3) (N := none) #[true, true, true, true] rfl rfl (by kernel_rfl) (by decide) (fun K hK => ?_); have hs25 : w24.cell? ⟨gb101, 0, none⟩ = some (.int .i64 x102000_1) := (blk_cell BK101.out 0).trans rfl; have hfs25 := blk_frozen BK101.out 0; have hs26 : w24.cell? ⟨gb101, 1, none⟩ = some (.int .i64 x102001_1) := (blk_cell BK101.out 1).trans rfl; have hfs26 := blk_frozen BK101.out 1; refine skip_ (w1 := ?_) (by rfl) rfl ?_ ?_
    rotate_left
    ·go_simp
     rfl
    refine hK.out _ _ ?_; clear hK K; refine done_ (by kernel_rfl) ?_
    try go_wp2
    refine bodyPost_ret (results_tc rfl _ _ gb101 41 #[.int .i64 x102000_1, .int .i64 x102001_1] (0, 0) _ rfl (by refine qk ?_; refine blk_put (cs := #[.int .i64 x102000_1, .int .i64 x102001_1]) ?_ 1 _ rfl; refine qk ?_; refine blk_put (cs := #[.int .i64 x102000_1, .int .i64 x102001_1]) ?_ 0 _ rfl; refine qk ?_; exact BK101.out) Tryz.underlying41 rfl (by kernel_rfl)) rfl ?_
    exact ⟨_, qe, by refine qR ?_; exact Kd.R_mono (Kd.R_far (p := ⟨gb101, 1, none⟩) (Kd.R_far (p := ⟨gb101, 0, none⟩) (Kd.R_types HO_6.out BK101.out (by decide)) (fun _ hk => hk.2) (.int .i64 x102000_1)) (fun _ hk => hk.2) (.int .i64 x102001_1)) (fun _ hk => trivial), qb⟩

end Go.Proofs.YtadocbfchdendaaGreatDoor.P
namespace Go.Proofs.YtadocbfchdendaaGreatDoor.P
open Go.RowKit Go.Proofs.YtadocbfchdendaaGreatDoorW.PrintWords Go.Proofs.YtadocbfchdendaaGreatDoorW.PrintLast Go.Proofs.YtadocbfchdendaaGreatDoorW.PrintMore
attribute [local go_sem] max2_int min2_int max_two min_two max_three min_three max_four min_four   -- for this text's walks alone
set_option linter.unusedVariables false
set_option linter.unusedSimpArgs false
def sheet_Title.f (k : Nat) (a0 : ByteArray) (a1_0 : Int) (l1_1 : List (S105)) (a2 : ByteArray) : Option (Bool) := (sheet_each_string.f k a0 () l1_1).bind fun bt102 => ((strings_Join.f bt102.1 (⟨#[32]⟩ : ByteArray)).bind fun t108 => (some (t108.toList == a2.toList)))
theorem sheet_Title.mono : ∀ a0 a1 a2 a3 k, LeO (sheet_Title.f k a0 a1 a2 a3) (sheet_Title.f (k + 1) a0 a1 a2 a3) := by
 intro a0 a1 a2 a3 k
 unfold sheet_Title.f
 repeat' first
   | (with_reducible exact sheet_each_string.mono _ _ _ _)
   | (with_reducible exact LeO.refl _)
   | (with_reducible exact LeO.none _)
   | (with_reducible refine LeO.ite ?_ ?_)
   | (with_reducible refine LeO.bind ?_ (fun _ => ?_))
   | exact sheet_each_string.mono _ _ _ _
   | exact LeO.none _
   | refine LeO.ite ?_ ?_
   | refine LeO.bind ?_ (fun _ => ?_)
set_option maxHeartbeats 8000000 in
set_option maxRecDepth 100000 in
theorem sheet_Title.calls (k : Nat) (a0 : ByteArray) (a1_0 : Int) (A1_1 : Option Addr) (c1_1 : Nat) (l1_1 : List (S105)) (a2 : ByteArray) (r : Bool) (w : World) (hr1_1 : Kd.C k105 w A1_1 l1_1.length l1_1) (hc1_1 : l1_1.length ≤ c1_1) (h : sheet_Title.f k a0 a1_0 l1_1 a2 = some r) :
  Calls Tryz.prog 19 #[.string a0, .agg #[.int .i64 a1_0, .slice A1_1 l1_1.length c1_1], .string a2] w fun e w' => e = .returned (.bool r) ∧ Below w.heap.size w w' := by
 have hu32 := Tryz.underlying32; have hu41 := Tryz.underlying41; have HR1_1 := Aside0.mk hr1_1; have HC1_1 := Aside0.mk hc1_1; clear hr1_1 hc1_1; have HB := Aside0.mk (Below.refl w.heap.size w); have H : ((sheet_each_string.f k a0 () l1_1).bind fun bt102 => ((strings_Join.f bt102.1 (⟨#[32]⟩ : ByteArray)).bind fun t108 => (some (t108.toList == a2.toList)))) = some r := h; clear h; replace H := Option.bind_eq_some_iff.mp H; obtain ⟨⟨t102, t105, t106⟩, A40, H⟩ := H; (try dsimp only at H); have A4 := Aside0.mk A40; clear A40; replace H := Option.bind_eq_some_iff.mp H; obtain ⟨t108, A50, H⟩ := H; (try dsimp only at H); have A5 := Aside0.mk A50; clear A50; obtain rfl := Option.some.inj H; go_enter Tryz.func19, Tryz.ntmps19
 go_wp2_with (first | ((with_reducible refine gate_dst (N := 4) rfl ?_); refine box_ev (N := 4) (cs := #[.int .i64 a1_0, .slice A1_1 l1_1.length c1_1]) (t := 32) ?_; intro gb101 hg w6 hbox hb; have BK101 := Aside0.mk (hbox); have GW101 := Aside0.mk ((qg : w.heap.size ≤ gb101)); have GE101 := Aside0.mk ((qg : w.heap.size ≤ gb101)); replace HB := cB HB hb; clear hb hbox hg; have hcz7_0 : w6.cell? ⟨gb101, 0, none⟩ = some (.int .i64 a1_0) := (blk_cell BK101.out 0).trans rfl; have hcz7_1 : w6.cell? ⟨gb101, 1, none⟩ = some (.slice A1_1 l1_1.length c1_1) := (blk_cell BK101.out 1).trans rfl; have hfz7_0 := blk_frozen BK101.out 0; have hfz7_1 := blk_frozen BK101.out 1) | ((with_reducible refine gate_callee (f := 52) rfl ?_); refine goesL_ (some 13) rfl rfl Tryz.func52 (by kernel_rfl) rfl #[.string a0, .func (.func 53) #[] #[], .slice A1_1 l1_1.length c1_1] rfl qm ?_; (with_reducible refine (sheet_each_string.calls k a0 () _ _ l1_1 t102 t105 t106 _ ?side1 ?side2 A4.out).mono ?_); (case side1 => exact qC (Kd.C_below HR1_1.out HB.out)); (case side2 => exact HC1_1.out); rintro e w8 ⟨v103, rfl, ho0, hb⟩; refine ⟨_, rfl, ?_⟩; have HO104 := Aside0.mk (Kd.R_lower ho0 (below_size qb)); replace BK101 := cK BK101 hb; replace HB := cB HB hb; (try clear hb); (try clear hb2); (try clear hk); (try clear hi); (try clear ho0)) | ((with_reducible refine gate_dst (N := 8) rfl ?_); refine box_ev (N := 8) (cs := #[.int .i64 0, .int .i64 0]) (t := 41) ?_; intro gb107 hg w9 hbox hb; have BK107 := Aside0.mk (hbox); have GW107 := Aside0.mk ((qg : w.heap.size ≤ gb107)); have GE107 := Aside0.mk ((qg : w.heap.size ≤ gb107)); have NB101_107 := Aside0.mk ((by rw [hg]; exact Nat.ne_of_lt (blk_lt (g := gb101) (o := .cells #[.int .i64 a1_0, .slice A1_1 l1_1.length c1_1] 32 (0, 0)) (qk BK101.out)) : gb101 ≠ gb107)); have NB107_101 := Aside0.mk ((by rw [hg]; exact Nat.ne_of_gt (blk_lt (g := gb101) (o := .cells #[.int .i64 a1_0, .slice A1_1 l1_1.length c1_1] 32 (0, 0)) (qk BK101.out)) : gb107 ≠ gb101)); replace HO104 := cR HO104 hb; replace BK101 := cK BK101 hb; replace HB := cB HB hb; clear hb hbox hg; have hnb10 := NB107_101.out; have hnc10 := NB101_107.out; have hcz11_0 : w9.cell? ⟨gb107, 0, none⟩ = some (.int .i64 0) := (blk_cell BK107.out 0).trans rfl; have hcz11_1 : w9.cell? ⟨gb107, 1, none⟩ = some (.int .i64 0) := (blk_cell BK107.out 1).trans rfl; have hfz11_0 := blk_frozen BK107.out 0; have hfz11_1 := blk_frozen BK107.out 1; obtain ⟨Ao12, co12, eo12⟩ := Kd.R_slice HO104.out; subst eo12) | ((with_reducible refine gate_callee (f := 54) rfl ?_); refine goesL_ (some 17) rfl rfl Tryz.func54 (by kernel_rfl) rfl #[.slice Ao12 t102.length co12, .string (⟨#[32]⟩ : ByteArray)] rfl qm ?_; (with_reducible refine (strings_Join.calls _ _ t102 (⟨#[32]⟩ : ByteArray) t108 _ ?side1 ?side2 A5.out).mono ?_); (case side1 => refine (Kd.R_reads' (e := 9) (base := w.heap.size) (ok := fun k_ => True) (n := t102.length) (c := co12) ?_).2.2; exact (by refine qR ?_; exact (Kd.R_mono (Kd.R_far (p := ⟨gb107, 1, none⟩) (Kd.R_far (p := ⟨gb107, 0, none⟩) (Kd.R_types HO104.out BK107.out (by decide)) (fun _ hk => hk.2) (.int .i64 t105)) (fun _ hk => hk.2) (.int .i64 t106)) (fun _ h_ => by first | exact h_.1 | exact ⟨trivial, h_.1⟩)))); (case side2 => exact (Kd.R_reads' HO104.out).2.1); rintro e w13 ⟨rfl, hb⟩; refine ⟨_, rfl, ?_⟩; have n0_ := Aside0.mk (Kd.R_below (by refine qR ?_; exact (Kd.R_mono (Kd.R_far (p := ⟨gb107, 1, none⟩) (Kd.R_far (p := ⟨gb107, 0, none⟩) (Kd.R_types HO104.out BK107.out (by decide)) (fun _ hk => hk.2) (.int .i64 t105)) (fun _ hk => hk.2) (.int .i64 t106)) (fun _ h_ => by first | exact h_.1 | exact ⟨trivial, h_.1⟩))) hb); have n1_ := Aside0.mk (blk_below (g := gb101) (o := .cells #[.int .i64 a1_0, .slice A1_1 l1_1.length c1_1] 32 (0, 0)) (by refine qk ?_; refine blk_far ?_ NB101_107.out _; refine qk ?_; refine blk_far ?_ NB101_107.out _; refine qk ?_; exact BK101.out) hb); have n2_ := Aside0.mk (blk_below (g := gb107) (o := .cells #[.int .i64 t105, .int .i64 t106] 41 (0, 0)) (by refine qk ?_; refine blk_put (cs := #[.int .i64 t105, .int .i64 0]) ?_ 1 _ rfl; refine qk ?_; refine blk_put (cs := #[.int .i64 0, .int .i64 0]) ?_ 0 _ rfl; refine qk ?_; exact BK107.out) hb); replace HB := cB HB hb; replace HO104 := n0_; replace BK101 := n1_; replace BK107 := n2_; clear n0_ n1_ n2_; (try clear hb); (try clear hb2); (try clear hk); (try clear hi)))
 go_ret
 exact ⟨qe, qb⟩

end Go.Proofs.YtadocbfchdendaaGreatDoor.P
namespace Go.Proofs.YtadocbfchdendaaGreatDoor.P
open Go.RowKit Go.Proofs.YtadocbfchdendaaGreatDoorW.PrintWords Go.Proofs.YtadocbfchdendaaGreatDoorW.PrintLast Go.Proofs.YtadocbfchdendaaGreatDoorW.PrintMore
attribute [local go_sem] max2_int min2_int max_two min_two max_three min_three max_four min_four   -- for this text's walks alone
set_option linter.unusedVariables false
set_option linter.unusedSimpArgs false
def fixed_Least.l0 : Nat → Int → Int → Option (Int × Int)
 | 0, _, _ => none
 | k + 1, x102000, x102001 => if x102001 > 0 then (if (Int.tmod x102000 10) = 0 then (fixed_Least.l0 k (wrap64 (Int.tdiv x102000 10)) (wrap64 (x102001 - 1))) else (some (x102000, x102001))) else (some (x102000, x102001))
def fixed_Least.f (k : Nat) (a0_0 : Int) (a0_1 : Int) : Option (Int × Int) := fixed_Least.l0 k a0_0 a0_1
theorem fixed_Least.mono_l : ∀ k, (∀ y0 y1, LeO (fixed_Least.l0 k y0 y1) (fixed_Least.l0 (k + 1) y0 y1))
 | 0 => fun _ _ r h => by simp [fixed_Least.l0] at h
 | k + 1 => by
  have ih0 := fixed_Least.mono_l k
  ·intro y0 y1
   unfold fixed_Least.l0
   repeat' first
   | (with_reducible exact ih0 _ _)
   | (with_reducible exact LeO.refl _)
   | (with_reducible exact LeO.none _)
   | (with_reducible refine LeO.ite ?_ ?_)
   | (with_reducible refine LeO.bind ?_ (fun _ => ?_))
   | exact ih0 _ _
   | exact LeO.none _
   | refine LeO.ite ?_ ?_
   | refine LeO.bind ?_ (fun _ => ?_)
theorem fixed_Least.mono : ∀ a0 a1 k, LeO (fixed_Least.f k a0 a1) (fixed_Least.f (k + 1) a0 a1) := by
 intro a0 a1 k
 have ih0 := fixed_Least.mono_l k; unfold fixed_Least.f
 repeat' first
   | (with_reducible exact ih0 _ _)
   | (with_reducible exact LeO.refl _)
   | (with_reducible exact LeO.none _)
   | (with_reducible refine LeO.ite ?_ ?_)
   | (with_reducible refine LeO.bind ?_ (fun _ => ?_))
   | exact ih0 _ _
   | exact LeO.none _
   | refine LeO.ite ?_ ?_
   | refine LeO.bind ?_ (fun _ => ?_)
set_option maxHeartbeats 8000000 in
set_option maxRecDepth 100000 in
theorem fixed_Least.calls (k : Nat) (a0_0 : Int) (a0_1 : Int) (r1 : Int) (r2 : Int) (w : World) (h : fixed_Least.f k a0_0 a0_1 = some (r1, r2)) :
  Calls Tryz.prog 108 #[.agg #[.int .i64 a0_0, .int .i64 a0_1]] w fun e w' => e = .returned (.agg #[.int .i64 r1, .int .i64 r2]) ∧ Below w.heap.size w w' := by
 have hu50 := Tryz.underlying50; have HB := Aside0.mk (Below.refl w.heap.size w); have H : (fixed_Least.l0 k a0_0 a0_1) = some (r1, r2) := h; clear h; have H' := Aside0.mk H; clear H; go_enter Tryz.func108, Tryz.ntmps108
 go_wp2_with (first | ((with_reducible refine gate_dst (N := 1) rfl ?_); refine box_ev (N := 1) (cs := #[.int .i64 a0_0, .int .i64 a0_1]) (t := 50) ?_; intro gb101 hg w2 hbox hb; have BK101 := Aside0.mk (hbox); have GW101 := Aside0.mk ((qg : w.heap.size ≤ gb101)); have GE101 := Aside0.mk ((qg : w.heap.size ≤ gb101)); replace HB := cB HB hb; clear hb hbox hg) | ((with_reducible refine gate_dst (N := 2) rfl ?_); refine box_ev (N := 2) (cs := #[.int .i64 0, .int .i64 0]) (t := 50) ?_; intro gb102 hg w3 hbox hb; have BK102 := Aside0.mk (hbox); have GW102 := Aside0.mk ((qg : w.heap.size ≤ gb102)); have GE102 := Aside0.mk ((qg : w.heap.size ≤ gb102)); have NB101_102 := Aside0.mk ((by rw [hg]; exact Nat.ne_of_lt (blk_lt (g := gb101) (o := .cells #[.int .i64 a0_0, .int .i64 a0_1] 50 (0, 0)) (qk BK101.out)) : gb101 ≠ gb102)); have NB102_101 := Aside0.mk ((by rw [hg]; exact Nat.ne_of_gt (blk_lt (g := gb101) (o := .cells #[.int .i64 a0_0, .int .i64 a0_1] 50 (0, 0)) (qk BK101.out)) : gb102 ≠ gb101)); replace BK101 := cK BK101 hb; replace HB := cB HB hb; clear hb hbox hg))
 (try simp only [Act.put, List.setIfInBounds_toArray, List.set_cons_zero, List.set_cons_succ])
 go_loopg [] k (fun kq w' => ∃ (x102000_1 : Int) (x102001_1 : Int), Aside0 (fixed_Least.l0 kq x102000_1 x102001_1 = some (r1, r2)) ∧ Aside0 (kq ≤ k) ∧ Aside0 (w'.heap[gb101]? = some (.cells #[.int .i64 x102000_1, .int .i64 x102001_1] 50 (0, 0))) ∧ Aside0 (w'.heap[gb102]? = some (.cells #[.int .i64 0, .int .i64 0] 50 (0, 0))) ∧ Aside0 (Below w.heap.size w w'))
 case atStart => exact ⟨(a0_0), (a0_1), H', ⟨Nat.le_refl _⟩, ⟨qk BK101.out⟩, ⟨qk BK102.out⟩, ⟨qb⟩⟩
 case round =>
  clear H'; (try clear c1); (try clear p2); obtain ⟨x102000_1, x102001_1, HA, HK1, BK101, BK102, HB⟩ := hrel; cases gk with
  | zero => exact absurd HA.out (by simp [fixed_Least.l0])
  | succ k1 =>
   have H := HA.out; clear HA; simp only [fixed_Least.l0] at H
   by_cases c4 : x102001_1 > 0
   ·rw [if_pos c4] at H; have c4b0 := decide_eq_true c4; clear c4
    by_cases c5 : (Int.tmod x102000_1 10) = 0
    ·rw [if_pos c5] at H; have c5b0 := beq_iff_eq.mpr c5; have c5b1 := bne_eq_false_iff_eq.mpr c5; clear c5; have H' := Aside0.mk H; clear H; have hnb6 := NB101_102.out; have hnc6 := NB102_101.out; obtain ⟨hcz7_0, hcz7_1, hfz7_0, hfz7_1⟩ := bc2 BK101.out
     go_wp2
     go_roundg k1
     case measure => have := HK1.out; omega
     case rel => exact ⟨(wrap64 (Int.tdiv x102000_1 10)), (wrap64 (x102001_1 - 1)), H', ⟨by have := HK1.out; omega⟩, ⟨by refine qk ?_; refine blk_put (cs := #[.int .i64 (wrap64 (Int.tdiv x102000_1 10)), .int .i64 x102001_1]) ?_ 1 _ rfl; refine qk ?_; refine blk_put (cs := #[.int .i64 x102000_1, .int .i64 x102001_1]) ?_ 0 _ rfl; refine qk ?_; exact BK101.out⟩, ⟨by refine qk ?_; refine blk_far ?_ NB102_101.out _; refine qk ?_; refine blk_far ?_ NB102_101.out _; refine qk ?_; exact BK102.out⟩, ⟨qb⟩⟩
    ·rw [if_neg c5] at H; have c5b0 := beq_eq_false_iff_ne.mpr c5; have c5b1 := bne_iff_ne.mpr c5; simp only [Option.some.injEq, Prod.mk.injEq] at H; obtain ⟨rfl, rfl⟩ := H; have hnb8 := NB101_102.out; have hnc8 := NB102_101.out; obtain ⟨hcz9_0, hcz9_1, hfz9_0, hfz9_1⟩ := bc2 BK101.out; obtain ⟨hcz10_0, hcz10_1, hfz10_0, hfz10_1⟩ := bc2 BK102.out
     go_wp2
     refine bodyPost_ret (results_cell_row rfl _ _ gb102 50 #[.int .i64 x102000_1, .int .i64 x102001_1] (0, 0) _ rfl (by refine qk ?_; refine blk_put (cs := #[.int .i64 x102000_1, .int .i64 0]) ?_ 1 _ rfl; refine qk ?_; refine blk_put (cs := #[.int .i64 0, .int .i64 0]) ?_ 0 _ rfl; refine qk ?_; exact BK102.out) Tryz.underlying50 rfl (by kernel_rfl)) rfl ?_
     exact ⟨qe, qb⟩
   ·rw [if_neg c4] at H; have c4b0 := decide_eq_false c4; clear c4; simp only [Option.some.injEq, Prod.mk.injEq] at H; obtain ⟨rfl, rfl⟩ := H; have hnb11 := NB101_102.out; have hnc11 := NB102_101.out; obtain ⟨hcz12_0, hcz12_1, hfz12_0, hfz12_1⟩ := bc2 BK101.out; obtain ⟨hcz13_0, hcz13_1, hfz13_0, hfz13_1⟩ := bc2 BK102.out
    go_wp2
    refine bodyPost_ret (results_cell_row rfl _ _ gb102 50 #[.int .i64 x102000_1, .int .i64 x102001_1] (0, 0) _ rfl (by refine qk ?_; refine blk_put (cs := #[.int .i64 x102000_1, .int .i64 0]) ?_ 1 _ rfl; refine qk ?_; refine blk_put (cs := #[.int .i64 0, .int .i64 0]) ?_ 0 _ rfl; refine qk ?_; exact BK102.out) Tryz.underlying50 rfl (by kernel_rfl)) rfl ?_
    exact ⟨qe, qb⟩

end Go.Proofs.YtadocbfchdendaaGreatDoor.P
namespace Go.Proofs.YtadocbfchdendaaGreatDoor.P
open Go.RowKit Go.Proofs.YtadocbfchdendaaGreatDoorW.PrintWords Go.Proofs.YtadocbfchdendaaGreatDoorW.PrintLast Go.Proofs.YtadocbfchdendaaGreatDoorW.PrintMore
attribute [local go_sem] max2_int min2_int max_two min_two max_three min_three max_four min_four   -- for this text's walks alone
set_option linter.unusedVariables false
set_option linter.unusedSimpArgs false
def fixed_fits.f (a0 : Int) : Option (Bool) := if (-100000000) ≤ a0 then (some (decide (a0 ≤ 100000000))) else (some false)
set_option maxHeartbeats 8000000 in
set_option maxRecDepth 100000 in
theorem fixed_fits.calls (a0 : Int) (r : Bool) (w : World) (h : fixed_fits.f a0 = some r) :
  Calls Tryz.prog 103 #[.int .i64 a0] w fun e w' => e = .returned (.bool r) ∧ Drawn0 w w' := by
 have H : (if (-100000000) ≤ a0 then (some (decide (a0 ≤ 100000000))) else (some false)) = some r := h; clear h
 by_cases c2 : (-100000000) ≤ a0
 ·rw [if_pos c2] at H; have c2b0 := decide_eq_true c2; clear c2; obtain rfl := Option.some.inj H; go_enter Tryz.func103, Tryz.ntmps103
  go_wp2
  go_ret
  exact ⟨qr, qd⟩
 ·rw [if_neg c2] at H; have c2b0 := decide_eq_false c2; clear c2; obtain rfl := Option.some.inj H; go_enter Tryz.func103, Tryz.ntmps103
  go_wp2
  go_ret
  exact ⟨qr, qd⟩

end Go.Proofs.YtadocbfchdendaaGreatDoor.P
namespace Go.Proofs.YtadocbfchdendaaGreatDoor.Fx
open Go.RowKit Go.Lib Go.Proofs.YtadocbfchdendaaGreatDoor.Sp
theorem took_calls (g : Nat) (s p : ByteArray) (w : World) (hc : w.cell? ⟨g, 0, none⟩ = some (.string s)) (hz : w.frozen? ⟨g, 0, none⟩ = false) :
    Calls Tryz.prog 99 #[.pointer (some ⟨g, 0, none⟩), .string p] w fun en w' =>
      en = .returned (.bool (Lib.hasPrefix s.data.toList p.data.toList)) ∧ w' = w.setCell ⟨g, 0, none⟩ (.string ⟨(Lib.trimPrefix s.data.toList p.data.toList).toArray⟩) := by
  go_enter Tryz.func99, Tryz.ntmps99
  go_wp2_with (go_at_call 123; refine (Tryz.strings_CutPrefix _ _ _).mono ?_; rintro e w' ⟨rfl, rfl⟩)
  go_ret
  exact ⟨rfl, rfl⟩

def Left (g : Nat) (rest : ByteArray) (w w' : World) : Prop := Below g w w' ∧ w'.cell? ⟨g, 0, none⟩ = some (.string rest) ∧ w'.frozen? ⟨g, 0, none⟩ = false

theorem left_mk {g : Nat} {s rest : ByteArray} {w w1 : World} (hg : g < w.heap.size) (hc : w.cell? ⟨g, 0, none⟩ = some (.string s)) (hz : w.frozen? ⟨g, 0, none⟩ = false) (hB : Below w.heap.size w w1) : Left g rest w (w1.setCell ⟨g, 0, none⟩ (.string rest)) := by
  have h1 : w1.cell? ⟨g, 0, none⟩ = some (.string s) := by rw [hB.cell (p := ⟨g, 0, none⟩) hg, hc]
  have h2 : w1.frozen? ⟨g, 0, none⟩ = false := by rw [hB.frozen (p := ⟨g, 0, none⟩) hg, hz]
  refine ⟨(hB.mono (Nat.le_of_lt hg)).setCell (Nat.le_refl _) _, ?_, ?_⟩
  · exact World.cell?_setCell_same _ _ _ h1
  · rw [World.frozen?_setCell]; exact h2

theorem lt_cell {w : World} {a : Addr} {v : Value} (h : w.cell? a = some v) : a.block < w.heap.size := by
  unfold World.cell? at h
  cases hh : w.heap[a.block]? with
  | none => rw [hh] at h; cases h
  | some o => exact (Array.getElem?_eq_some_iff.1 hh).1

theorem tw_len (l : List UInt8) : (l.dropWhile dig).length = l.length - (l.takeWhile dig).length := by
  have := congrArg List.length (List.takeWhile_append_dropWhile (p := dig) (l := l))
  rw [List.length_append] at this
  omega
theorem str_to (s : ByteArray) : s.extract 0 (s.size - (s.data.toList.dropWhile dig).length) = ⟨(s.data.toList.takeWhile dig).toArray⟩ := by
  apply ByteArray.ext
  rw [ByteArray.data_extract]
  apply Array.ext'
  have h1 : (s.data.toList.takeWhile dig).length ≤ s.data.toList.length := (List.takeWhile_prefix dig).length_le
  have h2 : s.size = s.data.toList.length := by simp
  rw [tw_len, h2, show s.data.toList.length - (s.data.toList.length - (s.data.toList.takeWhile dig).length) = (s.data.toList.takeWhile dig).length from by omega]
  rw [Array.toList_extract, List.extract_eq_take_drop, List.drop_zero, Nat.sub_zero]
  exact (List.prefix_iff_eq_take.1 (List.takeWhile_prefix dig)).symm

theorem toList_eq (s : ByteArray) : s.toList = s.data.toList := ByteArray.toList_eq s
theorem toList_ne {l : List UInt8} (h : l ≠ []) : (⟨l.toArray⟩ : ByteArray).toList.isEmpty = false := by
  rw [toList_eq]
  cases l with
  | nil => exact absurd rfl h
  | cons a r => rfl

theorem digits_ok (g : Nat) (s : ByteArray) (most : Int) (w : World) (hs : s.size ≤ maxLen) (hc : w.cell? ⟨g, 0, none⟩ = some (.string s)) (hz : w.frozen? ⟨g, 0, none⟩ = false)
    (h0 : s.data.toList.takeWhile dig ≠ []) (h1 : ((s.data.toList.takeWhile dig).length : Int) ≤ most) :
    Calls Tryz.prog 100 #[.pointer (some ⟨g, 0, none⟩), .int .i64 most] w fun en w' =>
      en = .returned (.string ⟨(s.data.toList.takeWhile dig).toArray⟩) ∧ Left g ⟨(s.data.toList.dropWhile dig).toArray⟩ w w' := by
  have hcut := cutLeft_calls s hs w
  have hsl := str_to s
  have hlen : (s.data.toList.dropWhile dig).length ≤ s.size := by have := tw_len s.data.toList; have h2 : s.size = s.data.toList.length := by simp
                                                                  omega
  unfold maxLen at hs
  generalize hR : (⟨(s.data.toList.dropWhile dig).toArray⟩ : ByteArray) = R at hcut ⊢
  generalize hD : (⟨(s.data.toList.takeWhile dig).toArray⟩ : ByteArray) = D at hsl ⊢
  have hRs : R.size = (s.data.toList.dropWhile dig).length := by rw [← hR]; simp [ByteArray.size]
  have hDs : D.size = (s.data.toList.takeWhile dig).length := by rw [← hD]; simp [ByteArray.size]
  rw [← hRs] at hsl hlen
  rw [← hDs] at h1
  have hDe : D.toList.isEmpty = false := by
    rw [← hD]; exact toList_ne h0
  have hDn : (!D.toList.isEmpty) = true := by rw [hDe]; rfl
  have h1b : decide ((D.size : Int) ≤ most) = true := decide_eq_true h1
  have HX := Lib.hid hsl
  clear h0 hR hD hRs hDs hsl
  have hg : g < w.heap.size := lt_cell hc
  go_enter Tryz.func100, Tryz.ntmps100
  go_wp2_with (go_at_call 124; refine hcut.mono ?_; rintro e w1 ⟨rfl, hB⟩; have HB := Lib.hid hB; clear hB)
  have hc1 : w1.cell? ⟨g, 0, none⟩ = some (.string s) := by rw [HB.out.cell (p := ⟨g, 0, none⟩) hg, hc]
  have hz1 : w1.frozen? ⟨g, 0, none⟩ = false := by rw [HB.out.frozen (p := ⟨g, 0, none⟩) hg, hz]
  have e1 : IntKind.i64.wrap ((s.size : Int) - (R.size : Int)) = ((s.size - R.size : Nat) : Int) := by rw [IntWalk.i64_left]; unfold wrap64; omega
  go_quiet (fail)
  rw [HX.out]
  clear e1 hlen
  go_wp2_with (go_at_call 102; refine (need_yes 20 _).mono ?_; rintro e w' ⟨rfl, rfl⟩)
  go_ret
  exact ⟨rfl, left_mk hg hc hz (below_drewN HB.out _)⟩

theorem digits_no (g : Nat) (s : ByteArray) (most : Int) (w : World) (hs : s.size ≤ maxLen) (hc : w.cell? ⟨g, 0, none⟩ = some (.string s)) (hz : w.frozen? ⟨g, 0, none⟩ = false)
    (h01 : s.data.toList.takeWhile dig = [] ∨ most < ((s.data.toList.takeWhile dig).length : Int)) :
    Calls Tryz.prog 100 #[.pointer (some ⟨g, 0, none⟩), .int .i64 most] w fun en w' =>
      en = .panicked [{ v := .iface 180 (.int .i64 20), recovered := false }] ∧ Below g w w' := by
  have hcut := cutLeft_calls s hs w
  have hsl := str_to s
  have hlen : (s.data.toList.dropWhile dig).length ≤ s.size := by have := tw_len s.data.toList; have h2 : s.size = s.data.toList.length := by simp
                                                                  omega
  unfold maxLen at hs
  generalize hR : (⟨(s.data.toList.dropWhile dig).toArray⟩ : ByteArray) = R at hcut ⊢
  generalize hD : (⟨(s.data.toList.takeWhile dig).toArray⟩ : ByteArray) = D at hsl ⊢
  have hRs : R.size = (s.data.toList.dropWhile dig).length := by rw [← hR]; simp [ByteArray.size]
  have hDs : D.size = (s.data.toList.takeWhile dig).length := by rw [← hD]; simp [ByteArray.size]
  rw [← hRs] at hsl hlen
  rw [← hDs] at h01
  have hDe : D.toList.isEmpty = true ∨ D.toList.isEmpty = false ∧ most < (D.size : Int) := by
    rcases h01 with h | h
    · left; rw [← hD, h, toList_eq]; rfl
    · by_cases h2 : s.data.toList.takeWhile dig = []
      · left; rw [← hD, h2, toList_eq]; rfl
      · right; exact ⟨by rw [← hD]; exact toList_ne h2, h⟩
  have HX := Lib.hid hsl
  clear h01 hR hD hRs hDs hsl
  have hg : g < w.heap.size := lt_cell hc
  rcases hDe with hDe | ⟨hDe, hm⟩
  · have hDn : (!D.toList.isEmpty) = false := by rw [hDe]; rfl
    go_enter Tryz.func100, Tryz.ntmps100
    go_wp2_with (go_at_call 124; refine hcut.mono ?_; rintro e w1 ⟨rfl, hB⟩; have HB := Lib.hid hB; clear hB)
    have hc1 : w1.cell? ⟨g, 0, none⟩ = some (.string s) := by rw [HB.out.cell (p := ⟨g, 0, none⟩) hg, hc]
    have hz1 : w1.frozen? ⟨g, 0, none⟩ = false := by rw [HB.out.frozen (p := ⟨g, 0, none⟩) hg, hz]
    have e1 : IntKind.i64.wrap ((s.size : Int) - (R.size : Int)) = ((s.size - R.size : Nat) : Int) := by rw [IntWalk.i64_left]; unfold wrap64; omega
    go_quiet (fail)
    rw [HX.out]
    clear e1 hlen
    go_wp2_with (go_at_call 102; refine (need_no 20 _).mono ?_; rintro e w' ⟨rfl, rfl⟩)
    exact ⟨rfl, rfl, (below_drewN HB.out _).mono (Nat.le_of_lt hg)⟩
  · have hDn : (!D.toList.isEmpty) = true := by rw [hDe]; rfl
    have h1b : decide ((D.size : Int) ≤ most) = false := decide_eq_false (by omega)
    go_enter Tryz.func100, Tryz.ntmps100
    go_wp2_with (go_at_call 124; refine hcut.mono ?_; rintro e w1 ⟨rfl, hB⟩; have HB := Lib.hid hB; clear hB)
    have hc1 : w1.cell? ⟨g, 0, none⟩ = some (.string s) := by rw [HB.out.cell (p := ⟨g, 0, none⟩) hg, hc]
    have hz1 : w1.frozen? ⟨g, 0, none⟩ = false := by rw [HB.out.frozen (p := ⟨g, 0, none⟩) hg, hz]
    have e1 : IntKind.i64.wrap ((s.size : Int) - (R.size : Int)) = ((s.size - R.size : Nat) : Int) := by rw [IntWalk.i64_left]; unfold wrap64; omega
    go_quiet (fail)
    rw [HX.out]
    clear e1 hlen
    go_wp2_with (go_at_call 102; refine (need_no 20 _).mono ?_; rintro e w' ⟨rfl, rfl⟩)
    exact ⟨rfl, rfl, (below_drewN HB.out _).mono (Nat.le_of_lt hg)⟩

theorem number_calls (neg : Bool) (s : ByteArray) (n : Int) (hl : s.size ≤ 18) (h : Lib.atoi s.data.toList = some n) (w : World) :
    Calls Tryz.prog 98 #[.bool neg, .string s] w fun en w' => en = .returned (.int .i64 (if neg = true then wrap64 (-n) else n)) ∧ Below w.heap.size w w' := by
  have HB : ∀ t, Hid (Below w.heap.size w (Lib.bytesWorld w 5 t)) := fun t => Lib.bytesWorld_below w _ t
  cases neg with
  | true =>
    go_enter Tryz.func98, Tryz.ntmps98
    go_wp2_with (go_at_call 122; refine (Tryz.strconv_Atoi s n hl h w).mono ?_; rintro e w' ⟨rfl, t, rfl⟩)
    go_ret
    exact ⟨rfl, (HB _).out⟩
  | false =>
    go_enter Tryz.func98, Tryz.ntmps98
    go_wp2_with (go_at_call 122; refine (Tryz.strconv_Atoi s n hl h w).mono ?_; rintro e w' ⟨rfl, t, rfl⟩)
    go_ret
    exact ⟨rfl, (HB _).out⟩
end Go.Proofs.YtadocbfchdendaaGreatDoor.Fx
set_option linter.unusedSimpArgs false
set_option linter.unusedVariables false
namespace Go.Proofs.YtadocbfchdendaaGreatDoor.Fx
open Go.RowKit Go.Lib Go.Proofs.YtadocbfchdendaaGreatDoor.Sp
structure Rd (w W : World) (gE gR : Nat) (s : ByteArray) : Prop where
  below : Below w.heap.size w W
  le : w.heap.size < gE
  lt : gE < gR
  size : gR < W.heap.size
  rc : W.cell? ⟨gR, 0, none⟩ = some (.string s)
  rz : W.frozen? ⟨gR, 0, none⟩ = false
  ec : W.cell? ⟨gE, 0, none⟩ = some (.int .i64 0)
  ez : W.frozen? ⟨gE, 0, none⟩ = false
  nb : W.heap[w.heap.size]? = some (.cells #[.int .i64 0, .int .i64 0] 50)

theorem Rd.left {w W W' : World} {gE gR : Nat} {s r : ByteArray} (h : Rd w W gE gR s) (l : Left gR r W W') : Rd w W' gE gR r :=
  ⟨h.below.trans (l.1.mono (Nat.le_of_lt (Nat.lt_trans h.le h.lt))), h.le, h.lt, Nat.lt_of_lt_of_le h.size l.1.size, l.2.1, l.2.2,
    by rw [l.1.cell (p := ⟨gE, 0, none⟩) h.lt, h.ec], by rw [l.1.frozen (p := ⟨gE, 0, none⟩) h.lt, h.ez],
    by rw [l.1.block _ (Nat.lt_trans h.le h.lt), h.nb]⟩
theorem Rd.set {w W : World} {gE gR : Nat} {s : ByteArray} (h : Rd w W gE gR s) (r : ByteArray) : Rd w (W.setCell ⟨gR, 0, none⟩ (.string r)) gE gR r :=
  h.left (left_mk h.size h.rc h.rz (Below.refl _ _))
theorem Rd.on {w W W' : World} {gE gR : Nat} {s : ByteArray} (h : Rd w W gE gR s) (b : Below gR W W') (hs : W'.cell? ⟨gR, 0, none⟩ = some (.string s)) (hz : W'.frozen? ⟨gR, 0, none⟩ = false) : Rd w W' gE gR s :=
  h.left ⟨b, hs, hz⟩
theorem Rd.on' {w W W' : World} {gE gR : Nat} {s : ByteArray} (h : Rd w W gE gR s) (b : Below W.heap.size W W') : Rd w W' gE gR s :=
  h.on (b.mono (Nat.le_of_lt h.size)) (by rw [b.cell (p := ⟨gR, 0, none⟩) h.size, h.rc]) (by rw [b.frozen (p := ⟨gR, 0, none⟩) h.size, h.rz])
theorem Rd.start (w : World) (s : ByteArray) : Rd w (((w.alloc (.cells #[.int .i64 0, .int .i64 0] 50)).alloc (.cells #[.int .i64 0] 39)).alloc (.cells #[.string s] 161)) (w.heap.size + 1) (w.heap.size + 1 + 1) s := by
  have hB1 := (Below.refl w.heap.size w).alloc (Nat.le_refl _) (.cells #[.int .i64 0, .int .i64 0] 50)
  have hB2 := hB1.alloc hB1.size (.cells #[.int .i64 0] 39)
  refine ⟨hB2.alloc hB2.size _, by omega, by omega, by simp, ?_, ?_, ?_, ?_, ?_⟩
  · simp [go_sem]
  · simp [go_sem]
  · simp [go_sem]
  · simp [go_sem]
  · rw [Below.heap_alloc _ _ _ (by simp; omega), Below.heap_alloc _ _ _ (by simp)]
    show (w.heap.push _)[w.heap.size]? = _
    simp

def ReadPost (w : World) (r : Int × Int × Int) (e : Ending) (w' : World) : Prop := e = .returned (.tuple #[.agg #[.int .i64 r.1, .int .i64 r.2.1], .int .i64 r.2.2]) ∧ Below w.heap.size w w'

theorem digitsL_ok (g : Nat) (l : List UInt8) (most : Int) (w : World) (hs : l.length ≤ maxLen) (hc : w.cell? ⟨g, 0, none⟩ = some (.string ⟨l.toArray⟩)) (hz : w.frozen? ⟨g, 0, none⟩ = false)
    (h : ¬ (l.takeWhile dig = [] ∨ most < ((l.takeWhile dig).length : Int))) :
    Calls Tryz.prog 100 #[.pointer (some ⟨g, 0, none⟩), .int .i64 most] w fun en w' =>
      en = .returned (.string ⟨(l.takeWhile dig).toArray⟩) ∧ Left g ⟨(l.dropWhile dig).toArray⟩ w w' :=
  digits_ok g ⟨l.toArray⟩ most w hs hc hz (fun e => h (.inl e)) (Int.not_lt.1 fun e => h (.inr e))
theorem digitsL_no (g : Nat) (l : List UInt8) (most : Int) (w : World) (hs : l.length ≤ maxLen) (hc : w.cell? ⟨g, 0, none⟩ = some (.string ⟨l.toArray⟩)) (hz : w.frozen? ⟨g, 0, none⟩ = false)
    (h : l.takeWhile dig = [] ∨ most < ((l.takeWhile dig).length : Int)) :
    Calls Tryz.prog 100 #[.pointer (some ⟨g, 0, none⟩), .int .i64 most] w fun en w' =>
      en = .panicked [{ v := .iface 180 (.int .i64 20), recovered := false }] ∧ Below g w w' :=
  digits_no g ⟨l.toArray⟩ most w hs hc hz h

theorem tookL (g : Nat) (l : List UInt8) (p : List UInt8) (w : World) (hc : w.cell? ⟨g, 0, none⟩ = some (.string ⟨l.toArray⟩)) (hz : w.frozen? ⟨g, 0, none⟩ = false) :
    Calls Tryz.prog 99 #[.pointer (some ⟨g, 0, none⟩), .string ⟨p.toArray⟩] w fun en w' =>
      en = .returned (.bool (Lib.hasPrefix l p)) ∧ w' = w.setCell ⟨g, 0, none⟩ (.string ⟨(Lib.trimPrefix l p).toArray⟩) :=
  took_calls g ⟨l.toArray⟩ ⟨p.toArray⟩ w hc hz

theorem numberL (neg : Bool) (D Q : ByteArray) (l : List UInt8) (hl : (D ++ Q).data.toList = l) (h0 : l ≠ []) (h18 : l.length ≤ 18) (hd : ∀ c ∈ l, dig c = true) (w : World) :
    Calls Tryz.prog 98 #[.bool neg, .string (D ++ Q)] w fun en w' => en = .returned (.int .i64 (sgn neg l)) ∧ Below w.heap.size w w' := by
  have hsz : (D ++ Q).size = l.length := by rw [← hl]; simp
  have hv := dv_le18 l hd h18
  refine (number_calls neg (D ++ Q) (dv l) (by omega) (by rw [hl]; exact atoi_dv l h0 hd) w).mono ?_
  rintro e w' ⟨rfl, hB⟩
  refine ⟨?_, hB⟩
  cases neg with
  | true => simp only [if_true, sgn]; congr 2; unfold wrap64; omega
  | false => simp [sgn]
theorem numberD (neg : Bool) (l : List UInt8) (h0 : l ≠ []) (h18 : l.length ≤ 18) (hd : ∀ c ∈ l, dig c = true) (w : World) :
    Calls Tryz.prog 98 #[.bool neg, .string ⟨l.toArray⟩] w fun en w' => en = .returned (.int .i64 (sgn neg l)) ∧ Below w.heap.size w w' := by
  have := numberL neg ⟨l.toArray⟩ ⟨#[]⟩ l (by simp) h0 h18 hd w
  rwa [show (⟨l.toArray⟩ : ByteArray) ++ ⟨#[]⟩ = ⟨l.toArray⟩ from by apply ByteArray.ext; simp] at this
theorem sgn_bd (neg : Bool) (l : List UInt8) (hd : ∀ c ∈ l, dig c = true) (h18 : l.length ≤ 18) : -1000000000000000000 < sgn neg l ∧ sgn neg l < 1000000000000000000 := by
  have hv := dv_le18 l hd h18
  unfold sgn
  split <;> omega
theorem leastF (s : Nat) (hs : s ≤ 1000000) : ∀ (m : Int), -1000000000000000000 < m → m < 1000000000000000000 → P.fixed_Least.l0 (s + 1) m s = some (least m s) := by
  induction s with
  | zero => intro m _ _; simp only [P.fixed_Least.l0, least]; rw [if_neg (by omega)]; rfl
  | succ s ih =>
    intro m h1 h2
    simp only [P.fixed_Least.l0, least]
    rw [if_pos (by omega)]
    by_cases hm : m.tmod 10 = 0
    · rw [if_pos hm, if_pos hm]
      have e1 : wrap64 (m.tdiv 10) = m.tdiv 10 := by unfold wrap64; have := Int.tdiv_eq_ediv_of_dvd (Int.dvd_of_tmod_eq_zero hm); omega
      have e2 : wrap64 (((s + 1 : Nat) : Int) - 1) = (s : Int) := by unfold wrap64; omega
      rw [e1, e2]
      have e3 := Int.tdiv_eq_ediv_of_dvd (Int.dvd_of_tmod_eq_zero hm)
      exact ih (by omega) _ (by omega) (by omega)
    · rw [if_neg hm, if_neg hm]
theorem least_calls (m : Int) (s : Nat) (z : Int) (hz : z = (s : Int)) (hs : s ≤ 1000000) (h1 : -1000000000000000000 < m) (h2 : m < 1000000000000000000) (w : World) :
    Calls Tryz.prog 108 #[.agg #[.int .i64 m, .int .i64 z]] w fun e w' => e = .returned (.agg #[.int .i64 (least m s).1, .int .i64 (least m s).2]) ∧ Below w.heap.size w w' :=
  hz ▸ P.fixed_Least.calls (s + 1) m s (least m s).1 (least m s).2 w (leastF s hs m h1 h2)
theorem fits_calls (m : Int) (w : World) :
    Calls Tryz.prog 103 #[.int .i64 m] w fun e w' => e = .returned (.bool (fitsB m)) ∧ Below w.heap.size w w' := by
  refine (P.fixed_fits.calls m (fitsB m) w ?_).mono ?_
  · unfold P.fixed_fits.f fitsB
    by_cases h : (-100000000 : Int) ≤ m
    · rw [if_pos h]; simp [h]
    · rw [if_neg h]; simp [h]
  · rintro e w' ⟨rfl, hd⟩
    exact ⟨rfl, hd.below⟩

theorem door_fault {w W : World} {gE : Nat} (hB : Below w.heap.size w W) (hle : w.heap.size < gE) (hec : W.cell? ⟨gE, 0, none⟩ = some (.int .i64 0)) (hez : W.frozen? ⟨gE, 0, none⟩ = false)
    (hnb : W.heap[w.heap.size]? = some (.cells #[.int .i64 0, .int .i64 0] 50)) (code : Int) (T : Array Value)
    (h2 : T[2]?.getD undef = .pointer (some ⟨w.heap.size, 0, none⟩)) (h3 : T[3]?.getD undef = .pointer (some ⟨gE, 0, none⟩)) (Q : Ending → World → Prop) (hQ : ReadPost w (0, 0, code) = Q) :
    Leaves Tryz.prog Tryz.f64 T Q [{ target := Target.fn (Fn.func 107) #[.pointer (some ⟨gE, 0, none⟩)], args := #[] }] (.panicking [{ v := .iface 180 (.int .i64 code), recovered := false }]) W := by
  subst hQ
  refine leaves_cons (f := 107) (args := #[.pointer (some ⟨gE, 0, none⟩)]) (by simp) (by simp [go_sem]) ?_
  refine (readD_fault ⟨gE, 0, none⟩ code _ [] W hec hez).mono ?_
  rintro e u' w'' ⟨rfl, rfl, rfl⟩
  have hn0 : (W.setCell ⟨gE, 0, none⟩ (.int .i64 code)).heap[w.heap.size]? = some (.cells #[.int .i64 0, .int .i64 0] 50) := by
    rw [Below.heap_setCell _ _ _ _ (Nat.ne_of_lt hle), hnb]
  have hc1 : (W.setCell ⟨gE, 0, none⟩ (.int .i64 code)).cell? ⟨gE, 0, none⟩ = some (.int .i64 code) := World.cell?_setCell_same _ _ _ hec
  have hB1 : Below w.heap.size w (W.setCell ⟨gE, 0, none⟩ (.int .i64 code)) := hB.setCell (Nat.le_of_lt hle) _
  generalize W.setCell ⟨gE, 0, none⟩ (.int .i64 code) = W1 at *
  have c0 : W1.cell? ⟨w.heap.size, 0, none⟩ = some (.int .i64 0) := by simp [World.cell?, hn0]
  have c1 : W1.cell? ⟨w.heap.size, 1, none⟩ = some (.int .i64 0) := by simp [World.cell?, hn0]
  simp [Leaves, settle, results, Tryz.results64, go_sem, h2, h3, c0, c1, hc1, ReadPost, hB1]

theorem door_ret {w W : World} {gE : Nat} (hB : Below w.heap.size w W) (a b : Int) (hec : W.cell? ⟨gE, 0, none⟩ = some (.int .i64 0))
    (c0 : W.cell? ⟨w.heap.size, 0, none⟩ = some (.int .i64 a)) (c1 : W.cell? ⟨w.heap.size, 1, none⟩ = some (.int .i64 b)) (T : Array Value)
    (h2 : T[2]?.getD undef = .pointer (some ⟨w.heap.size, 0, none⟩)) (h3 : T[3]?.getD undef = .pointer (some ⟨gE, 0, none⟩)) (Q : Ending → World → Prop) (hQ : ReadPost w (a, b, 0) = Q) :
    Leaves Tryz.prog Tryz.f64 T Q [{ target := Target.fn (Fn.func 107) #[.pointer (some ⟨gE, 0, none⟩)], args := #[] }] .returning W := by
  subst hQ
  refine leaves_cons (f := 107) (args := #[.pointer (some ⟨gE, 0, none⟩)]) (by simp) (by simp [go_sem]) ?_
  refine (readD_idle ⟨gE, 0, none⟩ W).mono ?_
  rintro e u' w'' ⟨rfl, rfl, rfl⟩
  simp [Leaves, settle, results, Tryz.results64, go_sem, h2, h3, c0, c1, hec, ReadPost, hB]

section
variable {l l1 d r r1 q r2 : List UInt8} {neg : Bool}
theorem all_app {a b : List UInt8} (ha : ∀ c ∈ a, dig c = true) (hb : ∀ c ∈ b, dig c = true) : ∀ c ∈ a ++ b, dig c = true := fun c hc => (List.mem_append.1 hc).elim (ha c) (hb c)
theorem cnd {a : List UInt8} {k : Nat} (h : ¬ (a = [] ∨ (k : Int) < (a.length : Int))) : ¬ (a = [] ∨ k < a.length) := fun e => h (e.imp id (by omega))
theorem specA (h1 : Lib.trimPrefix l [45] = l1) (h2 : Lib.hasPrefix l [45] = neg) (h3 : ¬ (l1.takeWhile dig = [] ∨ (12 : Int) < ((l1.takeWhile dig).length : Int))) (h4 : l1.takeWhile dig = d) (h5 : l1.dropWhile dig = r)
    (h6 : Lib.hasPrefix r [46] = false) (h7 : r = []) : readS l = finS neg d 0 := by
  unfold readS
  rw [h1, if_neg (cnd (k := 12) h3), h5, h6, if_neg (by simp), if_neg (by simp [h7]), h2, h4]
theorem specAN (h1 : Lib.trimPrefix l [45] = l1) (h3 : ¬ (l1.takeWhile dig = [] ∨ (12 : Int) < ((l1.takeWhile dig).length : Int))) (h5 : l1.dropWhile dig = r)
    (h6 : Lib.hasPrefix r [46] = false) (h7 : ¬ r = []) : readS l = (0, 0, 20) := by
  unfold readS
  rw [h1, if_neg (cnd (k := 12) h3), h5, h6, if_neg (by simp), if_pos h7]
theorem specQ (h1 : Lib.trimPrefix l [45] = l1) (h3 : ¬ (l1.takeWhile dig = [] ∨ (12 : Int) < ((l1.takeWhile dig).length : Int))) (h5 : l1.dropWhile dig = r)
    (h6 : Lib.hasPrefix r [46] = true) (h8 : Lib.trimPrefix r [46] = r1) (h9 : r1.takeWhile dig = [] ∨ (6 : Int) < ((r1.takeWhile dig).length : Int)) : readS l = (0, 0, 20) := by
  unfold readS
  rw [h1, if_neg (cnd (k := 12) h3), h5, h6, if_pos rfl, h8, if_pos (h9.imp id (by omega))]
theorem specB (h1 : Lib.trimPrefix l [45] = l1) (h2 : Lib.hasPrefix l [45] = neg) (h3 : ¬ (l1.takeWhile dig = [] ∨ (12 : Int) < ((l1.takeWhile dig).length : Int))) (h4 : l1.takeWhile dig = d) (h5 : l1.dropWhile dig = r)
    (h6 : Lib.hasPrefix r [46] = true) (h8 : Lib.trimPrefix r [46] = r1) (h9 : ¬ (r1.takeWhile dig = [] ∨ (6 : Int) < ((r1.takeWhile dig).length : Int))) (h10 : r1.takeWhile dig = q) (h11 : r1.dropWhile dig = r2) (h12 : r2 = []) :
    readS l = finS neg (d ++ q) q.length := by
  unfold readS
  rw [h1, if_neg (cnd (k := 12) h3), h5, h6, if_pos rfl, h8, if_neg (cnd (k := 6) h9), h11, if_neg (by simp [h12]), h2, h4, h10]
theorem specBN (h1 : Lib.trimPrefix l [45] = l1) (h3 : ¬ (l1.takeWhile dig = [] ∨ (12 : Int) < ((l1.takeWhile dig).length : Int))) (h5 : l1.dropWhile dig = r)
    (h6 : Lib.hasPrefix r [46] = true) (h8 : Lib.trimPrefix r [46] = r1) (h9 : ¬ (r1.takeWhile dig = [] ∨ (6 : Int) < ((r1.takeWhile dig).length : Int))) (h11 : r1.dropWhile dig = r2) (h12 : ¬ r2 = []) :
    readS l = (0, 0, 20) := by
  unfold readS
  rw [h1, if_neg (cnd (k := 12) h3), h5, h6, if_pos rfl, h8, if_neg (cnd (k := 6) h9), h11, if_pos h12]
end
theorem read_calls (s : ByteArray) (hs : s.size ≤ maxLen) (w : World) :
    Calls Tryz.prog 64 #[.string s] w (ReadPost w (readS s.data.toList)) := by
  have hmf : ∀ (fn : Fn) (first cap : Array Value) (w : World), (Instr.makeFunc fn first cap).run Tryz.prog w = .ok (.func fn first cap) w := fun _ _ _ _ => rfl
  go_enter_defers Tryz.func64, Tryz.ntmps64
  go_wp2_with fail
  have R0 := Rd.start w s
  generalize (((w.alloc (.cells #[.int .i64 0, .int .i64 0] 50)).alloc (.cells #[.int .i64 0] 39)).alloc (.cells #[.string s] 161)) = W at R0 ⊢
  generalize w.heap.size + 1 + 1 = gR at R0 ⊢
  generalize w.heap.size + 1 = gE at R0 ⊢
  refine (took_calls gR s ⟨#[45]⟩ W R0.rc R0.rz).mono ?_
  rintro e w1 ⟨rfl, rfl⟩
  have R1 := R0.set ⟨(Lib.trimPrefix s.data.toList [45]).toArray⟩
  clear R0
  have hl1 := trim_len s.data.toList [45]
  rw [show (s.data.toList).length = s.size from by simp] at hl1
  generalize W.setCell ⟨gR, 0, none⟩ (.string ⟨(Lib.trimPrefix s.data.toList [45]).toArray⟩) = W1 at R1 ⊢
  generalize hneg : Lib.hasPrefix s.data.toList [45] = neg
  generalize hlt : Lib.trimPrefix s.data.toList [45] = l1 at R1 hl1
  have HN := Lib.hid hneg
  have HL := Lib.hid hlt
  clear hneg hlt
  by_cases hd : l1.takeWhile dig = [] ∨ (12 : Int) < ((l1.takeWhile dig).length : Int)
  · have HD := Lib.hid hd
    clear hd
    have hrc := R1.rc
    have hrz := R1.rz
    go_wp2_with (go_at_call 100; refine (digitsL_no gR l1 12 W1 (by omega) R1.rc R1.rz HD.out).mono ?_; rintro e w2 ⟨rfl, hB⟩)
    refine door_fault (R1.below.trans (hB.mono (Nat.le_of_lt (Nat.lt_trans R1.le R1.lt)))) R1.le ?_ ?_ ?_ 20 _ rfl rfl _ ?_
    · rw [hB.cell (p := ⟨gE, 0, none⟩) R1.lt, R1.ec]
    · rw [hB.frozen (p := ⟨gE, 0, none⟩) R1.lt, R1.ez]
    · rw [hB.block _ (Nat.lt_trans R1.le R1.lt), R1.nb]
    · unfold readS; rw [HL.out, if_pos]
      rcases HD.out with h | h
      · exact .inl h
      · exact .inr (by omega)
  · have HD := Lib.hid hd
    clear hd
    go_wp2_with (go_at_call 100; refine (digitsL_ok gR l1 12 W1 (by omega) R1.rc R1.rz HD.out).mono ?_; rintro e w2 ⟨rfl, hL⟩)
    have R2 := R1.left hL
    clear R1 hL W1
    generalize hd1 : l1.takeWhile dig = d
    generalize hr1 : l1.dropWhile dig = r at R2
    have HD1 := Lib.hid hd1
    have HR1 := Lib.hid hr1
    clear hd1 hr1
    have hl2 : r.length ≤ l1.length := by rw [← HR1.out]; exact (List.dropWhile_suffix dig).length_le
    refine (tookL gR r [46] w2 R2.rc R2.rz).mono ?_
    rintro e w3 ⟨rfl, rfl⟩
    have R3 := R2.set ⟨(Lib.trimPrefix r [46]).toArray⟩
    clear R2
    generalize w2.setCell ⟨gR, 0, none⟩ (.string ⟨(Lib.trimPrefix r [46]).toArray⟩) = W3 at R3 ⊢
    have hl3 := trim_len r [46]
    by_cases hp : Lib.hasPrefix r [46] = true
    · have HP := Lib.hid hp
      rw [hp]
      clear hp
      generalize hr1 : Lib.trimPrefix r [46] = r1 at R3 hl3
      have HR2 := Lib.hid hr1
      clear hr1
      by_cases hq : r1.takeWhile dig = [] ∨ (6 : Int) < ((r1.takeWhile dig).length : Int)
      · have HQ := Lib.hid hq
        clear hq
        go_wp2_with (go_at_call 100; refine (digitsL_no gR r1 6 W3 (by omega) R3.rc R3.rz HQ.out).mono ?_; rintro e w2 ⟨rfl, hB⟩)
        refine door_fault (R3.below.trans (hB.mono (Nat.le_of_lt (Nat.lt_trans R3.le R3.lt)))) R3.le ?_ ?_ ?_ 20 _ rfl rfl _ ?_
        · rw [hB.cell (p := ⟨gE, 0, none⟩) R3.lt, R3.ec]
        · rw [hB.frozen (p := ⟨gE, 0, none⟩) R3.lt, R3.ez]
        · rw [hB.block _ (Nat.lt_trans R3.le R3.lt), R3.nb]
        · rw [specQ HL.out HD.out HR1.out HP.out HR2.out HQ.out]
      have HQ := Lib.hid hq
      clear hq
      go_wp2_with (go_at_call 100; refine (digitsL_ok gR r1 6 W3 (by omega) R3.rc R3.rz HQ.out).mono ?_; rintro e w2 ⟨rfl, hL⟩)
      have R5 := R3.left hL
      clear R3 hL W3
      generalize hq1 : r1.takeWhile dig = q
      generalize hr2 : r1.dropWhile dig = r2 at R5
      have HQ1 := Lib.hid hq1
      have HR3 := Lib.hid hr2
      clear hq1 hr2
      have HDl : Hid ((⟨d.toArray⟩ : ByteArray).data.toList = d) := rfl
      have hdd : ∀ c ∈ d, dig c = true := by rw [← HD1.out]; exact tw_dig l1
      have hdn : d ≠ [] := by rw [← HD1.out]; exact fun e => HD.out (.inl e)
      have hd12 : d.length ≤ 12 := by rw [← HD1.out]; have := HD.out; omega
      have hDs : (⟨d.toArray⟩ : ByteArray).size ≤ 12 := hd12
      generalize (⟨d.toArray⟩ : ByteArray) = D at hDs HDl ⊢
      have HQl : Hid ((⟨q.toArray⟩ : ByteArray).data.toList = q) := rfl
      have hqd : ∀ c ∈ q, dig c = true := by rw [← HQ1.out]; exact tw_dig r1
      have hq6 : q.length ≤ 6 := by rw [← HQ1.out]; have := HQ.out; omega
      have hQs : (⟨q.toArray⟩ : ByteArray).size ≤ 6 := hq6
      have hQe : ((⟨q.toArray⟩ : ByteArray).size : Int) = ((q.length : Nat) : Int) := rfl
      have HQe := Lib.hid hQe
      clear hQe
      generalize (⟨q.toArray⟩ : ByteArray) = Q at hQs HQl HQe ⊢
      by_cases he : r2 = []
      · rw [he] at R5
        go_wp2_with (go_at_call 101; refine (end_yes gR _ R5.rc).mono ?_; rintro e w' ⟨rfl, rfl⟩)
        have HE := Lib.hid he
        clear he
        have hsg := sgn_bd neg (d ++ q) (all_app hdd hqd) (by rw [List.length_append]; omega)
        go_wp2_with (go_at_call 98; refine (numberL neg D Q (d ++ q) (by rw [ByteArray.data_append, Array.toList_append, HDl.out, HQl.out]) (fun e => hdn (List.append_eq_nil_iff.1 e).1) (by rw [List.length_append]; omega) (all_app hdd hqd) _).mono ?_; rintro e w4 ⟨rfl, hB⟩; have R4 := R5.on' hB; clear hB R5)
        generalize hm : sgn neg (d ++ q) = m at hsg ⊢
        have HM := Lib.hid hm
        clear hm
        go_wp2_with (go_at_call 108; refine (least_calls m q.length _ HQe.out (by omega) hsg.1 hsg.2 _).mono ?_; rintro e w5 ⟨rfl, hB⟩; have R5 := R4.on' hB; clear hB R4)
        generalize ha : (least m q.length).1 = a
        generalize hb : (least m q.length).2 = b
        have HAB := Lib.hid (And.intro ha hb)
        clear ha hb
        have R6 := R5.on' ((Below.refl w5.heap.size w5).alloc (Nat.le_refl _) (.cells #[.int .i64 a, .int .i64 b] 50))
        have k0 : (w5.alloc (.cells #[.int .i64 a, .int .i64 b] 50)).cell? ⟨w5.heap.size, 0, none⟩ = some (.int .i64 a) := by simp [go_sem]
        have k1 : (w5.alloc (.cells #[.int .i64 a, .int .i64 b] 50)).cell? ⟨w5.heap.size, 1, none⟩ = some (.int .i64 b) := by simp [go_sem]
        have k2 : w5.heap.size < (w5.alloc (.cells #[.int .i64 a, .int .i64 b] 50)).heap.size := by simp
        have k3 : w.heap.size < w5.heap.size := Nat.lt_trans (Nat.lt_trans R5.le R5.lt) R5.size
        clear R5
        generalize w5.alloc (.cells #[.int .i64 a, .int .i64 b] 50) = W6 at R6 k0 k1 k2 ⊢
        generalize w5.heap.size = gM at k0 k1 k2 k3 ⊢
        refine (fits_calls a W6).mono ?_
        rintro e w7 ⟨rfl, hB7⟩
        have R7 := R6.on' hB7
        have c0 : w7.cell? ⟨gM, 0, none⟩ = some (.int .i64 a) := by rw [hB7.cell (p := ⟨gM, 0, none⟩) k2, k0]
        have c1 : w7.cell? ⟨gM, 1, none⟩ = some (.int .i64 b) := by rw [hB7.cell (p := ⟨gM, 1, none⟩) k2, k1]
        clear hB7 k0 k1 k2 R6
        cases hf : fitsB a with
        | false =>
          have HF := Lib.hid hf
          clear hf
          go_wp2_with (go_at_call 102; refine (need_no 2 _).mono ?_; rintro e w' ⟨rfl, rfl⟩)
          refine door_fault R7.below R7.le R7.ec R7.ez R7.nb 2 _ rfl rfl _ ?_
          rw [specB HL.out HN.out HD.out HD1.out HR1.out HP.out HR2.out HQ.out HQ1.out HR3.out HE.out]
          unfold finS
          rw [HM.out, HAB.out.1, HF.out]
          rfl
        | true =>
          have HF := Lib.hid hf
          clear hf
          have n0 : w7.cell? ⟨w.heap.size, 0, none⟩ = some (.int .i64 0) := by simp [World.cell?, R7.nb]
          have n1 : w7.cell? ⟨w.heap.size, 1, none⟩ = some (.int .i64 0) := by simp [World.cell?, R7.nb]
          have z0 : w7.frozen? ⟨w.heap.size, 0, none⟩ = false := by simp [World.frozen?, R7.nb]
          have z1 : w7.frozen? ⟨w.heap.size, 1, none⟩ = false := by simp [World.frozen?, R7.nb]
          have ec := R7.ec
          have ez := R7.ez
          have ne := Nat.ne_of_lt R7.le
          go_wp2_with (go_at_call 102; refine (need_yes 2 _).mono ?_; rintro e w' ⟨rfl, rfl⟩)
          refine door_ret (((R7.below.setCell (Nat.le_refl _) _).setCell (Nat.le_refl _) _).setCell (Nat.le_of_lt R7.le) _) a b ?_ ?_ ?_ _ rfl rfl _ ?_
          · simp [go_sem, n0, n1, ec, ne]
          · simp [go_sem, n0, n1, ec, ne]
          · simp [go_sem, n0, n1, ec, ne]
          · rw [specB HL.out HN.out HD.out HD1.out HR1.out HP.out HR2.out HQ.out HQ1.out HR3.out HE.out]
            unfold finS
            rw [HM.out, HAB.out.1, HAB.out.2, HF.out]
            rfl
      · have HE := Lib.hid he
        clear he
        go_wp2_with (go_at_call 101; refine (end_no gR ⟨r2.toArray⟩ _ R5.rc (toList_ne HE.out)).mono ?_; rintro e w' ⟨rfl, rfl⟩)
        refine door_fault R5.below R5.le R5.ec R5.ez R5.nb 20 _ rfl rfl _ ?_
        rw [specBN HL.out HD.out HR1.out HP.out HR2.out HQ.out HR3.out HE.out]
    · have hp' : Lib.hasPrefix r [46] = false := by simpa using hp
      have ht : Lib.trimPrefix r [46] = r := by unfold Lib.trimPrefix; rw [if_neg hp]
      rw [ht] at R3
      have HP := Lib.hid hp'
      rw [hp']
      clear hp hp' ht
      have HDl : Hid ((⟨d.toArray⟩ : ByteArray).data.toList = d) := rfl
      have hdd : ∀ c ∈ d, dig c = true := by rw [← HD1.out]; exact tw_dig l1
      have hdn : d ≠ [] := by rw [← HD1.out]; exact fun e => HD.out (.inl e)
      have hd12 : d.length ≤ 12 := by rw [← HD1.out]; have := HD.out; omega
      have hDs : (⟨d.toArray⟩ : ByteArray).size ≤ 12 := hd12
      generalize (⟨d.toArray⟩ : ByteArray) = D at hDs HDl ⊢
      by_cases he : r = []
      · rw [he] at R3
        go_wp2_with (go_at_call 101; refine (end_yes gR _ R3.rc).mono ?_; rintro e w' ⟨rfl, rfl⟩)
        have HE := Lib.hid he
        clear he
        have hsg := sgn_bd neg (d) hdd (by omega)
        go_wp2_with (go_at_call 98; refine (numberL neg D ⟨#[]⟩ (d) (by rw [← HDl.out]; simp) hdn (by omega) hdd _).mono ?_; rintro e w4 ⟨rfl, hB⟩; have R4 := R3.on' hB; clear hB R3)
        generalize hm : sgn neg (d) = m at hsg ⊢
        have HM := Lib.hid hm
        clear hm
        go_wp2_with (go_at_call 108; refine (least_calls m 0 _ rfl (by omega) hsg.1 hsg.2 _).mono ?_; rintro e w5 ⟨rfl, hB⟩; have R5 := R4.on' hB; clear hB R4)
        generalize ha : (least m 0).1 = a
        generalize hb : (least m 0).2 = b
        have HAB := Lib.hid (And.intro ha hb)
        clear ha hb
        have R6 := R5.on' ((Below.refl w5.heap.size w5).alloc (Nat.le_refl _) (.cells #[.int .i64 a, .int .i64 b] 50))
        have k0 : (w5.alloc (.cells #[.int .i64 a, .int .i64 b] 50)).cell? ⟨w5.heap.size, 0, none⟩ = some (.int .i64 a) := by simp [go_sem]
        have k1 : (w5.alloc (.cells #[.int .i64 a, .int .i64 b] 50)).cell? ⟨w5.heap.size, 1, none⟩ = some (.int .i64 b) := by simp [go_sem]
        have k2 : w5.heap.size < (w5.alloc (.cells #[.int .i64 a, .int .i64 b] 50)).heap.size := by simp
        have k3 : w.heap.size < w5.heap.size := Nat.lt_trans (Nat.lt_trans R5.le R5.lt) R5.size
        clear R5
        generalize w5.alloc (.cells #[.int .i64 a, .int .i64 b] 50) = W6 at R6 k0 k1 k2 ⊢
        generalize w5.heap.size = gM at k0 k1 k2 k3 ⊢
        refine (fits_calls a W6).mono ?_
        rintro e w7 ⟨rfl, hB7⟩
        have R7 := R6.on' hB7
        have c0 : w7.cell? ⟨gM, 0, none⟩ = some (.int .i64 a) := by rw [hB7.cell (p := ⟨gM, 0, none⟩) k2, k0]
        have c1 : w7.cell? ⟨gM, 1, none⟩ = some (.int .i64 b) := by rw [hB7.cell (p := ⟨gM, 1, none⟩) k2, k1]
        clear hB7 k0 k1 k2 R6
        cases hf : fitsB a with
        | false =>
          have HF := Lib.hid hf
          clear hf
          go_wp2_with (go_at_call 102; refine (need_no 2 _).mono ?_; rintro e w' ⟨rfl, rfl⟩)
          refine door_fault R7.below R7.le R7.ec R7.ez R7.nb 2 _ rfl rfl _ ?_
          rw [specA HL.out HN.out HD.out HD1.out HR1.out HP.out HE.out]
          unfold finS
          rw [HM.out, HAB.out.1, HF.out]
          rfl
        | true =>
          have HF := Lib.hid hf
          clear hf
          have n0 : w7.cell? ⟨w.heap.size, 0, none⟩ = some (.int .i64 0) := by simp [World.cell?, R7.nb]
          have n1 : w7.cell? ⟨w.heap.size, 1, none⟩ = some (.int .i64 0) := by simp [World.cell?, R7.nb]
          have z0 : w7.frozen? ⟨w.heap.size, 0, none⟩ = false := by simp [World.frozen?, R7.nb]
          have z1 : w7.frozen? ⟨w.heap.size, 1, none⟩ = false := by simp [World.frozen?, R7.nb]
          have ec := R7.ec
          have ez := R7.ez
          have ne := Nat.ne_of_lt R7.le
          go_wp2_with (go_at_call 102; refine (need_yes 2 _).mono ?_; rintro e w' ⟨rfl, rfl⟩)
          refine door_ret (((R7.below.setCell (Nat.le_refl _) _).setCell (Nat.le_refl _) _).setCell (Nat.le_of_lt R7.le) _) a b ?_ ?_ ?_ _ rfl rfl _ ?_
          · simp [go_sem, n0, n1, ec, ne]
          · simp [go_sem, n0, n1, ec, ne]
          · simp [go_sem, n0, n1, ec, ne]
          · rw [specA HL.out HN.out HD.out HD1.out HR1.out HP.out HE.out]
            unfold finS
            rw [HM.out, HAB.out.1, HAB.out.2, HF.out]
            rfl
      · have HE := Lib.hid he
        clear he
        go_wp2_with (go_at_call 101; refine (end_no gR ⟨r.toArray⟩ _ R3.rc (toList_ne HE.out)).mono ?_; rintro e w' ⟨rfl, rfl⟩)
        refine door_fault R3.below R3.le R3.ec R3.ez R3.nb 20 _ rfl rfl _ ?_
        rw [specAN HL.out HD.out HR1.out HP.out HE.out]

structure RdI (w W : World) (gR : Nat) (s : ByteArray) : Prop where
  below : Below w.heap.size w W
  lt : w.heap.size < gR
  size : gR < W.heap.size
  rc : W.cell? ⟨gR, 0, none⟩ = some (.string s)
  rz : W.frozen? ⟨gR, 0, none⟩ = false
  ec : W.cell? ⟨w.heap.size, 0, none⟩ = some (.int .i64 0)
  ez : W.frozen? ⟨w.heap.size, 0, none⟩ = false
theorem RdI.left {w W W' : World} {gR : Nat} {s r : ByteArray} (h : RdI w W gR s) (l : Left gR r W W') : RdI w W' gR r :=
  ⟨h.below.trans (l.1.mono (Nat.le_of_lt h.lt)), h.lt, Nat.lt_of_lt_of_le h.size l.1.size, l.2.1, l.2.2,
    by rw [l.1.cell (p := ⟨w.heap.size, 0, none⟩) h.lt, h.ec], by rw [l.1.frozen (p := ⟨w.heap.size, 0, none⟩) h.lt, h.ez]⟩
theorem RdI.set {w W : World} {gR : Nat} {s : ByteArray} (h : RdI w W gR s) (r : ByteArray) : RdI w (W.setCell ⟨gR, 0, none⟩ (.string r)) gR r :=
  h.left (left_mk h.size h.rc h.rz (Below.refl _ _))
theorem RdI.on' {w W W' : World} {gR : Nat} {s : ByteArray} (h : RdI w W gR s) (b : Below W.heap.size W W') : RdI w W' gR s :=
  h.left ⟨b.mono (Nat.le_of_lt h.size), by rw [b.cell (p := ⟨gR, 0, none⟩) h.size, h.rc], by rw [b.frozen (p := ⟨gR, 0, none⟩) h.size, h.rz]⟩
theorem RdI.start (w : World) (s : ByteArray) : RdI w ((w.alloc (.cells #[.int .i64 0] 39)).alloc (.cells #[.string s] 161)) (w.heap.size + 1) s := by
  have hB1 := (Below.refl w.heap.size w).alloc (Nat.le_refl _) (.cells #[.int .i64 0] 39)
  refine ⟨hB1.alloc hB1.size _, by omega, by simp, ?_, ?_, ?_, ?_⟩
  · simp [go_sem]
  · simp [go_sem]
  · simp [go_sem]
  · simp [go_sem]
def IntPost (w : World) (r : Int × Int) (e : Ending) (w' : World) : Prop := e = .returned (.tuple #[.int .i64 r.1, .int .i64 r.2]) ∧ Below w.heap.size w w'
theorem doorI_fault {w W : World} (hB : Below w.heap.size w W) (hec : W.cell? ⟨w.heap.size, 0, none⟩ = some (.int .i64 0)) (hez : W.frozen? ⟨w.heap.size, 0, none⟩ = false)
    (code : Int) (T : Array Value) (h2 : T[2]?.getD undef = .int .i64 0) (h3 : T[3]?.getD undef = .pointer (some ⟨w.heap.size, 0, none⟩)) (Q : Ending → World → Prop) (hQ : IntPost w (0, code) = Q) :
    Leaves Tryz.prog Tryz.f57 T Q [{ target := Target.fn (Fn.func 96) #[.pointer (some ⟨w.heap.size, 0, none⟩)], args := #[] }] (.panicking [{ v := .iface 180 (.int .i64 code), recovered := false }]) W := by
  subst hQ
  refine leaves_cons (f := 96) (args := #[.pointer (some ⟨w.heap.size, 0, none⟩)]) (by simp) (by simp [go_sem]) ?_
  refine (intD_fault ⟨w.heap.size, 0, none⟩ code _ [] W hec hez).mono ?_
  rintro e u' w'' ⟨rfl, rfl, rfl⟩
  have hc1 : (W.setCell ⟨w.heap.size, 0, none⟩ (.int .i64 code)).cell? ⟨w.heap.size, 0, none⟩ = some (.int .i64 code) := World.cell?_setCell_same _ _ _ hec
  have hB1 : Below w.heap.size w (W.setCell ⟨w.heap.size, 0, none⟩ (.int .i64 code)) := hB.setCell (Nat.le_refl _) _
  generalize W.setCell ⟨w.heap.size, 0, none⟩ (.int .i64 code) = W1 at *
  simp [Leaves, settle, results, Tryz.results57, go_sem, h2, h3, hc1, IntPost, hB1]
theorem doorI_ret {w W : World} (hB : Below w.heap.size w W) (a : Int) (hec : W.cell? ⟨w.heap.size, 0, none⟩ = some (.int .i64 0)) (T : Array Value)
    (h2 : T[2]?.getD undef = .int .i64 a) (h3 : T[3]?.getD undef = .pointer (some ⟨w.heap.size, 0, none⟩)) (Q : Ending → World → Prop) (hQ : IntPost w (a, 0) = Q) :
    Leaves Tryz.prog Tryz.f57 T Q [{ target := Target.fn (Fn.func 96) #[.pointer (some ⟨w.heap.size, 0, none⟩)], args := #[] }] .returning W := by
  subst hQ
  refine leaves_cons (f := 96) (args := #[.pointer (some ⟨w.heap.size, 0, none⟩)]) (by simp) (by simp [go_sem]) ?_
  refine (intD_idle ⟨w.heap.size, 0, none⟩ W).mono ?_
  rintro e u' w'' ⟨rfl, rfl, rfl⟩
  simp [Leaves, settle, results, Tryz.results57, go_sem, h2, h3, hec, IntPost, hB]

section
variable {l l1 d r : List UInt8} {neg : Bool} {m : Int}
theorem ispecQ (h1 : Lib.trimPrefix l [45] = l1) (h3 : l1.takeWhile dig = [] ∨ (12 : Int) < ((l1.takeWhile dig).length : Int)) : intS l = (0, 20) := by
  unfold intS
  rw [h1, if_pos (h3.imp id (by omega))]
theorem ispecN (h1 : Lib.trimPrefix l [45] = l1) (h3 : ¬ (l1.takeWhile dig = [] ∨ (12 : Int) < ((l1.takeWhile dig).length : Int))) (h5 : l1.dropWhile dig = r) (h7 : ¬ r = []) : intS l = (0, 20) := by
  unfold intS
  rw [h1, if_neg (cnd (k := 12) h3), h5, if_pos h7]
theorem ispec (h1 : Lib.trimPrefix l [45] = l1) (h2 : Lib.hasPrefix l [45] = neg) (h3 : ¬ (l1.takeWhile dig = [] ∨ (12 : Int) < ((l1.takeWhile dig).length : Int))) (h4 : l1.takeWhile dig = d) (h5 : l1.dropWhile dig = r) (h7 : r = []) (hm : sgn neg d = m) :
    intS l = if fitsB m = true then (m, 0) else (0, 2) := by
  unfold intS
  rw [h1, if_neg (cnd (k := 12) h3), h5, if_neg (by simp [h7]), h2, h4, hm]
end
theorem int_calls (s : ByteArray) (hs : s.size ≤ maxLen) (w : World) :
    Calls Tryz.prog 57 #[.string s] w (IntPost w (intS s.data.toList)) := by
  have hmf : ∀ (fn : Fn) (first cap : Array Value) (w : World), (Instr.makeFunc fn first cap).run Tryz.prog w = .ok (.func fn first cap) w := fun _ _ _ _ => rfl
  go_enter_defers Tryz.func57, Tryz.ntmps57
  go_wp2_with fail
  have R0 := RdI.start w s
  generalize ((w.alloc (.cells #[.int .i64 0] 39)).alloc (.cells #[.string s] 161)) = W at R0 ⊢
  generalize w.heap.size + 1 = gR at R0 ⊢
  refine (took_calls gR s ⟨#[45]⟩ W R0.rc R0.rz).mono ?_
  rintro e w1 ⟨rfl, rfl⟩
  have R1 := R0.set ⟨(Lib.trimPrefix s.data.toList [45]).toArray⟩
  clear R0
  have hl1 := trim_len s.data.toList [45]
  rw [show (s.data.toList).length = s.size from by simp] at hl1
  generalize W.setCell ⟨gR, 0, none⟩ (.string ⟨(Lib.trimPrefix s.data.toList [45]).toArray⟩) = W1 at R1 ⊢
  generalize hneg : Lib.hasPrefix s.data.toList [45] = neg
  generalize hlt : Lib.trimPrefix s.data.toList [45] = l1 at R1 hl1
  have HN := Lib.hid hneg
  have HL := Lib.hid hlt
  clear hneg hlt
  by_cases hd : l1.takeWhile dig = [] ∨ (12 : Int) < ((l1.takeWhile dig).length : Int)
  · have HD := Lib.hid hd
    clear hd
    go_wp2_with (go_at_call 100; refine (digitsL_no gR l1 12 W1 (by omega) R1.rc R1.rz HD.out).mono ?_; rintro e w2 ⟨rfl, hB⟩)
    refine doorI_fault (R1.below.trans (hB.mono (Nat.le_of_lt R1.lt))) ?_ ?_ 20 _ rfl rfl _ ?_
    · rw [hB.cell (p := ⟨w.heap.size, 0, none⟩) R1.lt, R1.ec]
    · rw [hB.frozen (p := ⟨w.heap.size, 0, none⟩) R1.lt, R1.ez]
    · rw [ispecQ HL.out HD.out]
  · have HD := Lib.hid hd
    clear hd
    go_wp2_with (go_at_call 100; refine (digitsL_ok gR l1 12 W1 (by omega) R1.rc R1.rz HD.out).mono ?_; rintro e w2 ⟨rfl, hL⟩)
    have R3 := R1.left hL
    clear R1 hL W1
    generalize hd1 : l1.takeWhile dig = d
    generalize hr1 : l1.dropWhile dig = r at R3
    have HD1 := Lib.hid hd1
    have HR1 := Lib.hid hr1
    clear hd1 hr1
    have hdd : ∀ c ∈ d, dig c = true := by rw [← HD1.out]; exact tw_dig l1
    have hdn : d ≠ [] := by rw [← HD1.out]; exact fun e => HD.out (.inl e)
    have hd12 : d.length ≤ 12 := by rw [← HD1.out]; have := HD.out; omega
    go_wp2_with (go_at_call 98; refine (numberD neg d hdn (by omega) hdd _).mono ?_; rintro e w4 ⟨rfl, hB⟩; have R4 := R3.on' hB; clear hB R3)
    generalize hm : sgn neg d = m
    have HM := Lib.hid hm
    clear hm
    by_cases he : r = []
    · rw [he] at R4
      have HE := Lib.hid he
      clear he
      go_wp2_with (go_at_call 101; refine (end_yes gR _ R4.rc).mono ?_; rintro e w' ⟨rfl, rfl⟩)
      refine (fits_calls m _).mono ?_
      rintro e w7 ⟨rfl, hB7⟩
      have R7 := R4.on' hB7
      clear hB7 R4
      cases hf : fitsB m with
      | false =>
        have HF := Lib.hid hf
        clear hf
        go_wp2_with (go_at_call 102; refine (need_no 2 _).mono ?_; rintro e w' ⟨rfl, rfl⟩)
        refine doorI_fault R7.below R7.ec R7.ez 2 _ rfl rfl _ ?_
        rw [ispec HL.out HN.out HD.out HD1.out HR1.out HE.out HM.out, HF.out]
        rfl
      | true =>
        have HF := Lib.hid hf
        clear hf
        have ec := R7.ec
        have ez := R7.ez
        go_wp2_with (go_at_call 102; refine (need_yes 2 _).mono ?_; rintro e w' ⟨rfl, rfl⟩)
        refine doorI_ret (R7.below.setCell (Nat.le_refl _) _) m ?_ _ rfl rfl _ ?_
        · simp [go_sem, ec]
        · rw [ispec HL.out HN.out HD.out HD1.out HR1.out HE.out HM.out, HF.out]
          rfl
    · have HE := Lib.hid he
      clear he
      go_wp2_with (go_at_call 101; refine (end_no gR ⟨r.toArray⟩ _ R4.rc (toList_ne HE.out)).mono ?_; rintro e w' ⟨rfl, rfl⟩)
      refine doorI_fault R4.below R4.ec R4.ez 20 _ rfl rfl _ ?_
      rw [ispecN HL.out HD.out HR1.out HE.out]
end Go.Proofs.YtadocbfchdendaaGreatDoor.Fx
namespace Go.Proofs.YtadocbfchdendaaGreatDoor.P
open Go.RowKit Go.Proofs.YtadocbfchdendaaGreatDoor.Sp
def fixed_Read.f (a0 : ByteArray) : Option (Int × Int × Int) := if a0.size ≤ 9223372036854775807 then some (readS a0.data.toList) else none
theorem fixed_Read.calls (a0 : ByteArray) (r1 : Int) (r2 : Int) (r3 : Int) (w : World) (h : fixed_Read.f a0 = some (r1, r2, r3)) :
    Calls Tryz.prog 64 #[.string a0] w fun e w' => e = .returned (.tuple #[.agg #[.int .i64 r1, .int .i64 r2], .int .i64 r3]) ∧ Below w.heap.size w w' := by
  unfold fixed_Read.f at h
  split at h
  · rename_i hs
    have h' := Option.some.inj h
    refine (Fx.read_calls a0 (by unfold maxLen; omega) w).mono ?_
    rintro e w' ⟨he, hb⟩
    rw [h'] at he
    exact ⟨he, hb⟩
  · cases h
def fixed_Int.f (a0 : ByteArray) : Option (Int × Int) := if a0.size ≤ 9223372036854775807 then some (intS a0.data.toList) else none
theorem fixed_Int.calls (a0 : ByteArray) (r1 : Int) (r2 : Int) (w : World) (h : fixed_Int.f a0 = some (r1, r2)) :
    Calls Tryz.prog 57 #[.string a0] w fun e w' => e = .returned (.tuple #[.int .i64 r1, .int .i64 r2]) ∧ Below w.heap.size w w' := by
  unfold fixed_Int.f at h
  split at h
  · rename_i hs
    have h' := Option.some.inj h
    refine (Fx.int_calls a0 (by unfold maxLen; omega) w).mono ?_
    rintro e w' ⟨he, hb⟩
    rw [h'] at he
    exact ⟨he, hb⟩
  · cases h
end Go.Proofs.YtadocbfchdendaaGreatDoor.P
namespace Go.Proofs.YtadocbfchdendaaGreatDoor.P
open Go.RowKit Go.Proofs.YtadocbfchdendaaGreatDoorW.PrintWords Go.Proofs.YtadocbfchdendaaGreatDoorW.PrintLast Go.Proofs.YtadocbfchdendaaGreatDoorW.PrintMore
attribute [local go_sem] max2_int min2_int max_two min_two max_three min_three max_four min_four   -- for this text's walks alone
set_option linter.unusedVariables false
set_option linter.unusedSimpArgs false
def sheet_each_int.l0 : Nat → ByteArray → List Int → List (S105) → Int → Int → Int → Int → Option (List Int × Int × Int)
 | 0, _, _, _, _, _, _, _ => none
 | k + 1, x0, x6, x12, x13, x14, x102000, x102001 => if x14 < x13 then (if 0 ≤ x14 then (if x14 < (x12.length : Int) then ((words_Text.f x0 ((rd_T105 x12 x14).f0) ((rd_T105 x12 x14).f1)).bind fun t104 => ((fixed_Int.f t104).bind fun bt105 => (if bt105.2 = 0 then (if x6.length < 17592186044416 then (sheet_each_int.l0 k x0 (x6 ++ [bt105.1]) x12 x13 (wrap64 (x14 + 1)) x102000 x102001) else (none)) else (some (([] : List Int), (rd_T105 x12 x14).f0, bt105.2))))) else (none)) else (none)) else (some (x6, x102000, x102001))
def sheet_each_int.f (k : Nat) (a0 : ByteArray) (a1 : Unit) (l2 : List (S105)) : Option (List Int × Int × Int) := sheet_each_int.l0 k a0 ([] : List Int) l2 (l2.length : Int) 0 0 0
theorem sheet_each_int.mono_l : ∀ k, (∀ y0 y1 y2 y3 y4 y5 y6, LeO (sheet_each_int.l0 k y0 y1 y2 y3 y4 y5 y6) (sheet_each_int.l0 (k + 1) y0 y1 y2 y3 y4 y5 y6))
 | 0 => fun _ _ _ _ _ _ _ r h => by simp [sheet_each_int.l0] at h
 | k + 1 => by
  have ih0 := sheet_each_int.mono_l k
  ·intro y0 y1 y2 y3 y4 y5 y6
   unfold sheet_each_int.l0
   repeat' first
   | (with_reducible exact ih0 _ _ _ _ _ _ _)
   | (with_reducible exact LeO.refl _)
   | (with_reducible exact LeO.none _)
   | (with_reducible refine LeO.ite ?_ ?_)
   | (with_reducible refine LeO.bind ?_ (fun _ => ?_))
   | exact ih0 _ _ _ _ _ _ _
   | exact LeO.none _
   | refine LeO.ite ?_ ?_
   | refine LeO.bind ?_ (fun _ => ?_)
theorem sheet_each_int.mono : ∀ a0 a1 a2 k, LeO (sheet_each_int.f k a0 a1 a2) (sheet_each_int.f (k + 1) a0 a1 a2) := by
 intro a0 a1 a2 k
 have ih0 := sheet_each_int.mono_l k; unfold sheet_each_int.f
 repeat' first
   | (with_reducible exact ih0 _ _ _ _ _ _ _)
   | (with_reducible exact LeO.refl _)
   | (with_reducible exact LeO.none _)
   | (with_reducible refine LeO.ite ?_ ?_)
   | (with_reducible refine LeO.bind ?_ (fun _ => ?_))
   | exact ih0 _ _ _ _ _ _ _
   | exact LeO.none _
   | refine LeO.ite ?_ ?_
   | refine LeO.bind ?_ (fun _ => ?_)
set_option maxHeartbeats 8000000 in
set_option maxRecDepth 100000 in
theorem sheet_each_int.calls (k : Nat) (a0 : ByteArray) (a1 : Unit) (A2 : Option Addr) (c2 : Nat) (l2 : List (S105)) (r1 : List Int) (r2 : Int) (r3 : Int) (w : World) (hr2 : Kd.C k105 w A2 l2.length l2) (hc2 : l2.length ≤ c2) (h : sheet_each_int.f k a0 a1 l2 = some (r1, r2, r3)) :
  Calls Tryz.prog 56 #[.string a0, .func (.func 57) #[] #[], .slice A2 l2.length c2] w fun e w' => ∃ v0_ : Value, e = .returned (.tuple #[v0_, .agg #[.int .i64 r2, .int .i64 r3]]) ∧ Kd.R (Kd.int .i64) 3 w' w.heap.size (fun _ => True) v0_ r1 ∧ Below w.heap.size w w' := by
 have hu41 := Tryz.underlying41; have hu105 := Tryz.underlying105; have HR2 := Aside0.mk hr2; have HC2 := Aside0.mk hc2; clear hr2 hc2; have HB := Aside0.mk (Below.refl w.heap.size w); have H : (sheet_each_int.l0 k a0 ([] : List Int) l2 (l2.length : Int) 0 0 0) = some (r1, r2, r3) := h; clear h; have H' := Aside0.mk H; clear H; go_enter Tryz.func56, Tryz.ntmps56
 go_wp2_with (first | ((with_reducible refine gate_dst (N := 7) rfl ?_); refine box_ev (N := 7) (cs := #[.int .i64 0, .int .i64 0]) (t := 41) ?_; intro gb101 hg w4 hbox hb; have BK101 := Aside0.mk (hbox); have GW101 := Aside0.mk ((qg : w.heap.size ≤ gb101)); have GE101 := Aside0.mk ((qg : w.heap.size ≤ gb101)); replace HB := cB HB hb; clear hb hbox hg))
 (try simp only [Act.put, List.setIfInBounds_toArray, List.set_cons_zero, List.set_cons_succ])
 go_loopg [6, 14] k (fun kq v6 v14 w' => ∃ (x6_1 : List Int) (x14_1 : Int) (x102000_1 : Int) (x102001_1 : Int), v14 = .int .i64 x14_1 ∧ Aside0 (sheet_each_int.l0 kq a0 x6_1 l2 (l2.length : Int) x14_1 x102000_1 x102001_1 = some (r1, r2, r3)) ∧ Aside0 (kq ≤ k) ∧ Aside0 (Kd.R (Kd.int .i64) 3 w' w.heap.size (fun _ => True) v6 x6_1) ∧ Aside0 (w'.heap[gb101]? = some (.cells #[.int .i64 x102000_1, .int .i64 x102001_1] 41 (0, 0))) ∧ Aside0 (Below w.heap.size w w'))
 case atStart => exact ⟨(([] : List Int)), (0), (0), (0), qr, H', ⟨Nat.le_refl _⟩, ⟨by first | exact Kd.R_nil _ _ _ _ _ | exact Kd.N_nil _ _ _ _ _ | exact Kd.V_nil _ _ _ _ _ | exact Kd.Q_nil _ _ _ _ _ | exact Kd.S_nil _ _ _ _ _⟩, ⟨qk BK101.out⟩, ⟨qb⟩⟩
 case round =>
  clear H'; (try clear c2); (try clear p2); obtain ⟨x6_1, x14_1, x102000_1, x102001_1, rfl, HA, HK1, HO_6, BK101, HB⟩ := hrel; cases gk with
  | zero => exact absurd HA.out (by simp [sheet_each_int.l0])
  | succ k1 =>
   have H := HA.out; clear HA; simp only [sheet_each_int.l0] at H
   by_cases c5 : x14_1 < (l2.length : Int)
   ·rw [if_pos c5] at H; have c5b0 := decide_eq_true c5; clear c5
    by_cases c6 : 0 ≤ x14_1
    ·rw [if_pos c6] at H; have c6b0 := decide_eq_true c6; clear c6
     by_cases c7 : x14_1 < (l2.length : Int)
     ·rw [if_pos c7] at H; have c7b0 := decide_eq_true c7; clear c7; replace H := Option.bind_eq_some_iff.mp H; obtain ⟨t104, A80, H⟩ := H; (try dsimp only at H); have A8 := Aside0.mk A80; clear A80; replace H := Option.bind_eq_some_iff.mp H; obtain ⟨⟨t105, t106⟩, A90, H⟩ := H; (try dsimp only at H); have A9 := Aside0.mk A90; clear A90
      by_cases c10 : t106 = 0
      ·rw [if_pos c10] at H; have c10b0 := beq_iff_eq.mpr c10; have c10b1 := bne_eq_false_iff_eq.mpr c10; clear c10
       by_cases c11 : x6_1.length < 17592186044416
       ·rw [if_pos c11] at H; have LMc11 := Aside0.mk c11; clear c11; obtain ⟨y107, hy107⟩ : ∃ y_ : List Int, y_ = (x6_1 ++ [t105]) := ⟨_, rfl⟩; replace H : (sheet_each_int.l0 k1 a0 y107 l2 (l2.length : Int) (wrap64 (x14_1 + 1)) x102000_1 x102001_1) = some (r1, r2, r3) := by first | (rw [hy107]; with_reducible exact H) | (have H2_ := (Option.bind_some _ _).symm.trans H; rw [hy107]; with_reducible exact H2_) | (have H2_ := (Option.bind_some _ _).symm.trans H; with_reducible exact H2_) | with_reducible exact H | (rw [hy107]; exact H) | exact H
        have Ny107 := Aside0.mk hy107; clear hy107; have H' := Aside0.mk H; clear H; have p102 : 0 ≤ (x14_1 : Int) := of_decide_eq_true qa; have q102 : x14_1 < (l2.length : Int) := of_decide_eq_true qa; obtain ⟨ad102, e102, hx102_0, hx102_1⟩ := at_T105 HR2.out x14_1 p102 q102; cases e102; replace hx102_0 := (HB.out.cell (World.block_lt_of_cell? w _ hx102_0)).trans hx102_0; replace hx102_1 := (HB.out.cell (World.block_lt_of_cell? w _ hx102_1)).trans hx102_1; (try simp only [Go.IntWalk.toNatUp] at hx102_0); (try simp only [Go.IntWalk.toNatUp] at hx102_1); replace p102 := eq_true p102; replace q102 := eq_true q102
        go_wp2_with (first | ((with_reducible refine gate_dst (N := 9) rfl ?_); refine box_ev (N := 9) (cs := #[.int .i64 0, .int .i64 0]) (t := 105) ?_; intro gb103 hg w12 hbox hb; have BK103 := Aside0.mk (hbox); have GW103 := Aside0.mk ((qg : w.heap.size ≤ gb103)); have GE103 := Aside0.mk ((qg : w.heap.size ≤ gb103)); have NB101_103 := Aside0.mk ((by rw [hg]; exact Nat.ne_of_lt (blk_lt (g := gb101) (o := .cells #[.int .i64 x102000_1, .int .i64 x102001_1] 41 (0, 0)) (qk BK101.out)) : gb101 ≠ gb103)); have NB103_101 := Aside0.mk ((by rw [hg]; exact Nat.ne_of_gt (blk_lt (g := gb101) (o := .cells #[.int .i64 x102000_1, .int .i64 x102001_1] 41 (0, 0)) (qk BK101.out)) : gb103 ≠ gb101)); replace HO_6 := cR HO_6 hb; replace BK101 := cK BK101 hb; replace HB := cB HB hb; clear hb hbox hg; have hnb13 := NB103_101.out; have hnc13 := NB101_103.out; have hcz14_0 : w12.cell? ⟨gb103, 0, none⟩ = some (.int .i64 0) := (blk_cell BK103.out 0).trans rfl; have hcz14_1 : w12.cell? ⟨gb103, 1, none⟩ = some (.int .i64 0) := (blk_cell BK103.out 1).trans rfl; have hfz14_0 := blk_frozen BK103.out 0; have hfz14_1 := blk_frozen BK103.out 1) | ((with_reducible refine gate_callee (f := 78) rfl ?_); refine goesL_ (some 22) rfl rfl Tryz.func78 (by kernel_rfl) rfl #[.string a0, .agg #[.int .i64 ((rd_T105 l2 x14_1).f0), .int .i64 ((rd_T105 l2 x14_1).f1)]] rfl qm ?_; (with_reducible refine (words_Text.calls a0 ((rd_T105 l2 x14_1).f0) ((rd_T105 l2 x14_1).f1) t104 _ A8.out).mono ?_); rintro e w15 ⟨rfl, hb⟩; refine ⟨_, rfl, ?_⟩; have n0_ := Aside0.mk (Kd.R_below (by refine qR ?_; exact (Kd.R_mono (Kd.R_far (p := ⟨gb103, 1, none⟩) (Kd.R_far (p := ⟨gb103, 0, none⟩) (Kd.R_types HO_6.out BK103.out (by decide)) (fun _ hk => hk.2) (.int .i64 ((rd_T105 l2 x14_1).f0))) (fun _ hk => hk.2) (.int .i64 ((rd_T105 l2 x14_1).f1))) (fun _ h_ => by first | exact h_.1 | exact ⟨trivial, h_.1⟩))) hb); have n1_ := Aside0.mk (blk_below (g := gb101) (o := .cells #[.int .i64 x102000_1, .int .i64 x102001_1] 41 (0, 0)) (by refine qk ?_; refine blk_far ?_ NB101_103.out _; refine qk ?_; refine blk_far ?_ NB101_103.out _; refine qk ?_; exact BK101.out) hb); have n2_ := Aside0.mk (blk_below (g := gb103) (o := .cells #[.int .i64 ((rd_T105 l2 x14_1).f0), .int .i64 ((rd_T105 l2 x14_1).f1)] 105 (0, 0)) (by refine qk ?_; refine blk_put (cs := #[.int .i64 ((rd_T105 l2 x14_1).f0), .int .i64 0]) ?_ 1 _ rfl; refine qk ?_; refine blk_put (cs := #[.int .i64 0, .int .i64 0]) ?_ 0 _ rfl; refine qk ?_; exact BK103.out) hb); replace HB := cB HB hb; replace HO_6 := n0_; replace BK101 := n1_; replace BK103 := n2_; clear n0_ n1_ n2_; (try clear hb); (try clear hb2); (try clear hk); (try clear hi)) | (go_at_call 57; (with_reducible refine (fixed_Int.calls t104 t105 t106 _ A9.out).mono ?_); rintro e w16 ⟨rfl, hb⟩; replace HO_6 := cR HO_6 hb; replace BK101 := cK BK101 hb; replace BK103 := cK BK103 hb; replace HB := cB HB hb; (try clear hb); (try clear hb2); (try clear hk); (try clear hi)) | ((with_reducible refine gate_builtin (b := .append) (xs := #[.tmp 32, .tmp 34]) rfl ?_); at_builtin; refine Kd.R_append (Kd.int .i64) (w0 := w) w.heap.size rfl (.tmp 32) (.tmp 34) 38 3 (.int .i64 0) 8 rfl Tryz.underlying38 info3 rfl (by decide) (by omega) u6 x6_1 t105 [.int .i64 t105] (fun _ => True) (fun _ => False) rfl rfl ?aP (fun _ hk => hk.elim) ?aF ?aO ?aB ?aS ?aL ?_; (case aP => exact rfl); (case aB => exact qb); (case aF => exact (fun _ _ => trivial)); (case aO => exact (qR HO_6.out)); (case aS => exact (below_size qb)); (case aL => have := LMc11.out; omega); intro v108 w17 ho hb hg hat; rw [← Ny107.out] at ho; have n0_ := Aside0.mk (blk_grown (g := gb101) (o := .cells #[.int .i64 x102000_1, .int .i64 x102001_1] 41 (0, 0)) (qk BK101.out) hg (Kd.R_ne HO_6.out BK101.out (by decide))); have n1_ := Aside0.mk (blk_grown (g := gb103) (o := .cells #[.int .i64 ((rd_T105 l2 x14_1).f0), .int .i64 ((rd_T105 l2 x14_1).f1)] 105 (0, 0)) (qk BK103.out) hg (Kd.R_ne HO_6.out BK103.out (by decide))); have n2_ := Aside0.mk (hb); have HO109 := Aside0.mk (ho); replace BK101 := n0_; replace BK103 := n1_; replace HB := n2_; clear n0_ n1_ n2_; clear HO_6; clear ho hb hg hat))
        go_roundg k1
        case measure => have := HK1.out; omega
        case rel => exact ⟨(y107), (wrap64 (x14_1 + 1)), (x102000_1), (x102001_1), qr, H', ⟨by have := HK1.out; omega⟩, ⟨qR HO109.out⟩, ⟨qk BK101.out⟩, ⟨qb⟩⟩
       ·rw [if_neg c11] at H
        exact absurd H (by simp)
      ·rw [if_neg c10] at H; have c10b0 := beq_eq_false_iff_ne.mpr c10; have c10b1 := bne_iff_ne.mpr c10; simp only [Option.some.injEq, Prod.mk.injEq] at H; obtain ⟨rfl, rfl, rfl⟩ := H; have p102 : 0 ≤ (x14_1 : Int) := of_decide_eq_true qa; have q102 : x14_1 < (l2.length : Int) := of_decide_eq_true qa; obtain ⟨ad102, e102, hx102_0, hx102_1⟩ := at_T105 HR2.out x14_1 p102 q102; cases e102; replace hx102_0 := (HB.out.cell (World.block_lt_of_cell? w _ hx102_0)).trans hx102_0; replace hx102_1 := (HB.out.cell (World.block_lt_of_cell? w _ hx102_1)).trans hx102_1; (try simp only [Go.IntWalk.toNatUp] at hx102_0); (try simp only [Go.IntWalk.toNatUp] at hx102_1); replace p102 := eq_true p102; replace q102 := eq_true q102
       try go_wp2_with (first | ((with_reducible refine gate_dst (N := 9) rfl ?_); refine box_ev (N := 9) (cs := #[.int .i64 0, .int .i64 0]) (t := 105) ?_; intro gb103 hg w18 hbox hb; have BK103 := Aside0.mk (hbox); have GW103 := Aside0.mk ((qg : w.heap.size ≤ gb103)); have GE103 := Aside0.mk ((qg : w.heap.size ≤ gb103)); have NB101_103 := Aside0.mk ((by rw [hg]; exact Nat.ne_of_lt (blk_lt (g := gb101) (o := .cells #[.int .i64 x102000_1, .int .i64 x102001_1] 41 (0, 0)) (qk BK101.out)) : gb101 ≠ gb103)); have NB103_101 := Aside0.mk ((by rw [hg]; exact Nat.ne_of_gt (blk_lt (g := gb101) (o := .cells #[.int .i64 x102000_1, .int .i64 x102001_1] 41 (0, 0)) (qk BK101.out)) : gb103 ≠ gb101)); replace HO_6 := cR HO_6 hb; replace BK101 := cK BK101 hb; replace HB := cB HB hb; clear hb hbox hg; have hnb19 := NB103_101.out; have hnc19 := NB101_103.out; have hcz20_0 : w18.cell? ⟨gb103, 0, none⟩ = some (.int .i64 0) := (blk_cell BK103.out 0).trans rfl; have hcz20_1 : w18.cell? ⟨gb103, 1, none⟩ = some (.int .i64 0) := (blk_cell BK103.out 1).trans rfl; have hfz20_0 := blk_frozen BK103.out 0; have hfz20_1 := blk_frozen BK103.out 1) | ((with_reducible refine gate_callee (f := 78) rfl ?_); refine goesL_ (some 22) rfl rfl Tryz.func78 (by kernel_rfl) rfl #[.string a0, .agg #[.int .i64 ((rd_T105 l2 x14_1).f0), .int .i64 ((rd_T105 l2 x14_1).f1)]] rfl qm ?_; (with_reducible refine (words_Text.calls a0 ((rd_T105 l2 x14_1).f0) ((rd_T105 l2 x14_1).f1) t104 _ A8.out).mono ?_); rintro e w21 ⟨rfl, hb⟩; refine ⟨_, rfl, ?_⟩; have n0_ := Aside0.mk (Kd.R_below (by refine qR ?_; exact (Kd.R_mono (Kd.R_far (p := ⟨gb103, 1, none⟩) (Kd.R_far (p := ⟨gb103, 0, none⟩) (Kd.R_types HO_6.out BK103.out (by decide)) (fun _ hk => hk.2) (.int .i64 ((rd_T105 l2 x14_1).f0))) (fun _ hk => hk.2) (.int .i64 ((rd_T105 l2 x14_1).f1))) (fun _ h_ => by first | exact h_.1 | exact ⟨trivial, h_.1⟩))) hb); have n1_ := Aside0.mk (blk_below (g := gb101) (o := .cells #[.int .i64 x102000_1, .int .i64 x102001_1] 41 (0, 0)) (by refine qk ?_; refine blk_far ?_ NB101_103.out _; refine qk ?_; refine blk_far ?_ NB101_103.out _; refine qk ?_; exact BK101.out) hb); have n2_ := Aside0.mk (blk_below (g := gb103) (o := .cells #[.int .i64 ((rd_T105 l2 x14_1).f0), .int .i64 ((rd_T105 l2 x14_1).f1)] 105 (0, 0)) (by refine qk ?_; refine blk_put (cs := #[.int .i64 ((rd_T105 l2 x14_1).f0), .int .i64 0]) ?_ 1 _ rfl; refine qk ?_; refine blk_put (cs := #[.int .i64 0, .int .i64 0]) ?_ 0 _ rfl; refine qk ?_; exact BK103.out) hb); replace HB := cB HB hb; replace HO_6 := n0_; replace BK101 := n1_; replace BK103 := n2_; clear n0_ n1_ n2_; (try clear hb); (try clear hb2); (try clear hk); (try clear hi)) | (go_at_call 57; (with_reducible refine (fixed_Int.calls t104 t105 t106 _ A9.out).mono ?_); rintro e w22 ⟨rfl, hb⟩; replace HO_6 := cR HO_6 hb; replace BK101 := cK BK101 hb; replace BK103 := cK BK103 hb; replace HB := cB HB hb; (try clear hb); (try clear hb2); (try clear hk); (try clear hi)))
       have n0_ := Aside0.mk (Kd.R_drew HO_6.out); have n1_ := Aside0.mk (blk_drew BK101.out); have n2_ := Aside0.mk (blk_drew BK103.out); have n3_ := Aside0.mk (below_drew1 HB.out); clear HO_6; clear BK101; clear BK103; clear HB; have HO_6 := n0_; have BK101 := n1_; have BK103 := n2_; have HB := n3_; clear n0_ n1_ n2_ n3_; refine start_ (n := 6) (S := fun w' => w'.cell? ⟨gb103, 0, none⟩ = some (.int .i64 ((rd_T105 l2 x14_1).f0)) ∧ w'.cell? ⟨gb103, 1, none⟩ = some (.int .i64 ((rd_T105 l2 x14_1).f1))) (ds := []) #[false, false, false, false, false, false] (by kernel_rfl) rfl rfl ⟨(blk_cell BK103.out 0).trans rfl, (blk_cell BK103.out 1).trans rfl⟩ (fun hHeld => ?_); generalize w22.drew = w23 at HO_6 BK101 BK103 HB hHeld ⊢; refine pure_ (i := 0) (N := some 28) (v := ?_) (a' := ?_) #[true, false, false, false, false, false] rfl rfl (by kernel_rfl) (fun _ _ _ h => h) (Or.inl ⟨by rfl, ?_⟩) ?_ ?_
       rotate_left
       ·intro w'
        go_simp
        with_reducible rfl
       rotate_left
       ·simp only [Act.put, List.setIfInBounds_toArray, List.set_cons_zero, List.set_cons_succ, i64_w, i32_w]
        rfl
       refine pure_ (i := 2) (N := some 30) (v := ?_) (a' := ?_) #[true, false, true, false, false, false] rfl rfl (by kernel_rfl) (fun _ _ _ h => h) (Or.inl ⟨by rfl, ?_⟩) ?_ ?_
       rotate_left
       ·intro w'
        go_simp
        with_reducible rfl
       rotate_left
       ·simp only [Act.put, List.setIfInBounds_toArray, List.set_cons_zero, List.set_cons_succ, i64_w, i32_w]
        rfl
       refine pure_ (i := 4) (N := some 6) (v := ?_) (a' := ?_) #[true, false, true, false, true, false] rfl rfl (by kernel_rfl) (fun _ _ _ h => h) (Or.inl ⟨by rfl, ?_⟩) ?_ ?_
       rotate_left
       ·intro w'
        go_simp
        with_reducible rfl
       rotate_left
       ·simp only [Act.put, List.setIfInBounds_toArray, List.set_cons_zero, List.set_cons_succ, i64_w, i32_w]
        rfl
       refine take_ (i := 1) (N := some 29) (v := ?_) (a' := ?_) #[true, true, true, false, true, false] rfl rfl (by kernel_rfl) (fun _ _ _ h => h) (Or.inl ⟨by rfl, ?_⟩) hHeld ?_ ?_
       rotate_left
       ·rintro w' ⟨s0, s1⟩
        go_simp
        with_reducible rfl
       rotate_left
       ·simp only [Act.put, List.setIfInBounds_toArray, List.set_cons_zero, List.set_cons_succ, i64_w, i32_w]
        rfl
       refine pure_ (i := 3) (N := some 31) (v := ?_) (a' := ?_) #[true, true, true, true, true, false] rfl rfl (by kernel_rfl) (fun _ _ _ h => h) (Or.inl ⟨by rfl, ?_⟩) ?_ ?_
       rotate_left
       ·intro w'
        go_simp
        with_reducible rfl
       rotate_left
       ·simp only [Act.put, List.setIfInBounds_toArray, List.set_cons_zero, List.set_cons_succ, i64_w, i32_w]
        rfl
       refine one_ (i := 5) (N := none) #[true, true, true, true, true, true] rfl rfl (by kernel_rfl) (by decide) (fun K hK => ?_); have hs24 : w23.cell? ⟨gb101, 0, none⟩ = some (.int .i64 x102000_1) := (blk_cell BK101.out 0).trans rfl; have hfs24 := blk_frozen BK101.out 0; have hns24_1 := NB103_101.out; have hms24_1 := NB101_103.out; have hs25 : w23.cell? ⟨gb101, 1, none⟩ = some (.int .i64 x102001_1) := (blk_cell BK101.out 1).trans rfl; have hfs25 := blk_frozen BK101.out 1; have hns25_1 := NB103_101.out; have hms25_1 := NB101_103.out; refine skip_ (w1 := ?_) (by rfl) rfl ?_ ?_
       rotate_left
       ·go_simp
        rfl
       refine hK.out _ _ ⟨((cell_far (p := ⟨gb101, _, none⟩) NB103_101.out _).trans (((cell_far (p := ⟨gb101, _, none⟩) NB103_101.out _).trans (hHeld.1)))), ((cell_far (p := ⟨gb101, _, none⟩) NB103_101.out _).trans (((cell_far (p := ⟨gb101, _, none⟩) NB103_101.out _).trans (hHeld.2))))⟩ (fun hHeld => ?_); clear hK K; refine done_ (by kernel_rfl) ?_
       try go_wp2
       refine bodyPost_ret (results_tc rfl _ _ gb101 41 #[.int .i64 ((rd_T105 l2 x14_1).f0), .int .i64 t106] (0, 0) _ rfl (by refine qk ?_; refine blk_put (cs := #[.int .i64 ((rd_T105 l2 x14_1).f0), .int .i64 x102001_1]) ?_ 1 _ rfl; refine qk ?_; refine blk_put (cs := #[.int .i64 x102000_1, .int .i64 x102001_1]) ?_ 0 _ rfl; refine qk ?_; exact BK101.out) Tryz.underlying41 rfl (by kernel_rfl)) rfl ?_
       exact ⟨_, qe, by first | exact Kd.R_nil _ _ _ _ _ | exact Kd.N_nil _ _ _ _ _ | exact Kd.V_nil _ _ _ _ _ | exact Kd.Q_nil _ _ _ _ _ | exact Kd.S_nil _ _ _ _ _, qb⟩
     ·rw [if_neg c7] at H
      exact absurd H (by simp)
    ·rw [if_neg c6] at H
     exact absurd H (by simp)
   ·rw [if_neg c5] at H; have c5b0 := decide_eq_false c5; clear c5; simp only [Option.some.injEq, Prod.mk.injEq] at H; obtain ⟨rfl, rfl, rfl⟩ := H
    try go_wp2
    have n0_ := Aside0.mk (Kd.R_drew HO_6.out); have n1_ := Aside0.mk (blk_drew BK101.out); have n2_ := Aside0.mk (below_drew1 HB.out); clear HO_6; clear BK101; clear HB; have HO_6 := n0_; have BK101 := n1_; have HB := n2_; clear n0_ n1_ n2_; refine start_ (n := 4) (S := fun w' => w'.cell? ⟨gb101, 0, none⟩ = some (.int .i64 x102000_1) ∧ w'.cell? ⟨gb101, 1, none⟩ = some (.int .i64 x102001_1)) (ds := [3]) #[false, false, false, false] (by kernel_rfl) rfl rfl ⟨(blk_cell BK101.out 0).trans rfl, (blk_cell BK101.out 1).trans rfl⟩ (fun hHeld => ?_); generalize wr.drew = w26 at HO_6 BK101 HB hHeld ⊢; refine pure_ (i := 0) (N := some 37) (v := ?_) (a' := ?_) #[true, false, false, false] rfl rfl (by kernel_rfl) (fun _ _ _ h => h) (Or.inl ⟨by rfl, ?_⟩) ?_ ?_
    rotate_left
    ·intro w'
     go_simp
     with_reducible rfl
    rotate_left
    ·simp only [Act.put, List.setIfInBounds_toArray, List.set_cons_zero, List.set_cons_succ, i64_w, i32_w]
     rfl
    refine pure_ (i := 2) (N := some 6) (v := ?_) (a' := ?_) #[true, false, true, false] rfl rfl (by kernel_rfl) (fun _ _ _ h => h) (Or.inl ⟨by rfl, ?_⟩) ?_ ?_
    rotate_left
    ·intro w'
     go_simp
     with_reducible rfl
    rotate_left
    ·simp only [Act.put, List.setIfInBounds_toArray, List.set_cons_zero, List.set_cons_succ, i64_w, i32_w]
     rfl
    refine take_ (i := 1) (N := some 38) (v := ?_) (a' := ?_) #[true, true, true, false] rfl rfl (by kernel_rfl) (fun _ _ _ h => h) (Or.inl ⟨by rfl, ?_⟩) hHeld ?_ ?_
    rotate_left
    ·rintro w' ⟨s0, s1⟩
     go_simp
     with_reducible rfl
    rotate_left
    ·simp only [Act.put, List.setIfInBounds_toArray, List.set_cons_zero, List.set_cons_succ, i64_w, i32_w]
     rfl
    refine last_ (i := 3) (N := none) #[true, true, true, true] rfl rfl (by kernel_rfl) (by decide) (fun K hK => ?_); have hs27 : w26.cell? ⟨gb101, 0, none⟩ = some (.int .i64 x102000_1) := (blk_cell BK101.out 0).trans rfl; have hfs27 := blk_frozen BK101.out 0; have hs28 : w26.cell? ⟨gb101, 1, none⟩ = some (.int .i64 x102001_1) := (blk_cell BK101.out 1).trans rfl; have hfs28 := blk_frozen BK101.out 1; refine skip_ (w1 := ?_) (by rfl) rfl ?_ ?_
    rotate_left
    ·go_simp
     rfl
    refine hK.out _ _ ?_; clear hK K; refine done_ (by kernel_rfl) ?_
    try go_wp2
    refine bodyPost_ret (results_tc rfl _ _ gb101 41 #[.int .i64 x102000_1, .int .i64 x102001_1] (0, 0) _ rfl (by refine qk ?_; refine blk_put (cs := #[.int .i64 x102000_1, .int .i64 x102001_1]) ?_ 1 _ rfl; refine qk ?_; refine blk_put (cs := #[.int .i64 x102000_1, .int .i64 x102001_1]) ?_ 0 _ rfl; refine qk ?_; exact BK101.out) Tryz.underlying41 rfl (by kernel_rfl)) rfl ?_
    exact ⟨_, qe, by refine qR ?_; exact Kd.R_mono (Kd.R_far (p := ⟨gb101, 1, none⟩) (Kd.R_far (p := ⟨gb101, 0, none⟩) (Kd.R_types HO_6.out BK101.out (by decide)) (fun _ hk => hk.2) (.int .i64 x102000_1)) (fun _ hk => hk.2) (.int .i64 x102001_1)) (fun _ hk => trivial), qb⟩

end Go.Proofs.YtadocbfchdendaaGreatDoor.P
namespace Go.Proofs.YtadocbfchdendaaGreatDoor.P
open Go.RowKit Go.Proofs.YtadocbfchdendaaGreatDoorW.PrintWords Go.Proofs.YtadocbfchdendaaGreatDoorW.PrintLast Go.Proofs.YtadocbfchdendaaGreatDoorW.PrintMore
attribute [local go_sem] max2_int min2_int max_two min_two max_three min_three max_four min_four   -- for this text's walks alone
set_option linter.unusedVariables false
set_option linter.unusedSimpArgs false
mutual
def sheet_Flat.l0 : Nat → ByteArray → List (S32) → Int → List Int → Int → Option (List Int × Int × Int × Int)
 | 0, _, _, _, _, _ => none
 | k + 1, x0, x1, x2, x9, x10 => if (x9.length : Int) < x2 then (if x10 = (x1.length : Int) then (some (([] : List Int), 0, (x0.size : Int), 4)) else (if 0 ≤ x10 then (if x10 < (x1.length : Int) then (if 0 ≤ (mn (wrap64 (x2 - (x9.length : Int))) (((rd_T32 x1 x10).f1).length : Int)) then (if (mn (wrap64 (x2 - (x9.length : Int))) (((rd_T32 x1 x10).f1).length : Int)) ≤ (((rd_T32 x1 x10).f1).length : Int) then ((sheet_each_int.f k x0 () (((rd_T32 x1 x10).f1).take ((mn (wrap64 (x2 - (x9.length : Int))) (((rd_T32 x1 x10).f1).length : Int)) : Int).toNat)).bind fun bt107 => (if bt107.2.2 = 0 then (sheet_Flat.j1 k x0 x1 x2 x9 x10 ((rd_T32 x1 x10).f1) (mn (wrap64 (x2 - (x9.length : Int))) (((rd_T32 x1 x10).f1).length : Int)) bt107.1 (decide ((mn (wrap64 (x2 - (x9.length : Int))) (((rd_T32 x1 x10).f1).length : Int)) < (((rd_T32 x1 x10).f1).length : Int))) bt107.2.1 bt107.2.2) else (sheet_Flat.j1 k x0 x1 x2 x9 x10 ((rd_T32 x1 x10).f1) (mn (wrap64 (x2 - (x9.length : Int))) (((rd_T32 x1 x10).f1).length : Int)) bt107.1 false bt107.2.1 bt107.2.2))) else (none)) else (none)) else (none)) else (none))) else (some (x9, x10, 0, 0))
def sheet_Flat.j1 : Nat → ByteArray → List (S32) → Int → List Int → Int → List (S105) → Int → List Int → Bool → Int → Int → Option (List Int × Int × Int × Int)
 | 0, _, _, _, _, _, _, _, _, _, _, _ => none
 | k + 1, x0, x1, x2, x9, x10, x11, x12, x13, x56, x113000, x113001 => if x56 = true then (if 0 ≤ x12 then (if x12 < (x11.length : Int) then (some (([] : List Int), 0, (rd_T105 x11 x12).f0, 3)) else (none)) else (none)) else (if x113001 = 0 then (if x9.length + x13.length < 17592186044416 then (sheet_Flat.l0 k x0 x1 x2 (x9 ++ x13) (wrap64 (x10 + 1))) else (none)) else (some (([] : List Int), 0, x113000, x113001)))
end
def sheet_Flat.f (k : Nat) (a0 : ByteArray) (l1 : List (S32)) (a2 : Int) : Option (List Int × Int × Int × Int) := sheet_Flat.l0 k a0 l1 a2 ([] : List Int) 0
theorem sheet_Flat.mono_l : ∀ k, (∀ y0 y1 y2 y3 y4, LeO (sheet_Flat.l0 k y0 y1 y2 y3 y4) (sheet_Flat.l0 (k + 1) y0 y1 y2 y3 y4)) ∧ (∀ y0 y1 y2 y3 y4 y5 y6 y7 y8 y9 y10, LeO (sheet_Flat.j1 k y0 y1 y2 y3 y4 y5 y6 y7 y8 y9 y10) (sheet_Flat.j1 (k + 1) y0 y1 y2 y3 y4 y5 y6 y7 y8 y9 y10))
 | 0 => ⟨fun _ _ _ _ _ r h => by simp [sheet_Flat.l0] at h, fun _ _ _ _ _ _ _ _ _ _ _ r h => by simp [sheet_Flat.j1] at h⟩
 | k + 1 => by
  obtain ⟨ih0, ih1⟩ := sheet_Flat.mono_l k; refine ⟨?_, ?_⟩
  ·intro y0 y1 y2 y3 y4
   unfold sheet_Flat.l0
   repeat' first
   | (with_reducible exact ih0 _ _ _ _ _)
   | (with_reducible exact ih1 _ _ _ _ _ _ _ _ _ _ _)
   | (with_reducible exact sheet_each_int.mono _ _ _ _)
   | (with_reducible exact LeO.refl _)
   | (with_reducible exact LeO.none _)
   | (with_reducible refine LeO.ite ?_ ?_)
   | (with_reducible refine LeO.bind ?_ (fun _ => ?_))
   | exact ih0 _ _ _ _ _
   | exact ih1 _ _ _ _ _ _ _ _ _ _ _
   | exact sheet_each_int.mono _ _ _ _
   | exact LeO.none _
   | refine LeO.ite ?_ ?_
   | refine LeO.bind ?_ (fun _ => ?_)
  ·intro y0 y1 y2 y3 y4 y5 y6 y7 y8 y9 y10
   unfold sheet_Flat.j1
   repeat' first
   | (with_reducible exact ih0 _ _ _ _ _)
   | (with_reducible exact ih1 _ _ _ _ _ _ _ _ _ _ _)
   | (with_reducible exact sheet_each_int.mono _ _ _ _)
   | (with_reducible exact LeO.refl _)
   | (with_reducible exact LeO.none _)
   | (with_reducible refine LeO.ite ?_ ?_)
   | (with_reducible refine LeO.bind ?_ (fun _ => ?_))
   | exact ih0 _ _ _ _ _
   | exact ih1 _ _ _ _ _ _ _ _ _ _ _
   | exact sheet_each_int.mono _ _ _ _
   | exact LeO.none _
   | refine LeO.ite ?_ ?_
   | refine LeO.bind ?_ (fun _ => ?_)
theorem sheet_Flat.mono : ∀ a0 a1 a2 k, LeO (sheet_Flat.f k a0 a1 a2) (sheet_Flat.f (k + 1) a0 a1 a2) := by
 intro a0 a1 a2 k
 obtain ⟨ih0, ih1⟩ := sheet_Flat.mono_l k; unfold sheet_Flat.f
 repeat' first
   | (with_reducible exact ih0 _ _ _ _ _)
   | (with_reducible exact ih1 _ _ _ _ _ _ _ _ _ _ _)
   | (with_reducible exact sheet_each_int.mono _ _ _ _)
   | (with_reducible exact LeO.refl _)
   | (with_reducible exact LeO.none _)
   | (with_reducible refine LeO.ite ?_ ?_)
   | (with_reducible refine LeO.bind ?_ (fun _ => ?_))
   | exact ih0 _ _ _ _ _
   | exact ih1 _ _ _ _ _ _ _ _ _ _ _
   | exact sheet_each_int.mono _ _ _ _
   | exact LeO.none _
   | refine LeO.ite ?_ ?_
   | refine LeO.bind ?_ (fun _ => ?_)
set_option maxHeartbeats 8000000 in
set_option maxRecDepth 100000 in
theorem sheet_Flat.calls (k : Nat) (a0 : ByteArray) (A1 : Option Addr) (c1 : Nat) (l1 : List (S32)) (a2 : Int) (r1 : List Int) (r2 : Int) (r3 : Int) (r4 : Int) (w : World) (hr1 : Kd.C k32 w A1 l1.length l1) (hc1 : l1.length ≤ c1) (h : sheet_Flat.f k a0 l1 a2 = some (r1, r2, r3, r4)) :
  Calls Tryz.prog 21 #[.string a0, .slice A1 l1.length c1, .int .i64 a2] w fun e w' => ∃ v0_ : Value, e = .returned (.tuple #[v0_, .int .i64 r2, .agg #[.int .i64 r3, .int .i64 r4]]) ∧ Kd.R (Kd.int .i64) 3 w' w.heap.size (fun _ => True) v0_ r1 ∧ Below w.heap.size w w' := by
 have hu41 := Tryz.underlying41; have HR1 := Aside0.mk hr1; have HC1 := Aside0.mk hc1; clear hr1 hc1; have HB := Aside0.mk (Below.refl w.heap.size w); have H : (sheet_Flat.l0 k a0 l1 a2 ([] : List Int) 0) = some (r1, r2, r3, r4) := h; clear h; have H' := Aside0.mk H; clear H; go_enter Tryz.func21, Tryz.ntmps21
 go_wp2_with (first | ((with_reducible refine gate_dst (N := 8) rfl ?_); (try (refine gate_guard (by rfl) ?_; dsimp only)); refine box_ev (N := 8) (cs := #[.int .i64 0, .int .i64 0]) (t := 41) ?_; intro gb101 hg w4 hbox hb; have BK101 := Aside0.mk (hbox); have GW101 := Aside0.mk ((qg : w.heap.size ≤ gb101)); have GE101 := Aside0.mk ((qg : w.heap.size ≤ gb101)); replace HB := cB HB hb; clear hb hbox hg))
 (try simp only [Act.put, List.setIfInBounds_toArray, List.set_cons_zero, List.set_cons_succ])
 go_loopg [9, 10] k (fun kq v9 v10 w' => ∃ (x9_1 : List Int) (x10_1 : Int) (x102000_1 : Int) (x102001_1 : Int), v10 = .int .i64 x10_1 ∧ Aside0 (sheet_Flat.l0 kq a0 l1 a2 x9_1 x10_1 = some (r1, r2, r3, r4)) ∧ Aside0 (kq ≤ k) ∧ Aside0 (Kd.R (Kd.int .i64) 3 w' w.heap.size (fun _ => True) v9 x9_1) ∧ Aside0 (w'.heap[gb101]? = some (.cells #[.int .i64 x102000_1, .int .i64 x102001_1] 41 (0, 0))) ∧ Aside0 (Below w.heap.size w w'))
 case atStart => exact ⟨(([] : List Int)), (0), (0), (0), qr, H', ⟨Nat.le_refl _⟩, ⟨by first | exact Kd.R_nil _ _ _ _ _ | exact Kd.N_nil _ _ _ _ _ | exact Kd.V_nil _ _ _ _ _ | exact Kd.Q_nil _ _ _ _ _ | exact Kd.S_nil _ _ _ _ _⟩, ⟨qk BK101.out⟩, ⟨qb⟩⟩
 case round =>
  clear H'; (try clear c1); (try clear c2); (try clear p2); obtain ⟨x9_1, x10_1, x102000_1, x102001_1, rfl, HA, HK1, HO_9, BK101, HB⟩ := hrel; cases gk with
  | zero => exact absurd HA.out (by simp [sheet_Flat.l0])
  | succ k1 =>
   have H := HA.out; clear HA; simp only [sheet_Flat.l0] at H
   by_cases c5 : (x9_1.length : Int) < a2
   ·rw [if_pos c5] at H; have c5b0 := decide_eq_true c5; clear c5
    by_cases c6 : x10_1 = (l1.length : Int)
    ·rw [if_pos c6] at H; have c6b0 := beq_iff_eq.mpr c6; have c6b1 := bne_eq_false_iff_eq.mpr c6; clear c6; simp only [Option.some.injEq, Prod.mk.injEq] at H; obtain ⟨rfl, rfl, rfl, rfl⟩ := H; obtain ⟨Ao7, co7, eo7⟩ := Kd.R_slice HO_9.out; subst eo7; obtain ⟨hcz8_0, hcz8_1, hfz8_0, hfz8_1⟩ := bc2 BK101.out
     go_wp2
     refine bodyPost_ret (results_list (rs := [.tmp 6, .tmp 7, .cell 8 41]) rfl (by simp) (.tmp (.tmp (.cell gb101 41 #[.int .i64 (a0.size : Int), .int .i64 4] (0, 0) _ rfl (by refine qk ?_; refine blk_put (cs := #[.int .i64 (a0.size : Int), .int .i64 x102001_1]) ?_ 1 _ rfl; refine qk ?_; refine blk_put (cs := #[.int .i64 x102000_1, .int .i64 x102001_1]) ?_ 0 _ rfl; refine qk ?_; exact BK101.out) Tryz.underlying41 rfl (by kernel_rfl) .nil)))) rfl ?_
     exact ⟨_, qe, by first | exact Kd.R_nil _ _ _ _ _ | exact Kd.N_nil _ _ _ _ _ | exact Kd.V_nil _ _ _ _ _ | exact Kd.Q_nil _ _ _ _ _ | exact Kd.S_nil _ _ _ _ _, qb⟩
    ·rw [if_neg c6] at H; have c6b0 := beq_eq_false_iff_ne.mpr c6; have c6b1 := bne_iff_ne.mpr c6
     by_cases c9 : 0 ≤ x10_1
     ·rw [if_pos c9] at H; have c9b0 := decide_eq_true c9; clear c9
      by_cases c10 : x10_1 < (l1.length : Int)
      ·rw [if_pos c10] at H; have c10b0 := decide_eq_true c10; clear c10; obtain ⟨ji11, hji11⟩ : ∃ j_ : Int, (mn (wrap64 (a2 - (x9_1.length : Int))) (((rd_T32 l1 x10_1).f1).length : Int)) = j_ := ⟨_, rfl⟩; replace H : (if 0 ≤ (ji11) then (if (ji11) ≤ (((rd_T32 l1 x10_1).f1).length : Int) then ((sheet_each_int.f k1 a0 () (((rd_T32 l1 x10_1).f1).take ((ji11) : Int).toNat)).bind fun bt107 => (if bt107.2.2 = 0 then (sheet_Flat.j1 k1 a0 l1 a2 x9_1 x10_1 ((rd_T32 l1 x10_1).f1) ji11 bt107.1 (decide ((ji11) < (((rd_T32 l1 x10_1).f1).length : Int))) bt107.2.1 bt107.2.2) else (sheet_Flat.j1 k1 a0 l1 a2 x9_1 x10_1 ((rd_T32 l1 x10_1).f1) ji11 bt107.1 false bt107.2.1 bt107.2.2))) else (none)) else (none)) = some (r1, r2, r3, r4) := by first | (rw [hji11] at H; exact H) | (simp only [hji11] at H ⊢; exact H)
       have hji11_ : (if (((rd_T32 l1 x10_1).f1).length : Int) < (wrap64 (a2 - (x9_1.length : Int))) then (((rd_T32 l1 x10_1).f1).length : Int) else (wrap64 (a2 - (x9_1.length : Int)))) = ji11 := hji11
       by_cases c12 : 0 ≤ (ji11)
       ·rw [if_pos c12] at H; have c12b0 := eq_true c12; have c12b1 := decide_eq_true c12; clear c12
        by_cases c13 : (ji11) ≤ (((rd_T32 l1 x10_1).f1).length : Int)
        ·rw [if_pos c13] at H; have c13b0 := eq_true c13; have c13b1 := decide_eq_true c13; clear c13; obtain ⟨y103, hy103⟩ : ∃ y_ : List (S105), y_ = (((rd_T32 l1 x10_1).f1).take ((ji11) : Int).toNat) := ⟨_, rfl⟩; replace H : ((sheet_each_int.f k1 a0 () y103).bind fun bt107 => (if bt107.2.2 = 0 then (sheet_Flat.j1 k1 a0 l1 a2 x9_1 x10_1 ((rd_T32 l1 x10_1).f1) ji11 bt107.1 (decide ((ji11) < (((rd_T32 l1 x10_1).f1).length : Int))) bt107.2.1 bt107.2.2) else (sheet_Flat.j1 k1 a0 l1 a2 x9_1 x10_1 ((rd_T32 l1 x10_1).f1) ji11 bt107.1 false bt107.2.1 bt107.2.2))) = some (r1, r2, r3, r4) := by first | (rw [hy103]; with_reducible exact H) | (have H2_ := (Option.bind_some _ _).symm.trans H; rw [hy103]; with_reducible exact H2_) | (have H2_ := (Option.bind_some _ _).symm.trans H; with_reducible exact H2_) | with_reducible exact H | (rw [hy103]; exact H) | exact H
         have Ny103 := Aside0.mk hy103; clear hy103; replace H := Option.bind_eq_some_iff.mp H; obtain ⟨⟨t107, t110, t111⟩, A140, H⟩ := H; (try dsimp only at H); have A14 := Aside0.mk A140; clear A140; have HC15 := Aside0.mk H; clear H; obtain ⟨Ao16, co16, eo16⟩ := Kd.R_slice HO_9.out; subst eo16; have p102 : 0 ≤ (x10_1 : Int) := of_decide_eq_true qa; have q102 : x10_1 < (l1.length : Int) := of_decide_eq_true qa; obtain ⟨ad102, A102_1, c102_1, e102, hx102_0, hx102_1, hl102_1, hi102_1⟩ := at_T32 HR1.out x10_1 p102 q102; cases e102; replace hx102_0 := (HB.out.cell (World.block_lt_of_cell? w _ hx102_0)).trans hx102_0; replace hx102_1 := (HB.out.cell (World.block_lt_of_cell? w _ hx102_1)).trans hx102_1; have HR102_1 := Aside0.mk hi102_1; have HC102_1 := Aside0.mk hl102_1; clear hi102_1 hl102_1; (try simp only [Go.IntWalk.toNatUp] at hx102_0); (try simp only [Go.IntWalk.toNatUp] at hx102_1); replace p102 := eq_true p102; replace q102 := eq_true q102; have q17 : ((ji11) : Int) ≤ ((((rd_T32 l1 x10_1).f1).length : Int) : Int) := of_decide_eq_true qa; obtain ⟨i017, hi017, _, hsz17, _⟩ := info_parts info105; have hroom17 : ((rd_T32 l1 x10_1).f1).length ≤ c102_1 := HC102_1.out; have hC17 : Kd.C k105 _ A102_1 ((rd_T32 l1 x10_1).f1).length ((rd_T32 l1 x10_1).f1) := HR102_1.out; have hcut17 := cut_to (P := Tryz.prog) 30 105 .i64 Tryz.underlying30 hi017 A102_1 ((rd_T32 l1 x10_1).f1).length c102_1 (ji11) (of_decide_eq_true qa) q17 hroom17; have hr17 := Kd.C_take (m := ((ji11) : Int).toNat) hC17 (by omega); have hy17 : y103.length = ((ji11) : Int).toNat := (by rw [Ny103.out, List.length_take]; omega); rw [← Ny103.out] at hr17; rw [← hy17] at hcut17; have HR106 := Aside0.mk hr17; have HC106 := Aside0.mk (show y103.length ≤ c102_1 from by omega); clear hr17 hC17 hroom17 hi017 hsz17; have KY17 := Aside0.mk hy17; clear hy17; replace q17 := eq_true q17
         go_upto_region 10 with (first | ((with_reducible refine gate_callee (f := 56) rfl ?_); refine goesL_ (some 45) rfl rfl Tryz.func56 (by kernel_rfl) rfl #[.string a0, .func (.func 57) #[] #[], .slice A102_1 y103.length c102_1] rfl qm ?_; (with_reducible refine (sheet_each_int.calls k1 a0 () _ _ y103 t107 t110 t111 _ ?side1 ?side2 A14.out).mono ?_); (case side1 => exact qC (Kd.C_below HR106.out HB.out)); (case side2 => exact HC106.out); rintro e w18 ⟨v108, rfl, ho0, hb⟩; refine ⟨_, rfl, ?_⟩; have n0_ := Aside0.mk (Kd.R_elder' (qR HO_9.out) (Kd.R_base ho0) hb); have HO109 := Aside0.mk (Kd.R_lower (Kd.R_new' ho0 (Kd.R_lt (qR HO_9.out))) (below_size qb)); replace BK101 := cK BK101 hb; replace HB := cB HB hb; replace HO_9 := n0_; clear n0_; (try clear hb); (try clear hb2); (try clear hk); (try clear hi); (try clear ho0)) | ((with_reducible refine gate_dst (N := 14) rfl ?_); (try (refine gate_guard (by rfl) ?_; dsimp only)); refine box_ev (N := 14) (cs := #[.int .i64 0, .int .i64 0]) (t := 41) ?_; intro gb112 hg w19 hbox hb; have BK112 := Aside0.mk (hbox); have GW112 := Aside0.mk ((qg : w.heap.size ≤ gb112)); have GE112 := Aside0.mk ((qg : w.heap.size ≤ gb112)); have NB101_112 := Aside0.mk ((by rw [hg]; exact Nat.ne_of_lt (blk_lt (g := gb101) (o := .cells #[.int .i64 x102000_1, .int .i64 x102001_1] 41 (0, 0)) (qk BK101.out)) : gb101 ≠ gb112)); have NB112_101 := Aside0.mk ((by rw [hg]; exact Nat.ne_of_gt (blk_lt (g := gb101) (o := .cells #[.int .i64 x102000_1, .int .i64 x102001_1] 41 (0, 0)) (qk BK101.out)) : gb112 ≠ gb101)); replace HO_9 := cR HO_9 hb; replace HO109 := cR HO109 hb; replace BK101 := cK BK101 hb; replace HB := cB HB hb; clear hb hbox hg; have hnb20 := NB112_101.out; have hnc20 := NB101_112.out; have hcz21_0 : w19.cell? ⟨gb112, 0, none⟩ = some (.int .i64 0) := (blk_cell BK112.out 0).trans rfl; have hcz21_1 : w19.cell? ⟨gb112, 1, none⟩ = some (.int .i64 0) := (blk_cell BK112.out 1).trans rfl; have hfz21_0 := blk_frozen BK112.out 0; have hfz21_1 := blk_frozen BK112.out 1))
         (try simp only [Act.put, List.setIfInBounds_toArray, List.set_cons_zero, List.set_cons_succ])
         go_cut [56] (fun v56 wc => ∃ (kq : Nat) (x56_14 : Bool), v56 = .bool x56_14 ∧ Aside0 (sheet_Flat.j1 kq a0 l1 a2 x9_1 x10_1 ((rd_T32 l1 x10_1).f1) ji11 t107 x56_14 t110 t111 = some (r1, r2, r3, r4)) ∧ Aside0 (kq ≤ k1) ∧ Aside0 (Kd.R (Kd.int .i64) 3 wc w.heap.size (fun k_ => some k_ ≠ (v108 : Value).ownBlock) (.slice Ao16 x9_1.length co16) x9_1) ∧ Aside0 (Kd.R (Kd.int .i64) 3 wc w.heap.size (fun k_ => some k_ ≠ ((.slice Ao16 x9_1.length co16) : Value).ownBlock) v108 t107) ∧ Aside0 (wc.heap[gb101]? = some (.cells #[.int .i64 x102000_1, .int .i64 x102001_1] 41 (0, 0))) ∧ Aside0 (wc.heap[gb112]? = some (.cells #[.int .i64 t110, .int .i64 t111] 41 (0, 0))) ∧ Aside0 (Below w.heap.size w wc))
         case first =>
          have H := HC15.out; clear HC15
          by_cases c22 : t111 = 0
          ·rw [if_pos c22] at H; have c22b0 := beq_iff_eq.mpr c22; have c22b1 := bne_eq_false_iff_eq.mpr c22; clear c22; (first | rw [c22b0] | (simp only [i64_w, i32_w]; rw [c22b0]) | skip); have H' := Aside0.mk H; clear H; have hnb23 := NB112_101.out; have hnc23 := NB101_112.out; obtain ⟨hcz24_0, hcz24_1, hfz24_0, hfz24_1⟩ := bc2 BK112.out
           go_wp2
           go_meet
           case rel => exact ⟨_, (decide ((ji11) < (((rd_T32 l1 x10_1).f1).length : Int))), (by first | rfl | (simp; done) | (simp only [← hji11] <;> (first | rfl | simp)) | (simp [*]; done)), H', ⟨by have := HK1.out; first | omega | exact Nat.le_refl _⟩, ⟨by refine qR ?_; exact Kd.R_mono (Kd.R_far (p := ⟨gb112, 1, none⟩) (Kd.R_far (p := ⟨gb112, 0, none⟩) (Kd.R_types HO_9.out BK112.out (by decide)) (fun _ hk => hk.2) (.int .i64 t110)) (fun _ hk => hk.2) (.int .i64 t111)) (fun _ hk => hk.1.2)⟩, ⟨by refine qR ?_; exact Kd.R_mono (Kd.R_far (p := ⟨gb112, 1, none⟩) (Kd.R_far (p := ⟨gb112, 0, none⟩) (Kd.R_types HO109.out BK112.out (by decide)) (fun _ hk => hk.2) (.int .i64 t110)) (fun _ hk => hk.2) (.int .i64 t111)) (fun _ hk => hk.1.2)⟩, ⟨by refine qk ?_; refine blk_far ?_ NB101_112.out _; refine qk ?_; refine blk_far ?_ NB101_112.out _; refine qk ?_; exact BK101.out⟩, ⟨by refine qk ?_; refine blk_put (cs := #[.int .i64 t110, .int .i64 0]) ?_ 1 _ rfl; refine qk ?_; refine blk_put (cs := #[.int .i64 0, .int .i64 0]) ?_ 0 _ rfl; refine qk ?_; exact BK112.out⟩, ⟨qb⟩⟩
          ·rw [if_neg c22] at H; have c22b0 := beq_eq_false_iff_ne.mpr c22; have c22b1 := bne_iff_ne.mpr c22; (first | rw [c22b0] | (simp only [i64_w, i32_w]; rw [c22b0]) | skip); have H' := Aside0.mk H; clear H; have hnb25 := NB112_101.out; have hnc25 := NB101_112.out; obtain ⟨hcz26_0, hcz26_1, hfz26_0, hfz26_1⟩ := bc2 BK112.out
           go_wp2
           go_meet
           case rel => exact ⟨_, (false), qr, H', ⟨by have := HK1.out; first | omega | exact Nat.le_refl _⟩, ⟨by refine qR ?_; exact Kd.R_mono (Kd.R_far (p := ⟨gb112, 1, none⟩) (Kd.R_far (p := ⟨gb112, 0, none⟩) (Kd.R_types HO_9.out BK112.out (by decide)) (fun _ hk => hk.2) (.int .i64 t110)) (fun _ hk => hk.2) (.int .i64 t111)) (fun _ hk => hk.1.2)⟩, ⟨by refine qR ?_; exact Kd.R_mono (Kd.R_far (p := ⟨gb112, 1, none⟩) (Kd.R_far (p := ⟨gb112, 0, none⟩) (Kd.R_types HO109.out BK112.out (by decide)) (fun _ hk => hk.2) (.int .i64 t110)) (fun _ hk => hk.2) (.int .i64 t111)) (fun _ hk => hk.1.2)⟩, ⟨by refine qk ?_; refine blk_far ?_ NB101_112.out _; refine qk ?_; refine blk_far ?_ NB101_112.out _; refine qk ?_; exact BK101.out⟩, ⟨by refine qk ?_; refine blk_put (cs := #[.int .i64 t110, .int .i64 0]) ?_ 1 _ rfl; refine qk ?_; refine blk_put (cs := #[.int .i64 0, .int .i64 0]) ?_ 0 _ rfl; refine qk ?_; exact BK112.out⟩, ⟨qb⟩⟩
         case rest =>
          clear HC15; (try clear c1); (try clear p1); (try clear q1); (try clear hx1); (try clear c2); (try clear p2); (try clear c5); (try clear c5b0); (try clear c6); (try clear c6b0); (try clear c6b1); (try clear p6); (try clear c9); (try clear c9b0); (try clear c10); (try clear c10b0); (try clear p10); (try clear q10); (try clear hx10); (try clear c12); (try clear c12b0); (try clear c12b1); (try clear c13); (try clear c13b0); (try clear c13b1); (try clear q17); (try clear c20); (try clear c21); (try clear c22); (try clear c22b0); (try clear c22b1); (try clear c23); (try clear c25); (try clear hcz21_0); (try clear hcz21_1); (try clear hcz24_0); (try clear hcz24_1); (try clear hcz26_0); (try clear hcz26_1); (try clear hcz8_0); (try clear hcz8_1); (try clear hfz21_0); (try clear hfz21_1); (try clear hfz24_0); (try clear hfz24_1); (try clear hfz26_0); (try clear hfz26_1); (try clear hfz8_0); (try clear hfz8_1); (try clear hx102_0); (try clear hx102_1); (try clear p102); (try clear p2); (try clear q102); (try clear q17); obtain ⟨kq, x56_14, rfl, HA, HJ14, HO_9, HO_13, BK101, BK112, HB⟩ := hcut; cases kq with
          | zero => exact absurd HA.out (by simp [sheet_Flat.j1])
          | succ kj14 =>
           have H := HA.out; clear HA; simp only [sheet_Flat.j1] at H
           by_cases c27 : x56_14 = true
           ·subst c27; have H1 : (if 0 ≤ ji11 then (if ji11 < (((rd_T32 l1 x10_1).f1).length : Int) then (some (([] : List Int), 0, (rd_T105 ((rd_T32 l1 x10_1).f1) ji11).f0, 3)) else (none)) else (none)) = some (r1, r2, r3, r4) := by rw [if_pos rfl] at H; exact H
            clear H; have H := H1; clear H1
            by_cases c28 : 0 ≤ ji11
            ·rw [if_pos c28] at H; have c28b0 := decide_eq_true c28; clear c28
             by_cases c29 : ji11 < (((rd_T32 l1 x10_1).f1).length : Int)
             ·rw [if_pos c29] at H; have c29b0 := decide_eq_true c29; clear c29; simp only [Option.some.injEq, Prod.mk.injEq] at H; obtain ⟨rfl, rfl, rfl, rfl⟩ := H; have p113 : 0 ≤ (ji11 : Int) := of_decide_eq_true qa; have q113 : ji11 < (((rd_T32 l1 x10_1).f1).length : Int) := of_decide_eq_true qa; obtain ⟨ad113, e113, hx113_0, hx113_1⟩ := at_T105 HR102_1.out ji11 p113 q113; cases e113; replace hx113_0 := (HB.out.cell (World.block_lt_of_cell? w _ hx113_0)).trans hx113_0; replace hx113_1 := (HB.out.cell (World.block_lt_of_cell? w _ hx113_1)).trans hx113_1; (try simp only [Go.IntWalk.toNatUp] at hx113_0); (try simp only [Go.IntWalk.toNatUp] at hx113_1); replace p113 := eq_true p113; replace q113 := eq_true q113; have hnb30 := NB112_101.out; have hnc30 := NB101_112.out; obtain ⟨hcz31_0, hcz31_1, hfz31_0, hfz31_1⟩ := bc2 BK112.out
              try go_wp2
              have n0_ : Aside0 (Kd.R (Kd.int .i64) 3 ((wc.setCell ⟨gb112, 0, none⟩ (.int .i64 ((rd_T105 ((rd_T32 l1 x10_1).f1) ji11).f0))).setCell ⟨gb112, 1, none⟩ (.int .i64 3)) w.heap.size (fun k_ => some k_ ≠ (v108 : Value).ownBlock) (.slice Ao16 x9_1.length co16) x9_1) := ⟨by refine qR ?_; exact Kd.R_mono (Kd.R_far (p := ⟨gb112, 1, none⟩) (Kd.R_far (p := ⟨gb112, 0, none⟩) (Kd.R_types HO_9.out BK112.out (by decide)) (fun _ hk => hk.2) (.int .i64 ((rd_T105 ((rd_T32 l1 x10_1).f1) ji11).f0))) (fun _ hk => hk.2) (.int .i64 3)) (fun _ hk => hk.1)⟩; have n1_ : Aside0 (Kd.R (Kd.int .i64) 3 ((wc.setCell ⟨gb112, 0, none⟩ (.int .i64 ((rd_T105 ((rd_T32 l1 x10_1).f1) ji11).f0))).setCell ⟨gb112, 1, none⟩ (.int .i64 3)) w.heap.size (fun k_ => some k_ ≠ (.slice Ao16 x9_1.length co16 : Value).ownBlock) v108 t107) := ⟨by refine qR ?_; exact Kd.R_mono (Kd.R_far (p := ⟨gb112, 1, none⟩) (Kd.R_far (p := ⟨gb112, 0, none⟩) (Kd.R_types HO_13.out BK112.out (by decide)) (fun _ hk => hk.2) (.int .i64 ((rd_T105 ((rd_T32 l1 x10_1).f1) ji11).f0))) (fun _ hk => hk.2) (.int .i64 3)) (fun _ hk => hk.1)⟩; have n2_ : Aside0 (((wc.setCell ⟨gb112, 0, none⟩ (.int .i64 ((rd_T105 ((rd_T32 l1 x10_1).f1) ji11).f0))).setCell ⟨gb112, 1, none⟩ (.int .i64 3)).heap[gb101]? = some (.cells #[.int .i64 x102000_1, .int .i64 x102001_1] 41 (0, 0))) := ⟨by refine qk ?_; refine blk_far ?_ NB101_112.out _; refine qk ?_; refine blk_far ?_ NB101_112.out _; refine qk ?_; exact BK101.out⟩; have n3_ : Aside0 (((wc.setCell ⟨gb112, 0, none⟩ (.int .i64 ((rd_T105 ((rd_T32 l1 x10_1).f1) ji11).f0))).setCell ⟨gb112, 1, none⟩ (.int .i64 3)).heap[gb112]? = some (.cells #[.int .i64 ((rd_T105 ((rd_T32 l1 x10_1).f1) ji11).f0), .int .i64 3] 41 (0, 0))) := ⟨by refine qk ?_; refine blk_put (cs := #[.int .i64 ((rd_T105 ((rd_T32 l1 x10_1).f1) ji11).f0), .int .i64 t111]) ?_ 1 _ rfl; refine qk ?_; refine blk_put (cs := #[.int .i64 t110, .int .i64 t111]) ?_ 0 _ rfl; refine qk ?_; exact BK112.out⟩; have n4_ : Aside0 (Below w.heap.size w ((wc.setCell ⟨gb112, 0, none⟩ (.int .i64 ((rd_T105 ((rd_T32 l1 x10_1).f1) ji11).f0))).setCell ⟨gb112, 1, none⟩ (.int .i64 3))) := ⟨qb⟩; (try clear HO_9); (try clear HO_13); (try clear BK101); (try clear BK112); (try clear HB); generalize ((wc.setCell ⟨gb112, 0, none⟩ (.int .i64 ((rd_T105 ((rd_T32 l1 x10_1).f1) ji11).f0))).setCell ⟨gb112, 1, none⟩ (.int .i64 3)) = w32 at n0_ n1_ n2_ n3_ n4_ ⊢; have HO_9 := n0_; have HO_13 := n1_; have BK101 := n2_; have BK112 := n3_; have HB := n4_; clear n0_ n1_ n2_ n3_ n4_; have n0_ := Aside0.mk (Kd.R_drew HO_9.out); have n1_ := Aside0.mk (Kd.R_drew HO_13.out); have n2_ := Aside0.mk (blk_drew BK101.out); have n3_ := Aside0.mk (blk_drew BK112.out); have n4_ := Aside0.mk (below_drew1 HB.out); clear HO_9; clear HO_13; clear BK101; clear BK112; clear HB; have HO_9 := n0_; have HO_13 := n1_; have BK101 := n2_; have BK112 := n3_; have HB := n4_; clear n0_ n1_ n2_ n3_ n4_; refine start_ (n := 4) (S := fun w' => w'.cell? ⟨gb112, 0, none⟩ = some (.int .i64 ((rd_T105 ((rd_T32 l1 x10_1).f1) ji11).f0)) ∧ w'.cell? ⟨gb112, 1, none⟩ = some (.int .i64 3)) (ds := []) #[false, false, false, false] (by kernel_rfl) rfl rfl ⟨(blk_cell BK112.out 0).trans rfl, (blk_cell BK112.out 1).trans rfl⟩ (fun hHeld => ?_)
              generalize w32.drew = w33 at HO_9 HO_13 BK101 BK112 HB hHeld ⊢; refine pure_ (i := 1) (N := some 6) (v := ?_) (a' := ?_) #[false, true, false, false] rfl rfl (by kernel_rfl) (fun _ _ _ h => h) (Or.inl ⟨by rfl, ?_⟩) ?_ ?_
              rotate_left
              ·intro w'
               go_simp
               with_reducible rfl
              rotate_left
              ·simp only [Act.put, List.setIfInBounds_toArray, List.set_cons_zero, List.set_cons_succ, i64_w, i32_w]
               rfl
              refine pure_ (i := 2) (N := some 7) (v := ?_) (a' := ?_) #[false, true, true, false] rfl rfl (by kernel_rfl) (fun _ _ _ h => h) (Or.inl ⟨by rfl, ?_⟩) ?_ ?_
              rotate_left
              ·intro w'
               go_simp
               with_reducible rfl
              rotate_left
              ·simp only [Act.put, List.setIfInBounds_toArray, List.set_cons_zero, List.set_cons_succ, i64_w, i32_w]
               rfl
              refine take_ (i := 0) (N := some 66) (v := ?_) (a' := ?_) #[true, true, true, false] rfl rfl (by kernel_rfl) (fun _ _ _ h => h) (Or.inl ⟨by rfl, ?_⟩) hHeld ?_ ?_
              rotate_left
              ·rintro w' ⟨s0, s1⟩
               go_simp
               with_reducible rfl
              rotate_left
              ·simp only [Act.put, List.setIfInBounds_toArray, List.set_cons_zero, List.set_cons_succ, i64_w, i32_w]
               rfl
              refine one_ (i := 3) (N := none) #[true, true, true, true] rfl rfl (by kernel_rfl) (by decide) (fun K hK => ?_); have hs34 : w33.cell? ⟨gb101, 0, none⟩ = some (.int .i64 x102000_1) := (blk_cell BK101.out 0).trans rfl; have hfs34 := blk_frozen BK101.out 0; have hns34_1 := NB112_101.out; have hms34_1 := NB101_112.out; have hs35 : w33.cell? ⟨gb101, 1, none⟩ = some (.int .i64 x102001_1) := (blk_cell BK101.out 1).trans rfl; have hfs35 := blk_frozen BK101.out 1; have hns35_1 := NB112_101.out; have hms35_1 := NB101_112.out; refine skip_ (w1 := ?_) (by rfl) rfl ?_ ?_
              rotate_left
              ·go_simp
               rfl
              refine hK.out _ _ ⟨((cell_far (p := ⟨gb101, _, none⟩) NB112_101.out _).trans (((cell_far (p := ⟨gb101, _, none⟩) NB112_101.out _).trans (hHeld.1)))), ((cell_far (p := ⟨gb101, _, none⟩) NB112_101.out _).trans (((cell_far (p := ⟨gb101, _, none⟩) NB112_101.out _).trans (hHeld.2))))⟩ (fun hHeld => ?_); clear hK K; refine done_ (by kernel_rfl) ?_
              try go_wp2
              refine bodyPost_ret (results_list (rs := [.tmp 6, .tmp 7, .cell 8 41]) rfl (by simp) (.tmp (.tmp (.cell gb101 41 #[.int .i64 ((rd_T105 ((rd_T32 l1 x10_1).f1) ji11).f0), .int .i64 3] (0, 0) _ rfl (by refine qk ?_; refine blk_put (cs := #[.int .i64 ((rd_T105 ((rd_T32 l1 x10_1).f1) ji11).f0), .int .i64 x102001_1]) ?_ 1 _ rfl; refine qk ?_; refine blk_put (cs := #[.int .i64 x102000_1, .int .i64 x102001_1]) ?_ 0 _ rfl; refine qk ?_; exact BK101.out) Tryz.underlying41 rfl (by kernel_rfl) .nil)))) rfl ?_
              exact ⟨_, by first | rfl | (simp [errW_none, errW_some] <;> rfl) | (simp only [← hji11]; first | rfl | (simp [errW_none, errW_some] <;> rfl)) | (simp [*, errW_none, errW_some] <;> rfl), by first | exact Kd.R_nil _ _ _ _ _ | exact Kd.N_nil _ _ _ _ _ | exact Kd.V_nil _ _ _ _ _ | exact Kd.Q_nil _ _ _ _ _ | exact Kd.S_nil _ _ _ _ _, qb⟩
             ·rw [if_neg c29] at H
              exact absurd H (by simp)
            ·rw [if_neg c28] at H
             exact absurd H (by simp)
           ·replace c27 := Bool.eq_false_iff.mpr c27; subst c27; have H1 : (if t111 = 0 then (if x9_1.length + t107.length < 17592186044416 then (sheet_Flat.l0 kj14 a0 l1 a2 (x9_1 ++ t107) (wrap64 (x10_1 + 1))) else (none)) else (some (([] : List Int), 0, t110, t111))) = some (r1, r2, r3, r4) := by rw [if_neg (show ¬ (false = true) by decide)] at H; exact H
            clear H; have H := H1; clear H1
            by_cases c36 : t111 = 0
            ·rw [if_pos c36] at H; have c36b0 := beq_iff_eq.mpr c36; have c36b1 := bne_eq_false_iff_eq.mpr c36; clear c36
             by_cases c37 : x9_1.length + t107.length < 17592186044416
             ·rw [if_pos c37] at H; have LMc37 := Aside0.mk c37; clear c37; obtain ⟨y114, hy114⟩ : ∃ y_ : List Int, y_ = (x9_1 ++ t107) := ⟨_, rfl⟩; replace H : (sheet_Flat.l0 kj14 a0 l1 a2 y114 (wrap64 (x10_1 + 1))) = some (r1, r2, r3, r4) := by first | (rw [hy114]; with_reducible exact H) | (have H2_ := (Option.bind_some _ _).symm.trans H; rw [hy114]; with_reducible exact H2_) | (have H2_ := (Option.bind_some _ _).symm.trans H; with_reducible exact H2_) | with_reducible exact H | (rw [hy114]; exact H) | exact H
              have Ny114 := Aside0.mk hy114; clear hy114; have H' := Aside0.mk H; clear H; have hnb38 := NB112_101.out; have hnc38 := NB101_112.out; obtain ⟨hcz39_0, hcz39_1, hfz39_0, hfz39_1⟩ := bc2 BK112.out; obtain ⟨Ao41, co41, eo41⟩ := Kd.R_slice HO_13.out; subst eo41
              go_wp2_with (first | ((with_reducible refine gate_builtin (b := .append) (xs := #[.tmp 67, .tmp 68]) rfl ?_); (try (refine gate_guard (by rfl) ?_; dsimp only)); at_builtin; refine Kd.R_append_rows (Kd.int .i64) (w0 := w) w.heap.size rfl (.tmp 67) (.tmp 68) 38 3 (.int .i64 0) 8 rfl Tryz.underlying38 info3 rfl (by decide) (by omega) (.slice Ao16 x9_1.length co16) x9_1 t107 _ _ _ (fun k_ => some k_ ≠ (.slice Ao41 t107.length co41 : Value).ownBlock) (fun _ => False) rfl rfl ?aO ?aR (fun _ _ h => h) (fun _ h => h.elim) ?aF ?aB ?aS ?aL ?_; (case aR => repeat (first | exact (Kd.R_reads' HO_13.out).2.2 | (with_reducible refine Kd.C_alloc ?_ _) | (with_reducible refine Kd.C_drewN ?_ _) | (with_reducible refine Kd.C_drew ?_))); (case aB => exact qb); (case aF => exact (fun k_ hk => Kd.fresh' (Kd.R_lt (qR HO_13.out)) k_ hk)); (case aO => exact (qR HO_9.out)); (case aS => exact (below_size qb)); (case aL => have := LMc37.out; omega); intro v115 w40 ho hb hg hat; rw [← Ny114.out] at ho; have n0_ := Aside0.mk (Kd.R_after (ok := (fun _ => True)) (by refine qR ?_; exact Kd.R_mono HO_13.out (fun _ hk => ⟨trivial, hk⟩)) hg hat); have n1_ := Aside0.mk (blk_grown (g := gb101) (o := .cells #[.int .i64 x102000_1, .int .i64 x102001_1] 41 (0, 0)) (qk BK101.out) hg (Kd.R_ne HO_9.out BK101.out (by decide))); have n2_ := Aside0.mk (blk_grown (g := gb112) (o := .cells #[.int .i64 t110, .int .i64 t111] 41 (0, 0)) (qk BK112.out) hg (Kd.R_ne HO_9.out BK112.out (by decide))); have n3_ := Aside0.mk (hb); have HO116 := Aside0.mk (ho); replace HO_13 := n0_; replace BK101 := n1_; replace BK112 := n2_; replace HB := n3_; clear n0_ n1_ n2_ n3_; clear HO_9; clear ho hb hg hat))
              go_roundg kj14
              case measure => have := HK1.out; have := HJ14.out; omega
              case rel => exact ⟨(y114), (wrap64 (x10_1 + 1)), (x102000_1), (x102001_1), qr, H', ⟨by have := HK1.out; have := HJ14.out; omega⟩, ⟨by refine qR ?_; exact Kd.R_mono HO116.out (fun _ hk => trivial)⟩, ⟨qk BK101.out⟩, ⟨qb⟩⟩
             ·rw [if_neg c37] at H
              exact absurd H (by simp)
            ·rw [if_neg c36] at H; have c36b0 := beq_eq_false_iff_ne.mpr c36; have c36b1 := bne_iff_ne.mpr c36; simp only [Option.some.injEq, Prod.mk.injEq] at H; obtain ⟨rfl, rfl, rfl, rfl⟩ := H; have hnb42 := NB112_101.out; have hnc42 := NB101_112.out; obtain ⟨hcz43_0, hcz43_1, hfz43_0, hfz43_1⟩ := bc2 BK112.out
             try go_wp2
             have n0_ := Aside0.mk (Kd.R_drew HO_9.out); have n1_ := Aside0.mk (Kd.R_drew HO_13.out); have n2_ := Aside0.mk (blk_drew BK101.out); have n3_ := Aside0.mk (blk_drew BK112.out); have n4_ := Aside0.mk (below_drew1 HB.out); clear HO_9; clear HO_13; clear BK101; clear BK112; clear HB; have HO_9 := n0_; have HO_13 := n1_; have BK101 := n2_; have BK112 := n3_; have HB := n4_; clear n0_ n1_ n2_ n3_ n4_; refine start_ (n := 4) (S := fun w' => w'.cell? ⟨gb112, 0, none⟩ = some (.int .i64 t110) ∧ w'.cell? ⟨gb112, 1, none⟩ = some (.int .i64 t111)) (ds := []) #[false, false, false, false] (by kernel_rfl) rfl rfl ⟨(blk_cell BK112.out 0).trans rfl, (blk_cell BK112.out 1).trans rfl⟩ (fun hHeld => ?_); generalize wc.drew = w44 at HO_9 HO_13 BK101 BK112 HB hHeld ⊢; refine pure_ (i := 1) (N := some 6) (v := ?_) (a' := ?_) #[false, true, false, false] rfl rfl (by kernel_rfl) (fun _ _ _ h => h) (Or.inl ⟨by rfl, ?_⟩) ?_ ?_
             rotate_left
             ·intro w'
              go_simp
              with_reducible rfl
             rotate_left
             ·simp only [Act.put, List.setIfInBounds_toArray, List.set_cons_zero, List.set_cons_succ, i64_w, i32_w]
              rfl
             refine pure_ (i := 2) (N := some 7) (v := ?_) (a' := ?_) #[false, true, true, false] rfl rfl (by kernel_rfl) (fun _ _ _ h => h) (Or.inl ⟨by rfl, ?_⟩) ?_ ?_
             rotate_left
             ·intro w'
              go_simp
              with_reducible rfl
             rotate_left
             ·simp only [Act.put, List.setIfInBounds_toArray, List.set_cons_zero, List.set_cons_succ, i64_w, i32_w]
              rfl
             refine take_ (i := 0) (N := some 66) (v := ?_) (a' := ?_) #[true, true, true, false] rfl rfl (by kernel_rfl) (fun _ _ _ h => h) (Or.inl ⟨by rfl, ?_⟩) hHeld ?_ ?_
             rotate_left
             ·rintro w' ⟨s0, s1⟩
              go_simp
              with_reducible rfl
             rotate_left
             ·simp only [Act.put, List.setIfInBounds_toArray, List.set_cons_zero, List.set_cons_succ, i64_w, i32_w]
              rfl
             refine one_ (i := 3) (N := none) #[true, true, true, true] rfl rfl (by kernel_rfl) (by decide) (fun K hK => ?_); have hs45 : w44.cell? ⟨gb101, 0, none⟩ = some (.int .i64 x102000_1) := (blk_cell BK101.out 0).trans rfl; have hfs45 := blk_frozen BK101.out 0; have hns45_1 := NB112_101.out; have hms45_1 := NB101_112.out; have hs46 : w44.cell? ⟨gb101, 1, none⟩ = some (.int .i64 x102001_1) := (blk_cell BK101.out 1).trans rfl; have hfs46 := blk_frozen BK101.out 1; have hns46_1 := NB112_101.out; have hms46_1 := NB101_112.out; refine skip_ (w1 := ?_) (by rfl) rfl ?_ ?_
             rotate_left
             ·go_simp
              rfl
             refine hK.out _ _ ⟨((cell_far (p := ⟨gb101, _, none⟩) NB112_101.out _).trans (((cell_far (p := ⟨gb101, _, none⟩) NB112_101.out _).trans (hHeld.1)))), ((cell_far (p := ⟨gb101, _, none⟩) NB112_101.out _).trans (((cell_far (p := ⟨gb101, _, none⟩) NB112_101.out _).trans (hHeld.2))))⟩ (fun hHeld => ?_); clear hK K; refine done_ (by kernel_rfl) ?_
             try go_wp2
             refine bodyPost_ret (results_list (rs := [.tmp 6, .tmp 7, .cell 8 41]) rfl (by simp) (.tmp (.tmp (.cell gb101 41 #[.int .i64 t110, .int .i64 t111] (0, 0) _ rfl (by refine qk ?_; refine blk_put (cs := #[.int .i64 t110, .int .i64 x102001_1]) ?_ 1 _ rfl; refine qk ?_; refine blk_put (cs := #[.int .i64 x102000_1, .int .i64 x102001_1]) ?_ 0 _ rfl; refine qk ?_; exact BK101.out) Tryz.underlying41 rfl (by kernel_rfl) .nil)))) rfl ?_
             exact ⟨_, by first | rfl | (simp [errW_none, errW_some] <;> rfl) | (simp only [← hji11]; first | rfl | (simp [errW_none, errW_some] <;> rfl)) | (simp [*, errW_none, errW_some] <;> rfl), by first | exact Kd.R_nil _ _ _ _ _ | exact Kd.N_nil _ _ _ _ _ | exact Kd.V_nil _ _ _ _ _ | exact Kd.Q_nil _ _ _ _ _ | exact Kd.S_nil _ _ _ _ _, qb⟩
        ·rw [if_neg c13] at H
         exact absurd H (by simp)
       ·rw [if_neg c12] at H
        exact absurd H (by simp)
      ·rw [if_neg c10] at H
       exact absurd H (by simp)
     ·rw [if_neg c9] at H
      exact absurd H (by simp)
   ·rw [if_neg c5] at H; have c5b0 := decide_eq_false c5; clear c5; simp only [Option.some.injEq, Prod.mk.injEq] at H; obtain ⟨rfl, rfl, rfl, rfl⟩ := H; obtain ⟨Ao47, co47, eo47⟩ := Kd.R_slice HO_9.out; subst eo47; obtain ⟨hcz48_0, hcz48_1, hfz48_0, hfz48_1⟩ := bc2 BK101.out
    go_wp2
    refine bodyPost_ret (results_list (rs := [.tmp 6, .tmp 7, .cell 8 41]) rfl (by simp) (.tmp (.tmp (.cell gb101 41 #[.int .i64 0, .int .i64 0] (0, 0) _ rfl (by refine qk ?_; refine blk_put (cs := #[.int .i64 0, .int .i64 x102001_1]) ?_ 1 _ rfl; refine qk ?_; refine blk_put (cs := #[.int .i64 x102000_1, .int .i64 x102001_1]) ?_ 0 _ rfl; refine qk ?_; exact BK101.out) Tryz.underlying41 rfl (by kernel_rfl) .nil)))) rfl ?_
    exact ⟨_, qe, by refine qR ?_; exact Kd.R_mono (Kd.R_far (p := ⟨gb101, 1, none⟩) (Kd.R_far (p := ⟨gb101, 0, none⟩) (Kd.R_types HO_9.out BK101.out (by decide)) (fun _ hk => hk.2) (.int .i64 0)) (fun _ hk => hk.2) (.int .i64 0)) (fun _ hk => trivial), qb⟩

end Go.Proofs.YtadocbfchdendaaGreatDoor.P
namespace Go.Proofs.YtadocbfchdendaaGreatDoor.P
open Go.RowKit Go.Proofs.YtadocbfchdendaaGreatDoorW.PrintWords Go.Proofs.YtadocbfchdendaaGreatDoorW.PrintLast Go.Proofs.YtadocbfchdendaaGreatDoorW.PrintMore
attribute [local go_sem] max2_int min2_int max_two min_two max_three min_three max_four min_four   -- for this text's walks alone
set_option linter.unusedVariables false
set_option linter.unusedSimpArgs false
def fixed_tens.l0 : Nat → Int → Int → Int → Option (Int)
 | 0, _, _, _ => none
 | k + 1, x3, x4, x5 => if x5 < x4 then (fixed_tens.l0 k (wrap64 (x3 * 10)) x4 (wrap64 (x5 + 1))) else (some x3)
def fixed_tens.f (k : Nat) (a0 : Int) : Option (Int) := fixed_tens.l0 k 1 a0 0
theorem fixed_tens.mono_l : ∀ k, (∀ y0 y1 y2, LeO (fixed_tens.l0 k y0 y1 y2) (fixed_tens.l0 (k + 1) y0 y1 y2))
 | 0 => fun _ _ _ r h => by simp [fixed_tens.l0] at h
 | k + 1 => by
  have ih0 := fixed_tens.mono_l k
  ·intro y0 y1 y2
   unfold fixed_tens.l0
   repeat' first
   | (with_reducible exact ih0 _ _ _)
   | (with_reducible exact LeO.refl _)
   | (with_reducible exact LeO.none _)
   | (with_reducible refine LeO.ite ?_ ?_)
   | (with_reducible refine LeO.bind ?_ (fun _ => ?_))
   | exact ih0 _ _ _
   | exact LeO.none _
   | refine LeO.ite ?_ ?_
   | refine LeO.bind ?_ (fun _ => ?_)
theorem fixed_tens.mono : ∀ a0 k, LeO (fixed_tens.f k a0) (fixed_tens.f (k + 1) a0) := by
 intro a0 k
 have ih0 := fixed_tens.mono_l k; unfold fixed_tens.f
 repeat' first
   | (with_reducible exact ih0 _ _ _)
   | (with_reducible exact LeO.refl _)
   | (with_reducible exact LeO.none _)
   | (with_reducible refine LeO.ite ?_ ?_)
   | (with_reducible refine LeO.bind ?_ (fun _ => ?_))
   | exact ih0 _ _ _
   | exact LeO.none _
   | refine LeO.ite ?_ ?_
   | refine LeO.bind ?_ (fun _ => ?_)
set_option maxHeartbeats 8000000 in
set_option maxRecDepth 100000 in
theorem fixed_tens.calls (k : Nat) (a0 : Int) (r : Int) (w : World) (h : fixed_tens.f k a0 = some r) :
  Calls Tryz.prog 105 #[.int .i64 a0] w fun e w' => e = .returned (.int .i64 r) ∧ Drawn0 w w' := by
 have H : (fixed_tens.l0 k 1 a0 0) = some r := h; clear h; have H' := Aside0.mk H; clear H; go_enter Tryz.func105, Tryz.ntmps105
 go_wp2
 (try simp only [Act.put, List.setIfInBounds_toArray, List.set_cons_zero, List.set_cons_succ])
 go_loopg [3, 5] k (fun kq v3 v5 w' => ∃ (x3_1 : Int) (x5_1 : Int), v3 = .int .i64 x3_1 ∧ v5 = .int .i64 x5_1 ∧ Aside0 (fixed_tens.l0 kq x3_1 a0 x5_1 = some r) ∧ Aside0 (kq ≤ k) ∧ Drawn0 w w')
 case atStart => exact ⟨(1), (0), qr, qr, H', ⟨Nat.le_refl _⟩, qd⟩
 case round =>
  clear H'; (try clear c1); obtain ⟨x3_1, x5_1, rfl, rfl, HA, HK1, ⟨m1, rfl⟩⟩ := hrel; cases gk with
  | zero => exact absurd HA.out (by simp [fixed_tens.l0])
  | succ k1 =>
   have H := HA.out; clear HA; simp only [fixed_tens.l0] at H
   by_cases c2 : x5_1 < a0
   ·rw [if_pos c2] at H; have c2b0 := decide_eq_true c2; clear c2; have H' := Aside0.mk H; clear H
    go_wp2
    go_roundg k1
    case measure => have := HK1.out; omega
    case rel => exact ⟨(wrap64 (x3_1 * 10)), (wrap64 (x5_1 + 1)), qr, qr, H', ⟨by have := HK1.out; omega⟩, qd⟩
   ·rw [if_neg c2] at H; have c2b0 := decide_eq_false c2; clear c2; obtain rfl := Option.some.inj H
    go_wp2
    go_ret
    exact ⟨qr, qd⟩

end Go.Proofs.YtadocbfchdendaaGreatDoor.P
namespace Go.Proofs.YtadocbfchdendaaGreatDoor.P
open Go.RowKit Go.Proofs.YtadocbfchdendaaGreatDoorW.PrintWords Go.Proofs.YtadocbfchdendaaGreatDoorW.PrintLast Go.Proofs.YtadocbfchdendaaGreatDoorW.PrintMore
attribute [local go_sem] max2_int min2_int max_two min_two max_three min_three max_four min_four   -- for this text's walks alone
set_option linter.unusedVariables false
set_option linter.unusedSimpArgs false
def fixed_To.j0 : Nat → Int → Bool → Int → Int → Option (Int × Int)
 | 0, _, _, _, _ => none
 | k + 1, x1, x13, x102000, x102001 => if x13 = true then (some (0, 1)) else ((fixed_tens.f k (wrap64 (6 - x102001))).bind fun t102 => ((fixed_tens.f k (wrap64 (6 - x1))).bind fun t103 => (if t103 = 0 then (none) else (if (Int.tmod (wrap64 (x102000 * t102)) t103) = 0 then ((fixed_fits.f (wrap64 (Int.tdiv (wrap64 (x102000 * t102)) t103))).bind fun t104 => (if t104 = true then (some (wrap64 (Int.tdiv (wrap64 (x102000 * t102)) t103), 0)) else (some (0, 2)))) else (some (0, 21))))))
def fixed_To.f (k : Nat) (a0_0 : Int) (a0_1 : Int) (a1 : Int) : Option (Int × Int) := if a1 < 0 then (fixed_To.j0 k a1 true a0_0 a0_1) else (fixed_To.j0 k a1 (decide (a1 > 6)) a0_0 a0_1)
theorem fixed_To.mono_l : ∀ k, (∀ y0 y1 y2 y3, LeO (fixed_To.j0 k y0 y1 y2 y3) (fixed_To.j0 (k + 1) y0 y1 y2 y3))
 | 0 => fun _ _ _ _ r h => by simp [fixed_To.j0] at h
 | k + 1 => by
  have ih0 := fixed_To.mono_l k
  ·intro y0 y1 y2 y3
   unfold fixed_To.j0
   repeat' first
   | (with_reducible exact ih0 _ _ _ _)
   | (with_reducible exact fixed_tens.mono _ _)
   | (with_reducible exact LeO.refl _)
   | (with_reducible exact LeO.none _)
   | (with_reducible refine LeO.ite ?_ ?_)
   | (with_reducible refine LeO.bind ?_ (fun _ => ?_))
   | exact ih0 _ _ _ _
   | exact fixed_tens.mono _ _
   | exact LeO.none _
   | refine LeO.ite ?_ ?_
   | refine LeO.bind ?_ (fun _ => ?_)
theorem fixed_To.mono : ∀ a0 a1 a2 k, LeO (fixed_To.f k a0 a1 a2) (fixed_To.f (k + 1) a0 a1 a2) := by
 intro a0 a1 a2 k
 have ih0 := fixed_To.mono_l k; unfold fixed_To.f
 repeat' first
   | (with_reducible exact ih0 _ _ _ _)
   | (with_reducible exact fixed_tens.mono _ _)
   | (with_reducible exact LeO.refl _)
   | (with_reducible exact LeO.none _)
   | (with_reducible refine LeO.ite ?_ ?_)
   | (with_reducible refine LeO.bind ?_ (fun _ => ?_))
   | exact ih0 _ _ _ _
   | exact fixed_tens.mono _ _
   | exact LeO.none _
   | refine LeO.ite ?_ ?_
   | refine LeO.bind ?_ (fun _ => ?_)
set_option maxHeartbeats 8000000 in
set_option maxRecDepth 100000 in
theorem fixed_To.calls (k : Nat) (a0_0 : Int) (a0_1 : Int) (a1 : Int) (r1 : Int) (r2 : Int) (w : World) (h : fixed_To.f k a0_0 a0_1 a1 = some (r1, r2)) :
  Calls Tryz.prog 59 #[.agg #[.int .i64 a0_0, .int .i64 a0_1], .int .i64 a1] w fun e w' => e = .returned (.tuple #[.int .i64 r1, .int .i64 r2]) ∧ Below w.heap.size w w' := by
 have hu50 := Tryz.underlying50; have HB := Aside0.mk (Below.refl w.heap.size w); have H : (if a1 < 0 then (fixed_To.j0 k a1 true a0_0 a0_1) else (fixed_To.j0 k a1 (decide (a1 > 6)) a0_0 a0_1)) = some (r1, r2) := h; clear h; have HC3 := Aside0.mk H; clear H; go_enter Tryz.func59, Tryz.ntmps59
 go_upto_region 1 with (first | ((with_reducible refine gate_dst (N := 2) rfl ?_); refine box_ev (N := 2) (cs := #[.int .i64 a0_0, .int .i64 a0_1]) (t := 50) ?_; intro gb101 hg w4 hbox hb; have BK101 := Aside0.mk (hbox); have GW101 := Aside0.mk ((qg : w.heap.size ≤ gb101)); have GE101 := Aside0.mk ((qg : w.heap.size ≤ gb101)); replace HB := cB HB hb; clear hb hbox hg))
 repeat (go_quiet (first | ((with_reducible refine gate_dst (N := 2) rfl ?_); refine box_ev (N := 2) (cs := #[.int .i64 a0_0, .int .i64 a0_1]) (t := 50) ?_; intro gb101 hg w4 hbox hb; have BK101 := Aside0.mk (hbox); have GW101 := Aside0.mk ((qg : w.heap.size ≤ gb101)); have GE101 := Aside0.mk ((qg : w.heap.size ≤ gb101)); replace HB := cB HB hb; clear hb hbox hg)); go_upto_region 1 with (first | ((with_reducible refine gate_dst (N := 2) rfl ?_); refine box_ev (N := 2) (cs := #[.int .i64 a0_0, .int .i64 a0_1]) (t := 50) ?_; intro gb101 hg w4 hbox hb; have BK101 := Aside0.mk (hbox); have GW101 := Aside0.mk ((qg : w.heap.size ≤ gb101)); have GE101 := Aside0.mk ((qg : w.heap.size ≤ gb101)); replace HB := cB HB hb; clear hb hbox hg)))
 (try simp only [Act.put, List.setIfInBounds_toArray, List.set_cons_zero, List.set_cons_succ])
 go_cut [13] (fun v13 wc => ∃ (kq : Nat) (x13_2 : Bool), v13 = .bool x13_2 ∧ Aside0 (fixed_To.j0 kq a1 x13_2 a0_0 a0_1 = some (r1, r2)) ∧ Aside0 (kq ≤ k) ∧ Aside0 (wc.heap[gb101]? = some (.cells #[.int .i64 a0_0, .int .i64 a0_1] 50 (0, 0))) ∧ Aside0 (Below w.heap.size w wc))
 case first =>
  have H := HC3.out; clear HC3
  by_cases c5 : a1 < 0
  ·rw [if_pos c5] at H; have c5b0 := decide_eq_true c5; clear c5; (first | rw [c5b0] | (simp only [i64_w, i32_w]; rw [c5b0]) | skip); have H' := Aside0.mk H; clear H
   go_wp2
   repeat (go_quiet (fail); try go_wp2)
   go_meet
   case rel => exact ⟨_, (true), qr, H', ⟨by first | omega | exact Nat.le_refl _⟩, ⟨qk BK101.out⟩, ⟨qb⟩⟩
  ·rw [if_neg c5] at H; have c5b0 := decide_eq_false c5; clear c5; (first | rw [c5b0] | (simp only [i64_w, i32_w]; rw [c5b0]) | skip); have H' := Aside0.mk H; clear H
   go_wp2
   repeat (go_quiet (fail); try go_wp2)
   go_meet
   case rel => exact ⟨_, (decide (a1 > 6)), qr, H', ⟨by first | omega | exact Nat.le_refl _⟩, ⟨qk BK101.out⟩, ⟨qb⟩⟩
 case rest =>
  clear HC3; (try clear p2); (try clear c5); (try clear c5b0); obtain ⟨kq, x13_2, rfl, HA, HJ2, BK101, HB⟩ := hcut; cases kq with
  | zero => exact absurd HA.out (by simp [fixed_To.j0])
  | succ kj2 =>
   have H := HA.out; clear HA; simp only [fixed_To.j0] at H
   by_cases c6 : x13_2 = true
   ·subst c6; have H1 : (some (0, 1)) = some (r1, r2) := by rw [if_pos rfl] at H; exact H
    clear H; have H := H1; clear H1; simp only [Option.some.injEq, Prod.mk.injEq] at H; obtain ⟨rfl, rfl⟩ := H
    go_wp2
    repeat (go_quiet (fail); try go_wp2)
    go_ret2
    exact ⟨qe, qb⟩
   ·replace c6 := Bool.eq_false_iff.mpr c6; subst c6; have H1 : ((fixed_tens.f kj2 (wrap64 (6 - a0_1))).bind fun t102 => ((fixed_tens.f kj2 (wrap64 (6 - a1))).bind fun t103 => (if t103 = 0 then (none) else (if (Int.tmod (wrap64 (a0_0 * t102)) t103) = 0 then ((fixed_fits.f (wrap64 (Int.tdiv (wrap64 (a0_0 * t102)) t103))).bind fun t104 => (if t104 = true then (some (wrap64 (Int.tdiv (wrap64 (a0_0 * t102)) t103), 0)) else (some (0, 2)))) else (some (0, 21)))))) = some (r1, r2) := by rw [if_neg (show ¬ (false = true) by decide)] at H; exact H
    clear H; have H := H1; clear H1; replace H := Option.bind_eq_some_iff.mp H; obtain ⟨t102, A70, H⟩ := H; (try dsimp only at H); have A7 := Aside0.mk A70; clear A70; replace H := Option.bind_eq_some_iff.mp H; obtain ⟨t103, A80, H⟩ := H; (try dsimp only at H); have A8 := Aside0.mk A80; clear A80
    by_cases c9 : t103 = 0
    ·rw [if_pos c9] at H
     exact absurd H (by simp)
    ·rw [if_neg c9] at H; have c9b0 := beq_eq_false_iff_ne.mpr c9; have c9b1 := bne_iff_ne.mpr c9
     by_cases c10 : (Int.tmod (wrap64 (a0_0 * t102)) t103) = 0
     ·rw [if_pos c10] at H; have c10b0 := beq_iff_eq.mpr c10; have c10b1 := bne_eq_false_iff_eq.mpr c10; clear c10; replace H := Option.bind_eq_some_iff.mp H; obtain ⟨t104, A110, H⟩ := H; (try dsimp only at H); have A11 := Aside0.mk A110; clear A110
      by_cases c12 : t104 = true
      ·subst c12; have H1 : (some (wrap64 (Int.tdiv (wrap64 (a0_0 * t102)) t103), 0)) = some (r1, r2) := by rw [if_pos rfl] at H; exact H
       clear H; have H := H1; clear H1; simp only [Option.some.injEq, Prod.mk.injEq] at H; obtain ⟨rfl, rfl⟩ := H; obtain ⟨hcz13_0, hcz13_1, hfz13_0, hfz13_1⟩ := bc2 BK101.out
       go_wp2_with (first | (go_at_call 105; (with_reducible refine (fixed_tens.calls kj2 (wrap64 (6 - a0_1)) t102 _ A7.out).mono ?_); rintro e w' ⟨rfl, ⟨nd, rfl⟩⟩; (try first | exact ⟨rfl, _, World.drewN_drewN _ _ _⟩ | exact ⟨rfl, _, Eq.trans (World.drewN_drewN _ _ _) (congrArg (World.drewN _) (Nat.add_assoc _ _ _))⟩)) | (go_at_call 105; (with_reducible refine (fixed_tens.calls kj2 (wrap64 (6 - a1)) t103 _ A8.out).mono ?_); rintro e w' ⟨rfl, ⟨nd, rfl⟩⟩; (try first | exact ⟨rfl, _, World.drewN_drewN _ _ _⟩ | exact ⟨rfl, _, Eq.trans (World.drewN_drewN _ _ _) (congrArg (World.drewN _) (Nat.add_assoc _ _ _))⟩)) | (go_at_call 103; (with_reducible refine (fixed_fits.calls (wrap64 (Int.tdiv (wrap64 (a0_0 * t102)) t103)) true _ A11.out).mono ?_); rintro e w' ⟨rfl, ⟨nd, rfl⟩⟩; (try first | exact ⟨rfl, _, World.drewN_drewN _ _ _⟩ | exact ⟨rfl, _, Eq.trans (World.drewN_drewN _ _ _) (congrArg (World.drewN _) (Nat.add_assoc _ _ _))⟩)))
       repeat (go_quiet (first | (go_at_call 105; (try simp only [Go.IntWalk.i64_left]); (with_reducible refine (fixed_tens.calls kj2 (wrap64 (6 - a0_1)) t102 _ A7.out).mono ?_); rintro e w' ⟨rfl, ⟨nd, rfl⟩⟩; (try first | exact ⟨rfl, _, World.drewN_drewN _ _ _⟩ | exact ⟨rfl, _, Eq.trans (World.drewN_drewN _ _ _) (congrArg (World.drewN _) (Nat.add_assoc _ _ _))⟩)) | (go_at_call 105; (try simp only [Go.IntWalk.i64_left]); (with_reducible refine (fixed_tens.calls kj2 (wrap64 (6 - a1)) t103 _ A8.out).mono ?_); rintro e w' ⟨rfl, ⟨nd, rfl⟩⟩; (try first | exact ⟨rfl, _, World.drewN_drewN _ _ _⟩ | exact ⟨rfl, _, Eq.trans (World.drewN_drewN _ _ _) (congrArg (World.drewN _) (Nat.add_assoc _ _ _))⟩)) | (go_at_call 103; (try simp only [Go.IntWalk.i64_left]); (with_reducible refine (fixed_fits.calls (wrap64 (Int.tdiv (wrap64 (a0_0 * t102)) t103)) true _ A11.out).mono ?_); rintro e w' ⟨rfl, ⟨nd, rfl⟩⟩; (try first | exact ⟨rfl, _, World.drewN_drewN _ _ _⟩ | exact ⟨rfl, _, Eq.trans (World.drewN_drewN _ _ _) (congrArg (World.drewN _) (Nat.add_assoc _ _ _))⟩))); (try simp only [Go.IntWalk.i64_left]); try go_wp2_with (first | (go_at_call 105; (try simp only [Go.IntWalk.i64_left]); (with_reducible refine (fixed_tens.calls kj2 (wrap64 (6 - a0_1)) t102 _ A7.out).mono ?_); rintro e w' ⟨rfl, ⟨nd, rfl⟩⟩; (try first | exact ⟨rfl, _, World.drewN_drewN _ _ _⟩ | exact ⟨rfl, _, Eq.trans (World.drewN_drewN _ _ _) (congrArg (World.drewN _) (Nat.add_assoc _ _ _))⟩)) | (go_at_call 105; (try simp only [Go.IntWalk.i64_left]); (with_reducible refine (fixed_tens.calls kj2 (wrap64 (6 - a1)) t103 _ A8.out).mono ?_); rintro e w' ⟨rfl, ⟨nd, rfl⟩⟩; (try first | exact ⟨rfl, _, World.drewN_drewN _ _ _⟩ | exact ⟨rfl, _, Eq.trans (World.drewN_drewN _ _ _) (congrArg (World.drewN _) (Nat.add_assoc _ _ _))⟩)) | (go_at_call 103; (try simp only [Go.IntWalk.i64_left]); (with_reducible refine (fixed_fits.calls (wrap64 (Int.tdiv (wrap64 (a0_0 * t102)) t103)) true _ A11.out).mono ?_); rintro e w' ⟨rfl, ⟨nd, rfl⟩⟩; (try first | exact ⟨rfl, _, World.drewN_drewN _ _ _⟩ | exact ⟨rfl, _, Eq.trans (World.drewN_drewN _ _ _) (congrArg (World.drewN _) (Nat.add_assoc _ _ _))⟩))))
       go_ret2
       exact ⟨qe, qb⟩
      ·replace c12 := Bool.eq_false_iff.mpr c12; subst c12; have H1 : (some (0, 2)) = some (r1, r2) := by rw [if_neg (show ¬ (false = true) by decide)] at H; exact H
       clear H; have H := H1; clear H1; simp only [Option.some.injEq, Prod.mk.injEq] at H; obtain ⟨rfl, rfl⟩ := H; obtain ⟨hcz14_0, hcz14_1, hfz14_0, hfz14_1⟩ := bc2 BK101.out
       go_wp2_with (first | (go_at_call 105; (with_reducible refine (fixed_tens.calls kj2 (wrap64 (6 - a0_1)) t102 _ A7.out).mono ?_); rintro e w' ⟨rfl, ⟨nd, rfl⟩⟩; (try first | exact ⟨rfl, _, World.drewN_drewN _ _ _⟩ | exact ⟨rfl, _, Eq.trans (World.drewN_drewN _ _ _) (congrArg (World.drewN _) (Nat.add_assoc _ _ _))⟩)) | (go_at_call 105; (with_reducible refine (fixed_tens.calls kj2 (wrap64 (6 - a1)) t103 _ A8.out).mono ?_); rintro e w' ⟨rfl, ⟨nd, rfl⟩⟩; (try first | exact ⟨rfl, _, World.drewN_drewN _ _ _⟩ | exact ⟨rfl, _, Eq.trans (World.drewN_drewN _ _ _) (congrArg (World.drewN _) (Nat.add_assoc _ _ _))⟩)) | (go_at_call 103; (with_reducible refine (fixed_fits.calls (wrap64 (Int.tdiv (wrap64 (a0_0 * t102)) t103)) false _ A11.out).mono ?_); rintro e w' ⟨rfl, ⟨nd, rfl⟩⟩; (try first | exact ⟨rfl, _, World.drewN_drewN _ _ _⟩ | exact ⟨rfl, _, Eq.trans (World.drewN_drewN _ _ _) (congrArg (World.drewN _) (Nat.add_assoc _ _ _))⟩)))
       repeat (go_quiet (first | (go_at_call 105; (try simp only [Go.IntWalk.i64_left]); (with_reducible refine (fixed_tens.calls kj2 (wrap64 (6 - a0_1)) t102 _ A7.out).mono ?_); rintro e w' ⟨rfl, ⟨nd, rfl⟩⟩; (try first | exact ⟨rfl, _, World.drewN_drewN _ _ _⟩ | exact ⟨rfl, _, Eq.trans (World.drewN_drewN _ _ _) (congrArg (World.drewN _) (Nat.add_assoc _ _ _))⟩)) | (go_at_call 105; (try simp only [Go.IntWalk.i64_left]); (with_reducible refine (fixed_tens.calls kj2 (wrap64 (6 - a1)) t103 _ A8.out).mono ?_); rintro e w' ⟨rfl, ⟨nd, rfl⟩⟩; (try first | exact ⟨rfl, _, World.drewN_drewN _ _ _⟩ | exact ⟨rfl, _, Eq.trans (World.drewN_drewN _ _ _) (congrArg (World.drewN _) (Nat.add_assoc _ _ _))⟩)) | (go_at_call 103; (try simp only [Go.IntWalk.i64_left]); (with_reducible refine (fixed_fits.calls (wrap64 (Int.tdiv (wrap64 (a0_0 * t102)) t103)) false _ A11.out).mono ?_); rintro e w' ⟨rfl, ⟨nd, rfl⟩⟩; (try first | exact ⟨rfl, _, World.drewN_drewN _ _ _⟩ | exact ⟨rfl, _, Eq.trans (World.drewN_drewN _ _ _) (congrArg (World.drewN _) (Nat.add_assoc _ _ _))⟩))); (try simp only [Go.IntWalk.i64_left]); try go_wp2_with (first | (go_at_call 105; (try simp only [Go.IntWalk.i64_left]); (with_reducible refine (fixed_tens.calls kj2 (wrap64 (6 - a0_1)) t102 _ A7.out).mono ?_); rintro e w' ⟨rfl, ⟨nd, rfl⟩⟩; (try first | exact ⟨rfl, _, World.drewN_drewN _ _ _⟩ | exact ⟨rfl, _, Eq.trans (World.drewN_drewN _ _ _) (congrArg (World.drewN _) (Nat.add_assoc _ _ _))⟩)) | (go_at_call 105; (try simp only [Go.IntWalk.i64_left]); (with_reducible refine (fixed_tens.calls kj2 (wrap64 (6 - a1)) t103 _ A8.out).mono ?_); rintro e w' ⟨rfl, ⟨nd, rfl⟩⟩; (try first | exact ⟨rfl, _, World.drewN_drewN _ _ _⟩ | exact ⟨rfl, _, Eq.trans (World.drewN_drewN _ _ _) (congrArg (World.drewN _) (Nat.add_assoc _ _ _))⟩)) | (go_at_call 103; (try simp only [Go.IntWalk.i64_left]); (with_reducible refine (fixed_fits.calls (wrap64 (Int.tdiv (wrap64 (a0_0 * t102)) t103)) false _ A11.out).mono ?_); rintro e w' ⟨rfl, ⟨nd, rfl⟩⟩; (try first | exact ⟨rfl, _, World.drewN_drewN _ _ _⟩ | exact ⟨rfl, _, Eq.trans (World.drewN_drewN _ _ _) (congrArg (World.drewN _) (Nat.add_assoc _ _ _))⟩))))
       go_ret2
       exact ⟨qe, qb⟩
     ·rw [if_neg c10] at H; have c10b0 := beq_eq_false_iff_ne.mpr c10; have c10b1 := bne_iff_ne.mpr c10; simp only [Option.some.injEq, Prod.mk.injEq] at H; obtain ⟨rfl, rfl⟩ := H; obtain ⟨hcz15_0, hcz15_1, hfz15_0, hfz15_1⟩ := bc2 BK101.out
      go_wp2_with (first | (go_at_call 105; (with_reducible refine (fixed_tens.calls kj2 (wrap64 (6 - a0_1)) t102 _ A7.out).mono ?_); rintro e w' ⟨rfl, ⟨nd, rfl⟩⟩; (try first | exact ⟨rfl, _, World.drewN_drewN _ _ _⟩ | exact ⟨rfl, _, Eq.trans (World.drewN_drewN _ _ _) (congrArg (World.drewN _) (Nat.add_assoc _ _ _))⟩)) | (go_at_call 105; (with_reducible refine (fixed_tens.calls kj2 (wrap64 (6 - a1)) t103 _ A8.out).mono ?_); rintro e w' ⟨rfl, ⟨nd, rfl⟩⟩; (try first | exact ⟨rfl, _, World.drewN_drewN _ _ _⟩ | exact ⟨rfl, _, Eq.trans (World.drewN_drewN _ _ _) (congrArg (World.drewN _) (Nat.add_assoc _ _ _))⟩)))
      repeat (go_quiet (first | (go_at_call 105; (try simp only [Go.IntWalk.i64_left]); (with_reducible refine (fixed_tens.calls kj2 (wrap64 (6 - a0_1)) t102 _ A7.out).mono ?_); rintro e w' ⟨rfl, ⟨nd, rfl⟩⟩; (try first | exact ⟨rfl, _, World.drewN_drewN _ _ _⟩ | exact ⟨rfl, _, Eq.trans (World.drewN_drewN _ _ _) (congrArg (World.drewN _) (Nat.add_assoc _ _ _))⟩)) | (go_at_call 105; (try simp only [Go.IntWalk.i64_left]); (with_reducible refine (fixed_tens.calls kj2 (wrap64 (6 - a1)) t103 _ A8.out).mono ?_); rintro e w' ⟨rfl, ⟨nd, rfl⟩⟩; (try first | exact ⟨rfl, _, World.drewN_drewN _ _ _⟩ | exact ⟨rfl, _, Eq.trans (World.drewN_drewN _ _ _) (congrArg (World.drewN _) (Nat.add_assoc _ _ _))⟩))); (try simp only [Go.IntWalk.i64_left]); try go_wp2_with (first | (go_at_call 105; (try simp only [Go.IntWalk.i64_left]); (with_reducible refine (fixed_tens.calls kj2 (wrap64 (6 - a0_1)) t102 _ A7.out).mono ?_); rintro e w' ⟨rfl, ⟨nd, rfl⟩⟩; (try first | exact ⟨rfl, _, World.drewN_drewN _ _ _⟩ | exact ⟨rfl, _, Eq.trans (World.drewN_drewN _ _ _) (congrArg (World.drewN _) (Nat.add_assoc _ _ _))⟩)) | (go_at_call 105; (try simp only [Go.IntWalk.i64_left]); (with_reducible refine (fixed_tens.calls kj2 (wrap64 (6 - a1)) t103 _ A8.out).mono ?_); rintro e w' ⟨rfl, ⟨nd, rfl⟩⟩; (try first | exact ⟨rfl, _, World.drewN_drewN _ _ _⟩ | exact ⟨rfl, _, Eq.trans (World.drewN_drewN _ _ _) (congrArg (World.drewN _) (Nat.add_assoc _ _ _))⟩))))
      go_ret2
      exact ⟨qe, qb⟩

end Go.Proofs.YtadocbfchdendaaGreatDoor.P
namespace Go.Proofs.YtadocbfchdendaaGreatDoor.P
open Go.RowKit Go.Proofs.YtadocbfchdendaaGreatDoorW.PrintWords Go.Proofs.YtadocbfchdendaaGreatDoorW.PrintLast Go.Proofs.YtadocbfchdendaaGreatDoorW.PrintMore
attribute [local go_sem] max2_int min2_int max_two min_two max_three min_three max_four min_four   -- for this text's walks alone
set_option linter.unusedVariables false
set_option linter.unusedSimpArgs false
mutual
def sheet_Common.l0 : Nat → List (S50) → Int → List (S50) → Int → Int → Option (List Int × Int × Int)
 | 0, _, _, _, _, _ => none
 | k + 1, x0, x5, x13, x14, x15 => if x15 < x14 then (if 0 ≤ x15 then (if x15 < (x13.length : Int) then (sheet_Common.l0 k x0 (mx x5 ((rd_T50 x13 x15).f1)) x13 x14 (wrap64 (x15 + 1))) else (none)) else (none)) else (if 0 ≤ (x0.length : Int) then (if ((x0.length : Int) : Int).toNat ≤ 35184372088832 then (sheet_Common.l1 k x5 (List.replicate ((x0.length : Int) : Int).toNat 0) x0 (x0.length : Int) 0) else (none)) else (none))
def sheet_Common.l1 : Nat → Int → List Int → List (S50) → Int → Int → Option (List Int × Int × Int)
 | 0, _, _, _, _, _ => none
 | k + 1, x5, x8, x27, x28, x29 => if x29 < x28 then (if 0 ≤ x29 then (if x29 < (x27.length : Int) then ((fixed_To.f k ((rd_T50 x27 x29).f0) ((rd_T50 x27 x29).f1) x5).bind fun bt108 => (if bt108.2 = 0 then (if x29 < (x8.length : Int) then (sheet_Common.l1 k x5 (x8.set (x29 : Int).toNat bt108.1) x27 x28 (wrap64 (x29 + 1))) else (none)) else (some (([] : List Int), 0, x29)))) else (none)) else (none)) else (some (x8, x5, (-1)))
end
def sheet_Common.f (k : Nat) (l0 : List (S50)) : Option (List Int × Int × Int) := sheet_Common.l0 k l0 0 l0 (l0.length : Int) 0
theorem sheet_Common.mono_l : ∀ k, (∀ y0 y1 y2 y3 y4, LeO (sheet_Common.l0 k y0 y1 y2 y3 y4) (sheet_Common.l0 (k + 1) y0 y1 y2 y3 y4)) ∧ (∀ y0 y1 y2 y3 y4, LeO (sheet_Common.l1 k y0 y1 y2 y3 y4) (sheet_Common.l1 (k + 1) y0 y1 y2 y3 y4))
 | 0 => ⟨fun _ _ _ _ _ r h => by simp [sheet_Common.l0] at h, fun _ _ _ _ _ r h => by simp [sheet_Common.l1] at h⟩
 | k + 1 => by
  obtain ⟨ih0, ih1⟩ := sheet_Common.mono_l k; refine ⟨?_, ?_⟩
  ·intro y0 y1 y2 y3 y4
   unfold sheet_Common.l0
   repeat' first
   | (with_reducible exact ih0 _ _ _ _ _)
   | (with_reducible exact ih1 _ _ _ _ _)
   | (with_reducible exact fixed_To.mono _ _ _ _)
   | (with_reducible exact LeO.refl _)
   | (with_reducible exact LeO.none _)
   | (with_reducible refine LeO.ite ?_ ?_)
   | (with_reducible refine LeO.bind ?_ (fun _ => ?_))
   | exact ih0 _ _ _ _ _
   | exact ih1 _ _ _ _ _
   | exact fixed_To.mono _ _ _ _
   | exact LeO.none _
   | refine LeO.ite ?_ ?_
   | refine LeO.bind ?_ (fun _ => ?_)
  ·intro y0 y1 y2 y3 y4
   unfold sheet_Common.l1
   repeat' first
   | (with_reducible exact ih0 _ _ _ _ _)
   | (with_reducible exact ih1 _ _ _ _ _)
   | (with_reducible exact fixed_To.mono _ _ _ _)
   | (with_reducible exact LeO.refl _)
   | (with_reducible exact LeO.none _)
   | (with_reducible refine LeO.ite ?_ ?_)
   | (with_reducible refine LeO.bind ?_ (fun _ => ?_))
   | exact ih0 _ _ _ _ _
   | exact ih1 _ _ _ _ _
   | exact fixed_To.mono _ _ _ _
   | exact LeO.none _
   | refine LeO.ite ?_ ?_
   | refine LeO.bind ?_ (fun _ => ?_)
theorem sheet_Common.mono : ∀ a0 k, LeO (sheet_Common.f k a0) (sheet_Common.f (k + 1) a0) := by
 intro a0 k
 obtain ⟨ih0, ih1⟩ := sheet_Common.mono_l k; unfold sheet_Common.f
 repeat' first
   | (with_reducible exact ih0 _ _ _ _ _)
   | (with_reducible exact ih1 _ _ _ _ _)
   | (with_reducible exact fixed_To.mono _ _ _ _)
   | (with_reducible exact LeO.refl _)
   | (with_reducible exact LeO.none _)
   | (with_reducible refine LeO.ite ?_ ?_)
   | (with_reducible refine LeO.bind ?_ (fun _ => ?_))
   | exact ih0 _ _ _ _ _
   | exact ih1 _ _ _ _ _
   | exact fixed_To.mono _ _ _ _
   | exact LeO.none _
   | refine LeO.ite ?_ ?_
   | refine LeO.bind ?_ (fun _ => ?_)
set_option maxHeartbeats 8000000 in
set_option maxRecDepth 100000 in
theorem sheet_Common.calls (k : Nat) (A0 : Option Addr) (c0 : Nat) (l0 : List (S50)) (r1 : List Int) (r2 : Int) (r3 : Int) (w : World) (hr0 : Kd.C k50 w A0 l0.length l0) (hc0 : l0.length ≤ c0) (h : sheet_Common.f k l0 = some (r1, r2, r3)) :
  Calls Tryz.prog 24 #[.slice A0 l0.length c0] w fun e w' => ∃ v0_ : Value, e = .returned (.tuple #[v0_, .int .i64 r2, .int .i64 r3]) ∧ Kd.R (Kd.int .i64) 3 w' w.heap.size (fun _ => True) v0_ r1 ∧ Below w.heap.size w w' := by
 have hu50 := Tryz.underlying50; have HR0 := Aside0.mk hr0; have HC0 := Aside0.mk hc0; clear hr0 hc0; have HB := Aside0.mk (Below.refl w.heap.size w); have H : (sheet_Common.l0 k l0 0 l0 (l0.length : Int) 0) = some (r1, r2, r3) := h; clear h; have H' := Aside0.mk H; clear H; go_enter Tryz.func24, Tryz.ntmps24
 go_wp2
 (try simp only [Act.put, List.setIfInBounds_toArray, List.set_cons_zero, List.set_cons_succ])
 go_loopg [5, 15] k (fun kq v5 v15 w' => ∃ (x5_1 : Int) (x15_1 : Int), v5 = .int .i64 x5_1 ∧ v15 = .int .i64 x15_1 ∧ Aside0 (sheet_Common.l0 kq l0 x5_1 l0 (l0.length : Int) x15_1 = some (r1, r2, r3)) ∧ Aside0 (kq ≤ k) ∧ Aside0 (Below w.heap.size w w'))
 case atStart => exact ⟨(0), (0), qr, qr, H', ⟨Nat.le_refl _⟩, ⟨qb⟩⟩
 case round =>
  clear H'; obtain ⟨x5_1, x15_1, rfl, rfl, HA, HK1, HB⟩ := hrel; cases gk with
  | zero => exact absurd HA.out (by simp [sheet_Common.l0])
  | succ k1 =>
   have H := HA.out; clear HA; simp only [sheet_Common.l0] at H
   by_cases c2 : x15_1 < (l0.length : Int)
   ·rw [if_pos c2] at H; have c2b0 := decide_eq_true c2; clear c2
    by_cases c3 : 0 ≤ x15_1
    ·rw [if_pos c3] at H; have c3b0 := decide_eq_true c3; clear c3
     by_cases c4 : x15_1 < (l0.length : Int)
     ·rw [if_pos c4] at H; have c4b0 := decide_eq_true c4; clear c4; obtain ⟨ji5, hji5⟩ : ∃ j_ : Int, (mx x5_1 ((rd_T50 l0 x15_1).f1)) = j_ := ⟨_, rfl⟩; replace H : (sheet_Common.l0 k1 l0 ji5 l0 (l0.length : Int) (wrap64 (x15_1 + 1))) = some (r1, r2, r3) := by first | (rw [hji5] at H; exact H) | (simp only [hji5] at H ⊢; exact H)
      have hji5_ : (if x5_1 < ((rd_T50 l0 x15_1).f1) then ((rd_T50 l0 x15_1).f1) else x5_1) = ji5 := hji5; have H' := Aside0.mk H; clear H; have p101 : 0 ≤ (x15_1 : Int) := of_decide_eq_true qa; have q101 : x15_1 < (l0.length : Int) := of_decide_eq_true qa; obtain ⟨ad101, e101, hx101_0, hx101_1⟩ := at_T50 HR0.out x15_1 p101 q101; cases e101; replace hx101_0 := (HB.out.cell (World.block_lt_of_cell? w _ hx101_0)).trans hx101_0; replace hx101_1 := (HB.out.cell (World.block_lt_of_cell? w _ hx101_1)).trans hx101_1; (try simp only [Go.IntWalk.toNatUp] at hx101_0); (try simp only [Go.IntWalk.toNatUp] at hx101_1); replace p101 := eq_true p101; replace q101 := eq_true q101
      go_wp2_with (first | ((with_reducible refine gate_dst (N := 7) rfl ?_); refine box_ev (N := 7) (cs := #[.int .i64 0, .int .i64 0]) (t := 50) ?_; intro gb102 hg w6 hbox hb; have BK102 := Aside0.mk (hbox); have GW102 := Aside0.mk ((qg : w.heap.size ≤ gb102)); have GE102 := Aside0.mk ((qg : w.heap.size ≤ gb102)); replace HB := cB HB hb; clear hb hbox hg; have hcz7_0 : w6.cell? ⟨gb102, 0, none⟩ = some (.int .i64 0) := (blk_cell BK102.out 0).trans rfl; have hcz7_1 : w6.cell? ⟨gb102, 1, none⟩ = some (.int .i64 0) := (blk_cell BK102.out 1).trans rfl; have hfz7_0 := blk_frozen BK102.out 0; have hfz7_1 := blk_frozen BK102.out 1))
      go_roundg k1
      case measure => have := HK1.out; omega
      case rel => exact ⟨(ji5), (wrap64 (x15_1 + 1)), (by first | rfl | (simp; done) | (simp only [← hji5] <;> (first | rfl | simp)) | (simp [*]; done)), qr, H', ⟨by have := HK1.out; omega⟩, ⟨qb⟩⟩
     ·rw [if_neg c4] at H
      exact absurd H (by simp)
    ·rw [if_neg c3] at H
     exact absurd H (by simp)
   ·rw [if_neg c2] at H; have c2b0 := decide_eq_false c2; clear c2
    by_cases c8 : 0 ≤ (l0.length : Int)
    ·rw [if_pos c8] at H; have c8b0 := eq_true c8; have c8b1 := decide_eq_true c8; clear c8
     by_cases c9 : ((l0.length : Int) : Int).toNat ≤ 35184372088832
     ·rw [if_pos c9] at H; have c9b0 := eq_true c9; have c9b1 := decide_eq_true c9; clear c9; obtain ⟨y103, hy103⟩ : ∃ y_ : List Int, y_ = (List.replicate ((l0.length : Int) : Int).toNat 0) := ⟨_, rfl⟩; replace H : (sheet_Common.l1 k1 x5_1 y103 l0 (l0.length : Int) 0) = some (r1, r2, r3) := by first | (rw [hy103]; with_reducible exact H) | (have H2_ := (Option.bind_some _ _).symm.trans H; rw [hy103]; with_reducible exact H2_) | (have H2_ := (Option.bind_some _ _).symm.trans H; with_reducible exact H2_) | with_reducible exact H | (rw [hy103]; exact H) | exact H
      have Ny103 := Aside0.mk hy103; clear hy103; have H' := Aside0.mk H; clear H
      go_wp2_with (first | ((with_reducible refine gate_dst (N := 26) rfl ?_); refine Kd.R_make (Kd.int .i64) _ 3 rfl (N := 26) rfl 38 _ _ rfl (l0.length : Int) rfl rfl Tryz.underlying38 (.int .i64 0) 8 info3 rfl (by decide) (by omega) 0 (ok := fun _ => True) (okp := fun _ => True) rfl (fun _ hk => hk) trivial (of_decide_eq_true qa) (Nat.le_trans (Nat.mul_le_mul_right _ (of_decide_eq_true qa : (l0.length : Int).toNat ≤ 35184372088832)) (by omega)) (Below.refl _ _) (Nat.le_refl _) ?_; intro v104 w10 ho11 hb hg_ hnew_; clear hg_ hnew_; (first | rw [← Ny103.out] at ho11 | (simp only [Int.reduceToNat] at ho11; rw [← Ny103.out] at ho11)); have HO105 := Aside0.mk (Kd.R_lower ho11 (below_size qb)); replace HB := cB HB hb; clear hb ho11))
      (try simp only [Act.put, List.setIfInBounds_toArray, List.set_cons_zero, List.set_cons_succ])
      go_loopg [29] k1 (fun kq v29 w' => ∃ (x8_2 : List Int) (x29_2 : Int), v29 = .int .i64 x29_2 ∧ Aside0 (sheet_Common.l1 kq x5_1 x8_2 l0 (l0.length : Int) x29_2 = some (r1, r2, r3)) ∧ Aside0 (kq ≤ k1) ∧ Aside0 (Kd.R (Kd.int .i64) 3 w' w.heap.size (fun _ => True) v104 x8_2) ∧ Aside0 (Below w.heap.size w w'))
      case atStart => exact ⟨(y103), (0), qr, H', ⟨Nat.le_refl _⟩, ⟨qR HO105.out⟩, ⟨qb⟩⟩
      case round =>
       clear H'; (try clear p1); (try clear q1); (try clear hx1); (try clear c2); (try clear c2b0); (try clear p2); (try clear c3); (try clear c3b0); (try clear c4); (try clear c4b0); (try clear p6); (try clear c8); (try clear c8b0); (try clear c8b1); (try clear c9); (try clear c9b0); (try clear c9b1); (try clear p10); (try clear q10); (try clear hx10); (try clear hcz7_0); (try clear hcz7_1); (try clear hfz7_0); (try clear hfz7_1); (try clear hx101_0); (try clear hx101_1); (try clear p101); (try clear q101); obtain ⟨x8_2, x29_2, rfl, HA, HK2, HO_8, HB⟩ := hrel; cases gk with
       | zero => exact absurd HA.out (by simp [sheet_Common.l1])
       | succ k2 =>
        have H := HA.out; clear HA; simp only [sheet_Common.l1] at H
        by_cases c12 : x29_2 < (l0.length : Int)
        ·rw [if_pos c12] at H; have c12b0 := decide_eq_true c12; clear c12
         by_cases c13 : 0 ≤ x29_2
         ·rw [if_pos c13] at H; have c13b0 := decide_eq_true c13; clear c13
          by_cases c14 : x29_2 < (l0.length : Int)
          ·rw [if_pos c14] at H; have c14b0 := decide_eq_true c14; clear c14; replace H := Option.bind_eq_some_iff.mp H; obtain ⟨⟨t108, t109⟩, A150, H⟩ := H; (try dsimp only at H); have A15 := Aside0.mk A150; clear A150
           by_cases c16 : t109 = 0
           ·rw [if_pos c16] at H; have c16b0 := beq_iff_eq.mpr c16; have c16b1 := bne_eq_false_iff_eq.mpr c16; clear c16
            by_cases c17 : x29_2 < (x8_2.length : Int)
            ·rw [if_pos c17] at H; have c17b0 := decide_eq_true c17; clear c17; obtain ⟨y110, hy110⟩ : ∃ y_ : List Int, y_ = (x8_2.set (x29_2 : Int).toNat t108) := ⟨_, rfl⟩; replace H : (sheet_Common.l1 k2 x5_1 y110 l0 (l0.length : Int) (wrap64 (x29_2 + 1))) = some (r1, r2, r3) := by first | (rw [hy110]; with_reducible exact H) | (have H2_ := (Option.bind_some _ _).symm.trans H; rw [hy110]; with_reducible exact H2_) | (have H2_ := (Option.bind_some _ _).symm.trans H; with_reducible exact H2_) | with_reducible exact H | (rw [hy110]; exact H) | exact H
             have Ny110 := Aside0.mk hy110; clear hy110; have H' := Aside0.mk H; clear H; have p106 : 0 ≤ (x29_2 : Int) := of_decide_eq_true qa; have q106 : x29_2 < (l0.length : Int) := of_decide_eq_true qa; obtain ⟨ad106, e106, hx106_0, hx106_1⟩ := at_T50 HR0.out x29_2 p106 q106; cases e106; replace hx106_0 := (HB.out.cell (World.block_lt_of_cell? w _ hx106_0)).trans hx106_0; replace hx106_1 := (HB.out.cell (World.block_lt_of_cell? w _ hx106_1)).trans hx106_1; (try simp only [Go.IntWalk.toNatUp] at hx106_0); (try simp only [Go.IntWalk.toNatUp] at hx106_1); replace p106 := eq_true p106; replace q106 := eq_true q106
             go_wp2_with (first | ((with_reducible refine gate_dst (N := 10) rfl ?_); refine box_ev (N := 10) (cs := #[.int .i64 0, .int .i64 0]) (t := 50) ?_; intro gb107 hg w19 hbox hb; have BK107 := Aside0.mk (hbox); have GW107 := Aside0.mk ((qg : w.heap.size ≤ gb107)); have GE107 := Aside0.mk ((qg : w.heap.size ≤ gb107)); replace HO_8 := cR HO_8 hb; replace HB := cB HB hb; clear hb hbox hg; have hcz20_0 : w19.cell? ⟨gb107, 0, none⟩ = some (.int .i64 0) := (blk_cell BK107.out 0).trans rfl; have hcz20_1 : w19.cell? ⟨gb107, 1, none⟩ = some (.int .i64 0) := (blk_cell BK107.out 1).trans rfl; have hfz20_0 := blk_frozen BK107.out 0; have hfz20_1 := blk_frozen BK107.out 1) | ((with_reducible refine gate_callee (f := 59) rfl ?_); refine goesL_ (some 37) rfl rfl Tryz.func59 (by kernel_rfl) rfl #[.agg #[.int .i64 ((rd_T50 l0 x29_2).f0), .int .i64 ((rd_T50 l0 x29_2).f1)], .int .i64 x5_1] rfl qm ?_; (with_reducible refine (fixed_To.calls k2 ((rd_T50 l0 x29_2).f0) ((rd_T50 l0 x29_2).f1) x5_1 t108 t109 _ A15.out).mono ?_); rintro e w21 ⟨rfl, hb⟩; refine ⟨_, rfl, ?_⟩; have n0_ := Aside0.mk (Kd.R_below (by refine qR ?_; exact (Kd.R_mono (Kd.R_far (p := ⟨gb107, 1, none⟩) (Kd.R_far (p := ⟨gb107, 0, none⟩) (Kd.R_types HO_8.out BK107.out (by decide)) (fun _ hk => hk.2) (.int .i64 ((rd_T50 l0 x29_2).f0))) (fun _ hk => hk.2) (.int .i64 ((rd_T50 l0 x29_2).f1))) (fun _ h_ => by first | exact h_.1 | exact ⟨trivial, h_.1⟩))) hb); have n1_ := Aside0.mk (blk_below (g := gb107) (o := .cells #[.int .i64 ((rd_T50 l0 x29_2).f0), .int .i64 ((rd_T50 l0 x29_2).f1)] 50 (0, 0)) (by refine qk ?_; refine blk_put (cs := #[.int .i64 ((rd_T50 l0 x29_2).f0), .int .i64 0]) ?_ 1 _ rfl; refine qk ?_; refine blk_put (cs := #[.int .i64 0, .int .i64 0]) ?_ 0 _ rfl; refine qk ?_; exact BK107.out) hb); replace HB := cB HB hb; replace HO_8 := n0_; replace BK107 := n1_; clear n0_ n1_; (try clear hb); (try clear hb2); (try clear hk); (try clear hi); have p18 : 0 ≤ (x29_2 : Int) := of_decide_eq_true qa; have q18 : (x29_2 : Int) < ((x8_2.length : Int) : Int) := of_decide_eq_true qa; obtain ⟨go18, co18, eo18, gb18, gl18, cl18, HG18⟩ := Kd.R_form HO_8.out (by omega); (first | cases eo18 | (injection eo18 with ea_ en_ ec_; (first | subst ea_ | (injection ea_ with ea_; subst ea_)); subst ec_; clear en_)); have GB18 := Aside0.mk gb18; have GG18 := Aside0.mk HG18; clear gb18 gl18 HG18; obtain ⟨hx18_0, hf18_0⟩ := Kd.R_celln 0 HO_8.out (x29_2 : Int) p18 q18; replace p18 := eq_true p18; replace q18 := eq_true q18; obtain ⟨hy22_, hz22_⟩ := Kd.R_celln 0 HO_8.out (x29_2 : Int) (of_decide_eq_true qa) (of_decide_eq_true qa); (try simp only [Go.IntWalk.toNatUp] at hy22_ hz22_); have HP22 := Kd.R_putg HO_8.out (x29_2 : Int) t108) | ((with_reducible refine gate_store (t := 3) (p := 46) rfl ?_); refine store_ev (t := 3) (p := 46) (w1 := (w21.setCell ⟨go18, (x29_2 : Int).toNat, none⟩ (.int .i64 t108))) ?_; intro w23 hw; have hg : w21.grownBy w23 (some go18) := (by rw [hw]; exact HP22.2); have hp_ : Kd.R (Kd.int .i64) 3 w23 w.heap.size (fun _ => True) (.slice (some ⟨go18, 0, none⟩) x8_2.length co18) y110 := (by rw [hw, Ny110.out]; exact HP22.1); clear HP22; have n0_ := Aside0.mk (hp_); have n1_ := Aside0.mk (blk_grown (g := gb107) (o := .cells #[.int .i64 ((rd_T50 l0 x29_2).f0), .int .i64 ((rd_T50 l0 x29_2).f1)] 50 (0, 0)) (qk BK107.out) hg (Kd.R_ne HO_8.out BK107.out (by decide))); have n2_ := Aside0.mk ((by rw [hw]; exact below_set (HB.out) GB18.out : Below w.heap.size w w23)); replace HO_8 := n0_; replace BK107 := n1_; replace HB := n2_; clear n0_ n1_ n2_; clear hg hw hp_))
             go_roundg k2
             case measure => have := HK1.out; have := HK2.out; omega
             case rel => exact ⟨(y110), (wrap64 (x29_2 + 1)), qr, H', ⟨by have := HK1.out; have := HK2.out; omega⟩, ⟨qR HO_8.out⟩, ⟨qb⟩⟩
            ·rw [if_neg c17] at H
             exact absurd H (by simp)
           ·rw [if_neg c16] at H; have c16b0 := beq_eq_false_iff_ne.mpr c16; have c16b1 := bne_iff_ne.mpr c16; simp only [Option.some.injEq, Prod.mk.injEq] at H; obtain ⟨rfl, rfl, rfl⟩ := H; have p106 : 0 ≤ (x29_2 : Int) := of_decide_eq_true qa; have q106 : x29_2 < (l0.length : Int) := of_decide_eq_true qa; obtain ⟨ad106, e106, hx106_0, hx106_1⟩ := at_T50 HR0.out x29_2 p106 q106; cases e106; replace hx106_0 := (HB.out.cell (World.block_lt_of_cell? w _ hx106_0)).trans hx106_0; replace hx106_1 := (HB.out.cell (World.block_lt_of_cell? w _ hx106_1)).trans hx106_1; (try simp only [Go.IntWalk.toNatUp] at hx106_0); (try simp only [Go.IntWalk.toNatUp] at hx106_1); replace p106 := eq_true p106; replace q106 := eq_true q106
            go_wp2_with (first | ((with_reducible refine gate_dst (N := 10) rfl ?_); refine box_ev (N := 10) (cs := #[.int .i64 0, .int .i64 0]) (t := 50) ?_; intro gb107 hg w24 hbox hb; have BK107 := Aside0.mk (hbox); have GW107 := Aside0.mk ((qg : w.heap.size ≤ gb107)); have GE107 := Aside0.mk ((qg : w.heap.size ≤ gb107)); replace HO_8 := cR HO_8 hb; replace HB := cB HB hb; clear hb hbox hg; have hcz25_0 : w24.cell? ⟨gb107, 0, none⟩ = some (.int .i64 0) := (blk_cell BK107.out 0).trans rfl; have hcz25_1 : w24.cell? ⟨gb107, 1, none⟩ = some (.int .i64 0) := (blk_cell BK107.out 1).trans rfl; have hfz25_0 := blk_frozen BK107.out 0; have hfz25_1 := blk_frozen BK107.out 1) | ((with_reducible refine gate_callee (f := 59) rfl ?_); refine goesL_ (some 37) rfl rfl Tryz.func59 (by kernel_rfl) rfl #[.agg #[.int .i64 ((rd_T50 l0 x29_2).f0), .int .i64 ((rd_T50 l0 x29_2).f1)], .int .i64 x5_1] rfl qm ?_; (with_reducible refine (fixed_To.calls k2 ((rd_T50 l0 x29_2).f0) ((rd_T50 l0 x29_2).f1) x5_1 t108 t109 _ A15.out).mono ?_); rintro e w26 ⟨rfl, hb⟩; refine ⟨_, rfl, ?_⟩; have n0_ := Aside0.mk (Kd.R_below (by refine qR ?_; exact (Kd.R_mono (Kd.R_far (p := ⟨gb107, 1, none⟩) (Kd.R_far (p := ⟨gb107, 0, none⟩) (Kd.R_types HO_8.out BK107.out (by decide)) (fun _ hk => hk.2) (.int .i64 ((rd_T50 l0 x29_2).f0))) (fun _ hk => hk.2) (.int .i64 ((rd_T50 l0 x29_2).f1))) (fun _ h_ => by first | exact h_.1 | exact ⟨trivial, h_.1⟩))) hb); have n1_ := Aside0.mk (blk_below (g := gb107) (o := .cells #[.int .i64 ((rd_T50 l0 x29_2).f0), .int .i64 ((rd_T50 l0 x29_2).f1)] 50 (0, 0)) (by refine qk ?_; refine blk_put (cs := #[.int .i64 ((rd_T50 l0 x29_2).f0), .int .i64 0]) ?_ 1 _ rfl; refine qk ?_; refine blk_put (cs := #[.int .i64 0, .int .i64 0]) ?_ 0 _ rfl; refine qk ?_; exact BK107.out) hb); replace HB := cB HB hb; replace HO_8 := n0_; replace BK107 := n1_; clear n0_ n1_; (try clear hb); (try clear hb2); (try clear hk); (try clear hi)))
            go_ret3
            exact ⟨_, qe, by first | exact Kd.R_nil _ _ _ _ _ | exact Kd.N_nil _ _ _ _ _ | exact Kd.V_nil _ _ _ _ _ | exact Kd.Q_nil _ _ _ _ _ | exact Kd.S_nil _ _ _ _ _, qb⟩
          ·rw [if_neg c14] at H
           exact absurd H (by simp)
         ·rw [if_neg c13] at H
          exact absurd H (by simp)
        ·rw [if_neg c12] at H; have c12b0 := decide_eq_false c12; clear c12; simp only [Option.some.injEq, Prod.mk.injEq] at H; obtain ⟨rfl, rfl, rfl⟩ := H
         go_wp2
         go_ret3
         exact ⟨_, qe, by refine qR ?_; exact HO_8.out, qb⟩
     ·rw [if_neg c9] at H
      exact absurd H (by simp)
    ·rw [if_neg c8] at H
     exact absurd H (by simp)

end Go.Proofs.YtadocbfchdendaaGreatDoor.P
namespace Go.Proofs.YtadocbfchdendaaGreatDoor.P
open Go.RowKit Go.Proofs.YtadocbfchdendaaGreatDoorW.PrintWords Go.Proofs.YtadocbfchdendaaGreatDoorW.PrintLast Go.Proofs.YtadocbfchdendaaGreatDoorW.PrintMore
attribute [local go_sem] max2_int min2_int max_two min_two max_three min_three max_four min_four   -- for this text's walks alone
set_option linter.unusedVariables false
set_option linter.unusedSimpArgs false
def sheet_Ints.f (k : Nat) (a0 : ByteArray) (a1_0 : Int) (l1_1 : List (S105)) (a2 : Int) : Option (List Int × Int × Int) := if (l1_1.length : Int) = a2 then ((sheet_each_int.f k a0 () l1_1).bind fun bt103 => (some (bt103.1, bt103.2.1, bt103.2.2))) else (some (([] : List Int), a1_0, 3))
theorem sheet_Ints.mono : ∀ a0 a1 a2 a3 k, LeO (sheet_Ints.f k a0 a1 a2 a3) (sheet_Ints.f (k + 1) a0 a1 a2 a3) := by
 intro a0 a1 a2 a3 k
 unfold sheet_Ints.f
 repeat' first
   | (with_reducible exact sheet_each_int.mono _ _ _ _)
   | (with_reducible exact LeO.refl _)
   | (with_reducible exact LeO.none _)
   | (with_reducible refine LeO.ite ?_ ?_)
   | (with_reducible refine LeO.bind ?_ (fun _ => ?_))
   | exact sheet_each_int.mono _ _ _ _
   | exact LeO.none _
   | refine LeO.ite ?_ ?_
   | refine LeO.bind ?_ (fun _ => ?_)
set_option maxHeartbeats 8000000 in
set_option maxRecDepth 100000 in
theorem sheet_Ints.calls (k : Nat) (a0 : ByteArray) (a1_0 : Int) (A1_1 : Option Addr) (c1_1 : Nat) (l1_1 : List (S105)) (a2 : Int) (r1 : List Int) (r2 : Int) (r3 : Int) (w : World) (hr1_1 : Kd.C k105 w A1_1 l1_1.length l1_1) (hc1_1 : l1_1.length ≤ c1_1) (h : sheet_Ints.f k a0 a1_0 l1_1 a2 = some (r1, r2, r3)) :
  Calls Tryz.prog 28 #[.string a0, .agg #[.int .i64 a1_0, .slice A1_1 l1_1.length c1_1], .int .i64 a2] w fun e w' => ∃ v0_ : Value, e = .returned (.tuple #[v0_, .agg #[.int .i64 r2, .int .i64 r3]]) ∧ Kd.R (Kd.int .i64) 3 w' w.heap.size (fun _ => True) v0_ r1 ∧ Below w.heap.size w w' := by
 have hu32 := Tryz.underlying32; have hu41 := Tryz.underlying41; have HR1_1 := Aside0.mk hr1_1; have HC1_1 := Aside0.mk hc1_1; clear hr1_1 hc1_1; have HB := Aside0.mk (Below.refl w.heap.size w); have H : (if (l1_1.length : Int) = a2 then ((sheet_each_int.f k a0 () l1_1).bind fun bt103 => (some (bt103.1, bt103.2.1, bt103.2.2))) else (some (([] : List Int), a1_0, 3))) = some (r1, r2, r3) := h; clear h
 by_cases c4 : (l1_1.length : Int) = a2
 ·rw [if_pos c4] at H; have c4b0 := beq_iff_eq.mpr c4; have c4b1 := bne_eq_false_iff_eq.mpr c4; clear c4; replace H := Option.bind_eq_some_iff.mp H; obtain ⟨⟨t103, t106, t107⟩, A50, H⟩ := H; (try dsimp only at H); have A5 := Aside0.mk A50; clear A50; simp only [Option.some.injEq, Prod.mk.injEq] at H; obtain ⟨rfl, rfl, rfl⟩ := H; go_enter Tryz.func28, Tryz.ntmps28
  go_wp2_with (first | ((with_reducible refine gate_dst (N := 4) rfl ?_); refine box_ev (N := 4) (cs := #[.int .i64 a1_0, .slice A1_1 l1_1.length c1_1]) (t := 32) ?_; intro gb101 hg w6 hbox hb; have BK101 := Aside0.mk (hbox); have GW101 := Aside0.mk ((qg : w.heap.size ≤ gb101)); have GE101 := Aside0.mk ((qg : w.heap.size ≤ gb101)); replace HB := cB HB hb; clear hb hbox hg) | ((with_reducible refine gate_dst (N := 7) rfl ?_); refine box_ev (N := 7) (cs := #[.int .i64 0, .int .i64 0]) (t := 41) ?_; intro gb102 hg w7 hbox hb; have BK102 := Aside0.mk (hbox); have GW102 := Aside0.mk ((qg : w.heap.size ≤ gb102)); have GE102 := Aside0.mk ((qg : w.heap.size ≤ gb102)); have NB101_102 := Aside0.mk ((by rw [hg]; exact Nat.ne_of_lt (blk_lt (g := gb101) (o := .cells #[.int .i64 a1_0, .slice A1_1 l1_1.length c1_1] 32 (0, 0)) (qk BK101.out)) : gb101 ≠ gb102)); have NB102_101 := Aside0.mk ((by rw [hg]; exact Nat.ne_of_gt (blk_lt (g := gb101) (o := .cells #[.int .i64 a1_0, .slice A1_1 l1_1.length c1_1] 32 (0, 0)) (qk BK101.out)) : gb102 ≠ gb101)); replace BK101 := cK BK101 hb; replace HB := cB HB hb; clear hb hbox hg; have hnb8 := NB101_102.out; have hnc8 := NB102_101.out; have hcz9_0 : w7.cell? ⟨gb101, 0, none⟩ = some (.int .i64 a1_0) := (blk_cell BK101.out 0).trans rfl; have hcz9_1 : w7.cell? ⟨gb101, 1, none⟩ = some (.slice A1_1 l1_1.length c1_1) := (blk_cell BK101.out 1).trans rfl; have hfz9_0 := blk_frozen BK101.out 0; have hfz9_1 := blk_frozen BK101.out 1) | ((with_reducible refine gate_callee (f := 56) rfl ?_); refine goesL_ (some 19) rfl rfl Tryz.func56 (by kernel_rfl) rfl #[.string a0, .func (.func 57) #[] #[], .slice A1_1 l1_1.length c1_1] rfl qm ?_; (with_reducible refine (sheet_each_int.calls k a0 () _ _ l1_1 t103 t106 t107 _ ?side1 ?side2 A5.out).mono ?_); (case side1 => exact qC (Kd.C_below HR1_1.out HB.out)); (case side2 => exact HC1_1.out); rintro e w10 ⟨v104, rfl, ho0, hb⟩; refine ⟨_, rfl, ?_⟩; have HO105 := Aside0.mk (Kd.R_lower ho0 (below_size qb)); replace BK101 := cK BK101 hb; replace BK102 := cK BK102 hb; replace HB := cB HB hb; (try clear hb); (try clear hb2); (try clear hk); (try clear hi); (try clear ho0); have hcz11_0 : w10.cell? ⟨gb102, 0, none⟩ = some (.int .i64 0) := (blk_cell BK102.out 0).trans rfl; have hcz11_1 : w10.cell? ⟨gb102, 1, none⟩ = some (.int .i64 0) := (blk_cell BK102.out 1).trans rfl; have hfz11_0 := blk_frozen BK102.out 0; have hfz11_1 := blk_frozen BK102.out 1))
  refine bodyPost_ret (results_tc rfl _ _ gb102 41 #[.int .i64 t106, .int .i64 t107] (0, 0) _ rfl (by refine qk ?_; refine blk_put (cs := #[.int .i64 t106, .int .i64 0]) ?_ 1 _ rfl; refine qk ?_; refine blk_put (cs := #[.int .i64 0, .int .i64 0]) ?_ 0 _ rfl; refine qk ?_; exact BK102.out) Tryz.underlying41 rfl (by kernel_rfl)) rfl ?_
  exact ⟨_, qe, by refine qR ?_; exact Kd.R_mono (Kd.R_far (p := ⟨gb102, 1, none⟩) (Kd.R_far (p := ⟨gb102, 0, none⟩) (Kd.R_types HO105.out BK102.out (by decide)) (fun _ hk => hk.2) (.int .i64 t106)) (fun _ hk => hk.2) (.int .i64 t107)) (fun _ hk => trivial), qb⟩
 ·rw [if_neg c4] at H; have c4b0 := beq_eq_false_iff_ne.mpr c4; have c4b1 := bne_iff_ne.mpr c4; simp only [Option.some.injEq, Prod.mk.injEq] at H; obtain ⟨rfl, rfl, rfl⟩ := H; go_enter Tryz.func28, Tryz.ntmps28
  try go_wp2_with (first | ((with_reducible refine gate_dst (N := 4) rfl ?_); refine box_ev (N := 4) (cs := #[.int .i64 a1_0, .slice A1_1 l1_1.length c1_1]) (t := 32) ?_; intro gb101 hg w12 hbox hb; have BK101 := Aside0.mk (hbox); have GW101 := Aside0.mk ((qg : w.heap.size ≤ gb101)); have GE101 := Aside0.mk ((qg : w.heap.size ≤ gb101)); replace HB := cB HB hb; clear hb hbox hg) | ((with_reducible refine gate_dst (N := 7) rfl ?_); refine box_ev (N := 7) (cs := #[.int .i64 0, .int .i64 0]) (t := 41) ?_; intro gb102 hg w13 hbox hb; have BK102 := Aside0.mk (hbox); have GW102 := Aside0.mk ((qg : w.heap.size ≤ gb102)); have GE102 := Aside0.mk ((qg : w.heap.size ≤ gb102)); have NB101_102 := Aside0.mk ((by rw [hg]; exact Nat.ne_of_lt (blk_lt (g := gb101) (o := .cells #[.int .i64 a1_0, .slice A1_1 l1_1.length c1_1] 32 (0, 0)) (qk BK101.out)) : gb101 ≠ gb102)); have NB102_101 := Aside0.mk ((by rw [hg]; exact Nat.ne_of_gt (blk_lt (g := gb101) (o := .cells #[.int .i64 a1_0, .slice A1_1 l1_1.length c1_1] 32 (0, 0)) (qk BK101.out)) : gb102 ≠ gb101)); replace BK101 := cK BK101 hb; replace HB := cB HB hb; clear hb hbox hg; have hnb14 := NB101_102.out; have hnc14 := NB102_101.out; have hcz15_0 : w13.cell? ⟨gb101, 0, none⟩ = some (.int .i64 a1_0) := (blk_cell BK101.out 0).trans rfl; have hcz15_1 : w13.cell? ⟨gb101, 1, none⟩ = some (.slice A1_1 l1_1.length c1_1) := (blk_cell BK101.out 1).trans rfl; have hfz15_0 := blk_frozen BK101.out 0; have hfz15_1 := blk_frozen BK101.out 1))
  have n0_ := Aside0.mk (blk_drew BK101.out); have n1_ := Aside0.mk (blk_drew BK102.out); have n2_ := Aside0.mk (below_drew1 HB.out); clear BK101; clear BK102; clear HB; have BK101 := n0_; have BK102 := n1_; have HB := n2_; clear n0_ n1_ n2_; refine start_ (n := 5) (S := fun w' => w'.cell? ⟨gb101, 0, none⟩ = some (.int .i64 a1_0) ∧ w'.cell? ⟨gb101, 1, none⟩ = some (.slice A1_1 l1_1.length c1_1)) (ds := []) #[false, false, false, false, false] (by kernel_rfl) rfl rfl ⟨(blk_cell BK101.out 0).trans rfl, (blk_cell BK101.out 1).trans rfl⟩ (fun hHeld => ?_); generalize w13.drew = w16 at BK101 BK102 HB hHeld ⊢; refine pure_ (i := 0) (N := some 13) (v := ?_) (a' := ?_) #[true, false, false, false, false] rfl rfl (by kernel_rfl) (fun _ _ _ h => h) (Or.inl ⟨by rfl, ?_⟩) ?_ ?_
  rotate_left
  ·intro w'
   go_simp
   with_reducible rfl
  rotate_left
  ·simp only [Act.put, List.setIfInBounds_toArray, List.set_cons_zero, List.set_cons_succ, i64_w, i32_w]
   rfl
  refine pure_ (i := 3) (N := some 6) (v := ?_) (a' := ?_) #[true, false, false, true, false] rfl rfl (by kernel_rfl) (fun _ _ _ h => h) (Or.inl ⟨by rfl, ?_⟩) ?_ ?_
  rotate_left
  ·intro w'
   go_simp
   with_reducible rfl
  rotate_left
  ·simp only [Act.put, List.setIfInBounds_toArray, List.set_cons_zero, List.set_cons_succ, i64_w, i32_w]
   rfl
  refine take_ (i := 1) (N := some 14) (v := ?_) (a' := ?_) #[true, true, false, true, false] rfl rfl (by kernel_rfl) (fun _ _ _ h => h) (Or.inl ⟨by rfl, ?_⟩) hHeld ?_ ?_
  rotate_left
  ·rintro w' ⟨s0, s1⟩
   go_simp
   with_reducible rfl
  rotate_left
  ·simp only [Act.put, List.setIfInBounds_toArray, List.set_cons_zero, List.set_cons_succ, i64_w, i32_w]
   rfl
  refine pure_ (i := 2) (N := some 15) (v := ?_) (a' := ?_) #[true, true, true, true, false] rfl rfl (by kernel_rfl) (fun _ _ _ h => h) (Or.inl ⟨by rfl, ?_⟩) ?_ ?_
  rotate_left
  ·intro w'
   go_simp
   with_reducible rfl
  rotate_left
  ·simp only [Act.put, List.setIfInBounds_toArray, List.set_cons_zero, List.set_cons_succ, i64_w, i32_w]
   rfl
  refine one_ (i := 4) (N := none) #[true, true, true, true, true] rfl rfl (by kernel_rfl) (by decide) (fun K hK => ?_); have hs17 : w16.cell? ⟨gb102, 0, none⟩ = some (.int .i64 0) := (blk_cell BK102.out 0).trans rfl; have hfs17 := blk_frozen BK102.out 0; have hns17_0 := NB101_102.out; have hms17_0 := NB102_101.out; have hs18 : w16.cell? ⟨gb102, 1, none⟩ = some (.int .i64 0) := (blk_cell BK102.out 1).trans rfl; have hfs18 := blk_frozen BK102.out 1; have hns18_0 := NB101_102.out; have hms18_0 := NB102_101.out; refine skip_ (w1 := ?_) (by rfl) rfl ?_ ?_
  rotate_left
  ·go_simp
   rfl
  refine hK.out _ _ ⟨((cell_far (p := ⟨gb102, _, none⟩) NB101_102.out _).trans (((cell_far (p := ⟨gb102, _, none⟩) NB101_102.out _).trans (hHeld.1)))), ((cell_far (p := ⟨gb102, _, none⟩) NB101_102.out _).trans (((cell_far (p := ⟨gb102, _, none⟩) NB101_102.out _).trans (hHeld.2))))⟩ (fun hHeld => ?_); clear hK K; refine done_ (by kernel_rfl) ?_
  try go_wp2
  refine bodyPost_ret (results_tc rfl _ _ gb102 41 #[.int .i64 a1_0, .int .i64 3] (0, 0) _ rfl (by refine qk ?_; refine blk_put (cs := #[.int .i64 a1_0, .int .i64 0]) ?_ 1 _ rfl; refine qk ?_; refine blk_put (cs := #[.int .i64 0, .int .i64 0]) ?_ 0 _ rfl; refine qk ?_; exact BK102.out) Tryz.underlying41 rfl (by kernel_rfl)) rfl ?_
  exact ⟨_, qe, by first | exact Kd.R_nil _ _ _ _ _ | exact Kd.N_nil _ _ _ _ _ | exact Kd.V_nil _ _ _ _ _ | exact Kd.Q_nil _ _ _ _ _ | exact Kd.S_nil _ _ _ _ _, qb⟩

end Go.Proofs.YtadocbfchdendaaGreatDoor.P
namespace Go.Proofs.YtadocbfchdendaaGreatDoor.P
open Go.RowKit Go.Proofs.YtadocbfchdendaaGreatDoorW.PrintWords Go.Proofs.YtadocbfchdendaaGreatDoorW.PrintLast Go.Proofs.YtadocbfchdendaaGreatDoorW.PrintMore
attribute [local go_sem] max2_int min2_int max_two min_two max_three min_three max_four min_four   -- for this text's walks alone
set_option linter.unusedVariables false
set_option linter.unusedSimpArgs false
theorem eqA41 (d : Nat) (w : World) (x0 y0 : Int) (x1 y1 : Int) :
    (Op.equalIn (d + 2) 41 (.agg #[.int .i64 x0, .int .i64 x1]) (.agg #[.int .i64 y0, .int .i64 y1])).run Tryz.prog w = .ok (x0 == y0 && (x1 == y1)) w := by
  refine eqA_of Tryz.underlying41 (by kernel_rfl) ?_
  refine eqf_cons (by rfl) (by go_simp; rfl) (by go_simp; rfl) (by go_simp) ?_
  exact eqf_last (by rfl) (by go_simp; rfl) (by go_simp; rfl) (by go_simp)
end Go.Proofs.YtadocbfchdendaaGreatDoor.P
