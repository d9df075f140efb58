/- Part 2 of the proof of TourBack: contracts of functions, and the words that they use. -/
import Derived.Lib.Strings
import Derived.Lib.Atoi
import Derived.Lib.ItoaNum
import Derived.Test.YtadocbfchdendaaGreatDoorMTourBackA
import Derived.Lib.OthersKept
import Derived.Deep.LoopGhost
import Derived.Laws.RangeAny
import Derived.Lib.SpaceUEq
import Derived.WalkSmall
import Derived.Lib.AtoiErrMem
import Derived.Lib.ItoaLen
import Derived.Shelf.Strings.BuilderK
import Derived.RegionTactic
import Derived.ChangeAlike
import Derived.Outline
set_option linter.unusedVariables false
set_option linter.unusedSimpArgs false
namespace Go.Proofs.YtadocbfchdendaaGreatDoor.Sp
def dig (c : UInt8) : Bool := decide (48 ≤ c.toNat) && decide (c.toNat ≤ 57)
def dv (l : List UInt8) : Nat := l.foldl (fun n c => 10 * n + (c.toNat - 48)) 0
def least (m : Int) : Nat → Int × Int
  | 0 => (m, 0)
  | s + 1 => if m.tmod 10 = 0 then least (m.tdiv 10) s else (m, (s + 1 : Nat))
def sgn (neg : Bool) (d : List UInt8) : Int := if neg = true then -(dv d : Int) else dv d
def fitsB (m : Int) : Bool := decide (-100000000 ≤ m) && decide (m ≤ 100000000)
def finS (neg : Bool) (d : List UInt8) (s : Nat) : Int × Int × Int :=
  if fitsB (least (sgn neg d) s).1 = true then ((least (sgn neg d) s).1, (least (sgn neg d) s).2, 0) else (0, 0, 2)
def intS (l : List UInt8) : Int × Int :=
  if (Lib.trimPrefix l [45]).takeWhile dig = [] ∨ 12 < ((Lib.trimPrefix l [45]).takeWhile dig).length then (0, 20)
  else if (Lib.trimPrefix l [45]).dropWhile dig ≠ [] then (0, 20)
  else if fitsB (sgn (Lib.hasPrefix l [45]) ((Lib.trimPrefix l [45]).takeWhile dig)) = true then (sgn (Lib.hasPrefix l [45]) ((Lib.trimPrefix l [45]).takeWhile dig), 0) else (0, 2)
theorem trim_len (l p : List UInt8) : (Lib.trimPrefix l p).length ≤ l.length := by
  unfold Lib.trimPrefix
  split
  · rw [List.length_drop]; omega
  · exact Nat.le_refl _
theorem dig_val {c : UInt8} (h : dig c = true) : 48 ≤ c.toNat ∧ c.toNat ≤ 57 := by
  unfold dig at h
  simpa using h
theorem decFrom_dv (l : List UInt8) (h : ∀ c ∈ l, dig c = true) : ∀ acc, Lib.decFrom acc l = some (l.foldl (fun n c => 10 * n + (c.toNat - 48)) acc) := by
  induction l with
  | nil => intro acc; rfl
  | cons c r ih =>
    intro acc
    have hc := dig_val (h c (by simp))
    unfold Lib.decFrom
    unfold Lib.digitVal
    rw [if_pos hc]
    simp only [List.foldl_cons]
    rw [ih (fun x hx => h x (by simp [hx]))]
    rw [Nat.mul_comm acc 10]
theorem atoi_dv (l : List UInt8) (h0 : l ≠ []) (h : ∀ c ∈ l, dig c = true) : Lib.atoi l = some (dv l : Int) := by
  cases l with
  | nil => exact absurd rfl h0
  | cons c r =>
    have hc := dig_val (h c (by simp))
    have h1 : (c == 45) = false := by
      rw [beq_eq_false_iff_ne]; intro e; subst e; simp at hc
    have h2 : (c == 43) = false := by
      rw [beq_eq_false_iff_ne]; intro e; subst e; simp at hc
    unfold Lib.atoi
    simp only [h1, h2]
    unfold Lib.decNat
    rw [decFrom_dv _ h]
    rfl
theorem foldl_lt (l : List UInt8) (h : ∀ c ∈ l, dig c = true) : ∀ acc, l.foldl (fun n c => 10 * n + (c.toNat - 48)) acc < (acc + 1) * 10 ^ l.length := by
  induction l with
  | nil => intro acc; simp
  | cons c r ih =>
    intro acc
    have hc := dig_val (h c (by simp))
    have := ih (fun x hx => h x (by simp [hx])) (10 * acc + (c.toNat - 48))
    simp only [List.foldl_cons, List.length_cons]
    refine Nat.lt_of_lt_of_le this ?_
    rw [Nat.pow_succ, Nat.mul_comm (10 ^ r.length) 10, ← Nat.mul_assoc]
    exact Nat.mul_le_mul_right _ (by omega)
theorem dv_lt (l : List UInt8) (h : ∀ c ∈ l, dig c = true) : dv l < 10 ^ l.length := by
  have := foldl_lt l h 0
  simpa [dv] using this
theorem dv_le18 (l : List UInt8) (h : ∀ c ∈ l, dig c = true) (hl : l.length ≤ 18) : dv l < 1000000000000000000 := by
  have h1 := dv_lt l h
  have h2 : 10 ^ l.length ≤ 10 ^ 18 := Nat.pow_le_pow_right (by omega) hl
  omega
theorem tw_dig (l : List UInt8) : ∀ c ∈ l.takeWhile dig, dig c = true := by
  intro c hc
  have := List.all_takeWhile (p := dig) (l := l)
  rw [List.all_eq_true] at this
  exact this c hc
end Go.Proofs.YtadocbfchdendaaGreatDoor.Sp
namespace Go.Proofs.YtadocbfchdendaaGreatDoor.Fx
open Go.RowKit Go.Lib Go.Proofs.YtadocbfchdendaaGreatDoor.Sp
def tenD : ByteArray := ⟨#[48, 49, 50, 51, 52, 53, 54, 55, 56, 57]⟩
theorem tenD_dec (q : Nat) (h : q < 10) : Utf8.decode tenD q = (48 + q, 1) := by
  have : q = 0 ∨ q = 1 ∨ q = 2 ∨ q = 3 ∨ q = 4 ∨ q = 5 ∨ q = 6 ∨ q = 7 ∨ q = 8 ∨ q = 9 := by omega
  rcases this with rfl | rfl | rfl | rfl | rfl | rfl | rfl | rfl | rfl | rfl <;> decide
theorem below_iter {a w : World} (h : Below a.heap.size a w) (s : ByteArray) (p : Nat) : Below a.heap.size a (w.iter s p) := h.alloc h.size _
theorem next_step {P : Program} (a w : World) (k : Nat) (s : ByteArray) (pos : Nat) (hk : w.heap[k]? = some (.stringIter s pos)) (hB : Below a.heap.size a w) (hka : a.heap.size ≤ k) (h : pos < s.size) :
    ∃ W, (∀ ty, (Instr.next (.pointer (some ⟨k, 0, none⟩)) true ty).run P w = .ok (.tuple #[.bool true, .int .i64 pos, .int .i32 (Utf8.decode s pos).1]) W) ∧
      W.heap[k]? = some (.stringIter s (pos + (Utf8.decode s pos).2)) ∧ Below a.heap.size a W ∧ W.heap.size = w.heap.size ∧ (∀ j, j ≠ k → W.heap[j]? = w.heap[j]?) :=
  ⟨w.iterAt k s (pos + (Utf8.decode s pos).2), fun ty => run_next_any_at w k s pos ty hk h, iterAt_heap _ _ _ _ _ hk, below_iterAt hB hka _ _, iterAt_size _ _ _ _, fun _ hj => iterAt_other _ _ _ _ _ hj⟩
theorem eqDec (c : Int) (q : Nat) (h : q < 10) (hc : 0 ≤ c) : (decide (48 ≤ c) && decide (c < 48 + (q : Int)) || (c == 48 + (q : Int))) = (decide (48 ≤ c) && decide (c < 48 + ((q + 1 : Nat) : Int))) := by
  rw [Bool.eq_iff_iff]; simp; omega
theorem drop_step (l : List UInt8) (pos : Nat) (h : pos < l.length) (hd : dig l[pos] = true) (e : (l.drop pos).dropWhile dig = l.dropWhile dig) : (l.drop (pos + 1)).dropWhile dig = l.dropWhile dig := by
  rw [List.drop_eq_getElem_cons h, List.dropWhile_cons] at e
  simpa [hd] using e
theorem drop_stop (l : List UInt8) (pos : Nat) (h : pos < l.length) (hd : dig l[pos] = false) (e : (l.drop pos).dropWhile dig = l.dropWhile dig) : l.dropWhile dig = l.drop pos := by
  rw [← e]
  rw [List.drop_eq_getElem_cons h, List.dropWhile_cons]
  simp [hd]
theorem ret_str {a b : ByteArray} (h : a = b) : Ending.returned (.string a) = .returned (.string b) := by rw [h]
theorem str_from (s : ByteArray) (k : Nat) : s.extract k s.size = ⟨(s.data.toList.drop k).toArray⟩ := by
  apply ByteArray.ext
  rw [ByteArray.data_extract]
  apply Array.ext'
  simp [List.extract_eq_take_drop]
  exact List.take_of_length_le (by simp)
theorem digit_at (s : ByteArray) (pos : Nat) (hp : pos < s.size) (b : Bool) (hb : b = (decide ((48 : Int) ≤ ((Utf8.decode s pos).1 : Nat)) && decide (((Utf8.decode s pos).1 : Int) ≤ 57))) :
    dig (s.data.toList[pos]'(by simpa using hp)) = b ∧ (b = true → (Utf8.decode s pos).2 = 1) := by
  have e : (s.data.toList[pos]'(by simpa using hp)) = s[pos]'hp := rfl
  rw [e]
  by_cases ha : (s[pos]'hp).toNat < 128
  · rw [decode_ascii s pos hp ha] at hb ⊢
    refine ⟨?_, fun _ => rfl⟩
    rw [hb, Bool.eq_iff_iff]; simp [dig]; omega
  · have := decode_high s pos hp (by omega)
    rw [hb, Bool.eq_iff_iff]; simp [dig]; omega
set_option maxHeartbeats 1000000 in
theorem cutLeft_calls (s : ByteArray) (hs : s.size ≤ maxLen) (w : World) :
    Calls Tryz.prog 124 #[.string s, .string ⟨#[48, 49, 50, 51, 52, 53, 54, 55, 56, 57]⟩] w fun en w' => en = .returned (.string ⟨(s.data.toList.dropWhile dig).toArray⟩) ∧ Below w.heap.size w w' := by
  unfold maxLen at hs
  go_enter Tryz.func124, Tryz.ntmps124
  go_wp2
  go_loopg [] s.size (fun n wr => ∃ pos : Nat, Hid (pos ≤ s.size ∧ s.size - pos ≤ n ∧ wr.heap[w.heap.size]? = some (.stringIter s pos) ∧ Below w.heap.size w wr ∧ (s.data.toList.drop pos).dropWhile dig = s.data.toList.dropWhile dig))
  case atStart => exact ⟨0, Nat.zero_le _, by omega, World.iter_heap _ _ _, below_iter (Below.refl _ _) _ _, rfl⟩
  case round =>
    obtain ⟨pos, H⟩ := hrel
    by_cases hp : pos < s.size
    · obtain ⟨W, hnx, R⟩ : ∃ W, (∀ ty, (Instr.next (.pointer (some ⟨w.heap.size, 0, none⟩)) true ty).run Tryz.prog wr = .ok (.tuple #[.bool true, .int .i64 pos, .int .i32 (Utf8.decode s pos).1]) W) ∧ Hid (W.heap[w.heap.size]? = some (.stringIter s (pos + (Utf8.decode s pos).2)) ∧ Below w.heap.size w W) := by
        obtain ⟨_, _, hk, hB, _⟩ := H.out
        obtain ⟨W, h1, h2, h3, _⟩ := next_step (P := Tryz.prog) w wr w.heap.size s pos hk hB (Nat.le_refl _) hp
        exact ⟨W, h1, h2, h3⟩
      have hc0 : (0 : Int) ≤ ((Utf8.decode s pos).1 : Int) := by omega
      have hc1 := decode_le s pos
      generalize hcc : (Utf8.decode s pos).1 = c at *
      have HC := Lib.hid hcc
      clear hcc
      go_wp2
      go_loopg [7] 10 (fun n v7 wi => ∃ (q : Nat) (b : Bool), v7 = .bool b ∧ Hid (b = (decide ((48 : Int) ≤ c) && decide ((c : Int) < 48 + (q : Int))) ∧ q ≤ 10 ∧ 10 - q ≤ n ∧ wi.heap[w.heap.size]? = some (.stringIter s (pos + (Utf8.decode s pos).2)) ∧ wi.heap[W.heap.size]? = some (.stringIter tenD q) ∧ Below w.heap.size w wi))
      case atStart =>
        obtain ⟨hk, hB⟩ := R.out
        have hlt : w.heap.size < W.heap.size := (Array.getElem?_eq_some_iff.1 hk).1
        refine ⟨0, false, rfl, ?_, Nat.zero_le _, Nat.le_refl _, ?_, World.iter_heap _ _ _, below_iter hB _ _⟩
        · rw [Bool.eq_iff_iff]; simp
        · rw [← hk]; exact Below.heap_alloc _ _ _ hlt
      case round =>
        obtain ⟨q, b, rfl, H2⟩ := hrel
        have hlt : w.heap.size < W.heap.size := (Array.getElem?_eq_some_iff.1 R.out.1).1
        by_cases hq : q < 10
        · obtain ⟨W2, hnx2, R2⟩ : ∃ W2, (∀ ty, (Instr.next (.pointer (some ⟨W.heap.size, 0, none⟩)) true ty).run Tryz.prog wr = .ok (.tuple #[.bool true, .int .i64 q, .int .i32 ((48 : Int) + (q : Int))]) W2) ∧ Hid (W2.heap[w.heap.size]? = some (.stringIter s (pos + (Utf8.decode s pos).2)) ∧ W2.heap[W.heap.size]? = some (.stringIter tenD (q + 1)) ∧ Below w.heap.size w W2) := by
            obtain ⟨_, _, _, hk1, hk, hB⟩ := H2.out
            obtain ⟨W2, h1, h2, h3, h4, h5⟩ := next_step (P := Tryz.prog) w wr W.heap.size tenD q hk hB (by omega) hq
            rw [tenD_dec q hq] at h1 h2
            exact ⟨W2, h1, by rw [h5 _ (by omega)]; exact hk1, h2, h3⟩
          cases b with
          | true =>
            go_wp2
            go_roundg (9 - q)
            case measure => have := H2.out.2.2.1; omega
            case rel =>
              obtain ⟨hb, hq1, _, _, _, _⟩ := H2.out
              refine ⟨q + 1, true, rfl, ?_, by omega, by omega, R2.out⟩
              rw [← eqDec _ _ hq hc0, ← hb]; rfl
          | false =>
            go_wp2
            go_roundg (9 - q)
            case measure => have := H2.out.2.2.1; omega
            case rel =>
              obtain ⟨hb, hq1, _, _, _, _⟩ := H2.out
              refine ⟨q + 1, _, rfl, ?_, by omega, by omega, R2.out⟩
              rw [← eqDec _ _ hq hc0, ← hb]; simp
        · have hnx2 : ∀ ty, (Instr.next (.pointer (some ⟨W.heap.size, 0, none⟩)) true ty).run Tryz.prog wr = .ok (.tuple #[.bool false]) wr := by
            obtain ⟨_, _, _, _, hk, _⟩ := H2.out
            exact fun ty => run_next_end_at wr _ tenD q ty hk hq
          have HB2 : Hid (b = (decide ((48 : Int) ≤ c) && decide ((c : Int) ≤ 57))) := by
            obtain ⟨hb, hq1, _⟩ := H2.out
            have : q = 10 := by omega
            subst this
            rw [hb]
            show _ = _
            congr 1
            rw [Bool.eq_iff_iff]; simp; omega
          have hdig : Hid (dig (s.data.toList[pos]'(by simpa using hp)) = b ∧ (b = true → (Utf8.decode s pos).2 = 1)) := digit_at s pos hp b (by rw [HB2.out, ← HC.out])
          cases b with
          | true =>
            go_wp2
            go_roundg (s.size - (pos + 1))
            case measure => have := H.out.2.1; omega
            case rel =>
              obtain ⟨_, _, _, hk, _, hB⟩ := H2.out
              obtain ⟨h1, h2, _, _, hd⟩ := H.out
              obtain ⟨g1, g2⟩ := hdig.out
              refine ⟨pos + 1, by omega, by omega, ?_, hB, drop_step _ _ _ g1 hd⟩
              rw [← g2 trivial]; exact hk
          | false =>
            go_wp2
            go_ret
            obtain ⟨_, _, _, hk, _, hB⟩ := H2.out
            obtain ⟨h1, h2, _, _, hd⟩ := H.out
            refine ⟨?_, hB⟩
            exact ret_str (by rw [drop_stop _ _ _ hdig.out.1 hd, str_from])
    · have hnx : ∀ ty, (Instr.next (.pointer (some ⟨w.heap.size, 0, none⟩)) true ty).run Tryz.prog wr = .ok (.tuple #[.bool false]) wr := by
        obtain ⟨_, _, hk, _⟩ := H.out
        exact fun ty => run_next_end_at wr _ s pos ty hk hp
      go_wp2
      go_ret
      obtain ⟨h1, _, _, hB, hd⟩ := H.out
      have : pos = s.size := by omega
      subst this
      refine ⟨?_, hB⟩
      rw [← hd, List.drop_eq_nil_of_le (by simp)]
      rfl
end Go.Proofs.YtadocbfchdendaaGreatDoor.Fx
namespace Go.Proofs.YtadocbfchdendaaGreatDoor.P
open Go.RowKit Go.Proofs.YtadocbfchdendaaGreatDoorW.PrintWords Go.Proofs.YtadocbfchdendaaGreatDoorW.PrintLast Go.Proofs.YtadocbfchdendaaGreatDoorW.PrintMore
attribute [local go_sem] max2_int min2_int max_two min_two max_three min_three max_four min_four
set_option linter.unusedVariables false
set_option linter.unusedSimpArgs false
def words_blank.f (a0 : Int) : Option (Bool) := if a0 = 32 then (some true) else (some (a0 == 9))
set_option maxHeartbeats 8000000 in
set_option maxRecDepth 100000 in
theorem words_blank.calls (a0 : Int) (r : Bool) (w : World) (h : words_blank.f a0 = some r) :
  Calls Tryz.prog 90 #[.int .i32 a0] w fun e w' => e = .returned (.bool r) ∧ Drawn0 w w' := by
 have H : (if a0 = 32 then (some true) else (some (a0 == 9))) = some r := h; clear h
 by_cases c2 : a0 = 32
 ·rw [if_pos c2] at H; have c2b0 := beq_iff_eq.mpr c2; have c2b1 := bne_eq_false_iff_eq.mpr c2; clear c2; obtain rfl := Option.some.inj H; go_enter Tryz.func90, Tryz.ntmps90
  go_wp2
  go_ret
  exact ⟨qr, qd⟩
 ·rw [if_neg c2] at H; have c2b0 := beq_eq_false_iff_ne.mpr c2; have c2b1 := bne_iff_ne.mpr c2; obtain rfl := Option.some.inj H; go_enter Tryz.func90, Tryz.ntmps90
  go_wp2
  go_ret
  exact ⟨qr, qd⟩
def words_places.f (a0 : ByteArray) (a1 : Int) (a2 : Int) : Option (Bool) := if 0 ≤ a1 then (if a1 ≤ a2 then (some (decide (a2 ≤ (a0.size : Int)))) else (some false)) else (some false)
set_option maxHeartbeats 8000000 in
set_option maxRecDepth 100000 in
theorem words_places.calls (a0 : ByteArray) (a1 : Int) (a2 : Int) (r : Bool) (w : World) (h : words_places.f a0 a1 a2 = some r) :
  Calls Tryz.prog 88 #[.string a0, .int .i64 a1, .int .i64 a2] w fun e w' => e = .returned (.bool r) ∧ Drawn0 w w' := by
 have H : (if 0 ≤ a1 then (if a1 ≤ a2 then (some (decide (a2 ≤ (a0.size : Int)))) else (some false)) else (some false)) = some r := h; clear h
 by_cases c4 : 0 ≤ a1
 ·rw [if_pos c4] at H; have c4b0 := decide_eq_true c4; clear c4
  by_cases c5 : a1 ≤ a2
  ·rw [if_pos c5] at H; have c5b0 := decide_eq_true c5; clear c5; obtain rfl := Option.some.inj H; go_enter Tryz.func88, Tryz.ntmps88
   go_wp2
   go_ret
   exact ⟨qr, qd⟩
  ·rw [if_neg c5] at H; have c5b0 := decide_eq_false c5; clear c5; obtain rfl := Option.some.inj H; go_enter Tryz.func88, Tryz.ntmps88
   go_wp2
   go_ret
   exact ⟨qr, qd⟩
 ·rw [if_neg c4] at H; have c4b0 := decide_eq_false c4; clear c4; obtain rfl := Option.some.inj H; go_enter Tryz.func88, Tryz.ntmps88
  go_wp2
  go_ret
  exact ⟨qr, qd⟩
end Go.Proofs.YtadocbfchdendaaGreatDoor.P
namespace Go.Proofs.YtadocbfchdendaaGreatDoor.Cu
open Go.RowKit Go.Lib Go.Proofs.YtadocbfchdendaaGreatDoorW.PrintWords Go.Proofs.YtadocbfchdendaaGreatDoor.P
set_option linter.unusedSimpArgs false
set_option linter.unusedVariables false
abbrev Wd := S105
def fieldsG : List UInt8 → Nat → Option Nat → List Wd
  | [], _, none => []
  | [], a, some b => [⟨b, a⟩]
  | c :: l, a, st => if blankC c then (match st with | none => fieldsG l (a + 1) none | some b => ⟨b, a⟩ :: fieldsG l (a + 1) none) else fieldsG l (a + 1) (some (st.getD a))
theorem fieldsG_skip (c : UInt8) (l : List UInt8) (a : Nat) (st : Option Nat) (h : blankC c = false) : fieldsG (c :: l) a st = fieldsG l (a + 1) (some (st.getD a)) := by
  cases st <;> simp [fieldsG, h]
theorem fieldsG_none (c : UInt8) (l : List UInt8) (a : Nat) (h : blankC c = true) : fieldsG (c :: l) a none = fieldsG l (a + 1) none := by
  simp [fieldsG, h]
theorem fieldsG_some (c : UInt8) (l : List UInt8) (a b : Nat) (h : blankC c = true) : fieldsG (c :: l) a (some b) = ⟨b, a⟩ :: fieldsG l (a + 1) none := by
  simp [fieldsG, h]
theorem fieldsG_len (l : List UInt8) : ∀ (a : Nat) (st : Option Nat), (fieldsG l a st).length ≤ l.length + 1 := by
  induction l with
  | nil => intro a st; cases st <;> simp [fieldsG]
  | cons c l ih =>
    intro a st
    cases hb : blankC c with
    | false => rw [fieldsG_skip _ _ _ _ hb]; have := ih (a + 1) (some (st.getD a)); simp; omega
    | true =>
      cases st with
      | none => rw [fieldsG_none _ _ _ hb]; have := ih (a + 1) none; simp; omega
      | some b => rw [fieldsG_some _ _ _ _ hb]; have := ih (a + 1) none; simp; omega
theorem fieldsG_run (w : Nat) : ∀ (l : List UInt8) (a : Nat) (st : Option Nat), w + 1 ≤ l.length → (∀ j c, j < w + 1 → l[j]? = some c → blankC c = false) → fieldsG l a st = fieldsG (l.drop (w + 1)) (a + (w + 1)) (some (st.getD a)) := by
  induction w with
  | zero =>
    intro l a st hl h
    cases l with
    | nil => simp at hl
    | cons c l =>
      rw [fieldsG_skip _ _ _ _ (h 0 c (by omega) rfl)]
      rfl
  | succ w ih =>
    intro l a st hl h
    cases l with
    | nil => simp at hl
    | cons c l =>
      rw [fieldsG_skip _ _ _ _ (h 0 c (by omega) rfl)]
      rw [ih l (a + 1) _ (by simp at hl; omega) (fun j d hj hd => h (j + 1) d (by omega) (by simpa using hd))]
      simp only [Option.getD_some]
      rw [show a + 1 + (w + 1) = a + (w + 1 + 1) by omega]
      rfl
theorem rune_bytes (s : ByteArray) (pos : Nat) (hp : pos < s.size) (hb : ¬ (((Utf8.decode s pos).1 = 32) ∨ ((Utf8.decode s pos).1 = 9))) :
    pos + (Utf8.decode s pos).2 ≤ s.size ∧ ∀ j c, j < (Utf8.decode s pos).2 → (s.data.toList.drop pos)[j]? = some c → blankC c = false := by
  have hL : s.data.toList.length = s.size := rfl
  have hd := Lib.decode_N s pos
  have hc := Lib.decodeN_conts (s.data.toList.length - pos) (s.data.toList.getD pos 0).toNat (s.data.toList.getD (pos + 1) 0).toNat (s.data.toList.getD (pos + 2) 0).toNat (s.data.toList.getD (pos + 3) 0).toNat
  have hw : (Utf8.decode s pos).2 ≤ s.data.toList.length - pos := by rw [← hd] at hc; omega
  rw [← hd] at hc
  refine ⟨by omega, fun j c hj hc' => ?_⟩
  rw [List.getElem?_drop] at hc'
  have hg : s.data.toList.getD (pos + j) 0 = c := by rw [List.getD_eq_getElem?_getD, hc']; rfl
  have key : ∀ x : UInt8, x.toNat / 64 = 2 → blankC x = false := by
    intro x hx
    unfold blankC
    have h1 : x ≠ 32 := by intro h; subst h; simp at hx
    have h2 : x ≠ 9 := by intro h; subst h; simp at hx
    simp [h1, h2]
  obtain ⟨c1, c2, c3, c4⟩ := hc
  have hj4 : j = 0 ∨ j = 1 ∨ j = 2 ∨ j = 3 := by omega
  rcases hj4 with rfl | rfl | rfl | rfl
  · rw [Nat.add_zero] at hg
    by_cases ha : c.toNat < 128
    · have hdec : (Utf8.decode s pos).1 = c.toNat := by
        rw [hd]
        unfold Lib.decodeN
        rw [hg, if_pos ha]
      rw [hdec] at hb
      unfold blankC
      have h1 : c ≠ 32 := by intro h; subst h; exact hb (.inl rfl)
      have h2 : c ≠ 9 := by intro h; subst h; exact hb (.inr rfl)
      simp [h1, h2]
    · unfold blankC
      have h1 : c ≠ 32 := by intro h; subst h; simp at ha
      have h2 : c ≠ 9 := by intro h; subst h; simp at ha
      simp [h1, h2]
  · exact key c (by rw [← hg]; exact (c1 (by omega)).1)
  · exact key c (by rw [← hg]; exact (c2 (by omega)).1)
  · exact key c (by rw [← hg]; exact (c3 (by omega)).1)
theorem rune_blank (s : ByteArray) (pos : Nat) (hp : pos < s.size) (hb : ((Utf8.decode s pos).1 = 32) ∨ ((Utf8.decode s pos).1 = 9)) :
    (Utf8.decode s pos).2 = 1 ∧ ∃ c, s.data.toList[pos]? = some c ∧ blankC c = true := by
  have hL : s.data.toList.length = s.size := rfl
  obtain ⟨c, hc⟩ : ∃ c, s.data.toList[pos]? = some c := ⟨_, List.getElem?_eq_getElem (by omega)⟩
  have hd := Lib.decode_N s pos
  have hg : s.data.toList.getD pos 0 = c := by rw [List.getD_eq_getElem?_getD, hc]; rfl
  rw [hg] at hd
  by_cases ha : c.toNat < 128
  · have hdec : Utf8.decode s pos = (c.toNat, 1) := by
      rw [hd]
      unfold Lib.decodeN
      rw [if_pos ha]
    rw [hdec] at hb ⊢
    refine ⟨rfl, c, hc, ?_⟩
    unfold blankC
    rcases hb with h | h
    · have : c = 32 := UInt8.toNat_inj.1 h
      simp [this]
    · have : c = 9 := UInt8.toNat_inj.1 h
      simp [this]
  · exfalso
    rw [hd] at hb
    unfold Lib.decodeN at hb
    rw [if_neg ha] at hb
    revert hb
    repeat' split
    all_goals (simp only; omega)
theorem appendedG {α : Type} (d : Kd α) (e t : Nat) {W w2 : World} {B base : Nat} {v v' : Value} {xs : List α} {x : α} {inner cs : List Value} {tmp : Obj} (hte : t ≠ e) (hE : ∀ q, q ∈ e :: d.E → q ≠ t) (bv : Boxed W B t v) (hbB : base ≤ B) (hbs : base ≤ W.heap.size)
    (h0 : ∀ k, v.ownBlock = some k → True) (hreps : Reps (d.M (W.alloc tmp) base (fun k => True ∧ some k ≠ v.ownBlock)) d.sz xs inner) (hown : (W.alloc tmp).ownsRow base e d.sz v xs.length inner) (hx : d.M (W.alloc tmp) base (fun _ => False) x cs)
    (hown' : w2.ownsRow base e d.sz v' (xs.length + 1) (inner ++ cs)) (hg : (W.alloc tmp).grownBy w2 v.ownBlock) (hat : v'.ownBlock = v.ownBlock ∨ v'.ownBlock = some (W.alloc tmp).heap.size) :
    Boxed w2 B t v ∧ Boxed (w2.setCell ⟨B, 0, none⟩ v') B t v' ∧ d.R e (w2.setCell ⟨B, 0, none⟩ v') base (fun _ => True) v' (xs ++ [x]) ∧ KeepsOthers W (w2.setCell ⟨B, 0, none⟩ v') ∧ Below base W (w2.setCell ⟨B, 0, none⟩ v') ∧
      (∀ (B2 t2 : Nat) (u : Value), B2 ≠ B → t2 ≠ e → Boxed W B2 t2 u → Boxed (w2.setCell ⟨B, 0, none⟩ v') B2 t2 u) := by
  have hbt : Below W.heap.size W (W.alloc tmp) := (Below.refl _ W).alloc (Nat.le_refl _) _
  have bt : Boxed (W.alloc tmp) B t v := (hbt.block B bv.lt).trans bv
  have hnr : some B ≠ v.ownBlock := bt.not_row hte hown
  have b2 : Boxed w2 B t v := bt.kept hg hnr
  have hcell : ∀ k o, (W.alloc tmp).heap[k]? = some o → v.ownBlock = some k → o.isCells = true := by
    intro k o hk he
    rcases hown.2 with ⟨rfl, _⟩ | ⟨g, cap, cur, rfl, _, hgb, _⟩
    · simp [Value.ownBlock] at he
    · obtain rfl : g = k := by simpa [Value.ownBlock] using he
      rw [hgb] at hk; cases hk; rfl
  have hR2 : d.R e w2 base (fun _ => True) v' (xs ++ [x]) :=
    Kd.R_appended (okp := fun _ => False) h0 hreps hx (fun _ h => h.elim) (fun _ _ => trivial) hown' hg (hat.imp id (fun h => ⟨_, h, Nat.le_refl _⟩))
  refine ⟨b2, b2.set v', Kd.R_set hR2 b2 hE 0 v', ?_, ?_, ?_⟩
  · exact ((KeepsOthers.of_grownBy (grown_none hbt) (fun j o ej _ => by cases ej)).trans (KeepsOthers.of_grownBy hg (fun j o ej hj => hcell j o hj ej))).trans (KeepsOthers.setCell _ _ _)
  · refine ((hbt.mono hbs).grown hg (Nat.le_trans hbs hbt.size) fun j ej => own_base hown j ej).setCell (p := ⟨B, 0, none⟩) hbB v'
  · intro B2 t2 u hne ht hb2
    have h1 : Boxed (W.alloc tmp) B2 t2 u := (hbt.block B2 hb2.lt).trans hb2
    have h2 : Boxed w2 B2 t2 u := h1.kept hg (h1.not_row ht hown)
    exact (Below.heap_setCell _ _ _ _ hne).trans h2
theorem info_word : (Tryz.prog.info? 105).map (fun i => (i.zero, i.size, i.bytes)) = some (some (.agg #[.int .i64 0, .int .i64 0]), 2, 16) := by kernel_rfl
def stv : Option Nat → Int
  | none => -1
  | some b => b
def endW (ws : List Wd) (st : Option Nat) (a : Nat) : List Wd := match st with | none => ws | some b => ws ++ [⟨b, a⟩]
structure EndPost (base Bo Bb : Nat) (ws : List Wd) (W W' : World) : Prop where
  beg : Boxed W' Bb 3 (.int .i64 (-1))
  out : ∃ v, Boxed W' Bo 30 v ∧ Kd.R k105 105 W' base (fun _ => True) v ws
  oth : KeepsOthers W W'
  bel : Below base W W'
set_option maxRecDepth 100000 in
set_option maxHeartbeats 2000000 in
theorem end_calls (base Bo Bb : Nat) (ai : Int) (at_ : Nat) (hai : ai = (at_ : Int)) (st : Option Nat) (ws : List Wd) (W : World) (hb : ∀ b, st = some b → b < 1000000000) (hbo : base ≤ Bo) (hbb : base ≤ Bb) (hne : Bo ≠ Bb) (hl : ws.length < 1000000000)
    (hB : Boxed W Bb 3 (.int .i64 (stv st))) (hO : ∃ v, Boxed W Bo 30 v ∧ Kd.R k105 105 W base (fun _ => True) v ws) (hbW : base ≤ W.heap.size) :
    Calls Tryz.prog 89 #[.int .i64 ai, .pointer (some ⟨Bb, 0, none⟩), .pointer (some ⟨Bo, 0, none⟩)] W fun e W' => (∃ v, e = .returned v) ∧ EndPost base Bo Bb (endW ws st at_) W W' := by
  subst hai
  obtain ⟨v, bv, hR⟩ := hO
  obtain ⟨i0, hi, hz0, hz1, hz2⟩ := info_parts info_word
  obtain ⟨A, c, rfl⟩ := Kd.R_slice hR
  have cb := hB.cell
  have fb := hB.frozen
  have cv := bv.cell
  cases st with
  | none =>
    simp only [stv] at cb fb hB
    go_enter Tryz.func89, Tryz.ntmps89
    go_wp2
    refine bodyPost_end (results_none rfl _ _ _) rfl ?_
    exact ⟨⟨_, rfl⟩, hB.set _, ⟨_, bv.other hne _, Kd.R_set hR hB (fun q hq => by have hq' : q ∈ [105] := hq; simp at hq'; omega) 0 _⟩, KeepsOthers.setCell _ _ _, (Below.refl _ _).setCell (p := ⟨Bb, 0, none⟩) hbb _⟩
  | some b =>
    simp only [stv] at cb fb hB
    have hb0 := hb b rfl
    have g0 : (0 : Int) ≤ (b : Int) := by omega
    obtain ⟨h0, inner, hown, hreps⟩ := Kd.R_below hR ((Below.refl _ W).alloc (Nat.le_refl _) (.cells #[.int .i64 b, .int .i64 at_] 105))
    go_enter Tryz.func89, Tryz.ntmps89
    go_wp2_with (at_builtin; go_loud (refine wpList_append_own_at _ rfl _ _ 30 rfl base 105 i0 (.agg #[.int .i64 0, .int .i64 0]) 2 16 Tryz.underlying30 hi hz0 hz1 hz2 rfl (by decide) _ _ _ rfl hown ⟨W.heap.size, 0, none⟩ 1 1 [.int .i64 b, .int .i64 at_] rfl rfl (cells_new _ _ _) (by simp [Value.oneCell']) (by unfold maxLen; omega) (by omega) (by simp; omega) ?_; intro v' w2 hown' hgrow _ hat; obtain ⟨g', cap', rfl⟩ := ownsRow_succ hown'; obtain ⟨b2, b3, hR3, hk3, hb3, ho3⟩ := appendedG (x := (⟨b, at_⟩ : Wd)) k105 105 30 (by decide) (fun q hq => by have hq' : q ∈ [105] := hq; simp at hq'; omega) bv hbo hbW h0 hreps hown (k105_mkM _ _ _ _) hown' hgrow hat; have cv2 := b2.cell; have fv2 := b2.frozen; have hB3 := ho3 Bb 3 _ (Ne.symm hne) (by decide) hB; have cb3 := hB3.cell; have fb3 := hB3.frozen))
    refine bodyPost_end (results_none rfl _ _ _) rfl ?_
    exact ⟨⟨_, rfl⟩, hB3.set _, ⟨_, b3.other hne _, Kd.R_set hR3 hB3 (fun q hq => by have hq' : q ∈ [105] := hq; simp at hq'; omega) 0 _⟩, hk3.trans (KeepsOthers.setCell _ _ _), hb3.setCell (p := ⟨Bb, 0, none⟩) hbb _⟩
structure FSt (w wr : World) (Bo Bb it a : Nat) (t : ByteArray) (pos : Nat) (st : Option Nat) (ws : List Wd) : Prop where
  le : pos ≤ t.size
  iter : wr.heap[it]? = some (.stringIter t pos)
  bel : Below w.heap.size w wr
  beg : Boxed wr Bb 3 (.int .i64 (stv st))
  out : ∃ v, Boxed wr Bo 30 v ∧ Kd.R k105 105 wr w.heap.size (fun _ => True) v ws
  eq : fieldsG t.data.toList a none = ws ++ fieldsG (t.data.toList.drop pos) (a + pos) st
  lo : ∀ b, st = some b → b < a + pos + 1
  len : ws.length ≤ pos
  bb : it < wr.heap.size
set_option maxRecDepth 100000 in
set_option maxHeartbeats 4000000 in
theorem Fields_calls (s : ByteArray) (hs : s.size < 1000000000) (a b : Nat) (h1 : a ≤ b) (h2 : b ≤ s.size) (w : World) :
    Calls Tryz.prog 48 #[.string s, .int .i64 a, .int .i64 b] w fun e W' => ∃ v, e = .returned v ∧ Kd.R k105 105 W' w.heap.size (fun _ => True) v (fieldsG ((s.data.toList.drop a).take (b - a)) a none) ∧ Below w.heap.size w W' := by
  have hP : words_places.f s a b = some true := by
    unfold words_places.f
    rw [if_pos (by omega), if_pos (by omega)]
    simp; omega
  have g1 : (0 : Int) ≤ (a : Int) := by omega
  have g2 : (a : Int) ≤ (b : Int) := by omega
  have g3 : (b : Int) ≤ (s.size : Int) := by omega
  obtain ⟨t, ht⟩ : ∃ t, s.extract a b = t := ⟨_, rfl⟩
  have htl : t.data.toList = (s.data.toList.drop a).take (b - a) := by rw [← ht, seg_data]
  have hts : t.size = b - a := by rw [← ht, ByteArray.size_extract]; omega
  rw [← htl]
  go_enter Tryz.func48, Tryz.ntmps48
  go_wp2_with (go_at_call 88; refine (words_places.calls s a b true _ hP).mono ?_; rintro e w1 ⟨rfl, nd, rfl⟩)
  try rw [ht]
  go_loopg [] t.size (fun n wr => ∃ (pos : Nat) (st : Option Nat) (ws : List Wd), t.size - pos ≤ n ∧ Hid (FSt w wr w.heap.size (w.heap.size + 1) (w.heap.size + 2) a t pos st ws))
  case atStart =>
    refine ⟨0, none, [], by omega, ?_⟩
    have hB1 : Below w.heap.size w (((w.alloc (.cells #[.slice none 0 0] 30)).drewN nd).alloc (.cells #[.int .i64 (-1)] 3)) := (Go.below_drewN ((Below.refl _ w).alloc (Nat.le_refl _) _) _).alloc (by simp) _
    have b0 : Boxed ((w.alloc (.cells #[.slice none 0 0] 30)).drewN nd) w.heap.size 30 (.slice none 0 0) := Boxed.new w _ _
    have b1 := Boxed.new ((w.alloc (.cells #[.slice none 0 0] 30)).drewN nd) 3 (.int .i64 (-1))
    have e1 : ((w.alloc (.cells #[.slice none 0 0] 30)).drewN nd).heap.size = w.heap.size + 1 := by simp
    rw [e1] at b1
    obtain ⟨W1, hW1⟩ : ∃ W1, ((w.alloc (.cells #[.slice none 0 0] 30)).drewN nd).alloc (.cells #[.int .i64 (-1)] 3) = W1 := ⟨_, rfl⟩
    have b0' := b0.alloc (.cells #[.int .i64 (-1)] 3)
    have hsz : W1.heap.size = w.heap.size + 2 := by rw [← hW1]; simp
    rw [hW1] at b1 b0' hB1 ⊢
    have hit : Below W1.heap.size W1 (W1.iter t 0) := (Below.refl _ W1).alloc (Nat.le_refl _) _
    have hi := World.iter_heap W1 t 0
    rw [hsz] at hi
    exact ⟨Nat.zero_le _, hi, hB1.trans (hit.mono (by omega)), (hit.block _ b1.lt).trans b1, ⟨_, (hit.block _ b0'.lt).trans b0', Kd.R_nil _ _ _ _ _⟩, by simp, by simp, by simp, lt_of_get hi⟩
  case round =>
    obtain ⟨pos, st, ws, hn, HF⟩ := hrel
    by_cases hp : pos < t.size
    · obtain ⟨hd1, hd2, hd3⟩ : 1 ≤ (Utf8.decode t pos).2 ∧ (Utf8.decode t pos).2 ≤ t.size - pos ∧ True := by
        refine ⟨Lib.width_pos t pos, ?_, trivial⟩
        by_cases hb : ((Utf8.decode t pos).1 = 32) ∨ ((Utf8.decode t pos).1 = 9)
        · have := (rune_blank t pos hp hb).1; omega
        · have := (rune_bytes t pos hp hb).1; omega
      obtain ⟨W, hnx, hW1, hW2, hW3, hW4⟩ := Fx.next_step (P := Tryz.prog) w wr (w.heap.size + 2) t pos HF.out.iter HF.out.bel (by omega) hp
      have bbg : Boxed W (w.heap.size + 1) 3 (.int .i64 (stv st)) := (hW4 _ (by omega)).trans HF.out.beg
      have bou : ∃ v, Boxed W w.heap.size 30 v ∧ Kd.R k105 105 W w.heap.size (fun _ => True) v ws := by
        obtain ⟨v, hv, hR⟩ := HF.out.out
        refine ⟨v, (hW4 _ (by omega)).trans hv, ?_⟩
        refine Kd.R_mono (Kd.R_move (Kd.R_bound hR) fun k hk => ?_) (fun k hk => hk.1)
        obtain ⟨_, _, _, q, _, cells, hc⟩ := hk
        refine hW4 k fun he => ?_
        rw [he, HF.out.iter] at hc
        cases hc
      have hTl : t.data.toList.length = t.size := rfl
      obtain ⟨c, hc⟩ : ∃ c, (Utf8.decode t pos).1 = c := ⟨_, rfl⟩
      obtain ⟨d, hd⟩ : ∃ d, (Utf8.decode t pos).2 = d := ⟨_, rfl⟩
      have hrb := rune_blank t pos hp
      have hry := rune_bytes t pos hp
      rw [hc, hd] at hrb hry
      rw [hc] at hnx
      rw [hd] at hW1 hd1 hd2
      have HRB := Lib.hid hrb
      have HRY := Lib.hid hry
      have HW := Lib.hid hW4
      clear hrb hry hW4
      have hlen := HF.out.len
      by_cases hb : c = 32 ∨ c = 9
      · have hbl : words_blank.f (c : Int) = some true := by
          unfold words_blank.f
          rcases hb with rfl | rfl <;> rfl
        go_wp2_with (first
          | (go_at_call 90; refine (words_blank.calls (c : Int) true _ hbl).mono ?_; rintro e w3 ⟨rfl, nd3, rfl⟩)
          | (go_at_call 89; refine (end_calls w.heap.size w.heap.size (w.heap.size + 1) _ (a + pos) (by omega) st ws (W.drewN nd3) (fun b hb => by have := HF.out.lo b hb; omega) (Nat.le_refl _) (by omega) (by omega) (by omega) bbg (by obtain ⟨v, h1, h2⟩ := bou; exact ⟨v, h1, Kd.R_drewN h2 nd3⟩) hW2.size).mono ?_; rintro e W5 ⟨⟨v5, rfl⟩, H5⟩))
        obtain ⟨hd0, c0, hc0, hbc⟩ := HRB.out hb
        go_roundg (t.size - (pos + 1))
        case measure => omega
        case rel =>
          refine ⟨pos + 1, none, endW ws st (a + pos), Nat.le_refl _, ?_⟩
          have hdrop : t.data.toList.drop pos = c0 :: t.data.toList.drop (pos + 1) := by
            rw [List.drop_eq_getElem_cons (show pos < t.data.toList.length by omega)]
            congr 1
            exact Option.some.inj ((List.getElem?_eq_getElem (show pos < t.data.toList.length by omega)).symm.trans hc0)
          refine ⟨by omega, H5.oth.same _ _ (by rw [← hd0]; exact hW1) rfl, hW2.trans ((Go.below_drewN (Below.refl _ W) nd3).trans H5.bel |> fun h => h.mono (Nat.le_refl _)), H5.beg, H5.out, ?_, by simp, ?_, ?_⟩
          · rw [HF.out.eq, hdrop]
            cases st with
            | none => rw [fieldsG_none _ _ _ hbc]; rfl
            | some b0 => rw [fieldsG_some _ _ _ _ hbc]; simp [endW, Nat.add_assoc]
          · cases st with
            | none => simp only [endW]; omega
            | some b0 => simp only [endW, List.length_append, List.length_cons, List.length_nil]; omega
          · have q1 := H5.oth.size; have q2 := lt_of_get hW1; have q3 : W.heap.size ≤ W5.heap.size := q1; omega
      · have hbl : words_blank.f (c : Int) = some false := by
          unfold words_blank.f
          rw [if_neg (by omega)]
          have : ((c : Int) == 9) = false := by rw [beq_eq_false_iff_ne]; omega
          rw [this]
        cases st with
        | none =>
          have cb := bbg.cell
          have fb := bbg.frozen
          simp only [stv] at cb fb
          go_wp2_with (go_at_call 90; refine (words_blank.calls (c : Int) false _ hbl).mono ?_; rintro e w3 ⟨rfl, nd3, rfl⟩)
          obtain ⟨hr1, hr2⟩ := HRY.out hb
          go_roundg (t.size - (pos + d))
          case measure => omega
          case rel =>
            refine ⟨pos + d, some (a + pos), ws, Nat.le_refl _, ?_⟩
            obtain ⟨d', rfl⟩ : ∃ d', d = d' + 1 := ⟨d - 1, by omega⟩
            have hrun := fieldsG_run d' (t.data.toList.drop pos) (a + pos) none (by rw [List.length_drop]; have : pos + (d' + 1) ≤ t.size := hr1; omega) (fun j c hj hc => hr2 j c hj hc)
            rw [List.drop_drop] at hrun
            refine ⟨by omega, (Below.heap_setCell _ _ _ _ (by simp)).trans hW1, (hW2.trans (Go.below_drewN (Below.refl _ W) nd3)).setCell (p := ⟨w.heap.size + 1, 0, none⟩) (by simp) _, ?_, ?_, ?_, ?_, by omega, ?_⟩
            · have := Boxed.set (W := W.drewN nd3) (.int .i64 (↑a + ↑pos)) bbg
              simpa [stv] using this
            · obtain ⟨v, hv, hR⟩ := bou
              exact ⟨v, Boxed.other (W := W.drewN nd3) hv (by omega) _, Kd.R_set (Kd.R_drewN hR nd3) (show Boxed (W.drewN nd3) (w.heap.size + 1) 3 _ from bbg) (fun q hq => by have hq' : q ∈ [105] := hq; simp at hq'; omega) 0 _⟩
            · rw [HF.out.eq, hrun, show a + pos + (d' + 1) = a + (pos + (d' + 1)) by omega]; rfl
            · intro b hb'; injection hb' with hb'; omega
            · have := lt_of_get hW1; simpa using this
        | some b0 =>
          have cb := bbg.cell
          simp only [stv] at cb
          have g0 : ¬ ((b0 : Int) < 0) := by omega
          go_wp2_with (go_at_call 90; refine (words_blank.calls (c : Int) false _ hbl).mono ?_; rintro e w3 ⟨rfl, nd3, rfl⟩)
          obtain ⟨hr1, hr2⟩ := HRY.out hb
          go_roundg (t.size - (pos + d))
          case measure => omega
          case rel =>
            refine ⟨pos + d, some (b0), ws, Nat.le_refl _, ?_⟩
            obtain ⟨d', rfl⟩ : ∃ d', d = d' + 1 := ⟨d - 1, by omega⟩
            have hrun := fieldsG_run d' (t.data.toList.drop pos) (a + pos) (some b0) (by rw [List.length_drop]; have : pos + (d' + 1) ≤ t.size := hr1; omega) (fun j c hj hc => hr2 j c hj hc)
            rw [List.drop_drop] at hrun
            refine ⟨by omega, hW1, hW2.trans (Go.below_drewN (Below.refl _ W) nd3), bbg, ?_, ?_, ?_, by omega, ?_⟩
            · obtain ⟨v, hv, hR⟩ := bou
              exact ⟨v, hv, Kd.R_drewN hR nd3⟩
            · rw [HF.out.eq, hrun, show a + pos + (d' + 1) = a + (pos + (d' + 1)) by omega]; rfl
            · intro b hb'; injection hb' with hb'; have := HF.out.lo b0 rfl; omega
            · have := lt_of_get hW1; simpa using this
    · have hps : pos = t.size := by have := HF.out.le; omega
      have hnx : ∀ ty, (Instr.next (.pointer (some ⟨w.heap.size + 2, 0, none⟩)) true ty).run Tryz.prog wr = .ok (.tuple #[.bool false]) wr := fun ty => run_next_end_at wr _ t pos ty HF.out.iter hp
      have hlen := HF.out.len
      have e0 : fieldsG t.data.toList a none = endW ws st b := by
        rw [HF.out.eq, hps, List.drop_of_length_le (show t.data.toList.length ≤ t.size from Nat.le_refl _), show a + t.size = b by omega]
        cases st <;> simp [fieldsG, endW]
      go_wp2_with (go_at_call 89; refine (end_calls w.heap.size w.heap.size (w.heap.size + 1) _ b rfl st ws wr (fun b hb => by have := HF.out.lo b hb; omega) (Nat.le_refl _) (by omega) (by omega) (by omega) HF.out.beg HF.out.out HF.out.bel.size).mono ?_; rintro e W5 ⟨⟨v5, rfl⟩, H5⟩; obtain ⟨v6, bv6, hR6⟩ := H5.out; obtain ⟨A6, c6, rfl⟩ := Kd.R_slice hR6; have cv6 := bv6.cell; have fv6 := bv6.frozen)
      have b7 := bv6.set (.slice A6 (endW ws st b).length c6)
      have c7 := b7.cell
      have hR7 := Kd.R_set hR6 bv6 (fun q hq => by have hq' : q ∈ [105] := hq; simp at hq'; omega) 0 (.slice A6 (endW ws st b).length c6)
      rw [e0]
      refine bodyPost_ret (v := .slice A6 (endW ws st b).length c6) ?_ rfl ⟨_, rfl, hR7, (HF.out.bel.trans (H5.bel)).setCell (p := ⟨w.heap.size, 0, none⟩) (by simp) _⟩
      simp [results, show Tryz.f48.results = #[.cell 6 30] from rfl, go_sem, c7]
set_option maxRecDepth 100000 in
set_option maxHeartbeats 4000000 in
theorem Fields_none (s : ByteArray) (a b : Int) (h : words_places.f s a b = some false) (w : World) :
    Calls Tryz.prog 48 #[.string s, .int .i64 a, .int .i64 b] w fun e W' => ∃ v, e = .returned v ∧ Kd.R k105 105 W' w.heap.size (fun _ => True) v ([] : List Wd) ∧ Below w.heap.size w W' := by
  go_enter Tryz.func48, Tryz.ntmps48
  go_wp2_with (go_at_call 88; refine (words_places.calls s a b false _ h).mono ?_; rintro e w1 ⟨rfl, nd, rfl⟩)
  have b0 : Boxed (((w.alloc (.cells #[.slice none 0 0] 30)).drewN nd).setCell ⟨w.heap.size, 0, none⟩ (.slice none 0 0)) w.heap.size 30 (.slice none 0 0) := Boxed.set (W := (w.alloc (.cells #[.slice none 0 0] 30)).drewN nd) (t := 30) (v := .slice none 0 0) _ (Boxed.new w _ _)
  have c0 := b0.cell
  refine bodyPost_ret (v := .slice none 0 0) ?_ rfl ⟨_, rfl, Kd.R_nil _ _ _ _ _, (Go.below_drewN ((Below.refl _ w).alloc (Nat.le_refl _) _) _).setCell (p := ⟨w.heap.size, 0, none⟩) (by simp) _⟩
  simp [results, show Tryz.f48.results = #[.cell 6 30] from rfl, go_sem, c0]
end Go.Proofs.YtadocbfchdendaaGreatDoor.Cu
namespace Go.Proofs.YtadocbfchdendaaGreatDoor.P
open Go.RowKit Go.Lib Go.Proofs.YtadocbfchdendaaGreatDoorW.PrintWords
set_option linter.unusedSimpArgs false
set_option linter.unusedVariables false
def words_Fields.f (a0 : ByteArray) (a1 a2 : Int) : Option (List S105) :=
  if a0.size < 1000000000 then (if 0 ≤ a1 ∧ a1 ≤ a2 ∧ a2 ≤ (a0.size : Int) then some (Cu.fieldsG ((a0.data.toList.drop a1.toNat).take (a2.toNat - a1.toNat)) a1.toNat none) else some []) else none
theorem words_Fields.calls (a0 : ByteArray) (a1 a2 : Int) (r : List S105) (w : World) (h : words_Fields.f a0 a1 a2 = some r) :
    Calls Tryz.prog 48 #[.string a0, .int .i64 a1, .int .i64 a2] w fun e w' => ∃ v0_ : Value, e = .returned (v0_) ∧ Kd.R k105 105 w' w.heap.size (fun _ => True) v0_ r ∧ Below w.heap.size w w' := by
  unfold words_Fields.f at h
  split at h
  · rename_i hs
    split at h
    · rename_i hb
      obtain rfl := Option.some.inj h
      obtain ⟨b1, b2, b3⟩ := hb
      have := Cu.Fields_calls a0 hs a1.toNat a2.toNat (by omega) (by omega) w
      rwa [Int.toNat_of_nonneg b1, Int.toNat_of_nonneg (by omega : 0 ≤ a2)] at this
    · rename_i hb
      obtain rfl := Option.some.inj h
      refine Cu.Fields_none a0 a1 a2 ?_ w
      unfold words_places.f
      split
      · split
        · rw [Option.some.injEq, decide_eq_false_iff_not]
          intro h3
          exact hb ⟨by assumption, by assumption, h3⟩
        · rfl
      · rfl
  · cases h
end Go.Proofs.YtadocbfchdendaaGreatDoor.P
namespace Go.Proofs.YtadocbfchdendaaGreatDoor.P
open Go.RowKit Go.Proofs.YtadocbfchdendaaGreatDoorW.PrintWords Go.Proofs.YtadocbfchdendaaGreatDoorW.PrintLast Go.Proofs.YtadocbfchdendaaGreatDoorW.PrintMore
attribute [local go_sem] max2_int min2_int max_two min_two max_three min_three max_four min_four
set_option linter.unusedVariables false
set_option linter.unusedSimpArgs false
def words_within.f (a0 : Int) (a1 : Int) (a2 : Int) : Option (Bool) := if a1 ≤ a0 then (some (decide (a0 ≤ a2))) else (some false)
set_option maxHeartbeats 8000000 in
set_option maxRecDepth 100000 in
theorem words_within.calls (a0 : Int) (a1 : Int) (a2 : Int) (r : Bool) (w : World) (h : words_within.f a0 a1 a2 = some r) :
  Calls Tryz.prog 126 #[.int .i32 a0, .int .i32 a1, .int .i32 a2] w fun e w' => e = .returned (.bool r) ∧ Drawn0 w w' := by
 have H : (if a1 ≤ a0 then (some (decide (a0 ≤ a2))) else (some false)) = some r := h; clear h
 by_cases c4 : a1 ≤ a0
 ·rw [if_pos c4] at H; have c4b0 := decide_eq_true c4; clear c4; obtain rfl := Option.some.inj H; go_enter Tryz.func126, Tryz.ntmps126
  go_wp2
  go_ret
  exact ⟨qr, qd⟩
 ·rw [if_neg c4] at H; have c4b0 := decide_eq_false c4; clear c4; obtain rfl := Option.some.inj H; go_enter Tryz.func126, Tryz.ntmps126
  go_wp2
  go_ret
  exact ⟨qr, qd⟩
def words_capital.f (a0 : Int) : Option (Bool) := (words_within.f a0 65 90).bind fun t101 => (if t101 = true then (some true) else ((words_within.f a0 48 57).bind fun t102 => (if t102 = true then (some true) else (some (a0 == 95)))))
set_option maxHeartbeats 8000000 in
set_option maxRecDepth 100000 in
theorem words_capital.calls (a0 : Int) (r : Bool) (w : World) (h : words_capital.f a0 = some r) :
  Calls Tryz.prog 125 #[.int .i32 a0] w fun e w' => e = .returned (.bool r) ∧ Drawn0 w w' := by
 have H : ((words_within.f a0 65 90).bind fun t101 => (if t101 = true then (some true) else ((words_within.f a0 48 57).bind fun t102 => (if t102 = true then (some true) else (some (a0 == 95)))))) = some r := h; clear h; replace H := Option.bind_eq_some_iff.mp H; obtain ⟨t101, A20, H⟩ := H; (try dsimp only at H); have A2 := Aside0.mk A20; clear A20
 by_cases c3 : t101 = true
 ·subst c3; have H1 : (some true) = some r := by rw [if_pos rfl] at H; exact H
  clear H; have H := H1; clear H1; obtain rfl := Option.some.inj H; go_enter Tryz.func125, Tryz.ntmps125
  go_wp2_with (first | ((with_reducible refine gate_callee (f := 126) rfl ?_); refine goesL_ (some 4) rfl rfl Tryz.func126 (by kernel_rfl) rfl #[.int .i32 a0, .int .i32 65, .int .i32 90] rfl qm ?_; (with_reducible refine (words_within.calls a0 65 90 true _ A2.out).mono ?_); rintro e w' ⟨rfl, ⟨nd, rfl⟩⟩; refine ⟨_, rfl, ?_⟩))
  go_ret
  exact ⟨qr, qd⟩
 ·replace c3 := Bool.eq_false_iff.mpr c3; subst c3; have H1 : ((words_within.f a0 48 57).bind fun t102 => (if t102 = true then (some true) else (some (a0 == 95)))) = some r := by rw [if_neg (show ¬ (false = true) by decide)] at H; exact H
  clear H; have H := H1; clear H1; replace H := Option.bind_eq_some_iff.mp H; obtain ⟨t102, A40, H⟩ := H; (try dsimp only at H); have A4 := Aside0.mk A40; clear A40
  by_cases c5 : t102 = true
  ·subst c5; have H1 : (some true) = some r := by rw [if_pos rfl] at H; exact H
   clear H; have H := H1; clear H1; obtain rfl := Option.some.inj H; go_enter Tryz.func125, Tryz.ntmps125
   go_wp2_with (first | ((with_reducible refine gate_callee (f := 126) rfl ?_); refine goesL_ (some 4) rfl rfl Tryz.func126 (by kernel_rfl) rfl #[.int .i32 a0, .int .i32 65, .int .i32 90] rfl qm ?_; (with_reducible refine (words_within.calls a0 65 90 false _ A2.out).mono ?_); rintro e w' ⟨rfl, ⟨nd, rfl⟩⟩; refine ⟨_, rfl, ?_⟩) | (go_at_call 126; (with_reducible refine (words_within.calls a0 48 57 true _ A4.out).mono ?_); rintro e w' ⟨rfl, ⟨nd, rfl⟩⟩))
   go_ret
   exact ⟨qr, qd⟩
  ·replace c5 := Bool.eq_false_iff.mpr c5; subst c5; have H1 : (some (a0 == 95)) = some r := by rw [if_neg (show ¬ (false = true) by decide)] at H; exact H
   clear H; have H := H1; clear H1; obtain rfl := Option.some.inj H; go_enter Tryz.func125, Tryz.ntmps125
   go_wp2_with (first | ((with_reducible refine gate_callee (f := 126) rfl ?_); refine goesL_ (some 4) rfl rfl Tryz.func126 (by kernel_rfl) rfl #[.int .i32 a0, .int .i32 65, .int .i32 90] rfl qm ?_; (with_reducible refine (words_within.calls a0 65 90 false _ A2.out).mono ?_); rintro e w' ⟨rfl, ⟨nd, rfl⟩⟩; refine ⟨_, rfl, ?_⟩) | (go_at_call 126; (with_reducible refine (words_within.calls a0 48 57 false _ A4.out).mono ?_); rintro e w' ⟨rfl, ⟨nd, rfl⟩⟩))
   go_ret
   exact ⟨qr, qd⟩
def words_named.f (a0 : Int) : Option (Bool) := (words_capital.f a0).bind fun t101 => (if t101 = true then (some true) else ((words_within.f a0 97 122).bind fun t102 => (if t102 = true then (some true) else (if a0 = 46 then (some true) else (some (a0 == 45))))))
set_option maxHeartbeats 8000000 in
set_option maxRecDepth 100000 in
theorem words_named.calls (a0 : Int) (r : Bool) (w : World) (h : words_named.f a0 = some r) :
  Calls Tryz.prog 110 #[.int .i32 a0] w fun e w' => e = .returned (.bool r) ∧ Drawn0 w w' := by
 have H : ((words_capital.f a0).bind fun t101 => (if t101 = true then (some true) else ((words_within.f a0 97 122).bind fun t102 => (if t102 = true then (some true) else (if a0 = 46 then (some true) else (some (a0 == 45))))))) = some r := h; clear h; replace H := Option.bind_eq_some_iff.mp H; obtain ⟨t101, A20, H⟩ := H; (try dsimp only at H); have A2 := Aside0.mk A20; clear A20
 by_cases c3 : t101 = true
 ·subst c3; have H1 : (some true) = some r := by rw [if_pos rfl] at H; exact H
  clear H; have H := H1; clear H1; obtain rfl := Option.some.inj H; go_enter Tryz.func110, Tryz.ntmps110
  go_wp2_with (first | ((with_reducible refine gate_callee (f := 125) rfl ?_); refine goesL_ (some 4) rfl rfl Tryz.func125 (by kernel_rfl) rfl #[.int .i32 a0] rfl qm ?_; (with_reducible refine (words_capital.calls a0 true _ A2.out).mono ?_); rintro e w' ⟨rfl, ⟨nd, rfl⟩⟩; refine ⟨_, rfl, ?_⟩))
  go_ret
  exact ⟨qr, qd⟩
 ·replace c3 := Bool.eq_false_iff.mpr c3; subst c3; have H1 : ((words_within.f a0 97 122).bind fun t102 => (if t102 = true then (some true) else (if a0 = 46 then (some true) else (some (a0 == 45))))) = some r := by rw [if_neg (show ¬ (false = true) by decide)] at H; exact H
  clear H; have H := H1; clear H1; replace H := Option.bind_eq_some_iff.mp H; obtain ⟨t102, A40, H⟩ := H; (try dsimp only at H); have A4 := Aside0.mk A40; clear A40
  by_cases c5 : t102 = true
  ·subst c5; have H1 : (some true) = some r := by rw [if_pos rfl] at H; exact H
   clear H; have H := H1; clear H1; obtain rfl := Option.some.inj H; go_enter Tryz.func110, Tryz.ntmps110
   go_wp2_with (first | ((with_reducible refine gate_callee (f := 125) rfl ?_); refine goesL_ (some 4) rfl rfl Tryz.func125 (by kernel_rfl) rfl #[.int .i32 a0] rfl qm ?_; (with_reducible refine (words_capital.calls a0 false _ A2.out).mono ?_); rintro e w' ⟨rfl, ⟨nd, rfl⟩⟩; refine ⟨_, rfl, ?_⟩) | (go_at_call 126; (with_reducible refine (words_within.calls a0 97 122 true _ A4.out).mono ?_); rintro e w' ⟨rfl, ⟨nd, rfl⟩⟩))
   go_ret
   exact ⟨qr, qd⟩
  ·replace c5 := Bool.eq_false_iff.mpr c5; subst c5; have H1 : (if a0 = 46 then (some true) else (some (a0 == 45))) = some r := by rw [if_neg (show ¬ (false = true) by decide)] at H; exact H
   clear H; have H := H1; clear H1
   by_cases c6 : a0 = 46
   ·rw [if_pos c6] at H; have c6b0 := beq_iff_eq.mpr c6; have c6b1 := bne_eq_false_iff_eq.mpr c6; clear c6; obtain rfl := Option.some.inj H; go_enter Tryz.func110, Tryz.ntmps110
    go_wp2_with (first | ((with_reducible refine gate_callee (f := 125) rfl ?_); refine goesL_ (some 4) rfl rfl Tryz.func125 (by kernel_rfl) rfl #[.int .i32 a0] rfl qm ?_; (with_reducible refine (words_capital.calls a0 false _ A2.out).mono ?_); rintro e w' ⟨rfl, ⟨nd, rfl⟩⟩; refine ⟨_, rfl, ?_⟩) | (go_at_call 126; (with_reducible refine (words_within.calls a0 97 122 false _ A4.out).mono ?_); rintro e w' ⟨rfl, ⟨nd, rfl⟩⟩))
    go_ret
    exact ⟨qr, qd⟩
   ·rw [if_neg c6] at H; have c6b0 := beq_eq_false_iff_ne.mpr c6; have c6b1 := bne_iff_ne.mpr c6; obtain rfl := Option.some.inj H; go_enter Tryz.func110, Tryz.ntmps110
    go_wp2_with (first | ((with_reducible refine gate_callee (f := 125) rfl ?_); refine goesL_ (some 4) rfl rfl Tryz.func125 (by kernel_rfl) rfl #[.int .i32 a0] rfl qm ?_; (with_reducible refine (words_capital.calls a0 false _ A2.out).mono ?_); rintro e w' ⟨rfl, ⟨nd, rfl⟩⟩; refine ⟨_, rfl, ?_⟩) | (go_at_call 126; (with_reducible refine (words_within.calls a0 97 122 false _ A4.out).mono ?_); rintro e w' ⟨rfl, ⟨nd, rfl⟩⟩))
    go_ret
    exact ⟨qr, qd⟩
end Go.Proofs.YtadocbfchdendaaGreatDoor.P
namespace Go.Proofs.YtadocbfchdendaaGreatDoor.Cu
open Go.RowKit Go.Lib Go.Proofs.YtadocbfchdendaaGreatDoorW.PrintWords Go.Proofs.YtadocbfchdendaaGreatDoor.P
set_option linter.unusedSimpArgs false
set_option linter.unusedVariables false
def capB (c : UInt8) : Bool := (decide (65 ≤ c.toNat) && decide (c.toNat ≤ 90)) || ((decide (48 ≤ c.toNat) && decide (c.toNat ≤ 57)) || c == 95)
def namB (c : UInt8) : Bool := capB c || ((decide (97 ≤ c.toNat) && decide (c.toNat ≤ 122)) || (c == 46 || c == 45))
def clsN (B : UInt8 → Bool) (c : Nat) : Bool := decide (c < 128) && B (UInt8.ofNat c)
def allS (B : UInt8 → Bool) (l : List UInt8) : Bool := !l.isEmpty && (decide (l.length ≤ 40) && l.all B)
theorem clsN_cap (c : Nat) : clsN capB c = decide ((65 ≤ c ∧ c ≤ 90) ∨ (48 ≤ c ∧ c ≤ 57) ∨ c = 95) := by
  have h1 : (UInt8.ofNat c).toNat = c % 256 := by simp
  have h2 : (UInt8.ofNat c = 95) ↔ c % 256 = 95 := ⟨fun h => by rw [← h1, h]; rfl, fun h => UInt8.toNat_inj.1 (by rw [h1, h]; rfl)⟩
  unfold clsN capB
  rw [h1, Bool.eq_iff_iff]
  simp only [Bool.and_eq_true, Bool.or_eq_true, decide_eq_true_eq, beq_iff_eq, h2]
  omega
theorem clsN_nam (c : Nat) : clsN namB c = decide (((65 ≤ c ∧ c ≤ 90) ∨ (48 ≤ c ∧ c ≤ 57) ∨ c = 95) ∨ (97 ≤ c ∧ c ≤ 122) ∨ c = 46 ∨ c = 45) := by
  have h1 : (UInt8.ofNat c).toNat = c % 256 := by simp
  have h2 : (UInt8.ofNat c = 95) ↔ c % 256 = 95 := ⟨fun h => by rw [← h1, h]; rfl, fun h => UInt8.toNat_inj.1 (by rw [h1, h]; rfl)⟩
  have h3 : (UInt8.ofNat c = 46) ↔ c % 256 = 46 := ⟨fun h => by rw [← h1, h]; rfl, fun h => UInt8.toNat_inj.1 (by rw [h1, h]; rfl)⟩
  have h4 : (UInt8.ofNat c = 45) ↔ c % 256 = 45 := ⟨fun h => by rw [← h1, h]; rfl, fun h => UInt8.toNat_inj.1 (by rw [h1, h]; rfl)⟩
  unfold clsN namB capB
  rw [h1, Bool.eq_iff_iff]
  simp only [Bool.and_eq_true, Bool.or_eq_true, decide_eq_true_eq, beq_iff_eq, h2, h3, h4]
  omega
theorem ib (c n : Nat) : ((c : Int) == (n : Int)) = decide (c = n) := by rw [Bool.eq_iff_iff]; simp; omega
theorem cap_eq (c : Nat) : words_capital.f (c : Int) = some (clsN capB c) := by
  have b : ((c : Int) == 95) = decide (c = 95) := ib c 95
  rw [clsN_cap]
  unfold words_capital.f words_within.f
  by_cases g1 : (65 : Int) ≤ c <;> by_cases g2 : (c : Int) ≤ 90 <;> by_cases g3 : (48 : Int) ≤ c <;> by_cases g4 : (c : Int) ≤ 57 <;> by_cases g5 : c = 95 <;> simp [g1, g2, g3, g4, g5, b] <;> omega
theorem nam_eq (c : Nat) : words_named.f (c : Int) = some (clsN namB c) := by
  have b1 : ((c : Int) == 46) = decide (c = 46) := ib c 46
  have b2 : ((c : Int) == 45) = decide (c = 45) := ib c 45
  have b3 : ((c : Int) = 46) ↔ c = 46 := by omega
  have b4 : ((c : Int) = 45) ↔ c = 45 := by omega
  unfold words_named.f
  rw [cap_eq, clsN_nam, clsN_cap]
  unfold words_within.f
  obtain ⟨q, hq⟩ : ∃ q : Bool, decide ((65 ≤ c ∧ c ≤ 90) ∨ (48 ≤ c ∧ c ≤ 57) ∨ c = 95) = q := ⟨_, rfl⟩
  rw [Bool.decide_or (p := (65 ≤ c ∧ c ≤ 90) ∨ (48 ≤ c ∧ c ≤ 57) ∨ c = 95), hq]
  clear hq
  cases q <;> by_cases g1 : (97 : Int) ≤ c <;> by_cases g2 : (c : Int) ≤ 122 <;> by_cases g3 : c = 46 <;> by_cases g4 : c = 45 <;> simp [g1, g2, g3, g4, b1, b2, b3, b4] <;> omega
theorem capB_asc (c : UInt8) (h : capB c = true) : c.toNat < 128 := by
  unfold capB at h
  simp at h
  rcases h with h | h | h
  · omega
  · omega
  · rw [h]; decide
theorem namB_asc (c : UInt8) (h : namB c = true) : c.toNat < 128 := by
  unfold namB at h
  simp at h
  rcases h with h | h | h | h
  · exact capB_asc c h
  · omega
  · rw [h]; decide
  · rw [h]; decide
theorem rune_cls (B : UInt8 → Bool) (hB : ∀ c, B c = true → c.toNat < 128) (s : ByteArray) (pos : Nat) (hp : pos < s.size) :
    ∃ c, s.data.toList[pos]? = some c ∧ clsN B (Utf8.decode s pos).1 = B c ∧ (B c = true → (Utf8.decode s pos).2 = 1) := by
  have hL : s.data.toList.length = s.size := rfl
  obtain ⟨c, hc⟩ : ∃ c, s.data.toList[pos]? = some c := ⟨_, List.getElem?_eq_getElem (by omega)⟩
  have hd := Lib.decode_N s pos
  have hg : s.data.toList.getD pos 0 = c := by rw [List.getD_eq_getElem?_getD, hc]; rfl
  rw [hg] at hd
  refine ⟨c, hc, ?_⟩
  by_cases ha : c.toNat < 128
  · have hdec : Utf8.decode s pos = (c.toNat, 1) := by
      rw [hd]
      unfold Lib.decodeN
      rw [if_pos ha]
    rw [hdec]
    refine ⟨?_, fun _ => rfl⟩
    unfold clsN
    rw [decide_eq_true ha, Bool.true_and]
    congr 1
    exact UInt8.toNat_inj.1 (by simp only [UInt8.toNat_ofNat']; omega)
  · have hb : B c = false := by
      cases h : B c with
      | false => rfl
      | true => exact absurd (hB c h) ha
    have hn : ¬ (Utf8.decode s pos).1 < 128 := by
      rw [hd]
      unfold Lib.decodeN
      rw [if_neg ha]
      repeat' split
      all_goals (simp only; omega)
    refine ⟨?_, fun h => by rw [hb] at h; cases h⟩
    unfold clsN
    rw [decide_eq_false hn, hb]
    rfl
structure ASt (w wr : World) (s : ByteArray) (B : UInt8 → Bool) (pos : Nat) : Prop where
  le : pos ≤ s.size
  iter : wr.heap[w.heap.size]? = some (.stringIter s pos)
  bel : Below w.heap.size w wr
  alls : (s.data.toList.take pos).all B = true
set_option maxRecDepth 100000 in
set_option maxHeartbeats 4000000 in
theorem all_nam (s : ByteArray) (hs : s.size < 1000000000) (w : World) :
    Calls Tryz.prog 109 #[.string s, .func (.func 110) #[] #[]] w fun e W' => e = .returned (.bool (allS namB s.data.toList)) ∧ Below w.heap.size w W' := by
  have hL : s.data.toList.length = s.size := rfl
  have HL := Lib.hid hL
  clear hL
  go_enter Tryz.func109, Tryz.ntmps109
  go_wp2_with fail
  go_loopg [] s.size (fun n wr => ∃ (pos : Nat), s.size - pos ≤ n ∧ Hid (ASt w wr s namB pos))
  case atStart =>
    exact ⟨0, by omega, Nat.zero_le _, World.iter_heap w s 0, (Below.refl _ w).alloc (Nat.le_refl _) _, by simp⟩
  case round =>
    obtain ⟨pos, hn, HF⟩ := hrel
    by_cases hp : pos < s.size
    · obtain ⟨W, hnx, hW1, hW2, hW3, hW4⟩ := Fx.next_step (P := Tryz.prog) w wr w.heap.size s pos HF.out.iter HF.out.bel (Nat.le_refl _) hp
      obtain ⟨b, hb1, hb2, hb3⟩ := rune_cls namB namB_asc s pos hp
      obtain ⟨c, hc⟩ : ∃ c, (Utf8.decode s pos).1 = c := ⟨_, rfl⟩
      obtain ⟨d, hd⟩ : ∃ d, (Utf8.decode s pos).2 = d := ⟨_, rfl⟩
      rw [hc] at hnx hb2
      rw [hd] at hW1 hb3
      have hcall := fun W => words_named.calls (c : Int) _ W (nam_eq c)
      rw [hb2] at hcall
      have HH := Lib.hid hcall
      have H3 := Lib.hid hb3
      have HW4 := Lib.hid hW4
      have Hb1 := Lib.hid hb1
      clear hcall hb3 hW4 hb1 hb2
      cases hBb : namB b with
      | true =>
        rw [hBb] at HH H3
        have hd1 := H3.out rfl
        rw [hd1] at hW1
        clear H3
        have HBb := Lib.hid hBb
        clear hBb hd1 hd hc
        go_wp2_with (go_at_call 110; refine (HH.out _).mono ?_; rintro e w3 ⟨rfl, nd3, rfl⟩)
        go_roundg (s.size - (pos + 1))
        case measure => omega
        case rel =>
          refine ⟨pos + 1, Nat.le_refl _, by omega, hW1, hW2.trans ((Go.below_drewN (Below.refl _ W) nd3).mono hW2.size), ?_⟩
          rw [List.take_add_one, Hb1.out, List.all_append, HF.out.alls]
          simp [HBb.out]
      | false =>
        rw [hBb] at HH
        have HBb := Lib.hid hBb
        clear hBb H3 hd hc
        go_wp2_with (go_at_call 110; refine (HH.out _).mono ?_; rintro e w3 ⟨rfl, nd3, rfl⟩)
        go_ret
        refine ⟨?_, hW2.trans ((Go.below_drewN (Below.refl _ W) nd3).mono hW2.size)⟩
        have hf : s.data.toList.all namB = false := by
          rw [List.all_eq_false]
          exact ⟨b, List.mem_of_getElem? Hb1.out, by rw [HBb.out]; simp⟩
        unfold allS
        rw [hf]
        simp
    · have hps : pos = s.size := by have := HF.out.le; omega
      have hnx : ∀ ty, (Instr.next (.pointer (some ⟨w.heap.size, 0, none⟩)) true ty).run Tryz.prog wr = .ok (.tuple #[.bool false]) wr := fun ty => run_next_end_at wr _ s pos ty HF.out.iter hp
      have hA : s.data.toList.all namB = true := by
        have := HF.out.alls
        rwa [hps, List.take_of_length_le (Nat.le_of_eq HL.out)] at this
      have HA := Lib.hid hA
      clear hA hps
      by_cases h0 : s.size = 0
      · have hs0 : s = ⟨#[]⟩ := by
          have : s.data.toList = [] := List.eq_nil_of_length_eq_zero (by rw [HL.out]; exact h0)
          cases s with
          | mk d => simp at this; rw [this]
        have he : allS namB s.data.toList = false := by rw [hs0]; rfl
        have HE := Lib.hid he
        have h1 : s.toList.isEmpty = true := by rw [hs0, ByteArray.toList_eq]; rfl
        have h2 : (!s.toList.isEmpty) = false := by rw [h1]; rfl
        clear he
        clear hs0 h0
        go_wp2
        go_ret
        exact ⟨by rw [HE.out]; rfl, HF.out.bel⟩
      · have hne : s.data.toList.isEmpty = false := by
          cases h : s.data.toList with
          | nil => rw [h] at HL; exact absurd HL.out.symm h0
          | cons a l => rfl
        have HN := Lib.hid hne
        have h1 : s.toList.isEmpty = false := by rw [ByteArray.toList_eq]; exact hne
        have h2 : (!s.toList.isEmpty) = true := by rw [h1]; rfl
        by_cases h40 : s.size ≤ 40
        · have he : allS namB s.data.toList = true := by
            unfold allS
            rw [HA.out, HL.out, HN.out]
            simp [h40]
          have HE := Lib.hid he
          have h41 : decide ((s.size : Int) ≤ 40) = true := decide_eq_true (by omega)
          clear he
          go_wp2
          go_ret
          exact ⟨by rw [HE.out]; rfl, HF.out.bel⟩
        · have he : allS namB s.data.toList = false := by
            unfold allS
            rw [HL.out]
            simp [h40]
          have HE := Lib.hid he
          have h41 : decide ((s.size : Int) ≤ 40) = false := decide_eq_false (by omega)
          clear he
          go_wp2
          go_ret
          exact ⟨by rw [HE.out]; rfl, HF.out.bel⟩
set_option maxRecDepth 100000 in
set_option maxHeartbeats 4000000 in
theorem all_cap (s : ByteArray) (hs : s.size < 1000000000) (w : World) :
    Calls Tryz.prog 109 #[.string s, .func (.func 125) #[] #[]] w fun e W' => e = .returned (.bool (allS capB s.data.toList)) ∧ Below w.heap.size w W' := by
  have hL : s.data.toList.length = s.size := rfl
  have HL := Lib.hid hL
  clear hL
  go_enter Tryz.func109, Tryz.ntmps109
  go_wp2_with fail
  go_loopg [] s.size (fun n wr => ∃ (pos : Nat), s.size - pos ≤ n ∧ Hid (ASt w wr s capB pos))
  case atStart =>
    exact ⟨0, by omega, Nat.zero_le _, World.iter_heap w s 0, (Below.refl _ w).alloc (Nat.le_refl _) _, by simp⟩
  case round =>
    obtain ⟨pos, hn, HF⟩ := hrel
    by_cases hp : pos < s.size
    · obtain ⟨W, hnx, hW1, hW2, hW3, hW4⟩ := Fx.next_step (P := Tryz.prog) w wr w.heap.size s pos HF.out.iter HF.out.bel (Nat.le_refl _) hp
      obtain ⟨b, hb1, hb2, hb3⟩ := rune_cls capB capB_asc s pos hp
      obtain ⟨c, hc⟩ : ∃ c, (Utf8.decode s pos).1 = c := ⟨_, rfl⟩
      obtain ⟨d, hd⟩ : ∃ d, (Utf8.decode s pos).2 = d := ⟨_, rfl⟩
      rw [hc] at hnx hb2
      rw [hd] at hW1 hb3
      have hcall := fun W => words_capital.calls (c : Int) _ W (cap_eq c)
      rw [hb2] at hcall
      have HH := Lib.hid hcall
      have H3 := Lib.hid hb3
      have HW4 := Lib.hid hW4
      have Hb1 := Lib.hid hb1
      clear hcall hb3 hW4 hb1 hb2
      cases hBb : capB b with
      | true =>
        rw [hBb] at HH H3
        have hd1 := H3.out rfl
        rw [hd1] at hW1
        clear H3
        have HBb := Lib.hid hBb
        clear hBb hd1 hd hc
        go_wp2_with (go_at_call 125; refine (HH.out _).mono ?_; rintro e w3 ⟨rfl, nd3, rfl⟩)
        go_roundg (s.size - (pos + 1))
        case measure => omega
        case rel =>
          refine ⟨pos + 1, Nat.le_refl _, by omega, hW1, hW2.trans ((Go.below_drewN (Below.refl _ W) nd3).mono hW2.size), ?_⟩
          rw [List.take_add_one, Hb1.out, List.all_append, HF.out.alls]
          simp [HBb.out]
      | false =>
        rw [hBb] at HH
        have HBb := Lib.hid hBb
        clear hBb H3 hd hc
        go_wp2_with (go_at_call 125; refine (HH.out _).mono ?_; rintro e w3 ⟨rfl, nd3, rfl⟩)
        go_ret
        refine ⟨?_, hW2.trans ((Go.below_drewN (Below.refl _ W) nd3).mono hW2.size)⟩
        have hf : s.data.toList.all capB = false := by
          rw [List.all_eq_false]
          exact ⟨b, List.mem_of_getElem? Hb1.out, by rw [HBb.out]; simp⟩
        unfold allS
        rw [hf]
        simp
    · have hps : pos = s.size := by have := HF.out.le; omega
      have hnx : ∀ ty, (Instr.next (.pointer (some ⟨w.heap.size, 0, none⟩)) true ty).run Tryz.prog wr = .ok (.tuple #[.bool false]) wr := fun ty => run_next_end_at wr _ s pos ty HF.out.iter hp
      have hA : s.data.toList.all capB = true := by
        have := HF.out.alls
        rwa [hps, List.take_of_length_le (Nat.le_of_eq HL.out)] at this
      have HA := Lib.hid hA
      clear hA hps
      by_cases h0 : s.size = 0
      · have hs0 : s = ⟨#[]⟩ := by
          have : s.data.toList = [] := List.eq_nil_of_length_eq_zero (by rw [HL.out]; exact h0)
          cases s with
          | mk d => simp at this; rw [this]
        have he : allS capB s.data.toList = false := by rw [hs0]; rfl
        have HE := Lib.hid he
        have h1 : s.toList.isEmpty = true := by rw [hs0, ByteArray.toList_eq]; rfl
        have h2 : (!s.toList.isEmpty) = false := by rw [h1]; rfl
        clear he
        clear hs0 h0
        go_wp2
        go_ret
        exact ⟨by rw [HE.out]; rfl, HF.out.bel⟩
      · have hne : s.data.toList.isEmpty = false := by
          cases h : s.data.toList with
          | nil => rw [h] at HL; exact absurd HL.out.symm h0
          | cons a l => rfl
        have HN := Lib.hid hne
        have h1 : s.toList.isEmpty = false := by rw [ByteArray.toList_eq]; exact hne
        have h2 : (!s.toList.isEmpty) = true := by rw [h1]; rfl
        by_cases h40 : s.size ≤ 40
        · have he : allS capB s.data.toList = true := by
            unfold allS
            rw [HA.out, HL.out, HN.out]
            simp [h40]
          have HE := Lib.hid he
          have h41 : decide ((s.size : Int) ≤ 40) = true := decide_eq_true (by omega)
          clear he
          go_wp2
          go_ret
          exact ⟨by rw [HE.out]; rfl, HF.out.bel⟩
        · have he : allS capB s.data.toList = false := by
            unfold allS
            rw [HL.out]
            simp [h40]
          have HE := Lib.hid he
          have h41 : decide ((s.size : Int) ≤ 40) = false := decide_eq_false (by omega)
          clear he
          go_wp2
          go_ret
          exact ⟨by rw [HE.out]; rfl, HF.out.bel⟩
end Go.Proofs.YtadocbfchdendaaGreatDoor.Cu
namespace Go.Proofs.YtadocbfchdendaaGreatDoor.P
open Go.RowKit Go.Lib Go.Proofs.YtadocbfchdendaaGreatDoorW.PrintWords
set_option linter.unusedSimpArgs false
set_option linter.unusedVariables false
def words_all_nam.f (a0 : ByteArray) (_ : Unit) : Option Bool := if a0.size < 1000000000 then some (Cu.allS Cu.namB a0.data.toList) else none
theorem words_all_nam.calls (a0 : ByteArray) (a1 : Unit) (r : Bool) (w : World) (h : words_all_nam.f a0 a1 = some r) :
    Calls Tryz.prog 109 #[.string a0, .func (.func 110) #[] #[]] w fun e w' => e = .returned (.bool r) ∧ Below w.heap.size w w' := by
  unfold words_all_nam.f at h
  split at h
  · rename_i hs
    obtain rfl := Option.some.inj h
    exact Cu.all_nam a0 hs w
  · cases h
def words_all_cap.f (a0 : ByteArray) (_ : Unit) : Option Bool := if a0.size < 1000000000 then some (Cu.allS Cu.capB a0.data.toList) else none
theorem words_all_cap.calls (a0 : ByteArray) (a1 : Unit) (r : Bool) (w : World) (h : words_all_cap.f a0 a1 = some r) :
    Calls Tryz.prog 109 #[.string a0, .func (.func 125) #[] #[]] w fun e w' => e = .returned (.bool r) ∧ Below w.heap.size w w' := by
  unfold words_all_cap.f at h
  split at h
  · rename_i hs
    obtain rfl := Option.some.inj h
    exact Cu.all_cap a0 hs w
  · cases h
end Go.Proofs.YtadocbfchdendaaGreatDoor.P
namespace Go.Proofs.YtadocbfchdendaaGreatDoor.P
open Go.RowKit Go.Proofs.YtadocbfchdendaaGreatDoorW.PrintWords Go.Proofs.YtadocbfchdendaaGreatDoorW.PrintLast Go.Proofs.YtadocbfchdendaaGreatDoorW.PrintMore
attribute [local go_sem] max2_int min2_int max_two min_two max_three min_three max_four min_four
set_option linter.unusedVariables false
set_option linter.unusedSimpArgs false
def words_Name.f (a0 : ByteArray) : Option (Bool) := (words_all_nam.f a0 ()).bind fun t101 => (some t101)
set_option maxHeartbeats 8000000 in
set_option maxRecDepth 100000 in
theorem words_Name.calls (a0 : ByteArray) (r : Bool) (w : World) (h : words_Name.f a0 = some r) :
  Calls Tryz.prog 66 #[.string a0] w fun e w' => e = .returned (.bool r) ∧ Below w.heap.size w w' := by
 have HB := Aside0.mk (Below.refl w.heap.size w); have H : ((words_all_nam.f a0 ()).bind fun t101 => (some t101)) = some r := h; clear h; replace H := Option.bind_eq_some_iff.mp H; obtain ⟨t101, A20, H⟩ := H; (try dsimp only at H); have A2 := Aside0.mk A20; clear A20; obtain rfl := Option.some.inj H; go_enter Tryz.func66, Tryz.ntmps66
 go_wp2_with (first | ((with_reducible refine gate_callee (f := 109) rfl ?_); refine goesL_ (some 4) rfl rfl Tryz.func109 (by kernel_rfl) rfl #[.string a0, .func (.func 110) #[] #[]] rfl qm ?_; (with_reducible refine (words_all_nam.calls a0 () t101 _ A2.out).mono ?_); rintro e w3 ⟨rfl, hb⟩; refine ⟨_, rfl, ?_⟩; replace HB := cB HB hb; (try clear hb); (try clear hb2); (try clear hk); (try clear hi)))
 go_ret
 exact ⟨qe, qb⟩
mutual
def tour_PrintTour.j0 : Nat → ByteArray → Bool → List (List Int) → Option (ByteArray)
 | 0, _, _, _ => none
 | k + 1, x0, x33, x102000 => if x33 = true then (some (⟨#[]⟩ : ByteArray)) else (if 0 < (x102000.length : Int) then (if 7 + x0.size ≤ 9223372036854775807 then ((strconv_Itoa.f ((rd_L14 x102000 0).length : Int)).bind fun t106 => (if 12 + t106.size ≤ 9223372036854775807 then (tour_PrintTour.l0 k (rd_L14 x102000 0) (([(⟨#[78, 65, 77, 69, 32, 58, 32]⟩ : ByteArray) ++ x0, (⟨#[84, 89, 80, 69, 32, 58, 32, 84, 79, 85, 82]⟩ : ByteArray), (⟨#[68, 73, 77, 69, 78, 83, 73, 79, 78, 32, 58, 32]⟩ : ByteArray) ++ t106, (⟨#[84, 79, 85, 82, 95, 83, 69, 67, 84, 73, 79, 78]⟩ : ByteArray)] : List ByteArray)) (rd_L14 x102000 0) ((rd_L14 x102000 0).length : Int) 0) else (none))) else (none)) else (none))
def tour_PrintTour.l0 : Nat → List Int → List ByteArray → List Int → Int → Int → Option (ByteArray)
 | 0, _, _, _, _, _ => none
 | k + 1, x5, x6, x45, x46, x47 => if x47 < x46 then (if 0 ≤ x47 then (if x47 < (x45.length : Int) then (if (rd x45 x47) < 0 then (some (⟨#[]⟩ : ByteArray)) else (if (rd x45 x47) ≥ (x5.length : Int) then (some (⟨#[]⟩ : ByteArray)) else ((strconv_Itoa.f (wrap64 ((rd x45 x47) + 1))).bind fun t111 => (if x6.length < 8796093022208 then (tour_PrintTour.l0 k x5 (x6 ++ [t111]) x45 x46 (wrap64 (x47 + 1))) else (none))))) else (none)) else (none)) else ((some (([(⟨#[45, 49]⟩ : ByteArray), (⟨#[69, 79, 70]⟩ : ByteArray), (⟨#[]⟩ : ByteArray)] : List ByteArray) : List ByteArray)).bind fun y115 => (if x6.length + y115.length < 8796093022208 then ((strings_Join.f (x6 ++ y115) (⟨#[10]⟩ : ByteArray)).bind fun t121 => (some t121)) else (none)))
end
def tour_PrintTour.f (k : Nat) (a0 : ByteArray) (l1_0 : List (List Int)) : Option (ByteArray) := (words_Name.f a0).bind fun t102 => (if t102 = true then (if (l1_0.length : Int) = 1 then (if 0 < (l1_0.length : Int) then (if ((rd_L14 l1_0 0).length : Int) < 1 then (tour_PrintTour.j0 k a0 true l1_0) else (tour_PrintTour.j0 k a0 (decide (((rd_L14 l1_0 0).length : Int) > 400)) l1_0)) else (none)) else (tour_PrintTour.j0 k a0 true l1_0)) else (tour_PrintTour.j0 k a0 true l1_0))
theorem tour_PrintTour.mono_l : ∀ k, (∀ y0 y1 y2, LeO (tour_PrintTour.j0 k y0 y1 y2) (tour_PrintTour.j0 (k + 1) y0 y1 y2)) ∧ (∀ y0 y1 y2 y3 y4, LeO (tour_PrintTour.l0 k y0 y1 y2 y3 y4) (tour_PrintTour.l0 (k + 1) y0 y1 y2 y3 y4))
 | 0 => ⟨fun _ _ _ r h => by simp [tour_PrintTour.j0] at h, fun _ _ _ _ _ r h => by simp [tour_PrintTour.l0] at h⟩
 | k + 1 => by
  obtain ⟨ih0, ih1⟩ := tour_PrintTour.mono_l k; refine ⟨?_, ?_⟩
  ·intro y0 y1 y2
   unfold tour_PrintTour.j0
   repeat' first
   | (with_reducible exact ih0 _ _ _)
   | (with_reducible exact ih1 _ _ _ _ _)
   | (with_reducible exact LeO.refl _)
   | (with_reducible exact LeO.none _)
   | (with_reducible refine LeO.ite ?_ ?_)
   | (with_reducible refine LeO.bind ?_ (fun _ => ?_))
   | exact ih0 _ _ _
   | exact ih1 _ _ _ _ _
   | exact LeO.none _
   | refine LeO.ite ?_ ?_
   | refine LeO.bind ?_ (fun _ => ?_)
  ·intro y0 y1 y2 y3 y4
   unfold tour_PrintTour.l0
   repeat' first
   | (with_reducible exact ih0 _ _ _)
   | (with_reducible exact ih1 _ _ _ _ _)
   | (with_reducible exact LeO.refl _)
   | (with_reducible exact LeO.none _)
   | (with_reducible refine LeO.ite ?_ ?_)
   | (with_reducible refine LeO.bind ?_ (fun _ => ?_))
   | exact ih0 _ _ _
   | exact ih1 _ _ _ _ _
   | exact LeO.none _
   | refine LeO.ite ?_ ?_
   | refine LeO.bind ?_ (fun _ => ?_)
theorem tour_PrintTour.mono : ∀ a0 a1 k, LeO (tour_PrintTour.f k a0 a1) (tour_PrintTour.f (k + 1) a0 a1) := by
 intro a0 a1 k
 obtain ⟨ih0, ih1⟩ := tour_PrintTour.mono_l k; unfold tour_PrintTour.f
 repeat' first
   | (with_reducible exact ih0 _ _ _)
   | (with_reducible exact ih1 _ _ _ _ _)
   | (with_reducible exact LeO.refl _)
   | (with_reducible exact LeO.none _)
   | (with_reducible refine LeO.ite ?_ ?_)
   | (with_reducible refine LeO.bind ?_ (fun _ => ?_))
   | exact ih0 _ _ _
   | exact ih1 _ _ _ _ _
   | exact LeO.none _
   | refine LeO.ite ?_ ?_
   | refine LeO.bind ?_ (fun _ => ?_)
set_option maxHeartbeats 8000000 in
set_option maxRecDepth 100000 in
theorem tour_PrintTour.calls (k : Nat) (a0 : ByteArray) (A1_0 : Option Addr) (c1_0 : Nat) (l1_0 : List (List Int)) (r : ByteArray) (w : World) (hr1_0 : Kd.C (Kd.slice 3 (Kd.int .i64)) w A1_0 l1_0.length l1_0) (hc1_0 : l1_0.length ≤ c1_0) (hT : Tabs w) (h : tour_PrintTour.f k a0 l1_0 = some r) :
  Calls Tryz.prog 40 #[.string a0, .agg #[.slice A1_0 l1_0.length c1_0]] w fun e w' => e = .returned (.string r) ∧ Below w.heap.size w w' := by
 have hu70 := Tryz.underlying70; have HT0 := Aside0.mk hT; clear hT; have HR1_0 := Aside0.mk hr1_0; have HC1_0 := Aside0.mk hc1_0; clear hr1_0 hc1_0; have HB := Aside0.mk (Below.refl w.heap.size w); have H : ((words_Name.f a0).bind fun t102 => (if t102 = true then (if (l1_0.length : Int) = 1 then (if 0 < (l1_0.length : Int) then (if ((rd_L14 l1_0 0).length : Int) < 1 then (tour_PrintTour.j0 k a0 true l1_0) else (tour_PrintTour.j0 k a0 (decide (((rd_L14 l1_0 0).length : Int) > 400)) l1_0)) else (none)) else (tour_PrintTour.j0 k a0 true l1_0)) else (tour_PrintTour.j0 k a0 true l1_0))) = some r := h; clear h; have HC3 := Aside0.mk H; clear H; go_enter Tryz.func40, Tryz.ntmps40
 go_upto_region 1 with (first | ((with_reducible refine gate_dst (N := 3) rfl ?_); (try (refine gate_guard (by rfl) ?_; dsimp only)); refine box_ev (N := 3) (cs := #[.slice A1_0 l1_0.length c1_0]) (t := 70) ?_; intro gb101 hg w4 hbox hb; have BK101 := Aside0.mk (hbox); have GW101 := Aside0.mk ((qg : w.heap.size ≤ gb101)); have GE101 := Aside0.mk ((qg : w.heap.size ≤ gb101)); replace HB := cB HB hb; clear hb hbox hg))
 (try simp only [Act.put, List.setIfInBounds_toArray, List.set_cons_zero, List.set_cons_succ])
 go_cut [33] (fun v33 wc => ∃ (kq : Nat) (x33_2 : Bool), v33 = .bool x33_2 ∧ Aside0 (tour_PrintTour.j0 kq a0 x33_2 l1_0 = some r) ∧ Aside0 (kq ≤ k) ∧ Aside0 (wc.heap[gb101]? = some (.cells #[(.slice A1_0 l1_0.length c1_0)] 70 (0, 0))) ∧ Aside0 (Below w.heap.size w wc))
 case first =>
  have H := HC3.out; clear HC3; replace H := Option.bind_eq_some_iff.mp H; obtain ⟨t102, A50, H⟩ := H; (try dsimp only at H); have A5 := Aside0.mk A50; clear A50
  by_cases c6 : t102 = true
  ·subst c6; have H1 : (if (l1_0.length : Int) = 1 then (if 0 < (l1_0.length : Int) then (if ((rd_L14 l1_0 0).length : Int) < 1 then (tour_PrintTour.j0 k a0 true l1_0) else (tour_PrintTour.j0 k a0 (decide (((rd_L14 l1_0 0).length : Int) > 400)) l1_0)) else (none)) else (tour_PrintTour.j0 k a0 true l1_0)) = some r := by rw [if_pos rfl] at H; exact H
   clear H; have H := H1; clear H1
   by_cases c7 : (l1_0.length : Int) = 1
   ·rw [if_pos c7] at H; have c7b0 := beq_iff_eq.mpr c7; have c7b1 := bne_eq_false_iff_eq.mpr c7; clear c7; (first | rw [c7b0] | (simp only [i64_w, i32_w]; rw [c7b0]) | skip)
    by_cases c8 : 0 < (l1_0.length : Int)
    ·rw [if_pos c8] at H; have c8b0 := decide_eq_true c8; have c8b1 : decide (0 < l1_0.length) = true := decide_eq_true (by omega); clear c8
     by_cases c9 : ((rd_L14 l1_0 0).length : Int) < 1
     ·rw [if_pos c9] at H; have c9b0 := decide_eq_true c9; have c9b1 : decide ((rd_L14 l1_0 0).length < 1) = true := decide_eq_true (by omega); clear c9; have H' := Aside0.mk H; clear H
      go_wp2_with (first | ((with_reducible refine gate_callee (f := 66) rfl ?_); refine goesL_ (some 10) rfl rfl Tryz.func66 (by kernel_rfl) rfl #[.string a0] rfl qm ?_; (with_reducible refine (words_Name.calls a0 true _ A5.out).mono ?_); rintro e w10 ⟨rfl, hb⟩; refine ⟨_, rfl, ?_⟩; replace BK101 := cK BK101 hb; replace HB := cB HB hb; (try clear hb); (try clear hb2); (try clear hk); (try clear hi); have hcz11_0 : w10.cell? ⟨gb101, 0, none⟩ = some (.slice A1_0 l1_0.length c1_0) := (blk_cell BK101.out 0).trans rfl; have hfz11_0 := blk_frozen BK101.out 0; have p103 : 0 ≤ (0 : Int) := (by omega); have q103 : 0 < (l1_0.length : Int) := of_decide_eq_true qa; obtain ⟨ad103, A103_0, c103_0, e103, hx103_0, hl103_0, hi103_0⟩ := at_L14 HR1_0.out 0 p103 q103; cases e103; have qi103 : (0 < l1_0.length) = True := eq_true (by omega); (try rw [show ((0 : Int)).toNat = 0 from rfl] at hx103_0); (try rw [Addr.add_zero'] at hx103_0); replace hx103_0 := (HB.out.cell (World.block_lt_of_cell? w _ hx103_0)).trans hx103_0; have HR103_0 := Aside0.mk hi103_0; have HC103_0 := Aside0.mk hl103_0; clear hi103_0 hl103_0; (try simp only [Go.IntWalk.toNatUp] at hx103_0); replace p103 := eq_true p103; replace q103 := eq_true q103))
      go_meet
      case rel => exact ⟨_, (true), qr, H', ⟨by first | omega | exact Nat.le_refl _⟩, ⟨qk BK101.out⟩, ⟨qb⟩⟩
     ·rw [if_neg c9] at H; have c9b0 := decide_eq_false c9; have c9b1 : decide ((rd_L14 l1_0 0).length < 1) = false := decide_eq_false (by omega); clear c9; have H' := Aside0.mk H; clear H
      go_wp2_with (first | ((with_reducible refine gate_callee (f := 66) rfl ?_); refine goesL_ (some 10) rfl rfl Tryz.func66 (by kernel_rfl) rfl #[.string a0] rfl qm ?_; (with_reducible refine (words_Name.calls a0 true _ A5.out).mono ?_); rintro e w12 ⟨rfl, hb⟩; refine ⟨_, rfl, ?_⟩; replace BK101 := cK BK101 hb; replace HB := cB HB hb; (try clear hb); (try clear hb2); (try clear hk); (try clear hi); have hcz13_0 : w12.cell? ⟨gb101, 0, none⟩ = some (.slice A1_0 l1_0.length c1_0) := (blk_cell BK101.out 0).trans rfl; have hfz13_0 := blk_frozen BK101.out 0; have p103 : 0 ≤ (0 : Int) := (by omega); have q103 : 0 < (l1_0.length : Int) := of_decide_eq_true qa; obtain ⟨ad103, A103_0, c103_0, e103, hx103_0, hl103_0, hi103_0⟩ := at_L14 HR1_0.out 0 p103 q103; cases e103; have qi103 : (0 < l1_0.length) = True := eq_true (by omega); (try rw [show ((0 : Int)).toNat = 0 from rfl] at hx103_0); (try rw [Addr.add_zero'] at hx103_0); replace hx103_0 := (HB.out.cell (World.block_lt_of_cell? w _ hx103_0)).trans hx103_0; have HR103_0 := Aside0.mk hi103_0; have HC103_0 := Aside0.mk hl103_0; clear hi103_0 hl103_0; (try simp only [Go.IntWalk.toNatUp] at hx103_0); replace p103 := eq_true p103; replace q103 := eq_true q103; have p104 : 0 ≤ (0 : Int) := (by omega); have q104 : 0 < (l1_0.length : Int) := of_decide_eq_true qa; obtain ⟨ad104, A104_0, c104_0, e104, hx104_0, hl104_0, hi104_0⟩ := at_L14 HR1_0.out 0 p104 q104; obtain rfl : ad103 = ad104 := (by injection e104); have qi104 : (0 < l1_0.length) = True := eq_true (by omega); (try rw [show ((0 : Int)).toNat = 0 from rfl] at hx104_0); (try rw [Addr.add_zero'] at hx104_0); replace hx104_0 := (HB.out.cell (World.block_lt_of_cell? w _ hx104_0)).trans hx104_0; have HR104_0 := Aside0.mk hi104_0; have HC104_0 := Aside0.mk hl104_0; clear hi104_0 hl104_0; (try simp only [Go.IntWalk.toNatUp] at hx104_0); replace p104 := eq_true p104; replace q104 := eq_true q104; have ea_ := Option.some.inj (hx103_0.symm.trans hx104_0); injection ea_ with ea_ en_ ec_; subst ea_; subst ec_; clear en_))
      go_meet
      case rel => exact ⟨_, (decide (((rd_L14 l1_0 0).length : Int) > 400)), qr, H', ⟨by first | omega | exact Nat.le_refl _⟩, ⟨qk BK101.out⟩, ⟨qb⟩⟩
    ·rw [if_neg c8] at H
     exact absurd H (by simp)
   ·rw [if_neg c7] at H; have c7b0 := beq_eq_false_iff_ne.mpr c7; have c7b1 := bne_iff_ne.mpr c7; (first | rw [c7b0] | (simp only [i64_w, i32_w]; rw [c7b0]) | skip); have H' := Aside0.mk H; clear H
    go_wp2_with (first | ((with_reducible refine gate_callee (f := 66) rfl ?_); refine goesL_ (some 10) rfl rfl Tryz.func66 (by kernel_rfl) rfl #[.string a0] rfl qm ?_; (with_reducible refine (words_Name.calls a0 true _ A5.out).mono ?_); rintro e w14 ⟨rfl, hb⟩; refine ⟨_, rfl, ?_⟩; replace BK101 := cK BK101 hb; replace HB := cB HB hb; (try clear hb); (try clear hb2); (try clear hk); (try clear hi); have hcz15_0 : w14.cell? ⟨gb101, 0, none⟩ = some (.slice A1_0 l1_0.length c1_0) := (blk_cell BK101.out 0).trans rfl; have hfz15_0 := blk_frozen BK101.out 0))
    go_meet
    case rel => exact ⟨_, (true), qr, H', ⟨by first | omega | exact Nat.le_refl _⟩, ⟨qk BK101.out⟩, ⟨qb⟩⟩
  ·replace c6 := Bool.eq_false_iff.mpr c6; subst c6; have H1 : (tour_PrintTour.j0 k a0 true l1_0) = some r := by rw [if_neg (show ¬ (false = true) by decide)] at H; exact H
   clear H; have H := H1; clear H1; have H' := Aside0.mk H; clear H
   go_wp2_with (first | ((with_reducible refine gate_callee (f := 66) rfl ?_); refine goesL_ (some 10) rfl rfl Tryz.func66 (by kernel_rfl) rfl #[.string a0] rfl qm ?_; (with_reducible refine (words_Name.calls a0 false _ A5.out).mono ?_); rintro e w16 ⟨rfl, hb⟩; refine ⟨_, rfl, ?_⟩; replace BK101 := cK BK101 hb; replace HB := cB HB hb; (try clear hb); (try clear hb2); (try clear hk); (try clear hi)))
   go_meet
   case rel => exact ⟨_, (true), qr, H', ⟨by first | omega | exact Nat.le_refl _⟩, ⟨qk BK101.out⟩, ⟨qb⟩⟩
 case rest =>
  clear HC3; (try clear c1); (try clear p1); (try clear q1); (try clear hx1); (try clear qi1); (try clear p2); (try clear c4); (try clear c6); (try clear c7); (try clear c7b0); (try clear c7b1); (try clear c8); (try clear c8b0); (try clear c8b1); (try clear c9); (try clear c9b0); (try clear c9b1); (try clear c10); (try clear p10); (try clear q10); (try clear hx10); (try clear qi10); (try clear hcz11_0); (try clear hcz13_0); (try clear hcz15_0); (try clear hfz11_0); (try clear hfz13_0); (try clear hfz15_0); (try clear hx103_0); (try clear hx104_0); (try clear p103); (try clear p104); (try clear q103); (try clear q104); obtain ⟨kq, x33_2, rfl, HA, HJ2, BK101, HB⟩ := hcut; cases kq with
  | zero => exact absurd HA.out (by simp [tour_PrintTour.j0])
  | succ kj2 =>
   have H := HA.out; clear HA; simp only [tour_PrintTour.j0] at H
   by_cases c17 : x33_2 = true
   ·subst c17; have H1 : (some (⟨#[]⟩ : ByteArray)) = some r := by rw [if_pos rfl] at H; exact H
    clear H; have H := H1; clear H1; obtain rfl := Option.some.inj H
    go_wp2
    go_ret
    exact ⟨qe, qb⟩
   ·replace c17 := Bool.eq_false_iff.mpr c17; subst c17; have H1 : (if 0 < (l1_0.length : Int) then (if 7 + a0.size ≤ 9223372036854775807 then ((strconv_Itoa.f ((rd_L14 l1_0 0).length : Int)).bind fun t106 => (if 12 + t106.size ≤ 9223372036854775807 then (tour_PrintTour.l0 kj2 (rd_L14 l1_0 0) (([(⟨#[78, 65, 77, 69, 32, 58, 32]⟩ : ByteArray) ++ a0, (⟨#[84, 89, 80, 69, 32, 58, 32, 84, 79, 85, 82]⟩ : ByteArray), (⟨#[68, 73, 77, 69, 78, 83, 73, 79, 78, 32, 58, 32]⟩ : ByteArray) ++ t106, (⟨#[84, 79, 85, 82, 95, 83, 69, 67, 84, 73, 79, 78]⟩ : ByteArray)] : List ByteArray)) (rd_L14 l1_0 0) ((rd_L14 l1_0 0).length : Int) 0) else (none))) else (none)) else (none)) = some r := by rw [if_neg (show ¬ (false = true) by decide)] at H; exact H
    clear H; have H := H1; clear H1
    by_cases c18 : 0 < (l1_0.length : Int)
    ·rw [if_pos c18] at H; have c18b0 := decide_eq_true c18; have c18b1 : decide (0 < l1_0.length) = true := decide_eq_true (by omega); clear c18
     by_cases c19 : 7 + a0.size ≤ 9223372036854775807
     ·rw [if_pos c19] at H; have c19b0 := eq_true c19; have c19b1 := decide_eq_true c19
      try have c19b2 : (9223372036854775807 < 7 + a0.size) = False := eq_false (Nat.not_lt.2 c19)
      replace H := Option.bind_eq_some_iff.mp H; obtain ⟨t106, A200, H⟩ := H; (try dsimp only at H); have A20 := Aside0.mk A200; clear A200
      by_cases c21 : 12 + t106.size ≤ 9223372036854775807
      ·rw [if_pos c21] at H; have c21b0 := eq_true c21; have c21b1 := decide_eq_true c21
       try have c21b2 : (9223372036854775807 < 12 + t106.size) = False := eq_false (Nat.not_lt.2 c21)
       obtain ⟨y107, hy107⟩ : ∃ y_ : List ByteArray, y_ = (([(⟨#[78, 65, 77, 69, 32, 58, 32]⟩ : ByteArray) ++ a0, (⟨#[84, 89, 80, 69, 32, 58, 32, 84, 79, 85, 82]⟩ : ByteArray), (⟨#[68, 73, 77, 69, 78, 83, 73, 79, 78, 32, 58, 32]⟩ : ByteArray) ++ t106, (⟨#[84, 79, 85, 82, 95, 83, 69, 67, 84, 73, 79, 78]⟩ : ByteArray)] : List ByteArray)) := ⟨_, rfl⟩; replace H : (tour_PrintTour.l0 kj2 (rd_L14 l1_0 0) y107 (rd_L14 l1_0 0) ((rd_L14 l1_0 0).length : Int) 0) = some r := by first | (rw [hy107]; with_reducible exact H) | (have H2_ := (Option.bind_some _ _).symm.trans H; rw [hy107]; with_reducible exact H2_) | (have H2_ := (Option.bind_some _ _).symm.trans H; with_reducible exact H2_) | with_reducible exact H | (rw [hy107]; exact H) | exact H
       have Ny107 := Aside0.mk hy107; clear hy107; have H' := Aside0.mk H; clear H; obtain ⟨hcz22_0, hfz22_0⟩ := bc1 BK101.out; have p105 : 0 ≤ (0 : Int) := (by omega); have q105 : 0 < (l1_0.length : Int) := of_decide_eq_true qa; obtain ⟨ad105, A105_0, c105_0, e105, hx105_0, hl105_0, hi105_0⟩ := at_L14 HR1_0.out 0 p105 q105; cases e105; have qi105 : (0 < l1_0.length) = True := eq_true (by omega); (try rw [show ((0 : Int)).toNat = 0 from rfl] at hx105_0); (try rw [Addr.add_zero'] at hx105_0); replace hx105_0 := (HB.out.cell (World.block_lt_of_cell? w _ hx105_0)).trans hx105_0; have HR105_0 := Aside0.mk hi105_0; have HC105_0 := Aside0.mk hl105_0; clear hi105_0 hl105_0; (try simp only [Go.IntWalk.toNatUp] at hx105_0); replace p105 := eq_true p105; replace q105 := eq_true q105
       go_wp2_with (first | ((with_reducible refine gate_callee (f := 80) rfl ?_); refine goesL_ (some 42) rfl rfl Tryz.func80 (by kernel_rfl) rfl #[.int .i64 ((rd_L14 l1_0 0).length : Int)] rfl qm ?_; (with_reducible refine (strconv_Itoa.calls ((rd_L14 l1_0 0).length : Int) t106 _ (Tabs.kept HT0.out qb) A20.out).mono ?_); rintro e w23 ⟨rfl, hb⟩; refine ⟨_, rfl, ?_⟩; replace BK101 := cK BK101 hb; replace HB := cB HB hb; (try clear hb); (try clear hb2); (try clear hk); (try clear hi)) | ((with_reducible refine gate_dst (N := 44) rfl ?_); (try (refine gate_guard (by rfl) ?_; dsimp only)); refine Kd.R_lit Kd.string _ 9 ?hg (N := 44) ?hd (xs := ([(⟨#[78, 65, 77, 69, 32, 58, 32]⟩ : ByteArray) ++ a0, (⟨#[84, 89, 80, 69, 32, 58, 32, 84, 79, 85, 82]⟩ : ByteArray), (⟨#[68, 73, 77, 69, 78, 83, 73, 79, 78, 32, 58, 32]⟩ : ByteArray) ++ t106, (⟨#[84, 79, 85, 82, 95, 83, 69, 67, 84, 73, 79, 78]⟩ : ByteArray)] : List ByteArray)) (inner := [.string ((⟨#[78, 65, 77, 69, 32, 58, 32]⟩ : ByteArray) ++ a0), .string (⟨#[84, 89, 80, 69, 32, 58, 32, 84, 79, 85, 82]⟩ : ByteArray), .string ((⟨#[68, 73, 77, 69, 78, 83, 73, 79, 78, 32, 58, 32]⟩ : ByteArray) ++ t106), .string (⟨#[84, 79, 85, 82, 95, 83, 69, 67, 84, 73, 79, 78]⟩ : ByteArray)]) (ok := fun _ => True) (okp := fun _ => True) ?hr ?hp (fun _ hk => hk) trivial (Below.refl _ _) (Nat.le_refl _) (by simp) ?_; (case hd => rfl); (case hg => rfl); (case hr => first | (go_simp; done) | (go_simp; rfl)); (case hp => exact (Reps.one (show Kd.M Kd.string _ _ _ ((⟨#[78, 65, 77, 69, 32, 58, 32]⟩ : ByteArray) ++ a0) [.string ((⟨#[78, 65, 77, 69, 32, 58, 32]⟩ : ByteArray) ++ a0)] from rfl) (Reps.one (show Kd.M Kd.string _ _ _ (⟨#[84, 89, 80, 69, 32, 58, 32, 84, 79, 85, 82]⟩ : ByteArray) [.string (⟨#[84, 89, 80, 69, 32, 58, 32, 84, 79, 85, 82]⟩ : ByteArray)] from rfl) (Reps.one (show Kd.M Kd.string _ _ _ ((⟨#[68, 73, 77, 69, 78, 83, 73, 79, 78, 32, 58, 32]⟩ : ByteArray) ++ t106) [.string ((⟨#[68, 73, 77, 69, 78, 83, 73, 79, 78, 32, 58, 32]⟩ : ByteArray) ++ t106)] from rfl) (Reps.one (show Kd.M Kd.string _ _ _ (⟨#[84, 79, 85, 82, 95, 83, 69, 67, 84, 73, 79, 78]⟩ : ByteArray) [.string (⟨#[84, 79, 85, 82, 95, 83, 69, 67, 84, 73, 79, 78]⟩ : ByteArray)] from rfl) (Reps.none _ _)))))); intro v108 w24 ho25 hb hg_ hnew_; clear hg_ hnew_; (first | rw [← Ny107.out] at ho25 | (simp only [Int.reduceToNat] at ho25; rw [← Ny107.out] at ho25)); have HO109 := Aside0.mk (Kd.R_lower ho25 (below_size qb)); replace BK101 := cK BK101 hb; replace HB := cB HB hb; clear hb ho25))
       (try simp only [Act.put, List.setIfInBounds_toArray, List.set_cons_zero, List.set_cons_succ])
       go_loopg [6, 47] kj2 (fun kq v6 v47 w' => ∃ (x6_2 : List ByteArray) (x47_2 : Int), v47 = .int .i64 x47_2 ∧ Aside0 (tour_PrintTour.l0 kq (rd_L14 l1_0 0) x6_2 (rd_L14 l1_0 0) ((rd_L14 l1_0 0).length : Int) x47_2 = some r) ∧ Aside0 (kq ≤ kj2) ∧ Aside0 (Kd.R Kd.string 9 w' w.heap.size (fun _ => True) v6 x6_2) ∧ Aside0 (w'.heap[gb101]? = some (.cells #[(.slice (some ad105) l1_0.length c1_0)] 70 (0, 0))) ∧ Aside0 (Below w.heap.size w w'))
       case atStart => exact ⟨(y107), (0), qr, H', ⟨Nat.le_refl _⟩, ⟨qR HO109.out⟩, ⟨qk BK101.out⟩, ⟨qb⟩⟩
       case round =>
        clear H'; (try clear c1); (try clear p1); (try clear q1); (try clear hx1); (try clear qi1); (try clear c2); (try clear p2); (try clear c4); (try clear c6); (try clear c7); (try clear c7b0); (try clear c7b1); (try clear c8); (try clear c8b0); (try clear c8b1); (try clear c9); (try clear c9b0); (try clear c9b1); (try clear c10); (try clear p10); (try clear q10); (try clear hx10); (try clear qi10); (try clear c17); (try clear c18); (try clear c18b0); (try clear c18b1); (try clear c19); (try clear c19b0); (try clear c19b1); (try clear c19b2); (try clear c21); (try clear c21b0); (try clear c21b1); (try clear c21b2); (try clear hcz11_0); (try clear hcz13_0); (try clear hcz15_0); (try clear hcz22_0); (try clear hfz11_0); (try clear hfz13_0); (try clear hfz15_0); (try clear hfz22_0); (try clear hx103_0); (try clear hx104_0); (try clear hx105_0); (try clear p1); (try clear p10); (try clear p103); (try clear p104); (try clear p105); (try clear p2); (try clear q1); (try clear q10); (try clear q103); (try clear q104); (try clear q105); obtain ⟨x6_2, x47_2, rfl, HA, HK2, HO_6, BK101, HB⟩ := hrel; cases gk with
        | zero => exact absurd HA.out (by simp [tour_PrintTour.l0])
        | succ k2 =>
         have H := HA.out; clear HA; simp only [tour_PrintTour.l0] at H
         by_cases c26 : x47_2 < ((rd_L14 l1_0 0).length : Int)
         ·rw [if_pos c26] at H; have c26b0 := decide_eq_true c26; clear c26
          by_cases c27 : 0 ≤ x47_2
          ·rw [if_pos c27] at H; have c27b0 := decide_eq_true c27; clear c27
           by_cases c28 : x47_2 < ((rd_L14 l1_0 0).length : Int)
           ·rw [if_pos c28] at H; have c28b0 := decide_eq_true c28; clear c28
            by_cases c29 : (rd (rd_L14 l1_0 0) x47_2) < 0
            ·rw [if_pos c29] at H; have c29b0 := decide_eq_true c29; clear c29; obtain rfl := Option.some.inj H; have p110 : 0 ≤ (x47_2 : Int) := of_decide_eq_true qa; have q110 : x47_2 < ((rd_L14 l1_0 0).length : Int) := of_decide_eq_true qa; obtain ⟨ad110, e110, hx110_0⟩ := Kd.at_int HR105_0.out x47_2 p110 q110; cases e110; replace hx110_0 := (HB.out.cell (World.block_lt_of_cell? w _ hx110_0)).trans hx110_0; (try simp only [Go.IntWalk.toNatUp] at hx110_0); replace p110 := eq_true p110; replace q110 := eq_true q110
             go_wp2
             go_ret
             exact ⟨qe, qb⟩
            ·rw [if_neg c29] at H; have c29b0 := decide_eq_false c29; clear c29
             by_cases c30 : (rd (rd_L14 l1_0 0) x47_2) ≥ ((rd_L14 l1_0 0).length : Int)
             ·rw [if_pos c30] at H; have c30b0 := decide_eq_true c30; clear c30; obtain rfl := Option.some.inj H; have p110 : 0 ≤ (x47_2 : Int) := of_decide_eq_true qa; have q110 : x47_2 < ((rd_L14 l1_0 0).length : Int) := of_decide_eq_true qa; obtain ⟨ad110, e110, hx110_0⟩ := Kd.at_int HR105_0.out x47_2 p110 q110; cases e110; replace hx110_0 := (HB.out.cell (World.block_lt_of_cell? w _ hx110_0)).trans hx110_0; (try simp only [Go.IntWalk.toNatUp] at hx110_0); replace p110 := eq_true p110; replace q110 := eq_true q110
              go_wp2
              go_ret
              exact ⟨qe, qb⟩
             ·rw [if_neg c30] at H; have c30b0 := decide_eq_false c30; clear c30; replace H := Option.bind_eq_some_iff.mp H; obtain ⟨t111, A310, H⟩ := H; (try dsimp only at H); have A31 := Aside0.mk A310; clear A310
              by_cases c32 : x6_2.length < 8796093022208
              ·rw [if_pos c32] at H; have LMc32 := Aside0.mk c32; clear c32; obtain ⟨y112, hy112⟩ : ∃ y_ : List ByteArray, y_ = (x6_2 ++ [t111]) := ⟨_, rfl⟩; replace H : (tour_PrintTour.l0 k2 (rd_L14 l1_0 0) y112 (rd_L14 l1_0 0) ((rd_L14 l1_0 0).length : Int) (wrap64 (x47_2 + 1))) = some r := by first | (rw [hy112]; with_reducible exact H) | (have H2_ := (Option.bind_some _ _).symm.trans H; rw [hy112]; with_reducible exact H2_) | (have H2_ := (Option.bind_some _ _).symm.trans H; with_reducible exact H2_) | with_reducible exact H | (rw [hy112]; exact H) | exact H
               have Ny112 := Aside0.mk hy112; clear hy112; have H' := Aside0.mk H; clear H; have p110 : 0 ≤ (x47_2 : Int) := of_decide_eq_true qa; have q110 : x47_2 < ((rd_L14 l1_0 0).length : Int) := of_decide_eq_true qa; obtain ⟨ad110, e110, hx110_0⟩ := Kd.at_int HR105_0.out x47_2 p110 q110; cases e110; replace hx110_0 := (HB.out.cell (World.block_lt_of_cell? w _ hx110_0)).trans hx110_0; (try simp only [Go.IntWalk.toNatUp] at hx110_0); replace p110 := eq_true p110; replace q110 := eq_true q110
               go_wp2_with (first | ((with_reducible refine gate_callee (f := 80) rfl ?_); refine goesL_ (some 62) rfl rfl Tryz.func80 (by kernel_rfl) rfl #[.int .i64 (wrap64 ((rd (rd_L14 l1_0 0) x47_2) + 1))] rfl qm ?_; (with_reducible refine (strconv_Itoa.calls (wrap64 ((rd (rd_L14 l1_0 0) x47_2) + 1)) t111 _ (Tabs.kept HT0.out qb) A31.out).mono ?_); rintro e w33 ⟨rfl, hb⟩; refine ⟨_, rfl, ?_⟩; replace HO_6 := cR HO_6 hb; replace BK101 := cK BK101 hb; replace HB := cB HB hb; (try clear hb); (try clear hb2); (try clear hk); (try clear hi)) | ((with_reducible refine gate_builtin (b := .append) (xs := #[.tmp 59, .tmp 63]) rfl ?_); (try (refine gate_guard (by rfl) ?_; dsimp only)); at_builtin; refine Kd.R_append Kd.string (w0 := w) w.heap.size rfl (.tmp 59) (.tmp 63) 106 9 (.string ⟨#[]⟩) 16 rfl Tryz.underlying106 info9 rfl (by decide) (by omega) u6 x6_2 t111 [.string t111] (fun _ => True) (fun _ => False) rfl rfl ?aP (fun _ hk => hk.elim) ?aF ?aO ?aB ?aS ?aL ?_; (case aP => exact rfl); (case aB => exact qb); (case aF => exact (fun _ _ => trivial)); (case aO => exact (qR HO_6.out)); (case aS => exact (below_size qb)); (case aL => have := LMc32.out; omega); intro v113 w34 ho hb hg hat; rw [← Ny112.out] at ho; have n0_ := Aside0.mk (blk_grown (g := gb101) (o := .cells #[.slice (some ad105) l1_0.length c1_0] 70 (0, 0)) (qk BK101.out) hg (Kd.R_ne HO_6.out BK101.out (by decide))); have n1_ := Aside0.mk (hb); have HO114 := Aside0.mk (ho); replace BK101 := n0_; replace HB := n1_; clear n0_ n1_; clear HO_6; clear ho hb hg hat))
               go_roundg k2
               case measure => have := HJ2.out; have := HK2.out; omega
               case rel => exact ⟨(y112), (wrap64 (x47_2 + 1)), qr, H', ⟨by have := HJ2.out; have := HK2.out; omega⟩, ⟨qR HO114.out⟩, ⟨qk BK101.out⟩, ⟨qb⟩⟩
              ·rw [if_neg c32] at H
               exact absurd H (by simp)
           ·rw [if_neg c28] at H
            exact absurd H (by simp)
          ·rw [if_neg c27] at H
           exact absurd H (by simp)
         ·rw [if_neg c26] at H; have c26b0 := decide_eq_false c26; clear c26; obtain ⟨y115, hy115⟩ : ∃ y_ : List ByteArray, y_ = (([(⟨#[45, 49]⟩ : ByteArray), (⟨#[69, 79, 70]⟩ : ByteArray), (⟨#[]⟩ : ByteArray)] : List ByteArray)) := ⟨_, rfl⟩; replace H : (if x6_2.length + y115.length < 8796093022208 then ((strings_Join.f (x6_2 ++ y115) (⟨#[10]⟩ : ByteArray)).bind fun t121 => (some t121)) else (none)) = some r := by first | (rw [hy115]; with_reducible exact H) | (have H2_ := (Option.bind_some _ _).symm.trans H; rw [hy115]; with_reducible exact H2_) | (have H2_ := (Option.bind_some _ _).symm.trans H; with_reducible exact H2_) | with_reducible exact H | (rw [hy115]; exact H) | exact H
          have Ny115 := Aside0.mk hy115; clear hy115
          by_cases c35 : x6_2.length + y115.length < 8796093022208
          ·rw [if_pos c35] at H; have LMc35 := Aside0.mk c35; clear c35; obtain ⟨y118, hy118⟩ : ∃ y_ : List ByteArray, y_ = (x6_2 ++ y115) := ⟨_, rfl⟩; replace H : ((strings_Join.f y118 (⟨#[10]⟩ : ByteArray)).bind fun t121 => (some t121)) = some r := by first | (rw [hy118]; with_reducible exact H) | (have H2_ := (Option.bind_some _ _).symm.trans H; rw [hy118]; with_reducible exact H2_) | (have H2_ := (Option.bind_some _ _).symm.trans H; with_reducible exact H2_) | with_reducible exact H | (rw [hy118]; exact H) | exact H
           have Ny118 := Aside0.mk hy118; clear hy118; replace H := Option.bind_eq_some_iff.mp H; obtain ⟨t121, A360, H⟩ := H; (try dsimp only at H); have A36 := Aside0.mk A360; clear A360; obtain rfl := Option.some.inj H
           go_wp2_with (first | ((with_reducible refine gate_dst (N := 67) rfl ?_); (try (refine gate_guard (by rfl) ?_; dsimp only)); refine Kd.R_lit Kd.string _ 9 ?hg (N := 67) ?hd (xs := ([(⟨#[45, 49]⟩ : ByteArray), (⟨#[69, 79, 70]⟩ : ByteArray), (⟨#[]⟩ : ByteArray)] : List ByteArray)) (inner := [.string (⟨#[45, 49]⟩ : ByteArray), .string (⟨#[69, 79, 70]⟩ : ByteArray), .string (⟨#[]⟩ : ByteArray)]) (ok := fun _ => True) (okp := fun _ => True) ?hr ?hp (fun _ hk => hk) trivial (Below.refl _ _) (Nat.le_refl _) (by simp) ?_; (case hd => rfl); (case hg => rfl); (case hr => first | (go_simp; done) | (go_simp; rfl)); (case hp => exact (Reps.one (show Kd.M Kd.string _ _ _ (⟨#[45, 49]⟩ : ByteArray) [.string (⟨#[45, 49]⟩ : ByteArray)] from rfl) (Reps.one (show Kd.M Kd.string _ _ _ (⟨#[69, 79, 70]⟩ : ByteArray) [.string (⟨#[69, 79, 70]⟩ : ByteArray)] from rfl) (Reps.one (show Kd.M Kd.string _ _ _ (⟨#[]⟩ : ByteArray) [.string (⟨#[]⟩ : ByteArray)] from rfl) (Reps.none _ _))))); intro v116 w37 ho38 hb hg_ hnew_; clear hg_ hnew_; (first | rw [← Ny115.out] at ho38 | (simp only [Int.reduceToNat] at ho38; rw [← Ny115.out] at ho38)); have n0_ := Aside0.mk (Kd.R_elder' (qR HO_6.out) (Kd.R_base ho38) hb); have HO117 := Aside0.mk (Kd.R_lower (Kd.R_new' ho38 (Kd.R_lt (qR HO_6.out))) (below_size qb)); replace BK101 := cK BK101 hb; replace HB := cB HB hb; replace HO_6 := n0_; clear n0_; clear hb ho38; obtain ⟨Ao40, co40, eo40⟩ := Kd.R_slice HO117.out; subst eo40) | ((with_reducible refine gate_builtin (b := .append) (xs := #[.tmp 66, .tmp 67]) rfl ?_); (try (refine gate_guard (by rfl) ?_; dsimp only)); at_builtin; refine Kd.R_append_rows Kd.string (w0 := w) w.heap.size rfl (.tmp 66) (.tmp 67) 106 9 (.string ⟨#[]⟩) 16 rfl Tryz.underlying106 info9 rfl (by decide) (by omega) u6 x6_2 y115 _ _ _ (fun k_ => some k_ ≠ (.slice Ao40 y115.length co40 : Value).ownBlock) (fun _ => False) rfl rfl ?aO ?aR (fun _ _ h => h) (fun _ h => h.elim) ?aF ?aB ?aS ?aL ?_; (case aR => repeat (first | exact (Kd.R_reads' HO117.out).2.2 | (with_reducible refine Kd.C_alloc ?_ _) | (with_reducible refine Kd.C_drewN ?_ _) | (with_reducible refine Kd.C_drew ?_))); (case aB => exact qb); (case aF => exact (fun k_ hk => Kd.fresh' (Kd.R_lt (qR HO117.out)) k_ hk)); (case aO => exact (by refine qR ?_; exact Kd.R_mono HO_6.out (fun _ hk => hk.2))); (case aS => exact (below_size qb)); (case aL => have := LMc35.out; omega); intro v119 w39 ho hb hg hat; rw [← Ny118.out] at ho; have n0_ := Aside0.mk (blk_grown (g := gb101) (o := .cells #[.slice (some ad105) l1_0.length c1_0] 70 (0, 0)) (qk BK101.out) hg (Kd.R_ne HO_6.out BK101.out (by decide))); have n1_ := Aside0.mk (Kd.R_after (ok := (fun _ => True)) (qR HO117.out) hg hat); have n2_ := Aside0.mk (hb); have HO120 := Aside0.mk (ho); replace BK101 := n0_; replace HO117 := n1_; replace HB := n2_; clear n0_ n1_ n2_; clear HO_6; clear ho hb hg hat; obtain ⟨Ao41, co41, eo41⟩ := Kd.R_slice HO120.out; subst eo41) | ((with_reducible refine gate_callee (f := 54) rfl ?_); refine goesL_ (some 69) rfl rfl Tryz.func54 (by kernel_rfl) rfl #[.slice Ao41 y118.length co41, .string (⟨#[10]⟩ : ByteArray)] rfl qm ?_; (with_reducible refine (strings_Join.calls _ _ y118 (⟨#[10]⟩ : ByteArray) t121 _ ?side1 ?side2 A36.out).mono ?_); (case side1 => repeat (first | exact (Kd.R_reads' HO120.out).2.2 | (with_reducible refine Kd.C_alloc ?_ _) | (with_reducible refine Kd.C_drewN ?_ _) | (with_reducible refine Kd.C_drew ?_))); (case side2 => exact (Kd.R_reads' HO120.out).2.1); rintro e w42 ⟨rfl, hb⟩; refine ⟨_, rfl, ?_⟩; replace HO117 := cR HO117 hb; replace HO120 := cR HO120 hb; replace BK101 := cK BK101 hb; replace HB := cB HB hb; (try clear hb); (try clear hb2); (try clear hk); (try clear hi)))
           go_ret
           exact ⟨qe, qb⟩
          ·rw [if_neg c35] at H
           exact absurd H (by simp)
      ·rw [if_neg c21] at H
       exact absurd H (by simp)
     ·rw [if_neg c19] at H
      exact absurd H (by simp)
    ·rw [if_neg c18] at H
     exact absurd H (by simp)
theorem eqA41 (d : Nat) (w : World) (x0 y0 : Int) (x1 y1 : Int) :
    (Op.equalIn (d + 2) 41 (.agg #[.int .i64 x0, .int .i64 x1]) (.agg #[.int .i64 y0, .int .i64 y1])).run Tryz.prog w = .ok (x0 == y0 && (x1 == y1)) w := by
  refine eqA_of Tryz.underlying41 (by kernel_rfl) ?_
  refine eqf_cons (by rfl) (by go_simp; rfl) (by go_simp; rfl) (by go_simp) ?_
  exact eqf_last (by rfl) (by go_simp; rfl) (by go_simp; rfl) (by go_simp)
end Go.Proofs.YtadocbfchdendaaGreatDoor.P
namespace Go.Proofs.YtadocbfchdendaaGreatDoor.Cu
open Go.RowKit Go.Lib Go.Proofs.YtadocbfchdendaaGreatDoorW.PrintWords Go.Proofs.YtadocbfchdendaaGreatDoorW.PrintLast Go.Proofs.YtadocbfchdendaaGreatDoorW.PrintMore Go.Proofs.YtadocbfchdendaaGreatDoor.P
set_option linter.unusedSimpArgs false
abbrev RLn := S100
theorem drop_cons' {α : Type} (L : List α) (i : Nat) (x : α) (hx : L[i]? = some x) : L.drop i = x :: L.drop (i + 1) := by
  have hi := (List.getElem?_eq_some_iff.1 hx).1
  rw [List.drop_eq_getElem_cons hi]
  congr 1
  exact Option.some.inj ((List.getElem?_eq_getElem hi).symm.trans hx)
theorem w64' {n : Int} (h1 : -9223372036854775808 ≤ n) (h2 : n ≤ 9223372036854775807) : wrap64 n = n := by unfold wrap64; omega
theorem succ' {k n : Nat} (h : n < k) : ∃ m, k = m + 1 ∧ n ≤ m := ⟨k - 1, by omega, by omega⟩
theorem bt_data (s : ByteArray) (i : Nat) (c : UInt8) (h : s.data.toList[i]? = some c) : bt s (i : Int) = (c.toNat : Int) := by
  have hi : i < s.data.toList.length := (List.getElem?_eq_some_iff.1 h).1
  have hc := (List.getElem?_eq_some_iff.1 h).2
  unfold bt
  rw [dif_pos (by rw [Int.toNat_natCast]; exact hi), ← hc]
  rfl
theorem get_data (s : ByteArray) (i : Nat) (h : i < s.size) : ∃ c, s.data.toList[i]? = some c := ⟨_, List.getElem?_eq_getElem (show i < s.data.toList.length from h)⟩
theorem nat_eq {c : UInt8} {n : Nat} (hn : n < 256) : ((c.toNat : Int) = (n : Int)) ↔ c = UInt8.ofNat n := by
  constructor
  · intro h
    apply UInt8.toNat_inj.1
    rw [UInt8.toNat_ofNat_of_lt' (by simpa using hn)]
    omega
  · intro h
    subst h
    rw [UInt8.toNat_ofNat_of_lt' (by simpa using hn)]
theorem linesF_ok (s : ByteArray) (d : Nat) : ∀ a, a + d = s.size → ∀ x ∈ linesF (s.size - a) (s.data.toList.drop a) a, LOk s x := by
  induction d using Nat.strongRecOn with
  | ind d ih =>
    intro a ha x hx
    have hL : s.data.toList.length = s.size := rfl
    by_cases h0 : d = 0
    · rw [show s.size - a = 0 by omega] at hx
      simp [linesF] at hx
    · have hst := lines_step s.data.toList a (by omega)
      rw [hL] at hst
      rw [hst] at hx
      rcases List.mem_cons.1 hx with rfl | hx
      · exact lineX_ok s a (by omega)
      · have hn := lineX_next s.data.toList a (by omega)
        exact ih (s.size - (lineX (s.data.toList.drop a) a).f2.toNat) (by omega) _ (by omega) x hx
theorem linesL_ok (s : ByteArray) : ∀ x ∈ linesL s.data.toList, LOk s x := linesF_ok s s.size 0 (by omega)
theorem linesL_len (s : List UInt8) : (linesL s).length ≤ s.length := linesF_len _ _ _
end Go.Proofs.YtadocbfchdendaaGreatDoor.Cu
namespace Go.Proofs.YtadocbfchdendaaGreatDoor.P
open Go.RowKit Go.Proofs.YtadocbfchdendaaGreatDoorW.PrintWords Go.Proofs.YtadocbfchdendaaGreatDoorW.PrintLast Go.Proofs.YtadocbfchdendaaGreatDoorW.PrintMore
attribute [local go_sem] max2_int min2_int max_two min_two max_three min_three max_four min_four
set_option linter.unusedVariables false
set_option linter.unusedSimpArgs false
def sheet_Rows.l0 : Nat → ByteArray → Int → List (S32) → List (S96) → Int → Int → Option ((List (S32)))
 | 0, _, _, _, _, _, _ => none
 | k + 1, x0, x1, x4, x8, x9, x10 => if x10 < x9 then (if 0 ≤ x10 then (if x10 < (x8.length : Int) then (if ((rd_T96 x8 x10).f0) ≥ x1 then ((words_Fields.f x0 ((rd_T96 x8 x10).f0) ((rd_T96 x8 x10).f1)).bind fun t106 => (if x4.length < 4398046511104 then (sheet_Rows.l0 k x0 x1 (x4 ++ [(⟨(rd_T96 x8 x10).f0, t106⟩ : S32)]) x8 x9 (wrap64 (x10 + 1))) else (none))) else (sheet_Rows.l0 k x0 x1 x4 x8 x9 (wrap64 (x10 + 1)))) else (none)) else (none)) else (some x4)
def sheet_Rows.f (k : Nat) (a0 : ByteArray) (a1 : Int) : Option ((List (S32))) := (cursor_Rows.f a0).bind fun t101 => (sheet_Rows.l0 k a0 a1 ([] : List (S32)) t101 (t101.length : Int) 0)
theorem sheet_Rows.mono_l : ∀ k, (∀ y0 y1 y2 y3 y4 y5, LeO (sheet_Rows.l0 k y0 y1 y2 y3 y4 y5) (sheet_Rows.l0 (k + 1) y0 y1 y2 y3 y4 y5))
 | 0 => fun _ _ _ _ _ _ r h => by simp [sheet_Rows.l0] at h
 | k + 1 => by
  have ih0 := sheet_Rows.mono_l k
  ·intro y0 y1 y2 y3 y4 y5
   unfold sheet_Rows.l0
   repeat' first
   | (with_reducible exact ih0 _ _ _ _ _ _)
   | (with_reducible exact LeO.refl _)
   | (with_reducible exact LeO.none _)
   | (with_reducible refine LeO.ite ?_ ?_)
   | (with_reducible refine LeO.bind ?_ (fun _ => ?_))
   | exact ih0 _ _ _ _ _ _
   | exact LeO.none _
   | refine LeO.ite ?_ ?_
   | refine LeO.bind ?_ (fun _ => ?_)
theorem sheet_Rows.mono : ∀ a0 a1 k, LeO (sheet_Rows.f k a0 a1) (sheet_Rows.f (k + 1) a0 a1) := by
 intro a0 a1 k
 have ih0 := sheet_Rows.mono_l k; unfold sheet_Rows.f
 repeat' first
   | (with_reducible exact ih0 _ _ _ _ _ _)
   | (with_reducible exact LeO.refl _)
   | (with_reducible exact LeO.none _)
   | (with_reducible refine LeO.ite ?_ ?_)
   | (with_reducible refine LeO.bind ?_ (fun _ => ?_))
   | exact ih0 _ _ _ _ _ _
   | exact LeO.none _
   | refine LeO.ite ?_ ?_
   | refine LeO.bind ?_ (fun _ => ?_)
def sheet_Rows.T5 : Bool × List (List Nat × List Nat) := (true, [([], []), ([], []), ([1], [1]), ([], []), ([], []), ([4], [4]), ([], []), ([6], [6]), ([3, 5, 7], [3, 5, 7]), ([2, 8], [2, 8]), ([9], [9]), ([0, 10, 8], [0, 10]), ([11, 11, 0, 1, 2, 3, 4, 5, 6, 7, 8, 9, 10, 11], [0, 11])])
def sheet_Rows.B5 : List Nat := [0, 0, 2, 0, 0, 16, 0, 64, 248, 510, 1022, 2047, 4095]
theorem sheet_Rows.tab5 : rtab .any (opsOf Tryz.f15 5) = sheet_Rows.T5 := by kernel_rfl
theorem sheet_Rows.bits5 : waitsOk sheet_Rows.T5.2 sheet_Rows.B5 = true := by kernel_rfl
set_option maxHeartbeats 8000000 in
set_option maxRecDepth 100000 in
theorem sheet_Rows.calls (k : Nat) (a0 : ByteArray) (a1 : Int) (r : List (S32)) (w : World) (h : sheet_Rows.f k a0 a1 = some r) :
  Calls Tryz.prog 15 #[.string a0, .int .i64 a1] w fun e w' => ∃ v0_ : Value, e = .returned (v0_) ∧ Kd.S k32 32 w' w.heap.size (fun _ => True) v0_ r ∧ Below w.heap.size w w' := by
 have hu96 := Tryz.underlying96; have hu32 := Tryz.underlying32; have HB := Aside0.mk (Below.refl w.heap.size w); have H : ((cursor_Rows.f a0).bind fun t101 => (sheet_Rows.l0 k a0 a1 ([] : List (S32)) t101 (t101.length : Int) 0)) = some r := h; clear h; replace H := Option.bind_eq_some_iff.mp H; obtain ⟨t101, A30, H⟩ := H; (try dsimp only at H); have A3 := Aside0.mk A30; clear A30; have H' := Aside0.mk H; clear H; go_enter Tryz.func15, Tryz.ntmps15
 go_wp2_with (first | ((with_reducible refine gate_callee (f := 47) rfl ?_); refine goesL_ (some 8) rfl rfl Tryz.func47 (by kernel_rfl) rfl #[.string a0] rfl qm ?_; (with_reducible refine (cursor_Rows.calls a0 t101 _ A3.out).mono ?_); rintro e w4 ⟨v102, rfl, ho0, hb⟩; refine ⟨_, rfl, ?_⟩; have HO103 := Aside0.mk (Kd.R_lower ho0 (below_size qb)); replace HB := cB HB hb; (try clear hb); (try clear hb2); (try clear hk); (try clear hi); (try clear ho0); obtain ⟨Ao5, co5, eo5⟩ := Kd.R_slice HO103.out; subst eo5))
 (try simp only [Act.put, List.setIfInBounds_toArray, List.set_cons_zero, List.set_cons_succ])
 go_loopg [4, 10] k (fun kq v4 v10 w' => ∃ (x4_1 : List (S32)) (x10_1 : Int), v10 = .int .i64 x10_1 ∧ Aside0 (sheet_Rows.l0 kq a0 a1 x4_1 t101 (t101.length : Int) x10_1 = some r) ∧ Aside0 (kq ≤ k) ∧ Aside0 (Kd.S k32 32 w' w.heap.size (fun _ => True) v4 x4_1) ∧ Aside0 (Kd.R k96 96 w' w.heap.size (fun _ => True) (.slice Ao5 t101.length co5) t101) ∧ Aside0 (Below w.heap.size w w'))
 case atStart => exact ⟨(([] : List (S32))), (0), qr, H', ⟨Nat.le_refl _⟩, ⟨by first | exact Kd.S_nil _ _ _ _ _ | exact Kd.N_nil _ _ _ _ _ | exact Kd.V_nil _ _ _ _ _ | exact Kd.Q_nil _ _ _ _ _ | exact Kd.R_nil _ _ _ _ _⟩, ⟨qR HO103.out⟩, ⟨qb⟩⟩
 case round =>
  clear H'; (try clear c1); (try clear p2); (try clear c4); obtain ⟨x4_1, x10_1, rfl, HA, HK1, HO_4, HO_8, HB⟩ := hrel; cases gk with
  | zero => exact absurd HA.out (by simp [sheet_Rows.l0])
  | succ k1 =>
   have H := HA.out; clear HA; simp only [sheet_Rows.l0] at H
   by_cases c6 : x10_1 < (t101.length : Int)
   ·rw [if_pos c6] at H; have c6b0 := decide_eq_true c6; clear c6
    by_cases c7 : 0 ≤ x10_1
    ·rw [if_pos c7] at H; have c7b0 := decide_eq_true c7; clear c7
     by_cases c8 : x10_1 < (t101.length : Int)
     ·rw [if_pos c8] at H; have c8b0 := decide_eq_true c8; clear c8
      by_cases c9 : ((rd_T96 t101 x10_1).f0) ≥ a1
      ·rw [if_pos c9] at H; have c9b0 := decide_eq_true c9; clear c9; replace H := Option.bind_eq_some_iff.mp H; obtain ⟨t106, A100, H⟩ := H; (try dsimp only at H); have A10 := Aside0.mk A100; clear A100
       by_cases c11 : x4_1.length < 4398046511104
       ·rw [if_pos c11] at H; have LMc11 := Aside0.mk c11; clear c11; obtain ⟨y109, hy109⟩ : ∃ y_ : List (S32), y_ = (x4_1 ++ [(⟨(rd_T96 t101 x10_1).f0, t106⟩ : S32)]) := ⟨_, rfl⟩; replace H : (sheet_Rows.l0 k1 a0 a1 y109 t101 (t101.length : Int) (wrap64 (x10_1 + 1))) = some r := by first | (rw [hy109]; with_reducible exact H) | (have H2_ := (Option.bind_some _ _).symm.trans H; rw [hy109]; with_reducible exact H2_) | (have H2_ := (Option.bind_some _ _).symm.trans H; with_reducible exact H2_) | with_reducible exact H | (rw [hy109]; exact H) | exact H
        have Ny109 := Aside0.mk hy109; clear hy109; have H' := Aside0.mk H; clear H; have p104 : 0 ≤ (x10_1 : Int) := of_decide_eq_true qa; have q104 : x10_1 < (t101.length : Int) := of_decide_eq_true qa; obtain ⟨ad104, e104, hx104_0, hx104_1, hx104_2⟩ := at_T96 (Kd.R_reads' HO_8.out).2.2 x10_1 p104 q104; cases e104; (try simp only [Go.IntWalk.toNatUp] at hx104_0); (try simp only [Go.IntWalk.toNatUp] at hx104_1); (try simp only [Go.IntWalk.toNatUp] at hx104_2); replace p104 := eq_true p104; replace q104 := eq_true q104
        try go_wp2_with (first | ((with_reducible refine gate_dst (N := 6) rfl ?_); refine box_ev (N := 6) (cs := #[.int .i64 0, .int .i64 0, .int .i64 0]) (t := 96) ?_; intro gb105 hg w12 hbox hb; have n1_ := Aside0.mk (Kd.R_below (Kd.R_elderB (qR HO_8.out) gb105 (Nat.le_of_eq hg.symm)) hb); have BK105 := Aside0.mk (hbox); have GW105 := Aside0.mk ((qg : w.heap.size ≤ gb105)); have GE105 := Aside0.mk ((qg : w.heap.size ≤ gb105)); replace HO_4 := cS HO_4 hb; replace HB := cB HB hb; replace HO_8 := n1_; clear n1_; clear hb hbox hg; have hcz13_0 : w12.cell? ⟨gb105, 0, none⟩ = some (.int .i64 0) := (blk_cell BK105.out 0).trans rfl; have hcz13_1 : w12.cell? ⟨gb105, 1, none⟩ = some (.int .i64 0) := (blk_cell BK105.out 1).trans rfl; have hcz13_2 : w12.cell? ⟨gb105, 2, none⟩ = some (.int .i64 0) := (blk_cell BK105.out 2).trans rfl; have hfz13_0 := blk_frozen BK105.out 0; have hfz13_1 := blk_frozen BK105.out 1; have hfz13_2 := blk_frozen BK105.out 2))
        have n0_ : Aside0 (Kd.S k32 32 (((w12.setCell ⟨gb105, 0, none⟩ (.int .i64 ((rd_T96 t101 x10_1).f0))).setCell ⟨gb105, 1, none⟩ (.int .i64 ((rd_T96 t101 x10_1).f1))).setCell ⟨gb105, 2, none⟩ (.int .i64 ((rd_T96 t101 x10_1).f2))) w.heap.size (fun _ => True) u4 x4_1) := ⟨by refine qS ?_; exact Kd.S_mono (Kd.S_far (p := ⟨gb105, 2, none⟩) (Kd.S_far (p := ⟨gb105, 1, none⟩) (Kd.S_far (p := ⟨gb105, 0, none⟩) (Kd.S_types HO_4.out BK105.out (by decide)) (fun _ hk => hk.2) (.int .i64 ((rd_T96 t101 x10_1).f0))) (fun _ hk => hk.2) (.int .i64 ((rd_T96 t101 x10_1).f1))) (fun _ hk => hk.2) (.int .i64 ((rd_T96 t101 x10_1).f2))) (fun _ hk => trivial)⟩; have n1_ : Aside0 (Kd.R k96 96 (((w12.setCell ⟨gb105, 0, none⟩ (.int .i64 ((rd_T96 t101 x10_1).f0))).setCell ⟨gb105, 1, none⟩ (.int .i64 ((rd_T96 t101 x10_1).f1))).setCell ⟨gb105, 2, none⟩ (.int .i64 ((rd_T96 t101 x10_1).f2))) w.heap.size (fun k_ => k_ ≠ gb105) (.slice (some ad104) t101.length co5) t101) := ⟨by refine qR ?_; exact Kd.R_mono (Kd.R_far (p := ⟨gb105, 2, none⟩) (Kd.R_far (p := ⟨gb105, 1, none⟩) (Kd.R_far (p := ⟨gb105, 0, none⟩) (Kd.R_mono HO_8.out (fun k_ hk => (⟨hk, hk.2⟩ : _ ∧ k_ ≠ gb105))) (fun _ hk => hk.2) (.int .i64 ((rd_T96 t101 x10_1).f0))) (fun _ hk => hk.2) (.int .i64 ((rd_T96 t101 x10_1).f1))) (fun _ hk => hk.2) (.int .i64 ((rd_T96 t101 x10_1).f2))) (fun _ hk => hk.1.2)⟩; have n2_ : Aside0 ((((w12.setCell ⟨gb105, 0, none⟩ (.int .i64 ((rd_T96 t101 x10_1).f0))).setCell ⟨gb105, 1, none⟩ (.int .i64 ((rd_T96 t101 x10_1).f1))).setCell ⟨gb105, 2, none⟩ (.int .i64 ((rd_T96 t101 x10_1).f2))).heap[gb105]? = some (.cells #[.int .i64 ((rd_T96 t101 x10_1).f0), .int .i64 ((rd_T96 t101 x10_1).f1), .int .i64 ((rd_T96 t101 x10_1).f2)] 96 (0, 0))) := ⟨by refine qk ?_; refine blk_put (cs := #[.int .i64 ((rd_T96 t101 x10_1).f0), .int .i64 ((rd_T96 t101 x10_1).f1), .int .i64 0]) ?_ 2 _ rfl; refine qk ?_; refine blk_put (cs := #[.int .i64 ((rd_T96 t101 x10_1).f0), .int .i64 0, .int .i64 0]) ?_ 1 _ rfl; refine qk ?_; refine blk_put (cs := #[.int .i64 0, .int .i64 0, .int .i64 0]) ?_ 0 _ rfl; refine qk ?_; exact BK105.out⟩; have n3_ : Aside0 (Below w.heap.size w (((w12.setCell ⟨gb105, 0, none⟩ (.int .i64 ((rd_T96 t101 x10_1).f0))).setCell ⟨gb105, 1, none⟩ (.int .i64 ((rd_T96 t101 x10_1).f1))).setCell ⟨gb105, 2, none⟩ (.int .i64 ((rd_T96 t101 x10_1).f2)))) := ⟨qb⟩; (try clear HO_4); (try clear HO_8); (try clear BK105); (try clear HB); generalize (((w12.setCell ⟨gb105, 0, none⟩ (.int .i64 ((rd_T96 t101 x10_1).f0))).setCell ⟨gb105, 1, none⟩ (.int .i64 ((rd_T96 t101 x10_1).f1))).setCell ⟨gb105, 2, none⟩ (.int .i64 ((rd_T96 t101 x10_1).f2))) = w14 at n0_ n1_ n2_ n3_ ⊢; have HO_4 := n0_; have HO_8 := n1_; have BK105 := n2_; have HB := n3_; clear n0_ n1_ n2_ n3_; have n0_ := Aside0.mk (Kd.S_drew HO_4.out); have n1_ := Aside0.mk (Kd.R_drew HO_8.out); have n2_ := Aside0.mk (blk_drew BK105.out); have n3_ := Aside0.mk (below_drew1 HB.out); clear HO_4; clear HO_8; clear BK105; clear HB; have HO_4 := n0_; have HO_8 := n1_
        have BK105 := n2_; have HB := n3_; clear n0_ n1_ n2_ n3_; refine start_ (n := 13) (S := fun w' => w'.cell? ⟨gb105, 0, none⟩ = some (.int .i64 ((rd_T96 t101 x10_1).f0)) ∧ w'.cell? ⟨gb105, 1, none⟩ = some (.int .i64 ((rd_T96 t101 x10_1).f1)) ∧ w'.cell? ⟨gb105, 2, none⟩ = some (.int .i64 ((rd_T96 t101 x10_1).f2))) (ds := []) #[false, false, false, false, false, false, false, false, false, false, false, false, false] (by kernel_rfl) rfl rfl ⟨(blk_cell BK105.out 0).trans rfl, (blk_cell BK105.out 1).trans rfl, (blk_cell BK105.out 2).trans rfl⟩ (fun hHeld => ?_); refine with_tabW sheet_Rows.tab5 sheet_Rows.bits5 (fun HT_ HW_ => ?_); generalize w14.drew = w15 at HO_4 HO_8 BK105 HB hHeld ⊢; refine pure_ (i := 0) (N := some 18) (v := ?_) (a' := ?_) #[true, false, false, false, false, false, false, false, false, false, false, false, false] rfl rfl (any_of HT_.out (by kernel_rfl)) (fun _ _ _ h => h) (Or.inl ⟨by rfl, ?_⟩) ?_ ?_
        rotate_left
        ·intro w'
         go_simp
         with_reducible rfl
        rotate_left
        ·simp only [Act.put, List.setIfInBounds_toArray, List.set_cons_zero, List.set_cons_succ, i64_w, i32_w]
         rfl
        refine pure_ (i := 1) (N := some 19) (v := ?_) (a' := ?_) #[true, true, false, false, false, false, false, false, false, false, false, false, false] rfl rfl (any_of HT_.out (by kernel_rfl)) (fun _ _ _ h => h) (Or.inl ⟨by rfl, ?_⟩) ?_ ?_
        rotate_left
        ·intro w'
         go_simp
         with_reducible rfl
        rotate_left
        ·simp only [Act.put, List.setIfInBounds_toArray, List.set_cons_zero, List.set_cons_succ, i64_w, i32_w]
         rfl
        refine pure_ (i := 3) (N := some 21) (v := ?_) (a' := ?_) #[true, true, false, true, false, false, false, false, false, false, false, false, false] rfl rfl (any_of HT_.out (by kernel_rfl)) (fun _ _ _ h => h) (Or.inl ⟨by rfl, ?_⟩) ?_ ?_
        rotate_left
        ·intro w'
         go_simp
         with_reducible rfl
        rotate_left
        ·simp only [Act.put, List.setIfInBounds_toArray, List.set_cons_zero, List.set_cons_succ, i64_w, i32_w]
         rfl
        refine pure_ (i := 4) (N := some 22) (v := ?_) (a' := ?_) #[true, true, false, true, true, false, false, false, false, false, false, false, false] rfl rfl (any_of HT_.out (by kernel_rfl)) (fun _ _ _ h => h) (Or.inl ⟨by rfl, ?_⟩) ?_ ?_
        rotate_left
        ·intro w'
         go_simp
         with_reducible rfl
        rotate_left
        ·simp only [Act.put, List.setIfInBounds_toArray, List.set_cons_zero, List.set_cons_succ, i64_w, i32_w]
         rfl
        refine pure_ (i := 6) (N := some 24) (v := ?_) (a' := ?_) #[true, true, false, true, true, false, true, false, false, false, false, false, false] rfl rfl (any_of HT_.out (by kernel_rfl)) (fun _ _ _ h => h) (Or.inl ⟨by rfl, ?_⟩) ?_ ?_
        rotate_left
        ·intro w'
         go_simp
         with_reducible rfl
        rotate_left
        ·simp only [Act.put, List.setIfInBounds_toArray, List.set_cons_zero, List.set_cons_succ, i64_w, i32_w]
         rfl
        refine take_ (i := 2) (N := some 20) (v := ?_) (a' := ?_) #[true, true, true, true, true, false, true, false, false, false, false, false, false] rfl rfl (take_ofW HT_.out HW_.out (by kernel_rfl)) (fun _ _ _ h => h) (Or.inl ⟨by rfl, ?_⟩) hHeld ?_ ?_
        rotate_left
        ·rintro w' ⟨s0, s1, s2⟩
         go_simp
         with_reducible rfl
        rotate_left
        ·simp only [Act.put, List.setIfInBounds_toArray, List.set_cons_zero, List.set_cons_succ, i64_w, i32_w]
         rfl
        refine take_ (i := 5) (N := some 23) (v := ?_) (a' := ?_) #[true, true, true, true, true, true, true, false, false, false, false, false, false] rfl rfl (take_ofW HT_.out HW_.out (by kernel_rfl)) (fun _ _ _ h => h) (Or.inl ⟨by rfl, ?_⟩) hHeld ?_ ?_
        rotate_left
        ·rintro w' ⟨s0, s1, s2⟩
         go_simp
         with_reducible rfl
        rotate_left
        ·simp only [Act.put, List.setIfInBounds_toArray, List.set_cons_zero, List.set_cons_succ, i64_w, i32_w]
         rfl
        refine take_ (i := 7) (N := some 25) (v := ?_) (a' := ?_) #[true, true, true, true, true, true, true, true, false, false, false, false, false] rfl rfl (take_ofW HT_.out HW_.out (by kernel_rfl)) (fun _ _ _ h => h) (Or.inl ⟨by rfl, ?_⟩) hHeld ?_ ?_
        rotate_left
        ·rintro w' ⟨s0, s1, s2⟩
         go_simp
         with_reducible rfl
        rotate_left
        ·simp only [Act.put, List.setIfInBounds_toArray, List.set_cons_zero, List.set_cons_succ, i64_w, i32_w]
         rfl
        refine one_ (i := 8) (N := some 26) #[true, true, true, true, true, true, true, true, true, false, false, false, false] rfl rfl (one_of HT_.out (by kernel_rfl)) (by decide) (fun K hK => ?_); refine goes_ Tryz.func48 (by kernel_rfl) rfl #[.string a0, .int .i64 ((rd_T96 t101 x10_1).f0), .int .i64 ((rd_T96 t101 x10_1).f1)] (by rfl) rfl rfl qm ?_
        with_reducible refine (words_Fields.calls a0 ((rd_T96 t101 x10_1).f0) ((rd_T96 t101 x10_1).f1) t106 _ A10.out).mono ?_
        rintro e w16 ⟨v107, rfl, ho0, hb⟩
        refine ⟨_, rfl, ?_⟩; have n0_ := Aside0.mk (Kd.S_elder' (qS HO_4.out) (Kd.R_base ho0) hb); have n1_ := Aside0.mk (Kd.R_below (qR HO_8.out) hb); have n2_ := Aside0.mk (Kd.R_lower ho0 (below_size qb)); have n3_ := Aside0.mk (blk_below (g := gb105) (o := .cells #[.int .i64 ((rd_T96 t101 x10_1).f0), .int .i64 ((rd_T96 t101 x10_1).f1), .int .i64 ((rd_T96 t101 x10_1).f2)] 96 (0, 0)) (qk BK105.out) hb); have n4_ := Aside0.mk (below_step qb hb); clear HO_4; clear HO_8; clear BK105; clear HB; have HO_4 := n0_; have HO_8 := n1_; have HO108 := n2_; have BK105 := n3_; have HB := n4_; clear n0_ n1_ n2_ n3_ n4_; (try clear hb); (try clear hb2); (try clear hk); (try clear hi); (try clear ho0); obtain ⟨Ao17, co17, eo17⟩ := Kd.R_slice HO108.out; (first | subst eo17 | (injection eo17 with f1_ f2_ f3_; have f4_ := f1_.symm; have f5_ := f3_.symm; clear f1_ f2_ f3_; subst f4_; subst f5_)); refine hK.out _ _ ⟨(blk_cell BK105.out 0).trans rfl, (blk_cell BK105.out 1).trans rfl, (blk_cell BK105.out 2).trans rfl⟩ (fun hHeld => ?_); clear hK K; refine norm_ (a' := ?_) ?_ ?_
        rotate_left
        ·show Act.put _ (some 26) _ = _
         simp only [Act.put, List.setIfInBounds_toArray, List.set_cons_zero, List.set_cons_succ, i64_w, i32_w]
         rfl
        refine pure_ (i := 9) (N := some 27) (v := ?_) (a' := ?_) #[true, true, true, true, true, true, true, true, true, true, false, false, false] rfl rfl (any_of HT_.out (by kernel_rfl)) (fun _ _ _ h => h) (Or.inl ⟨by rfl, ?_⟩) ?_ ?_
        rotate_left
        ·intro w'
         go_simp
         with_reducible rfl
        rotate_left
        ·simp only [Act.put, List.setIfInBounds_toArray, List.set_cons_zero, List.set_cons_succ, i64_w, i32_w]
         rfl
        refine one_ (i := 10) (N := some 28) #[true, true, true, true, true, true, true, true, true, true, true, false, false] rfl rfl (one_of HT_.out (by kernel_rfl)) (by decide) (fun K hK => ?_); refine value_ (w1 := ?_) (v := ?_) (by rfl) rfl ?_ ?_
        rotate_left 2
        ·go_simp
         constructor
         ·rfl
         ·rfl
        refine hK.out _ _ ⟨(blk_cell (blk_alloc BK105.out _) 0).trans rfl, (blk_cell (blk_alloc BK105.out _) 1).trans rfl, (blk_cell (blk_alloc BK105.out _) 2).trans rfl⟩ (fun hHeld => ?_); clear hK K; refine norm_ (a' := ?_) ?_ ?_
        rotate_left
        ·show Act.put _ (some 28) _ = _
         simp only [Act.put, List.setIfInBounds_toArray, List.set_cons_zero, List.set_cons_succ, i64_w, i32_w]
         rfl
        refine one_ (i := 11) (N := some 29) #[true, true, true, true, true, true, true, true, true, true, true, true, false] rfl rfl (one_of HT_.out (by kernel_rfl)) (by decide) (fun K hK => ?_); refine Kd.S_append_step k32 (w0 := w) w.heap.size (by rfl) (.tmp 18) (.tmp 28) 23 32 (.agg #[(.int .i64 0), (.slice none 0 0)]) 32 rfl Tryz.underlying23 info32 rfl (by decide) (by omega) u4 x4_1 (⟨(rd_T96 t101 x10_1).f0, t106⟩ : S32) [.int .i64 ((rd_T96 t101 x10_1).f0), .slice Ao17 t106.length co17] (fun _ => True) (fun k_ => some k_ = (.slice Ao17 t106.length co17 : Value).ownBlock) rfl rfl ?aP (fun k_ hk_ => ((Kd.R_mono (ok' := fun k_ => ((fun _ => True)) k_ ∧ some k_ ≠ (u4 : Value).ownBlock) (Kd.R_apart' (HO108.out) (Kd.S_typed HO_4.out) (by decide)) (fun k_ hk => ⟨trivial, hk.2⟩))).1 k_ hk_.symm) ?aF ?aO ?aB ?aS ?aL ?_; (case aP => exact k32_mkM _ _ _ (⟨(rd_T96 t101 x10_1).f0, t106⟩ : S32) (Kd.R_mono (Kd.R_tight rfl (Kd.R_mono (ok' := fun k_ => ((fun _ => True)) k_ ∧ some k_ ≠ (u4 : Value).ownBlock) (Kd.R_apart' (HO108.out) (Kd.S_typed HO_4.out) (by decide)) (fun k_ hk => ⟨trivial, hk.2⟩))) (fun _ h_ => h_))); (case aB => exact qb); (case aF => exact (fun _ _ => trivial)); (case aO => exact (by refine qS ?_; exact Kd.S_mono HO_4.out (fun k_ hk => ⟨trivial, fun e_ => hk.2 e_⟩))); (case aS => exact (below_size qb)); (case aL => have := LMc11.out; omega)
        intro v110 w18 ho hb hg hat
        rw [← Ny109.out] at ho; have n0_ := Aside0.mk (Kd.R_over' (qR HO_8.out) (Kd.S_typed (qS HO_4.out)) (by decide) hg); have n1_ := Aside0.mk (blk_grown (g := gb105) (o := .cells #[.int .i64 ((rd_T96 t101 x10_1).f0), .int .i64 ((rd_T96 t101 x10_1).f1), .int .i64 ((rd_T96 t101 x10_1).f2)] 96 (0, 0)) (qk BK105.out) hg (Kd.S_ne HO_4.out BK105.out (by decide))); have n2_ := Aside0.mk (hb); have n3_ := Aside0.mk (ho); clear HO_8; clear BK105; clear HB; clear HO_4; clear HO108; have HO_8 := n0_; have BK105 := n1_; have HB := n2_; have HO111 := n3_; clear n0_ n1_ n2_ n3_; clear ho hb hg hat; refine hK.out _ _ ⟨(blk_cell BK105.out 0).trans rfl, (blk_cell BK105.out 1).trans rfl, (blk_cell BK105.out 2).trans rfl⟩ (fun hHeld => ?_); clear hK K; refine norm_ (a' := ?_) ?_ ?_
        rotate_left
        ·show Act.put _ (some 29) _ = _
         simp only [Act.put, List.setIfInBounds_toArray, List.set_cons_zero, List.set_cons_succ, i64_w, i32_w]
         rfl
        refine pure_ (i := 12) (N := some 4) (v := ?_) (a' := ?_) #[true, true, true, true, true, true, true, true, true, true, true, true, true] rfl rfl (any_of HT_.out (by kernel_rfl)) (fun _ _ _ h => h) (Or.inl ⟨by rfl, ?_⟩) ?_ ?_
        rotate_left
        ·intro w'
         go_simp
         with_reducible rfl
        rotate_left
        ·simp only [Act.put, List.setIfInBounds_toArray, List.set_cons_zero, List.set_cons_succ, i64_w, i32_w]
         rfl
        refine done_ (done_of HT_.out (by kernel_rfl)) ?_
        try go_wp2
        go_roundg k1
        case measure => have := HK1.out; omega
        case rel => exact ⟨(y109), (wrap64 (x10_1 + 1)), qr, H', ⟨by have := HK1.out; omega⟩, ⟨qS HO111.out⟩, ⟨by refine qR ?_; exact Kd.R_mono HO_8.out (fun _ hk => trivial)⟩, ⟨qb⟩⟩
       ·rw [if_neg c11] at H
        exact absurd H (by simp)
      ·rw [if_neg c9] at H; have c9b0 := decide_eq_false c9; clear c9; have H' := Aside0.mk H; clear H; have p104 : 0 ≤ (x10_1 : Int) := of_decide_eq_true qa; have q104 : x10_1 < (t101.length : Int) := of_decide_eq_true qa; obtain ⟨ad104, e104, hx104_0, hx104_1, hx104_2⟩ := at_T96 (Kd.R_reads' HO_8.out).2.2 x10_1 p104 q104; cases e104; (try simp only [Go.IntWalk.toNatUp] at hx104_0); (try simp only [Go.IntWalk.toNatUp] at hx104_1); (try simp only [Go.IntWalk.toNatUp] at hx104_2); replace p104 := eq_true p104; replace q104 := eq_true q104
       go_wp2_with (first | ((with_reducible refine gate_dst (N := 6) rfl ?_); refine box_ev (N := 6) (cs := #[.int .i64 0, .int .i64 0, .int .i64 0]) (t := 96) ?_; intro gb105 hg w19 hbox hb; have n1_ := Aside0.mk (Kd.R_below (Kd.R_elderB (qR HO_8.out) gb105 (Nat.le_of_eq hg.symm)) hb); have BK105 := Aside0.mk (hbox); have GW105 := Aside0.mk ((qg : w.heap.size ≤ gb105)); have GE105 := Aside0.mk ((qg : w.heap.size ≤ gb105)); replace HO_4 := cS HO_4 hb; replace HB := cB HB hb; replace HO_8 := n1_; clear n1_; clear hb hbox hg; have hcz20_0 : w19.cell? ⟨gb105, 0, none⟩ = some (.int .i64 0) := (blk_cell BK105.out 0).trans rfl; have hcz20_1 : w19.cell? ⟨gb105, 1, none⟩ = some (.int .i64 0) := (blk_cell BK105.out 1).trans rfl; have hcz20_2 : w19.cell? ⟨gb105, 2, none⟩ = some (.int .i64 0) := (blk_cell BK105.out 2).trans rfl; have hfz20_0 := blk_frozen BK105.out 0; have hfz20_1 := blk_frozen BK105.out 1; have hfz20_2 := blk_frozen BK105.out 2))
       go_roundg k1
       case measure => have := HK1.out; omega
       case rel => exact ⟨(x4_1), (wrap64 (x10_1 + 1)), qr, H', ⟨by have := HK1.out; omega⟩, ⟨by refine qS ?_; exact Kd.S_mono (Kd.S_far (p := ⟨gb105, 2, none⟩) (Kd.S_far (p := ⟨gb105, 1, none⟩) (Kd.S_far (p := ⟨gb105, 0, none⟩) (Kd.S_types HO_4.out BK105.out (by decide)) (fun _ hk => hk.2) (.int .i64 ((rd_T96 t101 x10_1).f0))) (fun _ hk => hk.2) (.int .i64 ((rd_T96 t101 x10_1).f1))) (fun _ hk => hk.2) (.int .i64 ((rd_T96 t101 x10_1).f2))) (fun _ hk => trivial)⟩, ⟨by refine qR ?_; exact Kd.R_mono (Kd.R_far (p := ⟨gb105, 2, none⟩) (Kd.R_far (p := ⟨gb105, 1, none⟩) (Kd.R_far (p := ⟨gb105, 0, none⟩) (Kd.R_mono HO_8.out (fun k_ hk => (⟨hk, hk.2⟩ : _ ∧ k_ ≠ gb105))) (fun _ hk => hk.2) (.int .i64 ((rd_T96 t101 x10_1).f0))) (fun _ hk => hk.2) (.int .i64 ((rd_T96 t101 x10_1).f1))) (fun _ hk => hk.2) (.int .i64 ((rd_T96 t101 x10_1).f2))) (fun _ hk => trivial)⟩, ⟨qb⟩⟩
     ·rw [if_neg c8] at H
      exact absurd H (by simp)
    ·rw [if_neg c7] at H
     exact absurd H (by simp)
   ·rw [if_neg c6] at H; have c6b0 := decide_eq_false c6; clear c6; obtain rfl := Option.some.inj H
    go_wp2
    go_ret
    exact ⟨_, qe, by refine qS ?_; exact HO_4.out, qb⟩
end Go.Proofs.YtadocbfchdendaaGreatDoor.P
namespace Go.Proofs.YtadocbfchdendaaGreatDoor.Cu
open Go.RowKit Go.Lib Go.Proofs.YtadocbfchdendaaGreatDoorW.PrintWords Go.Proofs.YtadocbfchdendaaGreatDoorW.PrintLast Go.Proofs.YtadocbfchdendaaGreatDoorW.PrintMore Go.Proofs.YtadocbfchdendaaGreatDoor.P
set_option linter.unusedSimpArgs false
abbrev Row := S32
abbrev RRow := S36
def rowOf (s : List UInt8) (l : Ln) : Row := ⟨l.f0, fieldsG ((s.drop l.f0.toNat).take (l.f1.toNat - l.f0.toNat)) l.f0.toNat none⟩
def shR (s : List UInt8) (from_ : Int) : List Row := ((rowsL s).filter (fun l => decide (from_ ≤ l.f0))).map (rowOf s)
theorem rowsL_ok (s : ByteArray) : ∀ x ∈ rowsL s.data.toList, LOk s x := fun x hx => linesL_ok s x (List.mem_filter.1 hx).1
theorem rowsL_len (s : List UInt8) : (rowsL s).length ≤ s.length := Nat.le_trans (List.length_filter_le _ _) (linesL_len s)
theorem rdL (l : List Ln) (i : Nat) (x : Ln) (h : l[i]? = some x) : rd_T96 l (i : Int) = x := by
  unfold rd_T96
  rw [Int.toNat_natCast, List.getD_eq_getElem?_getD, h]
  rfl
theorem shrows_l (s : ByteArray) (hs : s.size < 1000000000) (from_ : Int) (L : List Ln) (hL : ∀ x ∈ L, LOk s x) (hlen : L.length < 1000000000) (d : Nat) : ∀ (i k : Nat) (acc : List Row), i + d = L.length → acc.length ≤ i → d < k →
    sheet_Rows.l0 k s from_ acc L (L.length : Int) i = some (acc ++ ((L.drop i).filter (fun l => decide (from_ ≤ l.f0))).map (rowOf s.data.toList)) := by
  induction d with
  | zero =>
    intro i k acc hi hacc hk
    obtain ⟨k, rfl, hk⟩ := succ' hk
    simp only [sheet_Rows.l0]
    rw [if_neg (by omega), List.drop_of_length_le (by omega)]
    simp
  | succ d ih =>
    intro i k acc hi hacc hk
    obtain ⟨k, rfl, hk⟩ := succ' hk
    obtain ⟨x, hx⟩ : ∃ x, L[i]? = some x := ⟨_, List.getElem?_eq_getElem (show i < L.length by omega)⟩
    have e1 : wrap64 ((i : Int) + 1) = ((i + 1 : Nat) : Int) := by rw [w64' (by omega) (by omega)]; omega
    obtain ⟨o1, o2, o3⟩ := hL x (List.mem_of_getElem? hx)
    simp only [sheet_Rows.l0]
    rw [if_pos (by omega), if_pos (by omega), if_pos (by omega), rdL L i x hx, e1, drop_cons' L i x hx]
    by_cases hf : from_ ≤ x.f0
    · rw [if_pos hf]
      unfold words_Fields.f
      rw [if_pos hs, if_pos ⟨o1, o2, o3⟩]
      simp only [Option.bind_some]
      rw [if_pos (by omega), ih (i + 1) k _ (by omega) (by simp; omega) (by omega)]
      simp [hf, rowOf]
    · rw [if_neg hf, ih (i + 1) k acc (by omega) (by omega) (by omega)]
      simp [hf]
theorem Rows_sheet (s : ByteArray) (hs : s.size < 1000000000) (from_ : Int) (k : Nat) (hk : s.size < k) : sheet_Rows.f k s from_ = some (shR s.data.toList from_) := by
  have hl := rowsL_len s.data.toList
  have hL : s.data.toList.length = s.size := rfl
  unfold sheet_Rows.f cursor_Rows.f
  rw [if_pos hs]
  simp only [Option.bind_some]
  have := shrows_l s hs from_ (rowsL s.data.toList) (rowsL_ok s) (by omega) (rowsL s.data.toList).length 0 k [] (by omega) (by simp) (by omega)
  simpa [shR] using this
end Go.Proofs.YtadocbfchdendaaGreatDoor.Cu
namespace Go.Proofs.YtadocbfchdendaaGreatDoor.P
open Go.RowKit Go.Proofs.YtadocbfchdendaaGreatDoorW.PrintWords Go.Proofs.YtadocbfchdendaaGreatDoorW.PrintLast Go.Proofs.YtadocbfchdendaaGreatDoorW.PrintMore
attribute [local go_sem] max2_int min2_int max_two min_two max_three min_three max_four min_four
set_option linter.unusedVariables false
set_option linter.unusedSimpArgs false
def sheet_Title_1.f (a0 : ByteArray) : Option (ByteArray × Int) := some (a0, 0)
set_option maxHeartbeats 8000000 in
set_option maxRecDepth 100000 in
theorem sheet_Title_1.calls (a0 : ByteArray) (r1 : ByteArray) (r2 : Int) (w : World) (h : sheet_Title_1.f a0 = some (r1, r2)) :
  Calls Tryz.prog 53 #[.string a0] w fun e w' => e = .returned (.tuple #[.string r1, .int .i64 r2]) ∧ Drawn0 w w' := by
 have H : (some (a0, 0)) = some (r1, r2) := h; clear h; simp only [Option.some.injEq, Prod.mk.injEq] at H; obtain ⟨rfl, rfl⟩ := H; go_enter Tryz.func53, Tryz.ntmps53
 go_wp2
 go_ret2
 exact ⟨qr, qd⟩
def words_Text.f (a0 : ByteArray) (a1_0 : Int) (a1_1 : Int) : Option (ByteArray) := (words_places.f a0 a1_0 a1_1).bind fun t102 => (if t102 = true then (if 0 ≤ a1_0 then (if a1_0 ≤ a1_1 then (if a1_1 ≤ (a0.size : Int) then (some (a0.extract (a1_0 : Int).toNat (a1_1 : Int).toNat)) else (none)) else (none)) else (none)) else (some (⟨#[]⟩ : ByteArray)))
set_option maxHeartbeats 8000000 in
set_option maxRecDepth 100000 in
theorem words_Text.calls (a0 : ByteArray) (a1_0 : Int) (a1_1 : Int) (r : ByteArray) (w : World) (h : words_Text.f a0 a1_0 a1_1 = some r) :
  Calls Tryz.prog 78 #[.string a0, .agg #[.int .i64 a1_0, .int .i64 a1_1]] w fun e w' => e = .returned (.string r) ∧ Below w.heap.size w w' := by
 have hu105 := Tryz.underlying105; have HB := Aside0.mk (Below.refl w.heap.size w); have H : ((words_places.f a0 a1_0 a1_1).bind fun t102 => (if t102 = true then (if 0 ≤ a1_0 then (if a1_0 ≤ a1_1 then (if a1_1 ≤ (a0.size : Int) then (some (a0.extract (a1_0 : Int).toNat (a1_1 : Int).toNat)) else (none)) else (none)) else (none)) else (some (⟨#[]⟩ : ByteArray)))) = some r := h; clear h; replace H := Option.bind_eq_some_iff.mp H; obtain ⟨t102, A30, H⟩ := H; (try dsimp only at H); have A3 := Aside0.mk A30; clear A30
 by_cases c4 : t102 = true
 ·subst c4; have H1 : (if 0 ≤ a1_0 then (if a1_0 ≤ a1_1 then (if a1_1 ≤ (a0.size : Int) then (some (a0.extract (a1_0 : Int).toNat (a1_1 : Int).toNat)) else (none)) else (none)) else (none)) = some r := by rw [if_pos rfl] at H; exact H
  clear H; have H := H1; clear H1
  by_cases c5 : 0 ≤ a1_0
  ·rw [if_pos c5] at H; have c5b0 := eq_true c5; have c5b1 := decide_eq_true c5; clear c5
   by_cases c6 : a1_0 ≤ a1_1
   ·rw [if_pos c6] at H; have c6b0 := eq_true c6; have c6b1 := decide_eq_true c6; clear c6
    by_cases c7 : a1_1 ≤ (a0.size : Int)
    ·rw [if_pos c7] at H; have c7b0 := eq_true c7; have c7b1 := decide_eq_true c7; clear c7; obtain rfl := Option.some.inj H; go_enter Tryz.func78, Tryz.ntmps78
     go_wp2_with (first | ((with_reducible refine gate_dst (N := 3) rfl ?_); refine box_ev (N := 3) (cs := #[.int .i64 a1_0, .int .i64 a1_1]) (t := 105) ?_; intro gb101 hg w8 hbox hb; have BK101 := Aside0.mk (hbox); have GW101 := Aside0.mk ((qg : w.heap.size ≤ gb101)); have GE101 := Aside0.mk ((qg : w.heap.size ≤ gb101)); replace HB := cB HB hb; clear hb hbox hg; have hcz9_0 : w8.cell? ⟨gb101, 0, none⟩ = some (.int .i64 a1_0) := (blk_cell BK101.out 0).trans rfl; have hcz9_1 : w8.cell? ⟨gb101, 1, none⟩ = some (.int .i64 a1_1) := (blk_cell BK101.out 1).trans rfl; have hfz9_0 := blk_frozen BK101.out 0; have hfz9_1 := blk_frozen BK101.out 1) | ((with_reducible refine gate_callee (f := 88) rfl ?_); refine goesL_ (some 10) rfl rfl Tryz.func88 (by kernel_rfl) rfl #[.string a0, .int .i64 a1_0, .int .i64 a1_1] rfl qm ?_; (with_reducible refine (words_places.calls a0 a1_0 a1_1 true _ A3.out).mono ?_); rintro e w' ⟨rfl, ⟨nd, rfl⟩⟩; refine ⟨_, rfl, ?_⟩))
     go_ret
     exact ⟨qe, qb⟩
    ·rw [if_neg c7] at H
     exact absurd H (by simp)
   ·rw [if_neg c6] at H
    exact absurd H (by simp)
  ·rw [if_neg c5] at H
   exact absurd H (by simp)
 ·replace c4 := Bool.eq_false_iff.mpr c4; subst c4; have H1 : (some (⟨#[]⟩ : ByteArray)) = some r := by rw [if_neg (show ¬ (false = true) by decide)] at H; exact H
  clear H; have H := H1; clear H1; obtain rfl := Option.some.inj H; go_enter Tryz.func78, Tryz.ntmps78
  go_wp2_with (first | ((with_reducible refine gate_dst (N := 3) rfl ?_); refine box_ev (N := 3) (cs := #[.int .i64 a1_0, .int .i64 a1_1]) (t := 105) ?_; intro gb101 hg w10 hbox hb; have BK101 := Aside0.mk (hbox); have GW101 := Aside0.mk ((qg : w.heap.size ≤ gb101)); have GE101 := Aside0.mk ((qg : w.heap.size ≤ gb101)); replace HB := cB HB hb; clear hb hbox hg; have hcz11_0 : w10.cell? ⟨gb101, 0, none⟩ = some (.int .i64 a1_0) := (blk_cell BK101.out 0).trans rfl; have hcz11_1 : w10.cell? ⟨gb101, 1, none⟩ = some (.int .i64 a1_1) := (blk_cell BK101.out 1).trans rfl; have hfz11_0 := blk_frozen BK101.out 0; have hfz11_1 := blk_frozen BK101.out 1) | ((with_reducible refine gate_callee (f := 88) rfl ?_); refine goesL_ (some 10) rfl rfl Tryz.func88 (by kernel_rfl) rfl #[.string a0, .int .i64 a1_0, .int .i64 a1_1] rfl qm ?_; (with_reducible refine (words_places.calls a0 a1_0 a1_1 false _ A3.out).mono ?_); rintro e w' ⟨rfl, ⟨nd, rfl⟩⟩; refine ⟨_, rfl, ?_⟩))
  go_ret
  exact ⟨qe, qb⟩
def sheet_each_string.l0 : Nat → ByteArray → List ByteArray → List (S105) → Int → Int → Int → Int → Option (List ByteArray × Int × Int)
 | 0, _, _, _, _, _, _, _ => none
 | k + 1, x0, x6, x12, x13, x14, x102000, x102001 => if x14 < x13 then (if 0 ≤ x14 then (if x14 < (x12.length : Int) then ((words_Text.f x0 ((rd_T105 x12 x14).f0) ((rd_T105 x12 x14).f1)).bind fun t104 => ((sheet_Title_1.f t104).bind fun bt105 => (if bt105.2 = 0 then (if x6.length < 8796093022208 then (sheet_each_string.l0 k x0 (x6 ++ [bt105.1]) x12 x13 (wrap64 (x14 + 1)) x102000 x102001) else (none)) else (some (([] : List ByteArray), (rd_T105 x12 x14).f0, bt105.2))))) else (none)) else (none)) else (some (x6, x102000, x102001))
def sheet_each_string.f (k : Nat) (a0 : ByteArray) (a1 : Unit) (l2 : List (S105)) : Option (List ByteArray × Int × Int) := sheet_each_string.l0 k a0 ([] : List ByteArray) l2 (l2.length : Int) 0 0 0
theorem sheet_each_string.mono_l : ∀ k, (∀ y0 y1 y2 y3 y4 y5 y6, LeO (sheet_each_string.l0 k y0 y1 y2 y3 y4 y5 y6) (sheet_each_string.l0 (k + 1) y0 y1 y2 y3 y4 y5 y6))
 | 0 => fun _ _ _ _ _ _ _ r h => by simp [sheet_each_string.l0] at h
 | k + 1 => by
  have ih0 := sheet_each_string.mono_l k
  ·intro y0 y1 y2 y3 y4 y5 y6
   unfold sheet_each_string.l0
   repeat' first
   | (with_reducible exact ih0 _ _ _ _ _ _ _)
   | (with_reducible exact LeO.refl _)
   | (with_reducible exact LeO.none _)
   | (with_reducible refine LeO.ite ?_ ?_)
   | (with_reducible refine LeO.bind ?_ (fun _ => ?_))
   | exact ih0 _ _ _ _ _ _ _
   | exact LeO.none _
   | refine LeO.ite ?_ ?_
   | refine LeO.bind ?_ (fun _ => ?_)
theorem sheet_each_string.mono : ∀ a0 a1 a2 k, LeO (sheet_each_string.f k a0 a1 a2) (sheet_each_string.f (k + 1) a0 a1 a2) := by
 intro a0 a1 a2 k
 have ih0 := sheet_each_string.mono_l k; unfold sheet_each_string.f
 repeat' first
   | (with_reducible exact ih0 _ _ _ _ _ _ _)
   | (with_reducible exact LeO.refl _)
   | (with_reducible exact LeO.none _)
   | (with_reducible refine LeO.ite ?_ ?_)
   | (with_reducible refine LeO.bind ?_ (fun _ => ?_))
   | exact ih0 _ _ _ _ _ _ _
   | exact LeO.none _
   | refine LeO.ite ?_ ?_
   | refine LeO.bind ?_ (fun _ => ?_)
set_option maxHeartbeats 8000000 in
set_option maxRecDepth 100000 in
theorem sheet_each_string.calls (k : Nat) (a0 : ByteArray) (a1 : Unit) (A2 : Option Addr) (c2 : Nat) (l2 : List (S105)) (r1 : List ByteArray) (r2 : Int) (r3 : Int) (w : World) (hr2 : Kd.C k105 w A2 l2.length l2) (hc2 : l2.length ≤ c2) (h : sheet_each_string.f k a0 a1 l2 = some (r1, r2, r3)) :
  Calls Tryz.prog 52 #[.string a0, .func (.func 53) #[] #[], .slice A2 l2.length c2] w fun e w' => ∃ v0_ : Value, e = .returned (.tuple #[v0_, .agg #[.int .i64 r2, .int .i64 r3]]) ∧ Kd.R Kd.string 9 w' w.heap.size (fun _ => True) v0_ r1 ∧ Below w.heap.size w w' := by
 have hu41 := Tryz.underlying41; have hu105 := Tryz.underlying105; have HR2 := Aside0.mk hr2; have HC2 := Aside0.mk hc2; clear hr2 hc2; have HB := Aside0.mk (Below.refl w.heap.size w); have H : (sheet_each_string.l0 k a0 ([] : List ByteArray) l2 (l2.length : Int) 0 0 0) = some (r1, r2, r3) := h; clear h; have H' := Aside0.mk H; clear H; go_enter Tryz.func52, Tryz.ntmps52
 go_wp2_with (first | ((with_reducible refine gate_dst (N := 7) rfl ?_); refine box_ev (N := 7) (cs := #[.int .i64 0, .int .i64 0]) (t := 41) ?_; intro gb101 hg w4 hbox hb; have BK101 := Aside0.mk (hbox); have GW101 := Aside0.mk ((qg : w.heap.size ≤ gb101)); have GE101 := Aside0.mk ((qg : w.heap.size ≤ gb101)); replace HB := cB HB hb; clear hb hbox hg))
 (try simp only [Act.put, List.setIfInBounds_toArray, List.set_cons_zero, List.set_cons_succ])
 go_loopg [6, 14] k (fun kq v6 v14 w' => ∃ (x6_1 : List ByteArray) (x14_1 : Int) (x102000_1 : Int) (x102001_1 : Int), v14 = .int .i64 x14_1 ∧ Aside0 (sheet_each_string.l0 kq a0 x6_1 l2 (l2.length : Int) x14_1 x102000_1 x102001_1 = some (r1, r2, r3)) ∧ Aside0 (kq ≤ k) ∧ Aside0 (Kd.R Kd.string 9 w' w.heap.size (fun _ => True) v6 x6_1) ∧ Aside0 (w'.heap[gb101]? = some (.cells #[.int .i64 x102000_1, .int .i64 x102001_1] 41 (0, 0))) ∧ Aside0 (Below w.heap.size w w'))
 case atStart => exact ⟨(([] : List ByteArray)), (0), (0), (0), qr, H', ⟨Nat.le_refl _⟩, ⟨by first | exact Kd.R_nil _ _ _ _ _ | exact Kd.N_nil _ _ _ _ _ | exact Kd.V_nil _ _ _ _ _ | exact Kd.Q_nil _ _ _ _ _ | exact Kd.S_nil _ _ _ _ _⟩, ⟨qk BK101.out⟩, ⟨qb⟩⟩
 case round =>
  clear H'; (try clear c2); (try clear p2); obtain ⟨x6_1, x14_1, x102000_1, x102001_1, rfl, HA, HK1, HO_6, BK101, HB⟩ := hrel; cases gk with
  | zero => exact absurd HA.out (by simp [sheet_each_string.l0])
  | succ k1 =>
   have H := HA.out; clear HA; simp only [sheet_each_string.l0] at H
   by_cases c5 : x14_1 < (l2.length : Int)
   ·rw [if_pos c5] at H; have c5b0 := decide_eq_true c5; clear c5
    by_cases c6 : 0 ≤ x14_1
    ·rw [if_pos c6] at H; have c6b0 := decide_eq_true c6; clear c6
     by_cases c7 : x14_1 < (l2.length : Int)
     ·rw [if_pos c7] at H; have c7b0 := decide_eq_true c7; clear c7; replace H := Option.bind_eq_some_iff.mp H; obtain ⟨t104, A80, H⟩ := H; (try dsimp only at H); have A8 := Aside0.mk A80; clear A80; replace H := Option.bind_eq_some_iff.mp H; obtain ⟨⟨t105, t106⟩, A90, H⟩ := H; (try dsimp only at H); have A9 := Aside0.mk A90; clear A90
      by_cases c10 : t106 = 0
      ·rw [if_pos c10] at H; have c10b0 := beq_iff_eq.mpr c10; have c10b1 := bne_eq_false_iff_eq.mpr c10; clear c10
       by_cases c11 : x6_1.length < 8796093022208
       ·rw [if_pos c11] at H; have LMc11 := Aside0.mk c11; clear c11; obtain ⟨y107, hy107⟩ : ∃ y_ : List ByteArray, y_ = (x6_1 ++ [t105]) := ⟨_, rfl⟩; replace H : (sheet_each_string.l0 k1 a0 y107 l2 (l2.length : Int) (wrap64 (x14_1 + 1)) x102000_1 x102001_1) = some (r1, r2, r3) := by first | (rw [hy107]; with_reducible exact H) | (have H2_ := (Option.bind_some _ _).symm.trans H; rw [hy107]; with_reducible exact H2_) | (have H2_ := (Option.bind_some _ _).symm.trans H; with_reducible exact H2_) | with_reducible exact H | (rw [hy107]; exact H) | exact H
        have Ny107 := Aside0.mk hy107; clear hy107; have H' := Aside0.mk H; clear H; have p102 : 0 ≤ (x14_1 : Int) := of_decide_eq_true qa; have q102 : x14_1 < (l2.length : Int) := of_decide_eq_true qa; obtain ⟨ad102, e102, hx102_0, hx102_1⟩ := at_T105 HR2.out x14_1 p102 q102; cases e102; replace hx102_0 := (HB.out.cell (World.block_lt_of_cell? w _ hx102_0)).trans hx102_0; replace hx102_1 := (HB.out.cell (World.block_lt_of_cell? w _ hx102_1)).trans hx102_1; (try simp only [Go.IntWalk.toNatUp] at hx102_0); (try simp only [Go.IntWalk.toNatUp] at hx102_1); replace p102 := eq_true p102; replace q102 := eq_true q102
        go_wp2_with (first | ((with_reducible refine gate_dst (N := 9) rfl ?_); refine box_ev (N := 9) (cs := #[.int .i64 0, .int .i64 0]) (t := 105) ?_; intro gb103 hg w12 hbox hb; have BK103 := Aside0.mk (hbox); have GW103 := Aside0.mk ((qg : w.heap.size ≤ gb103)); have GE103 := Aside0.mk ((qg : w.heap.size ≤ gb103)); have NB101_103 := Aside0.mk ((by rw [hg]; exact Nat.ne_of_lt (blk_lt (g := gb101) (o := .cells #[.int .i64 x102000_1, .int .i64 x102001_1] 41 (0, 0)) (qk BK101.out)) : gb101 ≠ gb103)); have NB103_101 := Aside0.mk ((by rw [hg]; exact Nat.ne_of_gt (blk_lt (g := gb101) (o := .cells #[.int .i64 x102000_1, .int .i64 x102001_1] 41 (0, 0)) (qk BK101.out)) : gb103 ≠ gb101)); replace HO_6 := cR HO_6 hb; replace BK101 := cK BK101 hb; replace HB := cB HB hb; clear hb hbox hg; have hnb13 := NB103_101.out; have hnc13 := NB101_103.out; have hcz14_0 : w12.cell? ⟨gb103, 0, none⟩ = some (.int .i64 0) := (blk_cell BK103.out 0).trans rfl; have hcz14_1 : w12.cell? ⟨gb103, 1, none⟩ = some (.int .i64 0) := (blk_cell BK103.out 1).trans rfl; have hfz14_0 := blk_frozen BK103.out 0; have hfz14_1 := blk_frozen BK103.out 1) | ((with_reducible refine gate_callee (f := 78) rfl ?_); refine goesL_ (some 22) rfl rfl Tryz.func78 (by kernel_rfl) rfl #[.string a0, .agg #[.int .i64 ((rd_T105 l2 x14_1).f0), .int .i64 ((rd_T105 l2 x14_1).f1)]] rfl qm ?_; (with_reducible refine (words_Text.calls a0 ((rd_T105 l2 x14_1).f0) ((rd_T105 l2 x14_1).f1) t104 _ A8.out).mono ?_); rintro e w15 ⟨rfl, hb⟩; refine ⟨_, rfl, ?_⟩; have n0_ := Aside0.mk (Kd.R_below (by refine qR ?_; exact (Kd.R_mono (Kd.R_far (p := ⟨gb103, 1, none⟩) (Kd.R_far (p := ⟨gb103, 0, none⟩) (Kd.R_types HO_6.out BK103.out (by decide)) (fun _ hk => hk.2) (.int .i64 ((rd_T105 l2 x14_1).f0))) (fun _ hk => hk.2) (.int .i64 ((rd_T105 l2 x14_1).f1))) (fun _ h_ => by first | exact h_.1 | exact ⟨trivial, h_.1⟩))) hb); have n1_ := Aside0.mk (blk_below (g := gb101) (o := .cells #[.int .i64 x102000_1, .int .i64 x102001_1] 41 (0, 0)) (by refine qk ?_; refine blk_far ?_ NB101_103.out _; refine qk ?_; refine blk_far ?_ NB101_103.out _; refine qk ?_; exact BK101.out) hb); have n2_ := Aside0.mk (blk_below (g := gb103) (o := .cells #[.int .i64 ((rd_T105 l2 x14_1).f0), .int .i64 ((rd_T105 l2 x14_1).f1)] 105 (0, 0)) (by refine qk ?_; refine blk_put (cs := #[.int .i64 ((rd_T105 l2 x14_1).f0), .int .i64 0]) ?_ 1 _ rfl; refine qk ?_; refine blk_put (cs := #[.int .i64 0, .int .i64 0]) ?_ 0 _ rfl; refine qk ?_; exact BK103.out) hb); replace HB := cB HB hb; replace HO_6 := n0_; replace BK101 := n1_; replace BK103 := n2_; clear n0_ n1_ n2_; (try clear hb); (try clear hb2); (try clear hk); (try clear hi)) | (go_at_call 53; (with_reducible refine (sheet_Title_1.calls t104 t105 t106 _ A9.out).mono ?_); rintro e w' ⟨rfl, ⟨nd, rfl⟩⟩) | ((with_reducible refine gate_builtin (b := .append) (xs := #[.tmp 32, .tmp 34]) rfl ?_); at_builtin; refine Kd.R_append Kd.string (w0 := w) w.heap.size rfl (.tmp 32) (.tmp 34) 106 9 (.string ⟨#[]⟩) 16 rfl Tryz.underlying106 info9 rfl (by decide) (by omega) u6 x6_1 t105 [.string t105] (fun _ => True) (fun _ => False) rfl rfl ?aP (fun _ hk => hk.elim) ?aF ?aO ?aB ?aS ?aL ?_; (case aP => exact rfl); (case aB => exact qb); (case aF => exact (fun _ _ => trivial)); (case aO => exact (qR HO_6.out)); (case aS => exact (below_size qb)); (case aL => have := LMc11.out; omega); intro v108 w16 ho hb hg hat; rw [← Ny107.out] at ho; have n0_ := Aside0.mk (blk_grown (g := gb101) (o := .cells #[.int .i64 x102000_1, .int .i64 x102001_1] 41 (0, 0)) (qk BK101.out) hg (Kd.R_ne HO_6.out BK101.out (by decide))); have n1_ := Aside0.mk (blk_grown (g := gb103) (o := .cells #[.int .i64 ((rd_T105 l2 x14_1).f0), .int .i64 ((rd_T105 l2 x14_1).f1)] 105 (0, 0)) (qk BK103.out) hg (Kd.R_ne HO_6.out BK103.out (by decide))); have n2_ := Aside0.mk (hb); have HO109 := Aside0.mk (ho); replace BK101 := n0_; replace BK103 := n1_; replace HB := n2_; clear n0_ n1_ n2_; clear HO_6; clear ho hb hg hat))
        go_roundg k1
        case measure => have := HK1.out; omega
        case rel => exact ⟨(y107), (wrap64 (x14_1 + 1)), (x102000_1), (x102001_1), qr, H', ⟨by have := HK1.out; omega⟩, ⟨qR HO109.out⟩, ⟨qk BK101.out⟩, ⟨qb⟩⟩
       ·rw [if_neg c11] at H
        exact absurd H (by simp)
      ·rw [if_neg c10] at H; have c10b0 := beq_eq_false_iff_ne.mpr c10; have c10b1 := bne_iff_ne.mpr c10; simp only [Option.some.injEq, Prod.mk.injEq] at H; obtain ⟨rfl, rfl, rfl⟩ := H; have p102 : 0 ≤ (x14_1 : Int) := of_decide_eq_true qa; have q102 : x14_1 < (l2.length : Int) := of_decide_eq_true qa; obtain ⟨ad102, e102, hx102_0, hx102_1⟩ := at_T105 HR2.out x14_1 p102 q102; cases e102; replace hx102_0 := (HB.out.cell (World.block_lt_of_cell? w _ hx102_0)).trans hx102_0; replace hx102_1 := (HB.out.cell (World.block_lt_of_cell? w _ hx102_1)).trans hx102_1; (try simp only [Go.IntWalk.toNatUp] at hx102_0); (try simp only [Go.IntWalk.toNatUp] at hx102_1); replace p102 := eq_true p102; replace q102 := eq_true q102
       try go_wp2_with (first | ((with_reducible refine gate_dst (N := 9) rfl ?_); refine box_ev (N := 9) (cs := #[.int .i64 0, .int .i64 0]) (t := 105) ?_; intro gb103 hg w17 hbox hb; have BK103 := Aside0.mk (hbox); have GW103 := Aside0.mk ((qg : w.heap.size ≤ gb103)); have GE103 := Aside0.mk ((qg : w.heap.size ≤ gb103)); have NB101_103 := Aside0.mk ((by rw [hg]; exact Nat.ne_of_lt (blk_lt (g := gb101) (o := .cells #[.int .i64 x102000_1, .int .i64 x102001_1] 41 (0, 0)) (qk BK101.out)) : gb101 ≠ gb103)); have NB103_101 := Aside0.mk ((by rw [hg]; exact Nat.ne_of_gt (blk_lt (g := gb101) (o := .cells #[.int .i64 x102000_1, .int .i64 x102001_1] 41 (0, 0)) (qk BK101.out)) : gb103 ≠ gb101)); replace HO_6 := cR HO_6 hb; replace BK101 := cK BK101 hb; replace HB := cB HB hb; clear hb hbox hg; have hnb18 := NB103_101.out; have hnc18 := NB101_103.out; have hcz19_0 : w17.cell? ⟨gb103, 0, none⟩ = some (.int .i64 0) := (blk_cell BK103.out 0).trans rfl; have hcz19_1 : w17.cell? ⟨gb103, 1, none⟩ = some (.int .i64 0) := (blk_cell BK103.out 1).trans rfl; have hfz19_0 := blk_frozen BK103.out 0; have hfz19_1 := blk_frozen BK103.out 1) | ((with_reducible refine gate_callee (f := 78) rfl ?_); refine goesL_ (some 22) rfl rfl Tryz.func78 (by kernel_rfl) rfl #[.string a0, .agg #[.int .i64 ((rd_T105 l2 x14_1).f0), .int .i64 ((rd_T105 l2 x14_1).f1)]] rfl qm ?_; (with_reducible refine (words_Text.calls a0 ((rd_T105 l2 x14_1).f0) ((rd_T105 l2 x14_1).f1) t104 _ A8.out).mono ?_); rintro e w20 ⟨rfl, hb⟩; refine ⟨_, rfl, ?_⟩; have n0_ := Aside0.mk (Kd.R_below (by refine qR ?_; exact (Kd.R_mono (Kd.R_far (p := ⟨gb103, 1, none⟩) (Kd.R_far (p := ⟨gb103, 0, none⟩) (Kd.R_types HO_6.out BK103.out (by decide)) (fun _ hk => hk.2) (.int .i64 ((rd_T105 l2 x14_1).f0))) (fun _ hk => hk.2) (.int .i64 ((rd_T105 l2 x14_1).f1))) (fun _ h_ => by first | exact h_.1 | exact ⟨trivial, h_.1⟩))) hb); have n1_ := Aside0.mk (blk_below (g := gb101) (o := .cells #[.int .i64 x102000_1, .int .i64 x102001_1] 41 (0, 0)) (by refine qk ?_; refine blk_far ?_ NB101_103.out _; refine qk ?_; refine blk_far ?_ NB101_103.out _; refine qk ?_; exact BK101.out) hb); have n2_ := Aside0.mk (blk_below (g := gb103) (o := .cells #[.int .i64 ((rd_T105 l2 x14_1).f0), .int .i64 ((rd_T105 l2 x14_1).f1)] 105 (0, 0)) (by refine qk ?_; refine blk_put (cs := #[.int .i64 ((rd_T105 l2 x14_1).f0), .int .i64 0]) ?_ 1 _ rfl; refine qk ?_; refine blk_put (cs := #[.int .i64 0, .int .i64 0]) ?_ 0 _ rfl; refine qk ?_; exact BK103.out) hb); replace HB := cB HB hb; replace HO_6 := n0_; replace BK101 := n1_; replace BK103 := n2_; clear n0_ n1_ n2_; (try clear hb); (try clear hb2); (try clear hk); (try clear hi)) | (go_at_call 53; (with_reducible refine (sheet_Title_1.calls t104 t105 t106 _ A9.out).mono ?_); rintro e w' ⟨rfl, ⟨nd, rfl⟩⟩; (try (rw [drewN_self w20]; generalize hq_ : World.drewN w20 _ = w20; have n0_ : Aside0 (Kd.R Kd.string 9 w20 w.heap.size (fun _ => True) u6 x6_1) := ⟨by rw [← hq_]; exact (qR HO_6.out)⟩; have n1_ : Aside0 (w20.heap[gb101]? = some (.cells #[.int .i64 x102000_1, .int .i64 x102001_1] 41 (0, 0))) := ⟨by rw [← hq_]; exact (qk BK101.out)⟩; have n2_ : Aside0 (w20.heap[gb103]? = some (.cells #[.int .i64 ((rd_T105 l2 x14_1).f0), .int .i64 ((rd_T105 l2 x14_1).f1)] 105 (0, 0))) := ⟨by rw [← hq_]; exact (qk BK103.out)⟩; have n3_ : Aside0 (Below w.heap.size w w20) := ⟨by rw [← hq_]; exact qb⟩; clear HO_6 BK101 BK103 HB hq_; have HO_6 := n0_; have BK101 := n1_; have BK103 := n2_; have HB := n3_; clear n0_ n1_ n2_ n3_))))
       have n0_ := Aside0.mk (Kd.R_drew HO_6.out); have n1_ := Aside0.mk (blk_drew BK101.out); have n2_ := Aside0.mk (blk_drew BK103.out); have n3_ := Aside0.mk (below_drew1 HB.out); clear HO_6; clear BK101; clear BK103; clear HB; have HO_6 := n0_; have BK101 := n1_; have BK103 := n2_; have HB := n3_; clear n0_ n1_ n2_ n3_; refine start_ (n := 6) (S := fun w' => w'.cell? ⟨gb103, 0, none⟩ = some (.int .i64 ((rd_T105 l2 x14_1).f0)) ∧ w'.cell? ⟨gb103, 1, none⟩ = some (.int .i64 ((rd_T105 l2 x14_1).f1))) (ds := []) #[false, false, false, false, false, false] (by kernel_rfl) rfl rfl ⟨(blk_cell BK103.out 0).trans rfl, (blk_cell BK103.out 1).trans rfl⟩ (fun hHeld => ?_); generalize w20.drew = w21 at HO_6 BK101 BK103 HB hHeld ⊢; refine pure_ (i := 0) (N := some 28) (v := ?_) (a' := ?_) #[true, false, false, false, false, false] rfl rfl (by kernel_rfl) (fun _ _ _ h => h) (Or.inl ⟨by rfl, ?_⟩) ?_ ?_
       rotate_left
       ·intro w'
        go_simp
        with_reducible rfl
       rotate_left
       ·simp only [Act.put, List.setIfInBounds_toArray, List.set_cons_zero, List.set_cons_succ, i64_w, i32_w]
        rfl
       refine pure_ (i := 2) (N := some 30) (v := ?_) (a' := ?_) #[true, false, true, false, false, false] rfl rfl (by kernel_rfl) (fun _ _ _ h => h) (Or.inl ⟨by rfl, ?_⟩) ?_ ?_
       rotate_left
       ·intro w'
        go_simp
        with_reducible rfl
       rotate_left
       ·simp only [Act.put, List.setIfInBounds_toArray, List.set_cons_zero, List.set_cons_succ, i64_w, i32_w]
        rfl
       refine pure_ (i := 4) (N := some 6) (v := ?_) (a' := ?_) #[true, false, true, false, true, false] rfl rfl (by kernel_rfl) (fun _ _ _ h => h) (Or.inl ⟨by rfl, ?_⟩) ?_ ?_
       rotate_left
       ·intro w'
        go_simp
        with_reducible rfl
       rotate_left
       ·simp only [Act.put, List.setIfInBounds_toArray, List.set_cons_zero, List.set_cons_succ, i64_w, i32_w]
        rfl
       refine take_ (i := 1) (N := some 29) (v := ?_) (a' := ?_) #[true, true, true, false, true, false] rfl rfl (by kernel_rfl) (fun _ _ _ h => h) (Or.inl ⟨by rfl, ?_⟩) hHeld ?_ ?_
       rotate_left
       ·rintro w' ⟨s0, s1⟩
        go_simp
        with_reducible rfl
       rotate_left
       ·simp only [Act.put, List.setIfInBounds_toArray, List.set_cons_zero, List.set_cons_succ, i64_w, i32_w]
        rfl
       refine pure_ (i := 3) (N := some 31) (v := ?_) (a' := ?_) #[true, true, true, true, true, false] rfl rfl (by kernel_rfl) (fun _ _ _ h => h) (Or.inl ⟨by rfl, ?_⟩) ?_ ?_
       rotate_left
       ·intro w'
        go_simp
        with_reducible rfl
       rotate_left
       ·simp only [Act.put, List.setIfInBounds_toArray, List.set_cons_zero, List.set_cons_succ, i64_w, i32_w]
        rfl
       refine one_ (i := 5) (N := none) #[true, true, true, true, true, true] rfl rfl (by kernel_rfl) (by decide) (fun K hK => ?_); have hs22 : w21.cell? ⟨gb101, 0, none⟩ = some (.int .i64 x102000_1) := (blk_cell BK101.out 0).trans rfl; have hfs22 := blk_frozen BK101.out 0; have hns22_1 := NB103_101.out; have hms22_1 := NB101_103.out; have hs23 : w21.cell? ⟨gb101, 1, none⟩ = some (.int .i64 x102001_1) := (blk_cell BK101.out 1).trans rfl; have hfs23 := blk_frozen BK101.out 1; have hns23_1 := NB103_101.out; have hms23_1 := NB101_103.out; refine skip_ (w1 := ?_) (by rfl) rfl ?_ ?_
       rotate_left
       ·go_simp
        rfl
       refine hK.out _ _ ⟨((cell_far (p := ⟨gb101, _, none⟩) NB103_101.out _).trans (((cell_far (p := ⟨gb101, _, none⟩) NB103_101.out _).trans (hHeld.1)))), ((cell_far (p := ⟨gb101, _, none⟩) NB103_101.out _).trans (((cell_far (p := ⟨gb101, _, none⟩) NB103_101.out _).trans (hHeld.2))))⟩ (fun hHeld => ?_); clear hK K; refine done_ (by kernel_rfl) ?_
       try go_wp2
       refine bodyPost_ret (results_tc rfl _ _ gb101 41 #[.int .i64 ((rd_T105 l2 x14_1).f0), .int .i64 t106] (0, 0) _ rfl (by refine qk ?_; refine blk_put (cs := #[.int .i64 ((rd_T105 l2 x14_1).f0), .int .i64 x102001_1]) ?_ 1 _ rfl; refine qk ?_; refine blk_put (cs := #[.int .i64 x102000_1, .int .i64 x102001_1]) ?_ 0 _ rfl; refine qk ?_; exact BK101.out) Tryz.underlying41 rfl (by kernel_rfl)) rfl ?_
       exact ⟨_, qe, by first | exact Kd.R_nil _ _ _ _ _ | exact Kd.N_nil _ _ _ _ _ | exact Kd.V_nil _ _ _ _ _ | exact Kd.Q_nil _ _ _ _ _ | exact Kd.S_nil _ _ _ _ _, qb⟩
     ·rw [if_neg c7] at H
      exact absurd H (by simp)
    ·rw [if_neg c6] at H
     exact absurd H (by simp)
   ·rw [if_neg c5] at H; have c5b0 := decide_eq_false c5; clear c5; simp only [Option.some.injEq, Prod.mk.injEq] at H; obtain ⟨rfl, rfl, rfl⟩ := H
    try go_wp2
    have n0_ := Aside0.mk (Kd.R_drew HO_6.out); have n1_ := Aside0.mk (blk_drew BK101.out); have n2_ := Aside0.mk (below_drew1 HB.out); clear HO_6; clear BK101; clear HB; have HO_6 := n0_; have BK101 := n1_; have HB := n2_; clear n0_ n1_ n2_; refine start_ (n := 4) (S := fun w' => w'.cell? ⟨gb101, 0, none⟩ = some (.int .i64 x102000_1) ∧ w'.cell? ⟨gb101, 1, none⟩ = some (.int .i64 x102001_1)) (ds := [3]) #[false, false, false, false] (by kernel_rfl) rfl rfl ⟨(blk_cell BK101.out 0).trans rfl, (blk_cell BK101.out 1).trans rfl⟩ (fun hHeld => ?_); generalize wr.drew = w24 at HO_6 BK101 HB hHeld ⊢; refine pure_ (i := 0) (N := some 37) (v := ?_) (a' := ?_) #[true, false, false, false] rfl rfl (by kernel_rfl) (fun _ _ _ h => h) (Or.inl ⟨by rfl, ?_⟩) ?_ ?_
    rotate_left
    ·intro w'
     go_simp
     with_reducible rfl
    rotate_left
    ·simp only [Act.put, List.setIfInBounds_toArray, List.set_cons_zero, List.set_cons_succ, i64_w, i32_w]
     rfl
    refine pure_ (i := 2) (N := some 6) (v := ?_) (a' := ?_) #[true, false, true, false] rfl rfl (by kernel_rfl) (fun _ _ _ h => h) (Or.inl ⟨by rfl, ?_⟩) ?_ ?_
    rotate_left
    ·intro w'
     go_simp
     with_reducible rfl
    rotate_left
    ·simp only [Act.put, List.setIfInBounds_toArray, List.set_cons_zero, List.set_cons_succ, i64_w, i32_w]
     rfl
    refine take_ (i := 1) (N := some 38) (v := ?_) (a' := ?_) #[true, true, true, false] rfl rfl (by kernel_rfl) (fun _ _ _ h => h) (Or.inl ⟨by rfl, ?_⟩) hHeld ?_ ?_
    rotate_left
    ·rintro w' ⟨s0, s1⟩
     go_simp
     with_reducible rfl
    rotate_left
    ·simp only [Act.put, List.setIfInBounds_toArray, List.set_cons_zero, List.set_cons_succ, i64_w, i32_w]
     rfl
    refine last_ (i := 3) (N := none) #[true, true, true, true] rfl rfl (by kernel_rfl) (by decide) (fun K hK => ?_); have hs25 : w24.cell? ⟨gb101, 0, none⟩ = some (.int .i64 x102000_1) := (blk_cell BK101.out 0).trans rfl; have hfs25 := blk_frozen BK101.out 0; have hs26 : w24.cell? ⟨gb101, 1, none⟩ = some (.int .i64 x102001_1) := (blk_cell BK101.out 1).trans rfl; have hfs26 := blk_frozen BK101.out 1; refine skip_ (w1 := ?_) (by rfl) rfl ?_ ?_
    rotate_left
    ·go_simp
     rfl
    refine hK.out _ _ ?_; clear hK K; refine done_ (by kernel_rfl) ?_
    try go_wp2
    refine bodyPost_ret (results_tc rfl _ _ gb101 41 #[.int .i64 x102000_1, .int .i64 x102001_1] (0, 0) _ rfl (by refine qk ?_; refine blk_put (cs := #[.int .i64 x102000_1, .int .i64 x102001_1]) ?_ 1 _ rfl; refine qk ?_; refine blk_put (cs := #[.int .i64 x102000_1, .int .i64 x102001_1]) ?_ 0 _ rfl; refine qk ?_; exact BK101.out) Tryz.underlying41 rfl (by kernel_rfl)) rfl ?_
    exact ⟨_, qe, by refine qR ?_; exact Kd.R_mono (Kd.R_far (p := ⟨gb101, 1, none⟩) (Kd.R_far (p := ⟨gb101, 0, none⟩) (Kd.R_types HO_6.out BK101.out (by decide)) (fun _ hk => hk.2) (.int .i64 x102000_1)) (fun _ hk => hk.2) (.int .i64 x102001_1)) (fun _ hk => trivial), qb⟩
def sheet_Title.f (k : Nat) (a0 : ByteArray) (a1_0 : Int) (l1_1 : List (S105)) (a2 : ByteArray) : Option (Bool) := (sheet_each_string.f k a0 () l1_1).bind fun bt102 => ((strings_Join.f bt102.1 (⟨#[32]⟩ : ByteArray)).bind fun t108 => (some (t108.toList == a2.toList)))
theorem sheet_Title.mono : ∀ a0 a1 a2 a3 k, LeO (sheet_Title.f k a0 a1 a2 a3) (sheet_Title.f (k + 1) a0 a1 a2 a3) := by
 intro a0 a1 a2 a3 k
 unfold sheet_Title.f
 repeat' first
   | (with_reducible exact sheet_each_string.mono _ _ _ _)
   | (with_reducible exact LeO.refl _)
   | (with_reducible exact LeO.none _)
   | (with_reducible refine LeO.ite ?_ ?_)
   | (with_reducible refine LeO.bind ?_ (fun _ => ?_))
   | exact sheet_each_string.mono _ _ _ _
   | exact LeO.none _
   | refine LeO.ite ?_ ?_
   | refine LeO.bind ?_ (fun _ => ?_)
set_option maxHeartbeats 8000000 in
set_option maxRecDepth 100000 in
theorem sheet_Title.calls (k : Nat) (a0 : ByteArray) (a1_0 : Int) (A1_1 : Option Addr) (c1_1 : Nat) (l1_1 : List (S105)) (a2 : ByteArray) (r : Bool) (w : World) (hr1_1 : Kd.C k105 w A1_1 l1_1.length l1_1) (hc1_1 : l1_1.length ≤ c1_1) (h : sheet_Title.f k a0 a1_0 l1_1 a2 = some r) :
  Calls Tryz.prog 19 #[.string a0, .agg #[.int .i64 a1_0, .slice A1_1 l1_1.length c1_1], .string a2] w fun e w' => e = .returned (.bool r) ∧ Below w.heap.size w w' := by
 have hu32 := Tryz.underlying32; have hu41 := Tryz.underlying41; have HR1_1 := Aside0.mk hr1_1; have HC1_1 := Aside0.mk hc1_1; clear hr1_1 hc1_1; have HB := Aside0.mk (Below.refl w.heap.size w); have H : ((sheet_each_string.f k a0 () l1_1).bind fun bt102 => ((strings_Join.f bt102.1 (⟨#[32]⟩ : ByteArray)).bind fun t108 => (some (t108.toList == a2.toList)))) = some r := h; clear h; replace H := Option.bind_eq_some_iff.mp H; obtain ⟨⟨t102, t105, t106⟩, A40, H⟩ := H; (try dsimp only at H); have A4 := Aside0.mk A40; clear A40; replace H := Option.bind_eq_some_iff.mp H; obtain ⟨t108, A50, H⟩ := H; (try dsimp only at H); have A5 := Aside0.mk A50; clear A50; obtain rfl := Option.some.inj H; go_enter Tryz.func19, Tryz.ntmps19
 go_wp2_with (first | ((with_reducible refine gate_dst (N := 4) rfl ?_); refine box_ev (N := 4) (cs := #[.int .i64 a1_0, .slice A1_1 l1_1.length c1_1]) (t := 32) ?_; intro gb101 hg w6 hbox hb; have BK101 := Aside0.mk (hbox); have GW101 := Aside0.mk ((qg : w.heap.size ≤ gb101)); have GE101 := Aside0.mk ((qg : w.heap.size ≤ gb101)); replace HB := cB HB hb; clear hb hbox hg; have hcz7_0 : w6.cell? ⟨gb101, 0, none⟩ = some (.int .i64 a1_0) := (blk_cell BK101.out 0).trans rfl; have hcz7_1 : w6.cell? ⟨gb101, 1, none⟩ = some (.slice A1_1 l1_1.length c1_1) := (blk_cell BK101.out 1).trans rfl; have hfz7_0 := blk_frozen BK101.out 0; have hfz7_1 := blk_frozen BK101.out 1) | ((with_reducible refine gate_callee (f := 52) rfl ?_); refine goesL_ (some 13) rfl rfl Tryz.func52 (by kernel_rfl) rfl #[.string a0, .func (.func 53) #[] #[], .slice A1_1 l1_1.length c1_1] rfl qm ?_; (with_reducible refine (sheet_each_string.calls k a0 () _ _ l1_1 t102 t105 t106 _ ?side1 ?side2 A4.out).mono ?_); (case side1 => exact qC (Kd.C_below HR1_1.out HB.out)); (case side2 => exact HC1_1.out); rintro e w8 ⟨v103, rfl, ho0, hb⟩; refine ⟨_, rfl, ?_⟩; have HO104 := Aside0.mk (Kd.R_lower ho0 (below_size qb)); replace BK101 := cK BK101 hb; replace HB := cB HB hb; (try clear hb); (try clear hb2); (try clear hk); (try clear hi); (try clear ho0)) | ((with_reducible refine gate_dst (N := 8) rfl ?_); refine box_ev (N := 8) (cs := #[.int .i64 0, .int .i64 0]) (t := 41) ?_; intro gb107 hg w9 hbox hb; have BK107 := Aside0.mk (hbox); have GW107 := Aside0.mk ((qg : w.heap.size ≤ gb107)); have GE107 := Aside0.mk ((qg : w.heap.size ≤ gb107)); have NB101_107 := Aside0.mk ((by rw [hg]; exact Nat.ne_of_lt (blk_lt (g := gb101) (o := .cells #[.int .i64 a1_0, .slice A1_1 l1_1.length c1_1] 32 (0, 0)) (qk BK101.out)) : gb101 ≠ gb107)); have NB107_101 := Aside0.mk ((by rw [hg]; exact Nat.ne_of_gt (blk_lt (g := gb101) (o := .cells #[.int .i64 a1_0, .slice A1_1 l1_1.length c1_1] 32 (0, 0)) (qk BK101.out)) : gb107 ≠ gb101)); replace HO104 := cR HO104 hb; replace BK101 := cK BK101 hb; replace HB := cB HB hb; clear hb hbox hg; have hnb10 := NB107_101.out; have hnc10 := NB101_107.out; have hcz11_0 : w9.cell? ⟨gb107, 0, none⟩ = some (.int .i64 0) := (blk_cell BK107.out 0).trans rfl; have hcz11_1 : w9.cell? ⟨gb107, 1, none⟩ = some (.int .i64 0) := (blk_cell BK107.out 1).trans rfl; have hfz11_0 := blk_frozen BK107.out 0; have hfz11_1 := blk_frozen BK107.out 1; obtain ⟨Ao12, co12, eo12⟩ := Kd.R_slice HO104.out; subst eo12) | ((with_reducible refine gate_callee (f := 54) rfl ?_); refine goesL_ (some 17) rfl rfl Tryz.func54 (by kernel_rfl) rfl #[.slice Ao12 t102.length co12, .string (⟨#[32]⟩ : ByteArray)] rfl qm ?_; (with_reducible refine (strings_Join.calls _ _ t102 (⟨#[32]⟩ : ByteArray) t108 _ ?side1 ?side2 A5.out).mono ?_); (case side1 => refine (Kd.R_reads' (e := 9) (base := w.heap.size) (ok := fun k_ => True) (n := t102.length) (c := co12) ?_).2.2; exact (by refine qR ?_; exact (Kd.R_mono (Kd.R_far (p := ⟨gb107, 1, none⟩) (Kd.R_far (p := ⟨gb107, 0, none⟩) (Kd.R_types HO104.out BK107.out (by decide)) (fun _ hk => hk.2) (.int .i64 t105)) (fun _ hk => hk.2) (.int .i64 t106)) (fun _ h_ => by first | exact h_.1 | exact ⟨trivial, h_.1⟩)))); (case side2 => exact (Kd.R_reads' HO104.out).2.1); rintro e w13 ⟨rfl, hb⟩; refine ⟨_, rfl, ?_⟩; have n0_ := Aside0.mk (Kd.R_below (by refine qR ?_; exact (Kd.R_mono (Kd.R_far (p := ⟨gb107, 1, none⟩) (Kd.R_far (p := ⟨gb107, 0, none⟩) (Kd.R_types HO104.out BK107.out (by decide)) (fun _ hk => hk.2) (.int .i64 t105)) (fun _ hk => hk.2) (.int .i64 t106)) (fun _ h_ => by first | exact h_.1 | exact ⟨trivial, h_.1⟩))) hb); have n1_ := Aside0.mk (blk_below (g := gb101) (o := .cells #[.int .i64 a1_0, .slice A1_1 l1_1.length c1_1] 32 (0, 0)) (by refine qk ?_; refine blk_far ?_ NB101_107.out _; refine qk ?_; refine blk_far ?_ NB101_107.out _; refine qk ?_; exact BK101.out) hb); have n2_ := Aside0.mk (blk_below (g := gb107) (o := .cells #[.int .i64 t105, .int .i64 t106] 41 (0, 0)) (by refine qk ?_; refine blk_put (cs := #[.int .i64 t105, .int .i64 0]) ?_ 1 _ rfl; refine qk ?_; refine blk_put (cs := #[.int .i64 0, .int .i64 0]) ?_ 0 _ rfl; refine qk ?_; exact BK107.out) hb); replace HB := cB HB hb; replace HO104 := n0_; replace BK101 := n1_; replace BK107 := n2_; clear n0_ n1_ n2_; (try clear hb); (try clear hb2); (try clear hk); (try clear hi)))
 go_ret
 exact ⟨qe, qb⟩
theorem eqA104 (d : Nat) (w : World) (x0 y0 : Int) (x1 y1 : Int) :
    (Op.equalIn (d + 2) 104 (.agg #[.int .i64 x0, .int .i64 x1]) (.agg #[.int .i64 y0, .int .i64 y1])).run Tryz.prog w = .ok (x0 == y0 && (x1 == y1)) w := by
  refine eqA_of Tryz.underlying104 (by kernel_rfl) ?_
  refine eqf_cons (by rfl) (by go_simp; rfl) (by go_simp; rfl) (by go_simp) ?_
  exact eqf_last (by rfl) (by go_simp; rfl) (by go_simp; rfl) (by go_simp)
attribute [local go_sem high] eqA104
end Go.Proofs.YtadocbfchdendaaGreatDoor.P
namespace Go.Proofs.YtadocbfchdendaaGreatDoor.P
open Go.RowKit Go.Proofs.YtadocbfchdendaaGreatDoorW.PrintWords Go.Proofs.YtadocbfchdendaaGreatDoorW.PrintLast Go.Proofs.YtadocbfchdendaaGreatDoorW.PrintMore
attribute [local go_sem] max2_int min2_int max_two min_two max_three min_three max_four min_four
set_option linter.unusedVariables false
set_option linter.unusedSimpArgs false
def fixed_fits.f (a0 : Int) : Option (Bool) := if (-100000000) ≤ a0 then (some (decide (a0 ≤ 100000000))) else (some false)
set_option maxHeartbeats 8000000 in
set_option maxRecDepth 100000 in
theorem fixed_fits.calls (a0 : Int) (r : Bool) (w : World) (h : fixed_fits.f a0 = some r) :
  Calls Tryz.prog 103 #[.int .i64 a0] w fun e w' => e = .returned (.bool r) ∧ Drawn0 w w' := by
 have H : (if (-100000000) ≤ a0 then (some (decide (a0 ≤ 100000000))) else (some false)) = some r := h; clear h
 by_cases c2 : (-100000000) ≤ a0
 ·rw [if_pos c2] at H; have c2b0 := decide_eq_true c2; clear c2; obtain rfl := Option.some.inj H; go_enter Tryz.func103, Tryz.ntmps103
  go_wp2
  go_ret
  exact ⟨qr, qd⟩
 ·rw [if_neg c2] at H; have c2b0 := decide_eq_false c2; clear c2; obtain rfl := Option.some.inj H; go_enter Tryz.func103, Tryz.ntmps103
  go_wp2
  go_ret
  exact ⟨qr, qd⟩
end Go.Proofs.YtadocbfchdendaaGreatDoor.P
namespace Go.Proofs.YtadocbfchdendaaGreatDoor.Fx
open Go.RowKit Go.Lib Go.Proofs.YtadocbfchdendaaGreatDoor.Sp
theorem took_calls (g : Nat) (s p : ByteArray) (w : World) (hc : w.cell? ⟨g, 0, none⟩ = some (.string s)) (hz : w.frozen? ⟨g, 0, none⟩ = false) :
    Calls Tryz.prog 99 #[.pointer (some ⟨g, 0, none⟩), .string p] w fun en w' =>
      en = .returned (.bool (Lib.hasPrefix s.data.toList p.data.toList)) ∧ w' = w.setCell ⟨g, 0, none⟩ (.string ⟨(Lib.trimPrefix s.data.toList p.data.toList).toArray⟩) := by
  go_enter Tryz.func99, Tryz.ntmps99
  go_wp2_with (go_at_call 123; refine (Tryz.strings_CutPrefix _ _ _).mono ?_; rintro e w' ⟨rfl, rfl⟩)
  go_ret
  exact ⟨rfl, rfl⟩
def Left (g : Nat) (rest : ByteArray) (w w' : World) : Prop := Below g w w' ∧ w'.cell? ⟨g, 0, none⟩ = some (.string rest) ∧ w'.frozen? ⟨g, 0, none⟩ = false
theorem left_mk {g : Nat} {s rest : ByteArray} {w w1 : World} (hg : g < w.heap.size) (hc : w.cell? ⟨g, 0, none⟩ = some (.string s)) (hz : w.frozen? ⟨g, 0, none⟩ = false) (hB : Below w.heap.size w w1) : Left g rest w (w1.setCell ⟨g, 0, none⟩ (.string rest)) := by
  have h1 : w1.cell? ⟨g, 0, none⟩ = some (.string s) := by rw [hB.cell (p := ⟨g, 0, none⟩) hg, hc]
  have h2 : w1.frozen? ⟨g, 0, none⟩ = false := by rw [hB.frozen (p := ⟨g, 0, none⟩) hg, hz]
  refine ⟨(hB.mono (Nat.le_of_lt hg)).setCell (Nat.le_refl _) _, ?_, ?_⟩
  · exact World.cell?_setCell_same _ _ _ h1
  · rw [World.frozen?_setCell]; exact h2
theorem lt_cell {w : World} {a : Addr} {v : Value} (h : w.cell? a = some v) : a.block < w.heap.size := by
  unfold World.cell? at h
  cases hh : w.heap[a.block]? with
  | none => rw [hh] at h; cases h
  | some o => exact (Array.getElem?_eq_some_iff.1 hh).1
theorem tw_len (l : List UInt8) : (l.dropWhile dig).length = l.length - (l.takeWhile dig).length := by
  have := congrArg List.length (List.takeWhile_append_dropWhile (p := dig) (l := l))
  rw [List.length_append] at this
  omega
theorem str_to (s : ByteArray) : s.extract 0 (s.size - (s.data.toList.dropWhile dig).length) = ⟨(s.data.toList.takeWhile dig).toArray⟩ := by
  apply ByteArray.ext
  rw [ByteArray.data_extract]
  apply Array.ext'
  have h1 : (s.data.toList.takeWhile dig).length ≤ s.data.toList.length := (List.takeWhile_prefix dig).length_le
  have h2 : s.size = s.data.toList.length := by simp
  rw [tw_len, h2, show s.data.toList.length - (s.data.toList.length - (s.data.toList.takeWhile dig).length) = (s.data.toList.takeWhile dig).length from by omega]
  rw [Array.toList_extract, List.extract_eq_take_drop, List.drop_zero, Nat.sub_zero]
  exact (List.prefix_iff_eq_take.1 (List.takeWhile_prefix dig)).symm
theorem toList_eq (s : ByteArray) : s.toList = s.data.toList := ByteArray.toList_eq s
theorem toList_ne {l : List UInt8} (h : l ≠ []) : (⟨l.toArray⟩ : ByteArray).toList.isEmpty = false := by
  rw [toList_eq]
  cases l with
  | nil => exact absurd rfl h
  | cons a r => rfl
theorem digits_ok (g : Nat) (s : ByteArray) (most : Int) (w : World) (hs : s.size ≤ maxLen) (hc : w.cell? ⟨g, 0, none⟩ = some (.string s)) (hz : w.frozen? ⟨g, 0, none⟩ = false)
    (h0 : s.data.toList.takeWhile dig ≠ []) (h1 : ((s.data.toList.takeWhile dig).length : Int) ≤ most) :
    Calls Tryz.prog 100 #[.pointer (some ⟨g, 0, none⟩), .int .i64 most] w fun en w' =>
      en = .returned (.string ⟨(s.data.toList.takeWhile dig).toArray⟩) ∧ Left g ⟨(s.data.toList.dropWhile dig).toArray⟩ w w' := by
  have hcut := cutLeft_calls s hs w
  have hsl := str_to s
  have hlen : (s.data.toList.dropWhile dig).length ≤ s.size := by have := tw_len s.data.toList; have h2 : s.size = s.data.toList.length := by simp
                                                                  omega
  unfold maxLen at hs
  generalize hR : (⟨(s.data.toList.dropWhile dig).toArray⟩ : ByteArray) = R at hcut ⊢
  generalize hD : (⟨(s.data.toList.takeWhile dig).toArray⟩ : ByteArray) = D at hsl ⊢
  have hRs : R.size = (s.data.toList.dropWhile dig).length := by rw [← hR]; simp [ByteArray.size]
  have hDs : D.size = (s.data.toList.takeWhile dig).length := by rw [← hD]; simp [ByteArray.size]
  rw [← hRs] at hsl hlen
  rw [← hDs] at h1
  have hDe : D.toList.isEmpty = false := by
    rw [← hD]; exact toList_ne h0
  have hDn : (!D.toList.isEmpty) = true := by rw [hDe]; rfl
  have h1b : decide ((D.size : Int) ≤ most) = true := decide_eq_true h1
  have HX := Lib.hid hsl
  clear h0 hR hD hRs hDs hsl
  have hg : g < w.heap.size := lt_cell hc
  go_enter Tryz.func100, Tryz.ntmps100
  go_wp2_with (go_at_call 124; refine hcut.mono ?_; rintro e w1 ⟨rfl, hB⟩; have HB := Lib.hid hB; clear hB)
  have hc1 : w1.cell? ⟨g, 0, none⟩ = some (.string s) := by rw [HB.out.cell (p := ⟨g, 0, none⟩) hg, hc]
  have hz1 : w1.frozen? ⟨g, 0, none⟩ = false := by rw [HB.out.frozen (p := ⟨g, 0, none⟩) hg, hz]
  have e1 : IntKind.i64.wrap ((s.size : Int) - (R.size : Int)) = ((s.size - R.size : Nat) : Int) := by rw [IntWalk.i64_left]; unfold wrap64; omega
  go_quiet (fail)
  rw [HX.out]
  clear e1 hlen
  go_wp2_with (go_at_call 102; refine (need_yes 20 _).mono ?_; rintro e w' ⟨rfl, rfl⟩)
  go_ret
  exact ⟨rfl, left_mk hg hc hz (Go.below_drewN HB.out _)⟩
theorem digits_no (g : Nat) (s : ByteArray) (most : Int) (w : World) (hs : s.size ≤ maxLen) (hc : w.cell? ⟨g, 0, none⟩ = some (.string s)) (hz : w.frozen? ⟨g, 0, none⟩ = false)
    (h01 : s.data.toList.takeWhile dig = [] ∨ most < ((s.data.toList.takeWhile dig).length : Int)) :
    Calls Tryz.prog 100 #[.pointer (some ⟨g, 0, none⟩), .int .i64 most] w fun en w' =>
      en = .panicked [{ v := .iface 180 (.int .i64 20), recovered := false }] ∧ Below g w w' := by
  have hcut := cutLeft_calls s hs w
  have hsl := str_to s
  have hlen : (s.data.toList.dropWhile dig).length ≤ s.size := by have := tw_len s.data.toList; have h2 : s.size = s.data.toList.length := by simp
                                                                  omega
  unfold maxLen at hs
  generalize hR : (⟨(s.data.toList.dropWhile dig).toArray⟩ : ByteArray) = R at hcut ⊢
  generalize hD : (⟨(s.data.toList.takeWhile dig).toArray⟩ : ByteArray) = D at hsl ⊢
  have hRs : R.size = (s.data.toList.dropWhile dig).length := by rw [← hR]; simp [ByteArray.size]
  have hDs : D.size = (s.data.toList.takeWhile dig).length := by rw [← hD]; simp [ByteArray.size]
  rw [← hRs] at hsl hlen
  rw [← hDs] at h01
  have hDe : D.toList.isEmpty = true ∨ D.toList.isEmpty = false ∧ most < (D.size : Int) := by
    rcases h01 with h | h
    · left; rw [← hD, h, toList_eq]; rfl
    · by_cases h2 : s.data.toList.takeWhile dig = []
      · left; rw [← hD, h2, toList_eq]; rfl
      · right; exact ⟨by rw [← hD]; exact toList_ne h2, h⟩
  have HX := Lib.hid hsl
  clear h01 hR hD hRs hDs hsl
  have hg : g < w.heap.size := lt_cell hc
  rcases hDe with hDe | ⟨hDe, hm⟩
  · have hDn : (!D.toList.isEmpty) = false := by rw [hDe]; rfl
    go_enter Tryz.func100, Tryz.ntmps100
    go_wp2_with (go_at_call 124; refine hcut.mono ?_; rintro e w1 ⟨rfl, hB⟩; have HB := Lib.hid hB; clear hB)
    have hc1 : w1.cell? ⟨g, 0, none⟩ = some (.string s) := by rw [HB.out.cell (p := ⟨g, 0, none⟩) hg, hc]
    have hz1 : w1.frozen? ⟨g, 0, none⟩ = false := by rw [HB.out.frozen (p := ⟨g, 0, none⟩) hg, hz]
    have e1 : IntKind.i64.wrap ((s.size : Int) - (R.size : Int)) = ((s.size - R.size : Nat) : Int) := by rw [IntWalk.i64_left]; unfold wrap64; omega
    go_quiet (fail)
    rw [HX.out]
    clear e1 hlen
    go_wp2_with (go_at_call 102; refine (need_no 20 _).mono ?_; rintro e w' ⟨rfl, rfl⟩)
    exact ⟨rfl, rfl, (Go.below_drewN HB.out _).mono (Nat.le_of_lt hg)⟩
  · have hDn : (!D.toList.isEmpty) = true := by rw [hDe]; rfl
    have h1b : decide ((D.size : Int) ≤ most) = false := decide_eq_false (by omega)
    go_enter Tryz.func100, Tryz.ntmps100
    go_wp2_with (go_at_call 124; refine hcut.mono ?_; rintro e w1 ⟨rfl, hB⟩; have HB := Lib.hid hB; clear hB)
    have hc1 : w1.cell? ⟨g, 0, none⟩ = some (.string s) := by rw [HB.out.cell (p := ⟨g, 0, none⟩) hg, hc]
    have hz1 : w1.frozen? ⟨g, 0, none⟩ = false := by rw [HB.out.frozen (p := ⟨g, 0, none⟩) hg, hz]
    have e1 : IntKind.i64.wrap ((s.size : Int) - (R.size : Int)) = ((s.size - R.size : Nat) : Int) := by rw [IntWalk.i64_left]; unfold wrap64; omega
    go_quiet (fail)
    rw [HX.out]
    clear e1 hlen
    go_wp2_with (go_at_call 102; refine (need_no 20 _).mono ?_; rintro e w' ⟨rfl, rfl⟩)
    exact ⟨rfl, rfl, (Go.below_drewN HB.out _).mono (Nat.le_of_lt hg)⟩
theorem number_calls (neg : Bool) (s : ByteArray) (n : Int) (hl : s.size ≤ 18) (h : Lib.atoi s.data.toList = some n) (w : World) :
    Calls Tryz.prog 98 #[.bool neg, .string s] w fun en w' => en = .returned (.int .i64 (if neg = true then wrap64 (-n) else n)) ∧ Below w.heap.size w w' := by
  have HB : ∀ t, Hid (Below w.heap.size w (Lib.bytesWorld w 5 t)) := fun t => Lib.bytesWorld_below w _ t
  cases neg with
  | true =>
    go_enter Tryz.func98, Tryz.ntmps98
    go_wp2_with (go_at_call 122; refine (Tryz.strconv_Atoi s n hl h w).mono ?_; rintro e w' ⟨rfl, t, rfl⟩)
    go_ret
    exact ⟨rfl, (HB _).out⟩
  | false =>
    go_enter Tryz.func98, Tryz.ntmps98
    go_wp2_with (go_at_call 122; refine (Tryz.strconv_Atoi s n hl h w).mono ?_; rintro e w' ⟨rfl, t, rfl⟩)
    go_ret
    exact ⟨rfl, (HB _).out⟩
end Go.Proofs.YtadocbfchdendaaGreatDoor.Fx
set_option linter.unusedSimpArgs false
set_option linter.unusedVariables false
namespace Go.Proofs.YtadocbfchdendaaGreatDoor.Fx
open Go.RowKit Go.Lib Go.Proofs.YtadocbfchdendaaGreatDoor.Sp
structure Rd (w W : World) (gE gR : Nat) (s : ByteArray) : Prop where
  below : Below w.heap.size w W
  le : w.heap.size < gE
  lt : gE < gR
  size : gR < W.heap.size
  rc : W.cell? ⟨gR, 0, none⟩ = some (.string s)
  rz : W.frozen? ⟨gR, 0, none⟩ = false
  ec : W.cell? ⟨gE, 0, none⟩ = some (.int .i64 0)
  ez : W.frozen? ⟨gE, 0, none⟩ = false
  nb : W.heap[w.heap.size]? = some (.cells #[.int .i64 0, .int .i64 0] 50)
theorem Rd.left {w W W' : World} {gE gR : Nat} {s r : ByteArray} (h : Rd w W gE gR s) (l : Left gR r W W') : Rd w W' gE gR r :=
  ⟨h.below.trans (l.1.mono (Nat.le_of_lt (Nat.lt_trans h.le h.lt))), h.le, h.lt, Nat.lt_of_lt_of_le h.size l.1.size, l.2.1, l.2.2,
    by rw [l.1.cell (p := ⟨gE, 0, none⟩) h.lt, h.ec], by rw [l.1.frozen (p := ⟨gE, 0, none⟩) h.lt, h.ez],
    by rw [l.1.block _ (Nat.lt_trans h.le h.lt), h.nb]⟩
theorem Rd.set {w W : World} {gE gR : Nat} {s : ByteArray} (h : Rd w W gE gR s) (r : ByteArray) : Rd w (W.setCell ⟨gR, 0, none⟩ (.string r)) gE gR r :=
  h.left (left_mk h.size h.rc h.rz (Below.refl _ _))
theorem Rd.on {w W W' : World} {gE gR : Nat} {s : ByteArray} (h : Rd w W gE gR s) (b : Below gR W W') (hs : W'.cell? ⟨gR, 0, none⟩ = some (.string s)) (hz : W'.frozen? ⟨gR, 0, none⟩ = false) : Rd w W' gE gR s :=
  h.left ⟨b, hs, hz⟩
theorem Rd.on' {w W W' : World} {gE gR : Nat} {s : ByteArray} (h : Rd w W gE gR s) (b : Below W.heap.size W W') : Rd w W' gE gR s :=
  h.on (b.mono (Nat.le_of_lt h.size)) (by rw [b.cell (p := ⟨gR, 0, none⟩) h.size, h.rc]) (by rw [b.frozen (p := ⟨gR, 0, none⟩) h.size, h.rz])
theorem Rd.start (w : World) (s : ByteArray) : Rd w (((w.alloc (.cells #[.int .i64 0, .int .i64 0] 50)).alloc (.cells #[.int .i64 0] 39)).alloc (.cells #[.string s] 161)) (w.heap.size + 1) (w.heap.size + 1 + 1) s := by
  have hB1 := (Below.refl w.heap.size w).alloc (Nat.le_refl _) (.cells #[.int .i64 0, .int .i64 0] 50)
  have hB2 := hB1.alloc hB1.size (.cells #[.int .i64 0] 39)
  refine ⟨hB2.alloc hB2.size _, by omega, by omega, by simp, ?_, ?_, ?_, ?_, ?_⟩
  · simp [go_sem]
  · simp [go_sem]
  · simp [go_sem]
  · simp [go_sem]
  · rw [Below.heap_alloc _ _ _ (by simp; omega), Below.heap_alloc _ _ _ (by simp)]
    show (w.heap.push _)[w.heap.size]? = _
    simp
theorem digitsL_ok (g : Nat) (l : List UInt8) (most : Int) (w : World) (hs : l.length ≤ maxLen) (hc : w.cell? ⟨g, 0, none⟩ = some (.string ⟨l.toArray⟩)) (hz : w.frozen? ⟨g, 0, none⟩ = false)
    (h : ¬ (l.takeWhile dig = [] ∨ most < ((l.takeWhile dig).length : Int))) :
    Calls Tryz.prog 100 #[.pointer (some ⟨g, 0, none⟩), .int .i64 most] w fun en w' =>
      en = .returned (.string ⟨(l.takeWhile dig).toArray⟩) ∧ Left g ⟨(l.dropWhile dig).toArray⟩ w w' :=
  digits_ok g ⟨l.toArray⟩ most w hs hc hz (fun e => h (.inl e)) (Int.not_lt.1 fun e => h (.inr e))
theorem digitsL_no (g : Nat) (l : List UInt8) (most : Int) (w : World) (hs : l.length ≤ maxLen) (hc : w.cell? ⟨g, 0, none⟩ = some (.string ⟨l.toArray⟩)) (hz : w.frozen? ⟨g, 0, none⟩ = false)
    (h : l.takeWhile dig = [] ∨ most < ((l.takeWhile dig).length : Int)) :
    Calls Tryz.prog 100 #[.pointer (some ⟨g, 0, none⟩), .int .i64 most] w fun en w' =>
      en = .panicked [{ v := .iface 180 (.int .i64 20), recovered := false }] ∧ Below g w w' :=
  digits_no g ⟨l.toArray⟩ most w hs hc hz h
theorem numberL (neg : Bool) (D Q : ByteArray) (l : List UInt8) (hl : (D ++ Q).data.toList = l) (h0 : l ≠ []) (h18 : l.length ≤ 18) (hd : ∀ c ∈ l, dig c = true) (w : World) :
    Calls Tryz.prog 98 #[.bool neg, .string (D ++ Q)] w fun en w' => en = .returned (.int .i64 (sgn neg l)) ∧ Below w.heap.size w w' := by
  have hsz : (D ++ Q).size = l.length := by rw [← hl]; simp
  have hv := dv_le18 l hd h18
  refine (number_calls neg (D ++ Q) (dv l) (by omega) (by rw [hl]; exact atoi_dv l h0 hd) w).mono ?_
  rintro e w' ⟨rfl, hB⟩
  refine ⟨?_, hB⟩
  cases neg with
  | true => simp only [if_true, sgn]; congr 2; unfold wrap64; omega
  | false => simp [sgn]
theorem numberD (neg : Bool) (l : List UInt8) (h0 : l ≠ []) (h18 : l.length ≤ 18) (hd : ∀ c ∈ l, dig c = true) (w : World) :
    Calls Tryz.prog 98 #[.bool neg, .string ⟨l.toArray⟩] w fun en w' => en = .returned (.int .i64 (sgn neg l)) ∧ Below w.heap.size w w' := by
  have := numberL neg ⟨l.toArray⟩ ⟨#[]⟩ l (by simp) h0 h18 hd w
  rwa [show (⟨l.toArray⟩ : ByteArray) ++ ⟨#[]⟩ = ⟨l.toArray⟩ from by apply ByteArray.ext; simp] at this
theorem fits_calls (m : Int) (w : World) :
    Calls Tryz.prog 103 #[.int .i64 m] w fun e w' => e = .returned (.bool (fitsB m)) ∧ Below w.heap.size w w' := by
  refine (P.fixed_fits.calls m (fitsB m) w ?_).mono ?_
  · unfold P.fixed_fits.f fitsB
    by_cases h : (-100000000 : Int) ≤ m
    · rw [if_pos h]; simp [h]
    · rw [if_neg h]; simp [h]
  · rintro e w' ⟨rfl, hd⟩
    exact ⟨rfl, hd.below⟩
section
variable {l l1 d r r1 q r2 : List UInt8} {neg : Bool}
theorem cnd {a : List UInt8} {k : Nat} (h : ¬ (a = [] ∨ (k : Int) < (a.length : Int))) : ¬ (a = [] ∨ k < a.length) := fun e => h (e.imp id (by omega))
end
structure RdI (w W : World) (gR : Nat) (s : ByteArray) : Prop where
  below : Below w.heap.size w W
  lt : w.heap.size < gR
  size : gR < W.heap.size
  rc : W.cell? ⟨gR, 0, none⟩ = some (.string s)
  rz : W.frozen? ⟨gR, 0, none⟩ = false
  ec : W.cell? ⟨w.heap.size, 0, none⟩ = some (.int .i64 0)
  ez : W.frozen? ⟨w.heap.size, 0, none⟩ = false
theorem RdI.left {w W W' : World} {gR : Nat} {s r : ByteArray} (h : RdI w W gR s) (l : Left gR r W W') : RdI w W' gR r :=
  ⟨h.below.trans (l.1.mono (Nat.le_of_lt h.lt)), h.lt, Nat.lt_of_lt_of_le h.size l.1.size, l.2.1, l.2.2,
    by rw [l.1.cell (p := ⟨w.heap.size, 0, none⟩) h.lt, h.ec], by rw [l.1.frozen (p := ⟨w.heap.size, 0, none⟩) h.lt, h.ez]⟩
theorem RdI.set {w W : World} {gR : Nat} {s : ByteArray} (h : RdI w W gR s) (r : ByteArray) : RdI w (W.setCell ⟨gR, 0, none⟩ (.string r)) gR r :=
  h.left (left_mk h.size h.rc h.rz (Below.refl _ _))
theorem RdI.on' {w W W' : World} {gR : Nat} {s : ByteArray} (h : RdI w W gR s) (b : Below W.heap.size W W') : RdI w W' gR s :=
  h.left ⟨b.mono (Nat.le_of_lt h.size), by rw [b.cell (p := ⟨gR, 0, none⟩) h.size, h.rc], by rw [b.frozen (p := ⟨gR, 0, none⟩) h.size, h.rz]⟩
theorem RdI.start (w : World) (s : ByteArray) : RdI w ((w.alloc (.cells #[.int .i64 0] 39)).alloc (.cells #[.string s] 161)) (w.heap.size + 1) s := by
  have hB1 := (Below.refl w.heap.size w).alloc (Nat.le_refl _) (.cells #[.int .i64 0] 39)
  refine ⟨hB1.alloc hB1.size _, by omega, by simp, ?_, ?_, ?_, ?_⟩
  · simp [go_sem]
  · simp [go_sem]
  · simp [go_sem]
  · simp [go_sem]
def IntPost (w : World) (r : Int × Int) (e : Ending) (w' : World) : Prop := e = .returned (.tuple #[.int .i64 r.1, .int .i64 r.2]) ∧ Below w.heap.size w w'
theorem doorI_fault {w W : World} (hB : Below w.heap.size w W) (hec : W.cell? ⟨w.heap.size, 0, none⟩ = some (.int .i64 0)) (hez : W.frozen? ⟨w.heap.size, 0, none⟩ = false)
    (code : Int) (T : Array Value) (h2 : T[2]?.getD undef = .int .i64 0) (h3 : T[3]?.getD undef = .pointer (some ⟨w.heap.size, 0, none⟩)) (Q : Ending → World → Prop) (hQ : IntPost w (0, code) = Q) :
    Leaves Tryz.prog Tryz.f57 T Q [{ target := Target.fn (Fn.func 96) #[.pointer (some ⟨w.heap.size, 0, none⟩)], args := #[] }] (.panicking [{ v := .iface 180 (.int .i64 code), recovered := false }]) W := by
  subst hQ
  refine leaves_cons (f := 96) (args := #[.pointer (some ⟨w.heap.size, 0, none⟩)]) (by simp) (by simp [go_sem]) ?_
  refine (intD_fault ⟨w.heap.size, 0, none⟩ code _ [] W hec hez).mono ?_
  rintro e u' w'' ⟨rfl, rfl, rfl⟩
  have hc1 : (W.setCell ⟨w.heap.size, 0, none⟩ (.int .i64 code)).cell? ⟨w.heap.size, 0, none⟩ = some (.int .i64 code) := World.cell?_setCell_same _ _ _ hec
  have hB1 : Below w.heap.size w (W.setCell ⟨w.heap.size, 0, none⟩ (.int .i64 code)) := hB.setCell (Nat.le_refl _) _
  generalize W.setCell ⟨w.heap.size, 0, none⟩ (.int .i64 code) = W1 at *
  simp [Leaves, settle, results, Tryz.results57, go_sem, h2, h3, hc1, IntPost, hB1]
theorem doorI_ret {w W : World} (hB : Below w.heap.size w W) (a : Int) (hec : W.cell? ⟨w.heap.size, 0, none⟩ = some (.int .i64 0)) (T : Array Value)
    (h2 : T[2]?.getD undef = .int .i64 a) (h3 : T[3]?.getD undef = .pointer (some ⟨w.heap.size, 0, none⟩)) (Q : Ending → World → Prop) (hQ : IntPost w (a, 0) = Q) :
    Leaves Tryz.prog Tryz.f57 T Q [{ target := Target.fn (Fn.func 96) #[.pointer (some ⟨w.heap.size, 0, none⟩)], args := #[] }] .returning W := by
  subst hQ
  refine leaves_cons (f := 96) (args := #[.pointer (some ⟨w.heap.size, 0, none⟩)]) (by simp) (by simp [go_sem]) ?_
  refine (intD_idle ⟨w.heap.size, 0, none⟩ W).mono ?_
  rintro e u' w'' ⟨rfl, rfl, rfl⟩
  simp [Leaves, settle, results, Tryz.results57, go_sem, h2, h3, hec, IntPost, hB]
section
variable {l l1 d r : List UInt8} {neg : Bool} {m : Int}
theorem ispecQ (h1 : Lib.trimPrefix l [45] = l1) (h3 : l1.takeWhile dig = [] ∨ (12 : Int) < ((l1.takeWhile dig).length : Int)) : intS l = (0, 20) := by
  unfold intS
  rw [h1, if_pos (h3.imp id (by omega))]
theorem ispecN (h1 : Lib.trimPrefix l [45] = l1) (h3 : ¬ (l1.takeWhile dig = [] ∨ (12 : Int) < ((l1.takeWhile dig).length : Int))) (h5 : l1.dropWhile dig = r) (h7 : ¬ r = []) : intS l = (0, 20) := by
  unfold intS
  rw [h1, if_neg (cnd (k := 12) h3), h5, if_pos h7]
theorem ispec (h1 : Lib.trimPrefix l [45] = l1) (h2 : Lib.hasPrefix l [45] = neg) (h3 : ¬ (l1.takeWhile dig = [] ∨ (12 : Int) < ((l1.takeWhile dig).length : Int))) (h4 : l1.takeWhile dig = d) (h5 : l1.dropWhile dig = r) (h7 : r = []) (hm : sgn neg d = m) :
    intS l = if fitsB m = true then (m, 0) else (0, 2) := by
  unfold intS
  rw [h1, if_neg (cnd (k := 12) h3), h5, if_neg (by simp [h7]), h2, h4, hm]
end
theorem int_calls (s : ByteArray) (hs : s.size ≤ maxLen) (w : World) :
    Calls Tryz.prog 57 #[.string s] w (IntPost w (intS s.data.toList)) := by
  have hmf : ∀ (fn : Fn) (first cap : Array Value) (w : World), (Instr.makeFunc fn first cap).run Tryz.prog w = .ok (.func fn first cap) w := fun _ _ _ _ => rfl
  go_enter_defers Tryz.func57, Tryz.ntmps57
  go_wp2_with fail
  have R0 := RdI.start w s
  generalize ((w.alloc (.cells #[.int .i64 0] 39)).alloc (.cells #[.string s] 161)) = W at R0 ⊢
  generalize w.heap.size + 1 = gR at R0 ⊢
  refine (took_calls gR s ⟨#[45]⟩ W R0.rc R0.rz).mono ?_
  rintro e w1 ⟨rfl, rfl⟩
  have R1 := R0.set ⟨(Lib.trimPrefix s.data.toList [45]).toArray⟩
  clear R0
  have hl1 := trim_len s.data.toList [45]
  rw [show (s.data.toList).length = s.size from by simp] at hl1
  generalize W.setCell ⟨gR, 0, none⟩ (.string ⟨(Lib.trimPrefix s.data.toList [45]).toArray⟩) = W1 at R1 ⊢
  generalize hneg : Lib.hasPrefix s.data.toList [45] = neg
  generalize hlt : Lib.trimPrefix s.data.toList [45] = l1 at R1 hl1
  have HN := Lib.hid hneg
  have HL := Lib.hid hlt
  clear hneg hlt
  by_cases hd : l1.takeWhile dig = [] ∨ (12 : Int) < ((l1.takeWhile dig).length : Int)
  · have HD := Lib.hid hd
    clear hd
    go_wp2_with (go_at_call 100; refine (digitsL_no gR l1 12 W1 (by omega) R1.rc R1.rz HD.out).mono ?_; rintro e w2 ⟨rfl, hB⟩)
    refine doorI_fault (R1.below.trans (hB.mono (Nat.le_of_lt R1.lt))) ?_ ?_ 20 _ rfl rfl _ ?_
    · rw [hB.cell (p := ⟨w.heap.size, 0, none⟩) R1.lt, R1.ec]
    · rw [hB.frozen (p := ⟨w.heap.size, 0, none⟩) R1.lt, R1.ez]
    · rw [ispecQ HL.out HD.out]
  · have HD := Lib.hid hd
    clear hd
    go_wp2_with (go_at_call 100; refine (digitsL_ok gR l1 12 W1 (by omega) R1.rc R1.rz HD.out).mono ?_; rintro e w2 ⟨rfl, hL⟩)
    have R3 := R1.left hL
    clear R1 hL W1
    generalize hd1 : l1.takeWhile dig = d
    generalize hr1 : l1.dropWhile dig = r at R3
    have HD1 := Lib.hid hd1
    have HR1 := Lib.hid hr1
    clear hd1 hr1
    have hdd : ∀ c ∈ d, dig c = true := by rw [← HD1.out]; exact tw_dig l1
    have hdn : d ≠ [] := by rw [← HD1.out]; exact fun e => HD.out (.inl e)
    have hd12 : d.length ≤ 12 := by rw [← HD1.out]; have := HD.out; omega
    go_wp2_with (go_at_call 98; refine (numberD neg d hdn (by omega) hdd _).mono ?_; rintro e w4 ⟨rfl, hB⟩; have R4 := R3.on' hB; clear hB R3)
    generalize hm : sgn neg d = m
    have HM := Lib.hid hm
    clear hm
    by_cases he : r = []
    · rw [he] at R4
      have HE := Lib.hid he
      clear he
      go_wp2_with (go_at_call 101; refine (end_yes gR _ R4.rc).mono ?_; rintro e w' ⟨rfl, rfl⟩)
      refine (fits_calls m _).mono ?_
      rintro e w7 ⟨rfl, hB7⟩
      have R7 := R4.on' hB7
      clear hB7 R4
      cases hf : fitsB m with
      | false =>
        have HF := Lib.hid hf
        clear hf
        go_wp2_with (go_at_call 102; refine (need_no 2 _).mono ?_; rintro e w' ⟨rfl, rfl⟩)
        refine doorI_fault R7.below R7.ec R7.ez 2 _ rfl rfl _ ?_
        rw [ispec HL.out HN.out HD.out HD1.out HR1.out HE.out HM.out, HF.out]
        rfl
      | true =>
        have HF := Lib.hid hf
        clear hf
        have ec := R7.ec
        have ez := R7.ez
        go_wp2_with (go_at_call 102; refine (need_yes 2 _).mono ?_; rintro e w' ⟨rfl, rfl⟩)
        refine doorI_ret (R7.below.setCell (Nat.le_refl _) _) m ?_ _ rfl rfl _ ?_
        · simp [go_sem, ec]
        · rw [ispec HL.out HN.out HD.out HD1.out HR1.out HE.out HM.out, HF.out]
          rfl
    · have HE := Lib.hid he
      clear he
      go_wp2_with (go_at_call 101; refine (end_no gR ⟨r.toArray⟩ _ R4.rc (toList_ne HE.out)).mono ?_; rintro e w' ⟨rfl, rfl⟩)
      refine doorI_fault R4.below R4.ec R4.ez 20 _ rfl rfl _ ?_
      rw [ispecN HL.out HD.out HR1.out HE.out]
end Go.Proofs.YtadocbfchdendaaGreatDoor.Fx
namespace Go.Proofs.YtadocbfchdendaaGreatDoor.P
open Go.RowKit Go.Proofs.YtadocbfchdendaaGreatDoor.Sp
def fixed_Int.f (a0 : ByteArray) : Option (Int × Int) := if a0.size ≤ 9223372036854775807 then some (intS a0.data.toList) else none
theorem fixed_Int.calls (a0 : ByteArray) (r1 : Int) (r2 : Int) (w : World) (h : fixed_Int.f a0 = some (r1, r2)) :
    Calls Tryz.prog 57 #[.string a0] w fun e w' => e = .returned (.tuple #[.int .i64 r1, .int .i64 r2]) ∧ Below w.heap.size w w' := by
  unfold fixed_Int.f at h
  split at h
  · rename_i hs
    have h' := Option.some.inj h
    refine (Fx.int_calls a0 (by unfold maxLen; omega) w).mono ?_
    rintro e w' ⟨he, hb⟩
    rw [h'] at he
    exact ⟨he, hb⟩
  · cases h
end Go.Proofs.YtadocbfchdendaaGreatDoor.P
namespace Go.Proofs.YtadocbfchdendaaGreatDoor.P
open Go.RowKit Go.Proofs.YtadocbfchdendaaGreatDoorW.PrintWords Go.Proofs.YtadocbfchdendaaGreatDoorW.PrintLast Go.Proofs.YtadocbfchdendaaGreatDoorW.PrintMore
attribute [local go_sem] max2_int min2_int max_two min_two max_three min_three max_four min_four
set_option linter.unusedVariables false
set_option linter.unusedSimpArgs false
def sheet_each_int.l0 : Nat → ByteArray → List Int → List (S105) → Int → Int → Int → Int → Option (List Int × Int × Int)
 | 0, _, _, _, _, _, _, _ => none
 | k + 1, x0, x6, x12, x13, x14, x102000, x102001 => if x14 < x13 then (if 0 ≤ x14 then (if x14 < (x12.length : Int) then ((words_Text.f x0 ((rd_T105 x12 x14).f0) ((rd_T105 x12 x14).f1)).bind fun t104 => ((fixed_Int.f t104).bind fun bt105 => (if bt105.2 = 0 then (if x6.length < 17592186044416 then (sheet_each_int.l0 k x0 (x6 ++ [bt105.1]) x12 x13 (wrap64 (x14 + 1)) x102000 x102001) else (none)) else (some (([] : List Int), (rd_T105 x12 x14).f0, bt105.2))))) else (none)) else (none)) else (some (x6, x102000, x102001))
def sheet_each_int.f (k : Nat) (a0 : ByteArray) (a1 : Unit) (l2 : List (S105)) : Option (List Int × Int × Int) := sheet_each_int.l0 k a0 ([] : List Int) l2 (l2.length : Int) 0 0 0
theorem sheet_each_int.mono_l : ∀ k, (∀ y0 y1 y2 y3 y4 y5 y6, LeO (sheet_each_int.l0 k y0 y1 y2 y3 y4 y5 y6) (sheet_each_int.l0 (k + 1) y0 y1 y2 y3 y4 y5 y6))
 | 0 => fun _ _ _ _ _ _ _ r h => by simp [sheet_each_int.l0] at h
 | k + 1 => by
  have ih0 := sheet_each_int.mono_l k
  ·intro y0 y1 y2 y3 y4 y5 y6
   unfold sheet_each_int.l0
   repeat' first
   | (with_reducible exact ih0 _ _ _ _ _ _ _)
   | (with_reducible exact LeO.refl _)
   | (with_reducible exact LeO.none _)
   | (with_reducible refine LeO.ite ?_ ?_)
   | (with_reducible refine LeO.bind ?_ (fun _ => ?_))
   | exact ih0 _ _ _ _ _ _ _
   | exact LeO.none _
   | refine LeO.ite ?_ ?_
   | refine LeO.bind ?_ (fun _ => ?_)
theorem sheet_each_int.mono : ∀ a0 a1 a2 k, LeO (sheet_each_int.f k a0 a1 a2) (sheet_each_int.f (k + 1) a0 a1 a2) := by
 intro a0 a1 a2 k
 have ih0 := sheet_each_int.mono_l k; unfold sheet_each_int.f
 repeat' first
   | (with_reducible exact ih0 _ _ _ _ _ _ _)
   | (with_reducible exact LeO.refl _)
   | (with_reducible exact LeO.none _)
   | (with_reducible refine LeO.ite ?_ ?_)
   | (with_reducible refine LeO.bind ?_ (fun _ => ?_))
   | exact ih0 _ _ _ _ _ _ _
   | exact LeO.none _
   | refine LeO.ite ?_ ?_
   | refine LeO.bind ?_ (fun _ => ?_)
set_option maxHeartbeats 8000000 in
set_option maxRecDepth 100000 in
theorem sheet_each_int.calls (k : Nat) (a0 : ByteArray) (a1 : Unit) (A2 : Option Addr) (c2 : Nat) (l2 : List (S105)) (r1 : List Int) (r2 : Int) (r3 : Int) (w : World) (hr2 : Kd.C k105 w A2 l2.length l2) (hc2 : l2.length ≤ c2) (h : sheet_each_int.f k a0 a1 l2 = some (r1, r2, r3)) :
  Calls Tryz.prog 56 #[.string a0, .func (.func 57) #[] #[], .slice A2 l2.length c2] w fun e w' => ∃ v0_ : Value, e = .returned (.tuple #[v0_, .agg #[.int .i64 r2, .int .i64 r3]]) ∧ Kd.R (Kd.int .i64) 3 w' w.heap.size (fun _ => True) v0_ r1 ∧ Below w.heap.size w w' := by
 have hu41 := Tryz.underlying41; have hu105 := Tryz.underlying105; have HR2 := Aside0.mk hr2; have HC2 := Aside0.mk hc2; clear hr2 hc2; have HB := Aside0.mk (Below.refl w.heap.size w); have H : (sheet_each_int.l0 k a0 ([] : List Int) l2 (l2.length : Int) 0 0 0) = some (r1, r2, r3) := h; clear h; have H' := Aside0.mk H; clear H; go_enter Tryz.func56, Tryz.ntmps56
 go_wp2_with (first | ((with_reducible refine gate_dst (N := 7) rfl ?_); refine box_ev (N := 7) (cs := #[.int .i64 0, .int .i64 0]) (t := 41) ?_; intro gb101 hg w4 hbox hb; have BK101 := Aside0.mk (hbox); have GW101 := Aside0.mk ((qg : w.heap.size ≤ gb101)); have GE101 := Aside0.mk ((qg : w.heap.size ≤ gb101)); replace HB := cB HB hb; clear hb hbox hg))
 (try simp only [Act.put, List.setIfInBounds_toArray, List.set_cons_zero, List.set_cons_succ])
 go_loopg [6, 14] k (fun kq v6 v14 w' => ∃ (x6_1 : List Int) (x14_1 : Int) (x102000_1 : Int) (x102001_1 : Int), v14 = .int .i64 x14_1 ∧ Aside0 (sheet_each_int.l0 kq a0 x6_1 l2 (l2.length : Int) x14_1 x102000_1 x102001_1 = some (r1, r2, r3)) ∧ Aside0 (kq ≤ k) ∧ Aside0 (Kd.R (Kd.int .i64) 3 w' w.heap.size (fun _ => True) v6 x6_1) ∧ Aside0 (w'.heap[gb101]? = some (.cells #[.int .i64 x102000_1, .int .i64 x102001_1] 41 (0, 0))) ∧ Aside0 (Below w.heap.size w w'))
 case atStart => exact ⟨(([] : List Int)), (0), (0), (0), qr, H', ⟨Nat.le_refl _⟩, ⟨by first | exact Kd.R_nil _ _ _ _ _ | exact Kd.N_nil _ _ _ _ _ | exact Kd.V_nil _ _ _ _ _ | exact Kd.Q_nil _ _ _ _ _ | exact Kd.S_nil _ _ _ _ _⟩, ⟨qk BK101.out⟩, ⟨qb⟩⟩
 case round =>
  clear H'; (try clear c2); (try clear p2); obtain ⟨x6_1, x14_1, x102000_1, x102001_1, rfl, HA, HK1, HO_6, BK101, HB⟩ := hrel; cases gk with
  | zero => exact absurd HA.out (by simp [sheet_each_int.l0])
  | succ k1 =>
   have H := HA.out; clear HA; simp only [sheet_each_int.l0] at H
   by_cases c5 : x14_1 < (l2.length : Int)
   ·rw [if_pos c5] at H; have c5b0 := decide_eq_true c5; clear c5
    by_cases c6 : 0 ≤ x14_1
    ·rw [if_pos c6] at H; have c6b0 := decide_eq_true c6; clear c6
     by_cases c7 : x14_1 < (l2.length : Int)
     ·rw [if_pos c7] at H; have c7b0 := decide_eq_true c7; clear c7; replace H := Option.bind_eq_some_iff.mp H; obtain ⟨t104, A80, H⟩ := H; (try dsimp only at H); have A8 := Aside0.mk A80; clear A80; replace H := Option.bind_eq_some_iff.mp H; obtain ⟨⟨t105, t106⟩, A90, H⟩ := H; (try dsimp only at H); have A9 := Aside0.mk A90; clear A90
      by_cases c10 : t106 = 0
      ·rw [if_pos c10] at H; have c10b0 := beq_iff_eq.mpr c10; have c10b1 := bne_eq_false_iff_eq.mpr c10; clear c10
       by_cases c11 : x6_1.length < 17592186044416
       ·rw [if_pos c11] at H; have LMc11 := Aside0.mk c11; clear c11; obtain ⟨y107, hy107⟩ : ∃ y_ : List Int, y_ = (x6_1 ++ [t105]) := ⟨_, rfl⟩; replace H : (sheet_each_int.l0 k1 a0 y107 l2 (l2.length : Int) (wrap64 (x14_1 + 1)) x102000_1 x102001_1) = some (r1, r2, r3) := by first | (rw [hy107]; with_reducible exact H) | (have H2_ := (Option.bind_some _ _).symm.trans H; rw [hy107]; with_reducible exact H2_) | (have H2_ := (Option.bind_some _ _).symm.trans H; with_reducible exact H2_) | with_reducible exact H | (rw [hy107]; exact H) | exact H
        have Ny107 := Aside0.mk hy107; clear hy107; have H' := Aside0.mk H; clear H; have p102 : 0 ≤ (x14_1 : Int) := of_decide_eq_true qa; have q102 : x14_1 < (l2.length : Int) := of_decide_eq_true qa; obtain ⟨ad102, e102, hx102_0, hx102_1⟩ := at_T105 HR2.out x14_1 p102 q102; cases e102; replace hx102_0 := (HB.out.cell (World.block_lt_of_cell? w _ hx102_0)).trans hx102_0; replace hx102_1 := (HB.out.cell (World.block_lt_of_cell? w _ hx102_1)).trans hx102_1; (try simp only [Go.IntWalk.toNatUp] at hx102_0); (try simp only [Go.IntWalk.toNatUp] at hx102_1); replace p102 := eq_true p102; replace q102 := eq_true q102
        go_wp2_with (first | ((with_reducible refine gate_dst (N := 9) rfl ?_); refine box_ev (N := 9) (cs := #[.int .i64 0, .int .i64 0]) (t := 105) ?_; intro gb103 hg w12 hbox hb; have BK103 := Aside0.mk (hbox); have GW103 := Aside0.mk ((qg : w.heap.size ≤ gb103)); have GE103 := Aside0.mk ((qg : w.heap.size ≤ gb103)); have NB101_103 := Aside0.mk ((by rw [hg]; exact Nat.ne_of_lt (blk_lt (g := gb101) (o := .cells #[.int .i64 x102000_1, .int .i64 x102001_1] 41 (0, 0)) (qk BK101.out)) : gb101 ≠ gb103)); have NB103_101 := Aside0.mk ((by rw [hg]; exact Nat.ne_of_gt (blk_lt (g := gb101) (o := .cells #[.int .i64 x102000_1, .int .i64 x102001_1] 41 (0, 0)) (qk BK101.out)) : gb103 ≠ gb101)); replace HO_6 := cR HO_6 hb; replace BK101 := cK BK101 hb; replace HB := cB HB hb; clear hb hbox hg; have hnb13 := NB103_101.out; have hnc13 := NB101_103.out; have hcz14_0 : w12.cell? ⟨gb103, 0, none⟩ = some (.int .i64 0) := (blk_cell BK103.out 0).trans rfl; have hcz14_1 : w12.cell? ⟨gb103, 1, none⟩ = some (.int .i64 0) := (blk_cell BK103.out 1).trans rfl; have hfz14_0 := blk_frozen BK103.out 0; have hfz14_1 := blk_frozen BK103.out 1) | ((with_reducible refine gate_callee (f := 78) rfl ?_); refine goesL_ (some 22) rfl rfl Tryz.func78 (by kernel_rfl) rfl #[.string a0, .agg #[.int .i64 ((rd_T105 l2 x14_1).f0), .int .i64 ((rd_T105 l2 x14_1).f1)]] rfl qm ?_; (with_reducible refine (words_Text.calls a0 ((rd_T105 l2 x14_1).f0) ((rd_T105 l2 x14_1).f1) t104 _ A8.out).mono ?_); rintro e w15 ⟨rfl, hb⟩; refine ⟨_, rfl, ?_⟩; have n0_ := Aside0.mk (Kd.R_below (by refine qR ?_; exact (Kd.R_mono (Kd.R_far (p := ⟨gb103, 1, none⟩) (Kd.R_far (p := ⟨gb103, 0, none⟩) (Kd.R_types HO_6.out BK103.out (by decide)) (fun _ hk => hk.2) (.int .i64 ((rd_T105 l2 x14_1).f0))) (fun _ hk => hk.2) (.int .i64 ((rd_T105 l2 x14_1).f1))) (fun _ h_ => by first | exact h_.1 | exact ⟨trivial, h_.1⟩))) hb); have n1_ := Aside0.mk (blk_below (g := gb101) (o := .cells #[.int .i64 x102000_1, .int .i64 x102001_1] 41 (0, 0)) (by refine qk ?_; refine blk_far ?_ NB101_103.out _; refine qk ?_; refine blk_far ?_ NB101_103.out _; refine qk ?_; exact BK101.out) hb); have n2_ := Aside0.mk (blk_below (g := gb103) (o := .cells #[.int .i64 ((rd_T105 l2 x14_1).f0), .int .i64 ((rd_T105 l2 x14_1).f1)] 105 (0, 0)) (by refine qk ?_; refine blk_put (cs := #[.int .i64 ((rd_T105 l2 x14_1).f0), .int .i64 0]) ?_ 1 _ rfl; refine qk ?_; refine blk_put (cs := #[.int .i64 0, .int .i64 0]) ?_ 0 _ rfl; refine qk ?_; exact BK103.out) hb); replace HB := cB HB hb; replace HO_6 := n0_; replace BK101 := n1_; replace BK103 := n2_; clear n0_ n1_ n2_; (try clear hb); (try clear hb2); (try clear hk); (try clear hi)) | (go_at_call 57; (with_reducible refine (fixed_Int.calls t104 t105 t106 _ A9.out).mono ?_); rintro e w16 ⟨rfl, hb⟩; replace HO_6 := cR HO_6 hb; replace BK101 := cK BK101 hb; replace BK103 := cK BK103 hb; replace HB := cB HB hb; (try clear hb); (try clear hb2); (try clear hk); (try clear hi)) | ((with_reducible refine gate_builtin (b := .append) (xs := #[.tmp 32, .tmp 34]) rfl ?_); at_builtin; refine Kd.R_append (Kd.int .i64) (w0 := w) w.heap.size rfl (.tmp 32) (.tmp 34) 38 3 (.int .i64 0) 8 rfl Tryz.underlying38 info3 rfl (by decide) (by omega) u6 x6_1 t105 [.int .i64 t105] (fun _ => True) (fun _ => False) rfl rfl ?aP (fun _ hk => hk.elim) ?aF ?aO ?aB ?aS ?aL ?_; (case aP => exact rfl); (case aB => exact qb); (case aF => exact (fun _ _ => trivial)); (case aO => exact (qR HO_6.out)); (case aS => exact (below_size qb)); (case aL => have := LMc11.out; omega); intro v108 w17 ho hb hg hat; rw [← Ny107.out] at ho; have n0_ := Aside0.mk (blk_grown (g := gb101) (o := .cells #[.int .i64 x102000_1, .int .i64 x102001_1] 41 (0, 0)) (qk BK101.out) hg (Kd.R_ne HO_6.out BK101.out (by decide))); have n1_ := Aside0.mk (blk_grown (g := gb103) (o := .cells #[.int .i64 ((rd_T105 l2 x14_1).f0), .int .i64 ((rd_T105 l2 x14_1).f1)] 105 (0, 0)) (qk BK103.out) hg (Kd.R_ne HO_6.out BK103.out (by decide))); have n2_ := Aside0.mk (hb); have HO109 := Aside0.mk (ho); replace BK101 := n0_; replace BK103 := n1_; replace HB := n2_; clear n0_ n1_ n2_; clear HO_6; clear ho hb hg hat))
        go_roundg k1
        case measure => have := HK1.out; omega
        case rel => exact ⟨(y107), (wrap64 (x14_1 + 1)), (x102000_1), (x102001_1), qr, H', ⟨by have := HK1.out; omega⟩, ⟨qR HO109.out⟩, ⟨qk BK101.out⟩, ⟨qb⟩⟩
       ·rw [if_neg c11] at H
        exact absurd H (by simp)
      ·rw [if_neg c10] at H; have c10b0 := beq_eq_false_iff_ne.mpr c10; have c10b1 := bne_iff_ne.mpr c10; simp only [Option.some.injEq, Prod.mk.injEq] at H; obtain ⟨rfl, rfl, rfl⟩ := H; have p102 : 0 ≤ (x14_1 : Int) := of_decide_eq_true qa; have q102 : x14_1 < (l2.length : Int) := of_decide_eq_true qa; obtain ⟨ad102, e102, hx102_0, hx102_1⟩ := at_T105 HR2.out x14_1 p102 q102; cases e102; replace hx102_0 := (HB.out.cell (World.block_lt_of_cell? w _ hx102_0)).trans hx102_0; replace hx102_1 := (HB.out.cell (World.block_lt_of_cell? w _ hx102_1)).trans hx102_1; (try simp only [Go.IntWalk.toNatUp] at hx102_0); (try simp only [Go.IntWalk.toNatUp] at hx102_1); replace p102 := eq_true p102; replace q102 := eq_true q102
       try go_wp2_with (first | ((with_reducible refine gate_dst (N := 9) rfl ?_); refine box_ev (N := 9) (cs := #[.int .i64 0, .int .i64 0]) (t := 105) ?_; intro gb103 hg w18 hbox hb; have BK103 := Aside0.mk (hbox); have GW103 := Aside0.mk ((qg : w.heap.size ≤ gb103)); have GE103 := Aside0.mk ((qg : w.heap.size ≤ gb103)); have NB101_103 := Aside0.mk ((by rw [hg]; exact Nat.ne_of_lt (blk_lt (g := gb101) (o := .cells #[.int .i64 x102000_1, .int .i64 x102001_1] 41 (0, 0)) (qk BK101.out)) : gb101 ≠ gb103)); have NB103_101 := Aside0.mk ((by rw [hg]; exact Nat.ne_of_gt (blk_lt (g := gb101) (o := .cells #[.int .i64 x102000_1, .int .i64 x102001_1] 41 (0, 0)) (qk BK101.out)) : gb103 ≠ gb101)); replace HO_6 := cR HO_6 hb; replace BK101 := cK BK101 hb; replace HB := cB HB hb; clear hb hbox hg; have hnb19 := NB103_101.out; have hnc19 := NB101_103.out; have hcz20_0 : w18.cell? ⟨gb103, 0, none⟩ = some (.int .i64 0) := (blk_cell BK103.out 0).trans rfl; have hcz20_1 : w18.cell? ⟨gb103, 1, none⟩ = some (.int .i64 0) := (blk_cell BK103.out 1).trans rfl; have hfz20_0 := blk_frozen BK103.out 0; have hfz20_1 := blk_frozen BK103.out 1) | ((with_reducible refine gate_callee (f := 78) rfl ?_); refine goesL_ (some 22) rfl rfl Tryz.func78 (by kernel_rfl) rfl #[.string a0, .agg #[.int .i64 ((rd_T105 l2 x14_1).f0), .int .i64 ((rd_T105 l2 x14_1).f1)]] rfl qm ?_; (with_reducible refine (words_Text.calls a0 ((rd_T105 l2 x14_1).f0) ((rd_T105 l2 x14_1).f1) t104 _ A8.out).mono ?_); rintro e w21 ⟨rfl, hb⟩; refine ⟨_, rfl, ?_⟩; have n0_ := Aside0.mk (Kd.R_below (by refine qR ?_; exact (Kd.R_mono (Kd.R_far (p := ⟨gb103, 1, none⟩) (Kd.R_far (p := ⟨gb103, 0, none⟩) (Kd.R_types HO_6.out BK103.out (by decide)) (fun _ hk => hk.2) (.int .i64 ((rd_T105 l2 x14_1).f0))) (fun _ hk => hk.2) (.int .i64 ((rd_T105 l2 x14_1).f1))) (fun _ h_ => by first | exact h_.1 | exact ⟨trivial, h_.1⟩))) hb); have n1_ := Aside0.mk (blk_below (g := gb101) (o := .cells #[.int .i64 x102000_1, .int .i64 x102001_1] 41 (0, 0)) (by refine qk ?_; refine blk_far ?_ NB101_103.out _; refine qk ?_; refine blk_far ?_ NB101_103.out _; refine qk ?_; exact BK101.out) hb); have n2_ := Aside0.mk (blk_below (g := gb103) (o := .cells #[.int .i64 ((rd_T105 l2 x14_1).f0), .int .i64 ((rd_T105 l2 x14_1).f1)] 105 (0, 0)) (by refine qk ?_; refine blk_put (cs := #[.int .i64 ((rd_T105 l2 x14_1).f0), .int .i64 0]) ?_ 1 _ rfl; refine qk ?_; refine blk_put (cs := #[.int .i64 0, .int .i64 0]) ?_ 0 _ rfl; refine qk ?_; exact BK103.out) hb); replace HB := cB HB hb; replace HO_6 := n0_; replace BK101 := n1_; replace BK103 := n2_; clear n0_ n1_ n2_; (try clear hb); (try clear hb2); (try clear hk); (try clear hi)) | (go_at_call 57; (with_reducible refine (fixed_Int.calls t104 t105 t106 _ A9.out).mono ?_); rintro e w22 ⟨rfl, hb⟩; replace HO_6 := cR HO_6 hb; replace BK101 := cK BK101 hb; replace BK103 := cK BK103 hb; replace HB := cB HB hb; (try clear hb); (try clear hb2); (try clear hk); (try clear hi)))
       have n0_ := Aside0.mk (Kd.R_drew HO_6.out); have n1_ := Aside0.mk (blk_drew BK101.out); have n2_ := Aside0.mk (blk_drew BK103.out); have n3_ := Aside0.mk (below_drew1 HB.out); clear HO_6; clear BK101; clear BK103; clear HB; have HO_6 := n0_; have BK101 := n1_; have BK103 := n2_; have HB := n3_; clear n0_ n1_ n2_ n3_; refine start_ (n := 6) (S := fun w' => w'.cell? ⟨gb103, 0, none⟩ = some (.int .i64 ((rd_T105 l2 x14_1).f0)) ∧ w'.cell? ⟨gb103, 1, none⟩ = some (.int .i64 ((rd_T105 l2 x14_1).f1))) (ds := []) #[false, false, false, false, false, false] (by kernel_rfl) rfl rfl ⟨(blk_cell BK103.out 0).trans rfl, (blk_cell BK103.out 1).trans rfl⟩ (fun hHeld => ?_); generalize w22.drew = w23 at HO_6 BK101 BK103 HB hHeld ⊢; refine pure_ (i := 0) (N := some 28) (v := ?_) (a' := ?_) #[true, false, false, false, false, false] rfl rfl (by kernel_rfl) (fun _ _ _ h => h) (Or.inl ⟨by rfl, ?_⟩) ?_ ?_
       rotate_left
       ·intro w'
        go_simp
        with_reducible rfl
       rotate_left
       ·simp only [Act.put, List.setIfInBounds_toArray, List.set_cons_zero, List.set_cons_succ, i64_w, i32_w]
        rfl
       refine pure_ (i := 2) (N := some 30) (v := ?_) (a' := ?_) #[true, false, true, false, false, false] rfl rfl (by kernel_rfl) (fun _ _ _ h => h) (Or.inl ⟨by rfl, ?_⟩) ?_ ?_
       rotate_left
       ·intro w'
        go_simp
        with_reducible rfl
       rotate_left
       ·simp only [Act.put, List.setIfInBounds_toArray, List.set_cons_zero, List.set_cons_succ, i64_w, i32_w]
        rfl
       refine pure_ (i := 4) (N := some 6) (v := ?_) (a' := ?_) #[true, false, true, false, true, false] rfl rfl (by kernel_rfl) (fun _ _ _ h => h) (Or.inl ⟨by rfl, ?_⟩) ?_ ?_
       rotate_left
       ·intro w'
        go_simp
        with_reducible rfl
       rotate_left
       ·simp only [Act.put, List.setIfInBounds_toArray, List.set_cons_zero, List.set_cons_succ, i64_w, i32_w]
        rfl
       refine take_ (i := 1) (N := some 29) (v := ?_) (a' := ?_) #[true, true, true, false, true, false] rfl rfl (by kernel_rfl) (fun _ _ _ h => h) (Or.inl ⟨by rfl, ?_⟩) hHeld ?_ ?_
       rotate_left
       ·rintro w' ⟨s0, s1⟩
        go_simp
        with_reducible rfl
       rotate_left
       ·simp only [Act.put, List.setIfInBounds_toArray, List.set_cons_zero, List.set_cons_succ, i64_w, i32_w]
        rfl
       refine pure_ (i := 3) (N := some 31) (v := ?_) (a' := ?_) #[true, true, true, true, true, false] rfl rfl (by kernel_rfl) (fun _ _ _ h => h) (Or.inl ⟨by rfl, ?_⟩) ?_ ?_
       rotate_left
       ·intro w'
        go_simp
        with_reducible rfl
       rotate_left
       ·simp only [Act.put, List.setIfInBounds_toArray, List.set_cons_zero, List.set_cons_succ, i64_w, i32_w]
        rfl
       refine one_ (i := 5) (N := none) #[true, true, true, true, true, true] rfl rfl (by kernel_rfl) (by decide) (fun K hK => ?_); have hs24 : w23.cell? ⟨gb101, 0, none⟩ = some (.int .i64 x102000_1) := (blk_cell BK101.out 0).trans rfl; have hfs24 := blk_frozen BK101.out 0; have hns24_1 := NB103_101.out; have hms24_1 := NB101_103.out; have hs25 : w23.cell? ⟨gb101, 1, none⟩ = some (.int .i64 x102001_1) := (blk_cell BK101.out 1).trans rfl; have hfs25 := blk_frozen BK101.out 1; have hns25_1 := NB103_101.out; have hms25_1 := NB101_103.out; refine skip_ (w1 := ?_) (by rfl) rfl ?_ ?_
       rotate_left
       ·go_simp
        rfl
       refine hK.out _ _ ⟨((cell_far (p := ⟨gb101, _, none⟩) NB103_101.out _).trans (((cell_far (p := ⟨gb101, _, none⟩) NB103_101.out _).trans (hHeld.1)))), ((cell_far (p := ⟨gb101, _, none⟩) NB103_101.out _).trans (((cell_far (p := ⟨gb101, _, none⟩) NB103_101.out _).trans (hHeld.2))))⟩ (fun hHeld => ?_); clear hK K; refine done_ (by kernel_rfl) ?_
       try go_wp2
       refine bodyPost_ret (results_tc rfl _ _ gb101 41 #[.int .i64 ((rd_T105 l2 x14_1).f0), .int .i64 t106] (0, 0) _ rfl (by refine qk ?_; refine blk_put (cs := #[.int .i64 ((rd_T105 l2 x14_1).f0), .int .i64 x102001_1]) ?_ 1 _ rfl; refine qk ?_; refine blk_put (cs := #[.int .i64 x102000_1, .int .i64 x102001_1]) ?_ 0 _ rfl; refine qk ?_; exact BK101.out) Tryz.underlying41 rfl (by kernel_rfl)) rfl ?_
       exact ⟨_, qe, by first | exact Kd.R_nil _ _ _ _ _ | exact Kd.N_nil _ _ _ _ _ | exact Kd.V_nil _ _ _ _ _ | exact Kd.Q_nil _ _ _ _ _ | exact Kd.S_nil _ _ _ _ _, qb⟩
     ·rw [if_neg c7] at H
      exact absurd H (by simp)
    ·rw [if_neg c6] at H
     exact absurd H (by simp)
   ·rw [if_neg c5] at H; have c5b0 := decide_eq_false c5; clear c5; simp only [Option.some.injEq, Prod.mk.injEq] at H; obtain ⟨rfl, rfl, rfl⟩ := H
    try go_wp2
    have n0_ := Aside0.mk (Kd.R_drew HO_6.out); have n1_ := Aside0.mk (blk_drew BK101.out); have n2_ := Aside0.mk (below_drew1 HB.out); clear HO_6; clear BK101; clear HB; have HO_6 := n0_; have BK101 := n1_; have HB := n2_; clear n0_ n1_ n2_; refine start_ (n := 4) (S := fun w' => w'.cell? ⟨gb101, 0, none⟩ = some (.int .i64 x102000_1) ∧ w'.cell? ⟨gb101, 1, none⟩ = some (.int .i64 x102001_1)) (ds := [3]) #[false, false, false, false] (by kernel_rfl) rfl rfl ⟨(blk_cell BK101.out 0).trans rfl, (blk_cell BK101.out 1).trans rfl⟩ (fun hHeld => ?_); generalize wr.drew = w26 at HO_6 BK101 HB hHeld ⊢; refine pure_ (i := 0) (N := some 37) (v := ?_) (a' := ?_) #[true, false, false, false] rfl rfl (by kernel_rfl) (fun _ _ _ h => h) (Or.inl ⟨by rfl, ?_⟩) ?_ ?_
    rotate_left
    ·intro w'
     go_simp
     with_reducible rfl
    rotate_left
    ·simp only [Act.put, List.setIfInBounds_toArray, List.set_cons_zero, List.set_cons_succ, i64_w, i32_w]
     rfl
    refine pure_ (i := 2) (N := some 6) (v := ?_) (a' := ?_) #[true, false, true, false] rfl rfl (by kernel_rfl) (fun _ _ _ h => h) (Or.inl ⟨by rfl, ?_⟩) ?_ ?_
    rotate_left
    ·intro w'
     go_simp
     with_reducible rfl
    rotate_left
    ·simp only [Act.put, List.setIfInBounds_toArray, List.set_cons_zero, List.set_cons_succ, i64_w, i32_w]
     rfl
    refine take_ (i := 1) (N := some 38) (v := ?_) (a' := ?_) #[true, true, true, false] rfl rfl (by kernel_rfl) (fun _ _ _ h => h) (Or.inl ⟨by rfl, ?_⟩) hHeld ?_ ?_
    rotate_left
    ·rintro w' ⟨s0, s1⟩
     go_simp
     with_reducible rfl
    rotate_left
    ·simp only [Act.put, List.setIfInBounds_toArray, List.set_cons_zero, List.set_cons_succ, i64_w, i32_w]
     rfl
    refine last_ (i := 3) (N := none) #[true, true, true, true] rfl rfl (by kernel_rfl) (by decide) (fun K hK => ?_); have hs27 : w26.cell? ⟨gb101, 0, none⟩ = some (.int .i64 x102000_1) := (blk_cell BK101.out 0).trans rfl; have hfs27 := blk_frozen BK101.out 0; have hs28 : w26.cell? ⟨gb101, 1, none⟩ = some (.int .i64 x102001_1) := (blk_cell BK101.out 1).trans rfl; have hfs28 := blk_frozen BK101.out 1; refine skip_ (w1 := ?_) (by rfl) rfl ?_ ?_
    rotate_left
    ·go_simp
     rfl
    refine hK.out _ _ ?_; clear hK K; refine done_ (by kernel_rfl) ?_
    try go_wp2
    refine bodyPost_ret (results_tc rfl _ _ gb101 41 #[.int .i64 x102000_1, .int .i64 x102001_1] (0, 0) _ rfl (by refine qk ?_; refine blk_put (cs := #[.int .i64 x102000_1, .int .i64 x102001_1]) ?_ 1 _ rfl; refine qk ?_; refine blk_put (cs := #[.int .i64 x102000_1, .int .i64 x102001_1]) ?_ 0 _ rfl; refine qk ?_; exact BK101.out) Tryz.underlying41 rfl (by kernel_rfl)) rfl ?_
    exact ⟨_, qe, by refine qR ?_; exact Kd.R_mono (Kd.R_far (p := ⟨gb101, 1, none⟩) (Kd.R_far (p := ⟨gb101, 0, none⟩) (Kd.R_types HO_6.out BK101.out (by decide)) (fun _ hk => hk.2) (.int .i64 x102000_1)) (fun _ hk => hk.2) (.int .i64 x102001_1)) (fun _ hk => trivial), qb⟩
def sheet_Ints.f (k : Nat) (a0 : ByteArray) (a1_0 : Int) (l1_1 : List (S105)) (a2 : Int) : Option (List Int × Int × Int) := if (l1_1.length : Int) = a2 then ((sheet_each_int.f k a0 () l1_1).bind fun bt103 => (some (bt103.1, bt103.2.1, bt103.2.2))) else (some (([] : List Int), a1_0, 3))
theorem sheet_Ints.mono : ∀ a0 a1 a2 a3 k, LeO (sheet_Ints.f k a0 a1 a2 a3) (sheet_Ints.f (k + 1) a0 a1 a2 a3) := by
 intro a0 a1 a2 a3 k
 unfold sheet_Ints.f
 repeat' first
   | (with_reducible exact sheet_each_int.mono _ _ _ _)
   | (with_reducible exact LeO.refl _)
   | (with_reducible exact LeO.none _)
   | (with_reducible refine LeO.ite ?_ ?_)
   | (with_reducible refine LeO.bind ?_ (fun _ => ?_))
   | exact sheet_each_int.mono _ _ _ _
   | exact LeO.none _
   | refine LeO.ite ?_ ?_
   | refine LeO.bind ?_ (fun _ => ?_)
set_option maxHeartbeats 8000000 in
set_option maxRecDepth 100000 in
theorem sheet_Ints.calls (k : Nat) (a0 : ByteArray) (a1_0 : Int) (A1_1 : Option Addr) (c1_1 : Nat) (l1_1 : List (S105)) (a2 : Int) (r1 : List Int) (r2 : Int) (r3 : Int) (w : World) (hr1_1 : Kd.C k105 w A1_1 l1_1.length l1_1) (hc1_1 : l1_1.length ≤ c1_1) (h : sheet_Ints.f k a0 a1_0 l1_1 a2 = some (r1, r2, r3)) :
  Calls Tryz.prog 28 #[.string a0, .agg #[.int .i64 a1_0, .slice A1_1 l1_1.length c1_1], .int .i64 a2] w fun e w' => ∃ v0_ : Value, e = .returned (.tuple #[v0_, .agg #[.int .i64 r2, .int .i64 r3]]) ∧ Kd.R (Kd.int .i64) 3 w' w.heap.size (fun _ => True) v0_ r1 ∧ Below w.heap.size w w' := by
 have hu32 := Tryz.underlying32; have hu41 := Tryz.underlying41; have HR1_1 := Aside0.mk hr1_1; have HC1_1 := Aside0.mk hc1_1; clear hr1_1 hc1_1; have HB := Aside0.mk (Below.refl w.heap.size w); have H : (if (l1_1.length : Int) = a2 then ((sheet_each_int.f k a0 () l1_1).bind fun bt103 => (some (bt103.1, bt103.2.1, bt103.2.2))) else (some (([] : List Int), a1_0, 3))) = some (r1, r2, r3) := h; clear h
 by_cases c4 : (l1_1.length : Int) = a2
 ·rw [if_pos c4] at H; have c4b0 := beq_iff_eq.mpr c4; have c4b1 := bne_eq_false_iff_eq.mpr c4; clear c4; replace H := Option.bind_eq_some_iff.mp H; obtain ⟨⟨t103, t106, t107⟩, A50, H⟩ := H; (try dsimp only at H); have A5 := Aside0.mk A50; clear A50; simp only [Option.some.injEq, Prod.mk.injEq] at H; obtain ⟨rfl, rfl, rfl⟩ := H; go_enter Tryz.func28, Tryz.ntmps28
  go_wp2_with (first | ((with_reducible refine gate_dst (N := 4) rfl ?_); refine box_ev (N := 4) (cs := #[.int .i64 a1_0, .slice A1_1 l1_1.length c1_1]) (t := 32) ?_; intro gb101 hg w6 hbox hb; have BK101 := Aside0.mk (hbox); have GW101 := Aside0.mk ((qg : w.heap.size ≤ gb101)); have GE101 := Aside0.mk ((qg : w.heap.size ≤ gb101)); replace HB := cB HB hb; clear hb hbox hg) | ((with_reducible refine gate_dst (N := 7) rfl ?_); refine box_ev (N := 7) (cs := #[.int .i64 0, .int .i64 0]) (t := 41) ?_; intro gb102 hg w7 hbox hb; have BK102 := Aside0.mk (hbox); have GW102 := Aside0.mk ((qg : w.heap.size ≤ gb102)); have GE102 := Aside0.mk ((qg : w.heap.size ≤ gb102)); have NB101_102 := Aside0.mk ((by rw [hg]; exact Nat.ne_of_lt (blk_lt (g := gb101) (o := .cells #[.int .i64 a1_0, .slice A1_1 l1_1.length c1_1] 32 (0, 0)) (qk BK101.out)) : gb101 ≠ gb102)); have NB102_101 := Aside0.mk ((by rw [hg]; exact Nat.ne_of_gt (blk_lt (g := gb101) (o := .cells #[.int .i64 a1_0, .slice A1_1 l1_1.length c1_1] 32 (0, 0)) (qk BK101.out)) : gb102 ≠ gb101)); replace BK101 := cK BK101 hb; replace HB := cB HB hb; clear hb hbox hg; have hnb8 := NB101_102.out; have hnc8 := NB102_101.out; have hcz9_0 : w7.cell? ⟨gb101, 0, none⟩ = some (.int .i64 a1_0) := (blk_cell BK101.out 0).trans rfl; have hcz9_1 : w7.cell? ⟨gb101, 1, none⟩ = some (.slice A1_1 l1_1.length c1_1) := (blk_cell BK101.out 1).trans rfl; have hfz9_0 := blk_frozen BK101.out 0; have hfz9_1 := blk_frozen BK101.out 1) | ((with_reducible refine gate_callee (f := 56) rfl ?_); refine goesL_ (some 19) rfl rfl Tryz.func56 (by kernel_rfl) rfl #[.string a0, .func (.func 57) #[] #[], .slice A1_1 l1_1.length c1_1] rfl qm ?_; (with_reducible refine (sheet_each_int.calls k a0 () _ _ l1_1 t103 t106 t107 _ ?side1 ?side2 A5.out).mono ?_); (case side1 => exact qC (Kd.C_below HR1_1.out HB.out)); (case side2 => exact HC1_1.out); rintro e w10 ⟨v104, rfl, ho0, hb⟩; refine ⟨_, rfl, ?_⟩; have HO105 := Aside0.mk (Kd.R_lower ho0 (below_size qb)); replace BK101 := cK BK101 hb; replace BK102 := cK BK102 hb; replace HB := cB HB hb; (try clear hb); (try clear hb2); (try clear hk); (try clear hi); (try clear ho0); have hcz11_0 : w10.cell? ⟨gb102, 0, none⟩ = some (.int .i64 0) := (blk_cell BK102.out 0).trans rfl; have hcz11_1 : w10.cell? ⟨gb102, 1, none⟩ = some (.int .i64 0) := (blk_cell BK102.out 1).trans rfl; have hfz11_0 := blk_frozen BK102.out 0; have hfz11_1 := blk_frozen BK102.out 1))
  refine bodyPost_ret (results_tc rfl _ _ gb102 41 #[.int .i64 t106, .int .i64 t107] (0, 0) _ rfl (by refine qk ?_; refine blk_put (cs := #[.int .i64 t106, .int .i64 0]) ?_ 1 _ rfl; refine qk ?_; refine blk_put (cs := #[.int .i64 0, .int .i64 0]) ?_ 0 _ rfl; refine qk ?_; exact BK102.out) Tryz.underlying41 rfl (by kernel_rfl)) rfl ?_
  exact ⟨_, qe, by refine qR ?_; exact Kd.R_mono (Kd.R_far (p := ⟨gb102, 1, none⟩) (Kd.R_far (p := ⟨gb102, 0, none⟩) (Kd.R_types HO105.out BK102.out (by decide)) (fun _ hk => hk.2) (.int .i64 t106)) (fun _ hk => hk.2) (.int .i64 t107)) (fun _ hk => trivial), qb⟩
 ·rw [if_neg c4] at H; have c4b0 := beq_eq_false_iff_ne.mpr c4; have c4b1 := bne_iff_ne.mpr c4; simp only [Option.some.injEq, Prod.mk.injEq] at H; obtain ⟨rfl, rfl, rfl⟩ := H; go_enter Tryz.func28, Tryz.ntmps28
  try go_wp2_with (first | ((with_reducible refine gate_dst (N := 4) rfl ?_); refine box_ev (N := 4) (cs := #[.int .i64 a1_0, .slice A1_1 l1_1.length c1_1]) (t := 32) ?_; intro gb101 hg w12 hbox hb; have BK101 := Aside0.mk (hbox); have GW101 := Aside0.mk ((qg : w.heap.size ≤ gb101)); have GE101 := Aside0.mk ((qg : w.heap.size ≤ gb101)); replace HB := cB HB hb; clear hb hbox hg) | ((with_reducible refine gate_dst (N := 7) rfl ?_); refine box_ev (N := 7) (cs := #[.int .i64 0, .int .i64 0]) (t := 41) ?_; intro gb102 hg w13 hbox hb; have BK102 := Aside0.mk (hbox); have GW102 := Aside0.mk ((qg : w.heap.size ≤ gb102)); have GE102 := Aside0.mk ((qg : w.heap.size ≤ gb102)); have NB101_102 := Aside0.mk ((by rw [hg]; exact Nat.ne_of_lt (blk_lt (g := gb101) (o := .cells #[.int .i64 a1_0, .slice A1_1 l1_1.length c1_1] 32 (0, 0)) (qk BK101.out)) : gb101 ≠ gb102)); have NB102_101 := Aside0.mk ((by rw [hg]; exact Nat.ne_of_gt (blk_lt (g := gb101) (o := .cells #[.int .i64 a1_0, .slice A1_1 l1_1.length c1_1] 32 (0, 0)) (qk BK101.out)) : gb102 ≠ gb101)); replace BK101 := cK BK101 hb; replace HB := cB HB hb; clear hb hbox hg; have hnb14 := NB101_102.out; have hnc14 := NB102_101.out; have hcz15_0 : w13.cell? ⟨gb101, 0, none⟩ = some (.int .i64 a1_0) := (blk_cell BK101.out 0).trans rfl; have hcz15_1 : w13.cell? ⟨gb101, 1, none⟩ = some (.slice A1_1 l1_1.length c1_1) := (blk_cell BK101.out 1).trans rfl; have hfz15_0 := blk_frozen BK101.out 0; have hfz15_1 := blk_frozen BK101.out 1))
  have n0_ := Aside0.mk (blk_drew BK101.out); have n1_ := Aside0.mk (blk_drew BK102.out); have n2_ := Aside0.mk (below_drew1 HB.out); clear BK101; clear BK102; clear HB; have BK101 := n0_; have BK102 := n1_; have HB := n2_; clear n0_ n1_ n2_; refine start_ (n := 5) (S := fun w' => w'.cell? ⟨gb101, 0, none⟩ = some (.int .i64 a1_0) ∧ w'.cell? ⟨gb101, 1, none⟩ = some (.slice A1_1 l1_1.length c1_1)) (ds := []) #[false, false, false, false, false] (by kernel_rfl) rfl rfl ⟨(blk_cell BK101.out 0).trans rfl, (blk_cell BK101.out 1).trans rfl⟩ (fun hHeld => ?_); generalize w13.drew = w16 at BK101 BK102 HB hHeld ⊢; refine pure_ (i := 0) (N := some 13) (v := ?_) (a' := ?_) #[true, false, false, false, false] rfl rfl (by kernel_rfl) (fun _ _ _ h => h) (Or.inl ⟨by rfl, ?_⟩) ?_ ?_
  rotate_left
  ·intro w'
   go_simp
   with_reducible rfl
  rotate_left
  ·simp only [Act.put, List.setIfInBounds_toArray, List.set_cons_zero, List.set_cons_succ, i64_w, i32_w]
   rfl
  refine pure_ (i := 3) (N := some 6) (v := ?_) (a' := ?_) #[true, false, false, true, false] rfl rfl (by kernel_rfl) (fun _ _ _ h => h) (Or.inl ⟨by rfl, ?_⟩) ?_ ?_
  rotate_left
  ·intro w'
   go_simp
   with_reducible rfl
  rotate_left
  ·simp only [Act.put, List.setIfInBounds_toArray, List.set_cons_zero, List.set_cons_succ, i64_w, i32_w]
   rfl
  refine take_ (i := 1) (N := some 14) (v := ?_) (a' := ?_) #[true, true, false, true, false] rfl rfl (by kernel_rfl) (fun _ _ _ h => h) (Or.inl ⟨by rfl, ?_⟩) hHeld ?_ ?_
  rotate_left
  ·rintro w' ⟨s0, s1⟩
   go_simp
   with_reducible rfl
  rotate_left
  ·simp only [Act.put, List.setIfInBounds_toArray, List.set_cons_zero, List.set_cons_succ, i64_w, i32_w]
   rfl
  refine pure_ (i := 2) (N := some 15) (v := ?_) (a' := ?_) #[true, true, true, true, false] rfl rfl (by kernel_rfl) (fun _ _ _ h => h) (Or.inl ⟨by rfl, ?_⟩) ?_ ?_
  rotate_left
  ·intro w'
   go_simp
   with_reducible rfl
  rotate_left
  ·simp only [Act.put, List.setIfInBounds_toArray, List.set_cons_zero, List.set_cons_succ, i64_w, i32_w]
   rfl
  refine one_ (i := 4) (N := none) #[true, true, true, true, true] rfl rfl (by kernel_rfl) (by decide) (fun K hK => ?_); have hs17 : w16.cell? ⟨gb102, 0, none⟩ = some (.int .i64 0) := (blk_cell BK102.out 0).trans rfl; have hfs17 := blk_frozen BK102.out 0; have hns17_0 := NB101_102.out; have hms17_0 := NB102_101.out; have hs18 : w16.cell? ⟨gb102, 1, none⟩ = some (.int .i64 0) := (blk_cell BK102.out 1).trans rfl; have hfs18 := blk_frozen BK102.out 1; have hns18_0 := NB101_102.out; have hms18_0 := NB102_101.out; refine skip_ (w1 := ?_) (by rfl) rfl ?_ ?_
  rotate_left
  ·go_simp
   rfl
  refine hK.out _ _ ⟨((cell_far (p := ⟨gb102, _, none⟩) NB101_102.out _).trans (((cell_far (p := ⟨gb102, _, none⟩) NB101_102.out _).trans (hHeld.1)))), ((cell_far (p := ⟨gb102, _, none⟩) NB101_102.out _).trans (((cell_far (p := ⟨gb102, _, none⟩) NB101_102.out _).trans (hHeld.2))))⟩ (fun hHeld => ?_); clear hK K; refine done_ (by kernel_rfl) ?_
  try go_wp2
  refine bodyPost_ret (results_tc rfl _ _ gb102 41 #[.int .i64 a1_0, .int .i64 3] (0, 0) _ rfl (by refine qk ?_; refine blk_put (cs := #[.int .i64 a1_0, .int .i64 0]) ?_ 1 _ rfl; refine qk ?_; refine blk_put (cs := #[.int .i64 0, .int .i64 0]) ?_ 0 _ rfl; refine qk ?_; exact BK102.out) Tryz.underlying41 rfl (by kernel_rfl)) rfl ?_
  exact ⟨_, qe, by first | exact Kd.R_nil _ _ _ _ _ | exact Kd.N_nil _ _ _ _ _ | exact Kd.V_nil _ _ _ _ _ | exact Kd.Q_nil _ _ _ _ _ | exact Kd.S_nil _ _ _ _ _, qb⟩
attribute [local go_sem high] eqA41
end Go.Proofs.YtadocbfchdendaaGreatDoor.P
namespace Go.Proofs.YtadocbfchdendaaGreatDoor.Cu
open Go.RowKit Go.Lib Go.Proofs.YtadocbfchdendaaGreatDoorW.PrintWords Go.Proofs.YtadocbfchdendaaGreatDoorW.PrintLast Go.Proofs.YtadocbfchdendaaGreatDoorW.PrintMore Go.Proofs.YtadocbfchdendaaGreatDoor.P
set_option linter.unusedSimpArgs false
theorem rdW (l : List Wd) (i : Nat) (x : Wd) (h : l[i]? = some x) : rd_T105 l (i : Int) = x := by
  unfold rd_T105
  rw [Int.toNat_natCast, List.getD_eq_getElem?_getD, h]
  rfl
def txt (s : ByteArray) (x y : Int) : ByteArray := if 0 ≤ x ∧ x ≤ y ∧ y ≤ (s.size : Int) then s.extract x.toNat y.toNat else ⟨#[]⟩
theorem txt_size (s : ByteArray) (x y : Int) : (txt s x y).size ≤ s.size := by
  unfold txt
  split
  · rw [ByteArray.size_extract]; omega
  · exact Nat.zero_le _
theorem Text_eq (s : ByteArray) (x y : Int) : words_Text.f s x y = some (txt s x y) := by
  unfold words_Text.f words_places.f txt
  by_cases h0 : 0 ≤ x
  · by_cases h1 : x ≤ y
    · by_cases h2 : y ≤ (s.size : Int)
      · simp [h0, h1, h2]
      · simp [h0, h1, h2]
    · simp [h0, h1]
  · simp [h0]
def triL (l : List UInt8) : List UInt8 := l.dropWhile blankC
def triR (l : List UInt8) : List UInt8 := (l.reverse.dropWhile blankC).reverse
theorem bl_eq : (fun b : UInt8 => ([32, 9] : List UInt8).contains b) = blankC := by
  funext b
  rw [Bool.eq_iff_iff]
  simp [blankC, or_comm]
theorem trimL_eq (l : List UInt8) : Lib.trimLeftS l [32, 9] = triL l := by unfold Lib.trimLeftS triL; rw [bl_eq]
theorem trimR_eq (l : List UInt8) : Lib.trimRightS l [32, 9] = triR l := by unfold Lib.trimRightS triR; rw [bl_eq]
theorem triR_cons (c : UInt8) (l : List UInt8) : triR (c :: l) = if triR l = [] then (if blankC c = true then [] else [c]) else c :: triR l := by
  unfold triR
  rw [List.reverse_cons, List.dropWhile_append]
  cases h : l.reverse.dropWhile blankC with
  | nil => by_cases hc : blankC c = true <;> simp [hc]
  | cons a t => simp
theorem triR_snoc (c : UInt8) (l : List UInt8) : triR (l ++ [c]) = if blankC c = true then triR l else l ++ [c] := by
  unfold triR
  rw [List.reverse_append]
  by_cases hc : blankC c = true
  · simp [List.dropWhile_cons, hc]
  · simp [List.dropWhile_cons, hc]
theorem triL_cons (c : UInt8) (l : List UInt8) : triL (c :: l) = if blankC c = true then triL l else c :: l := by
  unfold triL
  rw [List.dropWhile_cons]
theorem tri_comm (l : List UInt8) : triL (triR l) = triR (triL l) := by
  induction l with
  | nil => rfl
  | cons c l ih =>
    by_cases hc : blankC c = true
    · rw [triL_cons, if_pos hc, triR_cons]
      by_cases h : triR l = []
      · rw [if_pos h, if_pos hc, ← ih, h]
      · rw [if_neg h, triL_cons, if_pos hc, ih]
    · rw [triL_cons, if_neg hc, triR_cons]
      by_cases h : triR l = []
      · rw [if_pos h, if_neg hc]
        unfold triL
        rw [List.dropWhile_cons, if_neg hc]
      · rw [if_neg h, triL_cons, if_neg hc]
theorem triL_len (l : List UInt8) : (triL l).length ≤ l.length := (List.dropWhile_suffix blankC).length_le
theorem triR_len (l : List UInt8) : (triR l).length ≤ l.length := by
  unfold triR
  rw [List.length_reverse]
  have := (List.dropWhile_suffix blankC (l := l.reverse)).length_le
  simpa using this
theorem triL_drop (l : List UInt8) : triL l = l.drop (l.length - (triL l).length) := List.suffix_iff_eq_drop.1 (List.dropWhile_suffix blankC)
theorem triR_take (l : List UInt8) : triR l = l.take (triR l).length := by
  have h : triR l <+: l := by
    have h2 := List.dropWhile_suffix blankC (l := l.reverse)
    have h3 := List.reverse_prefix.2 h2
    rwa [List.reverse_reverse] at h3
  exact List.prefix_iff_eq_take.1 h
theorem triR_ne (l : List UInt8) (h : triL l ≠ []) : triR (triL l) ≠ [] := by
  cases hl : triL l with
  | nil => exact absurd hl h
  | cons c t =>
    have hc : blankC c = false := by
      have := List.head?_dropWhile_not blankC l
      unfold triL at hl
      rw [hl] at this
      simpa using this
    rw [triR_cons]
    by_cases h2 : triR t = []
    · rw [if_pos h2, if_neg (by simp [hc])]; simp
    · rw [if_neg h2]; simp
def seg (s : ByteArray) (a b : Nat) : List UInt8 := (s.data.toList.drop a).take (b - a)
theorem seg_len (s : ByteArray) (a b : Nat) (hab : a ≤ b) (hb : b ≤ s.size) : (seg s a b).length = b - a := by
  unfold seg
  rw [List.length_take, List.length_drop]
  have : s.data.toList.length = s.size := rfl
  omega
theorem seg_nil (s : ByteArray) (a : Nat) : seg s a a = [] := by unfold seg; rw [Nat.sub_self, List.take_zero]
theorem seg_cons (s : ByteArray) (a b : Nat) (c : UInt8) (hab : a < b) (hc : s.data.toList[a]? = some c) : seg s a b = c :: seg s (a + 1) b := by
  unfold seg
  rw [drop_cons' _ a c hc, show b - a = (b - (a + 1)) + 1 by omega, List.take_succ_cons]
theorem seg_snoc (s : ByteArray) (a b : Nat) (c : UInt8) (hab : a ≤ b) (hc : s.data.toList[b]? = some c) : seg s a (b + 1) = seg s a b ++ [c] := by
  unfold seg
  rw [show b + 1 - a = (b - a) + 1 by omega, List.take_add_one, List.getElem?_drop, show a + (b - a) = b by omega, hc]
  rfl
theorem seg_drop (s : ByteArray) (a b n : Nat) : (seg s a b).drop n = seg s (a + n) b := by
  unfold seg
  rw [List.drop_take, List.drop_drop, Nat.sub_add_eq]
theorem seg_take (s : ByteArray) (a b n : Nat) (h : n ≤ b - a) : (seg s a b).take n = seg s a (a + n) := by
  unfold seg
  rw [List.take_take, Nat.min_eq_left h, show a + n - a = n by omega]
theorem txt_seg (s : ByteArray) (a b : Nat) (hab : a ≤ b) (hb : b ≤ s.size) : txt s a b = ⟨(seg s a b).toArray⟩ := by
  unfold txt
  rw [if_pos (by omega), seg_data]
  rfl
def wtx (s : ByteArray) (y : Wd) : List UInt8 := (txt s y.f0 y.f1).data.toList
theorem decDigits_mem (u : Nat) : ∀ c ∈ decDigits u, ∃ d, d < 10 ∧ c = UInt8.ofNat (48 + d) := by
  induction u using Nat.strongRecOn with
  | _ u ih =>
    intro c hc
    rw [decDigits] at hc
    by_cases h : u < 10
    · rw [dif_pos h] at hc
      exact ⟨u, h, by simpa using hc⟩
    · rw [dif_neg h] at hc
      rcases List.mem_append.1 hc with h1 | h1
      · exact ih (u / 10) (by omega) c h1
      · exact ⟨u % 10, by omega, by simpa using h1⟩
theorem decDigits_ne (u : Nat) : decDigits u ≠ [] := by
  rw [decDigits]
  split <;> simp
theorem itoa_mem (n : Int) : ∀ c ∈ Lib.itoa n, blankC c = false ∧ c ≠ 10 ∧ c ≠ 35 ∧ c ≠ 58 := by
  intro c hc
  have hd : ∀ u : Nat, c ∈ decDigits u → blankC c = false ∧ c ≠ 10 ∧ c ≠ 35 ∧ c ≠ 58 := fun u hu => by
    obtain ⟨d, h1, rfl⟩ := decDigits_mem u c hu
    have : ∀ d : Fin 10, blankC (UInt8.ofNat (48 + d.val)) = false ∧ UInt8.ofNat (48 + d.val) ≠ 10 ∧ UInt8.ofNat (48 + d.val) ≠ 35 ∧ UInt8.ofNat (48 + d.val) ≠ 58 := by decide
    exact this ⟨d, h1⟩
  unfold Lib.itoa at hc
  split at hc
  · rcases List.mem_cons.1 hc with rfl | h
    · exact ⟨by decide, by decide, by decide, by decide⟩
    · exact hd _ h
  · exact hd _ hc
theorem itoa_ne (n : Int) : Lib.itoa n ≠ [] := by
  unfold Lib.itoa
  split
  · simp
  · exact decDigits_ne _
theorem toList_mk (l : List UInt8) : (⟨l.toArray⟩ : ByteArray).toList = l := by rw [ByteArray.toList_eq]
theorem ba_app (a b : List UInt8) : (⟨a.toArray⟩ : ByteArray) ++ ⟨b.toArray⟩ = ⟨(a ++ b).toArray⟩ := by
  apply ByteArray.ext
  rw [ByteArray.data_append]
  simp
theorem ba_size (a : List UInt8) : (⟨a.toArray⟩ : ByteArray).size = a.length := by show a.toArray.size = _; simp
def lnT (l : List (List UInt8)) : List UInt8 := l.flatMap fun x => x ++ [10]
theorem join_lnT (l : List (List UInt8)) : Lib.join (l ++ [[]]) [10] = lnT l := by
  induction l with
  | nil => rfl
  | cons x l ih =>
    have h2 : Lib.join (x :: (l ++ [[]])) [10] = x ++ [10] ++ Lib.join (l ++ [[]]) [10] := by
      cases l with
      | nil => simp [Lib.join, List.intercalate]
      | cons y l => simp [Lib.join, List.intercalate]
    rw [List.cons_append, h2, ih]
    simp [lnT]
theorem lnT_len (l : List (List UInt8)) (M : Nat) (h : ∀ x ∈ l, x.length ≤ M) : (lnT l).length ≤ l.length * (M + 1) := by
  induction l with
  | nil => simp [lnT]
  | cons x l ih =>
    have h1 := h x List.mem_cons_self
    have h2 := ih (fun y hy => h y (List.mem_cons_of_mem _ hy))
    unfold lnT at h2 ⊢
    simp only [List.flatMap_cons, List.length_append, List.length_cons, List.length_nil, Nat.add_mul]
    omega
theorem eachS_l (s : ByteArray) (ws : List Wd) (hl : ws.length < 1000000) (d : Nat) : ∀ (i k : Nat) (acc : List ByteArray), i + d = ws.length → acc.length ≤ i → d < k →
    sheet_each_string.l0 k s acc ws (ws.length : Int) i 0 0 = some (acc ++ (ws.drop i).map (fun w => txt s w.f0 w.f1), 0, 0) := by
  induction d with
  | zero =>
    intro i k acc hi hacc hk
    obtain ⟨k, rfl, hk⟩ := succ' hk
    simp only [sheet_each_string.l0]
    rw [if_neg (by omega), List.drop_of_length_le (by omega)]
    simp
  | succ d ih =>
    intro i k acc hi hacc hk
    obtain ⟨k, rfl, hk⟩ := succ' hk
    obtain ⟨x, hx⟩ : ∃ x, ws[i]? = some x := ⟨_, List.getElem?_eq_getElem (show i < ws.length by omega)⟩
    have e1 : wrap64 ((i : Int) + 1) = ((i + 1 : Nat) : Int) := by rw [w64' (by omega) (by omega)]; omega
    simp only [sheet_each_string.l0]
    rw [if_pos (by omega), if_pos (by omega), if_pos (by omega), rdW ws i x hx, Text_eq]
    simp only [Option.bind_some, sheet_Title_1.f, if_true]
    rw [if_pos (by omega), e1, ih (i + 1) k _ (by omega) (by simp; omega) (by omega), drop_cons' ws i x hx]
    simp
theorem joinTail_len (M : Nat) (l : List (List UInt8)) (h : ∀ x ∈ l, x.length ≤ M) : (Lib.joinTail [32] l).length ≤ l.length * (M + 1) := by
  induction l with
  | nil => simp [Lib.joinTail]
  | cons a l ih =>
    have h1 := h a List.mem_cons_self
    have h2 := ih (fun x hx => h x (List.mem_cons_of_mem _ hx))
    have e : Lib.joinTail [32] (a :: l) = [32] ++ a ++ Lib.joinTail [32] l := by simp [Lib.joinTail]
    rw [e, List.length_append, List.length_append, List.length_cons, List.length_cons, List.length_nil, Nat.succ_mul]
    omega
def joinW (s : ByteArray) (ws : List Wd) : List UInt8 := Lib.join ((ws.map (fun w => txt s w.f0 w.f1)).map (·.data.toList)) [32]
theorem joinW_len (s : ByteArray) (ws : List Wd) : (joinW s ws).length ≤ ws.length * (s.size + 1) := by
  cases ws with
  | nil => simp [joinW, Lib.join_nil]
  | cons w ws =>
    have h1 : (txt s w.f0 w.f1).data.toList.length ≤ s.size := txt_size s w.f0 w.f1
    have h2 := joinTail_len s.size ((ws.map (fun w => txt s w.f0 w.f1)).map (·.data.toList)) (by
      intro x hx
      obtain ⟨y, hy, rfl⟩ := List.mem_map.1 hx
      obtain ⟨z, _, rfl⟩ := List.mem_map.1 hy
      exact txt_size s _ _)
    unfold joinW
    rw [List.map_cons, List.map_cons, Lib.join_cons, List.length_append, List.length_cons, Nat.succ_mul]
    rw [List.length_map, List.length_map] at h2
    omega
theorem Title_eq (s : ByteArray) (hs : s.size ≤ 100000) (f0 : Int) (ws : List Wd) (hl : ws.length ≤ 100000) (t : ByteArray) (k : Nat) (hk : ws.length < k) : sheet_Title.f k s f0 ws t = some (joinW s ws == t.toList) := by
  unfold sheet_Title.f sheet_each_string.f
  have h1 := eachS_l s ws (by omega) ws.length 0 k [] (by omega) (by simp) hk
  rw [show (0 : Int) = ((0 : Nat) : Int) from rfl] at h1 ⊢
  rw [h1]
  simp only [Option.bind_some, List.nil_append, List.drop_zero]
  have hj := joinW_len s ws
  have hm : ws.length * (s.size + 1) ≤ 100000 * 100001 := Nat.mul_le_mul hl (by omega)
  unfold strings_Join.f
  rw [if_pos ⟨by rw [List.length_map]; omega, by show (joinW s ws).length ≤ _; omega⟩]
  simp only [Option.bind_some, Option.some.injEq]
  rw [ba_list]
  rfl
theorem shR_len (s : List UInt8) (f : Int) : (shR s f).length ≤ s.length := by
  unfold shR
  rw [List.length_map]
  exact Nat.le_trans (List.length_filter_le _ _) (rowsL_len s)
theorem shR_words (s : List UInt8) (f : Int) : ∀ x ∈ shR s f, x.f1.length ≤ s.length + 1 := by
  intro x hx
  obtain ⟨l, _, rfl⟩ := List.mem_map.1 hx
  have := fieldsG_len ((s.drop l.f0.toNat).take (l.f1.toNat - l.f0.toNat)) l.f0.toNat none
  rw [List.length_take, List.length_drop] at this
  show (fieldsG ((s.drop l.f0.toNat).take (l.f1.toNat - l.f0.toNat)) l.f0.toNat none).length ≤ _
  omega
end Go.Proofs.YtadocbfchdendaaGreatDoor.Cu
namespace Go.Proofs.YtadocbfchdendaaGreatDoor.Cu
open Go.RowKit Go.Lib Go.Proofs.YtadocbfchdendaaGreatDoorW.PrintWords Go.Proofs.YtadocbfchdendaaGreatDoor.P
set_option linter.unusedSimpArgs false
set_option linter.unusedVariables false
theorem lays166 : Go.Proofs.Lays.n166 Tryz.prog Tryz.lays156_ren := { Tryz.lays156 with }
def Bld (w : World) (B b : Nat) (l : List UInt8) : Prop := Lib.IsBuilderF 141 5 B b (Lib.byteCells l) w
theorem Bld.new (w : World) : Bld (w.alloc (.cells #[.pointer none, .slice none 0 0] 141)) w.heap.size w.heap.size [] := Lib.IsBuilderF.of (Lib.fresh_isBuilder _ _ _)
theorem Bld.below {w w' : World} {B b : Nat} {l : List UInt8} (h : Bld w B b l) (hb : Below w.heap.size w w') : Bld w' B b l := by
  have k : ∀ p, Lib.BuilderAtF 141 5 B b p (Lib.byteCells l) w → Lib.BuilderAtF 141 5 B b p (Lib.byteCells l) w' := by
    rintro p ⟨h0, v, h1, h2, h3⟩
    exact ⟨h0, v, (hb.block b (by rcases Nat.lt_or_ge b w.heap.size with h | h; exact h; rw [Array.getElem?_eq_none h] at h1; cases h1)).trans h1, h2.kept (grown_of_below hb none) (by cases hv : v.ownBlock <;> simp), h3⟩
  exact h.imp (k _) (k _)
theorem Bld.write {w : World} {B b : Nat} {l : List UInt8} (h : Bld w B b l) (s : ByteArray) (hlen : l.length + s.size ≤ 140737488355328) (hB : B ≤ w.heap.size) :
    Calls Tryz.prog 82 #[.pointer (some ⟨b, 0, none⟩), .string s] w fun e w' => e = .returned (.tuple #[.int .i64 s.size, .nilIface]) ∧ Bld w' B b (l ++ s.data.toList) ∧ Below B w w' := by
  refine (Any.Builder_WriteString_k lays166 Tryz.Builder_Extra_156 B b (Lib.byteCells l) s w h (by rw [Lib.byteCells_length]; exact hlen) hB).mono fun e w' ⟨he, hA, hb, _⟩ => ⟨he, ?_, hb⟩
  rw [Lib.strCells_eq, ← Lib.byteCells_append] at hA
  exact .inr hA
theorem int_at {k : IntKind} {w : World} {A : Option Addr} {n : Nat} {xs : List Int} (h : Kd.C (Kd.int k) w A n xs) (i : Nat) (x : Int) (hx : xs[i]? = some x) : ∃ ad, A = some ad ∧ w.cell? (ad.add i) = some (.int k x) := by
  have hi := (List.getElem?_eq_some_iff.1 hx).1
  obtain ⟨ad, e1, hc⟩ := h.2.2 (by have := h.1; omega)
  obtain ⟨c, _, rfl, hu⟩ := hc i x hx
  have := hu 0 _ rfl
  rw [Nat.add_zero, show (Kd.int k).sz = 1 from rfl, Nat.mul_one] at this
  exact ⟨ad, e1, this⟩
theorem C_len {α : Type} {d : Kd α} {w : World} {A : Option Addr} {n : Nat} {xs : List α} (h : Kd.C d w A n xs) : n ≤ 9223372036854775807 := h.2.1
end Go.Proofs.YtadocbfchdendaaGreatDoor.Cu
namespace Go.Proofs.YtadocbfchdendaaGreatDoor.P
open Go.RowKit Go.Proofs.YtadocbfchdendaaGreatDoorW.PrintWords Go.Proofs.YtadocbfchdendaaGreatDoorW.PrintLast Go.Proofs.YtadocbfchdendaaGreatDoorW.PrintMore
attribute [local go_sem] max2_int min2_int max_two min_two max_three min_three max_four min_four
set_option linter.unusedVariables false
set_option linter.unusedSimpArgs false
def tour_wrong.f (a0 : Int) (a1 : Int) : Option (Int × Int) := some (a0, a1)
set_option maxHeartbeats 8000000 in
set_option maxRecDepth 100000 in
theorem tour_wrong.calls (a0 : Int) (a1 : Int) (r1 : Int) (r2 : Int) (w : World) (h : tour_wrong.f a0 a1 = some (r1, r2)) :
  Calls Tryz.prog 70 #[.int .i64 a0, .int .i64 a1] w fun e w' => e = .returned (.agg #[.int .i64 r1, .int .i64 r2]) ∧ Below w.heap.size w w' := by
 have hu41 := Tryz.underlying41; have HB := Aside0.mk (Below.refl w.heap.size w); have H : (some (a0, a1)) = some (r1, r2) := h; clear h; simp only [Option.some.injEq, Prod.mk.injEq] at H; obtain ⟨rfl, rfl⟩ := H; go_enter Tryz.func70, Tryz.ntmps70
 go_wp2_with (first | ((with_reducible refine gate_dst (N := 4) rfl ?_); refine box_ev (N := 4) (cs := #[.int .i64 0, .int .i64 0]) (t := 41) ?_; intro gb101 hg w3 hbox hb; have BK101 := Aside0.mk (hbox); have GW101 := Aside0.mk ((qg : w.heap.size ≤ gb101)); have GE101 := Aside0.mk ((qg : w.heap.size ≤ gb101)); replace HB := cB HB hb; clear hb hbox hg; have hcz4_0 : w3.cell? ⟨gb101, 0, none⟩ = some (.int .i64 0) := (blk_cell BK101.out 0).trans rfl; have hcz4_1 : w3.cell? ⟨gb101, 1, none⟩ = some (.int .i64 0) := (blk_cell BK101.out 1).trans rfl; have hfz4_0 := blk_frozen BK101.out 0; have hfz4_1 := blk_frozen BK101.out 1))
 refine bodyPost_ret (results_cell_row rfl _ _ gb101 41 #[.int .i64 a0, .int .i64 a1] (0, 0) _ rfl (by refine qk ?_; refine blk_put (cs := #[.int .i64 a0, .int .i64 0]) ?_ 1 _ rfl; refine qk ?_; refine blk_put (cs := #[.int .i64 0, .int .i64 0]) ?_ 0 _ rfl; refine qk ?_; exact BK101.out) Tryz.underlying41 rfl (by kernel_rfl)) rfl ?_
 exact ⟨qe, qb⟩
end Go.Proofs.YtadocbfchdendaaGreatDoor.P
namespace Go.Proofs.YtadocbfchdendaaGreatDoor.Cu
open Go.RowKit Go.Lib Go.Proofs.YtadocbfchdendaaGreatDoorW.PrintWords Go.Proofs.YtadocbfchdendaaGreatDoor.P
set_option linter.unusedSimpArgs false
set_option linter.unusedVariables false
structure SS (w W : World) (s : ByteArray) (l : List Row) (d1 d2 : Int) : Prop where
 bel : Below w.heap.size w W
 bs : W.heap[w.heap.size]? = some (.cells #[.string s] 9 (0, 0))
 rows : ∃ A c, W.heap[w.heap.size + 1]? = some (.cells #[.slice A l.length c] 23 (0, 0)) ∧ l.length ≤ c ∧ Kd.C k32 w A l.length l
 bd : W.heap[w.heap.size + 2]? = some (.cells #[.int .i64 d1, .int .i64 d2] 41 (0, 0))
 bn : W.heap[w.heap.size + 3]? = some (.cells #[.func (.func 112) #[] #[.pointer (some ⟨w.heap.size + 1, 0, none⟩), .pointer (some ⟨w.heap.size + 2, 0, none⟩), .pointer (some ⟨w.heap.size, 0, none⟩)]] 172 (0, 0))
 sz : w.heap.size + 4 ≤ W.heap.size
theorem SS.step {w W W' : World} {s : ByteArray} {l : List Row} {d1 d2 : Int} (h : SS w W s l d1 d2) (hb : Below (w.heap.size + 4) W W') : SS w W' s l d1 d2 := by
 obtain ⟨A, c, h1, h2, h3⟩ := h.rows
 exact ⟨h.bel.trans (hb.mono (by omega)), (hb.block _ (by omega)).trans h.bs, ⟨A, c, (hb.block _ (by omega)).trans h1, h2, h3⟩, (hb.block _ (by omega)).trans h.bd, (hb.block _ (by omega)).trans h.bn, Nat.le_trans h.sz hb.size⟩
theorem SS.setRows {w W : World} {s : ByteArray} {l l' : List Row} {d1 d2 : Int} (h : SS w W s l d1 d2) {A : Option Addr} {c : Nat} (h2 : l'.length ≤ c) (h3 : Kd.C k32 w A l'.length l') :
  SS w (W.setCell ⟨w.heap.size + 1, 0, none⟩ (.slice A l'.length c)) s l' d1 d2 := by
 obtain ⟨A0, c0, h1, _, _⟩ := h.rows
 exact ⟨h.bel.setCell (by simp) _, (Below.heap_setCell _ _ _ _ (by simp)).trans h.bs, ⟨A, c, blk_put h1 0 _ rfl, h2, h3⟩, (Below.heap_setCell _ _ _ _ (by simp)).trans h.bd, (Below.heap_setCell _ _ _ _ (by simp)).trans h.bn, by simpa [World.setCell] using h.sz⟩
theorem SS.setD {w W : World} {s : ByteArray} {l : List Row} {d1 d2 : Int} (h : SS w W s l d1 d2) (a b : Int) :
  SS w ((W.setCell ⟨w.heap.size + 2, 0, none⟩ (.int .i64 a)).setCell ⟨w.heap.size + 2, 1, none⟩ (.int .i64 b)) s l a b := by
 obtain ⟨A, c, h1, h2, h3⟩ := h.rows
 exact ⟨(h.bel.setCell (by simp) _).setCell (by simp) _, (Below.heap_setCell _ _ _ _ (by simp)).trans ((Below.heap_setCell _ _ _ _ (by simp)).trans h.bs), ⟨A, c, (Below.heap_setCell _ _ _ _ (by simp)).trans ((Below.heap_setCell _ _ _ _ (by simp)).trans h1), h2, h3⟩,
  blk_put (blk_put h.bd 0 _ rfl) 1 _ rfl, (Below.heap_setCell _ _ _ _ (by simp)).trans ((Below.heap_setCell _ _ _ _ (by simp)).trans h.bn), by simpa [World.setCell] using h.sz⟩
def Oth (w W W' : World) : Prop := W.heap.size ≤ W'.heap.size ∧ ∀ k, k < W.heap.size → k ≠ w.heap.size + 1 → k ≠ w.heap.size + 2 → W'.heap[k]? = W.heap[k]?
theorem Oth.trans {w W W1 W2 : World} (h : Oth w W W1) (k : Oth w W1 W2) : Oth w W W2 := ⟨Nat.le_trans h.1 k.1, fun i h0 h1 h2 => (k.2 i (Nat.lt_of_lt_of_le h0 h.1) h1 h2).trans (h.2 i h0 h1 h2)⟩
theorem Oth.below {w W W' : World} (hb : Below W.heap.size W W') : Oth w W W' := ⟨hb.size, fun i h0 _ _ => hb.block i h0⟩
theorem Oth.set {w W W' : World} (h : Oth w W W') {b : Nat} (hk : b = w.heap.size + 1 ∨ b = w.heap.size + 2 ∨ W.heap.size ≤ b) (j : Nat) (u : Value) : Oth w W (W'.setCell ⟨b, j, none⟩ u) :=
 ⟨by simpa [World.setCell] using h.1, fun i h0 h1 h2 => (Below.heap_setCell _ _ _ _ (by show i ≠ b; omega)).trans (h.2 i h0 h1 h2)⟩
theorem Oth.drew {w W W' : World} (h : Oth w W W') : Oth w W W'.drew := h
theorem SS.cells {w W : World} {s : ByteArray} {l : List Row} {d1 d2 : Int} (h : SS w W s l d1 d2) :
  W.cell? ⟨w.heap.size, 0, none⟩ = some (.string s) ∧ W.cell? ⟨w.heap.size + 2, 0, none⟩ = some (.int .i64 d1) ∧ W.cell? ⟨w.heap.size + 2, 1, none⟩ = some (.int .i64 d2) ∧ W.frozen? ⟨w.heap.size + 2, 0, none⟩ = false ∧ W.frozen? ⟨w.heap.size + 2, 1, none⟩ = false :=
 ⟨(bc1 h.bs).1, (bc2 h.bd).1, (bc2 h.bd).2.1, (bc2 h.bd).2.2.1, (bc2 h.bd).2.2.2⟩
set_option maxRecDepth 100000 in
set_option maxHeartbeats 4000000 in
theorem next_some {w W : World} {s : ByteArray} {x : Row} {l : List Row} {d1 d2 : Int} (h : SS w W s (x :: l) d1 d2) :
  Calls Tryz.prog 112 #[.pointer (some ⟨w.heap.size + 1, 0, none⟩), .pointer (some ⟨w.heap.size + 2, 0, none⟩), .pointer (some ⟨w.heap.size, 0, none⟩)] W fun e W' =>
   (∃ A1 c1, e = .returned (.agg #[.int .i64 x.f0, .slice A1 x.f1.length c1]) ∧ x.f1.length ≤ c1 ∧ Kd.C k105 w A1 x.f1.length x.f1) ∧ Hid (SS w W' s l d1 d2) ∧ Hid (Oth w W W') := by
 obtain ⟨A, c, h1, h2, h3⟩ := h.rows
 have hlen := C_len h3
 obtain ⟨ad, A1, c1, e1, hx0, hx1, hl1, hC1⟩ := at_T32 h3 0 (by decide) (by simp)
 obtain rfl := e1
 have e0 : ad.add (Int.toNat 0 * 2) = ad := by simp [Addr.add]
 rw [e0] at hx0 hx1
 have hx0' := pw_cell_below h.bel hx0
 have hx1' := pw_cell_below h.bel hx1
 clear e0
 have HS := Lib.hid h
 have HC1 := Lib.hid hC1
 have H3 := Lib.hid h3
 clear h hx0 hx1 hC1 h3
 have hz : (((x :: l).length : Int) == 0) = false := by rw [beq_eq_false_iff_ne]; simp; omega
 go_enter Tryz.func112, Tryz.ntmps112
 go_wp2_with ((with_reducible refine gate_dst (N := 3) rfl ?_); refine box_ev (N := 3) (cs := #[.int .i64 0, .slice none 0 0]) (t := 32) ?_; intro g hg W1 hbox hb; have HS1 := Lib.hid (HS.out.step (hb.mono HS.out.sz)); have cr := (bc1 (blk_below h1 hb)).1; have fr := (bc1 (blk_below h1 hb)).2; replace hx0' := pw_cell_below hb hx0'; replace hx1' := pw_cell_below hb hx1'; obtain ⟨hc0, hc1, hf0, hf1⟩ := bc2 hbox; have hg1 : w.heap.size + 1 ≠ g := (by have := HS.out.sz; omega); have hg4 : w.heap.size + 4 ≤ g := (by have := HS.out.sz; omega); have hgo : W.heap.size ≤ g := (by omega); have HO := Lib.hid (Oth.below (w := w) hb); have HBX := Lib.hid hbox; clear h1 hbox hg)
 go_region
 have hCd := Kd.C_drop (m := 1) (c := c) H3.out (by simp) h2
 have hA : (if c = 1 then some ad else (some ad).map (·.add (1 * (k32).sz))) = (if c = 1 then some ad else some ⟨ad.block, ad.off + 2, none⟩) := by
  congr 1
 rw [hA] at hCd
 clear hA
 obtain ⟨A2, hA2⟩ : ∃ A2, (if c = 1 then some ad else some (⟨ad.block, ad.off + 2, none⟩ : Addr)) = A2 := ⟨_, rfl⟩
 rw [hA2] at hCd ⊢
 obtain ⟨W2, hW2⟩ : ∃ W2, (((W1.setCell ⟨g, 0, none⟩ (.int .i64 (rd_T32 (x :: l) 0).f0)).setCell ⟨g, 1, none⟩ (.slice A1 (rd_T32 (x :: l) 0).f1.length c1)).setCell ⟨w.heap.size + 1, 0, none⟩ (.slice A2 l.length (c - 1))).drew = W2 := ⟨_, rfl⟩
 rw [hW2]
 have HS2 : Hid (SS w W2 s l d1 d2) := by
  rw [← hW2]
  exact ((HS1.out.step (((Below.refl _ _).setCell (p := ⟨g, 0, none⟩) hg4 _).setCell (p := ⟨g, 1, none⟩) hg4 _)).setRows (l' := l) (c := c - 1) (by have h2' : l.length + 1 ≤ c := h2; omega) hCd).step (below_drew1 (Below.refl _ _))
 have HO2 : Hid (Oth w W W2) := by
  rw [← hW2]
  exact ((((HO.out.set (b := g) (.inr (.inr hgo)) 0 _).set (b := g) (.inr (.inr hgo)) 1 _).set (.inl rfl) 0 _).drew)
 have hbk : W2.heap[g]? = some (.cells #[.int .i64 x.f0, .slice A1 x.f1.length c1] 32 (0, 0)) := by
  rw [← hW2]
  exact (Below.heap_setCell _ _ _ _ (Ne.symm hg1)).trans (blk_put (blk_put HBX.out 0 _ rfl) 1 _ rfl)
 clear hW2 hA2 hCd cr fr hx0' hx1' hc0 hc1 hf0 hf1 HBX HS1
 obtain ⟨hc0, hc1, hf0, hf1⟩ := bc2 hbk
 go_wp2
 refine bodyPost_ret (results_cell_row rfl _ _ g 32 #[.int .i64 x.f0, .slice A1 x.f1.length c1] (0, 0) _ rfl (blk_put (blk_put hbk 0 _ rfl) 1 _ rfl) Tryz.underlying32 rfl (by kernel_rfl)) rfl ⟨⟨A1, c1, rfl, hl1, HC1.out⟩, ?_, (HO2.out.set (b := g) (.inr (.inr hgo)) 0 _).set (b := g) (.inr (.inr hgo)) 1 _⟩
 exact HS2.out.step (((Below.refl _ _).setCell (p := ⟨g, 0, none⟩) hg4 _).setCell (p := ⟨g, 1, none⟩) hg4 _)
def noRow (s : ByteArray) (d1 d2 : Int) : Int × Int := if d2 = 0 then ((s.size : Int), 4) else (d1, d2)
theorem wrong_calls (a b : Int) (W : World) : Calls Tryz.prog 70 #[.int .i64 a, .int .i64 b] W fun e W' => e = .returned (.agg #[.int .i64 a, .int .i64 b]) ∧ Below W.heap.size W W' := tour_wrong.calls a b a b W rfl
set_option maxRecDepth 100000 in
set_option maxHeartbeats 4000000 in
theorem next_none {w W : World} {s : ByteArray} {d1 d2 : Int} (h : SS w W s [] d1 d2) :
  Calls Tryz.prog 112 #[.pointer (some ⟨w.heap.size + 1, 0, none⟩), .pointer (some ⟨w.heap.size + 2, 0, none⟩), .pointer (some ⟨w.heap.size, 0, none⟩)] W fun e W' =>
   e = .returned (.agg #[.int .i64 0, .slice none 0 0]) ∧ Hid (SS w W' s [] (noRow s d1 d2).1 (noRow s d1 d2).2) ∧ Hid (Oth w W W') := by
 obtain ⟨A, c, h1, h2, h3⟩ := h.rows
 have HS := Lib.hid h
 clear h h3
 by_cases hd : d2 = 0
 ·have hz : (d2 == 0) = true := by rw [hd]; rfl
  have HN : Hid (noRow s d1 d2 = ((s.size : Int), 4)) := Lib.hid (by unfold noRow; rw [if_pos hd])
  clear hd
  go_enter Tryz.func112, Tryz.ntmps112
  go_wp2_with (first
   | ((with_reducible refine gate_dst (N := 3) rfl ?_); refine box_ev (N := 3) (cs := #[.int .i64 0, .slice none 0 0]) (t := 32) ?_; intro g hg W1 hbox hb; have HS1 := Lib.hid (HS.out.step (hb.mono HS.out.sz)); have cr := (bc1 (blk_below h1 hb)).1; obtain ⟨e1, e2, e3, e4, e5⟩ := HS1.out.cells; have hg4 : w.heap.size + 4 ≤ g := (by have := HS.out.sz; omega); have hgo : W.heap.size ≤ g := (by omega); have HO := Lib.hid (Oth.below (w := w) hb); have HBX := Lib.hid hbox; clear h1 hbox hg hb HS)
   | (go_at_call 70; refine (wrong_calls _ _ _).mono ?_; rintro e W2 ⟨rfl, hb2⟩; have HS2 := Lib.hid (HS1.out.step (hb2.mono HS1.out.sz)); have HO2 := Lib.hid (HO.out.trans (Oth.below hb2)); have HB2 := Lib.hid (blk_below HBX.out hb2); obtain ⟨_, _, _, f4, f5⟩ := HS2.out.cells; obtain ⟨k0, k1, k2, k3⟩ := bc2 HB2.out; have hg2 : w.heap.size + 2 ≠ g := (by omega); clear HS1 HBX hb2 cr e1 e2 e3 e4 e5))
  refine bodyPost_ret (results_cell_row rfl _ _ g 32 #[.int .i64 0, .slice none 0 0] (0, 0) _ rfl (blk_put (blk_put ((Below.heap_setCell _ _ _ _ (Ne.symm hg2)).trans ((Below.heap_setCell _ _ _ _ (Ne.symm hg2)).trans HB2.out)) 0 _ rfl) 1 _ rfl) Tryz.underlying32 rfl (by kernel_rfl)) rfl ⟨rfl, ?_, (((HO2.out.set (.inr (.inl rfl)) 0 _).set (.inr (.inl rfl)) 1 _).set (b := g) (.inr (.inr hgo)) 0 _).set (b := g) (.inr (.inr hgo)) 1 _⟩
  rw [HN.out]
  exact (HS2.out.setD _ _).step (((Below.refl _ _).setCell (p := ⟨g, 0, none⟩) hg4 _).setCell (p := ⟨g, 1, none⟩) hg4 _)
 ·have hz : (d2 == 0) = false := by rw [beq_eq_false_iff_ne]; exact hd
  have HN : Hid (noRow s d1 d2 = (d1, d2)) := Lib.hid (by unfold noRow; rw [if_neg hd])
  clear hd
  go_enter Tryz.func112, Tryz.ntmps112
  go_wp2_with (first
   | ((with_reducible refine gate_dst (N := 3) rfl ?_); refine box_ev (N := 3) (cs := #[.int .i64 0, .slice none 0 0]) (t := 32) ?_; intro g hg W1 hbox hb; have HS1 := Lib.hid (HS.out.step (hb.mono HS.out.sz)); have cr := (bc1 (blk_below h1 hb)).1; obtain ⟨e1, e2, e3, e4, e5⟩ := HS1.out.cells; have hg4 : w.heap.size + 4 ≤ g := (by have := HS.out.sz; omega); have hgo : W.heap.size ≤ g := (by omega); have HO := Lib.hid (Oth.below (w := w) hb); have HBX := Lib.hid hbox; obtain ⟨k0, k1, k2, k3⟩ := bc2 hbox; clear h1 hbox hg hb HS))
  refine bodyPost_ret (results_cell_row rfl _ _ g 32 #[.int .i64 0, .slice none 0 0] (0, 0) _ rfl (blk_put (blk_put HBX.out 0 _ rfl) 1 _ rfl) Tryz.underlying32 rfl (by kernel_rfl)) rfl ⟨rfl, ?_, (HO.out.set (b := g) (.inr (.inr hgo)) 0 _).set (b := g) (.inr (.inr hgo)) 1 _⟩
  rw [HN.out]
  exact HS1.out.step (((Below.refl _ _).setCell (p := ⟨g, 0, none⟩) hg4 _).setCell (p := ⟨g, 1, none⟩) hg4 _)
def tlD (x : Row) (b : Bool) (d1 d2 : Int) : Int × Int := if d2 = 0 then (if x.f1.length = 1 ∧ b = true then (d1, d2) else (x.f0, 3)) else (d1, d2)
set_option maxRecDepth 100000 in
set_option maxHeartbeats 4000000 in
theorem title_some {w W : World} {s : ByteArray} {x : Row} {l : List Row} {d1 d2 : Int} (h : SS w W s (x :: l) d1 d2) (t : ByteArray) (k : Nat) (b : Bool) (hT : sheet_Title.f k s x.f0 x.f1 t = some b) :
  Calls Tryz.prog 113 #[.string t, .pointer (some ⟨w.heap.size + 3, 0, none⟩), .pointer (some ⟨w.heap.size + 2, 0, none⟩), .pointer (some ⟨w.heap.size, 0, none⟩)] W fun e W' =>
   (∃ v, e = .returned v) ∧ Hid (SS w W' s l (tlD x b d1 d2).1 (tlD x b d1 d2).2) ∧ Hid (Oth w W W') := by
 have c3 := (bc1 h.bn).1
 have HS := Lib.hid h
 have HT := Lib.hid hT
 clear h hT
 by_cases hd : d2 = 0
 ·have hz : (d2 == 0) = true := by rw [hd]; rfl
  by_cases hl : x.f1.length = 1
  ·have hl1 : ((x.f1.length : Int) != 1) = false := by rw [hl]; rfl
   have HN : Hid (tlD x b d1 d2 = if b = true then (d1, d2) else (x.f0, 3)) := Lib.hid (by unfold tlD; rw [if_pos hd]; cases b <;> simp [hl])
   clear hd hl
   cases b
   all_goals
    go_enter Tryz.func113, Tryz.ntmps113
    go_wp2_with (first
     | (go_at_call 112; refine (next_some HS.out).mono ?_; rintro e W1 ⟨⟨A1, c1, rfl, hc1, hC1⟩, HS1, HO1⟩; have HC1 := Lib.hid hC1; obtain ⟨e1, e2, e3, e4, e5⟩ := HS1.out.cells; clear c3 HS hC1)
     | ((with_reducible refine gate_dst (N := 5) rfl ?_); refine box_ev (N := 5) (cs := #[.int .i64 0, .slice none 0 0]) (t := 32) ?_; intro g hg W2 hbox hb; have HS2 := Lib.hid (HS1.out.step (hb.mono HS1.out.sz)); have hgo : W.heap.size ≤ g := (by have := HO1.out.1; omega); have HO2 := Lib.hid (HO1.out.trans (Oth.below hb)); have hg4 : w.heap.size + 4 ≤ g := (by have := HS1.out.sz; omega); obtain ⟨k0, k1, k2, k3⟩ := bc2 hbox; have HBX := Lib.hid hbox; clear hbox hg hb HS1 e1 e2 e3 e4 e5; obtain ⟨e1, e2, e3, e4, e5⟩ := HS2.out.cells)
     | (go_at_call 19; have HO3 := Lib.hid ((HO2.out.set (b := g) (.inr (.inr hgo)) 0 (.int .i64 x.f0)).set (b := g) (.inr (.inr hgo)) 1 (.slice A1 x.f1.length c1)); have HS3 := Lib.hid (HS2.out.step (((Below.refl (w.heap.size + 4) W2).setCell (p := ⟨g, 0, none⟩) hg4 (.int .i64 x.f0)).setCell (p := ⟨g, 1, none⟩) hg4 (.slice A1 x.f1.length c1))); have HB3 := Lib.hid (blk_put (blk_put HBX.out 0 (.int .i64 x.f0) rfl) 1 (.slice A1 x.f1.length c1) rfl); clear HS2 HBX e1 e2 e3 e4 e5 k0 k1 k2 k3; refine (sheet_Title.calls k s x.f0 A1 c1 x.f1 t _ _ ?hr hc1 HT.out).mono ?_; (case hr => exact Kd.C_below HC1.out HS3.out.bel); rintro e W4 ⟨rfl, hb4⟩; have HS4 := Lib.hid (HS3.out.step (hb4.mono HS3.out.sz)); have HO4 := Lib.hid (HO3.out.trans (Oth.below hb4)); have HB4 := Lib.hid (blk_below HB3.out hb4); clear HS3 HB3 hb4; obtain ⟨e1, e2, e3, e4, e5⟩ := HS4.out.cells; obtain ⟨k0, k1, k2, k3⟩ := bc2 HB4.out)
     | (go_at_call 70; refine (wrong_calls _ _ _).mono ?_; rintro e W5 ⟨rfl, hb5⟩; have HS5 := Lib.hid (HS4.out.step (hb5.mono HS4.out.sz)); have HO5 := Lib.hid (HO4.out.trans (Oth.below hb5)); clear HS4 hb5 e1 e2 e3 e4 e5 k0 k1 k2 k3; obtain ⟨e1, e2, e3, e4, e5⟩ := HS5.out.cells))
   ·refine bodyPost_end (results_none rfl _ _ _) rfl ⟨⟨_, rfl⟩, ?_, (HO5.out.set (.inr (.inl rfl)) 0 _).set (.inr (.inl rfl)) 1 _⟩
    rw [HN.out]
    exact HS5.out.setD _ _
   ·refine bodyPost_end (results_none rfl _ _ _) rfl ⟨⟨_, rfl⟩, ?_, HO4.out⟩
    rw [HN.out]
    exact HS4.out
  ·have hl1 : ((x.f1.length : Int) != 1) = true := by rw [bne_iff_ne]; omega
   have HN : Hid (tlD x b d1 d2 = (x.f0, 3)) := Lib.hid (by unfold tlD; rw [if_pos hd, if_neg (fun h => hl h.1)])
   clear hd hl
   go_enter Tryz.func113, Tryz.ntmps113
   go_wp2_with (first
    | (go_at_call 112; refine (next_some HS.out).mono ?_; rintro e W1 ⟨⟨A1, c1, rfl, hc1, hC1⟩, HS1, HO1⟩; have HC1 := Lib.hid hC1; obtain ⟨e1, e2, e3, e4, e5⟩ := HS1.out.cells; clear c3 HS hC1)
    | ((with_reducible refine gate_dst (N := 5) rfl ?_); refine box_ev (N := 5) (cs := #[.int .i64 0, .slice none 0 0]) (t := 32) ?_; intro g hg W2 hbox hb; have HS2 := Lib.hid (HS1.out.step (hb.mono HS1.out.sz)); have hgo : W.heap.size ≤ g := (by have := HO1.out.1; omega); have HO2 := Lib.hid (HO1.out.trans (Oth.below hb)); have hg4 : w.heap.size + 4 ≤ g := (by have := HS1.out.sz; omega); obtain ⟨k0, k1, k2, k3⟩ := bc2 hbox; have HBX := Lib.hid hbox; clear hbox hg hb HS1 e1 e2 e3 e4 e5; obtain ⟨e1, e2, e3, e4, e5⟩ := HS2.out.cells)
    | (go_at_call 70; have HO3 := Lib.hid ((HO2.out.set (b := g) (.inr (.inr hgo)) 0 (.int .i64 x.f0)).set (b := g) (.inr (.inr hgo)) 1 (.slice A1 x.f1.length c1)); have HS3 := Lib.hid (HS2.out.step (((Below.refl (w.heap.size + 4) W2).setCell (p := ⟨g, 0, none⟩) hg4 (.int .i64 x.f0)).setCell (p := ⟨g, 1, none⟩) hg4 (.slice A1 x.f1.length c1))); have HB3 := Lib.hid (blk_put (blk_put HBX.out 0 (.int .i64 x.f0) rfl) 1 (.slice A1 x.f1.length c1) rfl); clear HS2 HBX e1 e2 e3 e4 e5 k0 k1 k2 k3; refine (wrong_calls _ _ _).mono ?_; rintro e W5 ⟨rfl, hb5⟩; have HS5 := Lib.hid (HS3.out.step (hb5.mono HS3.out.sz)); have HO5 := Lib.hid (HO3.out.trans (Oth.below hb5)); clear HS3 HB3 hb5; obtain ⟨e1, e2, e3, e4, e5⟩ := HS5.out.cells))
   refine bodyPost_end (results_none rfl _ _ _) rfl ⟨⟨_, rfl⟩, ?_, (HO5.out.set (.inr (.inl rfl)) 0 _).set (.inr (.inl rfl)) 1 _⟩
   rw [HN.out]
   exact HS5.out.setD _ _
 ·have hz : (d2 == 0) = false := by rw [beq_eq_false_iff_ne]; exact hd
  have HN : Hid (tlD x b d1 d2 = (d1, d2)) := Lib.hid (by unfold tlD; rw [if_neg hd])
  clear hd
  go_enter Tryz.func113, Tryz.ntmps113
  go_wp2_with (first
   | (go_at_call 112; refine (next_some HS.out).mono ?_; rintro e W1 ⟨⟨A1, c1, rfl, hc1, hC1⟩, HS1, HO1⟩; have HC1 := Lib.hid hC1; obtain ⟨e1, e2, e3, e4, e5⟩ := HS1.out.cells; clear c3 HS hC1)
   | ((with_reducible refine gate_dst (N := 5) rfl ?_); refine box_ev (N := 5) (cs := #[.int .i64 0, .slice none 0 0]) (t := 32) ?_; intro g hg W2 hbox hb; have HS2 := Lib.hid (HS1.out.step (hb.mono HS1.out.sz)); have hgo : W.heap.size ≤ g := (by have := HO1.out.1; omega); have HO2 := Lib.hid (HO1.out.trans (Oth.below hb)); have hg4 : w.heap.size + 4 ≤ g := (by have := HS1.out.sz; omega); obtain ⟨k0, k1, k2, k3⟩ := bc2 hbox; have HBX := Lib.hid hbox; clear hbox hg hb HS1 e1 e2 e3 e4 e5; obtain ⟨e1, e2, e3, e4, e5⟩ := HS2.out.cells))
  refine bodyPost_end (results_none rfl _ _ _) rfl ⟨⟨_, rfl⟩, ?_, (HO2.out.set (b := g) (.inr (.inr hgo)) 0 _).set (b := g) (.inr (.inr hgo)) 1 _⟩
  rw [HN.out]
  exact HS2.out.step (((Below.refl (w.heap.size + 4) W2).setCell (p := ⟨g, 0, none⟩) hg4 (.int .i64 x.f0)).setCell (p := ⟨g, 1, none⟩) hg4 (.slice A1 x.f1.length c1))
theorem noRow_ne (s : ByteArray) (d1 d2 : Int) : ((noRow s d1 d2).2 == 0) = false := by
 unfold noRow
 rw [beq_eq_false_iff_ne]
 split
 ·show (4 : Int) ≠ 0; decide
 ·assumption
set_option maxRecDepth 100000 in
set_option maxHeartbeats 4000000 in
theorem title_none {w W : World} {s : ByteArray} {d1 d2 : Int} (h : SS w W s [] d1 d2) (t : ByteArray) :
  Calls Tryz.prog 113 #[.string t, .pointer (some ⟨w.heap.size + 3, 0, none⟩), .pointer (some ⟨w.heap.size + 2, 0, none⟩), .pointer (some ⟨w.heap.size, 0, none⟩)] W fun e W' =>
   (∃ v, e = .returned v) ∧ Hid (SS w W' s [] (noRow s d1 d2).1 (noRow s d1 d2).2) ∧ Hid (Oth w W W') := by
 have c3 := (bc1 h.bn).1
 have HS := Lib.hid h
 have hz := noRow_ne s d1 d2
 clear h
 go_enter Tryz.func113, Tryz.ntmps113
 go_wp2_with (first
  | (go_at_call 112; refine (next_none HS.out).mono ?_; rintro e W1 ⟨rfl, HS1, HO1⟩; obtain ⟨e1, e2, e3, e4, e5⟩ := HS1.out.cells; clear c3 HS)
  | ((with_reducible refine gate_dst (N := 5) rfl ?_); refine box_ev (N := 5) (cs := #[.int .i64 0, .slice none 0 0]) (t := 32) ?_; intro g hg W2 hbox hb; have HS2 := Lib.hid (HS1.out.step (hb.mono HS1.out.sz)); have hgo : W.heap.size ≤ g := (by have := HO1.out.1; omega); have HO2 := Lib.hid (HO1.out.trans (Oth.below hb)); have hg4 : w.heap.size + 4 ≤ g := (by have := HS1.out.sz; omega); obtain ⟨k0, k1, k2, k3⟩ := bc2 hbox; clear hbox hg hb HS1 e1 e2 e3 e4 e5; obtain ⟨e1, e2, e3, e4, e5⟩ := HS2.out.cells))
 refine bodyPost_end (results_none rfl _ _ _) rfl ⟨⟨_, rfl⟩, ?_, (HO2.out.set (b := g) (.inr (.inr hgo)) 0 _).set (b := g) (.inr (.inr hgo)) 1 _⟩
 exact HS2.out.step (((Below.refl (w.heap.size + 4) W2).setCell (p := ⟨g, 0, none⟩) hg4 (.int .i64 0)).setCell (p := ⟨g, 1, none⟩) hg4 (.slice none 0 0))
def tlS (s t : ByteArray) (l : List Row) (d : Int × Int) : List Row × Int × Int :=
 match l with
 | [] => ([], noRow s d.1 d.2)
 | x :: l => (l, tlD x (joinW s x.f1 == t.toList) d.1 d.2)
theorem title_calls {w W : World} {s : ByteArray} {l : List Row} {d1 d2 : Int} (h : SS w W s l d1 d2) (hs : s.size ≤ 100000) (hl : ∀ x ∈ l, x.f1.length ≤ 100000) (t : ByteArray) :
  Calls Tryz.prog 113 #[.string t, .pointer (some ⟨w.heap.size + 3, 0, none⟩), .pointer (some ⟨w.heap.size + 2, 0, none⟩), .pointer (some ⟨w.heap.size, 0, none⟩)] W fun e W' =>
   (∃ v, e = .returned v) ∧ Hid (SS w W' s (tlS s t l (d1, d2)).1 (tlS s t l (d1, d2)).2.1 (tlS s t l (d1, d2)).2.2) ∧ Hid (Oth w W W') := by
 cases l with
 | nil => exact title_none h t
 | cons x l => exact title_some h t 100001 _ (Title_eq s hs x.f0 x.f1 (hl x List.mem_cons_self) t 100001 (by have := hl x List.mem_cons_self; omega))
end Go.Proofs.YtadocbfchdendaaGreatDoor.Cu
namespace Go.Proofs.YtadocbfchdendaaGreatDoor.Sp
theorem pow_pos' (n : Nat) : (0 : Int) < 10 ^ n := Int.pow_pos (by decide)
theorem pow_cast (n : Nat) : ((10 ^ n : Nat) : Int) = (10 : Int) ^ n := by simp
theorem pow_le' {a b : Nat} (h : a ≤ b) : (10 : Int) ^ a ≤ 10 ^ b := by
  rw [← pow_cast, ← pow_cast]
  exact Int.ofNat_le.2 (Nat.pow_le_pow_right (by omega) h)
end Go.Proofs.YtadocbfchdendaaGreatDoor.Sp
namespace Go.Proofs.YtadocbfchdendaaGreatDoor.P
open Go.RowKit Go.Proofs.YtadocbfchdendaaGreatDoor.Sp Go.Proofs.YtadocbfchdendaaGreatDoorW.PrintWords Go.Proofs.YtadocbfchdendaaGreatDoorW.PrintLast Go.Proofs.YtadocbfchdendaaGreatDoorW.PrintMore
set_option linter.unusedSimpArgs false
structure NumOk (m : Int) (s : Nat) : Prop where
  lo : -1000000000000 ≤ m
  hi : m ≤ 1000000000000
  sc : s ≤ 6
theorem mul_bd {m p : Int} {b c : Int} (h1 : -b ≤ m) (h2 : m ≤ b) (hp : 0 < p) (hc : p ≤ c) (hb : 0 ≤ b) : -(b * c) ≤ m * p ∧ m * p ≤ b * c := by
  have e1 : m * p ≤ b * p := Int.mul_le_mul_of_nonneg_right h2 (Int.le_of_lt hp)
  have e2 : -b * p ≤ m * p := Int.mul_le_mul_of_nonneg_right h1 (Int.le_of_lt hp)
  have e3 : b * p ≤ b * c := Int.mul_le_mul_of_nonneg_left hc hb
  have e4 : -b * p = -(b * p) := Int.neg_mul ..
  omega
theorem NumOk.bd {m : Int} {s : Nat} (h : NumOk m s) (k : Nat) (hk : k ≤ 6) : -1000000000000000000 ≤ m * 10 ^ k ∧ m * 10 ^ k ≤ 1000000000000000000 := by
  have hp := pow_pos' k
  have hc : (10 : Int) ^ k ≤ 10 ^ 6 := pow_le' hk
  have := mul_bd (b := 1000000000000) (c := 1000000) h.lo h.hi hp (by simpa using hc) (by decide)
  omega
end Go.Proofs.YtadocbfchdendaaGreatDoor.P
namespace Go.Proofs.YtadocbfchdendaaGreatDoor.P
open Go.RowKit Go.Proofs.YtadocbfchdendaaGreatDoorW.PrintWords Go.Proofs.YtadocbfchdendaaGreatDoorW.PrintLast Go.Proofs.YtadocbfchdendaaGreatDoorW.PrintMore
attribute [local go_sem] max2_int min2_int max_two min_two max_three min_three max_four min_four
set_option linter.unusedVariables false
set_option linter.unusedSimpArgs false
end Go.Proofs.YtadocbfchdendaaGreatDoor.P
namespace Go.Proofs.YtadocbfchdendaaGreatDoor.P
open Go.RowKit Go.Proofs.YtadocbfchdendaaGreatDoor.Sp Go.Proofs.YtadocbfchdendaaGreatDoorW.PrintWords Go.Proofs.YtadocbfchdendaaGreatDoorW.PrintLast Go.Proofs.YtadocbfchdendaaGreatDoorW.PrintMore
set_option linter.unusedSimpArgs false
end Go.Proofs.YtadocbfchdendaaGreatDoor.P
