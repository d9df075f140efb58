/- Part 1 of the proof of FixedReads: contracts of functions, and the words that they use. -/
import Derived.Test.YtldllfadidepaaaDoorProg
import Derived.Below
import Derived.Deep.Draws
import Derived.Deep.AppendLies
import Derived.Maps.AppendAt
import Derived.OwnWalk
import Derived.Laws.BytesArg
import Derived.Laws.MakeOwn
import Derived.Laws.OwnMore
import Derived.Deep.OwnRows
import Derived.Tactics
import Derived.Lib.ConvBytes
import Derived.Laws.Slices
import Derived.WalkKit
import Derived.KernelRfl
import Derived.RowKit3
import Derived.Deep.LoopGhost
import Derived.Deep.QuietTactic
import Derived.BigQuiet
import Derived.WideLaws
import Derived.Deep.DeepCutAuto
import Derived.Deep.CutBlock
import Derived.Deep.RegionHeld3
import Derived.Laws.Rows
import Derived.Lib.AppendStr
import Derived.ArgAppend
import Derived.Laws.IdiomCopy
import Derived.OrdersHeld
import Derived.Laws.BitsLemmas
import Derived.RowKit
import Derived.Test.YtldllfadidepaaaDoorWWords
import Derived.Test.YtldllfadidepaaaDoorWLast
import Derived.Test.YtldllfadidepaaaDoorWTab
import Derived.Test.YtldllfadidepaaaDoorWFour
import Derived.Test.YtldllfadidepaaaDoorWQPut
import Derived.Test.YtldllfadidepaaaDoorWApart
import Derived.Test.YtldllfadidepaaaDoorWArr
import Derived.Test.YtldllfadidepaaaDoorWZeros
import Derived.Test.YtldllfadidepaaaDoorWFoot
import Derived.Test.YtldllfadidepaaaDoorWKept
import Derived.Test.YtldllfadidepaaaDoorWShare
import Derived.Test.YtldllfadidepaaaDoorWN
import Derived.Test.YtldllfadidepaaaDoorWFootNe
import Derived.Test.YtldllfadidepaaaDoorWAt
import Derived.Test.YtldllfadidepaaaDoorWEqStruct
import Derived.Test.YtldllfadidepaaaDoorWRepsOne
import Derived.Test.YtldllfadidepaaaDoorWInv
import Derived.Test.YtldllfadidepaaaDoorWInvWords
import Derived.Test.YtldllfadidepaaaDoorWGuard
import Derived.Test.YtldllfadidepaaaDoorWNEv
import Derived.Test.YtldllfadidepaaaDoorWMore
import Derived.Tactics2
import Derived.Defers
import Derived.Recover
import Derived.WalkLawsBesides
import Derived.WalkSpells
import Derived.Outline
import Derived.Lib.Hide
import Derived.Lib.Strings
import Derived.Lib.Atoi
import Derived.Lib.ItoaNum
import Derived.Lib.OthersKept
import Derived.Laws.RangeAny
import Derived.Shelf.Strings.Builder1
import Derived.Shelf.Strings.Builder2
import Derived.Shelf.Small.Wraps
import Derived.Shelf.Strings.BuilderF
import Derived.Shelf.Strings.BuilderK
import Derived.Shelf.Strconv.Atoi
import Derived.Shelf.Strconv.Itoa0
import Derived.Shelf.Strconv.Itoa1
import Derived.Shelf.LaysM
import Derived.Shelf.Strconv.Itoa2
import Derived.Shelf.Strconv.Itoa3
import Derived.Shelf.Strconv.AtoiErrFast
import Derived.Shelf.Strconv.ParseIntEmpty
import Derived.Shelf.Strconv.AtoiFail
import Derived.Shelf.Strconv.Clone
import Derived.Shelf.Strconv.SyntaxError
import Derived.Shelf.LaysC
import Derived.Shelf.Strconv.ToError
import Derived.Shelf.Strconv.Lower
import Derived.Shelf.Strconv.ParseUint10
import Derived.Shelf.Strconv.ParseUint10Empty
import Derived.Shelf.Strconv.ParseUint10Any
import Derived.Shelf.Strconv.ParseInt10
import Derived.Shelf.Strconv.AtoiLong
import Derived.Shelf.Strconv.AtoiInnerAll
import Derived.Shelf.Strconv.RangeError
import Derived.Shelf.Strconv.ToErrorRange
import Derived.Shelf.Strconv.AtoiAll
import Derived.Shelf.Strconv.ErrVarAll
import Derived.Shelf.Strings.Prefix
import Derived.Shelf.Bits.Mul64
import Derived.Shelf.Strings.Repeat
import Derived.WalkSmall
import Derived.Lib.AtoiErrMem
import Derived.Lib.AppendIntMem
namespace Go.Proofs.YtldllfadidepaaaDoor.P
open Go.RowKit Go.Proofs.YtldllfadidepaaaDoorW.PrintWords Go.Proofs.YtldllfadidepaaaDoorW.PrintLast Go.Proofs.YtldllfadidepaaaDoorW.PrintMore
attribute [local go_sem] max2_int min2_int max_two min_two max_three min_three max_four min_four   -- for this text's walks alone
set_option linter.unusedVariables false
set_option linter.unusedSimpArgs false

def errW : Option Int → Value
  | none => .nilIface
  | some c => .iface 0 (.int .i64 c)
theorem errW_none : errW none = .nilIface := rfl
theorem errW_some (c : Int) : errW (some c) = .iface 0 (.int .i64 c) := rfl

theorem info5 : (Tryd.prog.info? 5).map (fun i => (i.zero, i.size, i.bytes)) = some (some (.int .u8 0), 1, 1) := by kernel_rfl
-- the values' own types
/-! #### struct type 27 -/
structure S27 where
  f0 : Int
  f1 : Int
def z27 : S27 := ⟨(0 : Int), (0 : Int)⟩
def k27 : Kd S27 := Kd.iso (Kd.pair (Kd.int .i64) (Kd.int .i64)) (fun x : S27 => (x.f0, x.f1))
theorem k27_open {w : World} {x : S27} {cs : List Value} (h : k27.K w x cs) : cs = [.int .i64 x.f0, .int .i64 x.f1] := by
  obtain ⟨_, _, rfl, rfl, rfl⟩ := h
  exact rfl
theorem k27_openM {w : World} {base : Nat} {ok : Nat → Prop} {x : S27} {cs : List Value} (h : k27.M w base ok x cs) : cs = [.int .i64 x.f0, .int .i64 x.f1] := by
  obtain ⟨_, _, rfl, rfl, rfl⟩ := h
  exact rfl
theorem k27_mk (w : World) (x : S27)  : k27.K w x [.int .i64 x.f0, .int .i64 x.f1] := ⟨[.int .i64 x.f0], [.int .i64 x.f1], rfl, rfl, rfl⟩
theorem k27_mkM (w : World) (base : Nat) (ok : Nat → Prop) (x : S27)  : k27.M w base ok x [.int .i64 x.f0, .int .i64 x.f1] := ⟨[.int .i64 x.f0], [.int .i64 x.f1], rfl, rfl, rfl⟩
def rd_T27 (xs : List S27) (i : Int) : S27 := xs.getD i.toNat z27
theorem at_T27 {w : World} {A : Option Addr} {n : Nat} {xs : List S27} (h : Kd.C k27 w A n xs) (i : Int) (h0 : 0 ≤ i) (h1 : i < n) : ∃ ad , A = some ad ∧ w.cell? (ad.add (i.toNat * 2)) = some (.int .i64 (rd_T27 xs i).f0) ∧ w.cell? ⟨(ad.add (i.toNat * 2)).block, (ad.add (i.toNat * 2)).off + 1, none⟩ = some (.int .i64 (rd_T27 xs i).f1) := by
  obtain ⟨ad, c, e, _, hK, hc0⟩ := Kd.C_get h z27 i h0 h1
  have hc : ∀ j u, c[j]? = some u → w.cell? (ad.add (i.toNat * 2 + j)) = some u := hc0
  obtain rfl := k27_open hK
  exact ⟨ad, e, hc 0 _ rfl, by rw [← add_field _ _ 1 (by omega)]; exact hc 1 _ rfl⟩

end Go.Proofs.YtldllfadidepaaaDoor.P
namespace Go.Proofs.YtldllfadidepaaaDoor.Fx
open Go.RowKit

theorem need_yes (e : Int) (w : World) :
    Calls Tryd.prog 30 #[.bool true, .int .i64 e] w fun en w' => en = .returned (.tuple #[]) ∧ w' = w := by
  go_enter Tryd.func30, Tryd.ntmps30
  go_wp2
  go_end0
  exact ⟨rfl, rfl⟩

theorem need_no (e : Int) (w : World) :
    Calls Tryd.prog 30 #[.bool false, .int .i64 e] w fun en w' => en = .panicked [{ v := .iface 62 (.int .i64 e), recovered := false }] ∧ w' = w := by
  go_enter Tryd.func30, Tryd.ntmps30
  go_wp2
  exact ⟨rfl, rfl, rfl⟩

theorem caught_nil (p : Addr) (w : World) :
    Calls Tryd.prog 25 #[.pointer (some p), .nilIface] w fun en w' => en = .returned (.tuple #[]) ∧ w' = w := by
  go_enter Tryd.func25, Tryd.ntmps25
  go_wp2
  go_end0
  exact ⟨rfl, rfl⟩

theorem caught_fault (p : Addr) (e : Int) (x : Value) (w : World) (hc : w.cell? p = some x) (hz : w.frozen? p = false) :
    Calls Tryd.prog 25 #[.pointer (some p), .iface 62 (.int .i64 e)] w fun en w' => en = .returned (.tuple #[]) ∧ w' = w.setCell p (.int .i64 e) := by
  have hta : ∀ (v : Value) (W : World), (Instr.typeAssert (.iface 62 v) 20 62 true).run Tryd.prog W = .ok (.tuple #[v, .bool true]) W := fun v W => by simp [Instr.typeAssert, run_underlying Tryd.underlying62, go_sem, Result.andThen]
  go_enter Tryd.func25, Tryd.ntmps25
  go_wp2
  go_end0
  exact ⟨rfl, rfl⟩
/-- The deferred closure of Read, behind a fault. -/
theorem readD_fault (p : Addr) (e : Int) (x : Value) (older : List PanicEntry) (w : World) (hc : w.cell? p = some x) (hz : w.frozen? p = false) :
    CallsD Tryd.prog 33 #[.pointer (some p)] (.panicking ({ v := .iface 62 (.int .i64 e), recovered := false } :: older)) w fun en u' w' =>
      en = .returned (.tuple #[]) ∧ u' = .panicking ({ v := .iface 62 (.int .i64 e), recovered := true } :: older) ∧ w' = w.setCell p (.int .i64 e) := by
  refine callsD_of_wpS Tryd.func33 rfl fun c₀ cs hu => ?_
  apply wpS_region
  simp [wpOpsS, go_sem, recoverD, hu, Tryd.ntmps33]
  refine (caught_fault p e x w hc hz).mono ?_
  rintro e w' ⟨rfl, rfl⟩
  simp [bodyPostS, results, Tryd.results33]

theorem readD_idle (p : Addr) (w : World) :
    CallsD Tryd.prog 33 #[.pointer (some p)] .returning w fun en u' w' =>
      en = .returned (.tuple #[]) ∧ u' = .returning ∧ w' = w := by
  refine callsD_of_wpS Tryd.func33 rfl fun c₀ cs hu => ?_
  apply wpS_region
  simp [wpOpsS, go_sem, recoverD, hu, Tryd.ntmps33]
  refine (caught_nil p w).mono ?_
  rintro e w' ⟨rfl, rfl⟩
  cases c₀
  simp_all [bodyPostS, results, Tryd.results33]

theorem intD_fault (p : Addr) (e : Int) (x : Value) (older : List PanicEntry) (w : World) (hc : w.cell? p = some x) (hz : w.frozen? p = false) :
    CallsD Tryd.prog 24 #[.pointer (some p)] (.panicking ({ v := .iface 62 (.int .i64 e), recovered := false } :: older)) w fun en u' w' =>
      en = .returned (.tuple #[]) ∧ u' = .panicking ({ v := .iface 62 (.int .i64 e), recovered := true } :: older) ∧ w' = w.setCell p (.int .i64 e) := by
  refine callsD_of_wpS Tryd.func24 rfl fun c₀ cs hu => ?_
  apply wpS_region
  simp [wpOpsS, go_sem, recoverD, hu, Tryd.ntmps24]
  refine (caught_fault p e x w hc hz).mono ?_
  rintro e w' ⟨rfl, rfl⟩
  simp [bodyPostS, results, Tryd.results24]

theorem intD_idle (p : Addr) (w : World) :
    CallsD Tryd.prog 24 #[.pointer (some p)] .returning w fun en u' w' =>
      en = .returned (.tuple #[]) ∧ u' = .returning ∧ w' = w := by
  refine callsD_of_wpS Tryd.func24 rfl fun c₀ cs hu => ?_
  apply wpS_region
  simp [wpOpsS, go_sem, recoverD, hu, Tryd.ntmps24]
  refine (caught_nil p w).mono ?_
  rintro e w' ⟨rfl, rfl⟩
  cases c₀
  simp_all [bodyPostS, results, Tryd.results24]

theorem end_yes (g : Nat) (w : World) (hc : w.cell? ⟨g, 0, none⟩ = some (.string ⟨#[]⟩)) :
    Calls Tryd.prog 29 #[.pointer (some ⟨g, 0, none⟩)] w fun en w' => en = .returned (.tuple #[]) ∧ w' = w := by
  go_enter Tryd.func29, Tryd.ntmps29
  go_wp2_with (go_at_call 30; refine (need_yes 20 _).mono ?_; rintro e w' ⟨rfl, rfl⟩)
  go_end0
  exact ⟨rfl, rfl⟩

theorem end_no (g : Nat) (s : ByteArray) (w : World) (hc : w.cell? ⟨g, 0, none⟩ = some (.string s)) (hs : s.toList.isEmpty = false) :
    Calls Tryd.prog 29 #[.pointer (some ⟨g, 0, none⟩)] w fun en w' => en = .panicked [{ v := .iface 62 (.int .i64 20), recovered := false }] ∧ w' = w := by
  go_enter Tryd.func29, Tryd.ntmps29
  go_wp2_with (go_at_call 30; refine (need_no 20 _).mono ?_; rintro e w' ⟨rfl, rfl⟩)
  exact ⟨rfl, rfl, rfl⟩
end Go.Proofs.YtldllfadidepaaaDoor.Fx
namespace Go.Proofs.YtldllfadidepaaaDoor.Sp
/-- a digit's byte -/
def dig (c : UInt8) : Bool := decide (48 ≤ c.toNat) && decide (c.toNat ≤ 57)
/-- what digits tell -/
def dv (l : List UInt8) : Nat := l.foldl (fun n c => 10 * n + (c.toNat - 48)) 0
/-- the least form -/
def least (m : Int) : Nat → Int × Int
  | 0 => (m, 0)
  | s + 1 => if m.tmod 10 = 0 then least (m.tdiv 10) s else (m, (s + 1 : Nat))
def sgn (neg : Bool) (d : List UInt8) : Int := if neg = true then -(dv d : Int) else dv d
def fitsB (m : Int) : Bool := decide (-100000000 ≤ m) && decide (m ≤ 100000000)
def finS (neg : Bool) (d : List UInt8) (s : Nat) : Int × Int × Int :=
  if fitsB (least (sgn neg d) s).1 = true then ((least (sgn neg d) s).1, (least (sgn neg d) s).2, 0) else (0, 0, 2)
/-- P2.1's number: M, S, and the error -/
def readS (l : List UInt8) : Int × Int × Int :=
  if (Lib.trimPrefix l [45]).takeWhile dig = [] ∨ 12 < ((Lib.trimPrefix l [45]).takeWhile dig).length then (0, 0, 20)
  else if Lib.hasPrefix ((Lib.trimPrefix l [45]).dropWhile dig) [46] = true then
    if (Lib.trimPrefix ((Lib.trimPrefix l [45]).dropWhile dig) [46]).takeWhile dig = [] ∨ 6 < ((Lib.trimPrefix ((Lib.trimPrefix l [45]).dropWhile dig) [46]).takeWhile dig).length then (0, 0, 20)
    else if (Lib.trimPrefix ((Lib.trimPrefix l [45]).dropWhile dig) [46]).dropWhile dig ≠ [] then (0, 0, 20)
    else finS (Lib.hasPrefix l [45]) ((Lib.trimPrefix l [45]).takeWhile dig ++ (Lib.trimPrefix ((Lib.trimPrefix l [45]).dropWhile dig) [46]).takeWhile dig) ((Lib.trimPrefix ((Lib.trimPrefix l [45]).dropWhile dig) [46]).takeWhile dig).length
  else if (Lib.trimPrefix l [45]).dropWhile dig ≠ [] then (0, 0, 20)
  else finS (Lib.hasPrefix l [45]) ((Lib.trimPrefix l [45]).takeWhile dig) 0
/-- P2.1's whole number, and the error -/
def intS (l : List UInt8) : Int × Int :=
  if (Lib.trimPrefix l [45]).takeWhile dig = [] ∨ 12 < ((Lib.trimPrefix l [45]).takeWhile dig).length then (0, 20)
  else if (Lib.trimPrefix l [45]).dropWhile dig ≠ [] then (0, 20)
  else if fitsB (sgn (Lib.hasPrefix l [45]) ((Lib.trimPrefix l [45]).takeWhile dig)) = true then (sgn (Lib.hasPrefix l [45]) ((Lib.trimPrefix l [45]).takeWhile dig), 0) else (0, 2)

/-- the digits, with noughts ahead where there are too few -/
def padS (m : Int) (s : Nat) : List UInt8 := List.replicate (s + 1 - (Lib.decDigits m.natAbs).length) 48 ++ Lib.decDigits m.natAbs
/-- P2.2's text -/
def printS (m : Int) (s : Nat) : List UInt8 :=
  (if m < 0 then [45] else []) ++ (if 0 < s then (padS m s).take ((padS m s).length - s) ++ 46 :: (padS m s).drop ((padS m s).length - s) else padS m s)

theorem trim_len (l p : List UInt8) : (Lib.trimPrefix l p).length ≤ l.length := by
  unfold Lib.trimPrefix
  split
  · rw [List.length_drop]; omega
  · exact Nat.le_refl _
theorem dig_val {c : UInt8} (h : dig c = true) : 48 ≤ c.toNat ∧ c.toNat ≤ 57 := by
  unfold dig at h
  simpa using h
theorem decFrom_dv (l : List UInt8) (h : ∀ c ∈ l, dig c = true) : ∀ acc, Lib.decFrom acc l = some (l.foldl (fun n c => 10 * n + (c.toNat - 48)) acc) := by
  induction l with
  | nil => intro acc; rfl
  | cons c r ih =>
    intro acc
    have hc := dig_val (h c (by simp))
    unfold Lib.decFrom
    unfold Lib.digitVal
    rw [if_pos hc]
    simp only [List.foldl_cons]
    rw [ih (fun x hx => h x (by simp [hx]))]
    rw [Nat.mul_comm acc 10]
theorem atoi_dv (l : List UInt8) (h0 : l ≠ []) (h : ∀ c ∈ l, dig c = true) : Lib.atoi l = some (dv l : Int) := by
  cases l with
  | nil => exact absurd rfl h0
  | cons c r =>
    have hc := dig_val (h c (by simp))
    have h1 : (c == 45) = false := by
      rw [beq_eq_false_iff_ne]; intro e; subst e; simp at hc
    have h2 : (c == 43) = false := by
      rw [beq_eq_false_iff_ne]; intro e; subst e; simp at hc
    unfold Lib.atoi
    simp only [h1, h2]
    unfold Lib.decNat
    rw [decFrom_dv _ h]
    rfl
theorem foldl_lt (l : List UInt8) (h : ∀ c ∈ l, dig c = true) : ∀ acc, l.foldl (fun n c => 10 * n + (c.toNat - 48)) acc < (acc + 1) * 10 ^ l.length := by
  induction l with
  | nil => intro acc; simp
  | cons c r ih =>
    intro acc
    have hc := dig_val (h c (by simp))
    have := ih (fun x hx => h x (by simp [hx])) (10 * acc + (c.toNat - 48))
    simp only [List.foldl_cons, List.length_cons]
    refine Nat.lt_of_lt_of_le this ?_
    rw [Nat.pow_succ, Nat.mul_comm (10 ^ r.length) 10, ← Nat.mul_assoc]
    exact Nat.mul_le_mul_right _ (by omega)
theorem dv_lt (l : List UInt8) (h : ∀ c ∈ l, dig c = true) : dv l < 10 ^ l.length := by
  have := foldl_lt l h 0
  simpa [dv] using this
theorem dv_le18 (l : List UInt8) (h : ∀ c ∈ l, dig c = true) (hl : l.length ≤ 18) : dv l < 1000000000000000000 := by
  have h1 := dv_lt l h
  have h2 : 10 ^ l.length ≤ 10 ^ 18 := Nat.pow_le_pow_right (by omega) hl
  omega
theorem tw_dig (l : List UInt8) : ∀ c ∈ l.takeWhile dig, dig c = true := by
  intro c hc
  have := List.all_takeWhile (p := dig) (l := l)
  rw [List.all_eq_true] at this
  exact this c hc
end Go.Proofs.YtldllfadidepaaaDoor.Sp
namespace Go.Proofs.YtldllfadidepaaaDoor.Fx
open Go.RowKit Go.Lib Go.Proofs.YtldllfadidepaaaDoor.Sp

/-- the ten digits -/
def tenD : ByteArray := ⟨#[48, 49, 50, 51, 52, 53, 54, 55, 56, 57]⟩
theorem tenD_dec (q : Nat) (h : q < 10) : Utf8.decode tenD q = (48 + q, 1) := by
  have : q = 0 ∨ q = 1 ∨ q = 2 ∨ q = 3 ∨ q = 4 ∨ q = 5 ∨ q = 6 ∨ q = 7 ∨ q = 8 ∨ q = 9 := by omega
  rcases this with rfl | rfl | rfl | rfl | rfl | rfl | rfl | rfl | rfl | rfl <;> decide

theorem below_iter {a w : World} (h : Below a.heap.size a w) (s : ByteArray) (p : Nat) : Below a.heap.size a (w.iter s p) := h.alloc h.size _

/-- a step of an iterator in whatever block -/
theorem next_step {P : Program} (a w : World) (k : Nat) (s : ByteArray) (pos : Nat) (hk : w.heap[k]? = some (.stringIter s pos)) (hB : Below a.heap.size a w) (hka : a.heap.size ≤ k) (h : pos < s.size) :
    ∃ W, (∀ ty, (Instr.next (.pointer (some ⟨k, 0, none⟩)) true ty).run P w = .ok (.tuple #[.bool true, .int .i64 pos, .int .i32 (Utf8.decode s pos).1]) W) ∧
      W.heap[k]? = some (.stringIter s (pos + (Utf8.decode s pos).2)) ∧ Below a.heap.size a W ∧ W.heap.size = w.heap.size ∧ (∀ j, j ≠ k → W.heap[j]? = w.heap[j]?) :=
  ⟨w.iterAt k s (pos + (Utf8.decode s pos).2), fun ty => run_next_any_at w k s pos ty hk h, iterAt_heap _ _ _ _ _ hk, below_iterAt hB hka _ _, iterAt_size _ _ _ _, fun _ hj => iterAt_other _ _ _ _ _ hj⟩

theorem eqDec (c : Int) (q : Nat) (h : q < 10) (hc : 0 ≤ c) : (decide (48 ≤ c) && decide (c < 48 + (q : Int)) || (c == 48 + (q : Int))) = (decide (48 ≤ c) && decide (c < 48 + ((q + 1 : Nat) : Int))) := by
  rw [Bool.eq_iff_iff]; simp; omega

theorem drop_step (l : List UInt8) (pos : Nat) (h : pos < l.length) (hd : dig l[pos] = true) (e : (l.drop pos).dropWhile dig = l.dropWhile dig) : (l.drop (pos + 1)).dropWhile dig = l.dropWhile dig := by
  rw [List.drop_eq_getElem_cons h, List.dropWhile_cons] at e
  simpa [hd] using e
theorem drop_stop (l : List UInt8) (pos : Nat) (h : pos < l.length) (hd : dig l[pos] = false) (e : (l.drop pos).dropWhile dig = l.dropWhile dig) : l.dropWhile dig = l.drop pos := by
  rw [← e]
  rw [List.drop_eq_getElem_cons h, List.dropWhile_cons]
  simp [hd]

theorem ret_str {a b : ByteArray} (h : a = b) : Ending.returned (.string a) = .returned (.string b) := by rw [h]
theorem str_from (s : ByteArray) (k : Nat) : s.extract k s.size = ⟨(s.data.toList.drop k).toArray⟩ := by
  apply ByteArray.ext
  rw [ByteArray.data_extract]
  apply Array.ext'
  simp [List.extract_eq_take_drop]
  exact List.take_of_length_le (by simp)
theorem digit_at (s : ByteArray) (pos : Nat) (hp : pos < s.size) (b : Bool) (hb : b = (decide ((48 : Int) ≤ ((Utf8.decode s pos).1 : Nat)) && decide (((Utf8.decode s pos).1 : Int) ≤ 57))) :
    dig (s.data.toList[pos]'(by simpa using hp)) = b ∧ (b = true → (Utf8.decode s pos).2 = 1) := by
  have e : (s.data.toList[pos]'(by simpa using hp)) = s[pos]'hp := rfl
  rw [e]
  by_cases ha : (s[pos]'hp).toNat < 128
  · rw [decode_ascii s pos hp ha] at hb ⊢
    refine ⟨?_, fun _ => rfl⟩
    rw [hb, Bool.eq_iff_iff]; simp [dig]; omega
  · have := decode_high s pos hp (by omega)
    rw [hb, Bool.eq_iff_iff]; simp [dig]; omega

set_option maxHeartbeats 1000000 in
theorem cutLeft_calls (s : ByteArray) (hs : s.size ≤ maxLen) (w : World) :
    Calls Tryd.prog 41 #[.string s, .string ⟨#[48, 49, 50, 51, 52, 53, 54, 55, 56, 57]⟩] w fun en w' => en = .returned (.string ⟨(s.data.toList.dropWhile dig).toArray⟩) ∧ Below w.heap.size w w' := by
  unfold maxLen at hs
  go_enter Tryd.func41, Tryd.ntmps41
  go_wp2
  go_loopg [] s.size (fun n wr => ∃ pos : Nat, Hid (pos ≤ s.size ∧ s.size - pos ≤ n ∧ wr.heap[w.heap.size]? = some (.stringIter s pos) ∧ Below w.heap.size w wr ∧ (s.data.toList.drop pos).dropWhile dig = s.data.toList.dropWhile dig))
  case atStart => exact ⟨0, Nat.zero_le _, by omega, World.iter_heap _ _ _, below_iter (Below.refl _ _) _ _, rfl⟩
  case round =>
    obtain ⟨pos, H⟩ := hrel
    by_cases hp : pos < s.size
    · obtain ⟨W, hnx, R⟩ : ∃ W, (∀ ty, (Instr.next (.pointer (some ⟨w.heap.size, 0, none⟩)) true ty).run Tryd.prog wr = .ok (.tuple #[.bool true, .int .i64 pos, .int .i32 (Utf8.decode s pos).1]) W) ∧ Hid (W.heap[w.heap.size]? = some (.stringIter s (pos + (Utf8.decode s pos).2)) ∧ Below w.heap.size w W) := by
        obtain ⟨_, _, hk, hB, _⟩ := H.out
        obtain ⟨W, h1, h2, h3, _⟩ := next_step (P := Tryd.prog) w wr w.heap.size s pos hk hB (Nat.le_refl _) hp
        exact ⟨W, h1, h2, h3⟩
      have hc0 : (0 : Int) ≤ ((Utf8.decode s pos).1 : Int) := by omega
      have hc1 := decode_le s pos
      generalize hcc : (Utf8.decode s pos).1 = c at *
      have HC := Lib.hid hcc
      clear hcc
      go_wp2
      go_loopg [7] 10 (fun n v7 wi => ∃ (q : Nat) (b : Bool), v7 = .bool b ∧ Hid (b = (decide ((48 : Int) ≤ c) && decide ((c : Int) < 48 + (q : Int))) ∧ q ≤ 10 ∧ 10 - q ≤ n ∧ wi.heap[w.heap.size]? = some (.stringIter s (pos + (Utf8.decode s pos).2)) ∧ wi.heap[W.heap.size]? = some (.stringIter tenD q) ∧ Below w.heap.size w wi))
      case atStart =>
        obtain ⟨hk, hB⟩ := R.out
        have hlt : w.heap.size < W.heap.size := (Array.getElem?_eq_some_iff.1 hk).1
        refine ⟨0, false, rfl, ?_, Nat.zero_le _, Nat.le_refl _, ?_, World.iter_heap _ _ _, below_iter hB _ _⟩
        · rw [Bool.eq_iff_iff]; simp
        · rw [← hk]; exact Below.heap_alloc _ _ _ hlt
      case round =>
        obtain ⟨q, b, rfl, H2⟩ := hrel
        have hlt : w.heap.size < W.heap.size := (Array.getElem?_eq_some_iff.1 R.out.1).1
        by_cases hq : q < 10
        · obtain ⟨W2, hnx2, R2⟩ : ∃ W2, (∀ ty, (Instr.next (.pointer (some ⟨W.heap.size, 0, none⟩)) true ty).run Tryd.prog wr = .ok (.tuple #[.bool true, .int .i64 q, .int .i32 ((48 : Int) + (q : Int))]) W2) ∧ Hid (W2.heap[w.heap.size]? = some (.stringIter s (pos + (Utf8.decode s pos).2)) ∧ W2.heap[W.heap.size]? = some (.stringIter tenD (q + 1)) ∧ Below w.heap.size w W2) := by
            obtain ⟨_, _, _, hk1, hk, hB⟩ := H2.out
            obtain ⟨W2, h1, h2, h3, h4, h5⟩ := next_step (P := Tryd.prog) w wr W.heap.size tenD q hk hB (by omega) hq
            rw [tenD_dec q hq] at h1 h2
            exact ⟨W2, h1, by rw [h5 _ (by omega)]; exact hk1, h2, h3⟩
          cases b with
          | true =>
            go_wp2
            go_roundg (9 - q)
            case measure => have := H2.out.2.2.1; omega
            case rel =>
              obtain ⟨hb, hq1, _, _, _, _⟩ := H2.out
              refine ⟨q + 1, true, rfl, ?_, by omega, by omega, R2.out⟩
              rw [← eqDec _ _ hq hc0, ← hb]; rfl
          | false =>
            go_wp2
            go_roundg (9 - q)
            case measure => have := H2.out.2.2.1; omega
            case rel =>
              obtain ⟨hb, hq1, _, _, _, _⟩ := H2.out
              refine ⟨q + 1, _, rfl, ?_, by omega, by omega, R2.out⟩
              rw [← eqDec _ _ hq hc0, ← hb]; simp
        · have hnx2 : ∀ ty, (Instr.next (.pointer (some ⟨W.heap.size, 0, none⟩)) true ty).run Tryd.prog wr = .ok (.tuple #[.bool false]) wr := by
            obtain ⟨_, _, _, _, hk, _⟩ := H2.out
            exact fun ty => run_next_end_at wr _ tenD q ty hk hq
          have HB2 : Hid (b = (decide ((48 : Int) ≤ c) && decide ((c : Int) ≤ 57))) := by
            obtain ⟨hb, hq1, _⟩ := H2.out
            have : q = 10 := by omega
            subst this
            rw [hb]
            show _ = _
            congr 1
            rw [Bool.eq_iff_iff]; simp; omega
          have hdig : Hid (dig (s.data.toList[pos]'(by simpa using hp)) = b ∧ (b = true → (Utf8.decode s pos).2 = 1)) := digit_at s pos hp b (by rw [HB2.out, ← HC.out])
          cases b with
          | true =>
            go_wp2
            go_roundg (s.size - (pos + 1))
            case measure => have := H.out.2.1; omega
            case rel =>
              obtain ⟨_, _, _, hk, _, hB⟩ := H2.out
              obtain ⟨h1, h2, _, _, hd⟩ := H.out
              obtain ⟨g1, g2⟩ := hdig.out
              refine ⟨pos + 1, by omega, by omega, ?_, hB, drop_step _ _ _ g1 hd⟩
              rw [← g2 trivial]; exact hk
          | false =>
            go_wp2
            go_ret
            obtain ⟨_, _, _, hk, _, hB⟩ := H2.out
            obtain ⟨h1, h2, _, _, hd⟩ := H.out
            refine ⟨?_, hB⟩
            exact ret_str (by rw [drop_stop _ _ _ hdig.out.1 hd, str_from])
    · have hnx : ∀ ty, (Instr.next (.pointer (some ⟨w.heap.size, 0, none⟩)) true ty).run Tryd.prog wr = .ok (.tuple #[.bool false]) wr := by
        obtain ⟨_, _, hk, _⟩ := H.out
        exact fun ty => run_next_end_at wr _ s pos ty hk hp
      go_wp2
      go_ret
      obtain ⟨h1, _, _, hB, hd⟩ := H.out
      have : pos = s.size := by omega
      subst this
      refine ⟨?_, hB⟩
      rw [← hd, List.drop_eq_nil_of_le (by simp)]
      rfl
end Go.Proofs.YtldllfadidepaaaDoor.Fx
namespace Go.Proofs
open Go.Shelf
def Tryd.lays103_ren : Go.Shelf.Ren := ⟨fun | 103 => 40 | 210 => 52 | 206 => 56 | n => n, fun | 9 => 9 | 4 => 4 | 24 => 67 | 3 => 3 | n => n, fun | n => n⟩
theorem Tryd.lays103 : Go.Proofs.Lays.n103 Tryd.prog Tryd.lays103_ren := {
  mixed := by kernel_rfl
  f103 := Tryd.func40.trans (congrArg some (by kernel_rfl))
  f206 := Tryd.func56.trans (congrArg some (by kernel_rfl))
  f210 := Tryd.func52.trans (congrArg some (by kernel_rfl))
  t3 := Tryd.underlying3
  a3 := Tryd.isAgg3
  z3 := Tryd.sizeOf3
  v3 := Tryd.zeroValue3
  t4 := Tryd.underlying4
  a4 := Tryd.isAgg4
  z4 := Tryd.sizeOf4
  v4 := Tryd.zeroValue4
  t9 := Tryd.underlying9
  a9 := Tryd.isAgg9
  z9 := Tryd.sizeOf9
  v9 := Tryd.zeroValue9
  t24 := Tryd.underlying67
  a24 := Tryd.isAgg67
  z24 := Tryd.sizeOf67
  v24 := Tryd.zeroValue67 }
open Go.RowKit in
theorem Tryd.strings_CutPrefix (s p : ByteArray) (w : World) :
    Calls Tryd.prog 40 #[.string s, .string p] w fun e w' => e = .returned (.tuple #[.string ⟨(Lib.trimPrefix s.data.toList p.data.toList).toArray⟩, .bool (Lib.hasPrefix s.data.toList p.data.toList)]) ∧ w' = w := Any.strings_CutPrefix Tryd.lays103 s p w
def Tryd.lays172_ren : Go.Shelf.Ren := ⟨fun | 172 => 39 | 244 => 50 | 245 => 51 | 247 => 59 | 279 => 60 | 280 => 61 | 281 => 62 | 282 => 63 | 287 => 70 | 316 => 71 | 171 => 35 | 205 => 72 | 321 => 78 | 322 => 79 | 243 => 42 | 246 => 53 | 283 => 64 | 284 => 65 | 285 => 66 | 286 => 67 | 129 => 74 | 317 => 73 | 318 => 75 | 319 => 76 | 320 => 77 | 337 => 80 | 338 => 81 | n => n, fun | 9 => 9 | 3 => 3 | 75 => 64 | 76 => 65 | 4 => 4 | 5 => 5 | 167 => 89 | 37 => 60 | 0 => 0 | 85 => 90 | 2 => 2 | 168 => 92 | 53 => 85 | 175 => 103 | 46 => 70 | 210 => 107 | 127 => 88 | 145 => 116 | 143 => 114 | 21 => 21 | 171 => 95 | 173 => 98 | 212 => 110 | 51 => 82 | 20 => 20 | 213 => 111 | 232 => 118 | 233 => 119 | 80 => 79 | n => n, fun | 15 => 0 | 16 => 1 | 17 => 2 | 18 => 4 | 19 => 5 | n => n⟩
theorem Tryd.lays172 : Go.Proofs.Lays.n172 Tryd.prog Tryd.lays172_ren := {
  mixed := by kernel_rfl
  f129 := Tryd.func74.trans (congrArg some (by kernel_rfl))
  f171 := Tryd.func35.trans (congrArg some (by kernel_rfl))
  f172 := Tryd.func39.trans (congrArg some (by kernel_rfl))
  f205 := Tryd.func72.trans (congrArg some (by kernel_rfl))
  f243 := Tryd.func42.trans (congrArg some (by kernel_rfl))
  f244 := Tryd.func50.trans (congrArg some (by kernel_rfl))
  f245 := Tryd.func51.trans (congrArg some (by kernel_rfl))
  f246 := Tryd.func53.trans (congrArg some (by kernel_rfl))
  f247 := Tryd.func59.trans (congrArg some (by kernel_rfl))
  f279 := Tryd.func60.trans (congrArg some (by kernel_rfl))
  f280 := Tryd.func61.trans (congrArg some (by kernel_rfl))
  f281 := Tryd.func62.trans (congrArg some (by kernel_rfl))
  f282 := Tryd.func63.trans (congrArg some (by kernel_rfl))
  f283 := Tryd.func64.trans (congrArg some (by kernel_rfl))
  f284 := Tryd.func65.trans (congrArg some (by kernel_rfl))
  f285 := Tryd.func66.trans (congrArg some (by kernel_rfl))
  f286 := Tryd.func67.trans (congrArg some (by kernel_rfl))
  f287 := Tryd.func70.trans (congrArg some (by kernel_rfl))
  f316 := Tryd.func71.trans (congrArg some (by kernel_rfl))
  f317 := Tryd.func73.trans (congrArg some (by kernel_rfl))
  f318 := Tryd.func75.trans (congrArg some (by kernel_rfl))
  f319 := Tryd.func76.trans (congrArg some (by kernel_rfl))
  f320 := Tryd.func77.trans (congrArg some (by kernel_rfl))
  f321 := Tryd.func78.trans (congrArg some (by kernel_rfl))
  f322 := Tryd.func79.trans (congrArg some (by kernel_rfl))
  f337 := Tryd.func80.trans (congrArg some (by kernel_rfl))
  f338 := Tryd.func81.trans (congrArg some (by kernel_rfl))
  t0 := Tryd.underlying0
  a0 := Tryd.isAgg0
  z0 := Tryd.sizeOf0
  v0 := Tryd.zeroValue0
  t2 := Tryd.underlying2
  a2 := Tryd.isAgg2
  z2 := Tryd.sizeOf2
  v2 := Tryd.zeroValue2
  t3 := Tryd.underlying3
  a3 := Tryd.isAgg3
  z3 := Tryd.sizeOf3
  v3 := Tryd.zeroValue3
  t4 := Tryd.underlying4
  a4 := Tryd.isAgg4
  z4 := Tryd.sizeOf4
  v4 := Tryd.zeroValue4
  t5 := Tryd.underlying5
  a5 := Tryd.isAgg5
  z5 := Tryd.sizeOf5
  v5 := Tryd.zeroValue5
  t9 := Tryd.underlying9
  a9 := Tryd.isAgg9
  z9 := Tryd.sizeOf9
  v9 := Tryd.zeroValue9
  t20 := Tryd.underlying20
  a20 := Tryd.isAgg20
  z20 := Tryd.sizeOf20
  v20 := Tryd.zeroValue20
  t21 := Tryd.underlying21
  a21 := Tryd.isAgg21
  z21 := Tryd.sizeOf21
  v21 := Tryd.zeroValue21
  t37 := Tryd.underlying60
  a37 := Tryd.isAgg60
  z37 := Tryd.sizeOf60
  v37 := Tryd.zeroValue60
  t46 := Tryd.underlying70
  a46 := Tryd.isAgg70
  z46 := Tryd.sizeOf70
  v46 := Tryd.zeroValue70
  t51 := Tryd.underlying82
  a51 := Tryd.isAgg82
  z51 := Tryd.sizeOf82
  v51 := Tryd.zeroValue82
  t53 := Tryd.underlying85
  a53 := Tryd.isAgg85
  z53 := Tryd.sizeOf85
  v53 := Tryd.zeroValue85
  t75 := Tryd.underlying64
  a75 := Tryd.isAgg64
  z75 := Tryd.sizeOf64
  v75 := Tryd.zeroValue64
  t76 := Tryd.underlying65
  a76 := Tryd.isAgg65
  z76 := Tryd.sizeOf65
  v76 := Tryd.zeroValue65
  t85 := Tryd.underlying90
  a85 := Tryd.isAgg90
  z85 := Tryd.sizeOf90
  v85 := Tryd.zeroValue90
  t127 := Tryd.underlying88
  a127 := Tryd.isAgg88
  z127 := Tryd.sizeOf88
  v127 := Tryd.zeroValue88
  t143 := Tryd.underlying114
  a143 := Tryd.isAgg114
  z143 := Tryd.sizeOf114
  v143 := Tryd.zeroValue114
  t145 := Tryd.underlying116
  a145 := Tryd.isAgg116
  z145 := Tryd.sizeOf116
  v145 := Tryd.zeroValue116
  t167 := Tryd.underlying89
  a167 := Tryd.isAgg89
  z167 := Tryd.sizeOf89
  v167 := Tryd.zeroValue89
  t168 := Tryd.underlying92
  a168 := Tryd.isAgg92
  z168 := Tryd.sizeOf92
  v168 := Tryd.zeroValue92
  t171 := Tryd.underlying95
  a171 := Tryd.isAgg95
  z171 := Tryd.sizeOf95
  v171 := Tryd.zeroValue95
  t173 := Tryd.underlying98
  a173 := Tryd.isAgg98
  z173 := Tryd.sizeOf98
  v173 := Tryd.zeroValue98
  t175 := Tryd.underlying103
  a175 := Tryd.isAgg103
  z175 := Tryd.sizeOf103
  v175 := Tryd.zeroValue103
  t210 := Tryd.underlying107
  a210 := Tryd.isAgg107
  z210 := Tryd.sizeOf107
  v210 := Tryd.zeroValue107
  t212 := Tryd.underlying110
  a212 := Tryd.isAgg110
  z212 := Tryd.sizeOf110
  v212 := Tryd.zeroValue110
  t213 := Tryd.underlying111
  a213 := Tryd.isAgg111
  z213 := Tryd.sizeOf111
  t232 := Tryd.underlying118
  a232 := Tryd.isAgg118
  z232 := Tryd.sizeOf118
  v232 := Tryd.zeroValue118
  t233 := Tryd.underlying119
  a233 := Tryd.isAgg119
  z233 := Tryd.sizeOf119
  v233 := Tryd.zeroValue119
  g15 := by kernel_rfl
  g16 := by kernel_rfl
  g17 := by kernel_rfl
  g18 := by kernel_rfl
  g19 := by kernel_rfl }
open Go.RowKit in
theorem Tryd.strconv_Atoi (s : ByteArray) (n : Int) (hl : s.size ≤ 18) (h : Lib.atoi s.data.toList = some n) (w : World) :
    Calls Tryd.prog 39 #[.string s] w fun e w' => e = .returned (.tuple #[.int .i64 n, .nilIface]) ∧ ∃ t, w' = Lib.bytesWorld w 5 t := Any.strconv_Atoi Tryd.lays172 s n hl h w
def Tryd.laysM171_ren : Go.Shelf.Ren := ⟨fun | 171 => 35 | 243 => 42 | 246 => 53 | 283 => 64 | 284 => 65 | 285 => 66 | 286 => 67 | 129 => 74 | 317 => 73 | 318 => 75 | 319 => 76 | 320 => 77 | 337 => 80 | 338 => 81 | n => n, fun | 3 => 3 | 9 => 9 | 2 => 2 | 4 => 4 | 171 => 95 | 0 => 0 | 53 => 85 | 37 => 60 | 5 => 5 | 173 => 98 | 212 => 110 | 51 => 82 | 20 => 20 | 213 => 111 | 46 => 70 | 232 => 118 | 233 => 119 | n => n, fun | 17 => 2 | 18 => 4 | 19 => 5 | n => n⟩
theorem Tryd.laysM171 : Go.Proofs.LaysM.n171 Tryd.prog Tryd.laysM171_ren := {
  mixed := by kernel_rfl
  f129 := Tryd.func74.trans (congrArg some (by kernel_rfl))
  f171 := Tryd.func35.trans (congrArg some (by kernel_rfl))
  f243 := Tryd.func42.trans (congrArg some (by kernel_rfl))
  f246 := Tryd.func53.trans (congrArg some (by kernel_rfl))
  f283 := Tryd.func64.trans (congrArg some (by kernel_rfl))
  f284 := Tryd.func65.trans (congrArg some (by kernel_rfl))
  f285 := Tryd.func66.trans (congrArg some (by kernel_rfl))
  f286 := Tryd.func67.trans (congrArg some (by kernel_rfl))
  f317 := Tryd.func73.trans (congrArg some (by kernel_rfl))
  f318 := Tryd.func75.trans (congrArg some (by kernel_rfl))
  f319 := Tryd.func76.trans (congrArg some (by kernel_rfl))
  f320 := Tryd.func77.trans (congrArg some (by kernel_rfl))
  f337 := Tryd.func80.trans (congrArg some (by kernel_rfl))
  f338 := Tryd.func81.trans (congrArg some (by kernel_rfl))
  t0 := Tryd.underlying0
  a0 := Tryd.isAgg0
  z0 := Tryd.sizeOf0
  v0 := Tryd.zeroValue0
  t2 := Tryd.underlying2
  a2 := Tryd.isAgg2
  z2 := Tryd.sizeOf2
  v2 := Tryd.zeroValue2
  t3 := Tryd.underlying3
  a3 := Tryd.isAgg3
  z3 := Tryd.sizeOf3
  v3 := Tryd.zeroValue3
  t4 := Tryd.underlying4
  a4 := Tryd.isAgg4
  z4 := Tryd.sizeOf4
  v4 := Tryd.zeroValue4
  t5 := Tryd.underlying5
  a5 := Tryd.isAgg5
  z5 := Tryd.sizeOf5
  v5 := Tryd.zeroValue5
  t9 := Tryd.underlying9
  a9 := Tryd.isAgg9
  z9 := Tryd.sizeOf9
  v9 := Tryd.zeroValue9
  t20 := Tryd.underlying20
  a20 := Tryd.isAgg20
  z20 := Tryd.sizeOf20
  v20 := Tryd.zeroValue20
  t37 := Tryd.underlying60
  a37 := Tryd.isAgg60
  z37 := Tryd.sizeOf60
  v37 := Tryd.zeroValue60
  t46 := Tryd.underlying70
  a46 := Tryd.isAgg70
  z46 := Tryd.sizeOf70
  v46 := Tryd.zeroValue70
  t51 := Tryd.underlying82
  a51 := Tryd.isAgg82
  z51 := Tryd.sizeOf82
  v51 := Tryd.zeroValue82
  t53 := Tryd.underlying85
  a53 := Tryd.isAgg85
  z53 := Tryd.sizeOf85
  v53 := Tryd.zeroValue85
  t171 := Tryd.underlying95
  a171 := Tryd.isAgg95
  z171 := Tryd.sizeOf95
  v171 := Tryd.zeroValue95
  t173 := Tryd.underlying98
  a173 := Tryd.isAgg98
  z173 := Tryd.sizeOf98
  v173 := Tryd.zeroValue98
  t212 := Tryd.underlying110
  a212 := Tryd.isAgg110
  z212 := Tryd.sizeOf110
  v212 := Tryd.zeroValue110
  t213 := Tryd.underlying111
  a213 := Tryd.isAgg111
  z213 := Tryd.sizeOf111
  t232 := Tryd.underlying118
  a232 := Tryd.isAgg118
  z232 := Tryd.sizeOf118
  v232 := Tryd.zeroValue118
  t233 := Tryd.underlying119
  a233 := Tryd.isAgg119
  z233 := Tryd.sizeOf119
  v233 := Tryd.zeroValue119
  g17 := by kernel_rfl
  g18 := by kernel_rfl
  g19 := by kernel_rfl
  i0 := by kernel_rfl
  i2 := by kernel_rfl
  i3 := by kernel_rfl
  i4 := by kernel_rfl
  i5 := by kernel_rfl
  i9 := by kernel_rfl
  i20 := by kernel_rfl
  i37 := by kernel_rfl
  i46 := by kernel_rfl
  i51 := by kernel_rfl
  i53 := by kernel_rfl
  i171 := by kernel_rfl
  i173 := by kernel_rfl
  i212 := by kernel_rfl
  i232 := by kernel_rfl
  i233 := by kernel_rfl
  m17 := by kernel_rfl
  m18 := by kernel_rfl
  m19 := by kernel_rfl }
open Go.RowKit Go.Sort Go.Lib in
theorem Tryd.strconv_Itoa (n : Int) (h0 : -9223372036854775808 ≤ n) (h1 : n ≤ 9223372036854775807) (w : World) (htab : Lib.TabIs Tryd.prog w "internal/strconv.uint64pow10" .u64 Lib.pow10Tab) :
    Calls Tryd.prog 35 #[.int .i64 n] w fun e w' => e = .returned (.string ⟨(Lib.itoa n).toArray⟩) ∧ ∃ k os, w' = grow (w.drewN k) os := Any.strconv_Itoa Tryd.laysM171 n h0 h1 w htab
def Tryd.lays105_ren : Go.Shelf.Ren := ⟨fun | 105 => 36 | 212 => 43 | 99 => 44 | 165 => 45 | 166 => 46 | 170 => 47 | 169 => 48 | 263 => 54 | 264 => 55 | 206 => 56 | 240 => 57 | 241 => 58 | 276 => 68 | 277 => 69 | n => n, fun | 9 => 9 | 3 => 3 | 4 => 4 | 20 => 20 | 0 => 0 | 46 => 70 | 109 => 71 | 5 => 5 | 72 => 76 | 76 => 65 | 51 => 82 | 146 => 83 | 53 => 85 | 148 => 86 | 70 => 74 | 37 => 60 | 75 => 64 | 127 => 88 | 164 => 100 | 80 => 79 | n => n, fun | n => n⟩
theorem Tryd.lays105 : Go.Proofs.Lays.n105 Tryd.prog Tryd.lays105_ren := {
  mixed := by kernel_rfl
  f99 := Tryd.func44.trans (congrArg some (by kernel_rfl))
  f105 := Tryd.func36.trans (congrArg some (by kernel_rfl))
  f165 := Tryd.func45.trans (congrArg some (by kernel_rfl))
  f166 := Tryd.func46.trans (congrArg some (by kernel_rfl))
  f169 := Tryd.func48.trans (congrArg some (by kernel_rfl))
  f170 := Tryd.func47.trans (congrArg some (by kernel_rfl))
  f206 := Tryd.func56.trans (congrArg some (by kernel_rfl))
  f212 := Tryd.func43.trans (congrArg some (by kernel_rfl))
  f240 := Tryd.func57.trans (congrArg some (by kernel_rfl))
  f241 := Tryd.func58.trans (congrArg some (by kernel_rfl))
  f263 := Tryd.func54.trans (congrArg some (by kernel_rfl))
  f264 := Tryd.func55.trans (congrArg some (by kernel_rfl))
  f276 := Tryd.func68.trans (congrArg some (by kernel_rfl))
  f277 := Tryd.func69.trans (congrArg some (by kernel_rfl))
  t0 := Tryd.underlying0
  a0 := Tryd.isAgg0
  z0 := Tryd.sizeOf0
  v0 := Tryd.zeroValue0
  t3 := Tryd.underlying3
  a3 := Tryd.isAgg3
  z3 := Tryd.sizeOf3
  v3 := Tryd.zeroValue3
  t4 := Tryd.underlying4
  a4 := Tryd.isAgg4
  z4 := Tryd.sizeOf4
  v4 := Tryd.zeroValue4
  t5 := Tryd.underlying5
  a5 := Tryd.isAgg5
  z5 := Tryd.sizeOf5
  v5 := Tryd.zeroValue5
  t9 := Tryd.underlying9
  a9 := Tryd.isAgg9
  z9 := Tryd.sizeOf9
  v9 := Tryd.zeroValue9
  t20 := Tryd.underlying20
  a20 := Tryd.isAgg20
  z20 := Tryd.sizeOf20
  v20 := Tryd.zeroValue20
  t37 := Tryd.underlying60
  a37 := Tryd.isAgg60
  z37 := Tryd.sizeOf60
  v37 := Tryd.zeroValue60
  t46 := Tryd.underlying70
  a46 := Tryd.isAgg70
  z46 := Tryd.sizeOf70
  v46 := Tryd.zeroValue70
  t51 := Tryd.underlying82
  a51 := Tryd.isAgg82
  z51 := Tryd.sizeOf82
  v51 := Tryd.zeroValue82
  t53 := Tryd.underlying85
  a53 := Tryd.isAgg85
  z53 := Tryd.sizeOf85
  v53 := Tryd.zeroValue85
  t70 := Tryd.underlying74
  a70 := Tryd.isAgg74
  z70 := Tryd.sizeOf74
  v70 := Tryd.zeroValue74
  t72 := Tryd.underlying76
  a72 := Tryd.isAgg76
  z72 := Tryd.sizeOf76
  v72 := Tryd.zeroValue76
  t75 := Tryd.underlying64
  a75 := Tryd.isAgg64
  z75 := Tryd.sizeOf64
  v75 := Tryd.zeroValue64
  t76 := Tryd.underlying65
  a76 := Tryd.isAgg65
  z76 := Tryd.sizeOf65
  v76 := Tryd.zeroValue65
  t109 := Tryd.underlying71
  a109 := Tryd.isAgg71
  z109 := Tryd.sizeOf71
  v109 := Tryd.zeroValue71
  t127 := Tryd.underlying88
  a127 := Tryd.isAgg88
  z127 := Tryd.sizeOf88
  v127 := Tryd.zeroValue88
  t146 := Tryd.underlying83
  a146 := Tryd.isAgg83
  z146 := Tryd.sizeOf83
  v146 := Tryd.zeroValue83
  t148 := Tryd.underlying86
  a148 := Tryd.isAgg86
  z148 := Tryd.sizeOf86
  v148 := Tryd.zeroValue86
  t164 := Tryd.underlying100
  a164 := Tryd.isAgg100
  z164 := Tryd.sizeOf100
  v164 := Tryd.zeroValue100 }
theorem Tryd.Builder_Extra_105 : Builder.Extra Tryd.prog Tryd.lays105_ren := {
  sizeBuilder := by kernel_rfl
  liesBuilder := by kernel_rfl
  t5 := Tryd.underlying5
  a5 := Tryd.isAgg5
  z5 := Tryd.sizeOf5
  v5 := Tryd.zeroValue5
  infoByte := by kernel_rfl
  cellsByte := by kernel_rfl
  sizeByte := by kernel_rfl
  neB5 := by decide }
open Go.RowKit Go.Lib in
theorem Tryd.strings_Repeat (s : ByteArray) (c : Nat) (w : World) (hc : c ≤ 9223372036854775807) (hlen : s.size * c ≤ 140737488355328) :
    Calls Tryd.prog 36 #[.string s, .int .i64 c] w fun e w' => e = .returned (.string ⟨(Lib.repeatL s.data.toList c).toArray⟩) ∧ Below w.heap.size w w' := Any.strings_Repeat Tryd.lays105 Tryd.Builder_Extra_105 s c w hc hlen
end Go.Proofs
namespace Go.Proofs.YtldllfadidepaaaDoor.P
open Go.RowKit Go.Proofs.YtldllfadidepaaaDoorW.PrintWords Go.Proofs.YtldllfadidepaaaDoorW.PrintLast Go.Proofs.YtldllfadidepaaaDoorW.PrintMore
attribute [local go_sem] max2_int min2_int max_two min_two max_three min_three max_four min_four   -- for this text's walks alone
set_option linter.unusedVariables false
set_option linter.unusedSimpArgs false

/-! ### fixed_Least: function 18 -/
def fixed_Least.l0 : Nat → Int → Int → Option (Int × Int)
  | 0, _, _ => none
  | k + 1, x102000, x102001 => if x102001 > 0 then (if (Int.tmod x102000 10) = 0 then (fixed_Least.l0 k (wrap64 (Int.tdiv x102000 10)) (wrap64 (x102001 - 1))) else (some (x102000, x102001))) else (some (x102000, x102001))
def fixed_Least.f (k : Nat) (a0_0 : Int) (a0_1 : Int) : Option (Int × Int) := fixed_Least.l0 k a0_0 a0_1
theorem fixed_Least.mono_l : ∀ k, (∀ y0 y1, LeO (fixed_Least.l0 k y0 y1) (fixed_Least.l0 (k + 1) y0 y1))
  | 0 => fun _ _ r h => by simp [fixed_Least.l0] at h
  | k + 1 => by
    have ih0 := fixed_Least.mono_l k
    · intro y0 y1
      unfold fixed_Least.l0
      repeat' first
      | (with_reducible exact ih0 _ _)
      | (with_reducible exact LeO.refl _)
      | (with_reducible exact LeO.none _)
      | (with_reducible refine LeO.ite ?_ ?_)
      | (with_reducible refine LeO.bind ?_ (fun _ => ?_))
      | exact ih0 _ _
      | exact LeO.none _
      | refine LeO.ite ?_ ?_
      | refine LeO.bind ?_ (fun _ => ?_)
theorem fixed_Least.mono : ∀ a0 a1 k, LeO (fixed_Least.f k a0 a1) (fixed_Least.f (k + 1) a0 a1) := by
  intro a0 a1 k
  have ih0 := fixed_Least.mono_l k
  unfold fixed_Least.f
  repeat' first
      | (with_reducible exact ih0 _ _)
      | (with_reducible exact LeO.refl _)
      | (with_reducible exact LeO.none _)
      | (with_reducible refine LeO.ite ?_ ?_)
      | (with_reducible refine LeO.bind ?_ (fun _ => ?_))
      | exact ih0 _ _
      | exact LeO.none _
      | refine LeO.ite ?_ ?_
      | refine LeO.bind ?_ (fun _ => ?_)
set_option maxHeartbeats 8000000 in
set_option maxRecDepth 100000 in
theorem fixed_Least.calls (k : Nat) (a0_0 : Int) (a0_1 : Int) (r1 : Int) (r2 : Int) (w : World) (h : fixed_Least.f k a0_0 a0_1 = some (r1, r2)) :
    Calls Tryd.prog 18 #[.agg #[.int .i64 a0_0, .int .i64 a0_1]] w fun e w' => e = .returned (.agg #[.int .i64 r1, .int .i64 r2]) ∧ Below w.heap.size w w' := by
  have hu27 := Tryd.underlying27
  have HB := Aside0.mk (Below.refl w.heap.size w)
  have H : (fixed_Least.l0 k a0_0 a0_1) = some (r1, r2) := h
  clear h
  have H' := Aside0.mk H
  clear H
  go_enter Tryd.func18, Tryd.ntmps18
  go_wp2_with (first | ((with_reducible refine gate_dst (N := 1) rfl ?_); refine box_event ?hg (N := 1) ?hd (cs := #[.int .i64 a0_0, .int .i64 a0_1]) (t := 27) ?hr ?_; (case hd => rfl); (case hg => rfl); (case hr => first | (go_simp; done) | (go_simp; rfl)); intro gb101 hg w2 hbox hb; have n0_ := Aside0.mk (below_step (by repeat (first | (with_reducible first | exact HB.out | apply below_alloc | apply pw_below_drewN | apply below_drew1) | exact HB.out)) hb); have n1_ := Aside0.mk (hbox); have n2_ := Aside0.mk ((by rw [hg]; exact (below_size (by repeat (first | (with_reducible first | exact HB.out | apply below_alloc | apply pw_below_drewN | apply below_drew1) | exact HB.out))) : w.heap.size ≤ gb101)); have n3_ := Aside0.mk ((by rw [hg]; exact (below_size (by repeat (first | (with_reducible first | exact HB.out | apply below_alloc | apply pw_below_drewN | apply below_drew1) | exact HB.out))) : w.heap.size ≤ gb101)); clear HB; have HB := n0_; have BK101 := n1_; have GW101 := n2_; have GE101 := n3_; clear n0_ n1_ n2_ n3_; clear hb hbox hg) | ((with_reducible refine gate_dst (N := 2) rfl ?_); refine box_event ?hg (N := 2) ?hd (cs := #[.int .i64 0, .int .i64 0]) (t := 27) ?hr ?_; (case hd => rfl); (case hg => rfl); (case hr => first | (go_simp; done) | (go_simp; rfl)); intro gb102 hg w3 hbox hb; have n0_ := Aside0.mk (blk_below (g := gb101) (o := .cells #[.int .i64 a0_0, .int .i64 a0_1] 27 (0, 0)) (by (with_reducible repeat (first | refine blk_drewN ?_ _ | refine blk_drew ?_ | refine blk_alloc ?_ _)); exact BK101.out) hb); have n1_ := Aside0.mk (below_step (by repeat (first | (with_reducible first | exact HB.out | apply below_alloc | apply pw_below_drewN | apply below_drew1 | refine below_set ?_ GE101.out) | exact HB.out)) hb); have n2_ := Aside0.mk (hbox); have n3_ := Aside0.mk ((by rw [hg]; exact (below_size (by repeat (first | (with_reducible first | exact HB.out | apply below_alloc | apply pw_below_drewN | apply below_drew1 | refine below_set ?_ GE101.out) | exact HB.out))) : w.heap.size ≤ gb102)); have n4_ := Aside0.mk ((by rw [hg]; exact (below_size (by repeat (first | (with_reducible first | exact HB.out | apply below_alloc | apply pw_below_drewN | apply below_drew1 | refine below_set ?_ GE101.out) | exact HB.out))) : w.heap.size ≤ gb102)); have n5_ := Aside0.mk ((by rw [hg]; exact Nat.ne_of_lt (blk_lt (g := gb101) (o := .cells #[.int .i64 a0_0, .int .i64 a0_1] 27 (0, 0)) (by (with_reducible repeat (first | refine blk_drewN ?_ _ | refine blk_drew ?_ | refine blk_alloc ?_ _)); exact BK101.out)) : gb101 ≠ gb102)); have n6_ := Aside0.mk ((by rw [hg]; exact Nat.ne_of_gt (blk_lt (g := gb101) (o := .cells #[.int .i64 a0_0, .int .i64 a0_1] 27 (0, 0)) (by (with_reducible repeat (first | refine blk_drewN ?_ _ | refine blk_drew ?_ | refine blk_alloc ?_ _)); exact BK101.out)) : gb102 ≠ gb101)); clear BK101; clear HB; have BK101 := n0_; have HB := n1_; have BK102 := n2_; have GW102 := n3_; have GE102 := n4_; have NB101_102 := n5_; have NB102_101 := n6_; clear n0_ n1_ n2_ n3_ n4_ n5_ n6_; clear hb hbox hg))
  (try simp only [Act.put, List.setIfInBounds_toArray, List.set_cons_zero, List.set_cons_succ])
  go_loopg [] k (fun kq w' => ∃ (x102000_1 : Int) (x102001_1 : Int), Aside0 (fixed_Least.l0 kq x102000_1 x102001_1 = some (r1, r2)) ∧ Aside0 (kq ≤ k) ∧ Aside0 (w'.heap[gb101]? = some (.cells #[.int .i64 x102000_1, .int .i64 x102001_1] 27 (0, 0))) ∧ Aside0 (w'.heap[gb102]? = some (.cells #[.int .i64 0, .int .i64 0] 27 (0, 0))) ∧ Aside0 (Below w.heap.size w w'))
  case atStart => exact ⟨(a0_0), (a0_1), H', ⟨Nat.le_refl _⟩, ⟨by (with_reducible repeat (first | refine blk_drewN ?_ _ | refine blk_drew ?_ | refine blk_alloc ?_ _)); exact BK101.out⟩, ⟨by (with_reducible repeat (first | refine blk_drewN ?_ _ | refine blk_drew ?_ | refine blk_alloc ?_ _)); exact BK102.out⟩, ⟨by repeat (first | (with_reducible first | exact HB.out | apply below_alloc | apply pw_below_drewN | apply below_drew1 | refine below_set ?_ GE101.out | refine below_set ?_ GE102.out) | exact HB.out)⟩⟩
  case round =>
    clear H'
    try clear c1
    try clear p2
    obtain ⟨x102000_1, x102001_1, HA, HK1, BK101, BK102, HB⟩ := hrel
    cases gk with
    | zero => exact absurd HA.out (by simp [fixed_Least.l0])
    | succ k1 =>
      have H := HA.out
      clear HA
      simp only [fixed_Least.l0] at H
      by_cases c4 : x102001_1 > 0
      · rw [if_pos c4] at H
        have c4b0 : decide (0 < x102001_1) = true := decide_eq_true c4
        clear c4
        by_cases c5 : (Int.tmod x102000_1 10) = 0
        · rw [if_pos c5] at H
          have c5b0 : ((Int.tmod x102000_1 10) == 0) = true := beq_iff_eq.mpr c5
          have c5b1 : ((Int.tmod x102000_1 10) != 0) = false := bne_eq_false_iff_eq.mpr c5
          clear c5
          have H' := Aside0.mk H
          clear H
          have hnb6 := NB101_102.out
          have hnc6 := NB102_101.out
          have hcz7_0 : wr.cell? ⟨gb101, 0, none⟩ = some (.int .i64 x102000_1) := (blk_cell BK101.out 0).trans rfl
          have hcz7_1 : wr.cell? ⟨gb101, 1, none⟩ = some (.int .i64 x102001_1) := (blk_cell BK101.out 1).trans rfl
          have hfz7_0 := blk_frozen BK101.out 0
          have hfz7_1 := blk_frozen BK101.out 1
          go_wp2
          go_roundg k1
          case measure => have := HK1.out; omega
          case rel => exact ⟨(wrap64 (Int.tdiv x102000_1 10)), (wrap64 (x102001_1 - 1)), H', ⟨by have := HK1.out; omega⟩, ⟨by (with_reducible repeat (first | refine blk_drewN ?_ _ | refine blk_drew ?_ | refine blk_alloc ?_ _)); refine blk_put (cs := #[.int .i64 (wrap64 (Int.tdiv x102000_1 10)), .int .i64 x102001_1]) ?_ 1 _ rfl; (with_reducible repeat (first | refine blk_drewN ?_ _ | refine blk_drew ?_ | refine blk_alloc ?_ _)); refine blk_put (cs := #[.int .i64 x102000_1, .int .i64 x102001_1]) ?_ 0 _ rfl; (with_reducible repeat (first | refine blk_drewN ?_ _ | refine blk_drew ?_ | refine blk_alloc ?_ _)); exact BK101.out⟩, ⟨by (with_reducible repeat (first | refine blk_drewN ?_ _ | refine blk_drew ?_ | refine blk_alloc ?_ _)); refine blk_far ?_ NB102_101.out _; (with_reducible repeat (first | refine blk_drewN ?_ _ | refine blk_drew ?_ | refine blk_alloc ?_ _)); refine blk_far ?_ NB102_101.out _; (with_reducible repeat (first | refine blk_drewN ?_ _ | refine blk_drew ?_ | refine blk_alloc ?_ _)); exact BK102.out⟩, ⟨by repeat (first | (with_reducible first | exact HB.out | apply below_alloc | apply pw_below_drewN | apply below_drew1 | refine below_set ?_ GE101.out | refine below_set ?_ GE102.out) | exact HB.out)⟩⟩
        · rw [if_neg c5] at H
          have c5b0 : ((Int.tmod x102000_1 10) == 0) = false := beq_eq_false_iff_ne.mpr c5
          have c5b1 : ((Int.tmod x102000_1 10) != 0) = true := bne_iff_ne.mpr c5
          simp only [Option.some.injEq, Prod.mk.injEq] at H
          obtain ⟨rfl, rfl⟩ := H
          have hnb8 := NB101_102.out
          have hnc8 := NB102_101.out
          have hcz9_0 : wr.cell? ⟨gb101, 0, none⟩ = some (.int .i64 x102000_1) := (blk_cell BK101.out 0).trans rfl
          have hcz9_1 : wr.cell? ⟨gb101, 1, none⟩ = some (.int .i64 x102001_1) := (blk_cell BK101.out 1).trans rfl
          have hfz9_0 := blk_frozen BK101.out 0
          have hfz9_1 := blk_frozen BK101.out 1
          have hcz10_0 : wr.cell? ⟨gb102, 0, none⟩ = some (.int .i64 0) := (blk_cell BK102.out 0).trans rfl
          have hcz10_1 : wr.cell? ⟨gb102, 1, none⟩ = some (.int .i64 0) := (blk_cell BK102.out 1).trans rfl
          have hfz10_0 := blk_frozen BK102.out 0
          have hfz10_1 := blk_frozen BK102.out 1
          go_wp2
          refine bodyPost_ret (results_cell_row rfl _ _ gb102 27 #[.int .i64 x102000_1, .int .i64 x102001_1] (0, 0) _ rfl (by (with_reducible repeat (first | refine blk_drewN ?_ _ | refine blk_drew ?_ | refine blk_alloc ?_ _)); refine blk_put (cs := #[.int .i64 x102000_1, .int .i64 0]) ?_ 1 _ rfl; (with_reducible repeat (first | refine blk_drewN ?_ _ | refine blk_drew ?_ | refine blk_alloc ?_ _)); refine blk_put (cs := #[.int .i64 0, .int .i64 0]) ?_ 0 _ rfl; (with_reducible repeat (first | refine blk_drewN ?_ _ | refine blk_drew ?_ | refine blk_alloc ?_ _)); exact BK102.out) Tryd.underlying27 rfl (by kernel_rfl)) rfl ?_
          exact ⟨by first | rfl | (simp [errW_none, errW_some] <;> rfl) | (simp [*, errW_none, errW_some] <;> rfl), by repeat (first | (with_reducible first | exact HB.out | apply below_alloc | apply pw_below_drewN | apply below_drew1 | refine below_set ?_ GE101.out | refine below_set ?_ GE102.out) | exact HB.out)⟩
      · rw [if_neg c4] at H
        have c4b0 : decide (0 < x102001_1) = false := decide_eq_false c4
        clear c4
        simp only [Option.some.injEq, Prod.mk.injEq] at H
        obtain ⟨rfl, rfl⟩ := H
        have hnb11 := NB101_102.out
        have hnc11 := NB102_101.out
        have hcz12_0 : wr.cell? ⟨gb101, 0, none⟩ = some (.int .i64 x102000_1) := (blk_cell BK101.out 0).trans rfl
        have hcz12_1 : wr.cell? ⟨gb101, 1, none⟩ = some (.int .i64 x102001_1) := (blk_cell BK101.out 1).trans rfl
        have hfz12_0 := blk_frozen BK101.out 0
        have hfz12_1 := blk_frozen BK101.out 1
        have hcz13_0 : wr.cell? ⟨gb102, 0, none⟩ = some (.int .i64 0) := (blk_cell BK102.out 0).trans rfl
        have hcz13_1 : wr.cell? ⟨gb102, 1, none⟩ = some (.int .i64 0) := (blk_cell BK102.out 1).trans rfl
        have hfz13_0 := blk_frozen BK102.out 0
        have hfz13_1 := blk_frozen BK102.out 1
        go_wp2
        refine bodyPost_ret (results_cell_row rfl _ _ gb102 27 #[.int .i64 x102000_1, .int .i64 x102001_1] (0, 0) _ rfl (by (with_reducible repeat (first | refine blk_drewN ?_ _ | refine blk_drew ?_ | refine blk_alloc ?_ _)); refine blk_put (cs := #[.int .i64 x102000_1, .int .i64 0]) ?_ 1 _ rfl; (with_reducible repeat (first | refine blk_drewN ?_ _ | refine blk_drew ?_ | refine blk_alloc ?_ _)); refine blk_put (cs := #[.int .i64 0, .int .i64 0]) ?_ 0 _ rfl; (with_reducible repeat (first | refine blk_drewN ?_ _ | refine blk_drew ?_ | refine blk_alloc ?_ _)); exact BK102.out) Tryd.underlying27 rfl (by kernel_rfl)) rfl ?_
        exact ⟨by first | rfl | (simp [errW_none, errW_some] <;> rfl) | (simp [*, errW_none, errW_some] <;> rfl), by repeat (first | (with_reducible first | exact HB.out | apply below_alloc | apply pw_below_drewN | apply below_drew1 | refine below_set ?_ GE101.out | refine below_set ?_ GE102.out) | exact HB.out)⟩

end Go.Proofs.YtldllfadidepaaaDoor.P
namespace Go.Proofs.YtldllfadidepaaaDoor.P
open Go.RowKit Go.Proofs.YtldllfadidepaaaDoorW.PrintWords Go.Proofs.YtldllfadidepaaaDoorW.PrintLast Go.Proofs.YtldllfadidepaaaDoorW.PrintMore
attribute [local go_sem] max2_int min2_int max_two min_two max_three min_three max_four min_four   -- for this text's walks alone
set_option linter.unusedVariables false
set_option linter.unusedSimpArgs false

/-! ### fixed_fits: function 31 -/
def fixed_fits.f (a0 : Int) : Option (Bool) := if (-100000000) ≤ a0 then (some (decide (a0 ≤ 100000000))) else (some false)
set_option maxHeartbeats 8000000 in
set_option maxRecDepth 100000 in
theorem fixed_fits.calls (a0 : Int) (r : Bool) (w : World) (h : fixed_fits.f a0 = some r) :
    Calls Tryd.prog 31 #[.int .i64 a0] w fun e w' => e = .returned (.bool r) ∧ Drawn0 w w' := by
  have H : (if (-100000000) ≤ a0 then (some (decide (a0 ≤ 100000000))) else (some false)) = some r := h
  clear h
  by_cases c2 : (-100000000) ≤ a0
  · rw [if_pos c2] at H
    have c2b0 : decide ((-100000000) ≤ a0) = true := decide_eq_true c2
    clear c2
    obtain rfl := Option.some.inj H
    go_enter Tryd.func31, Tryd.ntmps31
    go_wp2
    go_ret
    exact ⟨by first | rfl | (simp; done) | (simp [*]; done), by repeat (first | exact Drawn0.refl _ | apply Drawn0.step)⟩
  · rw [if_neg c2] at H
    have c2b0 : decide ((-100000000) ≤ a0) = false := decide_eq_false c2
    clear c2
    obtain rfl := Option.some.inj H
    go_enter Tryd.func31, Tryd.ntmps31
    go_wp2
    go_ret
    exact ⟨by first | rfl | (simp; done) | (simp [*]; done), by repeat (first | exact Drawn0.refl _ | apply Drawn0.step)⟩

end Go.Proofs.YtldllfadidepaaaDoor.P
namespace Go.Proofs.YtldllfadidepaaaDoor.Fx
open Go.RowKit Go.Lib Go.Proofs.YtldllfadidepaaaDoor.Sp

theorem took_calls (g : Nat) (s p : ByteArray) (w : World) (hc : w.cell? ⟨g, 0, none⟩ = some (.string s)) (hz : w.frozen? ⟨g, 0, none⟩ = false) :
    Calls Tryd.prog 27 #[.pointer (some ⟨g, 0, none⟩), .string p] w fun en w' =>
      en = .returned (.bool (Lib.hasPrefix s.data.toList p.data.toList)) ∧ w' = w.setCell ⟨g, 0, none⟩ (.string ⟨(Lib.trimPrefix s.data.toList p.data.toList).toArray⟩) := by
  go_enter Tryd.func27, Tryd.ntmps27
  go_wp2_with (go_at_call 40; refine (Tryd.strings_CutPrefix _ _ _).mono ?_; rintro e w' ⟨rfl, rfl⟩)
  go_ret
  exact ⟨rfl, rfl⟩

/-- what 'digits' leaves behind: the reader's cell holds the rest; nothing below the reader's block has turned -/
def Left (g : Nat) (rest : ByteArray) (w w' : World) : Prop := Below g w w' ∧ w'.cell? ⟨g, 0, none⟩ = some (.string rest) ∧ w'.frozen? ⟨g, 0, none⟩ = false

theorem left_mk {g : Nat} {s rest : ByteArray} {w w1 : World} (hg : g < w.heap.size) (hc : w.cell? ⟨g, 0, none⟩ = some (.string s)) (hz : w.frozen? ⟨g, 0, none⟩ = false) (hB : Below w.heap.size w w1) : Left g rest w (w1.setCell ⟨g, 0, none⟩ (.string rest)) := by
  have h1 : w1.cell? ⟨g, 0, none⟩ = some (.string s) := by rw [hB.cell (p := ⟨g, 0, none⟩) hg, hc]
  have h2 : w1.frozen? ⟨g, 0, none⟩ = false := by rw [hB.frozen (p := ⟨g, 0, none⟩) hg, hz]
  refine ⟨(hB.mono (Nat.le_of_lt hg)).setCell (Nat.le_refl _) _, ?_, ?_⟩
  · exact World.cell?_setCell_same _ _ _ h1
  · rw [World.frozen?_setCell]; exact h2

theorem lt_cell {w : World} {a : Addr} {v : Value} (h : w.cell? a = some v) : a.block < w.heap.size := by
  unfold World.cell? at h
  cases hh : w.heap[a.block]? with
  | none => rw [hh] at h; cases h
  | some o => exact (Array.getElem?_eq_some_iff.1 hh).1

theorem tw_len (l : List UInt8) : (l.dropWhile dig).length = l.length - (l.takeWhile dig).length := by
  have := congrArg List.length (List.takeWhile_append_dropWhile (p := dig) (l := l))
  rw [List.length_append] at this
  omega
theorem str_to (s : ByteArray) : s.extract 0 (s.size - (s.data.toList.dropWhile dig).length) = ⟨(s.data.toList.takeWhile dig).toArray⟩ := by
  apply ByteArray.ext
  rw [ByteArray.data_extract]
  apply Array.ext'
  have h1 : (s.data.toList.takeWhile dig).length ≤ s.data.toList.length := (List.takeWhile_prefix dig).length_le
  have h2 : s.size = s.data.toList.length := by simp
  rw [tw_len, h2, show s.data.toList.length - (s.data.toList.length - (s.data.toList.takeWhile dig).length) = (s.data.toList.takeWhile dig).length from by omega]
  rw [Array.toList_extract, List.extract_eq_take_drop, List.drop_zero, Nat.sub_zero]
  exact (List.prefix_iff_eq_take.1 (List.takeWhile_prefix dig)).symm

theorem toList_eq (s : ByteArray) : s.toList = s.data.toList := ByteArray.toList_eq s
theorem toList_ne {l : List UInt8} (h : l ≠ []) : (⟨l.toArray⟩ : ByteArray).toList.isEmpty = false := by
  rw [toList_eq]
  cases l with
  | nil => exact absurd rfl h
  | cons a r => rfl

theorem digits_ok (g : Nat) (s : ByteArray) (most : Int) (w : World) (hs : s.size ≤ maxLen) (hc : w.cell? ⟨g, 0, none⟩ = some (.string s)) (hz : w.frozen? ⟨g, 0, none⟩ = false)
    (h0 : s.data.toList.takeWhile dig ≠ []) (h1 : ((s.data.toList.takeWhile dig).length : Int) ≤ most) :
    Calls Tryd.prog 28 #[.pointer (some ⟨g, 0, none⟩), .int .i64 most] w fun en w' =>
      en = .returned (.string ⟨(s.data.toList.takeWhile dig).toArray⟩) ∧ Left g ⟨(s.data.toList.dropWhile dig).toArray⟩ w w' := by
  have hcut := cutLeft_calls s hs w
  have hsl := str_to s
  have hlen : (s.data.toList.dropWhile dig).length ≤ s.size := by have := tw_len s.data.toList; have h2 : s.size = s.data.toList.length := by simp
                                                                  omega
  unfold maxLen at hs
  generalize hR : (⟨(s.data.toList.dropWhile dig).toArray⟩ : ByteArray) = R at hcut ⊢
  generalize hD : (⟨(s.data.toList.takeWhile dig).toArray⟩ : ByteArray) = D at hsl ⊢
  have hRs : R.size = (s.data.toList.dropWhile dig).length := by rw [← hR]; simp [ByteArray.size]
  have hDs : D.size = (s.data.toList.takeWhile dig).length := by rw [← hD]; simp [ByteArray.size]
  rw [← hRs] at hsl hlen
  rw [← hDs] at h1
  have hDe : D.toList.isEmpty = false := by
    rw [← hD]; exact toList_ne h0
  have hDn : (!D.toList.isEmpty) = true := by rw [hDe]; rfl
  have h1b : decide ((D.size : Int) ≤ most) = true := decide_eq_true h1
  have HX := Lib.hid hsl
  clear h0 hR hD hRs hDs hsl
  have hg : g < w.heap.size := lt_cell hc
  go_enter Tryd.func28, Tryd.ntmps28
  go_wp2_with (go_at_call 41; refine hcut.mono ?_; rintro e w1 ⟨rfl, hB⟩; have HB := Lib.hid hB; clear hB)
  have hc1 : w1.cell? ⟨g, 0, none⟩ = some (.string s) := by rw [HB.out.cell (p := ⟨g, 0, none⟩) hg, hc]
  have hz1 : w1.frozen? ⟨g, 0, none⟩ = false := by rw [HB.out.frozen (p := ⟨g, 0, none⟩) hg, hz]
  have e1 : IntKind.i64.wrap ((s.size : Int) - (R.size : Int)) = ((s.size - R.size : Nat) : Int) := by rw [IntWalk.i64_left]; unfold wrap64; omega
  go_quiet (fail)
  rw [HX.out]
  clear e1 hlen
  go_wp2_with (go_at_call 30; refine (need_yes 20 _).mono ?_; rintro e w' ⟨rfl, rfl⟩)
  go_ret
  exact ⟨rfl, left_mk hg hc hz (below_drewN HB.out _)⟩

theorem digits_no (g : Nat) (s : ByteArray) (most : Int) (w : World) (hs : s.size ≤ maxLen) (hc : w.cell? ⟨g, 0, none⟩ = some (.string s)) (hz : w.frozen? ⟨g, 0, none⟩ = false)
    (h01 : s.data.toList.takeWhile dig = [] ∨ most < ((s.data.toList.takeWhile dig).length : Int)) :
    Calls Tryd.prog 28 #[.pointer (some ⟨g, 0, none⟩), .int .i64 most] w fun en w' =>
      en = .panicked [{ v := .iface 62 (.int .i64 20), recovered := false }] ∧ Below g w w' := by
  have hcut := cutLeft_calls s hs w
  have hsl := str_to s
  have hlen : (s.data.toList.dropWhile dig).length ≤ s.size := by have := tw_len s.data.toList; have h2 : s.size = s.data.toList.length := by simp
                                                                  omega
  unfold maxLen at hs
  generalize hR : (⟨(s.data.toList.dropWhile dig).toArray⟩ : ByteArray) = R at hcut ⊢
  generalize hD : (⟨(s.data.toList.takeWhile dig).toArray⟩ : ByteArray) = D at hsl ⊢
  have hRs : R.size = (s.data.toList.dropWhile dig).length := by rw [← hR]; simp [ByteArray.size]
  have hDs : D.size = (s.data.toList.takeWhile dig).length := by rw [← hD]; simp [ByteArray.size]
  rw [← hRs] at hsl hlen
  rw [← hDs] at h01
  have hDe : D.toList.isEmpty = true ∨ D.toList.isEmpty = false ∧ most < (D.size : Int) := by
    rcases h01 with h | h
    · left; rw [← hD, h, toList_eq]; rfl
    · by_cases h2 : s.data.toList.takeWhile dig = []
      · left; rw [← hD, h2, toList_eq]; rfl
      · right; exact ⟨by rw [← hD]; exact toList_ne h2, h⟩
  have HX := Lib.hid hsl
  clear h01 hR hD hRs hDs hsl
  have hg : g < w.heap.size := lt_cell hc
  rcases hDe with hDe | ⟨hDe, hm⟩
  · have hDn : (!D.toList.isEmpty) = false := by rw [hDe]; rfl
    go_enter Tryd.func28, Tryd.ntmps28
    go_wp2_with (go_at_call 41; refine hcut.mono ?_; rintro e w1 ⟨rfl, hB⟩; have HB := Lib.hid hB; clear hB)
    have hc1 : w1.cell? ⟨g, 0, none⟩ = some (.string s) := by rw [HB.out.cell (p := ⟨g, 0, none⟩) hg, hc]
    have hz1 : w1.frozen? ⟨g, 0, none⟩ = false := by rw [HB.out.frozen (p := ⟨g, 0, none⟩) hg, hz]
    have e1 : IntKind.i64.wrap ((s.size : Int) - (R.size : Int)) = ((s.size - R.size : Nat) : Int) := by rw [IntWalk.i64_left]; unfold wrap64; omega
    go_quiet (fail)
    rw [HX.out]
    clear e1 hlen
    go_wp2_with (go_at_call 30; refine (need_no 20 _).mono ?_; rintro e w' ⟨rfl, rfl⟩)
    exact ⟨rfl, rfl, (below_drewN HB.out _).mono (Nat.le_of_lt hg)⟩
  · have hDn : (!D.toList.isEmpty) = true := by rw [hDe]; rfl
    have h1b : decide ((D.size : Int) ≤ most) = false := decide_eq_false (by omega)
    go_enter Tryd.func28, Tryd.ntmps28
    go_wp2_with (go_at_call 41; refine hcut.mono ?_; rintro e w1 ⟨rfl, hB⟩; have HB := Lib.hid hB; clear hB)
    have hc1 : w1.cell? ⟨g, 0, none⟩ = some (.string s) := by rw [HB.out.cell (p := ⟨g, 0, none⟩) hg, hc]
    have hz1 : w1.frozen? ⟨g, 0, none⟩ = false := by rw [HB.out.frozen (p := ⟨g, 0, none⟩) hg, hz]
    have e1 : IntKind.i64.wrap ((s.size : Int) - (R.size : Int)) = ((s.size - R.size : Nat) : Int) := by rw [IntWalk.i64_left]; unfold wrap64; omega
    go_quiet (fail)
    rw [HX.out]
    clear e1 hlen
    go_wp2_with (go_at_call 30; refine (need_no 20 _).mono ?_; rintro e w' ⟨rfl, rfl⟩)
    exact ⟨rfl, rfl, (below_drewN HB.out _).mono (Nat.le_of_lt hg)⟩

theorem number_calls (neg : Bool) (s : ByteArray) (n : Int) (hl : s.size ≤ 18) (h : Lib.atoi s.data.toList = some n) (w : World) :
    Calls Tryd.prog 26 #[.bool neg, .string s] w fun en w' => en = .returned (.int .i64 (if neg = true then wrap64 (-n) else n)) ∧ Below w.heap.size w w' := by
  have HB : ∀ t, Hid (Below w.heap.size w (Lib.bytesWorld w 5 t)) := fun t => Lib.bytesWorld_below w _ t
  cases neg with
  | true =>
    go_enter Tryd.func26, Tryd.ntmps26
    go_wp2_with (go_at_call 39; refine (Tryd.strconv_Atoi s n hl h w).mono ?_; rintro e w' ⟨rfl, t, rfl⟩)
    go_ret
    exact ⟨rfl, (HB _).out⟩
  | false =>
    go_enter Tryd.func26, Tryd.ntmps26
    go_wp2_with (go_at_call 39; refine (Tryd.strconv_Atoi s n hl h w).mono ?_; rintro e w' ⟨rfl, t, rfl⟩)
    go_ret
    exact ⟨rfl, (HB _).out⟩
end Go.Proofs.YtldllfadidepaaaDoor.Fx
set_option linter.unusedSimpArgs false
set_option linter.unusedVariables false
namespace Go.Proofs.YtldllfadidepaaaDoor.Fx
open Go.RowKit Go.Lib Go.Proofs.YtldllfadidepaaaDoor.Sp

/-- the world inside Read: the two results' blocks, and the reader's, behind what was there -/
structure Rd (w W : World) (gE gR : Nat) (s : ByteArray) : Prop where
  below : Below w.heap.size w W
  le : w.heap.size < gE
  lt : gE < gR
  size : gR < W.heap.size
  rc : W.cell? ⟨gR, 0, none⟩ = some (.string s)
  rz : W.frozen? ⟨gR, 0, none⟩ = false
  ec : W.cell? ⟨gE, 0, none⟩ = some (.int .i64 0)
  ez : W.frozen? ⟨gE, 0, none⟩ = false
  nb : W.heap[w.heap.size]? = some (.cells #[.int .i64 0, .int .i64 0] 27)

theorem Rd.left {w W W' : World} {gE gR : Nat} {s r : ByteArray} (h : Rd w W gE gR s) (l : Left gR r W W') : Rd w W' gE gR r :=
  ⟨h.below.trans (l.1.mono (Nat.le_of_lt (Nat.lt_trans h.le h.lt))), h.le, h.lt, Nat.lt_of_lt_of_le h.size l.1.size, l.2.1, l.2.2,
    by rw [l.1.cell (p := ⟨gE, 0, none⟩) h.lt, h.ec], by rw [l.1.frozen (p := ⟨gE, 0, none⟩) h.lt, h.ez],
    by rw [l.1.block _ (Nat.lt_trans h.le h.lt), h.nb]⟩
theorem Rd.set {w W : World} {gE gR : Nat} {s : ByteArray} (h : Rd w W gE gR s) (r : ByteArray) : Rd w (W.setCell ⟨gR, 0, none⟩ (.string r)) gE gR r :=
  h.left (left_mk h.size h.rc h.rz (Below.refl _ _))
theorem Rd.on {w W W' : World} {gE gR : Nat} {s : ByteArray} (h : Rd w W gE gR s) (b : Below gR W W') (hs : W'.cell? ⟨gR, 0, none⟩ = some (.string s)) (hz : W'.frozen? ⟨gR, 0, none⟩ = false) : Rd w W' gE gR s :=
  h.left ⟨b, hs, hz⟩
theorem Rd.on' {w W W' : World} {gE gR : Nat} {s : ByteArray} (h : Rd w W gE gR s) (b : Below W.heap.size W W') : Rd w W' gE gR s :=
  h.on (b.mono (Nat.le_of_lt h.size)) (by rw [b.cell (p := ⟨gR, 0, none⟩) h.size, h.rc]) (by rw [b.frozen (p := ⟨gR, 0, none⟩) h.size, h.rz])
theorem Rd.start (w : World) (s : ByteArray) : Rd w (((w.alloc (.cells #[.int .i64 0, .int .i64 0] 27)).alloc (.cells #[.int .i64 0] 23)).alloc (.cells #[.string s] 51)) (w.heap.size + 1) (w.heap.size + 1 + 1) s := by
  have hB1 := (Below.refl w.heap.size w).alloc (Nat.le_refl _) (.cells #[.int .i64 0, .int .i64 0] 27)
  have hB2 := hB1.alloc hB1.size (.cells #[.int .i64 0] 23)
  refine ⟨hB2.alloc hB2.size _, by omega, by omega, by simp, ?_, ?_, ?_, ?_, ?_⟩
  · simp [go_sem]
  · simp [go_sem]
  · simp [go_sem]
  · simp [go_sem]
  · rw [Below.heap_alloc _ _ _ (by simp; omega), Below.heap_alloc _ _ _ (by simp)]
    show (w.heap.push _)[w.heap.size]? = _
    simp

def ReadPost (w : World) (r : Int × Int × Int) (e : Ending) (w' : World) : Prop := e = .returned (.tuple #[.agg #[.int .i64 r.1, .int .i64 r.2.1], .int .i64 r.2.2]) ∧ Below w.heap.size w w'

theorem digitsL_ok (g : Nat) (l : List UInt8) (most : Int) (w : World) (hs : l.length ≤ maxLen) (hc : w.cell? ⟨g, 0, none⟩ = some (.string ⟨l.toArray⟩)) (hz : w.frozen? ⟨g, 0, none⟩ = false)
    (h : ¬ (l.takeWhile dig = [] ∨ most < ((l.takeWhile dig).length : Int))) :
    Calls Tryd.prog 28 #[.pointer (some ⟨g, 0, none⟩), .int .i64 most] w fun en w' =>
      en = .returned (.string ⟨(l.takeWhile dig).toArray⟩) ∧ Left g ⟨(l.dropWhile dig).toArray⟩ w w' :=
  digits_ok g ⟨l.toArray⟩ most w hs hc hz (fun e => h (.inl e)) (Int.not_lt.1 fun e => h (.inr e))
theorem digitsL_no (g : Nat) (l : List UInt8) (most : Int) (w : World) (hs : l.length ≤ maxLen) (hc : w.cell? ⟨g, 0, none⟩ = some (.string ⟨l.toArray⟩)) (hz : w.frozen? ⟨g, 0, none⟩ = false)
    (h : l.takeWhile dig = [] ∨ most < ((l.takeWhile dig).length : Int)) :
    Calls Tryd.prog 28 #[.pointer (some ⟨g, 0, none⟩), .int .i64 most] w fun en w' =>
      en = .panicked [{ v := .iface 62 (.int .i64 20), recovered := false }] ∧ Below g w w' :=
  digits_no g ⟨l.toArray⟩ most w hs hc hz h

theorem tookL (g : Nat) (l : List UInt8) (p : List UInt8) (w : World) (hc : w.cell? ⟨g, 0, none⟩ = some (.string ⟨l.toArray⟩)) (hz : w.frozen? ⟨g, 0, none⟩ = false) :
    Calls Tryd.prog 27 #[.pointer (some ⟨g, 0, none⟩), .string ⟨p.toArray⟩] w fun en w' =>
      en = .returned (.bool (Lib.hasPrefix l p)) ∧ w' = w.setCell ⟨g, 0, none⟩ (.string ⟨(Lib.trimPrefix l p).toArray⟩) :=
  took_calls g ⟨l.toArray⟩ ⟨p.toArray⟩ w hc hz

theorem numberL (neg : Bool) (D Q : ByteArray) (l : List UInt8) (hl : (D ++ Q).data.toList = l) (h0 : l ≠ []) (h18 : l.length ≤ 18) (hd : ∀ c ∈ l, dig c = true) (w : World) :
    Calls Tryd.prog 26 #[.bool neg, .string (D ++ Q)] w fun en w' => en = .returned (.int .i64 (sgn neg l)) ∧ Below w.heap.size w w' := by
  have hsz : (D ++ Q).size = l.length := by rw [← hl]; simp
  have hv := dv_le18 l hd h18
  refine (number_calls neg (D ++ Q) (dv l) (by omega) (by rw [hl]; exact atoi_dv l h0 hd) w).mono ?_
  rintro e w' ⟨rfl, hB⟩
  refine ⟨?_, hB⟩
  cases neg with
  | true => simp only [if_true, sgn]; congr 2; unfold wrap64; omega
  | false => simp [sgn]
theorem numberD (neg : Bool) (l : List UInt8) (h0 : l ≠ []) (h18 : l.length ≤ 18) (hd : ∀ c ∈ l, dig c = true) (w : World) :
    Calls Tryd.prog 26 #[.bool neg, .string ⟨l.toArray⟩] w fun en w' => en = .returned (.int .i64 (sgn neg l)) ∧ Below w.heap.size w w' := by
  have := numberL neg ⟨l.toArray⟩ ⟨#[]⟩ l (by simp) h0 h18 hd w
  rwa [show (⟨l.toArray⟩ : ByteArray) ++ ⟨#[]⟩ = ⟨l.toArray⟩ from by apply ByteArray.ext; simp] at this
theorem sgn_bd (neg : Bool) (l : List UInt8) (hd : ∀ c ∈ l, dig c = true) (h18 : l.length ≤ 18) : -1000000000000000000 < sgn neg l ∧ sgn neg l < 1000000000000000000 := by
  have hv := dv_le18 l hd h18
  unfold sgn
  split <;> omega
theorem leastF (s : Nat) (hs : s ≤ 1000000) : ∀ (m : Int), -1000000000000000000 < m → m < 1000000000000000000 → P.fixed_Least.l0 (s + 1) m s = some (least m s) := by
  induction s with
  | zero => intro m _ _; simp only [P.fixed_Least.l0, least]; rw [if_neg (by omega)]; rfl
  | succ s ih =>
    intro m h1 h2
    simp only [P.fixed_Least.l0, least]
    rw [if_pos (by omega)]
    by_cases hm : m.tmod 10 = 0
    · rw [if_pos hm, if_pos hm]
      have e1 : wrap64 (m.tdiv 10) = m.tdiv 10 := by unfold wrap64; have := Int.tdiv_eq_ediv_of_dvd (Int.dvd_of_tmod_eq_zero hm); omega
      have e2 : wrap64 (((s + 1 : Nat) : Int) - 1) = (s : Int) := by unfold wrap64; omega
      rw [e1, e2]
      have e3 := Int.tdiv_eq_ediv_of_dvd (Int.dvd_of_tmod_eq_zero hm)
      exact ih (by omega) _ (by omega) (by omega)
    · rw [if_neg hm, if_neg hm]
theorem least_calls (m : Int) (s : Nat) (z : Int) (hz : z = (s : Int)) (hs : s ≤ 1000000) (h1 : -1000000000000000000 < m) (h2 : m < 1000000000000000000) (w : World) :
    Calls Tryd.prog 18 #[.agg #[.int .i64 m, .int .i64 z]] w fun e w' => e = .returned (.agg #[.int .i64 (least m s).1, .int .i64 (least m s).2]) ∧ Below w.heap.size w w' :=
  hz ▸ P.fixed_Least.calls (s + 1) m s (least m s).1 (least m s).2 w (leastF s hs m h1 h2)
theorem fits_calls (m : Int) (w : World) :
    Calls Tryd.prog 31 #[.int .i64 m] w fun e w' => e = .returned (.bool (fitsB m)) ∧ Below w.heap.size w w' := by
  refine (P.fixed_fits.calls m (fitsB m) w ?_).mono ?_
  · unfold P.fixed_fits.f fitsB
    by_cases h : (-100000000 : Int) ≤ m
    · rw [if_pos h]; simp [h]
    · rw [if_neg h]; simp [h]
  · rintro e w' ⟨rfl, hd⟩
    exact ⟨rfl, hd.below⟩

theorem door_fault {w W : World} {gE : Nat} (hB : Below w.heap.size w W) (hle : w.heap.size < gE) (hec : W.cell? ⟨gE, 0, none⟩ = some (.int .i64 0)) (hez : W.frozen? ⟨gE, 0, none⟩ = false)
    (hnb : W.heap[w.heap.size]? = some (.cells #[.int .i64 0, .int .i64 0] 27)) (code : Int) (T : Array Value)
    (h2 : T[2]?.getD undef = .pointer (some ⟨w.heap.size, 0, none⟩)) (h3 : T[3]?.getD undef = .pointer (some ⟨gE, 0, none⟩)) (Q : Ending → World → Prop) (hQ : ReadPost w (0, 0, code) = Q) :
    Leaves Tryd.prog Tryd.f13 T Q [{ target := Target.fn (Fn.func 33) #[.pointer (some ⟨gE, 0, none⟩)], args := #[] }] (.panicking [{ v := .iface 62 (.int .i64 code), recovered := false }]) W := by
  subst hQ
  refine leaves_cons (f := 33) (args := #[.pointer (some ⟨gE, 0, none⟩)]) (by simp) (by simp [go_sem]) ?_
  refine (readD_fault ⟨gE, 0, none⟩ code _ [] W hec hez).mono ?_
  rintro e u' w'' ⟨rfl, rfl, rfl⟩
  have hn0 : (W.setCell ⟨gE, 0, none⟩ (.int .i64 code)).heap[w.heap.size]? = some (.cells #[.int .i64 0, .int .i64 0] 27) := by
    rw [Below.heap_setCell _ _ _ _ (Nat.ne_of_lt hle), hnb]
  have hc1 : (W.setCell ⟨gE, 0, none⟩ (.int .i64 code)).cell? ⟨gE, 0, none⟩ = some (.int .i64 code) := World.cell?_setCell_same _ _ _ hec
  have hB1 : Below w.heap.size w (W.setCell ⟨gE, 0, none⟩ (.int .i64 code)) := hB.setCell (Nat.le_of_lt hle) _
  generalize W.setCell ⟨gE, 0, none⟩ (.int .i64 code) = W1 at *
  have c0 : W1.cell? ⟨w.heap.size, 0, none⟩ = some (.int .i64 0) := by simp [World.cell?, hn0]
  have c1 : W1.cell? ⟨w.heap.size, 1, none⟩ = some (.int .i64 0) := by simp [World.cell?, hn0]
  simp [Leaves, settle, results, Tryd.results13, go_sem, h2, h3, c0, c1, hc1, ReadPost, hB1]

theorem door_ret {w W : World} {gE : Nat} (hB : Below w.heap.size w W) (a b : Int) (hec : W.cell? ⟨gE, 0, none⟩ = some (.int .i64 0))
    (c0 : W.cell? ⟨w.heap.size, 0, none⟩ = some (.int .i64 a)) (c1 : W.cell? ⟨w.heap.size, 1, none⟩ = some (.int .i64 b)) (T : Array Value)
    (h2 : T[2]?.getD undef = .pointer (some ⟨w.heap.size, 0, none⟩)) (h3 : T[3]?.getD undef = .pointer (some ⟨gE, 0, none⟩)) (Q : Ending → World → Prop) (hQ : ReadPost w (a, b, 0) = Q) :
    Leaves Tryd.prog Tryd.f13 T Q [{ target := Target.fn (Fn.func 33) #[.pointer (some ⟨gE, 0, none⟩)], args := #[] }] .returning W := by
  subst hQ
  refine leaves_cons (f := 33) (args := #[.pointer (some ⟨gE, 0, none⟩)]) (by simp) (by simp [go_sem]) ?_
  refine (readD_idle ⟨gE, 0, none⟩ W).mono ?_
  rintro e u' w'' ⟨rfl, rfl, rfl⟩
  simp [Leaves, settle, results, Tryd.results13, go_sem, h2, h3, c0, c1, hec, ReadPost, hB]

section
variable {l l1 d r r1 q r2 : List UInt8} {neg : Bool}
theorem all_app {a b : List UInt8} (ha : ∀ c ∈ a, dig c = true) (hb : ∀ c ∈ b, dig c = true) : ∀ c ∈ a ++ b, dig c = true := fun c hc => (List.mem_append.1 hc).elim (ha c) (hb c)
theorem cnd {a : List UInt8} {k : Nat} (h : ¬ (a = [] ∨ (k : Int) < (a.length : Int))) : ¬ (a = [] ∨ k < a.length) := fun e => h (e.imp id (by omega))
theorem specA (h1 : Lib.trimPrefix l [45] = l1) (h2 : Lib.hasPrefix l [45] = neg) (h3 : ¬ (l1.takeWhile dig = [] ∨ (12 : Int) < ((l1.takeWhile dig).length : Int))) (h4 : l1.takeWhile dig = d) (h5 : l1.dropWhile dig = r)
    (h6 : Lib.hasPrefix r [46] = false) (h7 : r = []) : readS l = finS neg d 0 := by
  unfold readS
  rw [h1, if_neg (cnd (k := 12) h3), h5, h6, if_neg (by simp), if_neg (by simp [h7]), h2, h4]
theorem specAN (h1 : Lib.trimPrefix l [45] = l1) (h3 : ¬ (l1.takeWhile dig = [] ∨ (12 : Int) < ((l1.takeWhile dig).length : Int))) (h5 : l1.dropWhile dig = r)
    (h6 : Lib.hasPrefix r [46] = false) (h7 : ¬ r = []) : readS l = (0, 0, 20) := by
  unfold readS
  rw [h1, if_neg (cnd (k := 12) h3), h5, h6, if_neg (by simp), if_pos h7]
theorem specQ (h1 : Lib.trimPrefix l [45] = l1) (h3 : ¬ (l1.takeWhile dig = [] ∨ (12 : Int) < ((l1.takeWhile dig).length : Int))) (h5 : l1.dropWhile dig = r)
    (h6 : Lib.hasPrefix r [46] = true) (h8 : Lib.trimPrefix r [46] = r1) (h9 : r1.takeWhile dig = [] ∨ (6 : Int) < ((r1.takeWhile dig).length : Int)) : readS l = (0, 0, 20) := by
  unfold readS
  rw [h1, if_neg (cnd (k := 12) h3), h5, h6, if_pos rfl, h8, if_pos (h9.imp id (by omega))]
theorem specB (h1 : Lib.trimPrefix l [45] = l1) (h2 : Lib.hasPrefix l [45] = neg) (h3 : ¬ (l1.takeWhile dig = [] ∨ (12 : Int) < ((l1.takeWhile dig).length : Int))) (h4 : l1.takeWhile dig = d) (h5 : l1.dropWhile dig = r)
    (h6 : Lib.hasPrefix r [46] = true) (h8 : Lib.trimPrefix r [46] = r1) (h9 : ¬ (r1.takeWhile dig = [] ∨ (6 : Int) < ((r1.takeWhile dig).length : Int))) (h10 : r1.takeWhile dig = q) (h11 : r1.dropWhile dig = r2) (h12 : r2 = []) :
    readS l = finS neg (d ++ q) q.length := by
  unfold readS
  rw [h1, if_neg (cnd (k := 12) h3), h5, h6, if_pos rfl, h8, if_neg (cnd (k := 6) h9), h11, if_neg (by simp [h12]), h2, h4, h10]
theorem specBN (h1 : Lib.trimPrefix l [45] = l1) (h3 : ¬ (l1.takeWhile dig = [] ∨ (12 : Int) < ((l1.takeWhile dig).length : Int))) (h5 : l1.dropWhile dig = r)
    (h6 : Lib.hasPrefix r [46] = true) (h8 : Lib.trimPrefix r [46] = r1) (h9 : ¬ (r1.takeWhile dig = [] ∨ (6 : Int) < ((r1.takeWhile dig).length : Int))) (h11 : r1.dropWhile dig = r2) (h12 : ¬ r2 = []) :
    readS l = (0, 0, 20) := by
  unfold readS
  rw [h1, if_neg (cnd (k := 12) h3), h5, h6, if_pos rfl, h8, if_neg (cnd (k := 6) h9), h11, if_pos h12]
end

theorem read_calls (s : ByteArray) (hs : s.size ≤ maxLen) (w : World) :
    Calls Tryd.prog 13 #[.string s] w (ReadPost w (readS s.data.toList)) := by
  have hmf : ∀ (fn : Fn) (first cap : Array Value) (w : World), (Instr.makeFunc fn first cap).run Tryd.prog w = .ok (.func fn first cap) w := fun _ _ _ _ => rfl
  go_enter_defers Tryd.func13, Tryd.ntmps13
  go_wp2_with fail
  have R0 := Rd.start w s
  generalize (((w.alloc (.cells #[.int .i64 0, .int .i64 0] 27)).alloc (.cells #[.int .i64 0] 23)).alloc (.cells #[.string s] 51)) = W at R0 ⊢
  generalize w.heap.size + 1 + 1 = gR at R0 ⊢
  generalize w.heap.size + 1 = gE at R0 ⊢
  refine (took_calls gR s ⟨#[45]⟩ W R0.rc R0.rz).mono ?_
  rintro e w1 ⟨rfl, rfl⟩
  have R1 := R0.set ⟨(Lib.trimPrefix s.data.toList [45]).toArray⟩
  clear R0
  have hl1 := trim_len s.data.toList [45]
  rw [show (s.data.toList).length = s.size from by simp] at hl1
  generalize W.setCell ⟨gR, 0, none⟩ (.string ⟨(Lib.trimPrefix s.data.toList [45]).toArray⟩) = W1 at R1 ⊢
  generalize hneg : Lib.hasPrefix s.data.toList [45] = neg
  generalize hlt : Lib.trimPrefix s.data.toList [45] = l1 at R1 hl1
  have HN := Lib.hid hneg
  have HL := Lib.hid hlt
  clear hneg hlt
  by_cases hd : l1.takeWhile dig = [] ∨ (12 : Int) < ((l1.takeWhile dig).length : Int)
  · have HD := Lib.hid hd
    clear hd
    have hrc := R1.rc
    have hrz := R1.rz
    go_wp2_with (go_at_call 28; refine (digitsL_no gR l1 12 W1 (by omega) R1.rc R1.rz HD.out).mono ?_; rintro e w2 ⟨rfl, hB⟩)
    refine door_fault (R1.below.trans (hB.mono (Nat.le_of_lt (Nat.lt_trans R1.le R1.lt)))) R1.le ?_ ?_ ?_ 20 _ rfl rfl _ ?_
    · rw [hB.cell (p := ⟨gE, 0, none⟩) R1.lt, R1.ec]
    · rw [hB.frozen (p := ⟨gE, 0, none⟩) R1.lt, R1.ez]
    · rw [hB.block _ (Nat.lt_trans R1.le R1.lt), R1.nb]
    · unfold readS; rw [HL.out, if_pos]
      rcases HD.out with h | h
      · exact .inl h
      · exact .inr (by omega)
  · have HD := Lib.hid hd
    clear hd
    go_wp2_with (go_at_call 28; refine (digitsL_ok gR l1 12 W1 (by omega) R1.rc R1.rz HD.out).mono ?_; rintro e w2 ⟨rfl, hL⟩)
    have R2 := R1.left hL
    clear R1 hL W1
    generalize hd1 : l1.takeWhile dig = d
    generalize hr1 : l1.dropWhile dig = r at R2
    have HD1 := Lib.hid hd1
    have HR1 := Lib.hid hr1
    clear hd1 hr1
    have hl2 : r.length ≤ l1.length := by rw [← HR1.out]; exact (List.dropWhile_suffix dig).length_le
    refine (tookL gR r [46] w2 R2.rc R2.rz).mono ?_
    rintro e w3 ⟨rfl, rfl⟩
    have R3 := R2.set ⟨(Lib.trimPrefix r [46]).toArray⟩
    clear R2
    generalize w2.setCell ⟨gR, 0, none⟩ (.string ⟨(Lib.trimPrefix r [46]).toArray⟩) = W3 at R3 ⊢
    have hl3 := trim_len r [46]
    by_cases hp : Lib.hasPrefix r [46] = true
    · have HP := Lib.hid hp
      rw [hp]
      clear hp
      generalize hr1 : Lib.trimPrefix r [46] = r1 at R3 hl3
      have HR2 := Lib.hid hr1
      clear hr1
      by_cases hq : r1.takeWhile dig = [] ∨ (6 : Int) < ((r1.takeWhile dig).length : Int)
      · have HQ := Lib.hid hq
        clear hq
        go_wp2_with (go_at_call 28; refine (digitsL_no gR r1 6 W3 (by omega) R3.rc R3.rz HQ.out).mono ?_; rintro e w2 ⟨rfl, hB⟩)
        refine door_fault (R3.below.trans (hB.mono (Nat.le_of_lt (Nat.lt_trans R3.le R3.lt)))) R3.le ?_ ?_ ?_ 20 _ rfl rfl _ ?_
        · rw [hB.cell (p := ⟨gE, 0, none⟩) R3.lt, R3.ec]
        · rw [hB.frozen (p := ⟨gE, 0, none⟩) R3.lt, R3.ez]
        · rw [hB.block _ (Nat.lt_trans R3.le R3.lt), R3.nb]
        · rw [specQ HL.out HD.out HR1.out HP.out HR2.out HQ.out]
      have HQ := Lib.hid hq
      clear hq
      go_wp2_with (go_at_call 28; refine (digitsL_ok gR r1 6 W3 (by omega) R3.rc R3.rz HQ.out).mono ?_; rintro e w2 ⟨rfl, hL⟩)
      have R5 := R3.left hL
      clear R3 hL W3
      generalize hq1 : r1.takeWhile dig = q
      generalize hr2 : r1.dropWhile dig = r2 at R5
      have HQ1 := Lib.hid hq1
      have HR3 := Lib.hid hr2
      clear hq1 hr2
      have HDl : Hid ((⟨d.toArray⟩ : ByteArray).data.toList = d) := rfl
      have hdd : ∀ c ∈ d, dig c = true := by rw [← HD1.out]; exact tw_dig l1
      have hdn : d ≠ [] := by rw [← HD1.out]; exact fun e => HD.out (.inl e)
      have hd12 : d.length ≤ 12 := by rw [← HD1.out]; have := HD.out; omega
      have hDs : (⟨d.toArray⟩ : ByteArray).size ≤ 12 := hd12
      generalize (⟨d.toArray⟩ : ByteArray) = D at hDs HDl ⊢
      have HQl : Hid ((⟨q.toArray⟩ : ByteArray).data.toList = q) := rfl
      have hqd : ∀ c ∈ q, dig c = true := by rw [← HQ1.out]; exact tw_dig r1
      have hq6 : q.length ≤ 6 := by rw [← HQ1.out]; have := HQ.out; omega
      have hQs : (⟨q.toArray⟩ : ByteArray).size ≤ 6 := hq6
      have hQe : ((⟨q.toArray⟩ : ByteArray).size : Int) = ((q.length : Nat) : Int) := rfl
      have HQe := Lib.hid hQe
      clear hQe
      generalize (⟨q.toArray⟩ : ByteArray) = Q at hQs HQl HQe ⊢
      by_cases he : r2 = []
      · rw [he] at R5
        go_wp2_with (go_at_call 29; refine (end_yes gR _ R5.rc).mono ?_; rintro e w' ⟨rfl, rfl⟩)
        have HE := Lib.hid he
        clear he
        have hsg := sgn_bd neg (d ++ q) (all_app hdd hqd) (by rw [List.length_append]; omega)
        go_wp2_with (go_at_call 26; refine (numberL neg D Q (d ++ q) (by rw [ByteArray.data_append, Array.toList_append, HDl.out, HQl.out]) (fun e => hdn (List.append_eq_nil_iff.1 e).1) (by rw [List.length_append]; omega) (all_app hdd hqd) _).mono ?_; rintro e w4 ⟨rfl, hB⟩; have R4 := R5.on' hB; clear hB R5)
        generalize hm : sgn neg (d ++ q) = m at hsg ⊢
        have HM := Lib.hid hm
        clear hm
        go_wp2_with (go_at_call 18; refine (least_calls m q.length _ HQe.out (by omega) hsg.1 hsg.2 _).mono ?_; rintro e w5 ⟨rfl, hB⟩; have R5 := R4.on' hB; clear hB R4)
        generalize ha : (least m q.length).1 = a
        generalize hb : (least m q.length).2 = b
        have HAB := Lib.hid (And.intro ha hb)
        clear ha hb
        have R6 := R5.on' ((Below.refl w5.heap.size w5).alloc (Nat.le_refl _) (.cells #[.int .i64 a, .int .i64 b] 27))
        have k0 : (w5.alloc (.cells #[.int .i64 a, .int .i64 b] 27)).cell? ⟨w5.heap.size, 0, none⟩ = some (.int .i64 a) := by simp [go_sem]
        have k1 : (w5.alloc (.cells #[.int .i64 a, .int .i64 b] 27)).cell? ⟨w5.heap.size, 1, none⟩ = some (.int .i64 b) := by simp [go_sem]
        have k2 : w5.heap.size < (w5.alloc (.cells #[.int .i64 a, .int .i64 b] 27)).heap.size := by simp
        have k3 : w.heap.size < w5.heap.size := Nat.lt_trans (Nat.lt_trans R5.le R5.lt) R5.size
        clear R5
        generalize w5.alloc (.cells #[.int .i64 a, .int .i64 b] 27) = W6 at R6 k0 k1 k2 ⊢
        generalize w5.heap.size = gM at k0 k1 k2 k3 ⊢
        refine (fits_calls a W6).mono ?_
        rintro e w7 ⟨rfl, hB7⟩
        have R7 := R6.on' hB7
        have c0 : w7.cell? ⟨gM, 0, none⟩ = some (.int .i64 a) := by rw [hB7.cell (p := ⟨gM, 0, none⟩) k2, k0]
        have c1 : w7.cell? ⟨gM, 1, none⟩ = some (.int .i64 b) := by rw [hB7.cell (p := ⟨gM, 1, none⟩) k2, k1]
        clear hB7 k0 k1 k2 R6
        cases hf : fitsB a with
        | false =>
          have HF := Lib.hid hf
          clear hf
          go_wp2_with (go_at_call 30; refine (need_no 2 _).mono ?_; rintro e w' ⟨rfl, rfl⟩)
          refine door_fault R7.below R7.le R7.ec R7.ez R7.nb 2 _ rfl rfl _ ?_
          rw [specB HL.out HN.out HD.out HD1.out HR1.out HP.out HR2.out HQ.out HQ1.out HR3.out HE.out]
          unfold finS
          rw [HM.out, HAB.out.1, HF.out]
          rfl
        | true =>
          have HF := Lib.hid hf
          clear hf
          have n0 : w7.cell? ⟨w.heap.size, 0, none⟩ = some (.int .i64 0) := by simp [World.cell?, R7.nb]
          have n1 : w7.cell? ⟨w.heap.size, 1, none⟩ = some (.int .i64 0) := by simp [World.cell?, R7.nb]
          have z0 : w7.frozen? ⟨w.heap.size, 0, none⟩ = false := by simp [World.frozen?, R7.nb]
          have z1 : w7.frozen? ⟨w.heap.size, 1, none⟩ = false := by simp [World.frozen?, R7.nb]
          have ec := R7.ec
          have ez := R7.ez
          have ne := Nat.ne_of_lt R7.le
          go_wp2_with (go_at_call 30; refine (need_yes 2 _).mono ?_; rintro e w' ⟨rfl, rfl⟩)
          refine door_ret (((R7.below.setCell (Nat.le_refl _) _).setCell (Nat.le_refl _) _).setCell (Nat.le_of_lt R7.le) _) a b ?_ ?_ ?_ _ rfl rfl _ ?_
          · simp [go_sem, n0, n1, ec, ne]
          · simp [go_sem, n0, n1, ec, ne]
          · simp [go_sem, n0, n1, ec, ne]
          · rw [specB HL.out HN.out HD.out HD1.out HR1.out HP.out HR2.out HQ.out HQ1.out HR3.out HE.out]
            unfold finS
            rw [HM.out, HAB.out.1, HAB.out.2, HF.out]
            rfl
      · have HE := Lib.hid he
        clear he
        go_wp2_with (go_at_call 29; refine (end_no gR ⟨r2.toArray⟩ _ R5.rc (toList_ne HE.out)).mono ?_; rintro e w' ⟨rfl, rfl⟩)
        refine door_fault R5.below R5.le R5.ec R5.ez R5.nb 20 _ rfl rfl _ ?_
        rw [specBN HL.out HD.out HR1.out HP.out HR2.out HQ.out HR3.out HE.out]
    · have hp' : Lib.hasPrefix r [46] = false := by simpa using hp
      have ht : Lib.trimPrefix r [46] = r := by unfold Lib.trimPrefix; rw [if_neg hp]
      rw [ht] at R3
      have HP := Lib.hid hp'
      rw [hp']
      clear hp hp' ht
      have HDl : Hid ((⟨d.toArray⟩ : ByteArray).data.toList = d) := rfl
      have hdd : ∀ c ∈ d, dig c = true := by rw [← HD1.out]; exact tw_dig l1
      have hdn : d ≠ [] := by rw [← HD1.out]; exact fun e => HD.out (.inl e)
      have hd12 : d.length ≤ 12 := by rw [← HD1.out]; have := HD.out; omega
      have hDs : (⟨d.toArray⟩ : ByteArray).size ≤ 12 := hd12
      generalize (⟨d.toArray⟩ : ByteArray) = D at hDs HDl ⊢
      by_cases he : r = []
      · rw [he] at R3
        go_wp2_with (go_at_call 29; refine (end_yes gR _ R3.rc).mono ?_; rintro e w' ⟨rfl, rfl⟩)
        have HE := Lib.hid he
        clear he
        have hsg := sgn_bd neg (d) hdd (by omega)
        go_wp2_with (go_at_call 26; refine (numberL neg D ⟨#[]⟩ (d) (by rw [← HDl.out]; simp) hdn (by omega) hdd _).mono ?_; rintro e w4 ⟨rfl, hB⟩; have R4 := R3.on' hB; clear hB R3)
        generalize hm : sgn neg (d) = m at hsg ⊢
        have HM := Lib.hid hm
        clear hm
        go_wp2_with (go_at_call 18; refine (least_calls m 0 _ rfl (by omega) hsg.1 hsg.2 _).mono ?_; rintro e w5 ⟨rfl, hB⟩; have R5 := R4.on' hB; clear hB R4)
        generalize ha : (least m 0).1 = a
        generalize hb : (least m 0).2 = b
        have HAB := Lib.hid (And.intro ha hb)
        clear ha hb
        have R6 := R5.on' ((Below.refl w5.heap.size w5).alloc (Nat.le_refl _) (.cells #[.int .i64 a, .int .i64 b] 27))
        have k0 : (w5.alloc (.cells #[.int .i64 a, .int .i64 b] 27)).cell? ⟨w5.heap.size, 0, none⟩ = some (.int .i64 a) := by simp [go_sem]
        have k1 : (w5.alloc (.cells #[.int .i64 a, .int .i64 b] 27)).cell? ⟨w5.heap.size, 1, none⟩ = some (.int .i64 b) := by simp [go_sem]
        have k2 : w5.heap.size < (w5.alloc (.cells #[.int .i64 a, .int .i64 b] 27)).heap.size := by simp
        have k3 : w.heap.size < w5.heap.size := Nat.lt_trans (Nat.lt_trans R5.le R5.lt) R5.size
        clear R5
        generalize w5.alloc (.cells #[.int .i64 a, .int .i64 b] 27) = W6 at R6 k0 k1 k2 ⊢
        generalize w5.heap.size = gM at k0 k1 k2 k3 ⊢
        refine (fits_calls a W6).mono ?_
        rintro e w7 ⟨rfl, hB7⟩
        have R7 := R6.on' hB7
        have c0 : w7.cell? ⟨gM, 0, none⟩ = some (.int .i64 a) := by rw [hB7.cell (p := ⟨gM, 0, none⟩) k2, k0]
        have c1 : w7.cell? ⟨gM, 1, none⟩ = some (.int .i64 b) := by rw [hB7.cell (p := ⟨gM, 1, none⟩) k2, k1]
        clear hB7 k0 k1 k2 R6
        cases hf : fitsB a with
        | false =>
          have HF := Lib.hid hf
          clear hf
          go_wp2_with (go_at_call 30; refine (need_no 2 _).mono ?_; rintro e w' ⟨rfl, rfl⟩)
          refine door_fault R7.below R7.le R7.ec R7.ez R7.nb 2 _ rfl rfl _ ?_
          rw [specA HL.out HN.out HD.out HD1.out HR1.out HP.out HE.out]
          unfold finS
          rw [HM.out, HAB.out.1, HF.out]
          rfl
        | true =>
          have HF := Lib.hid hf
          clear hf
          have n0 : w7.cell? ⟨w.heap.size, 0, none⟩ = some (.int .i64 0) := by simp [World.cell?, R7.nb]
          have n1 : w7.cell? ⟨w.heap.size, 1, none⟩ = some (.int .i64 0) := by simp [World.cell?, R7.nb]
          have z0 : w7.frozen? ⟨w.heap.size, 0, none⟩ = false := by simp [World.frozen?, R7.nb]
          have z1 : w7.frozen? ⟨w.heap.size, 1, none⟩ = false := by simp [World.frozen?, R7.nb]
          have ec := R7.ec
          have ez := R7.ez
          have ne := Nat.ne_of_lt R7.le
          go_wp2_with (go_at_call 30; refine (need_yes 2 _).mono ?_; rintro e w' ⟨rfl, rfl⟩)
          refine door_ret (((R7.below.setCell (Nat.le_refl _) _).setCell (Nat.le_refl _) _).setCell (Nat.le_of_lt R7.le) _) a b ?_ ?_ ?_ _ rfl rfl _ ?_
          · simp [go_sem, n0, n1, ec, ne]
          · simp [go_sem, n0, n1, ec, ne]
          · simp [go_sem, n0, n1, ec, ne]
          · rw [specA HL.out HN.out HD.out HD1.out HR1.out HP.out HE.out]
            unfold finS
            rw [HM.out, HAB.out.1, HAB.out.2, HF.out]
            rfl
      · have HE := Lib.hid he
        clear he
        go_wp2_with (go_at_call 29; refine (end_no gR ⟨r.toArray⟩ _ R3.rc (toList_ne HE.out)).mono ?_; rintro e w' ⟨rfl, rfl⟩)
        refine door_fault R3.below R3.le R3.ec R3.ez R3.nb 20 _ rfl rfl _ ?_
        rw [specAN HL.out HD.out HR1.out HP.out HE.out]

/-! Int -/
structure RdI (w W : World) (gR : Nat) (s : ByteArray) : Prop where
  below : Below w.heap.size w W
  lt : w.heap.size < gR
  size : gR < W.heap.size
  rc : W.cell? ⟨gR, 0, none⟩ = some (.string s)
  rz : W.frozen? ⟨gR, 0, none⟩ = false
  ec : W.cell? ⟨w.heap.size, 0, none⟩ = some (.int .i64 0)
  ez : W.frozen? ⟨w.heap.size, 0, none⟩ = false
theorem RdI.left {w W W' : World} {gR : Nat} {s r : ByteArray} (h : RdI w W gR s) (l : Left gR r W W') : RdI w W' gR r :=
  ⟨h.below.trans (l.1.mono (Nat.le_of_lt h.lt)), h.lt, Nat.lt_of_lt_of_le h.size l.1.size, l.2.1, l.2.2,
    by rw [l.1.cell (p := ⟨w.heap.size, 0, none⟩) h.lt, h.ec], by rw [l.1.frozen (p := ⟨w.heap.size, 0, none⟩) h.lt, h.ez]⟩
theorem RdI.set {w W : World} {gR : Nat} {s : ByteArray} (h : RdI w W gR s) (r : ByteArray) : RdI w (W.setCell ⟨gR, 0, none⟩ (.string r)) gR r :=
  h.left (left_mk h.size h.rc h.rz (Below.refl _ _))
theorem RdI.on' {w W W' : World} {gR : Nat} {s : ByteArray} (h : RdI w W gR s) (b : Below W.heap.size W W') : RdI w W' gR s :=
  h.left ⟨b.mono (Nat.le_of_lt h.size), by rw [b.cell (p := ⟨gR, 0, none⟩) h.size, h.rc], by rw [b.frozen (p := ⟨gR, 0, none⟩) h.size, h.rz]⟩
theorem RdI.start (w : World) (s : ByteArray) : RdI w ((w.alloc (.cells #[.int .i64 0] 23)).alloc (.cells #[.string s] 51)) (w.heap.size + 1) s := by
  have hB1 := (Below.refl w.heap.size w).alloc (Nat.le_refl _) (.cells #[.int .i64 0] 23)
  refine ⟨hB1.alloc hB1.size _, by omega, by simp, ?_, ?_, ?_, ?_⟩
  · simp [go_sem]
  · simp [go_sem]
  · simp [go_sem]
  · simp [go_sem]
def IntPost (w : World) (r : Int × Int) (e : Ending) (w' : World) : Prop := e = .returned (.tuple #[.int .i64 r.1, .int .i64 r.2]) ∧ Below w.heap.size w w'
theorem doorI_fault {w W : World} (hB : Below w.heap.size w W) (hec : W.cell? ⟨w.heap.size, 0, none⟩ = some (.int .i64 0)) (hez : W.frozen? ⟨w.heap.size, 0, none⟩ = false)
    (code : Int) (T : Array Value) (h2 : T[2]?.getD undef = .int .i64 0) (h3 : T[3]?.getD undef = .pointer (some ⟨w.heap.size, 0, none⟩)) (Q : Ending → World → Prop) (hQ : IntPost w (0, code) = Q) :
    Leaves Tryd.prog Tryd.f11 T Q [{ target := Target.fn (Fn.func 24) #[.pointer (some ⟨w.heap.size, 0, none⟩)], args := #[] }] (.panicking [{ v := .iface 62 (.int .i64 code), recovered := false }]) W := by
  subst hQ
  refine leaves_cons (f := 24) (args := #[.pointer (some ⟨w.heap.size, 0, none⟩)]) (by simp) (by simp [go_sem]) ?_
  refine (intD_fault ⟨w.heap.size, 0, none⟩ code _ [] W hec hez).mono ?_
  rintro e u' w'' ⟨rfl, rfl, rfl⟩
  have hc1 : (W.setCell ⟨w.heap.size, 0, none⟩ (.int .i64 code)).cell? ⟨w.heap.size, 0, none⟩ = some (.int .i64 code) := World.cell?_setCell_same _ _ _ hec
  have hB1 : Below w.heap.size w (W.setCell ⟨w.heap.size, 0, none⟩ (.int .i64 code)) := hB.setCell (Nat.le_refl _) _
  generalize W.setCell ⟨w.heap.size, 0, none⟩ (.int .i64 code) = W1 at *
  simp [Leaves, settle, results, Tryd.results11, go_sem, h2, h3, hc1, IntPost, hB1]
theorem doorI_ret {w W : World} (hB : Below w.heap.size w W) (a : Int) (hec : W.cell? ⟨w.heap.size, 0, none⟩ = some (.int .i64 0)) (T : Array Value)
    (h2 : T[2]?.getD undef = .int .i64 a) (h3 : T[3]?.getD undef = .pointer (some ⟨w.heap.size, 0, none⟩)) (Q : Ending → World → Prop) (hQ : IntPost w (a, 0) = Q) :
    Leaves Tryd.prog Tryd.f11 T Q [{ target := Target.fn (Fn.func 24) #[.pointer (some ⟨w.heap.size, 0, none⟩)], args := #[] }] .returning W := by
  subst hQ
  refine leaves_cons (f := 24) (args := #[.pointer (some ⟨w.heap.size, 0, none⟩)]) (by simp) (by simp [go_sem]) ?_
  refine (intD_idle ⟨w.heap.size, 0, none⟩ W).mono ?_
  rintro e u' w'' ⟨rfl, rfl, rfl⟩
  simp [Leaves, settle, results, Tryd.results11, go_sem, h2, h3, hec, IntPost, hB]

section
variable {l l1 d r : List UInt8} {neg : Bool} {m : Int}
theorem ispecQ (h1 : Lib.trimPrefix l [45] = l1) (h3 : l1.takeWhile dig = [] ∨ (12 : Int) < ((l1.takeWhile dig).length : Int)) : intS l = (0, 20) := by
  unfold intS
  rw [h1, if_pos (h3.imp id (by omega))]
theorem ispecN (h1 : Lib.trimPrefix l [45] = l1) (h3 : ¬ (l1.takeWhile dig = [] ∨ (12 : Int) < ((l1.takeWhile dig).length : Int))) (h5 : l1.dropWhile dig = r) (h7 : ¬ r = []) : intS l = (0, 20) := by
  unfold intS
  rw [h1, if_neg (cnd (k := 12) h3), h5, if_pos h7]
theorem ispec (h1 : Lib.trimPrefix l [45] = l1) (h2 : Lib.hasPrefix l [45] = neg) (h3 : ¬ (l1.takeWhile dig = [] ∨ (12 : Int) < ((l1.takeWhile dig).length : Int))) (h4 : l1.takeWhile dig = d) (h5 : l1.dropWhile dig = r) (h7 : r = []) (hm : sgn neg d = m) :
    intS l = if fitsB m = true then (m, 0) else (0, 2) := by
  unfold intS
  rw [h1, if_neg (cnd (k := 12) h3), h5, if_neg (by simp [h7]), h2, h4, hm]
end

theorem int_calls (s : ByteArray) (hs : s.size ≤ maxLen) (w : World) :
    Calls Tryd.prog 11 #[.string s] w (IntPost w (intS s.data.toList)) := by
  have hmf : ∀ (fn : Fn) (first cap : Array Value) (w : World), (Instr.makeFunc fn first cap).run Tryd.prog w = .ok (.func fn first cap) w := fun _ _ _ _ => rfl
  go_enter_defers Tryd.func11, Tryd.ntmps11
  go_wp2_with fail
  have R0 := RdI.start w s
  generalize ((w.alloc (.cells #[.int .i64 0] 23)).alloc (.cells #[.string s] 51)) = W at R0 ⊢
  generalize w.heap.size + 1 = gR at R0 ⊢
  refine (took_calls gR s ⟨#[45]⟩ W R0.rc R0.rz).mono ?_
  rintro e w1 ⟨rfl, rfl⟩
  have R1 := R0.set ⟨(Lib.trimPrefix s.data.toList [45]).toArray⟩
  clear R0
  have hl1 := trim_len s.data.toList [45]
  rw [show (s.data.toList).length = s.size from by simp] at hl1
  generalize W.setCell ⟨gR, 0, none⟩ (.string ⟨(Lib.trimPrefix s.data.toList [45]).toArray⟩) = W1 at R1 ⊢
  generalize hneg : Lib.hasPrefix s.data.toList [45] = neg
  generalize hlt : Lib.trimPrefix s.data.toList [45] = l1 at R1 hl1
  have HN := Lib.hid hneg
  have HL := Lib.hid hlt
  clear hneg hlt
  by_cases hd : l1.takeWhile dig = [] ∨ (12 : Int) < ((l1.takeWhile dig).length : Int)
  · have HD := Lib.hid hd
    clear hd
    go_wp2_with (go_at_call 28; refine (digitsL_no gR l1 12 W1 (by omega) R1.rc R1.rz HD.out).mono ?_; rintro e w2 ⟨rfl, hB⟩)
    refine doorI_fault (R1.below.trans (hB.mono (Nat.le_of_lt R1.lt))) ?_ ?_ 20 _ rfl rfl _ ?_
    · rw [hB.cell (p := ⟨w.heap.size, 0, none⟩) R1.lt, R1.ec]
    · rw [hB.frozen (p := ⟨w.heap.size, 0, none⟩) R1.lt, R1.ez]
    · rw [ispecQ HL.out HD.out]
  · have HD := Lib.hid hd
    clear hd
    go_wp2_with (go_at_call 28; refine (digitsL_ok gR l1 12 W1 (by omega) R1.rc R1.rz HD.out).mono ?_; rintro e w2 ⟨rfl, hL⟩)
    have R3 := R1.left hL
    clear R1 hL W1
    generalize hd1 : l1.takeWhile dig = d
    generalize hr1 : l1.dropWhile dig = r at R3
    have HD1 := Lib.hid hd1
    have HR1 := Lib.hid hr1
    clear hd1 hr1
    have hdd : ∀ c ∈ d, dig c = true := by rw [← HD1.out]; exact tw_dig l1
    have hdn : d ≠ [] := by rw [← HD1.out]; exact fun e => HD.out (.inl e)
    have hd12 : d.length ≤ 12 := by rw [← HD1.out]; have := HD.out; omega
    go_wp2_with (go_at_call 26; refine (numberD neg d hdn (by omega) hdd _).mono ?_; rintro e w4 ⟨rfl, hB⟩; have R4 := R3.on' hB; clear hB R3)
    generalize hm : sgn neg d = m
    have HM := Lib.hid hm
    clear hm
    by_cases he : r = []
    · rw [he] at R4
      have HE := Lib.hid he
      clear he
      go_wp2_with (go_at_call 29; refine (end_yes gR _ R4.rc).mono ?_; rintro e w' ⟨rfl, rfl⟩)
      refine (fits_calls m _).mono ?_
      rintro e w7 ⟨rfl, hB7⟩
      have R7 := R4.on' hB7
      clear hB7 R4
      cases hf : fitsB m with
      | false =>
        have HF := Lib.hid hf
        clear hf
        go_wp2_with (go_at_call 30; refine (need_no 2 _).mono ?_; rintro e w' ⟨rfl, rfl⟩)
        refine doorI_fault R7.below R7.ec R7.ez 2 _ rfl rfl _ ?_
        rw [ispec HL.out HN.out HD.out HD1.out HR1.out HE.out HM.out, HF.out]
        rfl
      | true =>
        have HF := Lib.hid hf
        clear hf
        have ec := R7.ec
        have ez := R7.ez
        go_wp2_with (go_at_call 30; refine (need_yes 2 _).mono ?_; rintro e w' ⟨rfl, rfl⟩)
        refine doorI_ret (R7.below.setCell (Nat.le_refl _) _) m ?_ _ rfl rfl _ ?_
        · simp [go_sem, ec]
        · rw [ispec HL.out HN.out HD.out HD1.out HR1.out HE.out HM.out, HF.out]
          rfl
    · have HE := Lib.hid he
      clear he
      go_wp2_with (go_at_call 29; refine (end_no gR ⟨r.toArray⟩ _ R4.rc (toList_ne HE.out)).mono ?_; rintro e w' ⟨rfl, rfl⟩)
      refine doorI_fault R4.below R4.ec R4.ez 20 _ rfl rfl _ ?_
      rw [ispecN HL.out HD.out HR1.out HE.out]
end Go.Proofs.YtldllfadidepaaaDoor.Fx
namespace Go.Proofs.YtldllfadidepaaaDoor.P
open Go.RowKit Go.Proofs.YtldllfadidepaaaDoor.Sp
def fixed_Read.f (a0 : ByteArray) : Option (Int × Int × Int) := if a0.size ≤ 9223372036854775807 then some (readS a0.data.toList) else none
theorem fixed_Read.calls (a0 : ByteArray) (r1 : Int) (r2 : Int) (r3 : Int) (w : World) (h : fixed_Read.f a0 = some (r1, r2, r3)) :
    Calls Tryd.prog 13 #[.string a0] w fun e w' => e = .returned (.tuple #[.agg #[.int .i64 r1, .int .i64 r2], .int .i64 r3]) ∧ Below w.heap.size w w' := by
  unfold fixed_Read.f at h
  split at h
  · rename_i hs
    have h' := Option.some.inj h
    refine (Fx.read_calls a0 (by unfold maxLen; omega) w).mono ?_
    rintro e w' ⟨he, hb⟩
    rw [h'] at he
    exact ⟨he, hb⟩
  · cases h
def fixed_Int.f (a0 : ByteArray) : Option (Int × Int) := if a0.size ≤ 9223372036854775807 then some (intS a0.data.toList) else none
theorem fixed_Int.calls (a0 : ByteArray) (r1 : Int) (r2 : Int) (w : World) (h : fixed_Int.f a0 = some (r1, r2)) :
    Calls Tryd.prog 11 #[.string a0] w fun e w' => e = .returned (.tuple #[.int .i64 r1, .int .i64 r2]) ∧ Below w.heap.size w w' := by
  unfold fixed_Int.f at h
  split at h
  · rename_i hs
    have h' := Option.some.inj h
    refine (Fx.int_calls a0 (by unfold maxLen; omega) w).mono ?_
    rintro e w' ⟨he, hb⟩
    rw [h'] at he
    exact ⟨he, hb⟩
  · cases h
end Go.Proofs.YtldllfadidepaaaDoor.P
namespace Go.Proofs.YtldllfadidepaaaDoor
open Go.RowKit
/-- 'internal/strconv.uint64pow10' lies as its initialiser lays it. -/
def Tabs (w : World) : Prop := Lib.TabBelow Tryd.prog w.heap.size w "internal/strconv.uint64pow10" .u64 Lib.pow10Tab
theorem Tabs.kept {w w' : World} (h : Tabs w) (hb : Below w.heap.size w w') : Tabs w' :=
  fun w'' hb' => h w'' (hb.trans (hb'.mono hb.size))
theorem Tabs.here {w : World} (h : Tabs w) : Lib.TabIs Tryd.prog w "internal/strconv.uint64pow10" .u64 Lib.pow10Tab := Lib.TabBelow.here h
end Go.Proofs.YtldllfadidepaaaDoor
namespace Go.Proofs.YtldllfadidepaaaDoor.P
open Go.RowKit

theorem grow_below (w : World) (k : Nat) (os : Array Obj) : Below w.heap.size w (Go.Sort.grow (w.drewN k) os) := by
  refine (below_drewN (Below.refl _ w) k).trans ⟨rfl, rfl, rfl, ?_, ?_⟩
  · simp [Go.Sort.grow]
  · intro b hb
    have hlt : b < (w.drewN k).heap.size := hb
    show ((w.drewN k).heap ++ os)[b]? = _
    rw [Array.getElem?_append_left hlt]

def strconv_Itoa.f (a0 : Int) : Option ByteArray := if -9223372036854775808 ≤ a0 ∧ a0 ≤ 9223372036854775807 then some ⟨(Lib.itoa a0).toArray⟩ else none
theorem strconv_Itoa.calls (a0 : Int) (r : ByteArray) (w : World) (hT : Tabs w) (h : strconv_Itoa.f a0 = some r) :
    Calls Tryd.prog 35 #[.int .i64 a0] w fun e w' => e = .returned (.string r) ∧ Below w.heap.size w w' := by
  unfold strconv_Itoa.f at h
  split at h
  · rename_i hb
    obtain rfl := Option.some.inj h
    exact (Tryd.strconv_Itoa a0 hb.1 hb.2 w hT.here).mono fun e w' ⟨he, k, os, hw⟩ => ⟨he, hw ▸ grow_below w k os⟩
  · cases h

def strings_Repeat.f (a0 : ByteArray) (a1 : Int) : Option ByteArray := if 0 ≤ a1 ∧ a1 ≤ 9223372036854775807 ∧ a0.size * a1.toNat ≤ 140737488355328 then some ⟨(Lib.repeatL a0.data.toList a1.toNat).toArray⟩ else none
theorem strings_Repeat.calls (a0 : ByteArray) (a1 : Int) (r : ByteArray) (w : World) (h : strings_Repeat.f a0 a1 = some r) :
    Calls Tryd.prog 36 #[.string a0, .int .i64 a1] w fun e w' => e = .returned (.string r) ∧ Below w.heap.size w w' := by
  unfold strings_Repeat.f at h
  split at h
  · rename_i hb
    obtain rfl := Option.some.inj h
    obtain ⟨n, rfl⟩ := Int.eq_ofNat_of_zero_le hb.1
    have := Tryd.strings_Repeat a0 n w (by omega) (by simpa using hb.2.2)
    simpa using this
  · cases h
end Go.Proofs.YtldllfadidepaaaDoor.P
set_option linter.unusedSimpArgs false
set_option linter.unusedVariables false
namespace Go.Proofs.YtldllfadidepaaaDoor.Fx
open Go.RowKit Go.Lib Go.Proofs.YtldllfadidepaaaDoor.Sp

structure Pr (w W : World) (m s : Int) : Prop where
  below : Below w.heap.size w W
  size : w.heap.size < W.heap.size
  c0 : W.cell? ⟨w.heap.size, 0, none⟩ = some (.int .i64 m)
  c1 : W.cell? ⟨w.heap.size, 1, none⟩ = some (.int .i64 s)
theorem Pr.on {w W W' : World} {m s : Int} (h : Pr w W m s) (b : Below W.heap.size W W') : Pr w W' m s :=
  ⟨h.below.trans (b.mono (Nat.le_of_lt h.size)), Nat.lt_of_lt_of_le h.size b.size, by rw [b.cell (p := ⟨w.heap.size, 0, none⟩) h.size, h.c0], by rw [b.cell (p := ⟨w.heap.size, 1, none⟩) h.size, h.c1]⟩
theorem Pr.start (w : World) (m s : Int) : Pr w (w.alloc (.cells #[.int .i64 m, .int .i64 s] 27)) m s :=
  ⟨(Below.refl _ _).alloc (Nat.le_refl _) _, by simp, by simp [go_sem], by simp [go_sem]⟩

theorem itoa_max (m : Int) : Lib.itoa (max m (-m)) = Lib.decDigits m.natAbs := by
  unfold Lib.itoa
  rw [if_neg (by omega)]
  congr 1
  omega
theorem repL (n : Nat) : Lib.repeatL [48] n = List.replicate n 48 := by
  induction n with
  | zero => rfl
  | succ n ih => rw [Lib.repeatL, ih]; rfl
theorem from_list (E : ByteArray) (l : List UInt8) (h : E.data.toList = l) : E = ⟨l.toArray⟩ := by
  apply ByteArray.ext
  apply Array.ext'
  simpa using h
theorem ext_take (E : ByteArray) (l : List UInt8) (h : E.data.toList = l) (k : Nat) : (E.extract 0 k).data.toList = l.take k := by
  rw [ByteArray.data_extract, Array.toList_extract, List.extract_eq_take_drop, h]; simp
theorem ext_drop (E : ByteArray) (l : List UInt8) (h : E.data.toList = l) (k : Nat) : (E.extract k E.size).data.toList = l.drop k := by
  rw [ByteArray.data_extract, Array.toList_extract, List.extract_eq_take_drop, h]
  exact List.take_of_length_le (by rw [List.length_drop, ← h]; simp)

def PrintPost (w : World) (l : List UInt8) (e : Ending) (w' : World) : Prop := e = .returned (.string ⟨l.toArray⟩) ∧ Below w.heap.size w w'

set_option maxRecDepth 100000 in
set_option maxHeartbeats 1000000 in
theorem print_walk (m : Int) (s : Nat) (hm1 : -4611686018427387904 ≤ m) (hm2 : m ≤ 4611686018427387904) (hs : s ≤ 1000000) (hdl : (Lib.decDigits m.natAbs).length ≤ 100)
    (w : World) (hT : Tabs w) :
    Calls Tryd.prog 16 #[.agg #[.int .i64 m, .int .i64 s]] w (PrintPost w (printS m s)) := by
  have HT := Lib.hid hT
  clear hT
  have hu := Tryd.underlying27
  go_enter Tryd.func16, Tryd.ntmps16
  go_wp2_with fail
  have R0 := Pr.start w m s
  generalize w.alloc (.cells #[.int .i64 m, .int .i64 s] 27) = W at R0 ⊢
  generalize hmx : max m (-m) = mx
  refine (P.strconv_Itoa.calls mx ⟨(Lib.decDigits m.natAbs).toArray⟩ W (HT.out.kept R0.below) (by unfold P.strconv_Itoa.f; rw [if_pos (by omega), ← hmx, itoa_max])).mono ?_
  rintro e w1 ⟨rfl, hB⟩
  have R1 := R0.on hB
  clear hB R0 hmx W
  generalize hpad : Lib.decDigits m.natAbs = dd at hdl
  have HP := Lib.hid hpad
  clear hpad
  have c0 := R1.c0
  have c1 := R1.c1
  have hDs : (⟨dd.toArray⟩ : ByteArray).size = dd.length := rfl
  have HDl : Hid ((⟨dd.toArray⟩ : ByteArray).data.toList = dd) := rfl
  generalize (⟨dd.toArray⟩ : ByteArray) = D at hDs HDl ⊢
  have hDs1 : D.size ≤ dd.length := by omega
  have hDs2 : dd.length ≤ D.size := by omega
  clear hDs
  go_upto_if 20 with (fail)
  go_cut [3] (fun v3 wc => ∃ E : ByteArray, v3 = .string E ∧ Hid (E.data.toList = padS m s ∧ Pr w wc m s ∧ E.size ≤ 1000200 ∧ s < E.size))
  case first =>
    by_cases hlack : dd.length < s + 1
    · have hrep : P.strings_Repeat.f ⟨#[48]⟩ ((s : Int) + 1 - (D.size : Int)) = some ⟨(List.replicate (s + 1 - dd.length) 48).toArray⟩ := by
        unfold P.strings_Repeat.f
        rw [show ((s : Int) + 1 - (D.size : Int)).toNat = s + 1 - dd.length from by omega, if_pos (by refine ⟨by omega, by omega, ?_⟩; show 1 * _ ≤ _; omega), repL]
      have HR := Lib.hid hrep
      clear hrep
      go_wp2_with fail
      have hsz : (⟨(List.replicate (s + 1 - dd.length) 48).toArray⟩ : ByteArray).size = s + 1 - dd.length := by simp [ByteArray.size]
      have hRl : (⟨(List.replicate (s + 1 - dd.length) 48).toArray⟩ : ByteArray).data.toList = List.replicate (s + 1 - dd.length) 48 := by simp
      have hca := P.strings_Repeat.calls _ _ _ w1 HR.out
      generalize (⟨(List.replicate (s + 1 - dd.length) 48).toArray⟩ : ByteArray) = Rp at hsz hRl hca
      have HRl := Lib.hid hRl
      have hrs : Rp.size ≤ 1000001 := by omega
      have HSZ := Lib.hid hsz
      clear hRl hsz
      refine hca.mono ?_
      clear hca
      rintro e w2 ⟨rfl, hB⟩
      have R2 := R1.on hB
      clear hB R1 c0 c1
      go_wp2_with fail
      go_meet
      case rel =>
        refine ⟨_, rfl, ?_, R2, ?_, ?_⟩
        · rw [ByteArray.data_append, Array.toList_append, HRl.out, HDl.out]; unfold padS; rw [HP.out]
        · rw [ByteArray.size_append, HSZ.out]; omega
        · rw [ByteArray.size_append, HSZ.out]; omega
    · go_wp2_with fail
      go_meet
      case rel =>
        refine ⟨_, rfl, ?_, R1, ?_, ?_⟩
        · rw [HDl.out]; unfold padS; rw [HP.out, show s + 1 - dd.length = 0 from by omega]; rfl
        · omega
        · omega
  case rest =>
    obtain ⟨E, rfl, H⟩ := hcut
    clear R1 c0 c1
    have R3 := H.out.2.1
    have c0 := R3.c0
    have c1 := R3.c1
    have he1 : E.size ≤ 1000200 := H.out.2.2.1
    have he2 : s < E.size := H.out.2.2.2
    go_upto_if 32 with (fail)
    rw [show ((E.size : Int) - (s : Int)) = ((E.size - s : Nat) : Int) from by omega]
    go_cut [3] (fun v3 wc => ∃ E2 : ByteArray, v3 = .string E2 ∧ Hid (E2.data.toList = (if 0 < s then (padS m s).take ((padS m s).length - s) ++ 46 :: (padS m s).drop ((padS m s).length - s) else padS m s) ∧ Pr w wc m s ∧ E2.size ≤ 1000300))
    case first =>
      by_cases hs0 : 0 < s
      · have hlen : (padS m s).length = E.size := by rw [← H.out.1]; simp
        have hxl := ext_take E (padS m s) H.out.1 (E.size - s)
        have hxr := ext_drop E (padS m s) H.out.1 (E.size - s)
        have hx1 : (E.extract 0 (E.size - s)).size ≤ 1000200 := by rw [ByteArray.size_extract]; omega
        have hx2 : (E.extract (E.size - s) E.size).size ≤ 1000200 := by rw [ByteArray.size_extract]; omega
        have hx3 : (E.extract 0 (E.size - s)).size + (E.extract (E.size - s) E.size).size ≤ 1000200 := by rw [ByteArray.size_extract, ByteArray.size_extract]; omega
        have HX := Lib.hid (And.intro hxl (And.intro hxr hlen))
        clear hxl hxr hlen
        have hk : E.size - s ≤ E.size := by omega
        go_wp2_with fail
        go_quiet (fail)
        go_wp2_with fail
        go_meet
        case rel =>
          obtain ⟨hxl, hxr, hlen⟩ := HX.out
          refine ⟨_, rfl, ?_, R3.on (below_drewN (Below.refl _ _) _), ?_⟩
          · rw [if_pos hs0, ByteArray.data_append, ByteArray.data_append, Array.toList_append, Array.toList_append, hxl, hxr, hlen]
            simp
          · rw [ByteArray.size_append, ByteArray.size_append]
            have : (⟨#[46]⟩ : ByteArray).size = 1 := rfl
            omega
      · have hs1 : s ≤ 0 := by omega
        have HS0 := Lib.hid hs0
        clear hs0
        go_wp2_with fail
        go_meet
        case rel => exact ⟨_, rfl, by rw [if_neg HS0.out]; exact H.out.1, R3, by omega⟩
    case rest =>
      obtain ⟨E2, rfl, H2⟩ := hcut
      clear c0 c1 R3
      have c0 := H2.out.2.1.c0
      have c1 := H2.out.2.1.c1
      have he3 : E2.size ≤ 1000300 := H2.out.2.2
      by_cases hneg : m < 0
      · go_wp2_with fail
        go_ret
        refine ⟨ret_str (from_list _ _ ?_), H2.out.2.1.below⟩
        rw [ByteArray.data_append, Array.toList_append, H2.out.1]
        unfold printS
        rw [if_pos hneg]
      · go_wp2_with fail
        go_ret
        refine ⟨ret_str (from_list _ _ ?_), H2.out.2.1.below⟩
        rw [H2.out.1]
        unfold printS
        rw [if_neg (show ¬ m < 0 by omega)]
        rfl
end Go.Proofs.YtldllfadidepaaaDoor.Fx
namespace Go.Proofs.YtldllfadidepaaaDoor.P
open Go.RowKit Go.Proofs.YtldllfadidepaaaDoor.Sp
def fixed_Print.f (a0_0 : Int) (a0_1 : Int) : Option ByteArray := if -1000000000000000000 ≤ a0_0 ∧ a0_0 ≤ 1000000000000000000 ∧ 0 ≤ a0_1 ∧ a0_1 ≤ 1000000 then some ⟨(printS a0_0 a0_1.toNat).toArray⟩ else none
theorem nd_le : ∀ (k u : Nat), u < 10 ^ (k + 1) → Lib.nDigits u ≤ k + 1
  | 0, u, h => by rw [Lib.nDigits_small (by simpa using h)]; exact Nat.le_refl _
  | k + 1, u, h => by
    by_cases h1 : u < 10
    · rw [Lib.nDigits_small h1]; omega
    · rw [Lib.nDigits_big h1]
      have := nd_le k (u / 10) (by rw [Nat.pow_succ] at h; omega)
      omega
theorem digs_len (n : Nat) (h : n ≤ 1000000000000000000) : (Lib.decDigits n).length ≤ 100 := by
  rw [Lib.decDigits_length]
  have := nd_le 18 n (by omega)
  omega
theorem fixed_Print.calls (a0_0 : Int) (a0_1 : Int) (r : ByteArray) (w : World) (hT : Tabs w) (h : fixed_Print.f a0_0 a0_1 = some r) :
    Calls Tryd.prog 16 #[.agg #[.int .i64 a0_0, .int .i64 a0_1]] w fun e w' => e = .returned (.string r) ∧ Below w.heap.size w w' := by
  unfold fixed_Print.f at h
  split at h
  · rename_i hs
    obtain rfl := Option.some.inj h
    obtain ⟨s, rfl⟩ := Int.eq_ofNat_of_zero_le hs.2.2.1
    exact Fx.print_walk a0_0 s (by omega) (by omega) (by omega) (digs_len _ (by omega)) w hT
  · cases h
end Go.Proofs.YtldllfadidepaaaDoor.P
namespace Go.Proofs.YtldllfadidepaaaDoor.P
open Go.RowKit Go.Proofs.YtldllfadidepaaaDoorW.PrintWords Go.Proofs.YtldllfadidepaaaDoorW.PrintLast Go.Proofs.YtldllfadidepaaaDoorW.PrintMore
attribute [local go_sem] max2_int min2_int max_two min_two max_three min_three max_four min_four   -- for this text's walks alone
set_option linter.unusedVariables false
set_option linter.unusedSimpArgs false

/-! ### cmp_isNaN_int: function 49 -/
def cmp_isNaN_int.f (a0 : Int) : Option (Bool) := some (a0 != a0)
set_option maxHeartbeats 8000000 in
set_option maxRecDepth 100000 in
theorem cmp_isNaN_int.calls (a0 : Int) (r : Bool) (w : World) (h : cmp_isNaN_int.f a0 = some r) :
    Calls Tryd.prog 49 #[.int .i64 a0] w fun e w' => e = .returned (.bool r) ∧ Drawn0 w w' := by
  have H : (some (a0 != a0)) = some r := h
  clear h
  obtain rfl := Option.some.inj H
  go_enter Tryd.func49, Tryd.ntmps49
  go_wp2
  go_ret
  exact ⟨by first | rfl | (simp; done) | (simp [*]; done), by repeat (first | exact Drawn0.refl _ | apply Drawn0.step)⟩

end Go.Proofs.YtldllfadidepaaaDoor.P
namespace Go.Proofs.YtldllfadidepaaaDoor.P
open Go.RowKit Go.Proofs.YtldllfadidepaaaDoorW.PrintWords Go.Proofs.YtldllfadidepaaaDoorW.PrintLast Go.Proofs.YtldllfadidepaaaDoorW.PrintMore
attribute [local go_sem] max2_int min2_int max_two min_two max_three min_three max_four min_four   -- for this text's walks alone
set_option linter.unusedVariables false
set_option linter.unusedSimpArgs false

/-! ### cmp_Compare_int: function 37 -/
def cmp_Compare_int.f (a0 : Int) (a1 : Int) : Option (Int) := (cmp_isNaN_int.f a0).bind fun t101 => ((cmp_isNaN_int.f a1).bind fun t102 => (if t101 = true then (if t102 = true then (some 0) else (some (-1))) else (if t102 = true then (some 1) else (if a0 < a1 then (some (-1)) else (if a0 > a1 then (some 1) else (some 0))))))
set_option maxHeartbeats 8000000 in
set_option maxRecDepth 100000 in
theorem cmp_Compare_int.calls (a0 : Int) (a1 : Int) (r : Int) (w : World) (h : cmp_Compare_int.f a0 a1 = some r) :
    Calls Tryd.prog 37 #[.int .i64 a0, .int .i64 a1] w fun e w' => e = .returned (.int .i64 r) ∧ Drawn0 w w' := by
  have H : ((cmp_isNaN_int.f a0).bind fun t101 => ((cmp_isNaN_int.f a1).bind fun t102 => (if t101 = true then (if t102 = true then (some 0) else (some (-1))) else (if t102 = true then (some 1) else (if a0 < a1 then (some (-1)) else (if a0 > a1 then (some 1) else (some 0))))))) = some r := h
  clear h
  replace H := Option.bind_eq_some_iff.mp H
  obtain ⟨t101, A30, H⟩ := H
  replace H : ((cmp_isNaN_int.f a1).bind fun t102 => (if t101 = true then (if t102 = true then (some 0) else (some (-1))) else (if t102 = true then (some 1) else (if a0 < a1 then (some (-1)) else (if a0 > a1 then (some 1) else (some 0)))))) = some r := H
  have A3 := Aside0.mk A30
  clear A30
  replace H := Option.bind_eq_some_iff.mp H
  obtain ⟨t102, A40, H⟩ := H
  replace H : (if t101 = true then (if t102 = true then (some 0) else (some (-1))) else (if t102 = true then (some 1) else (if a0 < a1 then (some (-1)) else (if a0 > a1 then (some 1) else (some 0))))) = some r := H
  have A4 := Aside0.mk A40
  clear A40
  by_cases c5 : t101 = true
  · subst c5
    have H1 : (if t102 = true then (some 0) else (some (-1))) = some r := by rw [if_pos rfl] at H; exact H
    clear H
    have H := H1
    clear H1
    by_cases c6 : t102 = true
    · subst c6
      have H1 : (some 0) = some r := by rw [if_pos rfl] at H; exact H
      clear H
      have H := H1
      clear H1
      obtain rfl := Option.some.inj H
      go_enter Tryd.func37, Tryd.ntmps37
      go_wp2_with (first | ((with_reducible refine gate_callee (f := 49) rfl ?_); refine goesL_ (some 8) rfl rfl Tryd.func49 (by kernel_rfl) rfl #[.int .i64 a0] rfl (by (try simp only [List.map_toArray, List.map_cons, List.map_nil]); first | done | rfl | (simp only [List.length_drop, List.length_take]; rfl)) ?_; (with_reducible refine (cmp_isNaN_int.calls a0 true _ A3.out).mono ?_); rintro e w' ⟨rfl, ⟨nd, rfl⟩⟩; refine ⟨_, rfl, ?_⟩) | ((with_reducible refine gate_callee (f := 49) rfl ?_); refine goesL_ (some 10) rfl rfl Tryd.func49 (by kernel_rfl) rfl #[.int .i64 a1] rfl (by (try simp only [List.map_toArray, List.map_cons, List.map_nil]); first | done | rfl | (simp only [List.length_drop, List.length_take]; rfl)) ?_; (with_reducible refine (cmp_isNaN_int.calls a1 true _ A4.out).mono ?_); rintro e w' ⟨rfl, ⟨nd, rfl⟩⟩; refine ⟨_, rfl, ?_⟩))
      go_ret
      exact ⟨by first | rfl | (simp; done) | (simp [*]; done), by repeat (first | exact Drawn0.refl _ | apply Drawn0.step)⟩
    · replace c6 := Bool.eq_false_iff.mpr c6
      subst c6
      have H1 : (some (-1)) = some r := by rw [if_neg (show ¬ (false = true) by decide)] at H; exact H
      clear H
      have H := H1
      clear H1
      obtain rfl := Option.some.inj H
      go_enter Tryd.func37, Tryd.ntmps37
      go_wp2_with (first | ((with_reducible refine gate_callee (f := 49) rfl ?_); refine goesL_ (some 8) rfl rfl Tryd.func49 (by kernel_rfl) rfl #[.int .i64 a0] rfl (by (try simp only [List.map_toArray, List.map_cons, List.map_nil]); first | done | rfl | (simp only [List.length_drop, List.length_take]; rfl)) ?_; (with_reducible refine (cmp_isNaN_int.calls a0 true _ A3.out).mono ?_); rintro e w' ⟨rfl, ⟨nd, rfl⟩⟩; refine ⟨_, rfl, ?_⟩) | ((with_reducible refine gate_callee (f := 49) rfl ?_); refine goesL_ (some 10) rfl rfl Tryd.func49 (by kernel_rfl) rfl #[.int .i64 a1] rfl (by (try simp only [List.map_toArray, List.map_cons, List.map_nil]); first | done | rfl | (simp only [List.length_drop, List.length_take]; rfl)) ?_; (with_reducible refine (cmp_isNaN_int.calls a1 false _ A4.out).mono ?_); rintro e w' ⟨rfl, ⟨nd, rfl⟩⟩; refine ⟨_, rfl, ?_⟩))
      go_ret
      exact ⟨by first | rfl | (simp; done) | (simp [*]; done), by repeat (first | exact Drawn0.refl _ | apply Drawn0.step)⟩
  · replace c5 := Bool.eq_false_iff.mpr c5
    subst c5
    have H1 : (if t102 = true then (some 1) else (if a0 < a1 then (some (-1)) else (if a0 > a1 then (some 1) else (some 0)))) = some r := by rw [if_neg (show ¬ (false = true) by decide)] at H; exact H
    clear H
    have H := H1
    clear H1
    by_cases c7 : t102 = true
    · subst c7
      have H1 : (some 1) = some r := by rw [if_pos rfl] at H; exact H
      clear H
      have H := H1
      clear H1
      obtain rfl := Option.some.inj H
      go_enter Tryd.func37, Tryd.ntmps37
      go_wp2_with (first | ((with_reducible refine gate_callee (f := 49) rfl ?_); refine goesL_ (some 8) rfl rfl Tryd.func49 (by kernel_rfl) rfl #[.int .i64 a0] rfl (by (try simp only [List.map_toArray, List.map_cons, List.map_nil]); first | done | rfl | (simp only [List.length_drop, List.length_take]; rfl)) ?_; (with_reducible refine (cmp_isNaN_int.calls a0 false _ A3.out).mono ?_); rintro e w' ⟨rfl, ⟨nd, rfl⟩⟩; refine ⟨_, rfl, ?_⟩) | ((with_reducible refine gate_callee (f := 49) rfl ?_); refine goesL_ (some 10) rfl rfl Tryd.func49 (by kernel_rfl) rfl #[.int .i64 a1] rfl (by (try simp only [List.map_toArray, List.map_cons, List.map_nil]); first | done | rfl | (simp only [List.length_drop, List.length_take]; rfl)) ?_; (with_reducible refine (cmp_isNaN_int.calls a1 true _ A4.out).mono ?_); rintro e w' ⟨rfl, ⟨nd, rfl⟩⟩; refine ⟨_, rfl, ?_⟩))
      go_ret
      exact ⟨by first | rfl | (simp; done) | (simp [*]; done), by repeat (first | exact Drawn0.refl _ | apply Drawn0.step)⟩
    · replace c7 := Bool.eq_false_iff.mpr c7
      subst c7
      have H1 : (if a0 < a1 then (some (-1)) else (if a0 > a1 then (some 1) else (some 0))) = some r := by rw [if_neg (show ¬ (false = true) by decide)] at H; exact H
      clear H
      have H := H1
      clear H1
      by_cases c8 : a0 < a1
      · rw [if_pos c8] at H
        have c8b0 : decide (a0 < a1) = true := decide_eq_true c8
        clear c8
        obtain rfl := Option.some.inj H
        go_enter Tryd.func37, Tryd.ntmps37
        go_wp2_with (first | ((with_reducible refine gate_callee (f := 49) rfl ?_); refine goesL_ (some 8) rfl rfl Tryd.func49 (by kernel_rfl) rfl #[.int .i64 a0] rfl (by (try simp only [List.map_toArray, List.map_cons, List.map_nil]); first | done | rfl | (simp only [List.length_drop, List.length_take]; rfl)) ?_; (with_reducible refine (cmp_isNaN_int.calls a0 false _ A3.out).mono ?_); rintro e w' ⟨rfl, ⟨nd, rfl⟩⟩; refine ⟨_, rfl, ?_⟩) | ((with_reducible refine gate_callee (f := 49) rfl ?_); refine goesL_ (some 10) rfl rfl Tryd.func49 (by kernel_rfl) rfl #[.int .i64 a1] rfl (by (try simp only [List.map_toArray, List.map_cons, List.map_nil]); first | done | rfl | (simp only [List.length_drop, List.length_take]; rfl)) ?_; (with_reducible refine (cmp_isNaN_int.calls a1 false _ A4.out).mono ?_); rintro e w' ⟨rfl, ⟨nd, rfl⟩⟩; refine ⟨_, rfl, ?_⟩))
        go_ret
        exact ⟨by first | rfl | (simp; done) | (simp [*]; done), by repeat (first | exact Drawn0.refl _ | apply Drawn0.step)⟩
      · rw [if_neg c8] at H
        have c8b0 : decide (a0 < a1) = false := decide_eq_false c8
        clear c8
        by_cases c9 : a0 > a1
        · rw [if_pos c9] at H
          have c9b0 : decide (a1 < a0) = true := decide_eq_true c9
          clear c9
          obtain rfl := Option.some.inj H
          go_enter Tryd.func37, Tryd.ntmps37
          go_wp2_with (first | ((with_reducible refine gate_callee (f := 49) rfl ?_); refine goesL_ (some 8) rfl rfl Tryd.func49 (by kernel_rfl) rfl #[.int .i64 a0] rfl (by (try simp only [List.map_toArray, List.map_cons, List.map_nil]); first | done | rfl | (simp only [List.length_drop, List.length_take]; rfl)) ?_; (with_reducible refine (cmp_isNaN_int.calls a0 false _ A3.out).mono ?_); rintro e w' ⟨rfl, ⟨nd, rfl⟩⟩; refine ⟨_, rfl, ?_⟩) | ((with_reducible refine gate_callee (f := 49) rfl ?_); refine goesL_ (some 10) rfl rfl Tryd.func49 (by kernel_rfl) rfl #[.int .i64 a1] rfl (by (try simp only [List.map_toArray, List.map_cons, List.map_nil]); first | done | rfl | (simp only [List.length_drop, List.length_take]; rfl)) ?_; (with_reducible refine (cmp_isNaN_int.calls a1 false _ A4.out).mono ?_); rintro e w' ⟨rfl, ⟨nd, rfl⟩⟩; refine ⟨_, rfl, ?_⟩))
          go_ret
          exact ⟨by first | rfl | (simp; done) | (simp [*]; done), by repeat (first | exact Drawn0.refl _ | apply Drawn0.step)⟩
        · rw [if_neg c9] at H
          have c9b0 : decide (a1 < a0) = false := decide_eq_false c9
          clear c9
          obtain rfl := Option.some.inj H
          go_enter Tryd.func37, Tryd.ntmps37
          go_wp2_with (first | ((with_reducible refine gate_callee (f := 49) rfl ?_); refine goesL_ (some 8) rfl rfl Tryd.func49 (by kernel_rfl) rfl #[.int .i64 a0] rfl (by (try simp only [List.map_toArray, List.map_cons, List.map_nil]); first | done | rfl | (simp only [List.length_drop, List.length_take]; rfl)) ?_; (with_reducible refine (cmp_isNaN_int.calls a0 false _ A3.out).mono ?_); rintro e w' ⟨rfl, ⟨nd, rfl⟩⟩; refine ⟨_, rfl, ?_⟩) | ((with_reducible refine gate_callee (f := 49) rfl ?_); refine goesL_ (some 10) rfl rfl Tryd.func49 (by kernel_rfl) rfl #[.int .i64 a1] rfl (by (try simp only [List.map_toArray, List.map_cons, List.map_nil]); first | done | rfl | (simp only [List.length_drop, List.length_take]; rfl)) ?_; (with_reducible refine (cmp_isNaN_int.calls a1 false _ A4.out).mono ?_); rintro e w' ⟨rfl, ⟨nd, rfl⟩⟩; refine ⟨_, rfl, ?_⟩))
          go_ret
          exact ⟨by first | rfl | (simp; done) | (simp [*]; done), by repeat (first | exact Drawn0.refl _ | apply Drawn0.step)⟩

end Go.Proofs.YtldllfadidepaaaDoor.P
namespace Go.Proofs.YtldllfadidepaaaDoor.P
open Go.RowKit Go.Proofs.YtldllfadidepaaaDoorW.PrintWords Go.Proofs.YtldllfadidepaaaDoorW.PrintLast Go.Proofs.YtldllfadidepaaaDoorW.PrintMore
attribute [local go_sem] max2_int min2_int max_two min_two max_three min_three max_four min_four   -- for this text's walks alone
set_option linter.unusedVariables false
set_option linter.unusedSimpArgs false

/-! ### fixed_tens: function 38 -/
def fixed_tens.l0 : Nat → Int → Int → Int → Option (Int)
  | 0, _, _, _ => none
  | k + 1, x3, x4, x5 => if x5 < x4 then (fixed_tens.l0 k (wrap64 (x3 * 10)) x4 (wrap64 (x5 + 1))) else (some x3)
def fixed_tens.f (k : Nat) (a0 : Int) : Option (Int) := fixed_tens.l0 k 1 a0 0
theorem fixed_tens.mono_l : ∀ k, (∀ y0 y1 y2, LeO (fixed_tens.l0 k y0 y1 y2) (fixed_tens.l0 (k + 1) y0 y1 y2))
  | 0 => fun _ _ _ r h => by simp [fixed_tens.l0] at h
  | k + 1 => by
    have ih0 := fixed_tens.mono_l k
    · intro y0 y1 y2
      unfold fixed_tens.l0
      repeat' first
      | (with_reducible exact ih0 _ _ _)
      | (with_reducible exact LeO.refl _)
      | (with_reducible exact LeO.none _)
      | (with_reducible refine LeO.ite ?_ ?_)
      | (with_reducible refine LeO.bind ?_ (fun _ => ?_))
      | exact ih0 _ _ _
      | exact LeO.none _
      | refine LeO.ite ?_ ?_
      | refine LeO.bind ?_ (fun _ => ?_)
theorem fixed_tens.mono : ∀ a0 k, LeO (fixed_tens.f k a0) (fixed_tens.f (k + 1) a0) := by
  intro a0 k
  have ih0 := fixed_tens.mono_l k
  unfold fixed_tens.f
  repeat' first
      | (with_reducible exact ih0 _ _ _)
      | (with_reducible exact LeO.refl _)
      | (with_reducible exact LeO.none _)
      | (with_reducible refine LeO.ite ?_ ?_)
      | (with_reducible refine LeO.bind ?_ (fun _ => ?_))
      | exact ih0 _ _ _
      | exact LeO.none _
      | refine LeO.ite ?_ ?_
      | refine LeO.bind ?_ (fun _ => ?_)
set_option maxHeartbeats 8000000 in
set_option maxRecDepth 100000 in
theorem fixed_tens.calls (k : Nat) (a0 : Int) (r : Int) (w : World) (h : fixed_tens.f k a0 = some r) :
    Calls Tryd.prog 38 #[.int .i64 a0] w fun e w' => e = .returned (.int .i64 r) ∧ Drawn0 w w' := by
  have H : (fixed_tens.l0 k 1 a0 0) = some r := h
  clear h
  have H' := Aside0.mk H
  clear H
  go_enter Tryd.func38, Tryd.ntmps38
  go_wp2
  (try simp only [Act.put, List.setIfInBounds_toArray, List.set_cons_zero, List.set_cons_succ])
  go_loopg [3, 5] k (fun kq v3 v5 w' => ∃ (x3_1 : Int) (x5_1 : Int), v3 = .int .i64 x3_1 ∧ v5 = .int .i64 x5_1 ∧ Aside0 (fixed_tens.l0 kq x3_1 a0 x5_1 = some r) ∧ Aside0 (kq ≤ k) ∧ Drawn0 w w')
  case atStart => exact ⟨(1), (0), (by first | rfl | (simp; done) | (simp [*]; done)), (by first | rfl | (simp; done) | (simp [*]; done)), H', ⟨Nat.le_refl _⟩, by repeat (first | exact Drawn0.refl _ | apply Drawn0.step)⟩
  case round =>
    clear H'
    obtain ⟨x3_1, x5_1, rfl, rfl, HA, HK1, ⟨m1, rfl⟩⟩ := hrel
    cases gk with
    | zero => exact absurd HA.out (by simp [fixed_tens.l0])
    | succ k1 =>
      have H := HA.out
      clear HA
      simp only [fixed_tens.l0] at H
      by_cases c2 : x5_1 < a0
      · rw [if_pos c2] at H
        have c2b0 : decide (x5_1 < a0) = true := decide_eq_true c2
        clear c2
        have H' := Aside0.mk H
        clear H
        go_wp2
        go_roundg k1
        case measure => have := HK1.out; omega
        case rel => exact ⟨(wrap64 (x3_1 * 10)), (wrap64 (x5_1 + 1)), (by first | rfl | (simp; done) | (simp [*]; done)), (by first | rfl | (simp; done) | (simp [*]; done)), H', ⟨by have := HK1.out; omega⟩, by repeat (first | exact Drawn0.refl _ | apply Drawn0.step)⟩
      · rw [if_neg c2] at H
        have c2b0 : decide (x5_1 < a0) = false := decide_eq_false c2
        clear c2
        obtain rfl := Option.some.inj H
        go_wp2
        go_ret
        exact ⟨by first | rfl | (simp; done) | (simp [*]; done), by repeat (first | exact Drawn0.refl _ | apply Drawn0.step)⟩

end Go.Proofs.YtldllfadidepaaaDoor.P
namespace Go.Proofs.YtldllfadidepaaaDoor.P
open Go.RowKit Go.Proofs.YtldllfadidepaaaDoorW.PrintWords Go.Proofs.YtldllfadidepaaaDoorW.PrintLast Go.Proofs.YtldllfadidepaaaDoorW.PrintMore
attribute [local go_sem] max2_int min2_int max_two min_two max_three min_three max_four min_four   -- for this text's walks alone
set_option linter.unusedVariables false
set_option linter.unusedSimpArgs false

/-! ### fixed_Cmp: function 20 -/
def fixed_Cmp.f (k : Nat) (a0_0 : Int) (a0_1 : Int) (a1_0 : Int) (a1_1 : Int) : Option (Int) := (fixed_tens.f k (wrap64 ((mx a0_1 a1_1) - a0_1))).bind fun t103 => ((fixed_tens.f k (wrap64 ((mx a0_1 a1_1) - a1_1))).bind fun t104 => ((cmp_Compare_int.f (wrap64 (a0_0 * t103)) (wrap64 (a1_0 * t104))).bind fun t105 => (some t105)))
theorem fixed_Cmp.mono : ∀ a0 a1 a2 a3 k, LeO (fixed_Cmp.f k a0 a1 a2 a3) (fixed_Cmp.f (k + 1) a0 a1 a2 a3) := by
  intro a0 a1 a2 a3 k
  unfold fixed_Cmp.f
  repeat' first
      | (with_reducible exact fixed_tens.mono _ _)
      | (with_reducible exact LeO.refl _)
      | (with_reducible exact LeO.none _)
      | (with_reducible refine LeO.ite ?_ ?_)
      | (with_reducible refine LeO.bind ?_ (fun _ => ?_))
      | exact fixed_tens.mono _ _
      | exact LeO.none _
      | refine LeO.ite ?_ ?_
      | refine LeO.bind ?_ (fun _ => ?_)
set_option maxHeartbeats 8000000 in
set_option maxRecDepth 100000 in
theorem fixed_Cmp.calls (k : Nat) (a0_0 : Int) (a0_1 : Int) (a1_0 : Int) (a1_1 : Int) (r : Int) (w : World) (h : fixed_Cmp.f k a0_0 a0_1 a1_0 a1_1 = some r) :
    Calls Tryd.prog 20 #[.agg #[.int .i64 a0_0, .int .i64 a0_1], .agg #[.int .i64 a1_0, .int .i64 a1_1]] w fun e w' => e = .returned (.int .i64 r) ∧ Below w.heap.size w w' := by
  have hu27 := Tryd.underlying27
  have HB := Aside0.mk (Below.refl w.heap.size w)
  have H : ((fixed_tens.f k (wrap64 ((mx a0_1 a1_1) - a0_1))).bind fun t103 => ((fixed_tens.f k (wrap64 ((mx a0_1 a1_1) - a1_1))).bind fun t104 => ((cmp_Compare_int.f (wrap64 (a0_0 * t103)) (wrap64 (a1_0 * t104))).bind fun t105 => (some t105)))) = some r := h
  clear h
  obtain ⟨ji3, hji3⟩ : ∃ j_ : Int, (mx a0_1 a1_1) = j_ := ⟨_, rfl⟩
  replace H : ((fixed_tens.f k (wrap64 ((ji3) - a0_1))).bind fun t103 => ((fixed_tens.f k (wrap64 ((ji3) - a1_1))).bind fun t104 => ((cmp_Compare_int.f (wrap64 (a0_0 * t103)) (wrap64 (a1_0 * t104))).bind fun t105 => (some t105)))) = some r := by first | (rw [hji3] at H; exact H) | (simp only [hji3] at H ⊢; exact H)
  have hji3_ : (if a0_1 < a1_1 then a1_1 else a0_1) = ji3 := hji3
  replace H := Option.bind_eq_some_iff.mp H
  obtain ⟨t103, A40, H⟩ := H
  replace H : ((fixed_tens.f k (wrap64 ((ji3) - a1_1))).bind fun t104 => ((cmp_Compare_int.f (wrap64 (a0_0 * t103)) (wrap64 (a1_0 * t104))).bind fun t105 => (some t105))) = some r := H
  have A4 := Aside0.mk A40
  clear A40
  replace H := Option.bind_eq_some_iff.mp H
  obtain ⟨t104, A50, H⟩ := H
  replace H : ((cmp_Compare_int.f (wrap64 (a0_0 * t103)) (wrap64 (a1_0 * t104))).bind fun t105 => (some t105)) = some r := H
  have A5 := Aside0.mk A50
  clear A50
  replace H := Option.bind_eq_some_iff.mp H
  obtain ⟨t105, A60, H⟩ := H
  replace H : (some t105) = some r := H
  have A6 := Aside0.mk A60
  clear A60
  obtain rfl := Option.some.inj H
  go_enter Tryd.func20, Tryd.ntmps20
  go_wp2_with (first | ((with_reducible refine gate_dst (N := 2) rfl ?_); refine box_event ?hg (N := 2) ?hd (cs := #[.int .i64 a0_0, .int .i64 a0_1]) (t := 27) ?hr ?_; (case hd => rfl); (case hg => rfl); (case hr => first | (go_simp; done) | (go_simp; rfl)); intro gb101 hg w7 hbox hb; have n0_ := Aside0.mk (below_step (by repeat (first | (with_reducible first | exact HB.out | apply below_alloc | apply pw_below_drewN | apply below_drew1) | exact HB.out)) hb); have n1_ := Aside0.mk (hbox); have n2_ := Aside0.mk ((by rw [hg]; exact (below_size (by repeat (first | (with_reducible first | exact HB.out | apply below_alloc | apply pw_below_drewN | apply below_drew1) | exact HB.out))) : w.heap.size ≤ gb101)); have n3_ := Aside0.mk ((by rw [hg]; exact (below_size (by repeat (first | (with_reducible first | exact HB.out | apply below_alloc | apply pw_below_drewN | apply below_drew1) | exact HB.out))) : w.heap.size ≤ gb101)); clear HB; have HB := n0_; have BK101 := n1_; have GW101 := n2_; have GE101 := n3_; clear n0_ n1_ n2_ n3_; clear hb hbox hg) | ((with_reducible refine gate_dst (N := 3) rfl ?_); refine box_event ?hg (N := 3) ?hd (cs := #[.int .i64 a1_0, .int .i64 a1_1]) (t := 27) ?hr ?_; (case hd => rfl); (case hg => rfl); (case hr => first | (go_simp; done) | (go_simp; rfl)); intro gb102 hg w8 hbox hb; have n0_ := Aside0.mk (blk_below (g := gb101) (o := .cells #[.int .i64 a0_0, .int .i64 a0_1] 27 (0, 0)) (by (with_reducible repeat (first | refine blk_drewN ?_ _ | refine blk_drew ?_ | refine blk_alloc ?_ _)); exact BK101.out) hb); have n1_ := Aside0.mk (below_step (by repeat (first | (with_reducible first | exact HB.out | apply below_alloc | apply pw_below_drewN | apply below_drew1 | refine below_set ?_ GE101.out) | exact HB.out)) hb); have n2_ := Aside0.mk (hbox); have n3_ := Aside0.mk ((by rw [hg]; exact (below_size (by repeat (first | (with_reducible first | exact HB.out | apply below_alloc | apply pw_below_drewN | apply below_drew1 | refine below_set ?_ GE101.out) | exact HB.out))) : w.heap.size ≤ gb102)); have n4_ := Aside0.mk ((by rw [hg]; exact (below_size (by repeat (first | (with_reducible first | exact HB.out | apply below_alloc | apply pw_below_drewN | apply below_drew1 | refine below_set ?_ GE101.out) | exact HB.out))) : w.heap.size ≤ gb102)); have n5_ := Aside0.mk ((by rw [hg]; exact Nat.ne_of_lt (blk_lt (g := gb101) (o := .cells #[.int .i64 a0_0, .int .i64 a0_1] 27 (0, 0)) (by (with_reducible repeat (first | refine blk_drewN ?_ _ | refine blk_drew ?_ | refine blk_alloc ?_ _)); exact BK101.out)) : gb101 ≠ gb102)); have n6_ := Aside0.mk ((by rw [hg]; exact Nat.ne_of_gt (blk_lt (g := gb101) (o := .cells #[.int .i64 a0_0, .int .i64 a0_1] 27 (0, 0)) (by (with_reducible repeat (first | refine blk_drewN ?_ _ | refine blk_drew ?_ | refine blk_alloc ?_ _)); exact BK101.out)) : gb102 ≠ gb101)); clear BK101; clear HB; have BK101 := n0_; have HB := n1_; have BK102 := n2_; have GW102 := n3_; have GE102 := n4_; have NB101_102 := n5_; have NB102_101 := n6_; clear n0_ n1_ n2_ n3_ n4_ n5_ n6_; clear hb hbox hg; have hnb9 := NB101_102.out; have hnc9 := NB102_101.out; have hcz10_0 : w8.cell? ⟨gb101, 0, none⟩ = some (.int .i64 a0_0) := (blk_cell BK101.out 0).trans rfl; have hcz10_1 : w8.cell? ⟨gb101, 1, none⟩ = some (.int .i64 a0_1) := (blk_cell BK101.out 1).trans rfl; have hfz10_0 := blk_frozen BK101.out 0; have hfz10_1 := blk_frozen BK101.out 1; have hcz11_0 : w8.cell? ⟨gb102, 0, none⟩ = some (.int .i64 a1_0) := (blk_cell BK102.out 0).trans rfl; have hcz11_1 : w8.cell? ⟨gb102, 1, none⟩ = some (.int .i64 a1_1) := (blk_cell BK102.out 1).trans rfl; have hfz11_0 := blk_frozen BK102.out 0; have hfz11_1 := blk_frozen BK102.out 1) | (go_at_call 38; (with_reducible refine (fixed_tens.calls k (wrap64 ((ji3) - a0_1)) t103 _ A4.out).mono ?_); rintro e w' ⟨rfl, ⟨nd, rfl⟩⟩; (try first | exact ⟨rfl, _, World.drewN_drewN _ _ _⟩ | exact ⟨rfl, _, Eq.trans (World.drewN_drewN _ _ _) (congrArg (World.drewN _) (Nat.add_assoc _ _ _))⟩)) | (go_at_call 38; (with_reducible refine (fixed_tens.calls k (wrap64 ((ji3) - a1_1)) t104 _ A5.out).mono ?_); rintro e w' ⟨rfl, ⟨nd, rfl⟩⟩; (try first | exact ⟨rfl, _, World.drewN_drewN _ _ _⟩ | exact ⟨rfl, _, Eq.trans (World.drewN_drewN _ _ _) (congrArg (World.drewN _) (Nat.add_assoc _ _ _))⟩)) | (go_at_call 37; (with_reducible refine (cmp_Compare_int.calls (wrap64 (a0_0 * t103)) (wrap64 (a1_0 * t104)) t105 _ A6.out).mono ?_); rintro e w' ⟨rfl, ⟨nd, rfl⟩⟩; (try first | exact ⟨rfl, _, World.drewN_drewN _ _ _⟩ | exact ⟨rfl, _, Eq.trans (World.drewN_drewN _ _ _) (congrArg (World.drewN _) (Nat.add_assoc _ _ _))⟩)))
  repeat (go_quiet (first | ((with_reducible refine gate_dst (N := 2) rfl ?_); refine box_event ?hg (N := 2) ?hd (cs := #[.int .i64 a0_0, .int .i64 a0_1]) (t := 27) ?hr ?_; (case hd => rfl); (case hg => rfl); (case hr => first | (go_simp; done) | (go_simp; rfl)); intro gb101 hg w7 hbox hb; have n0_ := Aside0.mk (below_step (by repeat (first | (with_reducible first | exact HB.out | apply below_alloc | apply pw_below_drewN | apply below_drew1) | exact HB.out)) hb); have n1_ := Aside0.mk (hbox); have n2_ := Aside0.mk ((by rw [hg]; exact (below_size (by repeat (first | (with_reducible first | exact HB.out | apply below_alloc | apply pw_below_drewN | apply below_drew1) | exact HB.out))) : w.heap.size ≤ gb101)); have n3_ := Aside0.mk ((by rw [hg]; exact (below_size (by repeat (first | (with_reducible first | exact HB.out | apply below_alloc | apply pw_below_drewN | apply below_drew1) | exact HB.out))) : w.heap.size ≤ gb101)); clear HB; have HB := n0_; have BK101 := n1_; have GW101 := n2_; have GE101 := n3_; clear n0_ n1_ n2_ n3_; clear hb hbox hg) | ((with_reducible refine gate_dst (N := 3) rfl ?_); refine box_event ?hg (N := 3) ?hd (cs := #[.int .i64 a1_0, .int .i64 a1_1]) (t := 27) ?hr ?_; (case hd => rfl); (case hg => rfl); (case hr => first | (go_simp; done) | (go_simp; rfl)); intro gb102 hg w8 hbox hb; have n0_ := Aside0.mk (blk_below (g := gb101) (o := .cells #[.int .i64 a0_0, .int .i64 a0_1] 27 (0, 0)) (by (with_reducible repeat (first | refine blk_drewN ?_ _ | refine blk_drew ?_ | refine blk_alloc ?_ _)); exact BK101.out) hb); have n1_ := Aside0.mk (below_step (by repeat (first | (with_reducible first | exact HB.out | apply below_alloc | apply pw_below_drewN | apply below_drew1 | refine below_set ?_ GE101.out) | exact HB.out)) hb); have n2_ := Aside0.mk (hbox); have n3_ := Aside0.mk ((by rw [hg]; exact (below_size (by repeat (first | (with_reducible first | exact HB.out | apply below_alloc | apply pw_below_drewN | apply below_drew1 | refine below_set ?_ GE101.out) | exact HB.out))) : w.heap.size ≤ gb102)); have n4_ := Aside0.mk ((by rw [hg]; exact (below_size (by repeat (first | (with_reducible first | exact HB.out | apply below_alloc | apply pw_below_drewN | apply below_drew1 | refine below_set ?_ GE101.out) | exact HB.out))) : w.heap.size ≤ gb102)); have n5_ := Aside0.mk ((by rw [hg]; exact Nat.ne_of_lt (blk_lt (g := gb101) (o := .cells #[.int .i64 a0_0, .int .i64 a0_1] 27 (0, 0)) (by (with_reducible repeat (first | refine blk_drewN ?_ _ | refine blk_drew ?_ | refine blk_alloc ?_ _)); exact BK101.out)) : gb101 ≠ gb102)); have n6_ := Aside0.mk ((by rw [hg]; exact Nat.ne_of_gt (blk_lt (g := gb101) (o := .cells #[.int .i64 a0_0, .int .i64 a0_1] 27 (0, 0)) (by (with_reducible repeat (first | refine blk_drewN ?_ _ | refine blk_drew ?_ | refine blk_alloc ?_ _)); exact BK101.out)) : gb102 ≠ gb101)); clear BK101; clear HB; have BK101 := n0_; have HB := n1_; have BK102 := n2_; have GW102 := n3_; have GE102 := n4_; have NB101_102 := n5_; have NB102_101 := n6_; clear n0_ n1_ n2_ n3_ n4_ n5_ n6_; clear hb hbox hg; have hnb9 := NB101_102.out; have hnc9 := NB102_101.out; have hcz10_0 : w8.cell? ⟨gb101, 0, none⟩ = some (.int .i64 a0_0) := (blk_cell BK101.out 0).trans rfl; have hcz10_1 : w8.cell? ⟨gb101, 1, none⟩ = some (.int .i64 a0_1) := (blk_cell BK101.out 1).trans rfl; have hfz10_0 := blk_frozen BK101.out 0; have hfz10_1 := blk_frozen BK101.out 1; have hcz11_0 : w8.cell? ⟨gb102, 0, none⟩ = some (.int .i64 a1_0) := (blk_cell BK102.out 0).trans rfl; have hcz11_1 : w8.cell? ⟨gb102, 1, none⟩ = some (.int .i64 a1_1) := (blk_cell BK102.out 1).trans rfl; have hfz11_0 := blk_frozen BK102.out 0; have hfz11_1 := blk_frozen BK102.out 1) | (go_at_call 38; (try simp only [Go.IntWalk.i64_left]); (with_reducible refine (fixed_tens.calls k (wrap64 ((ji3) - a0_1)) t103 _ A4.out).mono ?_); rintro e w' ⟨rfl, ⟨nd, rfl⟩⟩; (try first | exact ⟨rfl, _, World.drewN_drewN _ _ _⟩ | exact ⟨rfl, _, Eq.trans (World.drewN_drewN _ _ _) (congrArg (World.drewN _) (Nat.add_assoc _ _ _))⟩)) | (go_at_call 38; (try simp only [Go.IntWalk.i64_left]); (with_reducible refine (fixed_tens.calls k (wrap64 ((ji3) - a1_1)) t104 _ A5.out).mono ?_); rintro e w' ⟨rfl, ⟨nd, rfl⟩⟩; (try first | exact ⟨rfl, _, World.drewN_drewN _ _ _⟩ | exact ⟨rfl, _, Eq.trans (World.drewN_drewN _ _ _) (congrArg (World.drewN _) (Nat.add_assoc _ _ _))⟩)) | (go_at_call 37; (try simp only [Go.IntWalk.i64_left]); (with_reducible refine (cmp_Compare_int.calls (wrap64 (a0_0 * t103)) (wrap64 (a1_0 * t104)) t105 _ A6.out).mono ?_); rintro e w' ⟨rfl, ⟨nd, rfl⟩⟩; (try first | exact ⟨rfl, _, World.drewN_drewN _ _ _⟩ | exact ⟨rfl, _, Eq.trans (World.drewN_drewN _ _ _) (congrArg (World.drewN _) (Nat.add_assoc _ _ _))⟩))); (try simp only [Go.IntWalk.i64_left]); try go_wp2_with (first | ((with_reducible refine gate_dst (N := 2) rfl ?_); refine box_event ?hg (N := 2) ?hd (cs := #[.int .i64 a0_0, .int .i64 a0_1]) (t := 27) ?hr ?_; (case hd => rfl); (case hg => rfl); (case hr => first | (go_simp; done) | (go_simp; rfl)); intro gb101 hg w7 hbox hb; have n0_ := Aside0.mk (below_step (by repeat (first | (with_reducible first | exact HB.out | apply below_alloc | apply pw_below_drewN | apply below_drew1) | exact HB.out)) hb); have n1_ := Aside0.mk (hbox); have n2_ := Aside0.mk ((by rw [hg]; exact (below_size (by repeat (first | (with_reducible first | exact HB.out | apply below_alloc | apply pw_below_drewN | apply below_drew1) | exact HB.out))) : w.heap.size ≤ gb101)); have n3_ := Aside0.mk ((by rw [hg]; exact (below_size (by repeat (first | (with_reducible first | exact HB.out | apply below_alloc | apply pw_below_drewN | apply below_drew1) | exact HB.out))) : w.heap.size ≤ gb101)); clear HB; have HB := n0_; have BK101 := n1_; have GW101 := n2_; have GE101 := n3_; clear n0_ n1_ n2_ n3_; clear hb hbox hg) | ((with_reducible refine gate_dst (N := 3) rfl ?_); refine box_event ?hg (N := 3) ?hd (cs := #[.int .i64 a1_0, .int .i64 a1_1]) (t := 27) ?hr ?_; (case hd => rfl); (case hg => rfl); (case hr => first | (go_simp; done) | (go_simp; rfl)); intro gb102 hg w8 hbox hb; have n0_ := Aside0.mk (blk_below (g := gb101) (o := .cells #[.int .i64 a0_0, .int .i64 a0_1] 27 (0, 0)) (by (with_reducible repeat (first | refine blk_drewN ?_ _ | refine blk_drew ?_ | refine blk_alloc ?_ _)); exact BK101.out) hb); have n1_ := Aside0.mk (below_step (by repeat (first | (with_reducible first | exact HB.out | apply below_alloc | apply pw_below_drewN | apply below_drew1 | refine below_set ?_ GE101.out) | exact HB.out)) hb); have n2_ := Aside0.mk (hbox); have n3_ := Aside0.mk ((by rw [hg]; exact (below_size (by repeat (first | (with_reducible first | exact HB.out | apply below_alloc | apply pw_below_drewN | apply below_drew1 | refine below_set ?_ GE101.out) | exact HB.out))) : w.heap.size ≤ gb102)); have n4_ := Aside0.mk ((by rw [hg]; exact (below_size (by repeat (first | (with_reducible first | exact HB.out | apply below_alloc | apply pw_below_drewN | apply below_drew1 | refine below_set ?_ GE101.out) | exact HB.out))) : w.heap.size ≤ gb102)); have n5_ := Aside0.mk ((by rw [hg]; exact Nat.ne_of_lt (blk_lt (g := gb101) (o := .cells #[.int .i64 a0_0, .int .i64 a0_1] 27 (0, 0)) (by (with_reducible repeat (first | refine blk_drewN ?_ _ | refine blk_drew ?_ | refine blk_alloc ?_ _)); exact BK101.out)) : gb101 ≠ gb102)); have n6_ := Aside0.mk ((by rw [hg]; exact Nat.ne_of_gt (blk_lt (g := gb101) (o := .cells #[.int .i64 a0_0, .int .i64 a0_1] 27 (0, 0)) (by (with_reducible repeat (first | refine blk_drewN ?_ _ | refine blk_drew ?_ | refine blk_alloc ?_ _)); exact BK101.out)) : gb102 ≠ gb101)); clear BK101; clear HB; have BK101 := n0_; have HB := n1_; have BK102 := n2_; have GW102 := n3_; have GE102 := n4_; have NB101_102 := n5_; have NB102_101 := n6_; clear n0_ n1_ n2_ n3_ n4_ n5_ n6_; clear hb hbox hg; have hnb9 := NB101_102.out; have hnc9 := NB102_101.out; have hcz10_0 : w8.cell? ⟨gb101, 0, none⟩ = some (.int .i64 a0_0) := (blk_cell BK101.out 0).trans rfl; have hcz10_1 : w8.cell? ⟨gb101, 1, none⟩ = some (.int .i64 a0_1) := (blk_cell BK101.out 1).trans rfl; have hfz10_0 := blk_frozen BK101.out 0; have hfz10_1 := blk_frozen BK101.out 1; have hcz11_0 : w8.cell? ⟨gb102, 0, none⟩ = some (.int .i64 a1_0) := (blk_cell BK102.out 0).trans rfl; have hcz11_1 : w8.cell? ⟨gb102, 1, none⟩ = some (.int .i64 a1_1) := (blk_cell BK102.out 1).trans rfl; have hfz11_0 := blk_frozen BK102.out 0; have hfz11_1 := blk_frozen BK102.out 1) | (go_at_call 38; (try simp only [Go.IntWalk.i64_left]); (with_reducible refine (fixed_tens.calls k (wrap64 ((ji3) - a0_1)) t103 _ A4.out).mono ?_); rintro e w' ⟨rfl, ⟨nd, rfl⟩⟩; (try first | exact ⟨rfl, _, World.drewN_drewN _ _ _⟩ | exact ⟨rfl, _, Eq.trans (World.drewN_drewN _ _ _) (congrArg (World.drewN _) (Nat.add_assoc _ _ _))⟩)) | (go_at_call 38; (try simp only [Go.IntWalk.i64_left]); (with_reducible refine (fixed_tens.calls k (wrap64 ((ji3) - a1_1)) t104 _ A5.out).mono ?_); rintro e w' ⟨rfl, ⟨nd, rfl⟩⟩; (try first | exact ⟨rfl, _, World.drewN_drewN _ _ _⟩ | exact ⟨rfl, _, Eq.trans (World.drewN_drewN _ _ _) (congrArg (World.drewN _) (Nat.add_assoc _ _ _))⟩)) | (go_at_call 37; (try simp only [Go.IntWalk.i64_left]); (with_reducible refine (cmp_Compare_int.calls (wrap64 (a0_0 * t103)) (wrap64 (a1_0 * t104)) t105 _ A6.out).mono ?_); rintro e w' ⟨rfl, ⟨nd, rfl⟩⟩; (try first | exact ⟨rfl, _, World.drewN_drewN _ _ _⟩ | exact ⟨rfl, _, Eq.trans (World.drewN_drewN _ _ _) (congrArg (World.drewN _) (Nat.add_assoc _ _ _))⟩))))
  go_ret
  exact ⟨by first | rfl | (simp [errW_none, errW_some] <;> rfl) | (simp only [← hji3]; first | rfl | (simp [errW_none, errW_some] <;> rfl)) | (simp [*, errW_none, errW_some] <;> rfl), by repeat (first | (with_reducible first | exact HB.out | apply below_alloc | apply pw_below_drewN | apply below_drew1 | refine below_set ?_ GE101.out | refine below_set ?_ GE102.out) | exact HB.out)⟩

end Go.Proofs.YtldllfadidepaaaDoor.P
namespace Go.Proofs.YtldllfadidepaaaDoor.P
open Go.RowKit Go.Proofs.YtldllfadidepaaaDoorW.PrintWords Go.Proofs.YtldllfadidepaaaDoorW.PrintLast Go.Proofs.YtldllfadidepaaaDoorW.PrintMore
attribute [local go_sem] max2_int min2_int max_two min_two max_three min_three max_four min_four   -- for this text's walks alone
set_option linter.unusedVariables false
set_option linter.unusedSimpArgs false

/-! ### fixed_To: function 22 -/
def fixed_To.j0 : Nat → Int → Bool → Int → Int → Option (Int × Int)
  | 0, _, _, _, _ => none
  | k + 1, x1, x13, x102000, x102001 => if x13 = true then (some (0, 1)) else ((fixed_tens.f k (wrap64 (6 - x102001))).bind fun t102 => ((fixed_tens.f k (wrap64 (6 - x1))).bind fun t103 => (if t103 = 0 then (none) else (if (Int.tmod (wrap64 (x102000 * t102)) t103) = 0 then ((fixed_fits.f (wrap64 (Int.tdiv (wrap64 (x102000 * t102)) t103))).bind fun t104 => (if t104 = true then (some (wrap64 (Int.tdiv (wrap64 (x102000 * t102)) t103), 0)) else (some (0, 2)))) else (some (0, 21))))))
def fixed_To.f (k : Nat) (a0_0 : Int) (a0_1 : Int) (a1 : Int) : Option (Int × Int) := if a1 < 0 then (fixed_To.j0 k a1 true a0_0 a0_1) else (fixed_To.j0 k a1 (decide (a1 > 6)) a0_0 a0_1)
theorem fixed_To.mono_l : ∀ k, (∀ y0 y1 y2 y3, LeO (fixed_To.j0 k y0 y1 y2 y3) (fixed_To.j0 (k + 1) y0 y1 y2 y3))
  | 0 => fun _ _ _ _ r h => by simp [fixed_To.j0] at h
  | k + 1 => by
    have ih0 := fixed_To.mono_l k
    · intro y0 y1 y2 y3
      unfold fixed_To.j0
      repeat' first
      | (with_reducible exact ih0 _ _ _ _)
      | (with_reducible exact fixed_tens.mono _ _)
      | (with_reducible exact LeO.refl _)
      | (with_reducible exact LeO.none _)
      | (with_reducible refine LeO.ite ?_ ?_)
      | (with_reducible refine LeO.bind ?_ (fun _ => ?_))
      | exact ih0 _ _ _ _
      | exact fixed_tens.mono _ _
      | exact LeO.none _
      | refine LeO.ite ?_ ?_
      | refine LeO.bind ?_ (fun _ => ?_)
theorem fixed_To.mono : ∀ a0 a1 a2 k, LeO (fixed_To.f k a0 a1 a2) (fixed_To.f (k + 1) a0 a1 a2) := by
  intro a0 a1 a2 k
  have ih0 := fixed_To.mono_l k
  unfold fixed_To.f
  repeat' first
      | (with_reducible exact ih0 _ _ _ _)
      | (with_reducible exact fixed_tens.mono _ _)
      | (with_reducible exact LeO.refl _)
      | (with_reducible exact LeO.none _)
      | (with_reducible refine LeO.ite ?_ ?_)
      | (with_reducible refine LeO.bind ?_ (fun _ => ?_))
      | exact ih0 _ _ _ _
      | exact fixed_tens.mono _ _
      | exact LeO.none _
      | refine LeO.ite ?_ ?_
      | refine LeO.bind ?_ (fun _ => ?_)
set_option maxHeartbeats 8000000 in
set_option maxRecDepth 100000 in
theorem fixed_To.calls (k : Nat) (a0_0 : Int) (a0_1 : Int) (a1 : Int) (r1 : Int) (r2 : Int) (w : World) (h : fixed_To.f k a0_0 a0_1 a1 = some (r1, r2)) :
    Calls Tryd.prog 22 #[.agg #[.int .i64 a0_0, .int .i64 a0_1], .int .i64 a1] w fun e w' => e = .returned (.tuple #[.int .i64 r1, .int .i64 r2]) ∧ Below w.heap.size w w' := by
  have hu27 := Tryd.underlying27
  have HB := Aside0.mk (Below.refl w.heap.size w)
  have H : (if a1 < 0 then (fixed_To.j0 k a1 true a0_0 a0_1) else (fixed_To.j0 k a1 (decide (a1 > 6)) a0_0 a0_1)) = some (r1, r2) := h
  clear h
  have HC3 := Aside0.mk H
  clear H
  go_enter Tryd.func22, Tryd.ntmps22
  go_upto_region 1 with (first | ((with_reducible refine gate_dst (N := 2) rfl ?_); refine box_event ?hg (N := 2) ?hd (cs := #[.int .i64 a0_0, .int .i64 a0_1]) (t := 27) ?hr ?_; (case hd => rfl); (case hg => rfl); (case hr => first | (go_simp; done) | (go_simp; rfl)); intro gb101 hg w4 hbox hb; have n0_ := Aside0.mk (below_step (by repeat (first | (with_reducible first | exact HB.out | apply below_alloc | apply pw_below_drewN | apply below_drew1) | exact HB.out)) hb); have n1_ := Aside0.mk (hbox); have n2_ := Aside0.mk ((by rw [hg]; exact (below_size (by repeat (first | (with_reducible first | exact HB.out | apply below_alloc | apply pw_below_drewN | apply below_drew1) | exact HB.out))) : w.heap.size ≤ gb101)); have n3_ := Aside0.mk ((by rw [hg]; exact (below_size (by repeat (first | (with_reducible first | exact HB.out | apply below_alloc | apply pw_below_drewN | apply below_drew1) | exact HB.out))) : w.heap.size ≤ gb101)); clear HB; have HB := n0_; have BK101 := n1_; have GW101 := n2_; have GE101 := n3_; clear n0_ n1_ n2_ n3_; clear hb hbox hg))
  repeat (go_quiet (first | ((with_reducible refine gate_dst (N := 2) rfl ?_); refine box_event ?hg (N := 2) ?hd (cs := #[.int .i64 a0_0, .int .i64 a0_1]) (t := 27) ?hr ?_; (case hd => rfl); (case hg => rfl); (case hr => first | (go_simp; done) | (go_simp; rfl)); intro gb101 hg w4 hbox hb; have n0_ := Aside0.mk (below_step (by repeat (first | (with_reducible first | exact HB.out | apply below_alloc | apply pw_below_drewN | apply below_drew1) | exact HB.out)) hb); have n1_ := Aside0.mk (hbox); have n2_ := Aside0.mk ((by rw [hg]; exact (below_size (by repeat (first | (with_reducible first | exact HB.out | apply below_alloc | apply pw_below_drewN | apply below_drew1) | exact HB.out))) : w.heap.size ≤ gb101)); have n3_ := Aside0.mk ((by rw [hg]; exact (below_size (by repeat (first | (with_reducible first | exact HB.out | apply below_alloc | apply pw_below_drewN | apply below_drew1) | exact HB.out))) : w.heap.size ≤ gb101)); clear HB; have HB := n0_; have BK101 := n1_; have GW101 := n2_; have GE101 := n3_; clear n0_ n1_ n2_ n3_; clear hb hbox hg)); go_upto_region 1 with (first | ((with_reducible refine gate_dst (N := 2) rfl ?_); refine box_event ?hg (N := 2) ?hd (cs := #[.int .i64 a0_0, .int .i64 a0_1]) (t := 27) ?hr ?_; (case hd => rfl); (case hg => rfl); (case hr => first | (go_simp; done) | (go_simp; rfl)); intro gb101 hg w4 hbox hb; have n0_ := Aside0.mk (below_step (by repeat (first | (with_reducible first | exact HB.out | apply below_alloc | apply pw_below_drewN | apply below_drew1) | exact HB.out)) hb); have n1_ := Aside0.mk (hbox); have n2_ := Aside0.mk ((by rw [hg]; exact (below_size (by repeat (first | (with_reducible first | exact HB.out | apply below_alloc | apply pw_below_drewN | apply below_drew1) | exact HB.out))) : w.heap.size ≤ gb101)); have n3_ := Aside0.mk ((by rw [hg]; exact (below_size (by repeat (first | (with_reducible first | exact HB.out | apply below_alloc | apply pw_below_drewN | apply below_drew1) | exact HB.out))) : w.heap.size ≤ gb101)); clear HB; have HB := n0_; have BK101 := n1_; have GW101 := n2_; have GE101 := n3_; clear n0_ n1_ n2_ n3_; clear hb hbox hg)))
  (try simp only [Act.put, List.setIfInBounds_toArray, List.set_cons_zero, List.set_cons_succ])
  go_cut [13] (fun v13 wc => ∃ (kq : Nat) (x13_2 : Bool), v13 = .bool x13_2 ∧ Aside0 (fixed_To.j0 kq a1 x13_2 a0_0 a0_1 = some (r1, r2)) ∧ Aside0 (kq ≤ k) ∧ Aside0 (wc.heap[gb101]? = some (.cells #[.int .i64 a0_0, .int .i64 a0_1] 27 (0, 0))) ∧ Aside0 (Below w.heap.size w wc))
  case first =>
    have H := HC3.out
    clear HC3
    by_cases c5 : a1 < 0
    · rw [if_pos c5] at H
      have c5b0 : decide (a1 < 0) = true := decide_eq_true c5
      clear c5
      (first | rw [c5b0] | (simp only [i64_w, i32_w]; rw [c5b0]) | skip)
      have H' := Aside0.mk H
      clear H
      go_wp2
      repeat (go_quiet (fail); try go_wp2)
      go_meet
      case rel => exact ⟨_, (true), (by first | rfl | (simp; done) | (simp [*]; done)), H', ⟨by first | omega | exact Nat.le_refl _⟩, ⟨by (with_reducible repeat (first | refine blk_drewN ?_ _ | refine blk_drew ?_ | refine blk_alloc ?_ _)); exact BK101.out⟩, ⟨by repeat (first | (with_reducible first | exact HB.out | apply below_alloc | apply pw_below_drewN | apply below_drew1 | refine below_set ?_ GE101.out) | exact HB.out)⟩⟩
    · rw [if_neg c5] at H
      have c5b0 : decide (a1 < 0) = false := decide_eq_false c5
      clear c5
      (first | rw [c5b0] | (simp only [i64_w, i32_w]; rw [c5b0]) | skip)
      have H' := Aside0.mk H
      clear H
      go_wp2
      repeat (go_quiet (fail); try go_wp2)
      go_meet
      case rel => exact ⟨_, (decide (a1 > 6)), (by first | rfl | (simp; done) | (simp [*]; done)), H', ⟨by first | omega | exact Nat.le_refl _⟩, ⟨by (with_reducible repeat (first | refine blk_drewN ?_ _ | refine blk_drew ?_ | refine blk_alloc ?_ _)); exact BK101.out⟩, ⟨by repeat (first | (with_reducible first | exact HB.out | apply below_alloc | apply pw_below_drewN | apply below_drew1 | refine below_set ?_ GE101.out) | exact HB.out)⟩⟩
  case rest =>
    clear HC3
    try clear c2
    try clear p2
    try clear c5
    try clear c5b0
    obtain ⟨kq, x13_2, rfl, HA, HJ2, BK101, HB⟩ := hcut
    cases kq with
    | zero => exact absurd HA.out (by simp [fixed_To.j0])
    | succ kj2 =>
      have H := HA.out
      clear HA
      simp only [fixed_To.j0] at H
      by_cases c6 : x13_2 = true
      · subst c6
        have H1 : (some (0, 1)) = some (r1, r2) := by rw [if_pos rfl] at H; exact H
        clear H
        have H := H1
        clear H1
        simp only [Option.some.injEq, Prod.mk.injEq] at H
        obtain ⟨rfl, rfl⟩ := H
        go_wp2
        repeat (go_quiet (fail); try go_wp2)
        go_ret2
        exact ⟨by first | rfl | (simp [errW_none, errW_some] <;> rfl) | (simp [*, errW_none, errW_some] <;> rfl), by repeat (first | (with_reducible first | exact HB.out | apply below_alloc | apply pw_below_drewN | apply below_drew1 | refine below_set ?_ GE101.out) | exact HB.out)⟩
      · replace c6 := Bool.eq_false_iff.mpr c6
        subst c6
        have H1 : ((fixed_tens.f kj2 (wrap64 (6 - a0_1))).bind fun t102 => ((fixed_tens.f kj2 (wrap64 (6 - a1))).bind fun t103 => (if t103 = 0 then (none) else (if (Int.tmod (wrap64 (a0_0 * t102)) t103) = 0 then ((fixed_fits.f (wrap64 (Int.tdiv (wrap64 (a0_0 * t102)) t103))).bind fun t104 => (if t104 = true then (some (wrap64 (Int.tdiv (wrap64 (a0_0 * t102)) t103), 0)) else (some (0, 2)))) else (some (0, 21)))))) = some (r1, r2) := by rw [if_neg (show ¬ (false = true) by decide)] at H; exact H
        clear H
        have H := H1
        clear H1
        replace H := Option.bind_eq_some_iff.mp H
        obtain ⟨t102, A70, H⟩ := H
        replace H : ((fixed_tens.f kj2 (wrap64 (6 - a1))).bind fun t103 => (if t103 = 0 then (none) else (if (Int.tmod (wrap64 (a0_0 * t102)) t103) = 0 then ((fixed_fits.f (wrap64 (Int.tdiv (wrap64 (a0_0 * t102)) t103))).bind fun t104 => (if t104 = true then (some (wrap64 (Int.tdiv (wrap64 (a0_0 * t102)) t103), 0)) else (some (0, 2)))) else (some (0, 21))))) = some (r1, r2) := H
        have A7 := Aside0.mk A70
        clear A70
        replace H := Option.bind_eq_some_iff.mp H
        obtain ⟨t103, A80, H⟩ := H
        replace H : (if t103 = 0 then (none) else (if (Int.tmod (wrap64 (a0_0 * t102)) t103) = 0 then ((fixed_fits.f (wrap64 (Int.tdiv (wrap64 (a0_0 * t102)) t103))).bind fun t104 => (if t104 = true then (some (wrap64 (Int.tdiv (wrap64 (a0_0 * t102)) t103), 0)) else (some (0, 2)))) else (some (0, 21)))) = some (r1, r2) := H
        have A8 := Aside0.mk A80
        clear A80
        by_cases c9 : t103 = 0
        · rw [if_pos c9] at H
          exact absurd H (by simp)
        · rw [if_neg c9] at H
          have c9b0 : (t103 == 0) = false := beq_eq_false_iff_ne.mpr c9
          have c9b1 : (t103 != 0) = true := bne_iff_ne.mpr c9
          by_cases c10 : (Int.tmod (wrap64 (a0_0 * t102)) t103) = 0
          · rw [if_pos c10] at H
            have c10b0 : ((Int.tmod (wrap64 (a0_0 * t102)) t103) == 0) = true := beq_iff_eq.mpr c10
            have c10b1 : ((Int.tmod (wrap64 (a0_0 * t102)) t103) != 0) = false := bne_eq_false_iff_eq.mpr c10
            clear c10
            replace H := Option.bind_eq_some_iff.mp H
            obtain ⟨t104, A110, H⟩ := H
            replace H : (if t104 = true then (some (wrap64 (Int.tdiv (wrap64 (a0_0 * t102)) t103), 0)) else (some (0, 2))) = some (r1, r2) := H
            have A11 := Aside0.mk A110
            clear A110
            by_cases c12 : t104 = true
            · subst c12
              have H1 : (some (wrap64 (Int.tdiv (wrap64 (a0_0 * t102)) t103), 0)) = some (r1, r2) := by rw [if_pos rfl] at H; exact H
              clear H
              have H := H1
              clear H1
              simp only [Option.some.injEq, Prod.mk.injEq] at H
              obtain ⟨rfl, rfl⟩ := H
              have hcz13_0 : wc.cell? ⟨gb101, 0, none⟩ = some (.int .i64 a0_0) := (blk_cell BK101.out 0).trans rfl
              have hcz13_1 : wc.cell? ⟨gb101, 1, none⟩ = some (.int .i64 a0_1) := (blk_cell BK101.out 1).trans rfl
              have hfz13_0 := blk_frozen BK101.out 0
              have hfz13_1 := blk_frozen BK101.out 1
              go_wp2_with (first | (go_at_call 38; (with_reducible refine (fixed_tens.calls kj2 (wrap64 (6 - a0_1)) t102 _ A7.out).mono ?_); rintro e w' ⟨rfl, ⟨nd, rfl⟩⟩; (try first | exact ⟨rfl, _, World.drewN_drewN _ _ _⟩ | exact ⟨rfl, _, Eq.trans (World.drewN_drewN _ _ _) (congrArg (World.drewN _) (Nat.add_assoc _ _ _))⟩)) | (go_at_call 38; (with_reducible refine (fixed_tens.calls kj2 (wrap64 (6 - a1)) t103 _ A8.out).mono ?_); rintro e w' ⟨rfl, ⟨nd, rfl⟩⟩; (try first | exact ⟨rfl, _, World.drewN_drewN _ _ _⟩ | exact ⟨rfl, _, Eq.trans (World.drewN_drewN _ _ _) (congrArg (World.drewN _) (Nat.add_assoc _ _ _))⟩)) | (go_at_call 31; (with_reducible refine (fixed_fits.calls (wrap64 (Int.tdiv (wrap64 (a0_0 * t102)) t103)) true _ A11.out).mono ?_); rintro e w' ⟨rfl, ⟨nd, rfl⟩⟩; (try first | exact ⟨rfl, _, World.drewN_drewN _ _ _⟩ | exact ⟨rfl, _, Eq.trans (World.drewN_drewN _ _ _) (congrArg (World.drewN _) (Nat.add_assoc _ _ _))⟩)))
              repeat (go_quiet (first | (go_at_call 38; (try simp only [Go.IntWalk.i64_left]); (with_reducible refine (fixed_tens.calls kj2 (wrap64 (6 - a0_1)) t102 _ A7.out).mono ?_); rintro e w' ⟨rfl, ⟨nd, rfl⟩⟩; (try first | exact ⟨rfl, _, World.drewN_drewN _ _ _⟩ | exact ⟨rfl, _, Eq.trans (World.drewN_drewN _ _ _) (congrArg (World.drewN _) (Nat.add_assoc _ _ _))⟩)) | (go_at_call 38; (try simp only [Go.IntWalk.i64_left]); (with_reducible refine (fixed_tens.calls kj2 (wrap64 (6 - a1)) t103 _ A8.out).mono ?_); rintro e w' ⟨rfl, ⟨nd, rfl⟩⟩; (try first | exact ⟨rfl, _, World.drewN_drewN _ _ _⟩ | exact ⟨rfl, _, Eq.trans (World.drewN_drewN _ _ _) (congrArg (World.drewN _) (Nat.add_assoc _ _ _))⟩)) | (go_at_call 31; (try simp only [Go.IntWalk.i64_left]); (with_reducible refine (fixed_fits.calls (wrap64 (Int.tdiv (wrap64 (a0_0 * t102)) t103)) true _ A11.out).mono ?_); rintro e w' ⟨rfl, ⟨nd, rfl⟩⟩; (try first | exact ⟨rfl, _, World.drewN_drewN _ _ _⟩ | exact ⟨rfl, _, Eq.trans (World.drewN_drewN _ _ _) (congrArg (World.drewN _) (Nat.add_assoc _ _ _))⟩))); (try simp only [Go.IntWalk.i64_left]); try go_wp2_with (first | (go_at_call 38; (try simp only [Go.IntWalk.i64_left]); (with_reducible refine (fixed_tens.calls kj2 (wrap64 (6 - a0_1)) t102 _ A7.out).mono ?_); rintro e w' ⟨rfl, ⟨nd, rfl⟩⟩; (try first | exact ⟨rfl, _, World.drewN_drewN _ _ _⟩ | exact ⟨rfl, _, Eq.trans (World.drewN_drewN _ _ _) (congrArg (World.drewN _) (Nat.add_assoc _ _ _))⟩)) | (go_at_call 38; (try simp only [Go.IntWalk.i64_left]); (with_reducible refine (fixed_tens.calls kj2 (wrap64 (6 - a1)) t103 _ A8.out).mono ?_); rintro e w' ⟨rfl, ⟨nd, rfl⟩⟩; (try first | exact ⟨rfl, _, World.drewN_drewN _ _ _⟩ | exact ⟨rfl, _, Eq.trans (World.drewN_drewN _ _ _) (congrArg (World.drewN _) (Nat.add_assoc _ _ _))⟩)) | (go_at_call 31; (try simp only [Go.IntWalk.i64_left]); (with_reducible refine (fixed_fits.calls (wrap64 (Int.tdiv (wrap64 (a0_0 * t102)) t103)) true _ A11.out).mono ?_); rintro e w' ⟨rfl, ⟨nd, rfl⟩⟩; (try first | exact ⟨rfl, _, World.drewN_drewN _ _ _⟩ | exact ⟨rfl, _, Eq.trans (World.drewN_drewN _ _ _) (congrArg (World.drewN _) (Nat.add_assoc _ _ _))⟩))))
              go_ret2
              exact ⟨by first | rfl | (simp [errW_none, errW_some] <;> rfl) | (simp [*, errW_none, errW_some] <;> rfl), by repeat (first | (with_reducible first | exact HB.out | apply below_alloc | apply pw_below_drewN | apply below_drew1 | refine below_set ?_ GE101.out) | exact HB.out)⟩
            · replace c12 := Bool.eq_false_iff.mpr c12
              subst c12
              have H1 : (some (0, 2)) = some (r1, r2) := by rw [if_neg (show ¬ (false = true) by decide)] at H; exact H
              clear H
              have H := H1
              clear H1
              simp only [Option.some.injEq, Prod.mk.injEq] at H
              obtain ⟨rfl, rfl⟩ := H
              have hcz14_0 : wc.cell? ⟨gb101, 0, none⟩ = some (.int .i64 a0_0) := (blk_cell BK101.out 0).trans rfl
              have hcz14_1 : wc.cell? ⟨gb101, 1, none⟩ = some (.int .i64 a0_1) := (blk_cell BK101.out 1).trans rfl
              have hfz14_0 := blk_frozen BK101.out 0
              have hfz14_1 := blk_frozen BK101.out 1
              go_wp2_with (first | (go_at_call 38; (with_reducible refine (fixed_tens.calls kj2 (wrap64 (6 - a0_1)) t102 _ A7.out).mono ?_); rintro e w' ⟨rfl, ⟨nd, rfl⟩⟩; (try first | exact ⟨rfl, _, World.drewN_drewN _ _ _⟩ | exact ⟨rfl, _, Eq.trans (World.drewN_drewN _ _ _) (congrArg (World.drewN _) (Nat.add_assoc _ _ _))⟩)) | (go_at_call 38; (with_reducible refine (fixed_tens.calls kj2 (wrap64 (6 - a1)) t103 _ A8.out).mono ?_); rintro e w' ⟨rfl, ⟨nd, rfl⟩⟩; (try first | exact ⟨rfl, _, World.drewN_drewN _ _ _⟩ | exact ⟨rfl, _, Eq.trans (World.drewN_drewN _ _ _) (congrArg (World.drewN _) (Nat.add_assoc _ _ _))⟩)) | (go_at_call 31; (with_reducible refine (fixed_fits.calls (wrap64 (Int.tdiv (wrap64 (a0_0 * t102)) t103)) false _ A11.out).mono ?_); rintro e w' ⟨rfl, ⟨nd, rfl⟩⟩; (try first | exact ⟨rfl, _, World.drewN_drewN _ _ _⟩ | exact ⟨rfl, _, Eq.trans (World.drewN_drewN _ _ _) (congrArg (World.drewN _) (Nat.add_assoc _ _ _))⟩)))
              repeat (go_quiet (first | (go_at_call 38; (try simp only [Go.IntWalk.i64_left]); (with_reducible refine (fixed_tens.calls kj2 (wrap64 (6 - a0_1)) t102 _ A7.out).mono ?_); rintro e w' ⟨rfl, ⟨nd, rfl⟩⟩; (try first | exact ⟨rfl, _, World.drewN_drewN _ _ _⟩ | exact ⟨rfl, _, Eq.trans (World.drewN_drewN _ _ _) (congrArg (World.drewN _) (Nat.add_assoc _ _ _))⟩)) | (go_at_call 38; (try simp only [Go.IntWalk.i64_left]); (with_reducible refine (fixed_tens.calls kj2 (wrap64 (6 - a1)) t103 _ A8.out).mono ?_); rintro e w' ⟨rfl, ⟨nd, rfl⟩⟩; (try first | exact ⟨rfl, _, World.drewN_drewN _ _ _⟩ | exact ⟨rfl, _, Eq.trans (World.drewN_drewN _ _ _) (congrArg (World.drewN _) (Nat.add_assoc _ _ _))⟩)) | (go_at_call 31; (try simp only [Go.IntWalk.i64_left]); (with_reducible refine (fixed_fits.calls (wrap64 (Int.tdiv (wrap64 (a0_0 * t102)) t103)) false _ A11.out).mono ?_); rintro e w' ⟨rfl, ⟨nd, rfl⟩⟩; (try first | exact ⟨rfl, _, World.drewN_drewN _ _ _⟩ | exact ⟨rfl, _, Eq.trans (World.drewN_drewN _ _ _) (congrArg (World.drewN _) (Nat.add_assoc _ _ _))⟩))); (try simp only [Go.IntWalk.i64_left]); try go_wp2_with (first | (go_at_call 38; (try simp only [Go.IntWalk.i64_left]); (with_reducible refine (fixed_tens.calls kj2 (wrap64 (6 - a0_1)) t102 _ A7.out).mono ?_); rintro e w' ⟨rfl, ⟨nd, rfl⟩⟩; (try first | exact ⟨rfl, _, World.drewN_drewN _ _ _⟩ | exact ⟨rfl, _, Eq.trans (World.drewN_drewN _ _ _) (congrArg (World.drewN _) (Nat.add_assoc _ _ _))⟩)) | (go_at_call 38; (try simp only [Go.IntWalk.i64_left]); (with_reducible refine (fixed_tens.calls kj2 (wrap64 (6 - a1)) t103 _ A8.out).mono ?_); rintro e w' ⟨rfl, ⟨nd, rfl⟩⟩; (try first | exact ⟨rfl, _, World.drewN_drewN _ _ _⟩ | exact ⟨rfl, _, Eq.trans (World.drewN_drewN _ _ _) (congrArg (World.drewN _) (Nat.add_assoc _ _ _))⟩)) | (go_at_call 31; (try simp only [Go.IntWalk.i64_left]); (with_reducible refine (fixed_fits.calls (wrap64 (Int.tdiv (wrap64 (a0_0 * t102)) t103)) false _ A11.out).mono ?_); rintro e w' ⟨rfl, ⟨nd, rfl⟩⟩; (try first | exact ⟨rfl, _, World.drewN_drewN _ _ _⟩ | exact ⟨rfl, _, Eq.trans (World.drewN_drewN _ _ _) (congrArg (World.drewN _) (Nat.add_assoc _ _ _))⟩))))
              go_ret2
              exact ⟨by first | rfl | (simp [errW_none, errW_some] <;> rfl) | (simp [*, errW_none, errW_some] <;> rfl), by repeat (first | (with_reducible first | exact HB.out | apply below_alloc | apply pw_below_drewN | apply below_drew1 | refine below_set ?_ GE101.out) | exact HB.out)⟩
          · rw [if_neg c10] at H
            have c10b0 : ((Int.tmod (wrap64 (a0_0 * t102)) t103) == 0) = false := beq_eq_false_iff_ne.mpr c10
            have c10b1 : ((Int.tmod (wrap64 (a0_0 * t102)) t103) != 0) = true := bne_iff_ne.mpr c10
            simp only [Option.some.injEq, Prod.mk.injEq] at H
            obtain ⟨rfl, rfl⟩ := H
            have hcz15_0 : wc.cell? ⟨gb101, 0, none⟩ = some (.int .i64 a0_0) := (blk_cell BK101.out 0).trans rfl
            have hcz15_1 : wc.cell? ⟨gb101, 1, none⟩ = some (.int .i64 a0_1) := (blk_cell BK101.out 1).trans rfl
            have hfz15_0 := blk_frozen BK101.out 0
            have hfz15_1 := blk_frozen BK101.out 1
            go_wp2_with (first | (go_at_call 38; (with_reducible refine (fixed_tens.calls kj2 (wrap64 (6 - a0_1)) t102 _ A7.out).mono ?_); rintro e w' ⟨rfl, ⟨nd, rfl⟩⟩; (try first | exact ⟨rfl, _, World.drewN_drewN _ _ _⟩ | exact ⟨rfl, _, Eq.trans (World.drewN_drewN _ _ _) (congrArg (World.drewN _) (Nat.add_assoc _ _ _))⟩)) | (go_at_call 38; (with_reducible refine (fixed_tens.calls kj2 (wrap64 (6 - a1)) t103 _ A8.out).mono ?_); rintro e w' ⟨rfl, ⟨nd, rfl⟩⟩; (try first | exact ⟨rfl, _, World.drewN_drewN _ _ _⟩ | exact ⟨rfl, _, Eq.trans (World.drewN_drewN _ _ _) (congrArg (World.drewN _) (Nat.add_assoc _ _ _))⟩)))
            repeat (go_quiet (first | (go_at_call 38; (try simp only [Go.IntWalk.i64_left]); (with_reducible refine (fixed_tens.calls kj2 (wrap64 (6 - a0_1)) t102 _ A7.out).mono ?_); rintro e w' ⟨rfl, ⟨nd, rfl⟩⟩; (try first | exact ⟨rfl, _, World.drewN_drewN _ _ _⟩ | exact ⟨rfl, _, Eq.trans (World.drewN_drewN _ _ _) (congrArg (World.drewN _) (Nat.add_assoc _ _ _))⟩)) | (go_at_call 38; (try simp only [Go.IntWalk.i64_left]); (with_reducible refine (fixed_tens.calls kj2 (wrap64 (6 - a1)) t103 _ A8.out).mono ?_); rintro e w' ⟨rfl, ⟨nd, rfl⟩⟩; (try first | exact ⟨rfl, _, World.drewN_drewN _ _ _⟩ | exact ⟨rfl, _, Eq.trans (World.drewN_drewN _ _ _) (congrArg (World.drewN _) (Nat.add_assoc _ _ _))⟩))); (try simp only [Go.IntWalk.i64_left]); try go_wp2_with (first | (go_at_call 38; (try simp only [Go.IntWalk.i64_left]); (with_reducible refine (fixed_tens.calls kj2 (wrap64 (6 - a0_1)) t102 _ A7.out).mono ?_); rintro e w' ⟨rfl, ⟨nd, rfl⟩⟩; (try first | exact ⟨rfl, _, World.drewN_drewN _ _ _⟩ | exact ⟨rfl, _, Eq.trans (World.drewN_drewN _ _ _) (congrArg (World.drewN _) (Nat.add_assoc _ _ _))⟩)) | (go_at_call 38; (try simp only [Go.IntWalk.i64_left]); (with_reducible refine (fixed_tens.calls kj2 (wrap64 (6 - a1)) t103 _ A8.out).mono ?_); rintro e w' ⟨rfl, ⟨nd, rfl⟩⟩; (try first | exact ⟨rfl, _, World.drewN_drewN _ _ _⟩ | exact ⟨rfl, _, Eq.trans (World.drewN_drewN _ _ _) (congrArg (World.drewN _) (Nat.add_assoc _ _ _))⟩))))
            go_ret2
            exact ⟨by first | rfl | (simp [errW_none, errW_some] <;> rfl) | (simp [*, errW_none, errW_some] <;> rfl), by repeat (first | (with_reducible first | exact HB.out | apply below_alloc | apply pw_below_drewN | apply below_drew1 | refine below_set ?_ GE101.out) | exact HB.out)⟩

end Go.Proofs.YtldllfadidepaaaDoor.P
namespace Go.Proofs.YtldllfadidepaaaDoor.P
open Go.RowKit Go.Proofs.YtldllfadidepaaaDoorW.PrintWords Go.Proofs.YtldllfadidepaaaDoorW.PrintLast Go.Proofs.YtldllfadidepaaaDoorW.PrintMore
attribute [local go_sem] max2_int min2_int max_two min_two max_three min_three max_four min_four   -- for this text's walks alone
set_option linter.unusedVariables false
set_option linter.unusedSimpArgs false

theorem eqA27 (d : Nat) (w : World) (x0 y0 : Int) (x1 y1 : Int) :
    (Op.equalIn (d + 2) 27 (.agg #[.int .i64 x0, .int .i64 x1]) (.agg #[.int .i64 y0, .int .i64 y1])).run Tryd.prog w = .ok (x0 == y0 && (x1 == y1)) w := by
  refine eqA_of Tryd.underlying27 (by kernel_rfl) ?_
  refine eqf_cons (by rfl) (by go_simp; rfl) (by go_simp; rfl) (by go_simp) ?_
  exact eqf_last (by rfl) (by go_simp; rfl) (by go_simp; rfl) (by go_simp)
end Go.Proofs.YtldllfadidepaaaDoor.P
namespace Go.Proofs.YtldllfadidepaaaDoor.P
open Go.RowKit Go.Proofs.YtldllfadidepaaaDoorW.PrintWords Go.Proofs.YtldllfadidepaaaDoorW.PrintLast Go.Proofs.YtldllfadidepaaaDoorW.PrintMore
attribute [local go_sem] max2_int min2_int max_two min_two max_three min_three max_four min_four   -- for this text's walks alone
set_option linter.unusedVariables false
set_option linter.unusedSimpArgs false

attribute [local go_sem high] eqA27
/-! ### entrepotlaw02_shown: function 10 -/
def entrepotlaw02_shown.f (k : Nat)  : Option (Bool) := (fixed_Read.f (⟨#[45, 49, 50, 46, 53, 48]⟩ : ByteArray)).bind fun bt101 => ((fixed_Int.f (⟨#[48, 49, 48, 48]⟩ : ByteArray)).bind fun bt105 => ((fixed_To.f k bt101.1 bt101.2.1 3).bind fun bt107 => (if bt101.2.2 = 0 then (if (bt101.1 == (-125) && (bt101.2.1 == 1)) = true then (if bt105.2 = 0 then (if bt105.1 = 100 then (if bt107.2 = 0 then (if bt107.1 = (-12500) then ((fixed_Print.f (-5) 2).bind fun t109 => (if t109.toList = ([45, 48, 46, 48, 53] : List UInt8) then ((fixed_Cmp.f k bt101.1 bt101.2.1 (-12) 0).bind fun t110 => (some (t110 == (-1)))) else (some false))) else (some false)) else (some false)) else (some false)) else (some false)) else (some false)) else (some false))))
theorem entrepotlaw02_shown.mono : ∀ k, LeO (entrepotlaw02_shown.f k ) (entrepotlaw02_shown.f (k + 1) ) := by
  intro  k
  unfold entrepotlaw02_shown.f
  repeat' first
      | (with_reducible exact fixed_Cmp.mono _ _ _ _ _)
      | (with_reducible exact fixed_To.mono _ _ _ _)
      | (with_reducible exact LeO.refl _)
      | (with_reducible exact LeO.none _)
      | (with_reducible refine LeO.ite ?_ ?_)
      | (with_reducible refine LeO.bind ?_ (fun _ => ?_))
      | exact fixed_Cmp.mono _ _ _ _ _
      | exact fixed_To.mono _ _ _ _
      | exact LeO.none _
      | refine LeO.ite ?_ ?_
      | refine LeO.bind ?_ (fun _ => ?_)
set_option maxHeartbeats 8000000 in
set_option maxRecDepth 100000 in
theorem entrepotlaw02_shown.calls (k : Nat)  (r : Bool) (w : World) (hT : Tabs w) (h : entrepotlaw02_shown.f k  = some r) :
    Calls Tryd.prog 10 #[] w fun e w' => e = .returned (.bool r) ∧ Below w.heap.size w w' := by
  have hu27 := Tryd.underlying27
  have HT0 := Aside0.mk hT
  clear hT
  have HB := Aside0.mk (Below.refl w.heap.size w)
  have H : ((fixed_Read.f (⟨#[45, 49, 50, 46, 53, 48]⟩ : ByteArray)).bind fun bt101 => ((fixed_Int.f (⟨#[48, 49, 48, 48]⟩ : ByteArray)).bind fun bt105 => ((fixed_To.f k bt101.1 bt101.2.1 3).bind fun bt107 => (if bt101.2.2 = 0 then (if (bt101.1 == (-125) && (bt101.2.1 == 1)) = true then (if bt105.2 = 0 then (if bt105.1 = 100 then (if bt107.2 = 0 then (if bt107.1 = (-12500) then ((fixed_Print.f (-5) 2).bind fun t109 => (if t109.toList = ([45, 48, 46, 48, 53] : List UInt8) then ((fixed_Cmp.f k bt101.1 bt101.2.1 (-12) 0).bind fun t110 => (some (t110 == (-1)))) else (some false))) else (some false)) else (some false)) else (some false)) else (some false)) else (some false)) else (some false))))) = some r := h
  clear h
  replace H := Option.bind_eq_some_iff.mp H
  obtain ⟨⟨t101, t102, t103⟩, A10, H⟩ := H
  replace H : ((fixed_Int.f (⟨#[48, 49, 48, 48]⟩ : ByteArray)).bind fun bt105 => ((fixed_To.f k t101 t102 3).bind fun bt107 => (if t103 = 0 then (if (t101 == (-125) && (t102 == 1)) = true then (if bt105.2 = 0 then (if bt105.1 = 100 then (if bt107.2 = 0 then (if bt107.1 = (-12500) then ((fixed_Print.f (-5) 2).bind fun t109 => (if t109.toList = ([45, 48, 46, 48, 53] : List UInt8) then ((fixed_Cmp.f k t101 t102 (-12) 0).bind fun t110 => (some (t110 == (-1)))) else (some false))) else (some false)) else (some false)) else (some false)) else (some false)) else (some false)) else (some false)))) = some r := H
  have A1 := Aside0.mk A10
  clear A10
  replace H := Option.bind_eq_some_iff.mp H
  obtain ⟨⟨t105, t106⟩, A20, H⟩ := H
  replace H : ((fixed_To.f k t101 t102 3).bind fun bt107 => (if t103 = 0 then (if (t101 == (-125) && (t102 == 1)) = true then (if t106 = 0 then (if t105 = 100 then (if bt107.2 = 0 then (if bt107.1 = (-12500) then ((fixed_Print.f (-5) 2).bind fun t109 => (if t109.toList = ([45, 48, 46, 48, 53] : List UInt8) then ((fixed_Cmp.f k t101 t102 (-12) 0).bind fun t110 => (some (t110 == (-1)))) else (some false))) else (some false)) else (some false)) else (some false)) else (some false)) else (some false)) else (some false))) = some r := H
  have A2 := Aside0.mk A20
  clear A20
  replace H := Option.bind_eq_some_iff.mp H
  obtain ⟨⟨t107, t108⟩, A30, H⟩ := H
  replace H : (if t103 = 0 then (if (t101 == (-125) && (t102 == 1)) = true then (if t106 = 0 then (if t105 = 100 then (if t108 = 0 then (if t107 = (-12500) then ((fixed_Print.f (-5) 2).bind fun t109 => (if t109.toList = ([45, 48, 46, 48, 53] : List UInt8) then ((fixed_Cmp.f k t101 t102 (-12) 0).bind fun t110 => (some (t110 == (-1)))) else (some false))) else (some false)) else (some false)) else (some false)) else (some false)) else (some false)) else (some false)) = some r := H
  have A3 := Aside0.mk A30
  clear A30
  by_cases c4 : t103 = 0
  · rw [if_pos c4] at H
    have c4b0 : (t103 == 0) = true := beq_iff_eq.mpr c4
    have c4b1 : (t103 != 0) = false := bne_eq_false_iff_eq.mpr c4
    clear c4
    by_cases c5 : (t101 == (-125) && (t102 == 1)) = true
    · rw [if_pos c5] at H
      have c5b0 : (t101 == (-125) && (t102 == 1)) = true := c5
      (try (have c5b1 : decide (t101 = (-125) && (t102 == 1)) = true := by simpa using c5))
      (try (have c5b2 : (t101 == (-125) && (t102 == 1)) = true := by simpa using c5))
      clear c5
      by_cases c6 : t106 = 0
      · rw [if_pos c6] at H
        have c6b0 : (t106 == 0) = true := beq_iff_eq.mpr c6
        have c6b1 : (t106 != 0) = false := bne_eq_false_iff_eq.mpr c6
        clear c6
        by_cases c7 : t105 = 100
        · rw [if_pos c7] at H
          have c7b0 : (t105 == 100) = true := beq_iff_eq.mpr c7
          have c7b1 : (t105 != 100) = false := bne_eq_false_iff_eq.mpr c7
          clear c7
          by_cases c8 : t108 = 0
          · rw [if_pos c8] at H
            have c8b0 : (t108 == 0) = true := beq_iff_eq.mpr c8
            have c8b1 : (t108 != 0) = false := bne_eq_false_iff_eq.mpr c8
            clear c8
            by_cases c9 : t107 = (-12500)
            · rw [if_pos c9] at H
              have c9b0 : (t107 == (-12500)) = true := beq_iff_eq.mpr c9
              have c9b1 : (t107 != (-12500)) = false := bne_eq_false_iff_eq.mpr c9
              clear c9
              replace H := Option.bind_eq_some_iff.mp H
              obtain ⟨t109, A100, H⟩ := H
              replace H : (if t109.toList = ([45, 48, 46, 48, 53] : List UInt8) then ((fixed_Cmp.f k t101 t102 (-12) 0).bind fun t110 => (some (t110 == (-1)))) else (some false)) = some r := H
              have A10 := Aside0.mk A100
              clear A100
              by_cases c11 : t109.toList = ([45, 48, 46, 48, 53] : List UInt8)
              · rw [if_pos c11] at H
                have c11b0 : (t109.toList == ([45, 48, 46, 48, 53] : List UInt8)) = true := beq_iff_eq.mpr c11
                have c11b1 : (t109.toList != ([45, 48, 46, 48, 53] : List UInt8)) = false := bne_eq_false_iff_eq.mpr c11
                clear c11
                replace H := Option.bind_eq_some_iff.mp H
                obtain ⟨t110, A120, H⟩ := H
                replace H : (some (t110 == (-1))) = some r := H
                have A12 := Aside0.mk A120
                clear A120
                obtain rfl := Option.some.inj H
                go_enter Tryd.func10, Tryd.ntmps10
                go_wp2_with (first | ((with_reducible refine gate_callee (f := 13) rfl ?_); refine goesL_ (some 8) rfl rfl Tryd.func13 (by kernel_rfl) rfl #[.string (⟨#[45, 49, 50, 46, 53, 48]⟩ : ByteArray)] rfl (by (try simp only [List.map_toArray, List.map_cons, List.map_nil]); first | done | rfl | (simp only [List.length_drop, List.length_take]; rfl)) ?_; (with_reducible refine (fixed_Read.calls (⟨#[45, 49, 50, 46, 53, 48]⟩ : ByteArray) t101 t102 t103 _ A1.out).mono ?_); rintro e w13 ⟨rfl, hb⟩; refine ⟨_, rfl, ?_⟩; have n0_ := Aside0.mk (below_step (by repeat (first | (with_reducible first | exact HB.out | apply below_alloc | apply pw_below_drewN | apply below_drew1) | exact HB.out)) hb); clear HB; have HB := n0_; clear n0_; (try clear hb); (try clear hb2); (try clear hk); (try clear hi)) | ((with_reducible refine gate_dst (N := 1) rfl ?_); refine box_event ?hg (N := 1) ?hd (cs := #[.int .i64 0, .int .i64 0]) (t := 27) ?hr ?_; (case hd => rfl); (case hg => rfl); (case hr => first | (go_simp; done) | (go_simp; rfl)); intro gb104 hg w14 hbox hb; have n0_ := Aside0.mk (below_step (by repeat (first | (with_reducible first | exact HB.out | apply below_alloc | apply pw_below_drewN | apply below_drew1) | exact HB.out)) hb); have n1_ := Aside0.mk (hbox); have n2_ := Aside0.mk ((by rw [hg]; exact (below_size (by repeat (first | (with_reducible first | exact HB.out | apply below_alloc | apply pw_below_drewN | apply below_drew1) | exact HB.out))) : w.heap.size ≤ gb104)); have n3_ := Aside0.mk ((by rw [hg]; exact (below_size (by repeat (first | (with_reducible first | exact HB.out | apply below_alloc | apply pw_below_drewN | apply below_drew1) | exact HB.out))) : w.heap.size ≤ gb104)); clear HB; have HB := n0_; have BK104 := n1_; have GW104 := n2_; have GE104 := n3_; clear n0_ n1_ n2_ n3_; clear hb hbox hg; have hcz15_0 : w14.cell? ⟨gb104, 0, none⟩ = some (.int .i64 0) := (blk_cell BK104.out 0).trans rfl; have hcz15_1 : w14.cell? ⟨gb104, 1, none⟩ = some (.int .i64 0) := (blk_cell BK104.out 1).trans rfl; have hfz15_0 := blk_frozen BK104.out 0; have hfz15_1 := blk_frozen BK104.out 1) | ((with_reducible refine gate_callee (f := 11) rfl ?_); refine goesL_ (some 12) rfl rfl Tryd.func11 (by kernel_rfl) rfl #[.string (⟨#[48, 49, 48, 48]⟩ : ByteArray)] rfl (by (try simp only [List.map_toArray, List.map_cons, List.map_nil]); first | done | rfl | (simp only [List.length_drop, List.length_take]; rfl)) ?_; (with_reducible refine (fixed_Int.calls (⟨#[48, 49, 48, 48]⟩ : ByteArray) t105 t106 _ A2.out).mono ?_); rintro e w16 ⟨rfl, hb⟩; refine ⟨_, rfl, ?_⟩; have n0_ := Aside0.mk (blk_below (g := gb104) (o := .cells #[.int .i64 t101, .int .i64 t102] 27 (0, 0)) (by (with_reducible repeat (first | refine blk_drewN ?_ _ | refine blk_drew ?_ | refine blk_alloc ?_ _)); refine blk_put (cs := #[.int .i64 t101, .int .i64 0]) ?_ 1 _ rfl; (with_reducible repeat (first | refine blk_drewN ?_ _ | refine blk_drew ?_ | refine blk_alloc ?_ _)); refine blk_put (cs := #[.int .i64 0, .int .i64 0]) ?_ 0 _ rfl; (with_reducible repeat (first | refine blk_drewN ?_ _ | refine blk_drew ?_ | refine blk_alloc ?_ _)); exact BK104.out) hb); have n1_ := Aside0.mk (below_step (by repeat (first | (with_reducible first | exact HB.out | apply below_alloc | apply pw_below_drewN | apply below_drew1 | refine below_set ?_ GE104.out) | exact HB.out)) hb); clear BK104; clear HB; have BK104 := n0_; have HB := n1_; clear n0_ n1_; (try clear hb); (try clear hb2); (try clear hk); (try clear hi); have hcz17_0 : w16.cell? ⟨gb104, 0, none⟩ = some (.int .i64 t101) := (blk_cell BK104.out 0).trans rfl; have hcz17_1 : w16.cell? ⟨gb104, 1, none⟩ = some (.int .i64 t102) := (blk_cell BK104.out 1).trans rfl; have hfz17_0 := blk_frozen BK104.out 0; have hfz17_1 := blk_frozen BK104.out 1) | ((with_reducible refine gate_callee (f := 22) rfl ?_); refine goesL_ (some 17) rfl rfl Tryd.func22 (by kernel_rfl) rfl #[.agg #[.int .i64 t101, .int .i64 t102], .int .i64 3] rfl (by (try simp only [List.map_toArray, List.map_cons, List.map_nil]); first | done | rfl | (simp only [List.length_drop, List.length_take]; rfl)) ?_; (with_reducible refine (fixed_To.calls k t101 t102 3 t107 t108 _ A3.out).mono ?_); rintro e w18 ⟨rfl, hb⟩; refine ⟨_, rfl, ?_⟩; have n0_ := Aside0.mk (blk_below (g := gb104) (o := .cells #[.int .i64 t101, .int .i64 t102] 27 (0, 0)) (by (with_reducible repeat (first | refine blk_drewN ?_ _ | refine blk_drew ?_ | refine blk_alloc ?_ _)); exact BK104.out) hb); have n1_ := Aside0.mk (below_step (by repeat (first | (with_reducible first | exact HB.out | apply below_alloc | apply pw_below_drewN | apply below_drew1 | refine below_set ?_ GE104.out) | exact HB.out)) hb); clear BK104; clear HB; have BK104 := n0_; have HB := n1_; clear n0_ n1_; (try clear hb); (try clear hb2); (try clear hk); (try clear hi); have hcz19_0 : w18.cell? ⟨gb104, 0, none⟩ = some (.int .i64 t101) := (blk_cell BK104.out 0).trans rfl; have hcz19_1 : w18.cell? ⟨gb104, 1, none⟩ = some (.int .i64 t102) := (blk_cell BK104.out 1).trans rfl; have hfz19_0 := blk_frozen BK104.out 0; have hfz19_1 := blk_frozen BK104.out 1) | (go_at_call 16; (with_reducible refine (fixed_Print.calls (-5) 2 t109 _ (Tabs.kept HT0.out (by repeat (first | (with_reducible first | exact HB.out | apply below_alloc | apply pw_below_drewN | apply below_drew1 | refine below_set ?_ GE104.out) | exact HB.out))) A10.out).mono ?_); rintro e w20 ⟨rfl, hb⟩; have n0_ := Aside0.mk (blk_below (g := gb104) (o := .cells #[.int .i64 t101, .int .i64 t102] 27 (0, 0)) (by (with_reducible repeat (first | refine blk_drewN ?_ _ | refine blk_drew ?_ | refine blk_alloc ?_ _)); exact BK104.out) hb); have n1_ := Aside0.mk (below_step (by repeat (first | (with_reducible first | exact HB.out | apply below_alloc | apply pw_below_drewN | apply below_drew1 | refine below_set ?_ GE104.out) | exact HB.out)) hb); clear BK104; clear HB; have BK104 := n0_; have HB := n1_; clear n0_ n1_; (try clear hb); (try clear hb2); (try clear hk); (try clear hi); have hcz21_0 : w20.cell? ⟨gb104, 0, none⟩ = some (.int .i64 t101) := (blk_cell BK104.out 0).trans rfl; have hcz21_1 : w20.cell? ⟨gb104, 1, none⟩ = some (.int .i64 t102) := (blk_cell BK104.out 1).trans rfl; have hfz21_0 := blk_frozen BK104.out 0; have hfz21_1 := blk_frozen BK104.out 1) | (go_at_call 20; (with_reducible refine (fixed_Cmp.calls k t101 t102 (-12) 0 t110 _ A12.out).mono ?_); rintro e w22 ⟨rfl, hb⟩; have n0_ := Aside0.mk (blk_below (g := gb104) (o := .cells #[.int .i64 t101, .int .i64 t102] 27 (0, 0)) (by (with_reducible repeat (first | refine blk_drewN ?_ _ | refine blk_drew ?_ | refine blk_alloc ?_ _)); exact BK104.out) hb); have n1_ := Aside0.mk (below_step (by repeat (first | (with_reducible first | exact HB.out | apply below_alloc | apply pw_below_drewN | apply below_drew1 | refine below_set ?_ GE104.out) | exact HB.out)) hb); clear BK104; clear HB; have BK104 := n0_; have HB := n1_; clear n0_ n1_; (try clear hb); (try clear hb2); (try clear hk); (try clear hi)))
                go_ret
                exact ⟨by first | rfl | (simp [errW_none, errW_some] <;> rfl) | (simp [*, errW_none, errW_some] <;> rfl), by repeat (first | (with_reducible first | exact HB.out | apply below_alloc | apply pw_below_drewN | apply below_drew1 | refine below_set ?_ GE104.out) | exact HB.out)⟩
              · rw [if_neg c11] at H
                have c11b0 : (t109.toList == ([45, 48, 46, 48, 53] : List UInt8)) = false := beq_eq_false_iff_ne.mpr c11
                have c11b1 : (t109.toList != ([45, 48, 46, 48, 53] : List UInt8)) = true := bne_iff_ne.mpr c11
                obtain rfl := Option.some.inj H
                go_enter Tryd.func10, Tryd.ntmps10
                go_wp2_with (first | ((with_reducible refine gate_callee (f := 13) rfl ?_); refine goesL_ (some 8) rfl rfl Tryd.func13 (by kernel_rfl) rfl #[.string (⟨#[45, 49, 50, 46, 53, 48]⟩ : ByteArray)] rfl (by (try simp only [List.map_toArray, List.map_cons, List.map_nil]); first | done | rfl | (simp only [List.length_drop, List.length_take]; rfl)) ?_; (with_reducible refine (fixed_Read.calls (⟨#[45, 49, 50, 46, 53, 48]⟩ : ByteArray) t101 t102 t103 _ A1.out).mono ?_); rintro e w23 ⟨rfl, hb⟩; refine ⟨_, rfl, ?_⟩; have n0_ := Aside0.mk (below_step (by repeat (first | (with_reducible first | exact HB.out | apply below_alloc | apply pw_below_drewN | apply below_drew1) | exact HB.out)) hb); clear HB; have HB := n0_; clear n0_; (try clear hb); (try clear hb2); (try clear hk); (try clear hi)) | ((with_reducible refine gate_dst (N := 1) rfl ?_); refine box_event ?hg (N := 1) ?hd (cs := #[.int .i64 0, .int .i64 0]) (t := 27) ?hr ?_; (case hd => rfl); (case hg => rfl); (case hr => first | (go_simp; done) | (go_simp; rfl)); intro gb104 hg w24 hbox hb; have n0_ := Aside0.mk (below_step (by repeat (first | (with_reducible first | exact HB.out | apply below_alloc | apply pw_below_drewN | apply below_drew1) | exact HB.out)) hb); have n1_ := Aside0.mk (hbox); have n2_ := Aside0.mk ((by rw [hg]; exact (below_size (by repeat (first | (with_reducible first | exact HB.out | apply below_alloc | apply pw_below_drewN | apply below_drew1) | exact HB.out))) : w.heap.size ≤ gb104)); have n3_ := Aside0.mk ((by rw [hg]; exact (below_size (by repeat (first | (with_reducible first | exact HB.out | apply below_alloc | apply pw_below_drewN | apply below_drew1) | exact HB.out))) : w.heap.size ≤ gb104)); clear HB; have HB := n0_; have BK104 := n1_; have GW104 := n2_; have GE104 := n3_; clear n0_ n1_ n2_ n3_; clear hb hbox hg; have hcz25_0 : w24.cell? ⟨gb104, 0, none⟩ = some (.int .i64 0) := (blk_cell BK104.out 0).trans rfl; have hcz25_1 : w24.cell? ⟨gb104, 1, none⟩ = some (.int .i64 0) := (blk_cell BK104.out 1).trans rfl; have hfz25_0 := blk_frozen BK104.out 0; have hfz25_1 := blk_frozen BK104.out 1) | ((with_reducible refine gate_callee (f := 11) rfl ?_); refine goesL_ (some 12) rfl rfl Tryd.func11 (by kernel_rfl) rfl #[.string (⟨#[48, 49, 48, 48]⟩ : ByteArray)] rfl (by (try simp only [List.map_toArray, List.map_cons, List.map_nil]); first | done | rfl | (simp only [List.length_drop, List.length_take]; rfl)) ?_; (with_reducible refine (fixed_Int.calls (⟨#[48, 49, 48, 48]⟩ : ByteArray) t105 t106 _ A2.out).mono ?_); rintro e w26 ⟨rfl, hb⟩; refine ⟨_, rfl, ?_⟩; have n0_ := Aside0.mk (blk_below (g := gb104) (o := .cells #[.int .i64 t101, .int .i64 t102] 27 (0, 0)) (by (with_reducible repeat (first | refine blk_drewN ?_ _ | refine blk_drew ?_ | refine blk_alloc ?_ _)); refine blk_put (cs := #[.int .i64 t101, .int .i64 0]) ?_ 1 _ rfl; (with_reducible repeat (first | refine blk_drewN ?_ _ | refine blk_drew ?_ | refine blk_alloc ?_ _)); refine blk_put (cs := #[.int .i64 0, .int .i64 0]) ?_ 0 _ rfl; (with_reducible repeat (first | refine blk_drewN ?_ _ | refine blk_drew ?_ | refine blk_alloc ?_ _)); exact BK104.out) hb); have n1_ := Aside0.mk (below_step (by repeat (first | (with_reducible first | exact HB.out | apply below_alloc | apply pw_below_drewN | apply below_drew1 | refine below_set ?_ GE104.out) | exact HB.out)) hb); clear BK104; clear HB; have BK104 := n0_; have HB := n1_; clear n0_ n1_; (try clear hb); (try clear hb2); (try clear hk); (try clear hi); have hcz27_0 : w26.cell? ⟨gb104, 0, none⟩ = some (.int .i64 t101) := (blk_cell BK104.out 0).trans rfl; have hcz27_1 : w26.cell? ⟨gb104, 1, none⟩ = some (.int .i64 t102) := (blk_cell BK104.out 1).trans rfl; have hfz27_0 := blk_frozen BK104.out 0; have hfz27_1 := blk_frozen BK104.out 1) | ((with_reducible refine gate_callee (f := 22) rfl ?_); refine goesL_ (some 17) rfl rfl Tryd.func22 (by kernel_rfl) rfl #[.agg #[.int .i64 t101, .int .i64 t102], .int .i64 3] rfl (by (try simp only [List.map_toArray, List.map_cons, List.map_nil]); first | done | rfl | (simp only [List.length_drop, List.length_take]; rfl)) ?_; (with_reducible refine (fixed_To.calls k t101 t102 3 t107 t108 _ A3.out).mono ?_); rintro e w28 ⟨rfl, hb⟩; refine ⟨_, rfl, ?_⟩; have n0_ := Aside0.mk (blk_below (g := gb104) (o := .cells #[.int .i64 t101, .int .i64 t102] 27 (0, 0)) (by (with_reducible repeat (first | refine blk_drewN ?_ _ | refine blk_drew ?_ | refine blk_alloc ?_ _)); exact BK104.out) hb); have n1_ := Aside0.mk (below_step (by repeat (first | (with_reducible first | exact HB.out | apply below_alloc | apply pw_below_drewN | apply below_drew1 | refine below_set ?_ GE104.out) | exact HB.out)) hb); clear BK104; clear HB; have BK104 := n0_; have HB := n1_; clear n0_ n1_; (try clear hb); (try clear hb2); (try clear hk); (try clear hi); have hcz29_0 : w28.cell? ⟨gb104, 0, none⟩ = some (.int .i64 t101) := (blk_cell BK104.out 0).trans rfl; have hcz29_1 : w28.cell? ⟨gb104, 1, none⟩ = some (.int .i64 t102) := (blk_cell BK104.out 1).trans rfl; have hfz29_0 := blk_frozen BK104.out 0; have hfz29_1 := blk_frozen BK104.out 1) | (go_at_call 16; (with_reducible refine (fixed_Print.calls (-5) 2 t109 _ (Tabs.kept HT0.out (by repeat (first | (with_reducible first | exact HB.out | apply below_alloc | apply pw_below_drewN | apply below_drew1 | refine below_set ?_ GE104.out) | exact HB.out))) A10.out).mono ?_); rintro e w30 ⟨rfl, hb⟩; have n0_ := Aside0.mk (blk_below (g := gb104) (o := .cells #[.int .i64 t101, .int .i64 t102] 27 (0, 0)) (by (with_reducible repeat (first | refine blk_drewN ?_ _ | refine blk_drew ?_ | refine blk_alloc ?_ _)); exact BK104.out) hb); have n1_ := Aside0.mk (below_step (by repeat (first | (with_reducible first | exact HB.out | apply below_alloc | apply pw_below_drewN | apply below_drew1 | refine below_set ?_ GE104.out) | exact HB.out)) hb); clear BK104; clear HB; have BK104 := n0_; have HB := n1_; clear n0_ n1_; (try clear hb); (try clear hb2); (try clear hk); (try clear hi)))
                go_ret
                exact ⟨by first | rfl | (simp [errW_none, errW_some] <;> rfl) | (simp [*, errW_none, errW_some] <;> rfl), by repeat (first | (with_reducible first | exact HB.out | apply below_alloc | apply pw_below_drewN | apply below_drew1 | refine below_set ?_ GE104.out) | exact HB.out)⟩
            · rw [if_neg c9] at H
              have c9b0 : (t107 == (-12500)) = false := beq_eq_false_iff_ne.mpr c9
              have c9b1 : (t107 != (-12500)) = true := bne_iff_ne.mpr c9
              obtain rfl := Option.some.inj H
              go_enter Tryd.func10, Tryd.ntmps10
              go_wp2_with (first | ((with_reducible refine gate_callee (f := 13) rfl ?_); refine goesL_ (some 8) rfl rfl Tryd.func13 (by kernel_rfl) rfl #[.string (⟨#[45, 49, 50, 46, 53, 48]⟩ : ByteArray)] rfl (by (try simp only [List.map_toArray, List.map_cons, List.map_nil]); first | done | rfl | (simp only [List.length_drop, List.length_take]; rfl)) ?_; (with_reducible refine (fixed_Read.calls (⟨#[45, 49, 50, 46, 53, 48]⟩ : ByteArray) t101 t102 t103 _ A1.out).mono ?_); rintro e w31 ⟨rfl, hb⟩; refine ⟨_, rfl, ?_⟩; have n0_ := Aside0.mk (below_step (by repeat (first | (with_reducible first | exact HB.out | apply below_alloc | apply pw_below_drewN | apply below_drew1) | exact HB.out)) hb); clear HB; have HB := n0_; clear n0_; (try clear hb); (try clear hb2); (try clear hk); (try clear hi)) | ((with_reducible refine gate_dst (N := 1) rfl ?_); refine box_event ?hg (N := 1) ?hd (cs := #[.int .i64 0, .int .i64 0]) (t := 27) ?hr ?_; (case hd => rfl); (case hg => rfl); (case hr => first | (go_simp; done) | (go_simp; rfl)); intro gb104 hg w32 hbox hb; have n0_ := Aside0.mk (below_step (by repeat (first | (with_reducible first | exact HB.out | apply below_alloc | apply pw_below_drewN | apply below_drew1) | exact HB.out)) hb); have n1_ := Aside0.mk (hbox); have n2_ := Aside0.mk ((by rw [hg]; exact (below_size (by repeat (first | (with_reducible first | exact HB.out | apply below_alloc | apply pw_below_drewN | apply below_drew1) | exact HB.out))) : w.heap.size ≤ gb104)); have n3_ := Aside0.mk ((by rw [hg]; exact (below_size (by repeat (first | (with_reducible first | exact HB.out | apply below_alloc | apply pw_below_drewN | apply below_drew1) | exact HB.out))) : w.heap.size ≤ gb104)); clear HB; have HB := n0_; have BK104 := n1_; have GW104 := n2_; have GE104 := n3_; clear n0_ n1_ n2_ n3_; clear hb hbox hg; have hcz33_0 : w32.cell? ⟨gb104, 0, none⟩ = some (.int .i64 0) := (blk_cell BK104.out 0).trans rfl; have hcz33_1 : w32.cell? ⟨gb104, 1, none⟩ = some (.int .i64 0) := (blk_cell BK104.out 1).trans rfl; have hfz33_0 := blk_frozen BK104.out 0; have hfz33_1 := blk_frozen BK104.out 1) | ((with_reducible refine gate_callee (f := 11) rfl ?_); refine goesL_ (some 12) rfl rfl Tryd.func11 (by kernel_rfl) rfl #[.string (⟨#[48, 49, 48, 48]⟩ : ByteArray)] rfl (by (try simp only [List.map_toArray, List.map_cons, List.map_nil]); first | done | rfl | (simp only [List.length_drop, List.length_take]; rfl)) ?_; (with_reducible refine (fixed_Int.calls (⟨#[48, 49, 48, 48]⟩ : ByteArray) t105 t106 _ A2.out).mono ?_); rintro e w34 ⟨rfl, hb⟩; refine ⟨_, rfl, ?_⟩; have n0_ := Aside0.mk (blk_below (g := gb104) (o := .cells #[.int .i64 t101, .int .i64 t102] 27 (0, 0)) (by (with_reducible repeat (first | refine blk_drewN ?_ _ | refine blk_drew ?_ | refine blk_alloc ?_ _)); refine blk_put (cs := #[.int .i64 t101, .int .i64 0]) ?_ 1 _ rfl; (with_reducible repeat (first | refine blk_drewN ?_ _ | refine blk_drew ?_ | refine blk_alloc ?_ _)); refine blk_put (cs := #[.int .i64 0, .int .i64 0]) ?_ 0 _ rfl; (with_reducible repeat (first | refine blk_drewN ?_ _ | refine blk_drew ?_ | refine blk_alloc ?_ _)); exact BK104.out) hb); have n1_ := Aside0.mk (below_step (by repeat (first | (with_reducible first | exact HB.out | apply below_alloc | apply pw_below_drewN | apply below_drew1 | refine below_set ?_ GE104.out) | exact HB.out)) hb); clear BK104; clear HB; have BK104 := n0_; have HB := n1_; clear n0_ n1_; (try clear hb); (try clear hb2); (try clear hk); (try clear hi); have hcz35_0 : w34.cell? ⟨gb104, 0, none⟩ = some (.int .i64 t101) := (blk_cell BK104.out 0).trans rfl; have hcz35_1 : w34.cell? ⟨gb104, 1, none⟩ = some (.int .i64 t102) := (blk_cell BK104.out 1).trans rfl; have hfz35_0 := blk_frozen BK104.out 0; have hfz35_1 := blk_frozen BK104.out 1) | ((with_reducible refine gate_callee (f := 22) rfl ?_); refine goesL_ (some 17) rfl rfl Tryd.func22 (by kernel_rfl) rfl #[.agg #[.int .i64 t101, .int .i64 t102], .int .i64 3] rfl (by (try simp only [List.map_toArray, List.map_cons, List.map_nil]); first | done | rfl | (simp only [List.length_drop, List.length_take]; rfl)) ?_; (with_reducible refine (fixed_To.calls k t101 t102 3 t107 t108 _ A3.out).mono ?_); rintro e w36 ⟨rfl, hb⟩; refine ⟨_, rfl, ?_⟩; have n0_ := Aside0.mk (blk_below (g := gb104) (o := .cells #[.int .i64 t101, .int .i64 t102] 27 (0, 0)) (by (with_reducible repeat (first | refine blk_drewN ?_ _ | refine blk_drew ?_ | refine blk_alloc ?_ _)); exact BK104.out) hb); have n1_ := Aside0.mk (below_step (by repeat (first | (with_reducible first | exact HB.out | apply below_alloc | apply pw_below_drewN | apply below_drew1 | refine below_set ?_ GE104.out) | exact HB.out)) hb); clear BK104; clear HB; have BK104 := n0_; have HB := n1_; clear n0_ n1_; (try clear hb); (try clear hb2); (try clear hk); (try clear hi); have hcz37_0 : w36.cell? ⟨gb104, 0, none⟩ = some (.int .i64 t101) := (blk_cell BK104.out 0).trans rfl; have hcz37_1 : w36.cell? ⟨gb104, 1, none⟩ = some (.int .i64 t102) := (blk_cell BK104.out 1).trans rfl; have hfz37_0 := blk_frozen BK104.out 0; have hfz37_1 := blk_frozen BK104.out 1))
              go_ret
              exact ⟨by first | rfl | (simp [errW_none, errW_some] <;> rfl) | (simp [*, errW_none, errW_some] <;> rfl), by repeat (first | (with_reducible first | exact HB.out | apply below_alloc | apply pw_below_drewN | apply below_drew1 | refine below_set ?_ GE104.out) | exact HB.out)⟩
          · rw [if_neg c8] at H
            have c8b0 : (t108 == 0) = false := beq_eq_false_iff_ne.mpr c8
            have c8b1 : (t108 != 0) = true := bne_iff_ne.mpr c8
            obtain rfl := Option.some.inj H
            go_enter Tryd.func10, Tryd.ntmps10
            go_wp2_with (first | ((with_reducible refine gate_callee (f := 13) rfl ?_); refine goesL_ (some 8) rfl rfl Tryd.func13 (by kernel_rfl) rfl #[.string (⟨#[45, 49, 50, 46, 53, 48]⟩ : ByteArray)] rfl (by (try simp only [List.map_toArray, List.map_cons, List.map_nil]); first | done | rfl | (simp only [List.length_drop, List.length_take]; rfl)) ?_; (with_reducible refine (fixed_Read.calls (⟨#[45, 49, 50, 46, 53, 48]⟩ : ByteArray) t101 t102 t103 _ A1.out).mono ?_); rintro e w38 ⟨rfl, hb⟩; refine ⟨_, rfl, ?_⟩; have n0_ := Aside0.mk (below_step (by repeat (first | (with_reducible first | exact HB.out | apply below_alloc | apply pw_below_drewN | apply below_drew1) | exact HB.out)) hb); clear HB; have HB := n0_; clear n0_; (try clear hb); (try clear hb2); (try clear hk); (try clear hi)) | ((with_reducible refine gate_dst (N := 1) rfl ?_); refine box_event ?hg (N := 1) ?hd (cs := #[.int .i64 0, .int .i64 0]) (t := 27) ?hr ?_; (case hd => rfl); (case hg => rfl); (case hr => first | (go_simp; done) | (go_simp; rfl)); intro gb104 hg w39 hbox hb; have n0_ := Aside0.mk (below_step (by repeat (first | (with_reducible first | exact HB.out | apply below_alloc | apply pw_below_drewN | apply below_drew1) | exact HB.out)) hb); have n1_ := Aside0.mk (hbox); have n2_ := Aside0.mk ((by rw [hg]; exact (below_size (by repeat (first | (with_reducible first | exact HB.out | apply below_alloc | apply pw_below_drewN | apply below_drew1) | exact HB.out))) : w.heap.size ≤ gb104)); have n3_ := Aside0.mk ((by rw [hg]; exact (below_size (by repeat (first | (with_reducible first | exact HB.out | apply below_alloc | apply pw_below_drewN | apply below_drew1) | exact HB.out))) : w.heap.size ≤ gb104)); clear HB; have HB := n0_; have BK104 := n1_; have GW104 := n2_; have GE104 := n3_; clear n0_ n1_ n2_ n3_; clear hb hbox hg; have hcz40_0 : w39.cell? ⟨gb104, 0, none⟩ = some (.int .i64 0) := (blk_cell BK104.out 0).trans rfl; have hcz40_1 : w39.cell? ⟨gb104, 1, none⟩ = some (.int .i64 0) := (blk_cell BK104.out 1).trans rfl; have hfz40_0 := blk_frozen BK104.out 0; have hfz40_1 := blk_frozen BK104.out 1) | ((with_reducible refine gate_callee (f := 11) rfl ?_); refine goesL_ (some 12) rfl rfl Tryd.func11 (by kernel_rfl) rfl #[.string (⟨#[48, 49, 48, 48]⟩ : ByteArray)] rfl (by (try simp only [List.map_toArray, List.map_cons, List.map_nil]); first | done | rfl | (simp only [List.length_drop, List.length_take]; rfl)) ?_; (with_reducible refine (fixed_Int.calls (⟨#[48, 49, 48, 48]⟩ : ByteArray) t105 t106 _ A2.out).mono ?_); rintro e w41 ⟨rfl, hb⟩; refine ⟨_, rfl, ?_⟩; have n0_ := Aside0.mk (blk_below (g := gb104) (o := .cells #[.int .i64 t101, .int .i64 t102] 27 (0, 0)) (by (with_reducible repeat (first | refine blk_drewN ?_ _ | refine blk_drew ?_ | refine blk_alloc ?_ _)); refine blk_put (cs := #[.int .i64 t101, .int .i64 0]) ?_ 1 _ rfl; (with_reducible repeat (first | refine blk_drewN ?_ _ | refine blk_drew ?_ | refine blk_alloc ?_ _)); refine blk_put (cs := #[.int .i64 0, .int .i64 0]) ?_ 0 _ rfl; (with_reducible repeat (first | refine blk_drewN ?_ _ | refine blk_drew ?_ | refine blk_alloc ?_ _)); exact BK104.out) hb); have n1_ := Aside0.mk (below_step (by repeat (first | (with_reducible first | exact HB.out | apply below_alloc | apply pw_below_drewN | apply below_drew1 | refine below_set ?_ GE104.out) | exact HB.out)) hb); clear BK104; clear HB; have BK104 := n0_; have HB := n1_; clear n0_ n1_; (try clear hb); (try clear hb2); (try clear hk); (try clear hi); have hcz42_0 : w41.cell? ⟨gb104, 0, none⟩ = some (.int .i64 t101) := (blk_cell BK104.out 0).trans rfl; have hcz42_1 : w41.cell? ⟨gb104, 1, none⟩ = some (.int .i64 t102) := (blk_cell BK104.out 1).trans rfl; have hfz42_0 := blk_frozen BK104.out 0; have hfz42_1 := blk_frozen BK104.out 1) | ((with_reducible refine gate_callee (f := 22) rfl ?_); refine goesL_ (some 17) rfl rfl Tryd.func22 (by kernel_rfl) rfl #[.agg #[.int .i64 t101, .int .i64 t102], .int .i64 3] rfl (by (try simp only [List.map_toArray, List.map_cons, List.map_nil]); first | done | rfl | (simp only [List.length_drop, List.length_take]; rfl)) ?_; (with_reducible refine (fixed_To.calls k t101 t102 3 t107 t108 _ A3.out).mono ?_); rintro e w43 ⟨rfl, hb⟩; refine ⟨_, rfl, ?_⟩; have n0_ := Aside0.mk (blk_below (g := gb104) (o := .cells #[.int .i64 t101, .int .i64 t102] 27 (0, 0)) (by (with_reducible repeat (first | refine blk_drewN ?_ _ | refine blk_drew ?_ | refine blk_alloc ?_ _)); exact BK104.out) hb); have n1_ := Aside0.mk (below_step (by repeat (first | (with_reducible first | exact HB.out | apply below_alloc | apply pw_below_drewN | apply below_drew1 | refine below_set ?_ GE104.out) | exact HB.out)) hb); clear BK104; clear HB; have BK104 := n0_; have HB := n1_; clear n0_ n1_; (try clear hb); (try clear hb2); (try clear hk); (try clear hi); have hcz44_0 : w43.cell? ⟨gb104, 0, none⟩ = some (.int .i64 t101) := (blk_cell BK104.out 0).trans rfl; have hcz44_1 : w43.cell? ⟨gb104, 1, none⟩ = some (.int .i64 t102) := (blk_cell BK104.out 1).trans rfl; have hfz44_0 := blk_frozen BK104.out 0; have hfz44_1 := blk_frozen BK104.out 1))
            go_ret
            exact ⟨by first | rfl | (simp [errW_none, errW_some] <;> rfl) | (simp [*, errW_none, errW_some] <;> rfl), by repeat (first | (with_reducible first | exact HB.out | apply below_alloc | apply pw_below_drewN | apply below_drew1 | refine below_set ?_ GE104.out) | exact HB.out)⟩
        · rw [if_neg c7] at H
          have c7b0 : (t105 == 100) = false := beq_eq_false_iff_ne.mpr c7
          have c7b1 : (t105 != 100) = true := bne_iff_ne.mpr c7
          obtain rfl := Option.some.inj H
          go_enter Tryd.func10, Tryd.ntmps10
          go_wp2_with (first | ((with_reducible refine gate_callee (f := 13) rfl ?_); refine goesL_ (some 8) rfl rfl Tryd.func13 (by kernel_rfl) rfl #[.string (⟨#[45, 49, 50, 46, 53, 48]⟩ : ByteArray)] rfl (by (try simp only [List.map_toArray, List.map_cons, List.map_nil]); first | done | rfl | (simp only [List.length_drop, List.length_take]; rfl)) ?_; (with_reducible refine (fixed_Read.calls (⟨#[45, 49, 50, 46, 53, 48]⟩ : ByteArray) t101 t102 t103 _ A1.out).mono ?_); rintro e w45 ⟨rfl, hb⟩; refine ⟨_, rfl, ?_⟩; have n0_ := Aside0.mk (below_step (by repeat (first | (with_reducible first | exact HB.out | apply below_alloc | apply pw_below_drewN | apply below_drew1) | exact HB.out)) hb); clear HB; have HB := n0_; clear n0_; (try clear hb); (try clear hb2); (try clear hk); (try clear hi)) | ((with_reducible refine gate_dst (N := 1) rfl ?_); refine box_event ?hg (N := 1) ?hd (cs := #[.int .i64 0, .int .i64 0]) (t := 27) ?hr ?_; (case hd => rfl); (case hg => rfl); (case hr => first | (go_simp; done) | (go_simp; rfl)); intro gb104 hg w46 hbox hb; have n0_ := Aside0.mk (below_step (by repeat (first | (with_reducible first | exact HB.out | apply below_alloc | apply pw_below_drewN | apply below_drew1) | exact HB.out)) hb); have n1_ := Aside0.mk (hbox); have n2_ := Aside0.mk ((by rw [hg]; exact (below_size (by repeat (first | (with_reducible first | exact HB.out | apply below_alloc | apply pw_below_drewN | apply below_drew1) | exact HB.out))) : w.heap.size ≤ gb104)); have n3_ := Aside0.mk ((by rw [hg]; exact (below_size (by repeat (first | (with_reducible first | exact HB.out | apply below_alloc | apply pw_below_drewN | apply below_drew1) | exact HB.out))) : w.heap.size ≤ gb104)); clear HB; have HB := n0_; have BK104 := n1_; have GW104 := n2_; have GE104 := n3_; clear n0_ n1_ n2_ n3_; clear hb hbox hg; have hcz47_0 : w46.cell? ⟨gb104, 0, none⟩ = some (.int .i64 0) := (blk_cell BK104.out 0).trans rfl; have hcz47_1 : w46.cell? ⟨gb104, 1, none⟩ = some (.int .i64 0) := (blk_cell BK104.out 1).trans rfl; have hfz47_0 := blk_frozen BK104.out 0; have hfz47_1 := blk_frozen BK104.out 1) | ((with_reducible refine gate_callee (f := 11) rfl ?_); refine goesL_ (some 12) rfl rfl Tryd.func11 (by kernel_rfl) rfl #[.string (⟨#[48, 49, 48, 48]⟩ : ByteArray)] rfl (by (try simp only [List.map_toArray, List.map_cons, List.map_nil]); first | done | rfl | (simp only [List.length_drop, List.length_take]; rfl)) ?_; (with_reducible refine (fixed_Int.calls (⟨#[48, 49, 48, 48]⟩ : ByteArray) t105 t106 _ A2.out).mono ?_); rintro e w48 ⟨rfl, hb⟩; refine ⟨_, rfl, ?_⟩; have n0_ := Aside0.mk (blk_below (g := gb104) (o := .cells #[.int .i64 t101, .int .i64 t102] 27 (0, 0)) (by (with_reducible repeat (first | refine blk_drewN ?_ _ | refine blk_drew ?_ | refine blk_alloc ?_ _)); refine blk_put (cs := #[.int .i64 t101, .int .i64 0]) ?_ 1 _ rfl; (with_reducible repeat (first | refine blk_drewN ?_ _ | refine blk_drew ?_ | refine blk_alloc ?_ _)); refine blk_put (cs := #[.int .i64 0, .int .i64 0]) ?_ 0 _ rfl; (with_reducible repeat (first | refine blk_drewN ?_ _ | refine blk_drew ?_ | refine blk_alloc ?_ _)); exact BK104.out) hb); have n1_ := Aside0.mk (below_step (by repeat (first | (with_reducible first | exact HB.out | apply below_alloc | apply pw_below_drewN | apply below_drew1 | refine below_set ?_ GE104.out) | exact HB.out)) hb); clear BK104; clear HB; have BK104 := n0_; have HB := n1_; clear n0_ n1_; (try clear hb); (try clear hb2); (try clear hk); (try clear hi); have hcz49_0 : w48.cell? ⟨gb104, 0, none⟩ = some (.int .i64 t101) := (blk_cell BK104.out 0).trans rfl; have hcz49_1 : w48.cell? ⟨gb104, 1, none⟩ = some (.int .i64 t102) := (blk_cell BK104.out 1).trans rfl; have hfz49_0 := blk_frozen BK104.out 0; have hfz49_1 := blk_frozen BK104.out 1) | ((with_reducible refine gate_callee (f := 22) rfl ?_); refine goesL_ (some 17) rfl rfl Tryd.func22 (by kernel_rfl) rfl #[.agg #[.int .i64 t101, .int .i64 t102], .int .i64 3] rfl (by (try simp only [List.map_toArray, List.map_cons, List.map_nil]); first | done | rfl | (simp only [List.length_drop, List.length_take]; rfl)) ?_; (with_reducible refine (fixed_To.calls k t101 t102 3 t107 t108 _ A3.out).mono ?_); rintro e w50 ⟨rfl, hb⟩; refine ⟨_, rfl, ?_⟩; have n0_ := Aside0.mk (blk_below (g := gb104) (o := .cells #[.int .i64 t101, .int .i64 t102] 27 (0, 0)) (by (with_reducible repeat (first | refine blk_drewN ?_ _ | refine blk_drew ?_ | refine blk_alloc ?_ _)); exact BK104.out) hb); have n1_ := Aside0.mk (below_step (by repeat (first | (with_reducible first | exact HB.out | apply below_alloc | apply pw_below_drewN | apply below_drew1 | refine below_set ?_ GE104.out) | exact HB.out)) hb); clear BK104; clear HB; have BK104 := n0_; have HB := n1_; clear n0_ n1_; (try clear hb); (try clear hb2); (try clear hk); (try clear hi); have hcz51_0 : w50.cell? ⟨gb104, 0, none⟩ = some (.int .i64 t101) := (blk_cell BK104.out 0).trans rfl; have hcz51_1 : w50.cell? ⟨gb104, 1, none⟩ = some (.int .i64 t102) := (blk_cell BK104.out 1).trans rfl; have hfz51_0 := blk_frozen BK104.out 0; have hfz51_1 := blk_frozen BK104.out 1))
          go_ret
          exact ⟨by first | rfl | (simp [errW_none, errW_some] <;> rfl) | (simp [*, errW_none, errW_some] <;> rfl), by repeat (first | (with_reducible first | exact HB.out | apply below_alloc | apply pw_below_drewN | apply below_drew1 | refine below_set ?_ GE104.out) | exact HB.out)⟩
      · rw [if_neg c6] at H
        have c6b0 : (t106 == 0) = false := beq_eq_false_iff_ne.mpr c6
        have c6b1 : (t106 != 0) = true := bne_iff_ne.mpr c6
        obtain rfl := Option.some.inj H
        go_enter Tryd.func10, Tryd.ntmps10
        go_wp2_with (first | ((with_reducible refine gate_callee (f := 13) rfl ?_); refine goesL_ (some 8) rfl rfl Tryd.func13 (by kernel_rfl) rfl #[.string (⟨#[45, 49, 50, 46, 53, 48]⟩ : ByteArray)] rfl (by (try simp only [List.map_toArray, List.map_cons, List.map_nil]); first | done | rfl | (simp only [List.length_drop, List.length_take]; rfl)) ?_; (with_reducible refine (fixed_Read.calls (⟨#[45, 49, 50, 46, 53, 48]⟩ : ByteArray) t101 t102 t103 _ A1.out).mono ?_); rintro e w52 ⟨rfl, hb⟩; refine ⟨_, rfl, ?_⟩; have n0_ := Aside0.mk (below_step (by repeat (first | (with_reducible first | exact HB.out | apply below_alloc | apply pw_below_drewN | apply below_drew1) | exact HB.out)) hb); clear HB; have HB := n0_; clear n0_; (try clear hb); (try clear hb2); (try clear hk); (try clear hi)) | ((with_reducible refine gate_dst (N := 1) rfl ?_); refine box_event ?hg (N := 1) ?hd (cs := #[.int .i64 0, .int .i64 0]) (t := 27) ?hr ?_; (case hd => rfl); (case hg => rfl); (case hr => first | (go_simp; done) | (go_simp; rfl)); intro gb104 hg w53 hbox hb; have n0_ := Aside0.mk (below_step (by repeat (first | (with_reducible first | exact HB.out | apply below_alloc | apply pw_below_drewN | apply below_drew1) | exact HB.out)) hb); have n1_ := Aside0.mk (hbox); have n2_ := Aside0.mk ((by rw [hg]; exact (below_size (by repeat (first | (with_reducible first | exact HB.out | apply below_alloc | apply pw_below_drewN | apply below_drew1) | exact HB.out))) : w.heap.size ≤ gb104)); have n3_ := Aside0.mk ((by rw [hg]; exact (below_size (by repeat (first | (with_reducible first | exact HB.out | apply below_alloc | apply pw_below_drewN | apply below_drew1) | exact HB.out))) : w.heap.size ≤ gb104)); clear HB; have HB := n0_; have BK104 := n1_; have GW104 := n2_; have GE104 := n3_; clear n0_ n1_ n2_ n3_; clear hb hbox hg; have hcz54_0 : w53.cell? ⟨gb104, 0, none⟩ = some (.int .i64 0) := (blk_cell BK104.out 0).trans rfl; have hcz54_1 : w53.cell? ⟨gb104, 1, none⟩ = some (.int .i64 0) := (blk_cell BK104.out 1).trans rfl; have hfz54_0 := blk_frozen BK104.out 0; have hfz54_1 := blk_frozen BK104.out 1) | ((with_reducible refine gate_callee (f := 11) rfl ?_); refine goesL_ (some 12) rfl rfl Tryd.func11 (by kernel_rfl) rfl #[.string (⟨#[48, 49, 48, 48]⟩ : ByteArray)] rfl (by (try simp only [List.map_toArray, List.map_cons, List.map_nil]); first | done | rfl | (simp only [List.length_drop, List.length_take]; rfl)) ?_; (with_reducible refine (fixed_Int.calls (⟨#[48, 49, 48, 48]⟩ : ByteArray) t105 t106 _ A2.out).mono ?_); rintro e w55 ⟨rfl, hb⟩; refine ⟨_, rfl, ?_⟩; have n0_ := Aside0.mk (blk_below (g := gb104) (o := .cells #[.int .i64 t101, .int .i64 t102] 27 (0, 0)) (by (with_reducible repeat (first | refine blk_drewN ?_ _ | refine blk_drew ?_ | refine blk_alloc ?_ _)); refine blk_put (cs := #[.int .i64 t101, .int .i64 0]) ?_ 1 _ rfl; (with_reducible repeat (first | refine blk_drewN ?_ _ | refine blk_drew ?_ | refine blk_alloc ?_ _)); refine blk_put (cs := #[.int .i64 0, .int .i64 0]) ?_ 0 _ rfl; (with_reducible repeat (first | refine blk_drewN ?_ _ | refine blk_drew ?_ | refine blk_alloc ?_ _)); exact BK104.out) hb); have n1_ := Aside0.mk (below_step (by repeat (first | (with_reducible first | exact HB.out | apply below_alloc | apply pw_below_drewN | apply below_drew1 | refine below_set ?_ GE104.out) | exact HB.out)) hb); clear BK104; clear HB; have BK104 := n0_; have HB := n1_; clear n0_ n1_; (try clear hb); (try clear hb2); (try clear hk); (try clear hi); have hcz56_0 : w55.cell? ⟨gb104, 0, none⟩ = some (.int .i64 t101) := (blk_cell BK104.out 0).trans rfl; have hcz56_1 : w55.cell? ⟨gb104, 1, none⟩ = some (.int .i64 t102) := (blk_cell BK104.out 1).trans rfl; have hfz56_0 := blk_frozen BK104.out 0; have hfz56_1 := blk_frozen BK104.out 1) | ((with_reducible refine gate_callee (f := 22) rfl ?_); refine goesL_ (some 17) rfl rfl Tryd.func22 (by kernel_rfl) rfl #[.agg #[.int .i64 t101, .int .i64 t102], .int .i64 3] rfl (by (try simp only [List.map_toArray, List.map_cons, List.map_nil]); first | done | rfl | (simp only [List.length_drop, List.length_take]; rfl)) ?_; (with_reducible refine (fixed_To.calls k t101 t102 3 t107 t108 _ A3.out).mono ?_); rintro e w57 ⟨rfl, hb⟩; refine ⟨_, rfl, ?_⟩; have n0_ := Aside0.mk (blk_below (g := gb104) (o := .cells #[.int .i64 t101, .int .i64 t102] 27 (0, 0)) (by (with_reducible repeat (first | refine blk_drewN ?_ _ | refine blk_drew ?_ | refine blk_alloc ?_ _)); exact BK104.out) hb); have n1_ := Aside0.mk (below_step (by repeat (first | (with_reducible first | exact HB.out | apply below_alloc | apply pw_below_drewN | apply below_drew1 | refine below_set ?_ GE104.out) | exact HB.out)) hb); clear BK104; clear HB; have BK104 := n0_; have HB := n1_; clear n0_ n1_; (try clear hb); (try clear hb2); (try clear hk); (try clear hi); have hcz58_0 : w57.cell? ⟨gb104, 0, none⟩ = some (.int .i64 t101) := (blk_cell BK104.out 0).trans rfl; have hcz58_1 : w57.cell? ⟨gb104, 1, none⟩ = some (.int .i64 t102) := (blk_cell BK104.out 1).trans rfl; have hfz58_0 := blk_frozen BK104.out 0; have hfz58_1 := blk_frozen BK104.out 1))
        go_ret
        exact ⟨by first | rfl | (simp [errW_none, errW_some] <;> rfl) | (simp [*, errW_none, errW_some] <;> rfl), by repeat (first | (with_reducible first | exact HB.out | apply below_alloc | apply pw_below_drewN | apply below_drew1 | refine below_set ?_ GE104.out) | exact HB.out)⟩
    · rw [if_neg c5] at H
      have c5b0 : (t101 == (-125) && (t102 == 1)) = false := by simpa using c5
      (try (have c5b1 : decide (t101 = (-125) && (t102 == 1)) = false := by simpa using c5))
      (try (have c5b2 : (t101 == (-125) && (t102 == 1)) = false := by simpa using c5))
      (try (have c5b3 : ¬ (t101 = (-125) && (t102 == 1)) := by simpa using c5))
      clear c5
      obtain rfl := Option.some.inj H
      go_enter Tryd.func10, Tryd.ntmps10
      go_wp2_with (first | ((with_reducible refine gate_callee (f := 13) rfl ?_); refine goesL_ (some 8) rfl rfl Tryd.func13 (by kernel_rfl) rfl #[.string (⟨#[45, 49, 50, 46, 53, 48]⟩ : ByteArray)] rfl (by (try simp only [List.map_toArray, List.map_cons, List.map_nil]); first | done | rfl | (simp only [List.length_drop, List.length_take]; rfl)) ?_; (with_reducible refine (fixed_Read.calls (⟨#[45, 49, 50, 46, 53, 48]⟩ : ByteArray) t101 t102 t103 _ A1.out).mono ?_); rintro e w59 ⟨rfl, hb⟩; refine ⟨_, rfl, ?_⟩; have n0_ := Aside0.mk (below_step (by repeat (first | (with_reducible first | exact HB.out | apply below_alloc | apply pw_below_drewN | apply below_drew1) | exact HB.out)) hb); clear HB; have HB := n0_; clear n0_; (try clear hb); (try clear hb2); (try clear hk); (try clear hi)) | ((with_reducible refine gate_dst (N := 1) rfl ?_); refine box_event ?hg (N := 1) ?hd (cs := #[.int .i64 0, .int .i64 0]) (t := 27) ?hr ?_; (case hd => rfl); (case hg => rfl); (case hr => first | (go_simp; done) | (go_simp; rfl)); intro gb104 hg w60 hbox hb; have n0_ := Aside0.mk (below_step (by repeat (first | (with_reducible first | exact HB.out | apply below_alloc | apply pw_below_drewN | apply below_drew1) | exact HB.out)) hb); have n1_ := Aside0.mk (hbox); have n2_ := Aside0.mk ((by rw [hg]; exact (below_size (by repeat (first | (with_reducible first | exact HB.out | apply below_alloc | apply pw_below_drewN | apply below_drew1) | exact HB.out))) : w.heap.size ≤ gb104)); have n3_ := Aside0.mk ((by rw [hg]; exact (below_size (by repeat (first | (with_reducible first | exact HB.out | apply below_alloc | apply pw_below_drewN | apply below_drew1) | exact HB.out))) : w.heap.size ≤ gb104)); clear HB; have HB := n0_; have BK104 := n1_; have GW104 := n2_; have GE104 := n3_; clear n0_ n1_ n2_ n3_; clear hb hbox hg; have hcz61_0 : w60.cell? ⟨gb104, 0, none⟩ = some (.int .i64 0) := (blk_cell BK104.out 0).trans rfl; have hcz61_1 : w60.cell? ⟨gb104, 1, none⟩ = some (.int .i64 0) := (blk_cell BK104.out 1).trans rfl; have hfz61_0 := blk_frozen BK104.out 0; have hfz61_1 := blk_frozen BK104.out 1) | ((with_reducible refine gate_callee (f := 11) rfl ?_); refine goesL_ (some 12) rfl rfl Tryd.func11 (by kernel_rfl) rfl #[.string (⟨#[48, 49, 48, 48]⟩ : ByteArray)] rfl (by (try simp only [List.map_toArray, List.map_cons, List.map_nil]); first | done | rfl | (simp only [List.length_drop, List.length_take]; rfl)) ?_; (with_reducible refine (fixed_Int.calls (⟨#[48, 49, 48, 48]⟩ : ByteArray) t105 t106 _ A2.out).mono ?_); rintro e w62 ⟨rfl, hb⟩; refine ⟨_, rfl, ?_⟩; have n0_ := Aside0.mk (blk_below (g := gb104) (o := .cells #[.int .i64 t101, .int .i64 t102] 27 (0, 0)) (by (with_reducible repeat (first | refine blk_drewN ?_ _ | refine blk_drew ?_ | refine blk_alloc ?_ _)); refine blk_put (cs := #[.int .i64 t101, .int .i64 0]) ?_ 1 _ rfl; (with_reducible repeat (first | refine blk_drewN ?_ _ | refine blk_drew ?_ | refine blk_alloc ?_ _)); refine blk_put (cs := #[.int .i64 0, .int .i64 0]) ?_ 0 _ rfl; (with_reducible repeat (first | refine blk_drewN ?_ _ | refine blk_drew ?_ | refine blk_alloc ?_ _)); exact BK104.out) hb); have n1_ := Aside0.mk (below_step (by repeat (first | (with_reducible first | exact HB.out | apply below_alloc | apply pw_below_drewN | apply below_drew1 | refine below_set ?_ GE104.out) | exact HB.out)) hb); clear BK104; clear HB; have BK104 := n0_; have HB := n1_; clear n0_ n1_; (try clear hb); (try clear hb2); (try clear hk); (try clear hi); have hcz63_0 : w62.cell? ⟨gb104, 0, none⟩ = some (.int .i64 t101) := (blk_cell BK104.out 0).trans rfl; have hcz63_1 : w62.cell? ⟨gb104, 1, none⟩ = some (.int .i64 t102) := (blk_cell BK104.out 1).trans rfl; have hfz63_0 := blk_frozen BK104.out 0; have hfz63_1 := blk_frozen BK104.out 1) | ((with_reducible refine gate_callee (f := 22) rfl ?_); refine goesL_ (some 17) rfl rfl Tryd.func22 (by kernel_rfl) rfl #[.agg #[.int .i64 t101, .int .i64 t102], .int .i64 3] rfl (by (try simp only [List.map_toArray, List.map_cons, List.map_nil]); first | done | rfl | (simp only [List.length_drop, List.length_take]; rfl)) ?_; (with_reducible refine (fixed_To.calls k t101 t102 3 t107 t108 _ A3.out).mono ?_); rintro e w64 ⟨rfl, hb⟩; refine ⟨_, rfl, ?_⟩; have n0_ := Aside0.mk (blk_below (g := gb104) (o := .cells #[.int .i64 t101, .int .i64 t102] 27 (0, 0)) (by (with_reducible repeat (first | refine blk_drewN ?_ _ | refine blk_drew ?_ | refine blk_alloc ?_ _)); exact BK104.out) hb); have n1_ := Aside0.mk (below_step (by repeat (first | (with_reducible first | exact HB.out | apply below_alloc | apply pw_below_drewN | apply below_drew1 | refine below_set ?_ GE104.out) | exact HB.out)) hb); clear BK104; clear HB; have BK104 := n0_; have HB := n1_; clear n0_ n1_; (try clear hb); (try clear hb2); (try clear hk); (try clear hi); have hcz65_0 : w64.cell? ⟨gb104, 0, none⟩ = some (.int .i64 t101) := (blk_cell BK104.out 0).trans rfl; have hcz65_1 : w64.cell? ⟨gb104, 1, none⟩ = some (.int .i64 t102) := (blk_cell BK104.out 1).trans rfl; have hfz65_0 := blk_frozen BK104.out 0; have hfz65_1 := blk_frozen BK104.out 1))
      go_ret
      exact ⟨by first | rfl | (simp [errW_none, errW_some] <;> rfl) | (simp [*, errW_none, errW_some] <;> rfl), by repeat (first | (with_reducible first | exact HB.out | apply below_alloc | apply pw_below_drewN | apply below_drew1 | refine below_set ?_ GE104.out) | exact HB.out)⟩
  · rw [if_neg c4] at H
    have c4b0 : (t103 == 0) = false := beq_eq_false_iff_ne.mpr c4
    have c4b1 : (t103 != 0) = true := bne_iff_ne.mpr c4
    obtain rfl := Option.some.inj H
    go_enter Tryd.func10, Tryd.ntmps10
    go_wp2_with (first | ((with_reducible refine gate_callee (f := 13) rfl ?_); refine goesL_ (some 8) rfl rfl Tryd.func13 (by kernel_rfl) rfl #[.string (⟨#[45, 49, 50, 46, 53, 48]⟩ : ByteArray)] rfl (by (try simp only [List.map_toArray, List.map_cons, List.map_nil]); first | done | rfl | (simp only [List.length_drop, List.length_take]; rfl)) ?_; (with_reducible refine (fixed_Read.calls (⟨#[45, 49, 50, 46, 53, 48]⟩ : ByteArray) t101 t102 t103 _ A1.out).mono ?_); rintro e w66 ⟨rfl, hb⟩; refine ⟨_, rfl, ?_⟩; have n0_ := Aside0.mk (below_step (by repeat (first | (with_reducible first | exact HB.out | apply below_alloc | apply pw_below_drewN | apply below_drew1) | exact HB.out)) hb); clear HB; have HB := n0_; clear n0_; (try clear hb); (try clear hb2); (try clear hk); (try clear hi)) | ((with_reducible refine gate_dst (N := 1) rfl ?_); refine box_event ?hg (N := 1) ?hd (cs := #[.int .i64 0, .int .i64 0]) (t := 27) ?hr ?_; (case hd => rfl); (case hg => rfl); (case hr => first | (go_simp; done) | (go_simp; rfl)); intro gb104 hg w67 hbox hb; have n0_ := Aside0.mk (below_step (by repeat (first | (with_reducible first | exact HB.out | apply below_alloc | apply pw_below_drewN | apply below_drew1) | exact HB.out)) hb); have n1_ := Aside0.mk (hbox); have n2_ := Aside0.mk ((by rw [hg]; exact (below_size (by repeat (first | (with_reducible first | exact HB.out | apply below_alloc | apply pw_below_drewN | apply below_drew1) | exact HB.out))) : w.heap.size ≤ gb104)); have n3_ := Aside0.mk ((by rw [hg]; exact (below_size (by repeat (first | (with_reducible first | exact HB.out | apply below_alloc | apply pw_below_drewN | apply below_drew1) | exact HB.out))) : w.heap.size ≤ gb104)); clear HB; have HB := n0_; have BK104 := n1_; have GW104 := n2_; have GE104 := n3_; clear n0_ n1_ n2_ n3_; clear hb hbox hg; have hcz68_0 : w67.cell? ⟨gb104, 0, none⟩ = some (.int .i64 0) := (blk_cell BK104.out 0).trans rfl; have hcz68_1 : w67.cell? ⟨gb104, 1, none⟩ = some (.int .i64 0) := (blk_cell BK104.out 1).trans rfl; have hfz68_0 := blk_frozen BK104.out 0; have hfz68_1 := blk_frozen BK104.out 1) | ((with_reducible refine gate_callee (f := 11) rfl ?_); refine goesL_ (some 12) rfl rfl Tryd.func11 (by kernel_rfl) rfl #[.string (⟨#[48, 49, 48, 48]⟩ : ByteArray)] rfl (by (try simp only [List.map_toArray, List.map_cons, List.map_nil]); first | done | rfl | (simp only [List.length_drop, List.length_take]; rfl)) ?_; (with_reducible refine (fixed_Int.calls (⟨#[48, 49, 48, 48]⟩ : ByteArray) t105 t106 _ A2.out).mono ?_); rintro e w69 ⟨rfl, hb⟩; refine ⟨_, rfl, ?_⟩; have n0_ := Aside0.mk (blk_below (g := gb104) (o := .cells #[.int .i64 t101, .int .i64 t102] 27 (0, 0)) (by (with_reducible repeat (first | refine blk_drewN ?_ _ | refine blk_drew ?_ | refine blk_alloc ?_ _)); refine blk_put (cs := #[.int .i64 t101, .int .i64 0]) ?_ 1 _ rfl; (with_reducible repeat (first | refine blk_drewN ?_ _ | refine blk_drew ?_ | refine blk_alloc ?_ _)); refine blk_put (cs := #[.int .i64 0, .int .i64 0]) ?_ 0 _ rfl; (with_reducible repeat (first | refine blk_drewN ?_ _ | refine blk_drew ?_ | refine blk_alloc ?_ _)); exact BK104.out) hb); have n1_ := Aside0.mk (below_step (by repeat (first | (with_reducible first | exact HB.out | apply below_alloc | apply pw_below_drewN | apply below_drew1 | refine below_set ?_ GE104.out) | exact HB.out)) hb); clear BK104; clear HB; have BK104 := n0_; have HB := n1_; clear n0_ n1_; (try clear hb); (try clear hb2); (try clear hk); (try clear hi); have hcz70_0 : w69.cell? ⟨gb104, 0, none⟩ = some (.int .i64 t101) := (blk_cell BK104.out 0).trans rfl; have hcz70_1 : w69.cell? ⟨gb104, 1, none⟩ = some (.int .i64 t102) := (blk_cell BK104.out 1).trans rfl; have hfz70_0 := blk_frozen BK104.out 0; have hfz70_1 := blk_frozen BK104.out 1) | ((with_reducible refine gate_callee (f := 22) rfl ?_); refine goesL_ (some 17) rfl rfl Tryd.func22 (by kernel_rfl) rfl #[.agg #[.int .i64 t101, .int .i64 t102], .int .i64 3] rfl (by (try simp only [List.map_toArray, List.map_cons, List.map_nil]); first | done | rfl | (simp only [List.length_drop, List.length_take]; rfl)) ?_; (with_reducible refine (fixed_To.calls k t101 t102 3 t107 t108 _ A3.out).mono ?_); rintro e w71 ⟨rfl, hb⟩; refine ⟨_, rfl, ?_⟩; have n0_ := Aside0.mk (blk_below (g := gb104) (o := .cells #[.int .i64 t101, .int .i64 t102] 27 (0, 0)) (by (with_reducible repeat (first | refine blk_drewN ?_ _ | refine blk_drew ?_ | refine blk_alloc ?_ _)); exact BK104.out) hb); have n1_ := Aside0.mk (below_step (by repeat (first | (with_reducible first | exact HB.out | apply below_alloc | apply pw_below_drewN | apply below_drew1 | refine below_set ?_ GE104.out) | exact HB.out)) hb); clear BK104; clear HB; have BK104 := n0_; have HB := n1_; clear n0_ n1_; (try clear hb); (try clear hb2); (try clear hk); (try clear hi)))
    go_ret
    exact ⟨by first | rfl | (simp [errW_none, errW_some] <;> rfl) | (simp [*, errW_none, errW_some] <;> rfl), by repeat (first | (with_reducible first | exact HB.out | apply below_alloc | apply pw_below_drewN | apply below_drew1 | refine below_set ?_ GE104.out) | exact HB.out)⟩

end Go.Proofs.YtldllfadidepaaaDoor.P
namespace Go.Proofs.YtldllfadidepaaaDoor.P
open Go.RowKit Go.Proofs.YtldllfadidepaaaDoorW.PrintWords Go.Proofs.YtldllfadidepaaaDoorW.PrintLast Go.Proofs.YtldllfadidepaaaDoorW.PrintMore
attribute [local go_sem] max2_int min2_int max_two min_two max_three min_three max_four min_four   -- for this text's walks alone
set_option linter.unusedVariables false
set_option linter.unusedSimpArgs false

/-! ### entrepotref02_digits: function 32 -/
mutual
def entrepotref02_digits.j0 : Nat → ByteArray → Bool → Option (Int × Bool)
  | 0, _, _ => none
  | k + 1, x0, x16 => if x16 = true then (some (0, false)) else (entrepotref02_digits.l0 k x0 0 0)
def entrepotref02_digits.l0 : Nat → ByteArray → Int → Int → Option (Int × Bool)
  | 0, _, _, _ => none
  | k + 1, x0, x6, x7 => if x7 < (x0.size : Int) then (if 0 ≤ x7 then (if (bt x0 x7) < 48 then (some (0, false)) else (if (bt x0 x7) > 57 then (some (0, false)) else (entrepotref02_digits.l0 k x0 (wrap64 ((wrap64 (10 * x6)) + (((bt x0 x7) - 48) % 256))) (wrap64 (x7 + 1))))) else (none)) else (some (x6, true))
end
def entrepotref02_digits.f (k : Nat) (a0 : ByteArray) (a1 : Int) : Option (Int × Bool) := if (a0.size : Int) < 1 then (entrepotref02_digits.j0 k a0 true) else (entrepotref02_digits.j0 k a0 (decide ((a0.size : Int) > a1)))
theorem entrepotref02_digits.mono_l : ∀ k, (∀ y0 y1, LeO (entrepotref02_digits.j0 k y0 y1) (entrepotref02_digits.j0 (k + 1) y0 y1)) ∧ (∀ y0 y1 y2, LeO (entrepotref02_digits.l0 k y0 y1 y2) (entrepotref02_digits.l0 (k + 1) y0 y1 y2))
  | 0 => ⟨fun _ _ r h => by simp [entrepotref02_digits.j0] at h, fun _ _ _ r h => by simp [entrepotref02_digits.l0] at h⟩
  | k + 1 => by
    obtain ⟨ih0, ih1⟩ := entrepotref02_digits.mono_l k
    refine ⟨?_, ?_⟩
    · intro y0 y1
      unfold entrepotref02_digits.j0
      repeat' first
      | (with_reducible exact ih0 _ _)
      | (with_reducible exact ih1 _ _ _)
      | (with_reducible exact LeO.refl _)
      | (with_reducible exact LeO.none _)
      | (with_reducible refine LeO.ite ?_ ?_)
      | (with_reducible refine LeO.bind ?_ (fun _ => ?_))
      | exact ih0 _ _
      | exact ih1 _ _ _
      | exact LeO.none _
      | refine LeO.ite ?_ ?_
      | refine LeO.bind ?_ (fun _ => ?_)
    · intro y0 y1 y2
      unfold entrepotref02_digits.l0
      repeat' first
      | (with_reducible exact ih0 _ _)
      | (with_reducible exact ih1 _ _ _)
      | (with_reducible exact LeO.refl _)
      | (with_reducible exact LeO.none _)
      | (with_reducible refine LeO.ite ?_ ?_)
      | (with_reducible refine LeO.bind ?_ (fun _ => ?_))
      | exact ih0 _ _
      | exact ih1 _ _ _
      | exact LeO.none _
      | refine LeO.ite ?_ ?_
      | refine LeO.bind ?_ (fun _ => ?_)
theorem entrepotref02_digits.mono : ∀ a0 a1 k, LeO (entrepotref02_digits.f k a0 a1) (entrepotref02_digits.f (k + 1) a0 a1) := by
  intro a0 a1 k
  obtain ⟨ih0, ih1⟩ := entrepotref02_digits.mono_l k
  unfold entrepotref02_digits.f
  repeat' first
      | (with_reducible exact ih0 _ _)
      | (with_reducible exact ih1 _ _ _)
      | (with_reducible exact LeO.refl _)
      | (with_reducible exact LeO.none _)
      | (with_reducible refine LeO.ite ?_ ?_)
      | (with_reducible refine LeO.bind ?_ (fun _ => ?_))
      | exact ih0 _ _
      | exact ih1 _ _ _
      | exact LeO.none _
      | refine LeO.ite ?_ ?_
      | refine LeO.bind ?_ (fun _ => ?_)
set_option maxHeartbeats 8000000 in
set_option maxRecDepth 100000 in
theorem entrepotref02_digits.calls (k : Nat) (a0 : ByteArray) (a1 : Int) (r1 : Int) (r2 : Bool) (w : World) (h : entrepotref02_digits.f k a0 a1 = some (r1, r2)) :
    Calls Tryd.prog 32 #[.string a0, .int .i64 a1] w fun e w' => e = .returned (.tuple #[.int .i64 r1, .bool r2]) ∧ Drawn0 w w' := by
  have H : (if (a0.size : Int) < 1 then (entrepotref02_digits.j0 k a0 true) else (entrepotref02_digits.j0 k a0 (decide ((a0.size : Int) > a1)))) = some (r1, r2) := h
  clear h
  have HC3 := Aside0.mk H
  clear H
  go_enter Tryd.func32, Tryd.ntmps32
  go_upto_region 1 with (fail)
  go_cut [16] (fun v16 wc => ∃ (kq : Nat) (x16_2 : Bool), v16 = .bool x16_2 ∧ Aside0 (entrepotref02_digits.j0 kq a0 x16_2 = some (r1, r2)) ∧ Aside0 (kq ≤ k) ∧ Drawn0 w wc)
  case first =>
    have H := HC3.out
    clear HC3
    by_cases c4 : (a0.size : Int) < 1
    · rw [if_pos c4] at H
      have c4b0 : decide ((a0.size : Int) < 1) = true := decide_eq_true c4
      have c4b1 : decide (a0.size < 1) = true := decide_eq_true (by omega)
      clear c4
      (first | rw [c4b0] | (simp only [i64_w, i32_w]; rw [c4b0]) | skip)
      have H' := Aside0.mk H
      clear H
      go_wp2
      go_meet
      case rel => exact ⟨_, (true), (by first | rfl | (simp; done) | (simp [*]; done)), H', ⟨by first | omega | exact Nat.le_refl _⟩, by repeat (first | exact Drawn0.refl _ | apply Drawn0.step)⟩
    · rw [if_neg c4] at H
      have c4b0 : decide ((a0.size : Int) < 1) = false := decide_eq_false c4
      have c4b1 : decide (a0.size < 1) = false := decide_eq_false (by omega)
      clear c4
      (first | rw [c4b0] | (simp only [i64_w, i32_w]; rw [c4b0]) | skip)
      have H' := Aside0.mk H
      clear H
      go_wp2
      go_meet
      case rel => exact ⟨_, (decide ((a0.size : Int) > a1)), (by first | rfl | (simp; done) | (simp [*]; done)), H', ⟨by first | omega | exact Nat.le_refl _⟩, by repeat (first | exact Drawn0.refl _ | apply Drawn0.step)⟩
  case rest =>
    clear HC3
    try clear p2
    try clear c3
    try clear c4
    try clear c4b0
    try clear c4b1
    obtain ⟨kq, x16_2, rfl, HA, HJ2, ⟨mc2, rfl⟩⟩ := hcut
    cases kq with
    | zero => exact absurd HA.out (by simp [entrepotref02_digits.j0])
    | succ kj2 =>
      have H := HA.out
      clear HA
      simp only [entrepotref02_digits.j0] at H
      by_cases c5 : x16_2 = true
      · subst c5
        have H1 : (some (0, false)) = some (r1, r2) := by rw [if_pos rfl] at H; exact H
        clear H
        have H := H1
        clear H1
        simp only [Option.some.injEq, Prod.mk.injEq] at H
        obtain ⟨rfl, rfl⟩ := H
        go_wp2
        go_ret2
        exact ⟨by first | rfl | (simp; done) | (simp [*]; done), by repeat (first | exact Drawn0.refl _ | apply Drawn0.step)⟩
      · replace c5 := Bool.eq_false_iff.mpr c5
        subst c5
        have H1 : (entrepotref02_digits.l0 kj2 a0 0 0) = some (r1, r2) := by rw [if_neg (show ¬ (false = true) by decide)] at H; exact H
        clear H
        have H := H1
        clear H1
        have H' := Aside0.mk H
        clear H
        go_wp2
        (try simp only [Act.put, List.setIfInBounds_toArray, List.set_cons_zero, List.set_cons_succ])
        go_loopg [6, 7] kj2 (fun kq v6 v7 w' => ∃ (x6_2 : Int) (x7_2 : Int), v6 = .int .i64 x6_2 ∧ v7 = .int .i64 x7_2 ∧ Aside0 (entrepotref02_digits.l0 kq a0 x6_2 x7_2 = some (r1, r2)) ∧ Aside0 (kq ≤ kj2) ∧ Drawn0 w w')
        case atStart => exact ⟨(0), (0), (by first | rfl | (simp; done) | (simp [*]; done)), (by first | rfl | (simp; done) | (simp [*]; done)), H', ⟨Nat.le_refl _⟩, by repeat (first | exact Drawn0.refl _ | apply Drawn0.step)⟩
        case round =>
          clear H'
          try clear c2
          try clear p2
          try clear c3
          try clear c4
          try clear c4b0
          try clear c4b1
          try clear c5
          try clear p2
          obtain ⟨x6_2, x7_2, rfl, rfl, HA, HK2, ⟨m2, rfl⟩⟩ := hrel
          cases gk with
          | zero => exact absurd HA.out (by simp [entrepotref02_digits.l0])
          | succ k2 =>
            have H := HA.out
            clear HA
            simp only [entrepotref02_digits.l0] at H
            by_cases c6 : x7_2 < (a0.size : Int)
            · rw [if_pos c6] at H
              have c6b0 : decide (x7_2 < (a0.size : Int)) = true := decide_eq_true c6
              clear c6
              by_cases c7 : 0 ≤ x7_2
              · rw [if_pos c7] at H
                have c7b0 : decide (0 ≤ x7_2) = true := decide_eq_true c7
                clear c7
                by_cases c9 : (bt a0 x7_2) < 48
                · rw [if_pos c9] at H
                  have c9b0 : decide ((bt a0 x7_2) < 48) = true := decide_eq_true c9
                  clear c9
                  simp only [Option.some.injEq, Prod.mk.injEq] at H
                  obtain ⟨rfl, rfl⟩ := H
                  have p8 : 0 ≤ (x7_2 : Int) := of_decide_eq_true (by first | (with_reducible assumption) | assumption)
                  have q8 : x7_2 < (a0.size : Int) := of_decide_eq_true (by first | (with_reducible assumption) | assumption)
                  have hx8 := bt_at a0 x7_2
                  replace p8 := eq_true p8
                  replace q8 := eq_true q8
                  go_wp2
                  go_ret2
                  exact ⟨by first | rfl | (simp; done) | (simp [*]; done), by repeat (first | exact Drawn0.refl _ | apply Drawn0.step)⟩
                · rw [if_neg c9] at H
                  have c9b0 : decide ((bt a0 x7_2) < 48) = false := decide_eq_false c9
                  clear c9
                  by_cases c11 : (bt a0 x7_2) > 57
                  · rw [if_pos c11] at H
                    have c11b0 : decide (57 < (bt a0 x7_2)) = true := decide_eq_true c11
                    clear c11
                    simp only [Option.some.injEq, Prod.mk.injEq] at H
                    obtain ⟨rfl, rfl⟩ := H
                    have p8 : 0 ≤ (x7_2 : Int) := of_decide_eq_true (by first | (with_reducible assumption) | assumption)
                    have q8 : x7_2 < (a0.size : Int) := of_decide_eq_true (by first | (with_reducible assumption) | assumption)
                    have hx8 := bt_at a0 x7_2
                    replace p8 := eq_true p8
                    replace q8 := eq_true q8
                    have p10 : 0 ≤ (x7_2 : Int) := of_decide_eq_true (by first | (with_reducible assumption) | assumption)
                    have q10 : x7_2 < (a0.size : Int) := of_decide_eq_true (by first | (with_reducible assumption) | assumption)
                    have hx10 := bt_at a0 x7_2
                    replace p10 := eq_true p10
                    replace q10 := eq_true q10
                    go_wp2
                    go_ret2
                    exact ⟨by first | rfl | (simp; done) | (simp [*]; done), by repeat (first | exact Drawn0.refl _ | apply Drawn0.step)⟩
                  · rw [if_neg c11] at H
                    have c11b0 : decide (57 < (bt a0 x7_2)) = false := decide_eq_false c11
                    clear c11
                    have H' := Aside0.mk H
                    clear H
                    have p8 : 0 ≤ (x7_2 : Int) := of_decide_eq_true (by first | (with_reducible assumption) | assumption)
                    have q8 : x7_2 < (a0.size : Int) := of_decide_eq_true (by first | (with_reducible assumption) | assumption)
                    have hx8 := bt_at a0 x7_2
                    replace p8 := eq_true p8
                    replace q8 := eq_true q8
                    have p10 : 0 ≤ (x7_2 : Int) := of_decide_eq_true (by first | (with_reducible assumption) | assumption)
                    have q10 : x7_2 < (a0.size : Int) := of_decide_eq_true (by first | (with_reducible assumption) | assumption)
                    have hx10 := bt_at a0 x7_2
                    replace p10 := eq_true p10
                    replace q10 := eq_true q10
                    have p12 : 0 ≤ (x7_2 : Int) := of_decide_eq_true (by first | (with_reducible assumption) | assumption)
                    have q12 : x7_2 < (a0.size : Int) := of_decide_eq_true (by first | (with_reducible assumption) | assumption)
                    have hx12 := bt_at a0 x7_2
                    replace p12 := eq_true p12
                    replace q12 := eq_true q12
                    go_wp2
                    go_roundg k2
                    case measure => have := HJ2.out; have := HK2.out; omega
                    case rel => exact ⟨(wrap64 ((wrap64 (10 * x6_2)) + (((bt a0 x7_2) - 48) % 256))), (wrap64 (x7_2 + 1)), (by first | rfl | (simp; done) | (simp [*]; done)), (by first | rfl | (simp; done) | (simp [*]; done)), H', ⟨by have := HJ2.out; have := HK2.out; omega⟩, by repeat (first | exact Drawn0.refl _ | apply Drawn0.step)⟩
              · rw [if_neg c7] at H
                exact absurd H (by simp)
            · rw [if_neg c6] at H
              have c6b0 : decide (x7_2 < (a0.size : Int)) = false := decide_eq_false c6
              clear c6
              simp only [Option.some.injEq, Prod.mk.injEq] at H
              obtain ⟨rfl, rfl⟩ := H
              go_wp2
              go_ret2
              exact ⟨by first | rfl | (simp; done) | (simp [*]; done), by repeat (first | exact Drawn0.refl _ | apply Drawn0.step)⟩

end Go.Proofs.YtldllfadidepaaaDoor.P
namespace Go.Proofs.YtldllfadidepaaaDoor.P
open Go.RowKit Go.Proofs.YtldllfadidepaaaDoorW.PrintWords Go.Proofs.YtldllfadidepaaaDoorW.PrintLast Go.Proofs.YtldllfadidepaaaDoorW.PrintMore
attribute [local go_sem] max2_int min2_int max_two min_two max_three min_three max_four min_four   -- for this text's walks alone
set_option linter.unusedVariables false
set_option linter.unusedSimpArgs false

/-! ### entrepotref02_Int: function 12 -/
mutual
def entrepotref02_Int.j0 : Nat → ByteArray → Int → Bool → Option (Int × Int)
  | 0, _, _, _ => none
  | k + 1, x0, x4, x13 => if x13 = true then (if 1 ≤ (x0.size : Int) then (entrepotref02_Int.j1 k (x0.extract 1 x0.size) (-1)) else (none)) else (entrepotref02_Int.j1 k x0 x4)
def entrepotref02_Int.j1 : Nat → ByteArray → Int → Option (Int × Int)
  | 0, _, _ => none
  | k + 1, x0, x4 => (entrepotref02_digits.f k x0 12).bind fun bt101 => (if bt101.2 = true then (if bt101.1 > 100000000 then (some (0, 2)) else (some (wrap64 (x4 * bt101.1), 0))) else (some (0, 20)))
end
def entrepotref02_Int.f (k : Nat) (a0 : ByteArray) : Option (Int × Int) := if a0.toList = ([] : List UInt8) then (entrepotref02_Int.j0 k a0 1 false) else (if 0 < (a0.size : Int) then (entrepotref02_Int.j0 k a0 1 ((bt a0 0) == 45)) else (none))
theorem entrepotref02_Int.mono_l : ∀ k, (∀ y0 y1 y2, LeO (entrepotref02_Int.j0 k y0 y1 y2) (entrepotref02_Int.j0 (k + 1) y0 y1 y2)) ∧ (∀ y0 y1, LeO (entrepotref02_Int.j1 k y0 y1) (entrepotref02_Int.j1 (k + 1) y0 y1))
  | 0 => ⟨fun _ _ _ r h => by simp [entrepotref02_Int.j0] at h, fun _ _ r h => by simp [entrepotref02_Int.j1] at h⟩
  | k + 1 => by
    obtain ⟨ih0, ih1⟩ := entrepotref02_Int.mono_l k
    refine ⟨?_, ?_⟩
    · intro y0 y1 y2
      unfold entrepotref02_Int.j0
      repeat' first
      | (with_reducible exact ih0 _ _ _)
      | (with_reducible exact ih1 _ _)
      | (with_reducible exact entrepotref02_digits.mono _ _ _)
      | (with_reducible exact LeO.refl _)
      | (with_reducible exact LeO.none _)
      | (with_reducible refine LeO.ite ?_ ?_)
      | (with_reducible refine LeO.bind ?_ (fun _ => ?_))
      | exact ih0 _ _ _
      | exact ih1 _ _
      | exact entrepotref02_digits.mono _ _ _
      | exact LeO.none _
      | refine LeO.ite ?_ ?_
      | refine LeO.bind ?_ (fun _ => ?_)
    · intro y0 y1
      unfold entrepotref02_Int.j1
      repeat' first
      | (with_reducible exact ih0 _ _ _)
      | (with_reducible exact ih1 _ _)
      | (with_reducible exact entrepotref02_digits.mono _ _ _)
      | (with_reducible exact LeO.refl _)
      | (with_reducible exact LeO.none _)
      | (with_reducible refine LeO.ite ?_ ?_)
      | (with_reducible refine LeO.bind ?_ (fun _ => ?_))
      | exact ih0 _ _ _
      | exact ih1 _ _
      | exact entrepotref02_digits.mono _ _ _
      | exact LeO.none _
      | refine LeO.ite ?_ ?_
      | refine LeO.bind ?_ (fun _ => ?_)
theorem entrepotref02_Int.mono : ∀ a0 k, LeO (entrepotref02_Int.f k a0) (entrepotref02_Int.f (k + 1) a0) := by
  intro a0 k
  obtain ⟨ih0, ih1⟩ := entrepotref02_Int.mono_l k
  unfold entrepotref02_Int.f
  repeat' first
      | (with_reducible exact ih0 _ _ _)
      | (with_reducible exact ih1 _ _)
      | (with_reducible exact entrepotref02_digits.mono _ _ _)
      | (with_reducible exact LeO.refl _)
      | (with_reducible exact LeO.none _)
      | (with_reducible refine LeO.ite ?_ ?_)
      | (with_reducible refine LeO.bind ?_ (fun _ => ?_))
      | exact ih0 _ _ _
      | exact ih1 _ _
      | exact entrepotref02_digits.mono _ _ _
      | exact LeO.none _
      | refine LeO.ite ?_ ?_
      | refine LeO.bind ?_ (fun _ => ?_)
set_option maxHeartbeats 8000000 in
set_option maxRecDepth 100000 in
theorem entrepotref02_Int.calls (k : Nat) (a0 : ByteArray) (r1 : Int) (r2 : Int) (w : World) (h : entrepotref02_Int.f k a0 = some (r1, r2)) :
    Calls Tryd.prog 12 #[.string a0] w fun e w' => e = .returned (.tuple #[.int .i64 r1, .int .i64 r2]) ∧ Drawn0 w w' := by
  have H : (if a0.toList = ([] : List UInt8) then (entrepotref02_Int.j0 k a0 1 false) else (if 0 < (a0.size : Int) then (entrepotref02_Int.j0 k a0 1 ((bt a0 0) == 45)) else (none))) = some (r1, r2) := h
  clear h
  have HC2 := Aside0.mk H
  clear H
  go_enter Tryd.func12, Tryd.ntmps12
  go_upto_region 2 with (fail)
  go_cut [13] (fun v13 wc => ∃ (kq : Nat) (x13_1 : Bool), v13 = .bool x13_1 ∧ Aside0 (entrepotref02_Int.j0 kq a0 1 x13_1 = some (r1, r2)) ∧ Aside0 (kq ≤ k) ∧ Drawn0 w wc)
  case first =>
    have H := HC2.out
    clear HC2
    by_cases c3 : a0.toList = ([] : List UInt8)
    · rw [if_pos c3] at H
      have c3b0 : (a0.toList == ([] : List UInt8)) = true := beq_iff_eq.mpr c3
      have c3b1 : (a0.toList != ([] : List UInt8)) = false := bne_eq_false_iff_eq.mpr c3
      clear c3
      (first | rw [c3b0] | (simp only [i64_w, i32_w]; rw [c3b0]) | skip)
      have H' := Aside0.mk H
      clear H
      go_wp2
      go_meet
      case rel => exact ⟨_, (false), (by first | rfl | (simp; done) | (simp [*]; done)), H', ⟨by first | omega | exact Nat.le_refl _⟩, by repeat (first | exact Drawn0.refl _ | apply Drawn0.step)⟩
    · rw [if_neg c3] at H
      have c3b0 : (a0.toList == ([] : List UInt8)) = false := beq_eq_false_iff_ne.mpr c3
      have c3b1 : (a0.toList != ([] : List UInt8)) = true := bne_iff_ne.mpr c3
      (first | rw [c3b0] | (simp only [i64_w, i32_w]; rw [c3b0]) | skip)
      by_cases c4 : 0 < (a0.size : Int)
      · rw [if_pos c4] at H
        have c4b0 : decide (0 < (a0.size : Int)) = true := decide_eq_true c4
        have c4b1 : decide (0 < a0.size) = true := decide_eq_true (by omega)
        clear c4
        have H' := Aside0.mk H
        clear H
        have p5 : 0 ≤ (0 : Int) := (by omega)
        have q5 : 0 < a0.size := (by have : (0 : Int) < (a0.size : Int) := of_decide_eq_true (by first | (with_reducible assumption) | assumption); omega)
        have hx5 : ∀ h : 0 < a0.size, ((a0[0]'h).toNat : Int) = bt a0 0 := bt_at a0 0
        clear p5
        have qi5 : (0 < (a0.size : Int)) = True := eq_true (of_decide_eq_true (by first | (with_reducible assumption) | assumption))
        replace q5 := eq_true q5
        go_wp2
        go_meet
        case rel => exact ⟨_, (((bt a0 0) == 45)), (by first | rfl | (simp; done) | (simp [*]; done)), H', ⟨by first | omega | exact Nat.le_refl _⟩, by repeat (first | exact Drawn0.refl _ | apply Drawn0.step)⟩
      · rw [if_neg c4] at H
        exact absurd H (by simp)
  case rest =>
    clear HC2
    try clear c1
    try clear p2
    try clear c3
    try clear c3b0
    try clear c3b1
    try clear c4
    try clear c4b0
    try clear c4b1
    try clear p5
    try clear q5
    try clear hx5
    try clear qi5
    try clear p5
    try clear q5
    obtain ⟨kq, x13_1, rfl, HA, HJ1, ⟨mc1, rfl⟩⟩ := hcut
    cases kq with
    | zero => exact absurd HA.out (by simp [entrepotref02_Int.j0])
    | succ kj1 =>
      have H := HA.out
      clear HA
      simp only [entrepotref02_Int.j0] at H
      have HC6 := Aside0.mk H
      clear H
      go_upto_if 13 with (fail)
      go_cut [0, 4] (fun v0 v4 wc => ∃ (kq : Nat) (x0_5 : ByteArray) (x4_5 : Int), v0 = .string x0_5 ∧ v4 = .int .i64 x4_5 ∧ Aside0 (entrepotref02_Int.j1 kq x0_5 x4_5 = some (r1, r2)) ∧ Aside0 (kq ≤ kj1) ∧ Drawn0 w wc)
      case first =>
        have H := HC6.out
        clear HC6
        by_cases c7 : x13_1 = true
        · subst c7
          have H1 : (if 1 ≤ (a0.size : Int) then (entrepotref02_Int.j1 kj1 (a0.extract 1 a0.size) (-1)) else (none)) = some (r1, r2) := by rw [if_pos rfl] at H; exact H
          clear H
          have H := H1
          clear H1
          by_cases c8 : 1 ≤ (a0.size : Int)
          · rw [if_pos c8] at H
            have c8b0 := eq_true c8
            have c8b1 : decide (1 ≤ (a0.size : Int)) = true := decide_eq_true c8
            clear c8
            have H' := Aside0.mk H
            clear H
            go_wp2
            go_meet
            case rel => exact ⟨_, (a0.extract 1 a0.size), ((-1)), (by first | rfl | (simp; done) | (simp [*]; done)), (by first | rfl | (simp; done) | (simp [*]; done)), H', ⟨by have := HJ1.out; first | omega | exact Nat.le_refl _⟩, by repeat (first | exact Drawn0.refl _ | apply Drawn0.step)⟩
          · rw [if_neg c8] at H
            exact absurd H (by simp)
        · replace c7 := Bool.eq_false_iff.mpr c7
          subst c7
          have H1 : (entrepotref02_Int.j1 kj1 a0 1) = some (r1, r2) := by rw [if_neg (show ¬ (false = true) by decide)] at H; exact H
          clear H
          have H := H1
          clear H1
          have H' := Aside0.mk H
          clear H
          go_wp2
          go_meet
          case rel => exact ⟨_, (a0), (1), (by first | rfl | (simp; done) | (simp [*]; done)), (by first | rfl | (simp; done) | (simp [*]; done)), H', ⟨by have := HJ1.out; first | omega | exact Nat.le_refl _⟩, by repeat (first | exact Drawn0.refl _ | apply Drawn0.step)⟩
      case rest =>
        clear HC6
        try clear c1
        try clear p2
        try clear c3
        try clear c3b0
        try clear c3b1
        try clear c4
        try clear c4b0
        try clear c4b1
        try clear p5
        try clear q5
        try clear hx5
        try clear qi5
        try clear c7
        try clear c8
        try clear c8b0
        try clear c8b1
        try clear p2
        try clear p5
        try clear q5
        obtain ⟨kq, x0_5, x4_5, rfl, rfl, HA, HJ5, ⟨mc5, rfl⟩⟩ := hcut
        cases kq with
        | zero => exact absurd HA.out (by simp [entrepotref02_Int.j1])
        | succ kj5 =>
          have H := HA.out
          clear HA
          simp only [entrepotref02_Int.j1] at H
          replace H := Option.bind_eq_some_iff.mp H
          obtain ⟨⟨t101, t102⟩, A90, H⟩ := H
          replace H : (if t102 = true then (if t101 > 100000000 then (some (0, 2)) else (some (wrap64 (x4_5 * t101), 0))) else (some (0, 20))) = some (r1, r2) := H
          have A9 := Aside0.mk A90
          clear A90
          by_cases c10 : t102 = true
          · subst c10
            have H1 : (if t101 > 100000000 then (some (0, 2)) else (some (wrap64 (x4_5 * t101), 0))) = some (r1, r2) := by rw [if_pos rfl] at H; exact H
            clear H
            have H := H1
            clear H1
            by_cases c11 : t101 > 100000000
            · rw [if_pos c11] at H
              have c11b0 : decide (100000000 < t101) = true := decide_eq_true c11
              clear c11
              simp only [Option.some.injEq, Prod.mk.injEq] at H
              obtain ⟨rfl, rfl⟩ := H
              go_wp2_with (first | ((with_reducible refine gate_callee (f := 32) rfl ?_); refine goesL_ (some 18) rfl rfl Tryd.func32 (by kernel_rfl) rfl #[.string x0_5, .int .i64 12] rfl (by (try simp only [List.map_toArray, List.map_cons, List.map_nil]); first | done | rfl | (simp only [List.length_drop, List.length_take]; rfl)) ?_; (with_reducible refine (entrepotref02_digits.calls kj5 x0_5 12 t101 true _ A9.out).mono ?_); rintro e w' ⟨rfl, ⟨nd, rfl⟩⟩; refine ⟨_, rfl, ?_⟩))
              go_ret2
              exact ⟨by first | rfl | (simp; done) | (simp [*]; done), by repeat (first | exact Drawn0.refl _ | apply Drawn0.step)⟩
            · rw [if_neg c11] at H
              have c11b0 : decide (100000000 < t101) = false := decide_eq_false c11
              clear c11
              simp only [Option.some.injEq, Prod.mk.injEq] at H
              obtain ⟨rfl, rfl⟩ := H
              go_wp2_with (first | ((with_reducible refine gate_callee (f := 32) rfl ?_); refine goesL_ (some 18) rfl rfl Tryd.func32 (by kernel_rfl) rfl #[.string x0_5, .int .i64 12] rfl (by (try simp only [List.map_toArray, List.map_cons, List.map_nil]); first | done | rfl | (simp only [List.length_drop, List.length_take]; rfl)) ?_; (with_reducible refine (entrepotref02_digits.calls kj5 x0_5 12 t101 true _ A9.out).mono ?_); rintro e w' ⟨rfl, ⟨nd, rfl⟩⟩; refine ⟨_, rfl, ?_⟩))
              go_ret2
              exact ⟨by first | rfl | (simp; done) | (simp [*]; done), by repeat (first | exact Drawn0.refl _ | apply Drawn0.step)⟩
          · replace c10 := Bool.eq_false_iff.mpr c10
            subst c10
            have H1 : (some (0, 20)) = some (r1, r2) := by rw [if_neg (show ¬ (false = true) by decide)] at H; exact H
            clear H
            have H := H1
            clear H1
            simp only [Option.some.injEq, Prod.mk.injEq] at H
            obtain ⟨rfl, rfl⟩ := H
            go_wp2_with (first | ((with_reducible refine gate_callee (f := 32) rfl ?_); refine goesL_ (some 18) rfl rfl Tryd.func32 (by kernel_rfl) rfl #[.string x0_5, .int .i64 12] rfl (by (try simp only [List.map_toArray, List.map_cons, List.map_nil]); first | done | rfl | (simp only [List.length_drop, List.length_take]; rfl)) ?_; (with_reducible refine (entrepotref02_digits.calls kj5 x0_5 12 t101 false _ A9.out).mono ?_); rintro e w' ⟨rfl, ⟨nd, rfl⟩⟩; refine ⟨_, rfl, ?_⟩))
            go_ret2
            exact ⟨by first | rfl | (simp; done) | (simp [*]; done), by repeat (first | exact Drawn0.refl _ | apply Drawn0.step)⟩

end Go.Proofs.YtldllfadidepaaaDoor.P
namespace Go.Proofs.YtldllfadidepaaaDoor.P
open Go.RowKit Go.Proofs.YtldllfadidepaaaDoorW.PrintWords Go.Proofs.YtldllfadidepaaaDoorW.PrintLast Go.Proofs.YtldllfadidepaaaDoorW.PrintMore
attribute [local go_sem] max2_int min2_int max_two min_two max_three min_three max_four min_four   -- for this text's walks alone
set_option linter.unusedVariables false
set_option linter.unusedSimpArgs false

/-! ### entrepotref02_Least: function 19 -/
def entrepotref02_Least.l0 : Nat → Int → Int → Option (Int × Int)
  | 0, _, _ => none
  | k + 1, x102000, x102001 => if x102001 > 0 then (if (Int.tmod x102000 10) = 0 then (entrepotref02_Least.l0 k (wrap64 (Int.tdiv x102000 10)) (wrap64 (x102001 - 1))) else (some (x102000, x102001))) else (some (x102000, x102001))
def entrepotref02_Least.f (k : Nat) (a0_0 : Int) (a0_1 : Int) : Option (Int × Int) := entrepotref02_Least.l0 k a0_0 a0_1
theorem entrepotref02_Least.mono_l : ∀ k, (∀ y0 y1, LeO (entrepotref02_Least.l0 k y0 y1) (entrepotref02_Least.l0 (k + 1) y0 y1))
  | 0 => fun _ _ r h => by simp [entrepotref02_Least.l0] at h
  | k + 1 => by
    have ih0 := entrepotref02_Least.mono_l k
    · intro y0 y1
      unfold entrepotref02_Least.l0
      repeat' first
      | (with_reducible exact ih0 _ _)
      | (with_reducible exact LeO.refl _)
      | (with_reducible exact LeO.none _)
      | (with_reducible refine LeO.ite ?_ ?_)
      | (with_reducible refine LeO.bind ?_ (fun _ => ?_))
      | exact ih0 _ _
      | exact LeO.none _
      | refine LeO.ite ?_ ?_
      | refine LeO.bind ?_ (fun _ => ?_)
theorem entrepotref02_Least.mono : ∀ a0 a1 k, LeO (entrepotref02_Least.f k a0 a1) (entrepotref02_Least.f (k + 1) a0 a1) := by
  intro a0 a1 k
  have ih0 := entrepotref02_Least.mono_l k
  unfold entrepotref02_Least.f
  repeat' first
      | (with_reducible exact ih0 _ _)
      | (with_reducible exact LeO.refl _)
      | (with_reducible exact LeO.none _)
      | (with_reducible refine LeO.ite ?_ ?_)
      | (with_reducible refine LeO.bind ?_ (fun _ => ?_))
      | exact ih0 _ _
      | exact LeO.none _
      | refine LeO.ite ?_ ?_
      | refine LeO.bind ?_ (fun _ => ?_)
set_option maxHeartbeats 8000000 in
set_option maxRecDepth 100000 in
theorem entrepotref02_Least.calls (k : Nat) (a0_0 : Int) (a0_1 : Int) (r1 : Int) (r2 : Int) (w : World) (h : entrepotref02_Least.f k a0_0 a0_1 = some (r1, r2)) :
    Calls Tryd.prog 19 #[.agg #[.int .i64 a0_0, .int .i64 a0_1]] w fun e w' => e = .returned (.agg #[.int .i64 r1, .int .i64 r2]) ∧ Below w.heap.size w w' := by
  have hu30 := Tryd.underlying30
  have HB := Aside0.mk (Below.refl w.heap.size w)
  have H : (entrepotref02_Least.l0 k a0_0 a0_1) = some (r1, r2) := h
  clear h
  have H' := Aside0.mk H
  clear H
  go_enter Tryd.func19, Tryd.ntmps19
  go_wp2_with (first | ((with_reducible refine gate_dst (N := 1) rfl ?_); refine box_event ?hg (N := 1) ?hd (cs := #[.int .i64 a0_0, .int .i64 a0_1]) (t := 30) ?hr ?_; (case hd => rfl); (case hg => rfl); (case hr => first | (go_simp; done) | (go_simp; rfl)); intro gb101 hg w2 hbox hb; have n0_ := Aside0.mk (below_step (by repeat (first | (with_reducible first | exact HB.out | apply below_alloc | apply pw_below_drewN | apply below_drew1) | exact HB.out)) hb); have n1_ := Aside0.mk (hbox); have n2_ := Aside0.mk ((by rw [hg]; exact (below_size (by repeat (first | (with_reducible first | exact HB.out | apply below_alloc | apply pw_below_drewN | apply below_drew1) | exact HB.out))) : w.heap.size ≤ gb101)); have n3_ := Aside0.mk ((by rw [hg]; exact (below_size (by repeat (first | (with_reducible first | exact HB.out | apply below_alloc | apply pw_below_drewN | apply below_drew1) | exact HB.out))) : w.heap.size ≤ gb101)); clear HB; have HB := n0_; have BK101 := n1_; have GW101 := n2_; have GE101 := n3_; clear n0_ n1_ n2_ n3_; clear hb hbox hg) | ((with_reducible refine gate_dst (N := 2) rfl ?_); refine box_event ?hg (N := 2) ?hd (cs := #[.int .i64 0, .int .i64 0]) (t := 30) ?hr ?_; (case hd => rfl); (case hg => rfl); (case hr => first | (go_simp; done) | (go_simp; rfl)); intro gb102 hg w3 hbox hb; have n0_ := Aside0.mk (blk_below (g := gb101) (o := .cells #[.int .i64 a0_0, .int .i64 a0_1] 30 (0, 0)) (by (with_reducible repeat (first | refine blk_drewN ?_ _ | refine blk_drew ?_ | refine blk_alloc ?_ _)); exact BK101.out) hb); have n1_ := Aside0.mk (below_step (by repeat (first | (with_reducible first | exact HB.out | apply below_alloc | apply pw_below_drewN | apply below_drew1 | refine below_set ?_ GE101.out) | exact HB.out)) hb); have n2_ := Aside0.mk (hbox); have n3_ := Aside0.mk ((by rw [hg]; exact (below_size (by repeat (first | (with_reducible first | exact HB.out | apply below_alloc | apply pw_below_drewN | apply below_drew1 | refine below_set ?_ GE101.out) | exact HB.out))) : w.heap.size ≤ gb102)); have n4_ := Aside0.mk ((by rw [hg]; exact (below_size (by repeat (first | (with_reducible first | exact HB.out | apply below_alloc | apply pw_below_drewN | apply below_drew1 | refine below_set ?_ GE101.out) | exact HB.out))) : w.heap.size ≤ gb102)); have n5_ := Aside0.mk ((by rw [hg]; exact Nat.ne_of_lt (blk_lt (g := gb101) (o := .cells #[.int .i64 a0_0, .int .i64 a0_1] 30 (0, 0)) (by (with_reducible repeat (first | refine blk_drewN ?_ _ | refine blk_drew ?_ | refine blk_alloc ?_ _)); exact BK101.out)) : gb101 ≠ gb102)); have n6_ := Aside0.mk ((by rw [hg]; exact Nat.ne_of_gt (blk_lt (g := gb101) (o := .cells #[.int .i64 a0_0, .int .i64 a0_1] 30 (0, 0)) (by (with_reducible repeat (first | refine blk_drewN ?_ _ | refine blk_drew ?_ | refine blk_alloc ?_ _)); exact BK101.out)) : gb102 ≠ gb101)); clear BK101; clear HB; have BK101 := n0_; have HB := n1_; have BK102 := n2_; have GW102 := n3_; have GE102 := n4_; have NB101_102 := n5_; have NB102_101 := n6_; clear n0_ n1_ n2_ n3_ n4_ n5_ n6_; clear hb hbox hg))
  (try simp only [Act.put, List.setIfInBounds_toArray, List.set_cons_zero, List.set_cons_succ])
  go_loopg [] k (fun kq w' => ∃ (x102000_1 : Int) (x102001_1 : Int), Aside0 (entrepotref02_Least.l0 kq x102000_1 x102001_1 = some (r1, r2)) ∧ Aside0 (kq ≤ k) ∧ Aside0 (w'.heap[gb101]? = some (.cells #[.int .i64 x102000_1, .int .i64 x102001_1] 30 (0, 0))) ∧ Aside0 (w'.heap[gb102]? = some (.cells #[.int .i64 0, .int .i64 0] 30 (0, 0))) ∧ Aside0 (Below w.heap.size w w'))
  case atStart => exact ⟨(a0_0), (a0_1), H', ⟨Nat.le_refl _⟩, ⟨by (with_reducible repeat (first | refine blk_drewN ?_ _ | refine blk_drew ?_ | refine blk_alloc ?_ _)); exact BK101.out⟩, ⟨by (with_reducible repeat (first | refine blk_drewN ?_ _ | refine blk_drew ?_ | refine blk_alloc ?_ _)); exact BK102.out⟩, ⟨by repeat (first | (with_reducible first | exact HB.out | apply below_alloc | apply pw_below_drewN | apply below_drew1 | refine below_set ?_ GE101.out | refine below_set ?_ GE102.out) | exact HB.out)⟩⟩
  case round =>
    clear H'
    try clear c1
    try clear p2
    obtain ⟨x102000_1, x102001_1, HA, HK1, BK101, BK102, HB⟩ := hrel
    cases gk with
    | zero => exact absurd HA.out (by simp [entrepotref02_Least.l0])
    | succ k1 =>
      have H := HA.out
      clear HA
      simp only [entrepotref02_Least.l0] at H
      by_cases c4 : x102001_1 > 0
      · rw [if_pos c4] at H
        have c4b0 : decide (0 < x102001_1) = true := decide_eq_true c4
        clear c4
        by_cases c5 : (Int.tmod x102000_1 10) = 0
        · rw [if_pos c5] at H
          have c5b0 : ((Int.tmod x102000_1 10) == 0) = true := beq_iff_eq.mpr c5
          have c5b1 : ((Int.tmod x102000_1 10) != 0) = false := bne_eq_false_iff_eq.mpr c5
          clear c5
          have H' := Aside0.mk H
          clear H
          have hnb6 := NB101_102.out
          have hnc6 := NB102_101.out
          have hcz7_0 : wr.cell? ⟨gb101, 0, none⟩ = some (.int .i64 x102000_1) := (blk_cell BK101.out 0).trans rfl
          have hcz7_1 : wr.cell? ⟨gb101, 1, none⟩ = some (.int .i64 x102001_1) := (blk_cell BK101.out 1).trans rfl
          have hfz7_0 := blk_frozen BK101.out 0
          have hfz7_1 := blk_frozen BK101.out 1
          go_wp2
          go_roundg k1
          case measure => have := HK1.out; omega
          case rel => exact ⟨(wrap64 (Int.tdiv x102000_1 10)), (wrap64 (x102001_1 - 1)), H', ⟨by have := HK1.out; omega⟩, ⟨by (with_reducible repeat (first | refine blk_drewN ?_ _ | refine blk_drew ?_ | refine blk_alloc ?_ _)); refine blk_put (cs := #[.int .i64 (wrap64 (Int.tdiv x102000_1 10)), .int .i64 x102001_1]) ?_ 1 _ rfl; (with_reducible repeat (first | refine blk_drewN ?_ _ | refine blk_drew ?_ | refine blk_alloc ?_ _)); refine blk_put (cs := #[.int .i64 x102000_1, .int .i64 x102001_1]) ?_ 0 _ rfl; (with_reducible repeat (first | refine blk_drewN ?_ _ | refine blk_drew ?_ | refine blk_alloc ?_ _)); exact BK101.out⟩, ⟨by (with_reducible repeat (first | refine blk_drewN ?_ _ | refine blk_drew ?_ | refine blk_alloc ?_ _)); refine blk_far ?_ NB102_101.out _; (with_reducible repeat (first | refine blk_drewN ?_ _ | refine blk_drew ?_ | refine blk_alloc ?_ _)); refine blk_far ?_ NB102_101.out _; (with_reducible repeat (first | refine blk_drewN ?_ _ | refine blk_drew ?_ | refine blk_alloc ?_ _)); exact BK102.out⟩, ⟨by repeat (first | (with_reducible first | exact HB.out | apply below_alloc | apply pw_below_drewN | apply below_drew1 | refine below_set ?_ GE101.out | refine below_set ?_ GE102.out) | exact HB.out)⟩⟩
        · rw [if_neg c5] at H
          have c5b0 : ((Int.tmod x102000_1 10) == 0) = false := beq_eq_false_iff_ne.mpr c5
          have c5b1 : ((Int.tmod x102000_1 10) != 0) = true := bne_iff_ne.mpr c5
          simp only [Option.some.injEq, Prod.mk.injEq] at H
          obtain ⟨rfl, rfl⟩ := H
          have hnb8 := NB101_102.out
          have hnc8 := NB102_101.out
          have hcz9_0 : wr.cell? ⟨gb101, 0, none⟩ = some (.int .i64 x102000_1) := (blk_cell BK101.out 0).trans rfl
          have hcz9_1 : wr.cell? ⟨gb101, 1, none⟩ = some (.int .i64 x102001_1) := (blk_cell BK101.out 1).trans rfl
          have hfz9_0 := blk_frozen BK101.out 0
          have hfz9_1 := blk_frozen BK101.out 1
          have hcz10_0 : wr.cell? ⟨gb102, 0, none⟩ = some (.int .i64 0) := (blk_cell BK102.out 0).trans rfl
          have hcz10_1 : wr.cell? ⟨gb102, 1, none⟩ = some (.int .i64 0) := (blk_cell BK102.out 1).trans rfl
          have hfz10_0 := blk_frozen BK102.out 0
          have hfz10_1 := blk_frozen BK102.out 1
          go_wp2
          refine bodyPost_ret (results_cell_row rfl _ _ gb102 30 #[.int .i64 x102000_1, .int .i64 x102001_1] (0, 0) _ rfl (by (with_reducible repeat (first | refine blk_drewN ?_ _ | refine blk_drew ?_ | refine blk_alloc ?_ _)); refine blk_put (cs := #[.int .i64 x102000_1, .int .i64 0]) ?_ 1 _ rfl; (with_reducible repeat (first | refine blk_drewN ?_ _ | refine blk_drew ?_ | refine blk_alloc ?_ _)); refine blk_put (cs := #[.int .i64 0, .int .i64 0]) ?_ 0 _ rfl; (with_reducible repeat (first | refine blk_drewN ?_ _ | refine blk_drew ?_ | refine blk_alloc ?_ _)); exact BK102.out) Tryd.underlying30 rfl (by kernel_rfl)) rfl ?_
          exact ⟨by first | rfl | (simp [errW_none, errW_some] <;> rfl) | (simp [*, errW_none, errW_some] <;> rfl), by repeat (first | (with_reducible first | exact HB.out | apply below_alloc | apply pw_below_drewN | apply below_drew1 | refine below_set ?_ GE101.out | refine below_set ?_ GE102.out) | exact HB.out)⟩
      · rw [if_neg c4] at H
        have c4b0 : decide (0 < x102001_1) = false := decide_eq_false c4
        clear c4
        simp only [Option.some.injEq, Prod.mk.injEq] at H
        obtain ⟨rfl, rfl⟩ := H
        have hnb11 := NB101_102.out
        have hnc11 := NB102_101.out
        have hcz12_0 : wr.cell? ⟨gb101, 0, none⟩ = some (.int .i64 x102000_1) := (blk_cell BK101.out 0).trans rfl
        have hcz12_1 : wr.cell? ⟨gb101, 1, none⟩ = some (.int .i64 x102001_1) := (blk_cell BK101.out 1).trans rfl
        have hfz12_0 := blk_frozen BK101.out 0
        have hfz12_1 := blk_frozen BK101.out 1
        have hcz13_0 : wr.cell? ⟨gb102, 0, none⟩ = some (.int .i64 0) := (blk_cell BK102.out 0).trans rfl
        have hcz13_1 : wr.cell? ⟨gb102, 1, none⟩ = some (.int .i64 0) := (blk_cell BK102.out 1).trans rfl
        have hfz13_0 := blk_frozen BK102.out 0
        have hfz13_1 := blk_frozen BK102.out 1
        go_wp2
        refine bodyPost_ret (results_cell_row rfl _ _ gb102 30 #[.int .i64 x102000_1, .int .i64 x102001_1] (0, 0) _ rfl (by (with_reducible repeat (first | refine blk_drewN ?_ _ | refine blk_drew ?_ | refine blk_alloc ?_ _)); refine blk_put (cs := #[.int .i64 x102000_1, .int .i64 0]) ?_ 1 _ rfl; (with_reducible repeat (first | refine blk_drewN ?_ _ | refine blk_drew ?_ | refine blk_alloc ?_ _)); refine blk_put (cs := #[.int .i64 0, .int .i64 0]) ?_ 0 _ rfl; (with_reducible repeat (first | refine blk_drewN ?_ _ | refine blk_drew ?_ | refine blk_alloc ?_ _)); exact BK102.out) Tryd.underlying30 rfl (by kernel_rfl)) rfl ?_
        exact ⟨by first | rfl | (simp [errW_none, errW_some] <;> rfl) | (simp [*, errW_none, errW_some] <;> rfl), by repeat (first | (with_reducible first | exact HB.out | apply below_alloc | apply pw_below_drewN | apply below_drew1 | refine below_set ?_ GE101.out | refine below_set ?_ GE102.out) | exact HB.out)⟩

end Go.Proofs.YtldllfadidepaaaDoor.P
namespace Go.Proofs.YtldllfadidepaaaDoor.P
open Go.RowKit Go.Proofs.YtldllfadidepaaaDoorW.PrintWords Go.Proofs.YtldllfadidepaaaDoorW.PrintLast Go.Proofs.YtldllfadidepaaaDoorW.PrintMore
attribute [local go_sem] max2_int min2_int max_two min_two max_three min_three max_four min_four   -- for this text's walks alone
set_option linter.unusedVariables false
set_option linter.unusedSimpArgs false

/-! ### entrepotref02_tens: function 34 -/
def entrepotref02_tens.l0 : Nat → Int → Int → Int → Option (Int)
  | 0, _, _, _ => none
  | k + 1, x0, x3, x4 => if x4 < x0 then (entrepotref02_tens.l0 k x0 (wrap64 (10 * x3)) (wrap64 (x4 + 1))) else (some x3)
def entrepotref02_tens.f (k : Nat) (a0 : Int) : Option (Int) := entrepotref02_tens.l0 k a0 1 0
theorem entrepotref02_tens.mono_l : ∀ k, (∀ y0 y1 y2, LeO (entrepotref02_tens.l0 k y0 y1 y2) (entrepotref02_tens.l0 (k + 1) y0 y1 y2))
  | 0 => fun _ _ _ r h => by simp [entrepotref02_tens.l0] at h
  | k + 1 => by
    have ih0 := entrepotref02_tens.mono_l k
    · intro y0 y1 y2
      unfold entrepotref02_tens.l0
      repeat' first
      | (with_reducible exact ih0 _ _ _)
      | (with_reducible exact LeO.refl _)
      | (with_reducible exact LeO.none _)
      | (with_reducible refine LeO.ite ?_ ?_)
      | (with_reducible refine LeO.bind ?_ (fun _ => ?_))
      | exact ih0 _ _ _
      | exact LeO.none _
      | refine LeO.ite ?_ ?_
      | refine LeO.bind ?_ (fun _ => ?_)
theorem entrepotref02_tens.mono : ∀ a0 k, LeO (entrepotref02_tens.f k a0) (entrepotref02_tens.f (k + 1) a0) := by
  intro a0 k
  have ih0 := entrepotref02_tens.mono_l k
  unfold entrepotref02_tens.f
  repeat' first
      | (with_reducible exact ih0 _ _ _)
      | (with_reducible exact LeO.refl _)
      | (with_reducible exact LeO.none _)
      | (with_reducible refine LeO.ite ?_ ?_)
      | (with_reducible refine LeO.bind ?_ (fun _ => ?_))
      | exact ih0 _ _ _
      | exact LeO.none _
      | refine LeO.ite ?_ ?_
      | refine LeO.bind ?_ (fun _ => ?_)
set_option maxHeartbeats 8000000 in
set_option maxRecDepth 100000 in
theorem entrepotref02_tens.calls (k : Nat) (a0 : Int) (r : Int) (w : World) (h : entrepotref02_tens.f k a0 = some r) :
    Calls Tryd.prog 34 #[.int .i64 a0] w fun e w' => e = .returned (.int .i64 r) ∧ Drawn0 w w' := by
  have H : (entrepotref02_tens.l0 k a0 1 0) = some r := h
  clear h
  have H' := Aside0.mk H
  clear H
  go_enter Tryd.func34, Tryd.ntmps34
  go_wp2
  (try simp only [Act.put, List.setIfInBounds_toArray, List.set_cons_zero, List.set_cons_succ])
  go_loopg [3, 4] k (fun kq v3 v4 w' => ∃ (x3_1 : Int) (x4_1 : Int), v3 = .int .i64 x3_1 ∧ v4 = .int .i64 x4_1 ∧ Aside0 (entrepotref02_tens.l0 kq a0 x3_1 x4_1 = some r) ∧ Aside0 (kq ≤ k) ∧ Drawn0 w w')
  case atStart => exact ⟨(1), (0), (by first | rfl | (simp; done) | (simp [*]; done)), (by first | rfl | (simp; done) | (simp [*]; done)), H', ⟨Nat.le_refl _⟩, by repeat (first | exact Drawn0.refl _ | apply Drawn0.step)⟩
  case round =>
    clear H'
    obtain ⟨x3_1, x4_1, rfl, rfl, HA, HK1, ⟨m1, rfl⟩⟩ := hrel
    cases gk with
    | zero => exact absurd HA.out (by simp [entrepotref02_tens.l0])
    | succ k1 =>
      have H := HA.out
      clear HA
      simp only [entrepotref02_tens.l0] at H
      by_cases c2 : x4_1 < a0
      · rw [if_pos c2] at H
        have c2b0 : decide (x4_1 < a0) = true := decide_eq_true c2
        clear c2
        have H' := Aside0.mk H
        clear H
        go_wp2
        go_roundg k1
        case measure => have := HK1.out; omega
        case rel => exact ⟨(wrap64 (10 * x3_1)), (wrap64 (x4_1 + 1)), (by first | rfl | (simp; done) | (simp [*]; done)), (by first | rfl | (simp; done) | (simp [*]; done)), H', ⟨by have := HK1.out; omega⟩, by repeat (first | exact Drawn0.refl _ | apply Drawn0.step)⟩
      · rw [if_neg c2] at H
        have c2b0 : decide (x4_1 < a0) = false := decide_eq_false c2
        clear c2
        obtain rfl := Option.some.inj H
        go_wp2
        go_ret
        exact ⟨by first | rfl | (simp; done) | (simp [*]; done), by repeat (first | exact Drawn0.refl _ | apply Drawn0.step)⟩

end Go.Proofs.YtldllfadidepaaaDoor.P
