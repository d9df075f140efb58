/- FixedPrints holds for every input: the law returns true, and its arguments read as they read. Its condition: the library's tables and errors that the row lists lie as the program's text lays them (the card ties this). -/
import Derived.Test.YtldllfadidepaaaDoorMFixedPrintsA
import Derived.Test.YtldllfadidepaaaDoorMFixedPrintsB
import Derived.Lib.Hide
import Derived.Test.YtldllfadidepaaaDoorRows
import Derived.Test.YtldllfadidepaaaDoorCards
import Derived.Test.YtldllfadidepaaaDoorTie
import Derived.WalkKit
import Derived.ProofKit
import Derived.OpenShut
import Derived.ShutString
import Derived.ChangeOld
import Derived.Below
import Derived.SizedLaws
import Derived.LaidMore
import Derived.SevenTiedAt
import Derived.Lib.SmallJoins
import Derived.Stop.LaidErr
import Derived.Lib.LaidTab
import Derived.Carry
import Derived.Stop.Joined
namespace Go.Proofs.YtldllfadidepaaaDoor.P
open Go.RowKit Go.Proofs.YtldllfadidepaaaDoorW.PrintWords Go.Proofs.YtldllfadidepaaaDoorW.PrintLast Go.Proofs.YtldllfadidepaaaDoorW.PrintMore
attribute [local go_sem] max2_int min2_int max_two min_two max_three min_three max_four min_four   -- for this text's walks alone
set_option linter.unusedVariables false
set_option linter.unusedSimpArgs false

/-! ### entrepotref02_Read: function 14 -/
mutual
def entrepotref02_Read.j0 : Nat → ByteArray → Int → Bool → Option (Int × Int × Int)
  | 0, _, _, _ => none
  | k + 1, x0, x4, x19 => if x19 = true then (if 1 ≤ (x0.size : Int) then (entrepotref02_Read.j1 k (x0.extract 1 x0.size) (-1)) else (none)) else (entrepotref02_Read.j1 k x0 x4)
def entrepotref02_Read.j1 : Nat → ByteArray → Int → Option (Int × Int × Int)
  | 0, _, _ => none
  | k + 1, x0, x4 => entrepotref02_Read.l0 k x0 x4 (x0.size : Int) (wrap64 ((x0.size : Int) - 1))
def entrepotref02_Read.l0 : Nat → ByteArray → Int → Int → Int → Option (Int × Int × Int)
  | 0, _, _, _, _ => none
  | k + 1, x0, x4, x5, x6 => if x6 ≥ 0 then (if 0 ≤ x6 then (if x6 < (x0.size : Int) then (if (bt x0 x6) = 46 then (entrepotref02_Read.l0 k x0 x4 x6 (wrap64 (x6 - 1))) else (entrepotref02_Read.l0 k x0 x4 x5 (wrap64 (x6 - 1)))) else (none)) else (none)) else (if 0 ≤ x5 then (if x5 ≤ (x0.size : Int) then ((entrepotref02_digits.f k (x0.extract 0 (x5 : Int).toNat) 12).bind fun bt102 => (if bt102.2 = true then (if x5 < (x0.size : Int) then (if 0 ≤ (wrap64 (x5 + 1)) then (if (wrap64 (x5 + 1)) ≤ (x0.size : Int) then ((entrepotref02_digits.f k (x0.extract ((wrap64 (x5 + 1)) : Int).toNat x0.size) 6).bind fun bt104 => (if bt104.2 = true then ((entrepotref02_tens.f k (wrap64 ((wrap64 ((x0.size : Int) - x5)) - 1))).bind fun t106 => ((entrepotref02_Least.f k (wrap64 (x4 * (wrap64 ((wrap64 (bt102.1 * t106)) + bt104.1)))) (wrap64 ((wrap64 ((x0.size : Int) - x5)) - 1))).bind fun bt107 => (if bt107.1 > 100000000 then (some (0, 0, 2)) else (if bt107.1 < (-100000000) then (some (0, 0, 2)) else (some (bt107.1, bt107.2, 0)))))) else (some (0, 0, 20)))) else (none)) else (none)) else ((entrepotref02_Least.f k (wrap64 (x4 * bt102.1)) 0).bind fun bt110 => (if bt110.1 > 100000000 then (some (0, 0, 2)) else (if bt110.1 < (-100000000) then (some (0, 0, 2)) else (some (bt110.1, bt110.2, 0)))))) else (some (0, 0, 20)))) else (none)) else (none))
end
def entrepotref02_Read.f (k : Nat) (a0 : ByteArray) : Option (Int × Int × Int) := if a0.toList = ([] : List UInt8) then (entrepotref02_Read.j0 k a0 1 false) else (if 0 < (a0.size : Int) then (entrepotref02_Read.j0 k a0 1 ((bt a0 0) == 45)) else (none))
theorem entrepotref02_Read.mono_l : ∀ k, (∀ y0 y1 y2, LeO (entrepotref02_Read.j0 k y0 y1 y2) (entrepotref02_Read.j0 (k + 1) y0 y1 y2)) ∧ (∀ y0 y1, LeO (entrepotref02_Read.j1 k y0 y1) (entrepotref02_Read.j1 (k + 1) y0 y1)) ∧ (∀ y0 y1 y2 y3, LeO (entrepotref02_Read.l0 k y0 y1 y2 y3) (entrepotref02_Read.l0 (k + 1) y0 y1 y2 y3))
  | 0 => ⟨fun _ _ _ r h => by simp [entrepotref02_Read.j0] at h, fun _ _ r h => by simp [entrepotref02_Read.j1] at h, fun _ _ _ _ r h => by simp [entrepotref02_Read.l0] at h⟩
  | k + 1 => by
    obtain ⟨ih0, ih1, ih2⟩ := entrepotref02_Read.mono_l k
    refine ⟨?_, ?_, ?_⟩
    · intro y0 y1 y2
      unfold entrepotref02_Read.j0
      repeat' first
      | (with_reducible exact ih0 _ _ _)
      | (with_reducible exact ih1 _ _)
      | (with_reducible exact ih2 _ _ _ _)
      | (with_reducible exact entrepotref02_Least.mono _ _ _)
      | (with_reducible exact entrepotref02_digits.mono _ _ _)
      | (with_reducible exact entrepotref02_tens.mono _ _)
      | (with_reducible exact LeO.refl _)
      | (with_reducible exact LeO.none _)
      | (with_reducible refine LeO.ite ?_ ?_)
      | (with_reducible refine LeO.bind ?_ (fun _ => ?_))
      | exact ih0 _ _ _
      | exact ih1 _ _
      | exact ih2 _ _ _ _
      | exact entrepotref02_Least.mono _ _ _
      | exact entrepotref02_digits.mono _ _ _
      | exact entrepotref02_tens.mono _ _
      | exact LeO.none _
      | refine LeO.ite ?_ ?_
      | refine LeO.bind ?_ (fun _ => ?_)
    · intro y0 y1
      unfold entrepotref02_Read.j1
      repeat' first
      | (with_reducible exact ih0 _ _ _)
      | (with_reducible exact ih1 _ _)
      | (with_reducible exact ih2 _ _ _ _)
      | (with_reducible exact entrepotref02_Least.mono _ _ _)
      | (with_reducible exact entrepotref02_digits.mono _ _ _)
      | (with_reducible exact entrepotref02_tens.mono _ _)
      | (with_reducible exact LeO.refl _)
      | (with_reducible exact LeO.none _)
      | (with_reducible refine LeO.ite ?_ ?_)
      | (with_reducible refine LeO.bind ?_ (fun _ => ?_))
      | exact ih0 _ _ _
      | exact ih1 _ _
      | exact ih2 _ _ _ _
      | exact entrepotref02_Least.mono _ _ _
      | exact entrepotref02_digits.mono _ _ _
      | exact entrepotref02_tens.mono _ _
      | exact LeO.none _
      | refine LeO.ite ?_ ?_
      | refine LeO.bind ?_ (fun _ => ?_)
    · intro y0 y1 y2 y3
      unfold entrepotref02_Read.l0
      repeat' first
      | (with_reducible exact ih0 _ _ _)
      | (with_reducible exact ih1 _ _)
      | (with_reducible exact ih2 _ _ _ _)
      | (with_reducible exact entrepotref02_Least.mono _ _ _)
      | (with_reducible exact entrepotref02_digits.mono _ _ _)
      | (with_reducible exact entrepotref02_tens.mono _ _)
      | (with_reducible exact LeO.refl _)
      | (with_reducible exact LeO.none _)
      | (with_reducible refine LeO.ite ?_ ?_)
      | (with_reducible refine LeO.bind ?_ (fun _ => ?_))
      | exact ih0 _ _ _
      | exact ih1 _ _
      | exact ih2 _ _ _ _
      | exact entrepotref02_Least.mono _ _ _
      | exact entrepotref02_digits.mono _ _ _
      | exact entrepotref02_tens.mono _ _
      | exact LeO.none _
      | refine LeO.ite ?_ ?_
      | refine LeO.bind ?_ (fun _ => ?_)
theorem entrepotref02_Read.mono : ∀ a0 k, LeO (entrepotref02_Read.f k a0) (entrepotref02_Read.f (k + 1) a0) := by
  intro a0 k
  obtain ⟨ih0, ih1, ih2⟩ := entrepotref02_Read.mono_l k
  unfold entrepotref02_Read.f
  repeat' first
      | (with_reducible exact ih0 _ _ _)
      | (with_reducible exact ih1 _ _)
      | (with_reducible exact ih2 _ _ _ _)
      | (with_reducible exact entrepotref02_Least.mono _ _ _)
      | (with_reducible exact entrepotref02_digits.mono _ _ _)
      | (with_reducible exact entrepotref02_tens.mono _ _)
      | (with_reducible exact LeO.refl _)
      | (with_reducible exact LeO.none _)
      | (with_reducible refine LeO.ite ?_ ?_)
      | (with_reducible refine LeO.bind ?_ (fun _ => ?_))
      | exact ih0 _ _ _
      | exact ih1 _ _
      | exact ih2 _ _ _ _
      | exact entrepotref02_Least.mono _ _ _
      | exact entrepotref02_digits.mono _ _ _
      | exact entrepotref02_tens.mono _ _
      | exact LeO.none _
      | refine LeO.ite ?_ ?_
      | refine LeO.bind ?_ (fun _ => ?_)
set_option maxHeartbeats 8000000 in
set_option maxRecDepth 100000 in
theorem entrepotref02_Read.calls (k : Nat) (a0 : ByteArray) (r1 : Int) (r2 : Int) (r3 : Int) (w : World) (h : entrepotref02_Read.f k a0 = some (r1, r2, r3)) :
    Calls Tryd.prog 14 #[.string a0] w fun e w' => e = .returned (.tuple #[.agg #[.int .i64 r1, .int .i64 r2], .int .i64 r3]) ∧ Below w.heap.size w w' := by
  have hu30 := Tryd.underlying30
  have HB := Aside0.mk (Below.refl w.heap.size w)
  have H : (if a0.toList = ([] : List UInt8) then (entrepotref02_Read.j0 k a0 1 false) else (if 0 < (a0.size : Int) then (entrepotref02_Read.j0 k a0 1 ((bt a0 0) == 45)) else (none))) = some (r1, r2, r3) := h
  clear h
  have HC2 := Aside0.mk H
  clear H
  go_enter Tryd.func14, Tryd.ntmps14
  go_upto_region 2 with (first | ((with_reducible refine gate_dst (N := 2) rfl ?_); refine box_event ?hg (N := 2) ?hd (cs := #[.int .i64 0, .int .i64 0]) (t := 30) ?hr ?_; (case hd => rfl); (case hg => rfl); (case hr => first | (go_simp; done) | (go_simp; rfl)); intro gb101 hg w3 hbox hb; have n0_ := Aside0.mk (below_step (by repeat (first | (with_reducible first | exact HB.out | apply below_alloc | apply pw_below_drewN | apply below_drew1) | exact HB.out)) hb); have n1_ := Aside0.mk (hbox); have n2_ := Aside0.mk ((by rw [hg]; exact (below_size (by repeat (first | (with_reducible first | exact HB.out | apply below_alloc | apply pw_below_drewN | apply below_drew1) | exact HB.out))) : w.heap.size ≤ gb101)); have n3_ := Aside0.mk ((by rw [hg]; exact (below_size (by repeat (first | (with_reducible first | exact HB.out | apply below_alloc | apply pw_below_drewN | apply below_drew1) | exact HB.out))) : w.heap.size ≤ gb101)); clear HB; have HB := n0_; have BK101 := n1_; have GW101 := n2_; have GE101 := n3_; clear n0_ n1_ n2_ n3_; clear hb hbox hg))
  (try simp only [Act.put, List.setIfInBounds_toArray, List.set_cons_zero, List.set_cons_succ])
  go_cut [19] (fun v19 wc => ∃ (kq : Nat) (x19_1 : Bool), v19 = .bool x19_1 ∧ Aside0 (entrepotref02_Read.j0 kq a0 1 x19_1 = some (r1, r2, r3)) ∧ Aside0 (kq ≤ k) ∧ Aside0 (wc.heap[gb101]? = some (.cells #[.int .i64 0, .int .i64 0] 30 (0, 0))) ∧ Aside0 (Below w.heap.size w wc))
  case first =>
    have H := HC2.out
    clear HC2
    by_cases c4 : a0.toList = ([] : List UInt8)
    · rw [if_pos c4] at H
      have c4b0 : (a0.toList == ([] : List UInt8)) = true := beq_iff_eq.mpr c4
      have c4b1 : (a0.toList != ([] : List UInt8)) = false := bne_eq_false_iff_eq.mpr c4
      clear c4
      (first | rw [c4b0] | (simp only [i64_w, i32_w]; rw [c4b0]) | skip)
      have H' := Aside0.mk H
      clear H
      go_wp2
      go_meet
      case rel => exact ⟨_, (false), (by first | rfl | (simp; done) | (simp [*]; done)), H', ⟨by first | omega | exact Nat.le_refl _⟩, ⟨by (with_reducible repeat (first | refine blk_drewN ?_ _ | refine blk_drew ?_ | refine blk_alloc ?_ _)); exact BK101.out⟩, ⟨by repeat (first | (with_reducible first | exact HB.out | apply below_alloc | apply pw_below_drewN | apply below_drew1 | refine below_set ?_ GE101.out) | exact HB.out)⟩⟩
    · rw [if_neg c4] at H
      have c4b0 : (a0.toList == ([] : List UInt8)) = false := beq_eq_false_iff_ne.mpr c4
      have c4b1 : (a0.toList != ([] : List UInt8)) = true := bne_iff_ne.mpr c4
      (first | rw [c4b0] | (simp only [i64_w, i32_w]; rw [c4b0]) | skip)
      by_cases c5 : 0 < (a0.size : Int)
      · rw [if_pos c5] at H
        have c5b0 : decide (0 < (a0.size : Int)) = true := decide_eq_true c5
        have c5b1 : decide (0 < a0.size) = true := decide_eq_true (by omega)
        clear c5
        have H' := Aside0.mk H
        clear H
        have p6 : 0 ≤ (0 : Int) := (by omega)
        have q6 : 0 < a0.size := (by have : (0 : Int) < (a0.size : Int) := of_decide_eq_true (by first | (with_reducible assumption) | assumption); omega)
        have hx6 : ∀ h : 0 < a0.size, ((a0[0]'h).toNat : Int) = bt a0 0 := bt_at a0 0
        clear p6
        have qi6 : (0 < (a0.size : Int)) = True := eq_true (of_decide_eq_true (by first | (with_reducible assumption) | assumption))
        replace q6 := eq_true q6
        go_wp2
        go_meet
        case rel => exact ⟨_, (((bt a0 0) == 45)), (by first | rfl | (simp; done) | (simp [*]; done)), H', ⟨by first | omega | exact Nat.le_refl _⟩, ⟨by (with_reducible repeat (first | refine blk_drewN ?_ _ | refine blk_drew ?_ | refine blk_alloc ?_ _)); exact BK101.out⟩, ⟨by repeat (first | (with_reducible first | exact HB.out | apply below_alloc | apply pw_below_drewN | apply below_drew1 | refine below_set ?_ GE101.out) | exact HB.out)⟩⟩
      · rw [if_neg c5] at H
        exact absurd H (by simp)
  case rest =>
    clear HC2
    try clear c1
    try clear p2
    try clear c4
    try clear c4b0
    try clear c4b1
    try clear c5
    try clear c5b0
    try clear c5b1
    try clear p6
    try clear q6
    try clear hx6
    try clear qi6
    try clear p6
    try clear q6
    obtain ⟨kq, x19_1, rfl, HA, HJ1, BK101, HB⟩ := hcut
    cases kq with
    | zero => exact absurd HA.out (by simp [entrepotref02_Read.j0])
    | succ kj1 =>
      have H := HA.out
      clear HA
      simp only [entrepotref02_Read.j0] at H
      have HC7 := Aside0.mk H
      clear H
      go_upto_if 19 with (fail)
      go_cut [0, 4] (fun v0 v4 wc => ∃ (kq : Nat) (x0_6 : ByteArray) (x4_6 : Int), v0 = .string x0_6 ∧ v4 = .int .i64 x4_6 ∧ Aside0 (entrepotref02_Read.j1 kq x0_6 x4_6 = some (r1, r2, r3)) ∧ Aside0 (kq ≤ kj1) ∧ Aside0 (wc.heap[gb101]? = some (.cells #[.int .i64 0, .int .i64 0] 30 (0, 0))) ∧ Aside0 (Below w.heap.size w wc))
      case first =>
        have H := HC7.out
        clear HC7
        by_cases c8 : x19_1 = true
        · subst c8
          have H1 : (if 1 ≤ (a0.size : Int) then (entrepotref02_Read.j1 kj1 (a0.extract 1 a0.size) (-1)) else (none)) = some (r1, r2, r3) := by rw [if_pos rfl] at H; exact H
          clear H
          have H := H1
          clear H1
          by_cases c9 : 1 ≤ (a0.size : Int)
          · rw [if_pos c9] at H
            have c9b0 := eq_true c9
            have c9b1 : decide (1 ≤ (a0.size : Int)) = true := decide_eq_true c9
            clear c9
            have H' := Aside0.mk H
            clear H
            go_wp2
            go_meet
            case rel => exact ⟨_, (a0.extract 1 a0.size), ((-1)), (by first | rfl | (simp; done) | (simp [*]; done)), (by first | rfl | (simp; done) | (simp [*]; done)), H', ⟨by have := HJ1.out; first | omega | exact Nat.le_refl _⟩, ⟨by (with_reducible repeat (first | refine blk_drewN ?_ _ | refine blk_drew ?_ | refine blk_alloc ?_ _)); exact BK101.out⟩, ⟨by repeat (first | (with_reducible first | exact HB.out | apply below_alloc | apply pw_below_drewN | apply below_drew1 | refine below_set ?_ GE101.out) | exact HB.out)⟩⟩
          · rw [if_neg c9] at H
            exact absurd H (by simp)
        · replace c8 := Bool.eq_false_iff.mpr c8
          subst c8
          have H1 : (entrepotref02_Read.j1 kj1 a0 1) = some (r1, r2, r3) := by rw [if_neg (show ¬ (false = true) by decide)] at H; exact H
          clear H
          have H := H1
          clear H1
          have H' := Aside0.mk H
          clear H
          go_wp2
          go_meet
          case rel => exact ⟨_, (a0), (1), (by first | rfl | (simp; done) | (simp [*]; done)), (by first | rfl | (simp; done) | (simp [*]; done)), H', ⟨by have := HJ1.out; first | omega | exact Nat.le_refl _⟩, ⟨by (with_reducible repeat (first | refine blk_drewN ?_ _ | refine blk_drew ?_ | refine blk_alloc ?_ _)); exact BK101.out⟩, ⟨by repeat (first | (with_reducible first | exact HB.out | apply below_alloc | apply pw_below_drewN | apply below_drew1 | refine below_set ?_ GE101.out) | exact HB.out)⟩⟩
      case rest =>
        clear HC7
        try clear c1
        try clear p2
        try clear c4
        try clear c4b0
        try clear c4b1
        try clear c5
        try clear c5b0
        try clear c5b1
        try clear p6
        try clear q6
        try clear hx6
        try clear qi6
        try clear c8
        try clear c9
        try clear c9b0
        try clear c9b1
        try clear p2
        try clear p6
        try clear q6
        obtain ⟨kq, x0_6, x4_6, rfl, rfl, HA, HJ6, BK101, HB⟩ := hcut
        cases kq with
        | zero => exact absurd HA.out (by simp [entrepotref02_Read.j1])
        | succ kj6 =>
          have H := HA.out
          clear HA
          simp only [entrepotref02_Read.j1] at H
          have H' := Aside0.mk H
          clear H
          go_wp2
          (try simp only [Act.put, List.setIfInBounds_toArray, List.set_cons_zero, List.set_cons_succ])
          go_loopg [5, 6] kj6 (fun kq v5 v6 w' => ∃ (x5_3 : Int) (x6_3 : Int), v5 = .int .i64 x5_3 ∧ v6 = .int .i64 x6_3 ∧ Aside0 (entrepotref02_Read.l0 kq x0_6 x4_6 x5_3 x6_3 = some (r1, r2, r3)) ∧ Aside0 (kq ≤ kj6) ∧ Aside0 (w'.heap[gb101]? = some (.cells #[.int .i64 0, .int .i64 0] 30 (0, 0))) ∧ Aside0 (Below w.heap.size w w'))
          case atStart => exact ⟨((x0_6.size : Int)), (wrap64 ((x0_6.size : Int) - 1)), (by first | rfl | (simp; done) | (simp [*]; done)), (by first | rfl | (simp; done) | (simp [*]; done)), H', ⟨Nat.le_refl _⟩, ⟨by (with_reducible repeat (first | refine blk_drewN ?_ _ | refine blk_drew ?_ | refine blk_alloc ?_ _)); exact BK101.out⟩, ⟨by repeat (first | (with_reducible first | exact HB.out | apply below_alloc | apply pw_below_drewN | apply below_drew1 | refine below_set ?_ GE101.out) | exact HB.out)⟩⟩
          case round =>
            clear H'
            try clear c1
            try clear p2
            try clear c4
            try clear c4b0
            try clear c4b1
            try clear c5
            try clear c5b0
            try clear c5b1
            try clear p6
            try clear q6
            try clear hx6
            try clear qi6
            try clear c8
            try clear c9
            try clear c9b0
            try clear c9b1
            try clear p2
            try clear p6
            try clear q6
            obtain ⟨x5_3, x6_3, rfl, rfl, HA, HK3, BK101, HB⟩ := hrel
            cases gk with
            | zero => exact absurd HA.out (by simp [entrepotref02_Read.l0])
            | succ k3 =>
              have H := HA.out
              clear HA
              simp only [entrepotref02_Read.l0] at H
              by_cases c10 : x6_3 ≥ 0
              · rw [if_pos c10] at H
                have c10b0 : decide (0 ≤ x6_3) = true := decide_eq_true c10
                clear c10
                by_cases c11 : 0 ≤ x6_3
                · rw [if_pos c11] at H
                  have c11b0 : decide (0 ≤ x6_3) = true := decide_eq_true c11
                  clear c11
                  by_cases c12 : x6_3 < (x0_6.size : Int)
                  · rw [if_pos c12] at H
                    have c12b0 : decide (x6_3 < (x0_6.size : Int)) = true := decide_eq_true c12
                    clear c12
                    by_cases c14 : (bt x0_6 x6_3) = 46
                    · rw [if_pos c14] at H
                      have c14b0 : ((bt x0_6 x6_3) == 46) = true := beq_iff_eq.mpr c14
                      have c14b1 : ((bt x0_6 x6_3) != 46) = false := bne_eq_false_iff_eq.mpr c14
                      clear c14
                      have H' := Aside0.mk H
                      clear H
                      have p13 : 0 ≤ (x6_3 : Int) := of_decide_eq_true (by first | (with_reducible assumption) | assumption)
                      have q13 : x6_3 < (x0_6.size : Int) := of_decide_eq_true (by first | (with_reducible assumption) | assumption)
                      have hx13 := bt_at x0_6 x6_3
                      replace p13 := eq_true p13
                      replace q13 := eq_true q13
                      go_wp2
                      go_roundg k3
                      case measure => have := HJ1.out; have := HJ6.out; have := HK3.out; omega
                      case rel => exact ⟨(x6_3), (wrap64 (x6_3 - 1)), (by first | rfl | (simp; done) | (simp [*]; done)), (by first | rfl | (simp; done) | (simp [*]; done)), H', ⟨by have := HJ1.out; have := HJ6.out; have := HK3.out; omega⟩, ⟨by (with_reducible repeat (first | refine blk_drewN ?_ _ | refine blk_drew ?_ | refine blk_alloc ?_ _)); exact BK101.out⟩, ⟨by repeat (first | (with_reducible first | exact HB.out | apply below_alloc | apply pw_below_drewN | apply below_drew1 | refine below_set ?_ GE101.out) | exact HB.out)⟩⟩
                    · rw [if_neg c14] at H
                      have c14b0 : ((bt x0_6 x6_3) == 46) = false := beq_eq_false_iff_ne.mpr c14
                      have c14b1 : ((bt x0_6 x6_3) != 46) = true := bne_iff_ne.mpr c14
                      have H' := Aside0.mk H
                      clear H
                      have p13 : 0 ≤ (x6_3 : Int) := of_decide_eq_true (by first | (with_reducible assumption) | assumption)
                      have q13 : x6_3 < (x0_6.size : Int) := of_decide_eq_true (by first | (with_reducible assumption) | assumption)
                      have hx13 := bt_at x0_6 x6_3
                      replace p13 := eq_true p13
                      replace q13 := eq_true q13
                      go_wp2
                      go_roundg k3
                      case measure => have := HJ1.out; have := HJ6.out; have := HK3.out; omega
                      case rel => exact ⟨(x5_3), (wrap64 (x6_3 - 1)), (by first | rfl | (simp; done) | (simp [*]; done)), (by first | rfl | (simp; done) | (simp [*]; done)), H', ⟨by have := HJ1.out; have := HJ6.out; have := HK3.out; omega⟩, ⟨by (with_reducible repeat (first | refine blk_drewN ?_ _ | refine blk_drew ?_ | refine blk_alloc ?_ _)); exact BK101.out⟩, ⟨by repeat (first | (with_reducible first | exact HB.out | apply below_alloc | apply pw_below_drewN | apply below_drew1 | refine below_set ?_ GE101.out) | exact HB.out)⟩⟩
                  · rw [if_neg c12] at H
                    exact absurd H (by simp)
                · rw [if_neg c11] at H
                  exact absurd H (by simp)
              · rw [if_neg c10] at H
                have c10b0 : decide (0 ≤ x6_3) = false := decide_eq_false c10
                clear c10
                by_cases c15 : 0 ≤ x5_3
                · rw [if_pos c15] at H
                  have c15b0 := eq_true c15
                  have c15b1 : decide (0 ≤ x5_3) = true := decide_eq_true c15
                  clear c15
                  by_cases c16 : x5_3 ≤ (x0_6.size : Int)
                  · rw [if_pos c16] at H
                    have c16b0 := eq_true c16
                    have c16b1 : decide (x5_3 ≤ (x0_6.size : Int)) = true := decide_eq_true c16
                    clear c16
                    replace H := Option.bind_eq_some_iff.mp H
                    obtain ⟨⟨t102, t103⟩, A170, H⟩ := H
                    replace H : (if t103 = true then (if x5_3 < (x0_6.size : Int) then (if 0 ≤ (wrap64 (x5_3 + 1)) then (if (wrap64 (x5_3 + 1)) ≤ (x0_6.size : Int) then ((entrepotref02_digits.f k3 (x0_6.extract ((wrap64 (x5_3 + 1)) : Int).toNat x0_6.size) 6).bind fun bt104 => (if bt104.2 = true then ((entrepotref02_tens.f k3 (wrap64 ((wrap64 ((x0_6.size : Int) - x5_3)) - 1))).bind fun t106 => ((entrepotref02_Least.f k3 (wrap64 (x4_6 * (wrap64 ((wrap64 (t102 * t106)) + bt104.1)))) (wrap64 ((wrap64 ((x0_6.size : Int) - x5_3)) - 1))).bind fun bt107 => (if bt107.1 > 100000000 then (some (0, 0, 2)) else (if bt107.1 < (-100000000) then (some (0, 0, 2)) else (some (bt107.1, bt107.2, 0)))))) else (some (0, 0, 20)))) else (none)) else (none)) else ((entrepotref02_Least.f k3 (wrap64 (x4_6 * t102)) 0).bind fun bt110 => (if bt110.1 > 100000000 then (some (0, 0, 2)) else (if bt110.1 < (-100000000) then (some (0, 0, 2)) else (some (bt110.1, bt110.2, 0)))))) else (some (0, 0, 20))) = some (r1, r2, r3) := H
                    have A17 := Aside0.mk A170
                    clear A170
                    by_cases c18 : t103 = true
                    · subst c18
                      have H1 : (if x5_3 < (x0_6.size : Int) then (if 0 ≤ (wrap64 (x5_3 + 1)) then (if (wrap64 (x5_3 + 1)) ≤ (x0_6.size : Int) then ((entrepotref02_digits.f k3 (x0_6.extract ((wrap64 (x5_3 + 1)) : Int).toNat x0_6.size) 6).bind fun bt104 => (if bt104.2 = true then ((entrepotref02_tens.f k3 (wrap64 ((wrap64 ((x0_6.size : Int) - x5_3)) - 1))).bind fun t106 => ((entrepotref02_Least.f k3 (wrap64 (x4_6 * (wrap64 ((wrap64 (t102 * t106)) + bt104.1)))) (wrap64 ((wrap64 ((x0_6.size : Int) - x5_3)) - 1))).bind fun bt107 => (if bt107.1 > 100000000 then (some (0, 0, 2)) else (if bt107.1 < (-100000000) then (some (0, 0, 2)) else (some (bt107.1, bt107.2, 0)))))) else (some (0, 0, 20)))) else (none)) else (none)) else ((entrepotref02_Least.f k3 (wrap64 (x4_6 * t102)) 0).bind fun bt110 => (if bt110.1 > 100000000 then (some (0, 0, 2)) else (if bt110.1 < (-100000000) then (some (0, 0, 2)) else (some (bt110.1, bt110.2, 0)))))) = some (r1, r2, r3) := by rw [if_pos rfl] at H; exact H
                      clear H
                      have H := H1
                      clear H1
                      by_cases c19 : x5_3 < (x0_6.size : Int)
                      · rw [if_pos c19] at H
                        have c19b0 : decide (x5_3 < (x0_6.size : Int)) = true := decide_eq_true c19
                        clear c19
                        obtain ⟨ji20, hji20⟩ : ∃ j_ : Int, (wrap64 (x5_3 + 1)) = j_ := ⟨_, rfl⟩
                        replace H : (if 0 ≤ (ji20) then (if (ji20) ≤ (x0_6.size : Int) then ((entrepotref02_digits.f k3 (x0_6.extract ((ji20) : Int).toNat x0_6.size) 6).bind fun bt104 => (if bt104.2 = true then ((entrepotref02_tens.f k3 (wrap64 ((wrap64 ((x0_6.size : Int) - x5_3)) - 1))).bind fun t106 => ((entrepotref02_Least.f k3 (wrap64 (x4_6 * (wrap64 ((wrap64 (t102 * t106)) + bt104.1)))) (wrap64 ((wrap64 ((x0_6.size : Int) - x5_3)) - 1))).bind fun bt107 => (if bt107.1 > 100000000 then (some (0, 0, 2)) else (if bt107.1 < (-100000000) then (some (0, 0, 2)) else (some (bt107.1, bt107.2, 0)))))) else (some (0, 0, 20)))) else (none)) else (none)) = some (r1, r2, r3) := by first | (rw [hji20] at H; exact H) | (simp only [hji20] at H ⊢; exact H)
                        (try rw [hji20] at A17)
                        have hji20w : (IntKind.i64.wrap (x5_3 + 1)) = ji20 := (i64_w _).trans hji20
                        by_cases c21 : 0 ≤ (ji20)
                        · rw [if_pos c21] at H
                          have c21b0 := eq_true c21
                          have c21b1 : decide (0 ≤ (ji20)) = true := decide_eq_true c21
                          clear c21
                          by_cases c22 : (ji20) ≤ (x0_6.size : Int)
                          · rw [if_pos c22] at H
                            have c22b0 := eq_true c22
                            have c22b1 : decide ((ji20) ≤ (x0_6.size : Int)) = true := decide_eq_true c22
                            clear c22
                            replace H := Option.bind_eq_some_iff.mp H
                            obtain ⟨⟨t104, t105⟩, A230, H⟩ := H
                            replace H : (if t105 = true then ((entrepotref02_tens.f k3 (wrap64 ((wrap64 ((x0_6.size : Int) - x5_3)) - 1))).bind fun t106 => ((entrepotref02_Least.f k3 (wrap64 (x4_6 * (wrap64 ((wrap64 (t102 * t106)) + t104)))) (wrap64 ((wrap64 ((x0_6.size : Int) - x5_3)) - 1))).bind fun bt107 => (if bt107.1 > 100000000 then (some (0, 0, 2)) else (if bt107.1 < (-100000000) then (some (0, 0, 2)) else (some (bt107.1, bt107.2, 0)))))) else (some (0, 0, 20))) = some (r1, r2, r3) := H
                            have A23 := Aside0.mk A230
                            clear A230
                            by_cases c24 : t105 = true
                            · subst c24
                              have H1 : ((entrepotref02_tens.f k3 (wrap64 ((wrap64 ((x0_6.size : Int) - x5_3)) - 1))).bind fun t106 => ((entrepotref02_Least.f k3 (wrap64 (x4_6 * (wrap64 ((wrap64 (t102 * t106)) + t104)))) (wrap64 ((wrap64 ((x0_6.size : Int) - x5_3)) - 1))).bind fun bt107 => (if bt107.1 > 100000000 then (some (0, 0, 2)) else (if bt107.1 < (-100000000) then (some (0, 0, 2)) else (some (bt107.1, bt107.2, 0)))))) = some (r1, r2, r3) := by rw [if_pos rfl] at H; exact H
                              clear H
                              have H := H1
                              clear H1
                              replace H := Option.bind_eq_some_iff.mp H
                              obtain ⟨t106, A250, H⟩ := H
                              replace H : ((entrepotref02_Least.f k3 (wrap64 (x4_6 * (wrap64 ((wrap64 (t102 * t106)) + t104)))) (wrap64 ((wrap64 ((x0_6.size : Int) - x5_3)) - 1))).bind fun bt107 => (if bt107.1 > 100000000 then (some (0, 0, 2)) else (if bt107.1 < (-100000000) then (some (0, 0, 2)) else (some (bt107.1, bt107.2, 0))))) = some (r1, r2, r3) := H
                              have A25 := Aside0.mk A250
                              clear A250
                              replace H := Option.bind_eq_some_iff.mp H
                              obtain ⟨⟨t107, t108⟩, A260, H⟩ := H
                              replace H : (if t107 > 100000000 then (some (0, 0, 2)) else (if t107 < (-100000000) then (some (0, 0, 2)) else (some (t107, t108, 0)))) = some (r1, r2, r3) := H
                              have A26 := Aside0.mk A260
                              clear A260
                              by_cases c27 : t107 > 100000000
                              · rw [if_pos c27] at H
                                have c27b0 : decide (100000000 < t107) = true := decide_eq_true c27
                                clear c27
                                simp only [Option.some.injEq, Prod.mk.injEq] at H
                                obtain ⟨rfl, rfl, rfl⟩ := H
                                go_wp2_with (first | ((with_reducible refine gate_callee (f := 32) rfl ?_); refine goesL_ (some 40) rfl rfl Tryd.func32 (by kernel_rfl) rfl #[.string (x0_6.extract 0 (x5_3 : Int).toNat), .int .i64 12] rfl (by (try simp only [List.map_toArray, List.map_cons, List.map_nil]); first | done | rfl | (simp only [List.length_drop, List.length_take]; rfl)) ?_; (with_reducible refine (entrepotref02_digits.calls k3 (x0_6.extract 0 (x5_3 : Int).toNat) 12 t102 true _ A17.out).mono ?_); rintro e w' ⟨rfl, ⟨nd, rfl⟩⟩; refine ⟨_, rfl, ?_⟩; (try (rw [drewN_self wr]; generalize hq_ : World.drewN wr _ = wr; have n0_ : Aside0 (wr.heap[gb101]? = some (.cells #[.int .i64 0, .int .i64 0] 30 (0, 0))) := ⟨by rw [← hq_]; exact (by (with_reducible repeat (first | refine blk_drewN ?_ _ | refine blk_drew ?_ | refine blk_alloc ?_ _)); exact BK101.out)⟩; have n1_ : Aside0 (Below w.heap.size w wr) := ⟨by rw [← hq_]; exact (by repeat (first | (with_reducible first | exact HB.out | apply below_alloc | apply pw_below_drewN | apply below_drew1 | refine below_set ?_ GE101.out) | exact HB.out))⟩; clear BK101 HB hq_; have BK101 := n0_; have HB := n1_; clear n0_ n1_))) | ((with_reducible refine gate_callee (f := 32) rfl ?_); refine goesL_ (some 55) rfl rfl Tryd.func32 (by kernel_rfl) rfl #[.string (x0_6.extract ((ji20) : Int).toNat x0_6.size), .int .i64 6] rfl (by (try simp only [List.map_toArray, List.map_cons, List.map_nil]); first | done | (simp only [hji20]; rfl) | rfl | (simp only [List.length_drop, List.length_take]; rfl)) ?_; (with_reducible refine (entrepotref02_digits.calls k3 (x0_6.extract ((ji20) : Int).toNat x0_6.size) 6 t104 true _ A23.out).mono ?_); rintro e w' ⟨rfl, ⟨nd, rfl⟩⟩; refine ⟨_, rfl, ?_⟩; (try (rw [drewN_self wr]; generalize hq_ : World.drewN wr _ = wr; have n0_ : Aside0 (wr.heap[gb101]? = some (.cells #[.int .i64 0, .int .i64 0] 30 (0, 0))) := ⟨by rw [← hq_]; exact (by (with_reducible repeat (first | refine blk_drewN ?_ _ | refine blk_drew ?_ | refine blk_alloc ?_ _)); exact BK101.out)⟩; have n1_ : Aside0 (Below w.heap.size w wr) := ⟨by rw [← hq_]; exact (by repeat (first | (with_reducible first | exact HB.out | apply below_alloc | apply pw_below_drewN | apply below_drew1 | refine below_set ?_ GE101.out) | exact HB.out))⟩; clear BK101 HB hq_; have BK101 := n0_; have HB := n1_; clear n0_ n1_))) | ((with_reducible refine gate_callee (f := 34) rfl ?_); refine goesL_ (some 68) rfl rfl Tryd.func34 (by kernel_rfl) rfl #[.int .i64 (wrap64 ((wrap64 ((x0_6.size : Int) - x5_3)) - 1))] rfl (by (try simp only [List.map_toArray, List.map_cons, List.map_nil]); first | done | rfl | (simp only [List.length_drop, List.length_take]; rfl)) ?_; (with_reducible refine (entrepotref02_tens.calls k3 (wrap64 ((wrap64 ((x0_6.size : Int) - x5_3)) - 1)) t106 _ A25.out).mono ?_); rintro e w' ⟨rfl, ⟨nd, rfl⟩⟩; refine ⟨_, rfl, ?_⟩; (try (rw [drewN_self wr]; generalize hq_ : World.drewN wr _ = wr; have n0_ : Aside0 (wr.heap[gb101]? = some (.cells #[.int .i64 0, .int .i64 0] 30 (0, 0))) := ⟨by rw [← hq_]; exact (by (with_reducible repeat (first | refine blk_drewN ?_ _ | refine blk_drew ?_ | refine blk_alloc ?_ _)); exact BK101.out)⟩; have n1_ : Aside0 (Below w.heap.size w wr) := ⟨by rw [← hq_]; exact (by repeat (first | (with_reducible first | exact HB.out | apply below_alloc | apply pw_below_drewN | apply below_drew1 | refine below_set ?_ GE101.out) | exact HB.out))⟩; clear BK101 HB hq_; have BK101 := n0_; have HB := n1_; clear n0_ n1_))) | ((with_reducible refine gate_callee (f := 19) rfl ?_); refine goesL_ (some 77) rfl rfl Tryd.func19 (by kernel_rfl) rfl #[.agg #[.int .i64 (wrap64 (x4_6 * (wrap64 ((wrap64 (t102 * t106)) + t104)))), .int .i64 (wrap64 ((wrap64 ((x0_6.size : Int) - x5_3)) - 1))]] rfl (by (try simp only [List.map_toArray, List.map_cons, List.map_nil]); first | done | rfl | (simp only [List.length_drop, List.length_take]; rfl)) ?_; (with_reducible refine (entrepotref02_Least.calls k3 (wrap64 (x4_6 * (wrap64 ((wrap64 (t102 * t106)) + t104)))) (wrap64 ((wrap64 ((x0_6.size : Int) - x5_3)) - 1)) t107 t108 _ A26.out).mono ?_); rintro e w28 ⟨rfl, hb⟩; refine ⟨_, rfl, ?_⟩; have n0_ := Aside0.mk (blk_below (g := gb101) (o := .cells #[.int .i64 0, .int .i64 0] 30 (0, 0)) (by (with_reducible repeat (first | refine blk_drewN ?_ _ | refine blk_drew ?_ | refine blk_alloc ?_ _)); exact BK101.out) hb); have n1_ := Aside0.mk (below_step (by repeat (first | (with_reducible first | exact HB.out | apply below_alloc | apply pw_below_drewN | apply below_drew1 | refine below_set ?_ GE101.out) | exact HB.out)) hb); clear BK101; clear HB; have BK101 := n0_; have HB := n1_; clear n0_ n1_; (try clear hb); (try clear hb2); (try clear hk); (try clear hi)) | ((with_reducible refine gate_dst (N := 12) rfl ?_); refine box_event ?hg (N := 12) ?hd (cs := #[.int .i64 0, .int .i64 0]) (t := 30) ?hr ?_; (case hd => rfl); (case hg => rfl); (case hr => first | (go_simp; done) | (go_simp; rfl)); intro gb109 hg w29 hbox hb; have n0_ := Aside0.mk (blk_below (g := gb101) (o := .cells #[.int .i64 0, .int .i64 0] 30 (0, 0)) (by (with_reducible repeat (first | refine blk_drewN ?_ _ | refine blk_drew ?_ | refine blk_alloc ?_ _)); exact BK101.out) hb); have n1_ := Aside0.mk (below_step (by repeat (first | (with_reducible first | exact HB.out | apply below_alloc | apply pw_below_drewN | apply below_drew1 | refine below_set ?_ GE101.out) | exact HB.out)) hb); have n2_ := Aside0.mk (hbox); have n3_ := Aside0.mk ((by rw [hg]; exact (below_size (by repeat (first | (with_reducible first | exact HB.out | apply below_alloc | apply pw_below_drewN | apply below_drew1 | refine below_set ?_ GE101.out) | exact HB.out))) : w.heap.size ≤ gb109)); have n4_ := Aside0.mk ((by rw [hg]; exact (below_size (by repeat (first | (with_reducible first | exact HB.out | apply below_alloc | apply pw_below_drewN | apply below_drew1 | refine below_set ?_ GE101.out) | exact HB.out))) : w.heap.size ≤ gb109)); have n5_ := Aside0.mk ((by rw [hg]; exact Nat.ne_of_lt (blk_lt (g := gb101) (o := .cells #[.int .i64 0, .int .i64 0] 30 (0, 0)) (by (with_reducible repeat (first | refine blk_drewN ?_ _ | refine blk_drew ?_ | refine blk_alloc ?_ _)); exact BK101.out)) : gb101 ≠ gb109)); have n6_ := Aside0.mk ((by rw [hg]; exact Nat.ne_of_gt (blk_lt (g := gb101) (o := .cells #[.int .i64 0, .int .i64 0] 30 (0, 0)) (by (with_reducible repeat (first | refine blk_drewN ?_ _ | refine blk_drew ?_ | refine blk_alloc ?_ _)); exact BK101.out)) : gb109 ≠ gb101)); clear BK101; clear HB; have BK101 := n0_; have HB := n1_; have BK109 := n2_; have GW109 := n3_; have GE109 := n4_; have NB101_109 := n5_; have NB109_101 := n6_; clear n0_ n1_ n2_ n3_ n4_ n5_ n6_; clear hb hbox hg; have hnb30 := NB109_101.out; have hnc30 := NB101_109.out; have hcz31_0 : w29.cell? ⟨gb109, 0, none⟩ = some (.int .i64 0) := (blk_cell BK109.out 0).trans rfl; have hcz31_1 : w29.cell? ⟨gb109, 1, none⟩ = some (.int .i64 0) := (blk_cell BK109.out 1).trans rfl; have hfz31_0 := blk_frozen BK109.out 0; have hfz31_1 := blk_frozen BK109.out 1; have hcz32_0 : w29.cell? ⟨gb101, 0, none⟩ = some (.int .i64 0) := (blk_cell BK101.out 0).trans rfl; have hcz32_1 : w29.cell? ⟨gb101, 1, none⟩ = some (.int .i64 0) := (blk_cell BK101.out 1).trans rfl; have hfz32_0 := blk_frozen BK101.out 0; have hfz32_1 := blk_frozen BK101.out 1))
                                refine bodyPost_ret (results_ct rfl _ _ gb101 30 #[.int .i64 0, .int .i64 0] (0, 0) _ rfl (by (with_reducible repeat (first | refine blk_drewN ?_ _ | refine blk_drew ?_ | refine blk_alloc ?_ _)); refine blk_put (cs := #[.int .i64 0, .int .i64 0]) ?_ 1 _ rfl; (with_reducible repeat (first | refine blk_drewN ?_ _ | refine blk_drew ?_ | refine blk_alloc ?_ _)); refine blk_put (cs := #[.int .i64 0, .int .i64 0]) ?_ 0 _ rfl; (with_reducible repeat (first | refine blk_drewN ?_ _ | refine blk_drew ?_ | refine blk_alloc ?_ _)); refine blk_far ?_ NB101_109.out _; (with_reducible repeat (first | refine blk_drewN ?_ _ | refine blk_drew ?_ | refine blk_alloc ?_ _)); refine blk_far ?_ NB101_109.out _; (with_reducible repeat (first | refine blk_drewN ?_ _ | refine blk_drew ?_ | refine blk_alloc ?_ _)); exact BK101.out) Tryd.underlying30 rfl (by kernel_rfl)) rfl ?_
                                exact ⟨by first | rfl | (simp [errW_none, errW_some] <;> rfl) | (simp only [← hji20]; first | rfl | (simp [errW_none, errW_some] <;> rfl)) | (simp [*, errW_none, errW_some] <;> rfl), by repeat (first | (with_reducible first | exact HB.out | apply below_alloc | apply pw_below_drewN | apply below_drew1 | refine below_set ?_ GE101.out | refine below_set ?_ GE109.out) | exact HB.out)⟩
                              · rw [if_neg c27] at H
                                have c27b0 : decide (100000000 < t107) = false := decide_eq_false c27
                                clear c27
                                by_cases c33 : t107 < (-100000000)
                                · rw [if_pos c33] at H
                                  have c33b0 : decide (t107 < (-100000000)) = true := decide_eq_true c33
                                  clear c33
                                  simp only [Option.some.injEq, Prod.mk.injEq] at H
                                  obtain ⟨rfl, rfl, rfl⟩ := H
                                  go_wp2_with (first | ((with_reducible refine gate_callee (f := 32) rfl ?_); refine goesL_ (some 40) rfl rfl Tryd.func32 (by kernel_rfl) rfl #[.string (x0_6.extract 0 (x5_3 : Int).toNat), .int .i64 12] rfl (by (try simp only [List.map_toArray, List.map_cons, List.map_nil]); first | done | rfl | (simp only [List.length_drop, List.length_take]; rfl)) ?_; (with_reducible refine (entrepotref02_digits.calls k3 (x0_6.extract 0 (x5_3 : Int).toNat) 12 t102 true _ A17.out).mono ?_); rintro e w' ⟨rfl, ⟨nd, rfl⟩⟩; refine ⟨_, rfl, ?_⟩; (try (rw [drewN_self wr]; generalize hq_ : World.drewN wr _ = wr; have n0_ : Aside0 (wr.heap[gb101]? = some (.cells #[.int .i64 0, .int .i64 0] 30 (0, 0))) := ⟨by rw [← hq_]; exact (by (with_reducible repeat (first | refine blk_drewN ?_ _ | refine blk_drew ?_ | refine blk_alloc ?_ _)); exact BK101.out)⟩; have n1_ : Aside0 (Below w.heap.size w wr) := ⟨by rw [← hq_]; exact (by repeat (first | (with_reducible first | exact HB.out | apply below_alloc | apply pw_below_drewN | apply below_drew1 | refine below_set ?_ GE101.out) | exact HB.out))⟩; clear BK101 HB hq_; have BK101 := n0_; have HB := n1_; clear n0_ n1_))) | ((with_reducible refine gate_callee (f := 32) rfl ?_); refine goesL_ (some 55) rfl rfl Tryd.func32 (by kernel_rfl) rfl #[.string (x0_6.extract ((ji20) : Int).toNat x0_6.size), .int .i64 6] rfl (by (try simp only [List.map_toArray, List.map_cons, List.map_nil]); first | done | (simp only [hji20]; rfl) | rfl | (simp only [List.length_drop, List.length_take]; rfl)) ?_; (with_reducible refine (entrepotref02_digits.calls k3 (x0_6.extract ((ji20) : Int).toNat x0_6.size) 6 t104 true _ A23.out).mono ?_); rintro e w' ⟨rfl, ⟨nd, rfl⟩⟩; refine ⟨_, rfl, ?_⟩; (try (rw [drewN_self wr]; generalize hq_ : World.drewN wr _ = wr; have n0_ : Aside0 (wr.heap[gb101]? = some (.cells #[.int .i64 0, .int .i64 0] 30 (0, 0))) := ⟨by rw [← hq_]; exact (by (with_reducible repeat (first | refine blk_drewN ?_ _ | refine blk_drew ?_ | refine blk_alloc ?_ _)); exact BK101.out)⟩; have n1_ : Aside0 (Below w.heap.size w wr) := ⟨by rw [← hq_]; exact (by repeat (first | (with_reducible first | exact HB.out | apply below_alloc | apply pw_below_drewN | apply below_drew1 | refine below_set ?_ GE101.out) | exact HB.out))⟩; clear BK101 HB hq_; have BK101 := n0_; have HB := n1_; clear n0_ n1_))) | ((with_reducible refine gate_callee (f := 34) rfl ?_); refine goesL_ (some 68) rfl rfl Tryd.func34 (by kernel_rfl) rfl #[.int .i64 (wrap64 ((wrap64 ((x0_6.size : Int) - x5_3)) - 1))] rfl (by (try simp only [List.map_toArray, List.map_cons, List.map_nil]); first | done | rfl | (simp only [List.length_drop, List.length_take]; rfl)) ?_; (with_reducible refine (entrepotref02_tens.calls k3 (wrap64 ((wrap64 ((x0_6.size : Int) - x5_3)) - 1)) t106 _ A25.out).mono ?_); rintro e w' ⟨rfl, ⟨nd, rfl⟩⟩; refine ⟨_, rfl, ?_⟩; (try (rw [drewN_self wr]; generalize hq_ : World.drewN wr _ = wr; have n0_ : Aside0 (wr.heap[gb101]? = some (.cells #[.int .i64 0, .int .i64 0] 30 (0, 0))) := ⟨by rw [← hq_]; exact (by (with_reducible repeat (first | refine blk_drewN ?_ _ | refine blk_drew ?_ | refine blk_alloc ?_ _)); exact BK101.out)⟩; have n1_ : Aside0 (Below w.heap.size w wr) := ⟨by rw [← hq_]; exact (by repeat (first | (with_reducible first | exact HB.out | apply below_alloc | apply pw_below_drewN | apply below_drew1 | refine below_set ?_ GE101.out) | exact HB.out))⟩; clear BK101 HB hq_; have BK101 := n0_; have HB := n1_; clear n0_ n1_))) | ((with_reducible refine gate_callee (f := 19) rfl ?_); refine goesL_ (some 77) rfl rfl Tryd.func19 (by kernel_rfl) rfl #[.agg #[.int .i64 (wrap64 (x4_6 * (wrap64 ((wrap64 (t102 * t106)) + t104)))), .int .i64 (wrap64 ((wrap64 ((x0_6.size : Int) - x5_3)) - 1))]] rfl (by (try simp only [List.map_toArray, List.map_cons, List.map_nil]); first | done | rfl | (simp only [List.length_drop, List.length_take]; rfl)) ?_; (with_reducible refine (entrepotref02_Least.calls k3 (wrap64 (x4_6 * (wrap64 ((wrap64 (t102 * t106)) + t104)))) (wrap64 ((wrap64 ((x0_6.size : Int) - x5_3)) - 1)) t107 t108 _ A26.out).mono ?_); rintro e w34 ⟨rfl, hb⟩; refine ⟨_, rfl, ?_⟩; have n0_ := Aside0.mk (blk_below (g := gb101) (o := .cells #[.int .i64 0, .int .i64 0] 30 (0, 0)) (by (with_reducible repeat (first | refine blk_drewN ?_ _ | refine blk_drew ?_ | refine blk_alloc ?_ _)); exact BK101.out) hb); have n1_ := Aside0.mk (below_step (by repeat (first | (with_reducible first | exact HB.out | apply below_alloc | apply pw_below_drewN | apply below_drew1 | refine below_set ?_ GE101.out) | exact HB.out)) hb); clear BK101; clear HB; have BK101 := n0_; have HB := n1_; clear n0_ n1_; (try clear hb); (try clear hb2); (try clear hk); (try clear hi)) | ((with_reducible refine gate_dst (N := 12) rfl ?_); refine box_event ?hg (N := 12) ?hd (cs := #[.int .i64 0, .int .i64 0]) (t := 30) ?hr ?_; (case hd => rfl); (case hg => rfl); (case hr => first | (go_simp; done) | (go_simp; rfl)); intro gb109 hg w35 hbox hb; have n0_ := Aside0.mk (blk_below (g := gb101) (o := .cells #[.int .i64 0, .int .i64 0] 30 (0, 0)) (by (with_reducible repeat (first | refine blk_drewN ?_ _ | refine blk_drew ?_ | refine blk_alloc ?_ _)); exact BK101.out) hb); have n1_ := Aside0.mk (below_step (by repeat (first | (with_reducible first | exact HB.out | apply below_alloc | apply pw_below_drewN | apply below_drew1 | refine below_set ?_ GE101.out) | exact HB.out)) hb); have n2_ := Aside0.mk (hbox); have n3_ := Aside0.mk ((by rw [hg]; exact (below_size (by repeat (first | (with_reducible first | exact HB.out | apply below_alloc | apply pw_below_drewN | apply below_drew1 | refine below_set ?_ GE101.out) | exact HB.out))) : w.heap.size ≤ gb109)); have n4_ := Aside0.mk ((by rw [hg]; exact (below_size (by repeat (first | (with_reducible first | exact HB.out | apply below_alloc | apply pw_below_drewN | apply below_drew1 | refine below_set ?_ GE101.out) | exact HB.out))) : w.heap.size ≤ gb109)); have n5_ := Aside0.mk ((by rw [hg]; exact Nat.ne_of_lt (blk_lt (g := gb101) (o := .cells #[.int .i64 0, .int .i64 0] 30 (0, 0)) (by (with_reducible repeat (first | refine blk_drewN ?_ _ | refine blk_drew ?_ | refine blk_alloc ?_ _)); exact BK101.out)) : gb101 ≠ gb109)); have n6_ := Aside0.mk ((by rw [hg]; exact Nat.ne_of_gt (blk_lt (g := gb101) (o := .cells #[.int .i64 0, .int .i64 0] 30 (0, 0)) (by (with_reducible repeat (first | refine blk_drewN ?_ _ | refine blk_drew ?_ | refine blk_alloc ?_ _)); exact BK101.out)) : gb109 ≠ gb101)); clear BK101; clear HB; have BK101 := n0_; have HB := n1_; have BK109 := n2_; have GW109 := n3_; have GE109 := n4_; have NB101_109 := n5_; have NB109_101 := n6_; clear n0_ n1_ n2_ n3_ n4_ n5_ n6_; clear hb hbox hg; have hnb36 := NB109_101.out; have hnc36 := NB101_109.out; have hcz37_0 : w35.cell? ⟨gb109, 0, none⟩ = some (.int .i64 0) := (blk_cell BK109.out 0).trans rfl; have hcz37_1 : w35.cell? ⟨gb109, 1, none⟩ = some (.int .i64 0) := (blk_cell BK109.out 1).trans rfl; have hfz37_0 := blk_frozen BK109.out 0; have hfz37_1 := blk_frozen BK109.out 1; have hcz38_0 : w35.cell? ⟨gb101, 0, none⟩ = some (.int .i64 0) := (blk_cell BK101.out 0).trans rfl; have hcz38_1 : w35.cell? ⟨gb101, 1, none⟩ = some (.int .i64 0) := (blk_cell BK101.out 1).trans rfl; have hfz38_0 := blk_frozen BK101.out 0; have hfz38_1 := blk_frozen BK101.out 1))
                                  refine bodyPost_ret (results_ct rfl _ _ gb101 30 #[.int .i64 0, .int .i64 0] (0, 0) _ rfl (by (with_reducible repeat (first | refine blk_drewN ?_ _ | refine blk_drew ?_ | refine blk_alloc ?_ _)); refine blk_put (cs := #[.int .i64 0, .int .i64 0]) ?_ 1 _ rfl; (with_reducible repeat (first | refine blk_drewN ?_ _ | refine blk_drew ?_ | refine blk_alloc ?_ _)); refine blk_put (cs := #[.int .i64 0, .int .i64 0]) ?_ 0 _ rfl; (with_reducible repeat (first | refine blk_drewN ?_ _ | refine blk_drew ?_ | refine blk_alloc ?_ _)); refine blk_far ?_ NB101_109.out _; (with_reducible repeat (first | refine blk_drewN ?_ _ | refine blk_drew ?_ | refine blk_alloc ?_ _)); refine blk_far ?_ NB101_109.out _; (with_reducible repeat (first | refine blk_drewN ?_ _ | refine blk_drew ?_ | refine blk_alloc ?_ _)); exact BK101.out) Tryd.underlying30 rfl (by kernel_rfl)) rfl ?_
                                  exact ⟨by first | rfl | (simp [errW_none, errW_some] <;> rfl) | (simp only [← hji20]; first | rfl | (simp [errW_none, errW_some] <;> rfl)) | (simp [*, errW_none, errW_some] <;> rfl), by repeat (first | (with_reducible first | exact HB.out | apply below_alloc | apply pw_below_drewN | apply below_drew1 | refine below_set ?_ GE101.out | refine below_set ?_ GE109.out) | exact HB.out)⟩
                                · rw [if_neg c33] at H
                                  have c33b0 : decide (t107 < (-100000000)) = false := decide_eq_false c33
                                  clear c33
                                  simp only [Option.some.injEq, Prod.mk.injEq] at H
                                  obtain ⟨rfl, rfl, rfl⟩ := H
                                  go_wp2_with (first | ((with_reducible refine gate_callee (f := 32) rfl ?_); refine goesL_ (some 40) rfl rfl Tryd.func32 (by kernel_rfl) rfl #[.string (x0_6.extract 0 (x5_3 : Int).toNat), .int .i64 12] rfl (by (try simp only [List.map_toArray, List.map_cons, List.map_nil]); first | done | rfl | (simp only [List.length_drop, List.length_take]; rfl)) ?_; (with_reducible refine (entrepotref02_digits.calls k3 (x0_6.extract 0 (x5_3 : Int).toNat) 12 t102 true _ A17.out).mono ?_); rintro e w' ⟨rfl, ⟨nd, rfl⟩⟩; refine ⟨_, rfl, ?_⟩; (try (rw [drewN_self wr]; generalize hq_ : World.drewN wr _ = wr; have n0_ : Aside0 (wr.heap[gb101]? = some (.cells #[.int .i64 0, .int .i64 0] 30 (0, 0))) := ⟨by rw [← hq_]; exact (by (with_reducible repeat (first | refine blk_drewN ?_ _ | refine blk_drew ?_ | refine blk_alloc ?_ _)); exact BK101.out)⟩; have n1_ : Aside0 (Below w.heap.size w wr) := ⟨by rw [← hq_]; exact (by repeat (first | (with_reducible first | exact HB.out | apply below_alloc | apply pw_below_drewN | apply below_drew1 | refine below_set ?_ GE101.out) | exact HB.out))⟩; clear BK101 HB hq_; have BK101 := n0_; have HB := n1_; clear n0_ n1_))) | ((with_reducible refine gate_callee (f := 32) rfl ?_); refine goesL_ (some 55) rfl rfl Tryd.func32 (by kernel_rfl) rfl #[.string (x0_6.extract ((ji20) : Int).toNat x0_6.size), .int .i64 6] rfl (by (try simp only [List.map_toArray, List.map_cons, List.map_nil]); first | done | (simp only [hji20]; rfl) | rfl | (simp only [List.length_drop, List.length_take]; rfl)) ?_; (with_reducible refine (entrepotref02_digits.calls k3 (x0_6.extract ((ji20) : Int).toNat x0_6.size) 6 t104 true _ A23.out).mono ?_); rintro e w' ⟨rfl, ⟨nd, rfl⟩⟩; refine ⟨_, rfl, ?_⟩; (try (rw [drewN_self wr]; generalize hq_ : World.drewN wr _ = wr; have n0_ : Aside0 (wr.heap[gb101]? = some (.cells #[.int .i64 0, .int .i64 0] 30 (0, 0))) := ⟨by rw [← hq_]; exact (by (with_reducible repeat (first | refine blk_drewN ?_ _ | refine blk_drew ?_ | refine blk_alloc ?_ _)); exact BK101.out)⟩; have n1_ : Aside0 (Below w.heap.size w wr) := ⟨by rw [← hq_]; exact (by repeat (first | (with_reducible first | exact HB.out | apply below_alloc | apply pw_below_drewN | apply below_drew1 | refine below_set ?_ GE101.out) | exact HB.out))⟩; clear BK101 HB hq_; have BK101 := n0_; have HB := n1_; clear n0_ n1_))) | ((with_reducible refine gate_callee (f := 34) rfl ?_); refine goesL_ (some 68) rfl rfl Tryd.func34 (by kernel_rfl) rfl #[.int .i64 (wrap64 ((wrap64 ((x0_6.size : Int) - x5_3)) - 1))] rfl (by (try simp only [List.map_toArray, List.map_cons, List.map_nil]); first | done | rfl | (simp only [List.length_drop, List.length_take]; rfl)) ?_; (with_reducible refine (entrepotref02_tens.calls k3 (wrap64 ((wrap64 ((x0_6.size : Int) - x5_3)) - 1)) t106 _ A25.out).mono ?_); rintro e w' ⟨rfl, ⟨nd, rfl⟩⟩; refine ⟨_, rfl, ?_⟩; (try (rw [drewN_self wr]; generalize hq_ : World.drewN wr _ = wr; have n0_ : Aside0 (wr.heap[gb101]? = some (.cells #[.int .i64 0, .int .i64 0] 30 (0, 0))) := ⟨by rw [← hq_]; exact (by (with_reducible repeat (first | refine blk_drewN ?_ _ | refine blk_drew ?_ | refine blk_alloc ?_ _)); exact BK101.out)⟩; have n1_ : Aside0 (Below w.heap.size w wr) := ⟨by rw [← hq_]; exact (by repeat (first | (with_reducible first | exact HB.out | apply below_alloc | apply pw_below_drewN | apply below_drew1 | refine below_set ?_ GE101.out) | exact HB.out))⟩; clear BK101 HB hq_; have BK101 := n0_; have HB := n1_; clear n0_ n1_))) | ((with_reducible refine gate_callee (f := 19) rfl ?_); refine goesL_ (some 77) rfl rfl Tryd.func19 (by kernel_rfl) rfl #[.agg #[.int .i64 (wrap64 (x4_6 * (wrap64 ((wrap64 (t102 * t106)) + t104)))), .int .i64 (wrap64 ((wrap64 ((x0_6.size : Int) - x5_3)) - 1))]] rfl (by (try simp only [List.map_toArray, List.map_cons, List.map_nil]); first | done | rfl | (simp only [List.length_drop, List.length_take]; rfl)) ?_; (with_reducible refine (entrepotref02_Least.calls k3 (wrap64 (x4_6 * (wrap64 ((wrap64 (t102 * t106)) + t104)))) (wrap64 ((wrap64 ((x0_6.size : Int) - x5_3)) - 1)) t107 t108 _ A26.out).mono ?_); rintro e w39 ⟨rfl, hb⟩; refine ⟨_, rfl, ?_⟩; have n0_ := Aside0.mk (blk_below (g := gb101) (o := .cells #[.int .i64 0, .int .i64 0] 30 (0, 0)) (by (with_reducible repeat (first | refine blk_drewN ?_ _ | refine blk_drew ?_ | refine blk_alloc ?_ _)); exact BK101.out) hb); have n1_ := Aside0.mk (below_step (by repeat (first | (with_reducible first | exact HB.out | apply below_alloc | apply pw_below_drewN | apply below_drew1 | refine below_set ?_ GE101.out) | exact HB.out)) hb); clear BK101; clear HB; have BK101 := n0_; have HB := n1_; clear n0_ n1_; (try clear hb); (try clear hb2); (try clear hk); (try clear hi)) | ((with_reducible refine gate_dst (N := 12) rfl ?_); refine box_event ?hg (N := 12) ?hd (cs := #[.int .i64 0, .int .i64 0]) (t := 30) ?hr ?_; (case hd => rfl); (case hg => rfl); (case hr => first | (go_simp; done) | (go_simp; rfl)); intro gb109 hg w40 hbox hb; have n0_ := Aside0.mk (blk_below (g := gb101) (o := .cells #[.int .i64 0, .int .i64 0] 30 (0, 0)) (by (with_reducible repeat (first | refine blk_drewN ?_ _ | refine blk_drew ?_ | refine blk_alloc ?_ _)); exact BK101.out) hb); have n1_ := Aside0.mk (below_step (by repeat (first | (with_reducible first | exact HB.out | apply below_alloc | apply pw_below_drewN | apply below_drew1 | refine below_set ?_ GE101.out) | exact HB.out)) hb); have n2_ := Aside0.mk (hbox); have n3_ := Aside0.mk ((by rw [hg]; exact (below_size (by repeat (first | (with_reducible first | exact HB.out | apply below_alloc | apply pw_below_drewN | apply below_drew1 | refine below_set ?_ GE101.out) | exact HB.out))) : w.heap.size ≤ gb109)); have n4_ := Aside0.mk ((by rw [hg]; exact (below_size (by repeat (first | (with_reducible first | exact HB.out | apply below_alloc | apply pw_below_drewN | apply below_drew1 | refine below_set ?_ GE101.out) | exact HB.out))) : w.heap.size ≤ gb109)); have n5_ := Aside0.mk ((by rw [hg]; exact Nat.ne_of_lt (blk_lt (g := gb101) (o := .cells #[.int .i64 0, .int .i64 0] 30 (0, 0)) (by (with_reducible repeat (first | refine blk_drewN ?_ _ | refine blk_drew ?_ | refine blk_alloc ?_ _)); exact BK101.out)) : gb101 ≠ gb109)); have n6_ := Aside0.mk ((by rw [hg]; exact Nat.ne_of_gt (blk_lt (g := gb101) (o := .cells #[.int .i64 0, .int .i64 0] 30 (0, 0)) (by (with_reducible repeat (first | refine blk_drewN ?_ _ | refine blk_drew ?_ | refine blk_alloc ?_ _)); exact BK101.out)) : gb109 ≠ gb101)); clear BK101; clear HB; have BK101 := n0_; have HB := n1_; have BK109 := n2_; have GW109 := n3_; have GE109 := n4_; have NB101_109 := n5_; have NB109_101 := n6_; clear n0_ n1_ n2_ n3_ n4_ n5_ n6_; clear hb hbox hg; have hnb41 := NB109_101.out; have hnc41 := NB101_109.out; have hcz42_0 : w40.cell? ⟨gb109, 0, none⟩ = some (.int .i64 0) := (blk_cell BK109.out 0).trans rfl; have hcz42_1 : w40.cell? ⟨gb109, 1, none⟩ = some (.int .i64 0) := (blk_cell BK109.out 1).trans rfl; have hfz42_0 := blk_frozen BK109.out 0; have hfz42_1 := blk_frozen BK109.out 1; have hcz43_0 : w40.cell? ⟨gb101, 0, none⟩ = some (.int .i64 0) := (blk_cell BK101.out 0).trans rfl; have hcz43_1 : w40.cell? ⟨gb101, 1, none⟩ = some (.int .i64 0) := (blk_cell BK101.out 1).trans rfl; have hfz43_0 := blk_frozen BK101.out 0; have hfz43_1 := blk_frozen BK101.out 1))
                                  refine bodyPost_ret (results_ct rfl _ _ gb101 30 #[.int .i64 t107, .int .i64 t108] (0, 0) _ rfl (by (with_reducible repeat (first | refine blk_drewN ?_ _ | refine blk_drew ?_ | refine blk_alloc ?_ _)); refine blk_put (cs := #[.int .i64 t107, .int .i64 0]) ?_ 1 _ rfl; (with_reducible repeat (first | refine blk_drewN ?_ _ | refine blk_drew ?_ | refine blk_alloc ?_ _)); refine blk_put (cs := #[.int .i64 0, .int .i64 0]) ?_ 0 _ rfl; (with_reducible repeat (first | refine blk_drewN ?_ _ | refine blk_drew ?_ | refine blk_alloc ?_ _)); refine blk_far ?_ NB101_109.out _; (with_reducible repeat (first | refine blk_drewN ?_ _ | refine blk_drew ?_ | refine blk_alloc ?_ _)); refine blk_far ?_ NB101_109.out _; (with_reducible repeat (first | refine blk_drewN ?_ _ | refine blk_drew ?_ | refine blk_alloc ?_ _)); exact BK101.out) Tryd.underlying30 rfl (by kernel_rfl)) rfl ?_
                                  exact ⟨by first | rfl | (simp [errW_none, errW_some] <;> rfl) | (simp only [← hji20]; first | rfl | (simp [errW_none, errW_some] <;> rfl)) | (simp [*, errW_none, errW_some] <;> rfl), by repeat (first | (with_reducible first | exact HB.out | apply below_alloc | apply pw_below_drewN | apply below_drew1 | refine below_set ?_ GE101.out | refine below_set ?_ GE109.out) | exact HB.out)⟩
                            · replace c24 := Bool.eq_false_iff.mpr c24
                              subst c24
                              have H1 : (some (0, 0, 20)) = some (r1, r2, r3) := by rw [if_neg (show ¬ (false = true) by decide)] at H; exact H
                              clear H
                              have H := H1
                              clear H1
                              simp only [Option.some.injEq, Prod.mk.injEq] at H
                              obtain ⟨rfl, rfl, rfl⟩ := H
                              go_wp2_with (first | ((with_reducible refine gate_callee (f := 32) rfl ?_); refine goesL_ (some 40) rfl rfl Tryd.func32 (by kernel_rfl) rfl #[.string (x0_6.extract 0 (x5_3 : Int).toNat), .int .i64 12] rfl (by (try simp only [List.map_toArray, List.map_cons, List.map_nil]); first | done | rfl | (simp only [List.length_drop, List.length_take]; rfl)) ?_; (with_reducible refine (entrepotref02_digits.calls k3 (x0_6.extract 0 (x5_3 : Int).toNat) 12 t102 true _ A17.out).mono ?_); rintro e w' ⟨rfl, ⟨nd, rfl⟩⟩; refine ⟨_, rfl, ?_⟩; (try (rw [drewN_self wr]; generalize hq_ : World.drewN wr _ = wr; have n0_ : Aside0 (wr.heap[gb101]? = some (.cells #[.int .i64 0, .int .i64 0] 30 (0, 0))) := ⟨by rw [← hq_]; exact (by (with_reducible repeat (first | refine blk_drewN ?_ _ | refine blk_drew ?_ | refine blk_alloc ?_ _)); exact BK101.out)⟩; have n1_ : Aside0 (Below w.heap.size w wr) := ⟨by rw [← hq_]; exact (by repeat (first | (with_reducible first | exact HB.out | apply below_alloc | apply pw_below_drewN | apply below_drew1 | refine below_set ?_ GE101.out) | exact HB.out))⟩; clear BK101 HB hq_; have BK101 := n0_; have HB := n1_; clear n0_ n1_))) | ((with_reducible refine gate_callee (f := 32) rfl ?_); refine goesL_ (some 55) rfl rfl Tryd.func32 (by kernel_rfl) rfl #[.string (x0_6.extract ((ji20) : Int).toNat x0_6.size), .int .i64 6] rfl (by (try simp only [List.map_toArray, List.map_cons, List.map_nil]); first | done | (simp only [hji20]; rfl) | rfl | (simp only [List.length_drop, List.length_take]; rfl)) ?_; (with_reducible refine (entrepotref02_digits.calls k3 (x0_6.extract ((ji20) : Int).toNat x0_6.size) 6 t104 false _ A23.out).mono ?_); rintro e w' ⟨rfl, ⟨nd, rfl⟩⟩; refine ⟨_, rfl, ?_⟩; (try (rw [drewN_self wr]; generalize hq_ : World.drewN wr _ = wr; have n0_ : Aside0 (wr.heap[gb101]? = some (.cells #[.int .i64 0, .int .i64 0] 30 (0, 0))) := ⟨by rw [← hq_]; exact (by (with_reducible repeat (first | refine blk_drewN ?_ _ | refine blk_drew ?_ | refine blk_alloc ?_ _)); exact BK101.out)⟩; have n1_ : Aside0 (Below w.heap.size w wr) := ⟨by rw [← hq_]; exact (by repeat (first | (with_reducible first | exact HB.out | apply below_alloc | apply pw_below_drewN | apply below_drew1 | refine below_set ?_ GE101.out) | exact HB.out))⟩; clear BK101 HB hq_; have BK101 := n0_; have HB := n1_; clear n0_ n1_)); have hcz44_0 : wr.cell? ⟨gb101, 0, none⟩ = some (.int .i64 0) := (blk_cell BK101.out 0).trans rfl; have hcz44_1 : wr.cell? ⟨gb101, 1, none⟩ = some (.int .i64 0) := (blk_cell BK101.out 1).trans rfl; have hfz44_0 := blk_frozen BK101.out 0; have hfz44_1 := blk_frozen BK101.out 1))
                              refine bodyPost_ret (results_ct rfl _ _ gb101 30 #[.int .i64 0, .int .i64 0] (0, 0) _ rfl (by (with_reducible repeat (first | refine blk_drewN ?_ _ | refine blk_drew ?_ | refine blk_alloc ?_ _)); refine blk_put (cs := #[.int .i64 0, .int .i64 0]) ?_ 1 _ rfl; (with_reducible repeat (first | refine blk_drewN ?_ _ | refine blk_drew ?_ | refine blk_alloc ?_ _)); refine blk_put (cs := #[.int .i64 0, .int .i64 0]) ?_ 0 _ rfl; (with_reducible repeat (first | refine blk_drewN ?_ _ | refine blk_drew ?_ | refine blk_alloc ?_ _)); exact BK101.out) Tryd.underlying30 rfl (by kernel_rfl)) rfl ?_
                              exact ⟨by first | rfl | (simp [errW_none, errW_some] <;> rfl) | (simp only [← hji20]; first | rfl | (simp [errW_none, errW_some] <;> rfl)) | (simp [*, errW_none, errW_some] <;> rfl), by repeat (first | (with_reducible first | exact HB.out | apply below_alloc | apply pw_below_drewN | apply below_drew1 | refine below_set ?_ GE101.out) | exact HB.out)⟩
                          · rw [if_neg c22] at H
                            exact absurd H (by simp)
                        · rw [if_neg c21] at H
                          exact absurd H (by simp)
                      · rw [if_neg c19] at H
                        have c19b0 : decide (x5_3 < (x0_6.size : Int)) = false := decide_eq_false c19
                        clear c19
                        replace H := Option.bind_eq_some_iff.mp H
                        obtain ⟨⟨t110, t111⟩, A450, H⟩ := H
                        replace H : (if t110 > 100000000 then (some (0, 0, 2)) else (if t110 < (-100000000) then (some (0, 0, 2)) else (some (t110, t111, 0)))) = some (r1, r2, r3) := H
                        have A45 := Aside0.mk A450
                        clear A450
                        by_cases c46 : t110 > 100000000
                        · rw [if_pos c46] at H
                          have c46b0 : decide (100000000 < t110) = true := decide_eq_true c46
                          clear c46
                          simp only [Option.some.injEq, Prod.mk.injEq] at H
                          obtain ⟨rfl, rfl, rfl⟩ := H
                          go_wp2_with (first | ((with_reducible refine gate_callee (f := 32) rfl ?_); refine goesL_ (some 40) rfl rfl Tryd.func32 (by kernel_rfl) rfl #[.string (x0_6.extract 0 (x5_3 : Int).toNat), .int .i64 12] rfl (by (try simp only [List.map_toArray, List.map_cons, List.map_nil]); first | done | rfl | (simp only [List.length_drop, List.length_take]; rfl)) ?_; (with_reducible refine (entrepotref02_digits.calls k3 (x0_6.extract 0 (x5_3 : Int).toNat) 12 t102 true _ A17.out).mono ?_); rintro e w' ⟨rfl, ⟨nd, rfl⟩⟩; refine ⟨_, rfl, ?_⟩; (try (rw [drewN_self wr]; generalize hq_ : World.drewN wr _ = wr; have n0_ : Aside0 (wr.heap[gb101]? = some (.cells #[.int .i64 0, .int .i64 0] 30 (0, 0))) := ⟨by rw [← hq_]; exact (by (with_reducible repeat (first | refine blk_drewN ?_ _ | refine blk_drew ?_ | refine blk_alloc ?_ _)); exact BK101.out)⟩; have n1_ : Aside0 (Below w.heap.size w wr) := ⟨by rw [← hq_]; exact (by repeat (first | (with_reducible first | exact HB.out | apply below_alloc | apply pw_below_drewN | apply below_drew1 | refine below_set ?_ GE101.out) | exact HB.out))⟩; clear BK101 HB hq_; have BK101 := n0_; have HB := n1_; clear n0_ n1_))) | ((with_reducible refine gate_callee (f := 19) rfl ?_); refine goesL_ (some 77) rfl rfl Tryd.func19 (by kernel_rfl) rfl #[.agg #[.int .i64 (wrap64 (x4_6 * t102)), .int .i64 0]] rfl (by (try simp only [List.map_toArray, List.map_cons, List.map_nil]); first | done | rfl | (simp only [List.length_drop, List.length_take]; rfl)) ?_; (with_reducible refine (entrepotref02_Least.calls k3 (wrap64 (x4_6 * t102)) 0 t110 t111 _ A45.out).mono ?_); rintro e w47 ⟨rfl, hb⟩; refine ⟨_, rfl, ?_⟩; have n0_ := Aside0.mk (blk_below (g := gb101) (o := .cells #[.int .i64 0, .int .i64 0] 30 (0, 0)) (by (with_reducible repeat (first | refine blk_drewN ?_ _ | refine blk_drew ?_ | refine blk_alloc ?_ _)); exact BK101.out) hb); have n1_ := Aside0.mk (below_step (by repeat (first | (with_reducible first | exact HB.out | apply below_alloc | apply pw_below_drewN | apply below_drew1 | refine below_set ?_ GE101.out) | exact HB.out)) hb); clear BK101; clear HB; have BK101 := n0_; have HB := n1_; clear n0_ n1_; (try clear hb); (try clear hb2); (try clear hk); (try clear hi)) | ((with_reducible refine gate_dst (N := 12) rfl ?_); refine box_event ?hg (N := 12) ?hd (cs := #[.int .i64 0, .int .i64 0]) (t := 30) ?hr ?_; (case hd => rfl); (case hg => rfl); (case hr => first | (go_simp; done) | (go_simp; rfl)); intro gb112 hg w48 hbox hb; have n0_ := Aside0.mk (blk_below (g := gb101) (o := .cells #[.int .i64 0, .int .i64 0] 30 (0, 0)) (by (with_reducible repeat (first | refine blk_drewN ?_ _ | refine blk_drew ?_ | refine blk_alloc ?_ _)); exact BK101.out) hb); have n1_ := Aside0.mk (below_step (by repeat (first | (with_reducible first | exact HB.out | apply below_alloc | apply pw_below_drewN | apply below_drew1 | refine below_set ?_ GE101.out) | exact HB.out)) hb); have n2_ := Aside0.mk (hbox); have n3_ := Aside0.mk ((by rw [hg]; exact (below_size (by repeat (first | (with_reducible first | exact HB.out | apply below_alloc | apply pw_below_drewN | apply below_drew1 | refine below_set ?_ GE101.out) | exact HB.out))) : w.heap.size ≤ gb112)); have n4_ := Aside0.mk ((by rw [hg]; exact (below_size (by repeat (first | (with_reducible first | exact HB.out | apply below_alloc | apply pw_below_drewN | apply below_drew1 | refine below_set ?_ GE101.out) | exact HB.out))) : w.heap.size ≤ gb112)); have n5_ := Aside0.mk ((by rw [hg]; exact Nat.ne_of_lt (blk_lt (g := gb101) (o := .cells #[.int .i64 0, .int .i64 0] 30 (0, 0)) (by (with_reducible repeat (first | refine blk_drewN ?_ _ | refine blk_drew ?_ | refine blk_alloc ?_ _)); exact BK101.out)) : gb101 ≠ gb112)); have n6_ := Aside0.mk ((by rw [hg]; exact Nat.ne_of_gt (blk_lt (g := gb101) (o := .cells #[.int .i64 0, .int .i64 0] 30 (0, 0)) (by (with_reducible repeat (first | refine blk_drewN ?_ _ | refine blk_drew ?_ | refine blk_alloc ?_ _)); exact BK101.out)) : gb112 ≠ gb101)); clear BK101; clear HB; have BK101 := n0_; have HB := n1_; have BK112 := n2_; have GW112 := n3_; have GE112 := n4_; have NB101_112 := n5_; have NB112_101 := n6_; clear n0_ n1_ n2_ n3_ n4_ n5_ n6_; clear hb hbox hg; have hnb49 := NB112_101.out; have hnc49 := NB101_112.out; have hcz50_0 : w48.cell? ⟨gb112, 0, none⟩ = some (.int .i64 0) := (blk_cell BK112.out 0).trans rfl; have hcz50_1 : w48.cell? ⟨gb112, 1, none⟩ = some (.int .i64 0) := (blk_cell BK112.out 1).trans rfl; have hfz50_0 := blk_frozen BK112.out 0; have hfz50_1 := blk_frozen BK112.out 1; have hcz51_0 : w48.cell? ⟨gb101, 0, none⟩ = some (.int .i64 0) := (blk_cell BK101.out 0).trans rfl; have hcz51_1 : w48.cell? ⟨gb101, 1, none⟩ = some (.int .i64 0) := (blk_cell BK101.out 1).trans rfl; have hfz51_0 := blk_frozen BK101.out 0; have hfz51_1 := blk_frozen BK101.out 1))
                          refine bodyPost_ret (results_ct rfl _ _ gb101 30 #[.int .i64 0, .int .i64 0] (0, 0) _ rfl (by (with_reducible repeat (first | refine blk_drewN ?_ _ | refine blk_drew ?_ | refine blk_alloc ?_ _)); refine blk_put (cs := #[.int .i64 0, .int .i64 0]) ?_ 1 _ rfl; (with_reducible repeat (first | refine blk_drewN ?_ _ | refine blk_drew ?_ | refine blk_alloc ?_ _)); refine blk_put (cs := #[.int .i64 0, .int .i64 0]) ?_ 0 _ rfl; (with_reducible repeat (first | refine blk_drewN ?_ _ | refine blk_drew ?_ | refine blk_alloc ?_ _)); refine blk_far ?_ NB101_112.out _; (with_reducible repeat (first | refine blk_drewN ?_ _ | refine blk_drew ?_ | refine blk_alloc ?_ _)); refine blk_far ?_ NB101_112.out _; (with_reducible repeat (first | refine blk_drewN ?_ _ | refine blk_drew ?_ | refine blk_alloc ?_ _)); exact BK101.out) Tryd.underlying30 rfl (by kernel_rfl)) rfl ?_
                          exact ⟨by first | rfl | (simp [errW_none, errW_some] <;> rfl) | (simp [*, errW_none, errW_some] <;> rfl), by repeat (first | (with_reducible first | exact HB.out | apply below_alloc | apply pw_below_drewN | apply below_drew1 | refine below_set ?_ GE101.out | refine below_set ?_ GE112.out) | exact HB.out)⟩
                        · rw [if_neg c46] at H
                          have c46b0 : decide (100000000 < t110) = false := decide_eq_false c46
                          clear c46
                          by_cases c52 : t110 < (-100000000)
                          · rw [if_pos c52] at H
                            have c52b0 : decide (t110 < (-100000000)) = true := decide_eq_true c52
                            clear c52
                            simp only [Option.some.injEq, Prod.mk.injEq] at H
                            obtain ⟨rfl, rfl, rfl⟩ := H
                            go_wp2_with (first | ((with_reducible refine gate_callee (f := 32) rfl ?_); refine goesL_ (some 40) rfl rfl Tryd.func32 (by kernel_rfl) rfl #[.string (x0_6.extract 0 (x5_3 : Int).toNat), .int .i64 12] rfl (by (try simp only [List.map_toArray, List.map_cons, List.map_nil]); first | done | rfl | (simp only [List.length_drop, List.length_take]; rfl)) ?_; (with_reducible refine (entrepotref02_digits.calls k3 (x0_6.extract 0 (x5_3 : Int).toNat) 12 t102 true _ A17.out).mono ?_); rintro e w' ⟨rfl, ⟨nd, rfl⟩⟩; refine ⟨_, rfl, ?_⟩; (try (rw [drewN_self wr]; generalize hq_ : World.drewN wr _ = wr; have n0_ : Aside0 (wr.heap[gb101]? = some (.cells #[.int .i64 0, .int .i64 0] 30 (0, 0))) := ⟨by rw [← hq_]; exact (by (with_reducible repeat (first | refine blk_drewN ?_ _ | refine blk_drew ?_ | refine blk_alloc ?_ _)); exact BK101.out)⟩; have n1_ : Aside0 (Below w.heap.size w wr) := ⟨by rw [← hq_]; exact (by repeat (first | (with_reducible first | exact HB.out | apply below_alloc | apply pw_below_drewN | apply below_drew1 | refine below_set ?_ GE101.out) | exact HB.out))⟩; clear BK101 HB hq_; have BK101 := n0_; have HB := n1_; clear n0_ n1_))) | ((with_reducible refine gate_callee (f := 19) rfl ?_); refine goesL_ (some 77) rfl rfl Tryd.func19 (by kernel_rfl) rfl #[.agg #[.int .i64 (wrap64 (x4_6 * t102)), .int .i64 0]] rfl (by (try simp only [List.map_toArray, List.map_cons, List.map_nil]); first | done | rfl | (simp only [List.length_drop, List.length_take]; rfl)) ?_; (with_reducible refine (entrepotref02_Least.calls k3 (wrap64 (x4_6 * t102)) 0 t110 t111 _ A45.out).mono ?_); rintro e w53 ⟨rfl, hb⟩; refine ⟨_, rfl, ?_⟩; have n0_ := Aside0.mk (blk_below (g := gb101) (o := .cells #[.int .i64 0, .int .i64 0] 30 (0, 0)) (by (with_reducible repeat (first | refine blk_drewN ?_ _ | refine blk_drew ?_ | refine blk_alloc ?_ _)); exact BK101.out) hb); have n1_ := Aside0.mk (below_step (by repeat (first | (with_reducible first | exact HB.out | apply below_alloc | apply pw_below_drewN | apply below_drew1 | refine below_set ?_ GE101.out) | exact HB.out)) hb); clear BK101; clear HB; have BK101 := n0_; have HB := n1_; clear n0_ n1_; (try clear hb); (try clear hb2); (try clear hk); (try clear hi)) | ((with_reducible refine gate_dst (N := 12) rfl ?_); refine box_event ?hg (N := 12) ?hd (cs := #[.int .i64 0, .int .i64 0]) (t := 30) ?hr ?_; (case hd => rfl); (case hg => rfl); (case hr => first | (go_simp; done) | (go_simp; rfl)); intro gb112 hg w54 hbox hb; have n0_ := Aside0.mk (blk_below (g := gb101) (o := .cells #[.int .i64 0, .int .i64 0] 30 (0, 0)) (by (with_reducible repeat (first | refine blk_drewN ?_ _ | refine blk_drew ?_ | refine blk_alloc ?_ _)); exact BK101.out) hb); have n1_ := Aside0.mk (below_step (by repeat (first | (with_reducible first | exact HB.out | apply below_alloc | apply pw_below_drewN | apply below_drew1 | refine below_set ?_ GE101.out) | exact HB.out)) hb); have n2_ := Aside0.mk (hbox); have n3_ := Aside0.mk ((by rw [hg]; exact (below_size (by repeat (first | (with_reducible first | exact HB.out | apply below_alloc | apply pw_below_drewN | apply below_drew1 | refine below_set ?_ GE101.out) | exact HB.out))) : w.heap.size ≤ gb112)); have n4_ := Aside0.mk ((by rw [hg]; exact (below_size (by repeat (first | (with_reducible first | exact HB.out | apply below_alloc | apply pw_below_drewN | apply below_drew1 | refine below_set ?_ GE101.out) | exact HB.out))) : w.heap.size ≤ gb112)); have n5_ := Aside0.mk ((by rw [hg]; exact Nat.ne_of_lt (blk_lt (g := gb101) (o := .cells #[.int .i64 0, .int .i64 0] 30 (0, 0)) (by (with_reducible repeat (first | refine blk_drewN ?_ _ | refine blk_drew ?_ | refine blk_alloc ?_ _)); exact BK101.out)) : gb101 ≠ gb112)); have n6_ := Aside0.mk ((by rw [hg]; exact Nat.ne_of_gt (blk_lt (g := gb101) (o := .cells #[.int .i64 0, .int .i64 0] 30 (0, 0)) (by (with_reducible repeat (first | refine blk_drewN ?_ _ | refine blk_drew ?_ | refine blk_alloc ?_ _)); exact BK101.out)) : gb112 ≠ gb101)); clear BK101; clear HB; have BK101 := n0_; have HB := n1_; have BK112 := n2_; have GW112 := n3_; have GE112 := n4_; have NB101_112 := n5_; have NB112_101 := n6_; clear n0_ n1_ n2_ n3_ n4_ n5_ n6_; clear hb hbox hg; have hnb55 := NB112_101.out; have hnc55 := NB101_112.out; have hcz56_0 : w54.cell? ⟨gb112, 0, none⟩ = some (.int .i64 0) := (blk_cell BK112.out 0).trans rfl; have hcz56_1 : w54.cell? ⟨gb112, 1, none⟩ = some (.int .i64 0) := (blk_cell BK112.out 1).trans rfl; have hfz56_0 := blk_frozen BK112.out 0; have hfz56_1 := blk_frozen BK112.out 1; have hcz57_0 : w54.cell? ⟨gb101, 0, none⟩ = some (.int .i64 0) := (blk_cell BK101.out 0).trans rfl; have hcz57_1 : w54.cell? ⟨gb101, 1, none⟩ = some (.int .i64 0) := (blk_cell BK101.out 1).trans rfl; have hfz57_0 := blk_frozen BK101.out 0; have hfz57_1 := blk_frozen BK101.out 1))
                            refine bodyPost_ret (results_ct rfl _ _ gb101 30 #[.int .i64 0, .int .i64 0] (0, 0) _ rfl (by (with_reducible repeat (first | refine blk_drewN ?_ _ | refine blk_drew ?_ | refine blk_alloc ?_ _)); refine blk_put (cs := #[.int .i64 0, .int .i64 0]) ?_ 1 _ rfl; (with_reducible repeat (first | refine blk_drewN ?_ _ | refine blk_drew ?_ | refine blk_alloc ?_ _)); refine blk_put (cs := #[.int .i64 0, .int .i64 0]) ?_ 0 _ rfl; (with_reducible repeat (first | refine blk_drewN ?_ _ | refine blk_drew ?_ | refine blk_alloc ?_ _)); refine blk_far ?_ NB101_112.out _; (with_reducible repeat (first | refine blk_drewN ?_ _ | refine blk_drew ?_ | refine blk_alloc ?_ _)); refine blk_far ?_ NB101_112.out _; (with_reducible repeat (first | refine blk_drewN ?_ _ | refine blk_drew ?_ | refine blk_alloc ?_ _)); exact BK101.out) Tryd.underlying30 rfl (by kernel_rfl)) rfl ?_
                            exact ⟨by first | rfl | (simp [errW_none, errW_some] <;> rfl) | (simp [*, errW_none, errW_some] <;> rfl), by repeat (first | (with_reducible first | exact HB.out | apply below_alloc | apply pw_below_drewN | apply below_drew1 | refine below_set ?_ GE101.out | refine below_set ?_ GE112.out) | exact HB.out)⟩
                          · rw [if_neg c52] at H
                            have c52b0 : decide (t110 < (-100000000)) = false := decide_eq_false c52
                            clear c52
                            simp only [Option.some.injEq, Prod.mk.injEq] at H
                            obtain ⟨rfl, rfl, rfl⟩ := H
                            go_wp2_with (first | ((with_reducible refine gate_callee (f := 32) rfl ?_); refine goesL_ (some 40) rfl rfl Tryd.func32 (by kernel_rfl) rfl #[.string (x0_6.extract 0 (x5_3 : Int).toNat), .int .i64 12] rfl (by (try simp only [List.map_toArray, List.map_cons, List.map_nil]); first | done | rfl | (simp only [List.length_drop, List.length_take]; rfl)) ?_; (with_reducible refine (entrepotref02_digits.calls k3 (x0_6.extract 0 (x5_3 : Int).toNat) 12 t102 true _ A17.out).mono ?_); rintro e w' ⟨rfl, ⟨nd, rfl⟩⟩; refine ⟨_, rfl, ?_⟩; (try (rw [drewN_self wr]; generalize hq_ : World.drewN wr _ = wr; have n0_ : Aside0 (wr.heap[gb101]? = some (.cells #[.int .i64 0, .int .i64 0] 30 (0, 0))) := ⟨by rw [← hq_]; exact (by (with_reducible repeat (first | refine blk_drewN ?_ _ | refine blk_drew ?_ | refine blk_alloc ?_ _)); exact BK101.out)⟩; have n1_ : Aside0 (Below w.heap.size w wr) := ⟨by rw [← hq_]; exact (by repeat (first | (with_reducible first | exact HB.out | apply below_alloc | apply pw_below_drewN | apply below_drew1 | refine below_set ?_ GE101.out) | exact HB.out))⟩; clear BK101 HB hq_; have BK101 := n0_; have HB := n1_; clear n0_ n1_))) | ((with_reducible refine gate_callee (f := 19) rfl ?_); refine goesL_ (some 77) rfl rfl Tryd.func19 (by kernel_rfl) rfl #[.agg #[.int .i64 (wrap64 (x4_6 * t102)), .int .i64 0]] rfl (by (try simp only [List.map_toArray, List.map_cons, List.map_nil]); first | done | rfl | (simp only [List.length_drop, List.length_take]; rfl)) ?_; (with_reducible refine (entrepotref02_Least.calls k3 (wrap64 (x4_6 * t102)) 0 t110 t111 _ A45.out).mono ?_); rintro e w58 ⟨rfl, hb⟩; refine ⟨_, rfl, ?_⟩; have n0_ := Aside0.mk (blk_below (g := gb101) (o := .cells #[.int .i64 0, .int .i64 0] 30 (0, 0)) (by (with_reducible repeat (first | refine blk_drewN ?_ _ | refine blk_drew ?_ | refine blk_alloc ?_ _)); exact BK101.out) hb); have n1_ := Aside0.mk (below_step (by repeat (first | (with_reducible first | exact HB.out | apply below_alloc | apply pw_below_drewN | apply below_drew1 | refine below_set ?_ GE101.out) | exact HB.out)) hb); clear BK101; clear HB; have BK101 := n0_; have HB := n1_; clear n0_ n1_; (try clear hb); (try clear hb2); (try clear hk); (try clear hi)) | ((with_reducible refine gate_dst (N := 12) rfl ?_); refine box_event ?hg (N := 12) ?hd (cs := #[.int .i64 0, .int .i64 0]) (t := 30) ?hr ?_; (case hd => rfl); (case hg => rfl); (case hr => first | (go_simp; done) | (go_simp; rfl)); intro gb112 hg w59 hbox hb; have n0_ := Aside0.mk (blk_below (g := gb101) (o := .cells #[.int .i64 0, .int .i64 0] 30 (0, 0)) (by (with_reducible repeat (first | refine blk_drewN ?_ _ | refine blk_drew ?_ | refine blk_alloc ?_ _)); exact BK101.out) hb); have n1_ := Aside0.mk (below_step (by repeat (first | (with_reducible first | exact HB.out | apply below_alloc | apply pw_below_drewN | apply below_drew1 | refine below_set ?_ GE101.out) | exact HB.out)) hb); have n2_ := Aside0.mk (hbox); have n3_ := Aside0.mk ((by rw [hg]; exact (below_size (by repeat (first | (with_reducible first | exact HB.out | apply below_alloc | apply pw_below_drewN | apply below_drew1 | refine below_set ?_ GE101.out) | exact HB.out))) : w.heap.size ≤ gb112)); have n4_ := Aside0.mk ((by rw [hg]; exact (below_size (by repeat (first | (with_reducible first | exact HB.out | apply below_alloc | apply pw_below_drewN | apply below_drew1 | refine below_set ?_ GE101.out) | exact HB.out))) : w.heap.size ≤ gb112)); have n5_ := Aside0.mk ((by rw [hg]; exact Nat.ne_of_lt (blk_lt (g := gb101) (o := .cells #[.int .i64 0, .int .i64 0] 30 (0, 0)) (by (with_reducible repeat (first | refine blk_drewN ?_ _ | refine blk_drew ?_ | refine blk_alloc ?_ _)); exact BK101.out)) : gb101 ≠ gb112)); have n6_ := Aside0.mk ((by rw [hg]; exact Nat.ne_of_gt (blk_lt (g := gb101) (o := .cells #[.int .i64 0, .int .i64 0] 30 (0, 0)) (by (with_reducible repeat (first | refine blk_drewN ?_ _ | refine blk_drew ?_ | refine blk_alloc ?_ _)); exact BK101.out)) : gb112 ≠ gb101)); clear BK101; clear HB; have BK101 := n0_; have HB := n1_; have BK112 := n2_; have GW112 := n3_; have GE112 := n4_; have NB101_112 := n5_; have NB112_101 := n6_; clear n0_ n1_ n2_ n3_ n4_ n5_ n6_; clear hb hbox hg; have hnb60 := NB112_101.out; have hnc60 := NB101_112.out; have hcz61_0 : w59.cell? ⟨gb112, 0, none⟩ = some (.int .i64 0) := (blk_cell BK112.out 0).trans rfl; have hcz61_1 : w59.cell? ⟨gb112, 1, none⟩ = some (.int .i64 0) := (blk_cell BK112.out 1).trans rfl; have hfz61_0 := blk_frozen BK112.out 0; have hfz61_1 := blk_frozen BK112.out 1; have hcz62_0 : w59.cell? ⟨gb101, 0, none⟩ = some (.int .i64 0) := (blk_cell BK101.out 0).trans rfl; have hcz62_1 : w59.cell? ⟨gb101, 1, none⟩ = some (.int .i64 0) := (blk_cell BK101.out 1).trans rfl; have hfz62_0 := blk_frozen BK101.out 0; have hfz62_1 := blk_frozen BK101.out 1))
                            refine bodyPost_ret (results_ct rfl _ _ gb101 30 #[.int .i64 t110, .int .i64 t111] (0, 0) _ rfl (by (with_reducible repeat (first | refine blk_drewN ?_ _ | refine blk_drew ?_ | refine blk_alloc ?_ _)); refine blk_put (cs := #[.int .i64 t110, .int .i64 0]) ?_ 1 _ rfl; (with_reducible repeat (first | refine blk_drewN ?_ _ | refine blk_drew ?_ | refine blk_alloc ?_ _)); refine blk_put (cs := #[.int .i64 0, .int .i64 0]) ?_ 0 _ rfl; (with_reducible repeat (first | refine blk_drewN ?_ _ | refine blk_drew ?_ | refine blk_alloc ?_ _)); refine blk_far ?_ NB101_112.out _; (with_reducible repeat (first | refine blk_drewN ?_ _ | refine blk_drew ?_ | refine blk_alloc ?_ _)); refine blk_far ?_ NB101_112.out _; (with_reducible repeat (first | refine blk_drewN ?_ _ | refine blk_drew ?_ | refine blk_alloc ?_ _)); exact BK101.out) Tryd.underlying30 rfl (by kernel_rfl)) rfl ?_
                            exact ⟨by first | rfl | (simp [errW_none, errW_some] <;> rfl) | (simp [*, errW_none, errW_some] <;> rfl), by repeat (first | (with_reducible first | exact HB.out | apply below_alloc | apply pw_below_drewN | apply below_drew1 | refine below_set ?_ GE101.out | refine below_set ?_ GE112.out) | exact HB.out)⟩
                    · replace c18 := Bool.eq_false_iff.mpr c18
                      subst c18
                      have H1 : (some (0, 0, 20)) = some (r1, r2, r3) := by rw [if_neg (show ¬ (false = true) by decide)] at H; exact H
                      clear H
                      have H := H1
                      clear H1
                      simp only [Option.some.injEq, Prod.mk.injEq] at H
                      obtain ⟨rfl, rfl, rfl⟩ := H
                      go_wp2_with (first | ((with_reducible refine gate_callee (f := 32) rfl ?_); refine goesL_ (some 40) rfl rfl Tryd.func32 (by kernel_rfl) rfl #[.string (x0_6.extract 0 (x5_3 : Int).toNat), .int .i64 12] rfl (by (try simp only [List.map_toArray, List.map_cons, List.map_nil]); first | done | rfl | (simp only [List.length_drop, List.length_take]; rfl)) ?_; (with_reducible refine (entrepotref02_digits.calls k3 (x0_6.extract 0 (x5_3 : Int).toNat) 12 t102 false _ A17.out).mono ?_); rintro e w' ⟨rfl, ⟨nd, rfl⟩⟩; refine ⟨_, rfl, ?_⟩; (try (rw [drewN_self wr]; generalize hq_ : World.drewN wr _ = wr; have n0_ : Aside0 (wr.heap[gb101]? = some (.cells #[.int .i64 0, .int .i64 0] 30 (0, 0))) := ⟨by rw [← hq_]; exact (by (with_reducible repeat (first | refine blk_drewN ?_ _ | refine blk_drew ?_ | refine blk_alloc ?_ _)); exact BK101.out)⟩; have n1_ : Aside0 (Below w.heap.size w wr) := ⟨by rw [← hq_]; exact (by repeat (first | (with_reducible first | exact HB.out | apply below_alloc | apply pw_below_drewN | apply below_drew1 | refine below_set ?_ GE101.out) | exact HB.out))⟩; clear BK101 HB hq_; have BK101 := n0_; have HB := n1_; clear n0_ n1_)); have hcz63_0 : wr.cell? ⟨gb101, 0, none⟩ = some (.int .i64 0) := (blk_cell BK101.out 0).trans rfl; have hcz63_1 : wr.cell? ⟨gb101, 1, none⟩ = some (.int .i64 0) := (blk_cell BK101.out 1).trans rfl; have hfz63_0 := blk_frozen BK101.out 0; have hfz63_1 := blk_frozen BK101.out 1))
                      refine bodyPost_ret (results_ct rfl _ _ gb101 30 #[.int .i64 0, .int .i64 0] (0, 0) _ rfl (by (with_reducible repeat (first | refine blk_drewN ?_ _ | refine blk_drew ?_ | refine blk_alloc ?_ _)); refine blk_put (cs := #[.int .i64 0, .int .i64 0]) ?_ 1 _ rfl; (with_reducible repeat (first | refine blk_drewN ?_ _ | refine blk_drew ?_ | refine blk_alloc ?_ _)); refine blk_put (cs := #[.int .i64 0, .int .i64 0]) ?_ 0 _ rfl; (with_reducible repeat (first | refine blk_drewN ?_ _ | refine blk_drew ?_ | refine blk_alloc ?_ _)); exact BK101.out) Tryd.underlying30 rfl (by kernel_rfl)) rfl ?_
                      exact ⟨by first | rfl | (simp [errW_none, errW_some] <;> rfl) | (simp [*, errW_none, errW_some] <;> rfl), by repeat (first | (with_reducible first | exact HB.out | apply below_alloc | apply pw_below_drewN | apply below_drew1 | refine below_set ?_ GE101.out) | exact HB.out)⟩
                  · rw [if_neg c16] at H
                    exact absurd H (by simp)
                · rw [if_neg c15] at H
                  exact absurd H (by simp)

end Go.Proofs.YtldllfadidepaaaDoor.P
namespace Go.Proofs.YtldllfadidepaaaDoor.P
open Go.RowKit Go.Proofs.YtldllfadidepaaaDoor.Sp Go.Proofs.YtldllfadidepaaaDoorW.PrintWords Go.Proofs.YtldllfadidepaaaDoorW.PrintLast Go.Proofs.YtldllfadidepaaaDoorW.PrintMore
set_option linter.unusedSimpArgs false

theorem rtens_l (n : Nat) (hn : n ≤ 18) (d : Nat) : ∀ (i k : Nat), i + d = n → d < k → entrepotref02_tens.l0 k n (10 ^ i) i = some (10 ^ n) := by
  induction d with
  | zero =>
    intro i k hi hk
    obtain ⟨k, rfl, hk⟩ := succ_of hk
    simp only [entrepotref02_tens.l0]
    rw [if_neg (by omega)]
    rw [show i = n from by omega]
  | succ d ih =>
    intro i k hi hk
    obtain ⟨k, rfl, hk⟩ := succ_of hk
    simp only [entrepotref02_tens.l0]
    rw [if_pos (by omega)]
    have hb : (10 : Int) ^ (i + 1) ≤ 10 ^ 18 := pow_le' (by omega)
    have hp := pow_pos' (i + 1)
    rw [Int.mul_comm 10, ← Int.pow_succ, w64 (by omega) (by omega), w64 (by omega) (by omega)]
    exact ih (i + 1) k (by omega) (by omega)
theorem rtens_eq (n : Nat) (hn : n ≤ 18) (k : Nat) (hk : 100 ≤ k) : entrepotref02_tens.f k n = some (10 ^ n) := by
  have := rtens_l n hn n 0 k (by omega) (by omega)
  simpa [entrepotref02_tens.f] using this
theorem rleastF (s : Nat) (hs : s ≤ 1000000) : ∀ (m : Int), -1000000000000000000 < m → m < 1000000000000000000 → entrepotref02_Least.l0 (s + 1) m s = some (least m s) := by
  induction s with
  | zero => intro m _ _; simp only [entrepotref02_Least.l0, least]; rw [if_neg (by omega)]; rfl
  | succ s ih =>
    intro m h1 h2
    simp only [entrepotref02_Least.l0, least]
    rw [if_pos (by omega)]
    by_cases hm : m.tmod 10 = 0
    · rw [if_pos hm, if_pos hm]
      have e3 := Int.tdiv_eq_ediv_of_dvd (Int.dvd_of_tmod_eq_zero hm)
      have e1 : wrap64 (m.tdiv 10) = m.tdiv 10 := by unfold wrap64; omega
      have e2 : wrap64 (((s + 1 : Nat) : Int) - 1) = (s : Int) := by unfold wrap64; omega
      rw [e1, e2]
      exact ih (by omega) _ (by omega) (by omega)
    · rw [if_neg hm, if_neg hm]
theorem RLeast_eq (m : Int) (s : Nat) (hs : s ≤ 50) (h1 : -1000000000000000000 < m) (h2 : m < 1000000000000000000) : ∀ (k : Nat), s < k → entrepotref02_Least.f k m s = some (least m s) := by
  have mono := fun k => entrepotref02_Least.mono m s k
  intro k hk
  induction k with
  | zero => omega
  | succ k ih =>
    by_cases h : s = k
    · subst h; exact rleastF s (by omega) m h1 h2
    · exact mono k _ (ih (by omega))
theorem RCmp_eq {m n : Int} {s t : Nat} (hm : NumOk m s) (hn : NumOk n t) (k : Nat) (hk : 100 ≤ k) : entrepotref02_Cmp.f k m s n t = some (cmpS m s n t) := by
  unfold entrepotref02_Cmp.f
  have h1 := hm.sc
  have h2 := hn.sc
  rw [show wrap64 (6 - (s : Int)) = ((6 - s : Nat) : Int) from by rw [w64 (by omega) (by omega)]; omega]
  rw [show wrap64 (6 - (t : Int)) = ((6 - t : Nat) : Int) from by rw [w64 (by omega) (by omega)]; omega]
  rw [rtens_eq _ (by omega) k hk, rtens_eq _ (by omega) k hk]
  simp only [Option.bind_some]
  have b1 := hm.bd (6 - s) (by omega)
  have b2 := hn.bd (6 - t) (by omega)
  rw [w64 (by omega) (by omega), w64 (by omega) (by omega)]
  unfold cmpS sig mil
  by_cases h : m * 10 ^ (6 - s) < n * 10 ^ (6 - t)
  · rw [if_pos h, if_pos h]
  · rw [if_neg h, if_neg h]
    by_cases h' : n * 10 ^ (6 - t) < m * 10 ^ (6 - s)
    · rw [if_pos h', if_pos h']
    · rw [if_neg h', if_neg h']
theorem RTo_no (m s x : Int) (hx : x < 0 ∨ 6 < x) (k : Nat) (hk : 0 < k) : entrepotref02_To.f k m s x = some (0, 1) := by
  obtain ⟨k, rfl, hk⟩ := succ_of hk
  unfold entrepotref02_To.f
  by_cases h : x < 0
  · rw [if_pos h]; simp only [entrepotref02_To.j0, if_true]
  · rw [if_neg h]; simp only [entrepotref02_To.j0]; rw [if_pos (by simpa using hx.resolve_left h)]
theorem RTo_eq {m : Int} {s x : Nat} (hm : NumOk m s) (hx : x ≤ 6) (k : Nat) (hk : 200 ≤ k) : entrepotref02_To.f k m s x = some (toS m s x) := by
  obtain ⟨k, rfl, hk⟩ := succ_of (Nat.lt_of_lt_of_le (by omega : 199 < 200) hk)
  have h1 := hm.sc
  unfold entrepotref02_To.f
  rw [if_neg (by omega)]
  simp only [entrepotref02_To.j0]
  rw [if_neg (by simp; omega), RLeast_eq m s (by omega) (by have := hm.lo; omega) (by have := hm.hi; omega) k (by omega)]
  simp only [Option.bind_some]
  rw [toS_eq m s x hm.sc hx]
  obtain ⟨a, t, e1, e2, e3, e4⟩ := least_ex s m
  rw [e1]
  simp only [Int.toNat_natCast]
  by_cases h : (x : Int) < (t : Int)
  · rw [if_pos h, if_pos h]
  · rw [if_neg h, if_neg h, show wrap64 ((x : Int) - (t : Int)) = ((x - t : Nat) : Int) from by rw [w64 (by omega) (by omega)]; omega, rtens_eq _ (by omega) k (by omega)]
    simp only [Option.bind_some]
    have hab : -1000000000000 ≤ a ∧ a ≤ 1000000000000 := by
      have b1 := hm.lo
      have b2 := hm.hi
      have hp := pow_pos' (s - t)
      rw [e3, Int.mul_comm] at b1 b2
      exact ⟨quo_lo hp (by decide) b1, quo_hi hp (by decide) b2⟩
    have b3 := (NumOk.mk (s := 0) hab.1 hab.2 (by decide)).bd (x - t) (by omega)
    rw [w64 (by omega) (by omega)]
    unfold fitsB
    by_cases g1 : a * 10 ^ (x - t) > 100000000
    · rw [if_pos g1, if_neg (by simp; omega)]
    · rw [if_neg g1]
      by_cases g2 : a * 10 ^ (x - t) < -100000000
      · rw [if_pos g2, if_neg (by simp; omega)]
      · rw [if_neg g2, if_pos (by simp; omega)]
end Go.Proofs.YtldllfadidepaaaDoor.P
namespace Go.Proofs.YtldllfadidepaaaDoor.Sp
set_option linter.unusedSimpArgs false
set_option linter.unusedVariables false

theorem dv_snoc (l : List UInt8) (c : UInt8) : dv (l ++ [c]) = 10 * dv l + (c.toNat - 48) := by simp [dv]
theorem dv_fold (l : List UInt8) : ∀ acc, l.foldl (fun n c => 10 * n + (c.toNat - 48)) acc = acc * 10 ^ l.length + dv l := by
  induction l with
  | nil => intro acc; simp [dv]
  | cons c r ih =>
    intro acc
    simp only [List.foldl_cons, List.length_cons, dv]
    rw [ih, ih (10 * 0 + (c.toNat - 48)), Nat.pow_succ, Nat.mul_comm (10 ^ r.length) 10, ← Nat.mul_assoc, Nat.add_mul, Nat.mul_comm 10 acc]
    simp
    omega
theorem dv_app (a b : List UInt8) : dv (a ++ b) = dv a * 10 ^ b.length + dv b := by
  unfold dv
  rw [List.foldl_append, dv_fold]
  rfl
theorem dv_nought (n : Nat) (l : List UInt8) : dv (List.replicate n 48 ++ l) = dv l := by
  have h : dv (List.replicate n (48 : UInt8)) = 0 := by
    induction n with
    | zero => rfl
    | succ n ih => rw [List.replicate_succ', dv_snoc, ih]; rfl
  rw [dv_app, h]; simp
theorem dv_dec (u : Nat) : dv (Lib.decDigits u) = u := by
  induction u using Nat.strongRecOn with
  | _ u ih =>
    by_cases h : u < 10
    · rw [Lib.decDigits_one h]
      simp [dv]
      omega
    · rw [Lib.decDigits, dif_neg h, dv_snoc, ih (u / 10) (by omega)]
      simp
      omega
theorem dec_dig (u : Nat) : ∀ c ∈ Lib.decDigits u, dig c = true := by
  induction u using Nat.strongRecOn with
  | _ u ih =>
    by_cases h : u < 10
    · rw [Lib.decDigits_one h]
      intro c hc
      simp only [List.mem_singleton] at hc
      subst hc
      simp [dig]; omega
    · rw [Lib.decDigits, dif_neg h]
      intro c hc
      rcases List.mem_append.1 hc with hc | hc
      · exact ih (u / 10) (by omega) c hc
      · simp only [List.mem_singleton] at hc
        subst hc
        simp [dig]; omega
theorem dec_ne (u : Nat) : Lib.decDigits u ≠ [] := by
  intro h
  have := Lib.decDigits_length u
  rw [h] at this
  have := Lib.nDigits_pos u
  simp at *
  omega
theorem pad_dig (m : Int) (s : Nat) : ∀ c ∈ padS m s, dig c = true := by
  intro c hc
  unfold padS at hc
  rcases List.mem_append.1 hc with hc | hc
  · rw [List.mem_replicate] at hc; rw [hc.2]; decide
  · exact dec_dig _ c hc
theorem pad_dv (m : Int) (s : Nat) : dv (padS m s) = m.natAbs := by unfold padS; rw [dv_nought, dv_dec]
theorem pad_len (m : Int) (s : Nat) : (padS m s).length = max (s + 1) (Lib.nDigits m.natAbs) := by
  unfold padS
  rw [List.length_append, List.length_replicate, Lib.decDigits_length]
  omega

theorem not_pre {l : List UInt8} {c : UInt8} {k : UInt8} (h : l.head? ≠ some k) : Lib.hasPrefix l [k] = false := by
  unfold Lib.hasPrefix
  cases l with
  | nil => rfl
  | cons a r =>
    have : a ≠ k := fun e => h (by rw [e]; rfl)
    simp [List.isPrefixOf, Ne.symm this]
theorem pre_cons (r : List UInt8) (k : UInt8) : Lib.hasPrefix (k :: r) [k] = true := by simp [Lib.hasPrefix, List.isPrefixOf]
theorem trim_cons (r : List UInt8) (k : UInt8) : Lib.trimPrefix (k :: r) [k] = r := by unfold Lib.trimPrefix; rw [if_pos (pre_cons r k)]; rfl
theorem trim_not {l : List UInt8} {k : UInt8} (h : Lib.hasPrefix l [k] = false) : Lib.trimPrefix l [k] = l := by unfold Lib.trimPrefix; rw [if_neg (by rw [h]; simp)]
theorem tw_stop {a r : List UInt8} (ha : ∀ c ∈ a, dig c = true) (hr : ∀ c, r.head? = some c → dig c = false) : (a ++ r).takeWhile dig = a ∧ (a ++ r).dropWhile dig = r := by
  induction a with
  | nil =>
    cases r with
    | nil => exact ⟨rfl, rfl⟩
    | cons c t => have := hr c rfl; simp [List.takeWhile_cons, List.dropWhile_cons, this]
  | cons c t ih =>
    obtain ⟨h1, h2⟩ := ih (fun x hx => ha x (by simp [hx]))
    have := ha c (by simp)
    simp [List.takeWhile_cons, List.dropWhile_cons, this, h1, h2]

def sgnT (neg : Bool) : List UInt8 := if neg = true then [45] else []
theorem sgnT_trim (neg : Bool) (b : List UInt8) (hb : b.head? ≠ some 45) : Lib.trimPrefix (sgnT neg ++ b) [45] = b ∧ Lib.hasPrefix (sgnT neg ++ b) [45] = neg := by
  cases neg with
  | true => exact ⟨trim_cons b 45, pre_cons b 45⟩
  | false =>
    have h := not_pre (c := 0) hb
    exact ⟨trim_not h, h⟩
theorem head_app {a b : List UInt8} (ha : a ≠ []) : (a ++ b).head? = a.head? := by cases a with
  | nil => exact absurd rfl ha
  | cons _ _ => rfl
theorem head_dig {a : List UInt8} (h : ∀ c ∈ a, dig c = true) : a.head? ≠ some 45 := by
  cases a with
  | nil => simp
  | cons c t => intro e; have := h c (by simp); simp at e; subst e; simp [dig] at this

/-- a text with a point is read -/
theorem read_point (neg : Bool) (a b : List UInt8) (ha : ∀ c ∈ a, dig c = true) (hb : ∀ c ∈ b, dig c = true) (ha0 : a ≠ []) (hb0 : b ≠ []) (ha1 : a.length ≤ 12) (hb1 : b.length ≤ 6) :
    readS (sgnT neg ++ (a ++ 46 :: b)) = finS neg (a ++ b) b.length := by
  obtain ⟨h1, h2⟩ := sgnT_trim neg (a ++ 46 :: b) (by rw [head_app ha0]; exact head_dig ha)
  obtain ⟨h3, h4⟩ := tw_stop (r := 46 :: b) ha (by intro c hc; simp at hc; subst hc; decide)
  obtain ⟨h5, h6⟩ := tw_stop (r := []) hb (by intro c hc; simp at hc)
  rw [List.append_nil] at h5 h6
  unfold readS
  rw [h1, h2, h3, h4, pre_cons, trim_cons, h5, h6, if_neg (by simp [ha0]; omega), if_pos rfl, if_neg (by simp [hb0]; omega), if_neg (by simp)]
/-- a text without a point is read -/
theorem read_whole (neg : Bool) (a : List UInt8) (ha : ∀ c ∈ a, dig c = true) (ha0 : a ≠ []) (ha1 : a.length ≤ 12) : readS (sgnT neg ++ a) = finS neg a 0 := by
  obtain ⟨h1, h2⟩ := sgnT_trim neg a (head_dig ha)
  obtain ⟨h3, h4⟩ := tw_stop (r := []) ha (by intro c hc; simp at hc)
  rw [List.append_nil] at h3 h4
  unfold readS
  rw [h1, h2, h3, h4, if_neg (by simp [ha0]; omega), if_neg (by decide), if_neg (by simp)]
theorem read_long (neg : Bool) (a : List UInt8) (ha : ∀ c ∈ a, dig c = true) (ha1 : 12 < a.length) : readS (sgnT neg ++ a) = (0, 0, 20) := by
  obtain ⟨h1, h2⟩ := sgnT_trim neg a (head_dig ha)
  obtain ⟨h3, h4⟩ := tw_stop (r := []) ha (by intro c hc; simp at hc)
  rw [List.append_nil] at h3 h4
  unfold readS
  rw [h1, h3, if_pos (.inr ha1)]
theorem int_whole (neg : Bool) (a : List UInt8) (ha : ∀ c ∈ a, dig c = true) (ha0 : a ≠ []) (ha1 : a.length ≤ 12) : intS (sgnT neg ++ a) = if fitsB (sgn neg a) = true then (sgn neg a, 0) else (0, 2) := by
  obtain ⟨h1, h2⟩ := sgnT_trim neg a (head_dig ha)
  obtain ⟨h3, h4⟩ := tw_stop (r := []) ha (by intro c hc; simp at hc)
  rw [List.append_nil] at h3 h4
  unfold intS
  rw [h1, h2, h3, h4, if_neg (by simp [ha0]; omega), if_neg (by simp)]
theorem int_point (neg : Bool) (a b : List UInt8) (ha : ∀ c ∈ a, dig c = true) (ha0 : a ≠ []) (ha1 : a.length ≤ 12) :
    intS (sgnT neg ++ (a ++ 46 :: b)) = (0, 20) := by
  obtain ⟨h1, h2⟩ := sgnT_trim neg (a ++ 46 :: b) (by rw [head_app ha0]; exact head_dig ha)
  obtain ⟨h3, h4⟩ := tw_stop (r := 46 :: b) ha (by intro c hc; simp at hc; subst hc; decide)
  unfold intS
  rw [h1, h3, h4, if_neg (by simp [ha0]; omega), if_pos (by simp)]

/-- what is printed, in parts -/
theorem print_parts (m : Int) (s : Nat) (hs : 0 < s) : ∃ a b : List UInt8, printS m s = sgnT (decide (m < 0)) ++ (a ++ 46 :: b) ∧ a ++ b = padS m s ∧ b.length = s ∧ a ≠ [] ∧ a.length = (padS m s).length - s := by
  have hl := pad_len m s
  refine ⟨(padS m s).take ((padS m s).length - s), (padS m s).drop ((padS m s).length - s), ?_, List.take_append_drop _ _, ?_, ?_, ?_⟩
  · unfold printS sgnT
    rw [if_pos hs]
    by_cases h : m < 0 <;> simp [h]
  · rw [List.length_drop]; omega
  · intro h
    have := congrArg List.length h
    rw [List.length_take] at this
    simp at this
    omega
  · rw [List.length_take]; omega
theorem print_zero (m : Int) : printS m 0 = sgnT (decide (m < 0)) ++ Lib.decDigits m.natAbs := by
  unfold printS sgnT padS
  have h : 0 + 1 - (Lib.decDigits m.natAbs).length = 0 := by
    rw [Lib.decDigits_length]; have := Lib.nDigits_pos m.natAbs; omega
  rw [h, if_neg (Nat.lt_irrefl 0)]
  by_cases h : m < 0 <;> simp [h]
theorem sgn_abs (m : Int) (l : List UInt8) (h : dv l = m.natAbs) : sgn (decide (m < 0)) l = m := by
  unfold sgn
  rw [h]
  by_cases hm : m < 0
  · rw [if_pos (by simpa using hm)]; omega
  · rw [if_neg (by simpa using hm)]; omega
theorem nd_bd {k u : Nat} (h : u < 10 ^ (k + 1)) : Lib.nDigits u ≤ k + 1 := by
  induction k generalizing u with
  | zero => rw [Lib.nDigits_small (by simpa using h)]; exact Nat.le_refl _
  | succ k ih =>
    by_cases h1 : u < 10
    · rw [Lib.nDigits_small h1]; omega
    · rw [Lib.nDigits_big h1]
      have := ih (u := u / 10) (by rw [Nat.pow_succ] at h; omega)
      omega
/-- what is printed is read back -/
theorem read_print (m : Int) (s : Nat) (h1 : -1000000000000 ≤ m) (h2 : m ≤ 1000000000000) (hs : s ≤ 6) (h0 : 0 < s ∨ -1000000000000 < m ∧ m < 1000000000000) :
    readS (printS m s) = if fitsB (least m s).1 = true then ((least m s).1, (least m s).2, 0) else (0, 0, 2) := by
  have hnd : Lib.nDigits m.natAbs ≤ 13 := nd_bd (k := 12) (by omega)
  by_cases h : 0 < s
  · obtain ⟨a, b, e1, e2, e3, e4, e5⟩ := print_parts m s h
    have hl := pad_len m s
    have hd := pad_dig m s
    rw [← e2] at hd
    rw [e1, read_point _ a b (fun c hc => hd c (by simp [hc])) (fun c hc => hd c (by simp [hc])) e4 (by intro e; rw [e] at e3; simp at e3; omega) (by omega) (by omega), e2, e3]
    unfold finS
    rw [sgn_abs m _ (pad_dv m s)]
  · have hs0 : s = 0 := by omega
    subst hs0
    have hnd' : Lib.nDigits m.natAbs ≤ 12 := nd_bd (k := 11) (by omega)
    rw [print_zero, read_whole _ _ (dec_dig _) (dec_ne _) (by rw [Lib.decDigits_length]; exact hnd')]
    unfold finS
    rw [sgn_abs m _ (dv_dec _)]
theorem least_up (m : Int) (s : Nat) : ∀ j, least (m * 10 ^ j) (s + j) = least m s
  | 0 => by simp
  | j + 1 => by
    rw [← Nat.add_assoc, least, Int.pow_succ, ← Int.mul_assoc, if_pos (Int.mul_tmod_left _ _), Int.mul_tdiv_cancel _ (by decide)]
    exact least_up m s j
theorem ba_app (a b : List UInt8) : (⟨a.toArray⟩ : ByteArray) ++ ⟨b.toArray⟩ = ⟨(a ++ b).toArray⟩ := by
  apply ByteArray.ext
  rw [ByteArray.data_append]
  simp
theorem ba_size (a : List UInt8) : (⟨a.toArray⟩ : ByteArray).size = a.length := by
  show a.toArray.size = _
  exact List.size_toArray
/-- the text of a number with a point, whether it has places or not -/
theorem abs_parts (m : Int) (hm : 0 ≤ m) (s : Nat) : ∃ a b : List UInt8, printS m s ++ (if s = 0 then [46] else []) = a ++ 46 :: b ∧ a ++ b = padS m s ∧ b.length = s ∧ a ≠ [] ∧ a.length = (padS m s).length - s := by
  by_cases hs : 0 < s
  · obtain ⟨a, b, e1, e2, e3, e4, e5⟩ := print_parts m s hs
    refine ⟨a, b, ?_, e2, e3, e4, e5⟩
    rw [e1, if_neg (by omega)]
    unfold sgnT
    rw [if_neg (by simpa using hm)]
    simp
  · have hs0 : s = 0 := by omega
    subst hs0
    have hp : padS m 0 = Lib.decDigits m.natAbs := by
      unfold padS
      rw [show 0 + 1 - (Lib.decDigits m.natAbs).length = 0 from by rw [Lib.decDigits_length]; have := Lib.nDigits_pos m.natAbs; omega]
      rfl
    refine ⟨Lib.decDigits m.natAbs, [], ?_, by rw [hp]; simp, rfl, dec_ne _, by rw [hp]; simp⟩
    rw [print_zero, if_pos rfl]
    unfold sgnT
    rw [if_neg (by simpa using hm)]
    simp
/-- noughts ahead and behind change nothing -/
theorem read_noughts (m : Int) (s i j : Nat) (a b : List UInt8) (h1 : -67108864 ≤ m) (h2 : m ≤ 67108864) (hs : s ≤ 3) (hi : i ≤ 3) (hj : 0 < j) (hj3 : j ≤ 3)
    (hab : a ++ b = padS (if m < -m then -m else m) s) (hb : b.length = s) (ha : a ≠ []) (hal : a.length = (padS (if m < -m then -m else m) s).length - s) :
    readS (sgnT (decide (m < 0)) ++ ((List.replicate i 48 ++ a) ++ 46 :: (b ++ List.replicate j 48))) = ((least m s).1, (least m s).2, 0) := by
  have hna : (if m < -m then -m else m).natAbs = m.natAbs := by split <;> omega
  have hnd : Lib.nDigits m.natAbs ≤ 8 := nd_bd (k := 7) (by omega)
  have hl := pad_len (if m < -m then -m else m) s
  have hd := pad_dig (if m < -m then -m else m) s
  rw [hna] at hl
  rw [← hab] at hd
  have hrep : ∀ k, ∀ c ∈ List.replicate k (48 : UInt8), dig c = true := by intro k c hc; rw [List.mem_replicate] at hc; rw [hc.2]; decide
  have d1 : ∀ c ∈ List.replicate i 48 ++ a, dig c = true := by
    intro c hc; rcases List.mem_append.1 hc with hc | hc
    · exact hrep i c hc
    · exact hd c (by simp [hc])
  have d2 : ∀ c ∈ b ++ List.replicate j 48, dig c = true := by
    intro c hc; rcases List.mem_append.1 hc with hc | hc
    · exact hd c (by simp [hc])
    · exact hrep j c hc
  rw [read_point _ _ _ d1 d2 (by simp [ha]) (by intro e; have := congrArg List.length e; simp at this; omega) (by simp; omega) (by simp; omega)]
  have hdv : dv ((List.replicate i 48 ++ a) ++ (b ++ List.replicate j 48)) = m.natAbs * 10 ^ j := by
    rw [← List.append_assoc, List.append_assoc (List.replicate i 48), hab, dv_app, dv_nought, pad_dv, hna, List.length_replicate]
    have : dv (List.replicate j (48 : UInt8)) = 0 := by have := dv_nought j []; simpa [dv] using this
    rw [this]; rfl
  have hsg : sgn (decide (m < 0)) ((List.replicate i 48 ++ a) ++ (b ++ List.replicate j 48)) = m * 10 ^ j := by
    unfold sgn
    rw [hdv]
    have hc : ((m.natAbs * 10 ^ j : Nat) : Int) = (m.natAbs : Int) * 10 ^ j := by push_cast; rfl
    rw [hc]
    by_cases hm : m < 0
    · rw [if_pos (by simpa using hm), ← Int.neg_mul, show -(m.natAbs : Int) = m from by omega]
    · rw [if_neg (by simpa using hm), show (m.natAbs : Int) = m from by omega]
  unfold finS
  rw [hsg, List.length_append, List.length_replicate, hb, least_up]
  have hf : fitsB (least m s).1 = true := by
    obtain ⟨x, u, e1, e2, e3, e4⟩ := least_ex s m
    rw [e1]
    have h3 := quo_hi (p := 10 ^ (s - u)) (c := x) (B := 67108864) (pow_pos' _) (by decide) (by rw [Int.mul_comm, ← e3]; exact h2)
    have h4 := quo_lo (p := 10 ^ (s - u)) (c := x) (B := 67108864) (pow_pos' _) (by decide) (by rw [Int.mul_comm, ← e3]; exact h1)
    unfold fitsB; simp; omega
  rw [if_pos hf]
/-- whole numbers, and numbers -/
theorem whole_yes {l : List UInt8} (h : (intS l).2 = 0) : readS l = ((intS l).1, 0, 0) ∧ -100000000 ≤ (intS l).1 ∧ (intS l).1 ≤ 100000000 := by
  unfold intS at h ⊢
  split at h
  · simp at h
  · rename_i h1
    split at h
    · simp at h
    · rename_i h2
      rw [if_neg h1, if_neg h2]
      simp only [ne_eq, Decidable.not_not] at h2
      split at h
      · rename_i h3
        rw [if_pos h3]
        refine ⟨?_, fits_bd h3⟩
        unfold readS
        rw [if_neg h1, h2, if_neg (by decide), if_neg (by simp)]
        unfold finS
        rw [show (least (sgn (Lib.hasPrefix l [45]) ((Lib.trimPrefix l [45]).takeWhile dig)) 0) = (sgn (Lib.hasPrefix l [45]) ((Lib.trimPrefix l [45]).takeWhile dig), 0) from rfl, if_pos h3]
      · simp at h
theorem read_err {l : List UInt8} (h : (readS l).2.2 ≠ 0) : (readS l).1 = 0 ∧ (readS l).2.1 = 0 := by
  unfold readS finS at h ⊢
  repeat' split
  all_goals simp_all
theorem int_err {l : List UInt8} (h : (intS l).2 ≠ 0) : (intS l).1 = 0 := by
  unfold intS at h ⊢
  repeat' split
  all_goals simp_all
theorem whole_no {l : List UInt8} (h : (intS l).2 ≠ 0) (hr : (readS l).2.2 = 0) : (intS l).2 = 20 := by
  unfold intS at h ⊢
  split at h
  · rename_i h1; rw [if_pos h1]
  · rename_i h1
    split at h
    · rename_i h2; rw [if_neg h1, if_pos h2]
    · rename_i h2
      exfalso
      simp only [ne_eq, Decidable.not_not] at h2
      split at h
      · simp at h
      · rename_i h3
        unfold readS at hr
        rw [if_neg h1, h2, if_neg (by decide), if_neg (by simp)] at hr
        unfold finS at hr
        rw [show (least (sgn (Lib.hasPrefix l [45]) ((Lib.trimPrefix l [45]).takeWhile dig)) 0) = (sgn (Lib.hasPrefix l [45]) ((Lib.trimPrefix l [45]).takeWhile dig), 0) from rfl, if_neg h3] at hr
        simp at hr
end Go.Proofs.YtldllfadidepaaaDoor.Sp
namespace Go.Proofs.YtldllfadidepaaaDoor.Sp
theorem pad_get (m : Int) (s t : Nat) (ht : t < (padS m s).length) : (padS m s)[t] = UInt8.ofNat (48 + (m.natAbs / 10 ^ ((padS m s).length - 1 - t)) % 10) := by
  have hl := pad_len m s
  have hp := Lib.nDigits_pos m.natAbs
  obtain ⟨L, hL⟩ : ∃ L, L = (padS m s).length := ⟨_, rfl⟩
  rw [← hL] at hl
  rw [← hL]
  have ht' : t < L := by omega
  have key : ∀ (h : t < (List.replicate (s + 1 - (Lib.decDigits m.natAbs).length) (48 : UInt8) ++ Lib.decDigits m.natAbs).length),
      (List.replicate (s + 1 - (Lib.decDigits m.natAbs).length) (48 : UInt8) ++ Lib.decDigits m.natAbs)[t] = UInt8.ofNat (48 + (m.natAbs / 10 ^ (L - 1 - t)) % 10) := by
    intro h
    rw [List.getElem_append]
    split
    · rename_i h1
      rw [List.length_replicate, Lib.decDigits_length] at h1
      rw [List.getElem_replicate]
      have h2 := Lib.lt_pow_nDigits m.natAbs
      have h3 : 10 ^ Lib.nDigits m.natAbs ≤ 10 ^ (L - 1 - t) := Nat.pow_le_pow_right (by omega) (by omega)
      rw [Nat.div_eq_of_lt (by omega)]
      rfl
    · rename_i h1
      rw [List.length_replicate, Lib.decDigits_length] at h1
      simp only [Lib.decDigits_eq]
      rw [List.getElem_map, List.getElem_range]
      unfold Lib.dg
      simp only [List.length_replicate, List.length_map, List.length_range]
      rw [show Lib.nDigits m.natAbs - 1 - (t - (s + 1 - Lib.nDigits m.natAbs)) = L - 1 - t from by omega]
  exact key ht
/-- so many signs from the end, the point among them -/
def tailS (m : Int) (s i : Nat) : List UInt8 :=
  if 0 < s ∧ s < i then ((padS m s).drop ((padS m s).length - i)).take (i - s) ++ 46 :: (padS m s).drop ((padS m s).length - s) else (padS m s).drop ((padS m s).length - i)
theorem tail_lo {m : Int} {s i : Nat} (h : ¬ (0 < s ∧ s < i)) : tailS m s i = (padS m s).drop ((padS m s).length - i) := if_neg h
theorem tail_hi {m : Int} {s i : Nat} (h : 0 < s ∧ s < i) : tailS m s i = ((padS m s).drop ((padS m s).length - i)).take (i - s) ++ 46 :: (padS m s).drop ((padS m s).length - s) := if_pos h
theorem tail_step (m : Int) (s i : Nat) (hi : i < (padS m s).length) : tailS m s (i + 1) = UInt8.ofNat (48 + (m.natAbs / 10 ^ i) % 10) :: (if i = s ∧ 0 < s then 46 :: tailS m s i else tailS m s i) := by
  have hl := pad_len m s
  have hd : (padS m s).drop ((padS m s).length - (i + 1)) = UInt8.ofNat (48 + (m.natAbs / 10 ^ i) % 10) :: (padS m s).drop ((padS m s).length - i) := by
    rw [List.drop_eq_getElem_cons (by omega), pad_get m s ((padS m s).length - (i + 1)) (by omega)]
    have e1 : (padS m s).length - 1 - ((padS m s).length - (i + 1)) = i := by omega
    have e2 : (padS m s).length - (i + 1) + 1 = (padS m s).length - i := by omega
    rw [e1, e2]
  by_cases h0 : 0 < s
  · by_cases h1 : s < i
    · rw [tail_hi ⟨h0, by omega⟩, tail_hi ⟨h0, h1⟩, if_neg (show ¬ (i = s ∧ 0 < s) by omega), hd, show i + 1 - s = (i - s) + 1 from by omega, List.take_succ_cons]
      rfl
    · by_cases h2 : i = s
      · subst h2
        rw [tail_hi ⟨h0, by omega⟩, tail_lo (by omega), if_pos ⟨rfl, h0⟩, hd, show i + 1 - i = 0 + 1 from by omega, List.take_succ_cons]
        rfl
      · rw [tail_lo (by omega), tail_lo (by omega), if_neg (show ¬ (i = s ∧ 0 < s) by omega), hd]
  · rw [tail_lo (by omega), tail_lo (by omega), if_neg (show ¬ (i = s ∧ 0 < s) by omega), hd]
theorem tail_zero (m : Int) (s : Nat) : tailS m s 0 = [] := by
  rw [tail_lo (by omega)]
  simp
theorem tail_all (m : Int) (s : Nat) : (if m < 0 then [45] else []) ++ tailS m s (padS m s).length = printS m s := by
  have hl := pad_len m s
  unfold printS
  congr 1
  by_cases h0 : 0 < s
  · rw [tail_hi ⟨h0, by omega⟩, if_pos h0, Nat.sub_self]
    rfl
  · rw [tail_lo (fun h => h0 h.1), if_neg h0, Nat.sub_self]
    rfl
theorem tail_len (m : Int) (s i : Nat) : (tailS m s i).length ≤ 2 * (padS m s).length + 1 := by
  have hl := pad_len m s
  unfold tailS
  split
  · simp [List.length_take, List.length_drop]; omega
  · simp [List.length_drop]; omega
theorem nd_lo (u : Nat) : 2 ≤ Lib.nDigits u → 10 ^ (Lib.nDigits u - 1) ≤ u := by
  induction u using Nat.strongRecOn with
  | _ u ih =>
    intro h
    by_cases h1 : u < 10
    · rw [Lib.nDigits_small h1] at h; omega
    · rw [Lib.nDigits_big h1]
      by_cases h2 : 2 ≤ Lib.nDigits (u / 10)
      · have := ih (u / 10) (by omega) h2
        rw [show Lib.nDigits (u / 10) + 1 - 1 = (Lib.nDigits (u / 10) - 1) + 1 from by omega, Nat.pow_succ]
        omega
      · have := Lib.nDigits_pos (u / 10)
        rw [show Lib.nDigits (u / 10) + 1 - 1 = 1 from by omega]
        omega
end Go.Proofs.YtldllfadidepaaaDoor.Sp
namespace Go.Proofs.YtldllfadidepaaaDoor.Pure
open Go.RowKit Go.Proofs.YtldllfadidepaaaDoor.P Go.Proofs.YtldllfadidepaaaDoor.Sp Go.Proofs.YtldllfadidepaaaDoorW.PrintWords Go.Proofs.YtldllfadidepaaaDoorW.PrintLast Go.Proofs.YtldllfadidepaaaDoorW.PrintMore
theorem nums_one (x : Nat) : strOfNums [((48 + ((Int.tmod (x : Int) 10) % 256)) % 256 : Int)] = ⟨[UInt8.ofNat (48 + x % 10)].toArray⟩ := by
  have : ((48 + ((Int.tmod (x : Int) 10) % 256)) % 256 : Int) = ((48 + x % 10 : Nat) : Int) := by
    rw [Int.tmod_eq_emod_of_nonneg (by omega)]; omega
  rw [this]
  rfl
theorem stop_at {u i s : Nat} (h1 : s ≤ i) (h2 : i < max (s + 1) (Lib.nDigits u)) (h3 : u / 10 ^ i = 0) : i = s := by
  by_cases h5 : i < Lib.nDigits u
  · by_cases h6 : i = 0
    · omega
    · exfalso
      have h7 := nd_lo u (by omega)
      have h8 : 10 ^ i ≤ 10 ^ (Lib.nDigits u - 1) := Nat.pow_le_pow_right (by decide) (by omega)
      have h9 : 0 < u / 10 ^ i := Nat.div_pos (Nat.le_trans h8 h7) (Nat.pow_pos (by decide))
      exact Nat.ne_of_gt h9 h3
  · omega
theorem rprint_loop (m : Int) (s : Nat) (hs : s ≤ 6) (hm : m.natAbs ≤ 1000000000000) (d : Nat) : ∀ (i k : Nat), i + d = (padS m s).length → 2 * d + 10 ≤ k →
    entrepotref02_Print.l0 k ((m.natAbs / 10 ^ i : Nat) : Int) ⟨(if m < 0 then [45] else [] : List UInt8).toArray⟩ ⟨(tailS m s i).toArray⟩ i m s = some ⟨(printS m s).toArray⟩ := by
  have hnd : Lib.nDigits m.natAbs ≤ 13 := nd_bd (k := 12) (by omega)
  have hl := pad_len m s
  have hlt := Lib.lt_pow_nDigits m.natAbs
  induction d with
  | zero =>
    intro i k hi hk
    obtain ⟨k, rfl, hk⟩ := succ_of (Nat.lt_of_lt_of_le (by omega : 9 < 10) (show 10 ≤ k by omega))
    obtain ⟨k, rfl, hk⟩ := succ_of (show 8 < k by omega)
    have h3 : 10 ^ Lib.nDigits m.natAbs ≤ 10 ^ i := Nat.pow_le_pow_right (by omega) (by omega)
    have hz : m.natAbs / 10 ^ i = 0 := Nat.div_eq_of_lt (by omega)
    simp only [entrepotref02_Print.l0, entrepotref02_Print.j2]
    have hil : i = (padS m s).length := by omega
    have htl := tail_len m s i
    rw [hz, if_neg (by omega), if_neg (by omega)]
    have hb : (((i : Int) == (s : Int)) = false) := by rw [beq_eq_false_iff_ne]; omega
    rw [hb, if_neg (by simp), if_pos (by rw [ba_size, ba_size]; split <;> simp <;> omega), ba_app, hil, tail_all]
  | succ d ih =>
    clear hlt
    intro i k hi hk
    obtain ⟨k, rfl, hk⟩ := succ_of (Nat.lt_of_lt_of_le (by omega : 2 * d + 11 < 2 * (d + 1) + 10) hk)
    obtain ⟨k, rfl, hk⟩ := succ_of (show 2 * d + 10 < k by omega)
    have htl := tail_len m s i
    have hts := tail_step m s i (by omega)
    have hdv : wrap64 (Int.tdiv ((m.natAbs / 10 ^ i : Nat) : Int) 10) = ((m.natAbs / 10 ^ (i + 1) : Nat) : Int) := by
      have hq := Nat.div_le_self m.natAbs (10 ^ i)
      rw [Nat.pow_succ, ← Nat.div_div_eq_div_mul]
      generalize m.natAbs / 10 ^ i = q at hq ⊢
      rw [Int.tdiv_eq_ediv_of_nonneg (Int.natCast_nonneg q), w64 (by omega) (by omega)]
      omega
    have HDV := Lib.hid hdv
    clear hdv
    have hw : wrap64 ((i : Int) + 1) = ((i + 1 : Nat) : Int) := by rw [w64 (by omega) (by omega)]; rfl
    have step : entrepotref02_Print.j2 (k + 1) ((m.natAbs / 10 ^ i : Nat) : Int) ⟨(if m < 0 then [45] else [] : List UInt8).toArray⟩ ⟨(tailS m s i).toArray⟩ i true m s = some ⟨(printS m s).toArray⟩ := by
      have hn := nums_one (m.natAbs / 10 ^ i)
      generalize m.natAbs / 10 ^ i = q at hn HDV hts ⊢
      simp only [entrepotref02_Print.j2, if_true, Option.bind_some]
      rw [hn]
      have HONE : Hid ((⟨[UInt8.ofNat (48 + q % 10)].toArray⟩ : ByteArray).size = 1) := rfl
      have hp : (⟨#[46]⟩ : ByteArray) ++ ⟨(tailS m s i).toArray⟩ = ⟨(46 :: tailS m s i).toArray⟩ := ba_app [46] _
      have fin : ∀ T : List UInt8, tailS m s (i + 1) = UInt8.ofNat (48 + q % 10) :: T →
          entrepotref02_Print.l0 k (wrap64 (Int.tdiv (q : Int) 10)) ⟨(if m < 0 then [45] else [] : List UInt8).toArray⟩ (⟨[UInt8.ofNat (48 + q % 10)].toArray⟩ ++ ⟨T.toArray⟩) (wrap64 ((i : Int) + 1)) m s = some ⟨(printS m s).toArray⟩ := by
        intro T hT
        rw [HDV.out, hw, ba_app, show [UInt8.ofNat (48 + q % 10)] ++ T = tailS m s (i + 1) from by rw [hT]; rfl]
        exact ih (i + 1) k (by omega) (by omega)
      have hsm : ∀ T : List UInt8, T.length ≤ 60 → (⟨[UInt8.ofNat (48 + q % 10)].toArray⟩ : ByteArray).size + (⟨T.toArray⟩ : ByteArray).size ≤ 9223372036854775807 := by
        intro T hT
        rw [HONE.out, ba_size]; omega
      by_cases h1 : i = s
      · rw [if_pos (show (i : Int) = (s : Int) by omega)]
        by_cases h2 : 0 < s
        · rw [if_pos (show (s : Int) > 0 by omega), if_pos (by rw [ba_size]; omega), hp, if_pos (hsm _ (by simp; omega))]
          exact fin _ (by rw [hts, if_pos ⟨h1, h2⟩])
        · rw [if_neg (show ¬ (s : Int) > 0 by omega), if_pos (hsm _ (by omega))]
          exact fin _ (by rw [hts, if_neg (show ¬ (i = s ∧ 0 < s) by omega)])
      · rw [if_neg (show ¬ (i : Int) = (s : Int) by omega), if_pos (hsm _ (by omega))]
        exact fin _ (by rw [hts, if_neg (show ¬ (i = s ∧ 0 < s) by omega)])
    simp only [entrepotref02_Print.l0]
    by_cases h1 : (i : Int) < (s : Int)
    · rw [if_pos h1]; exact step
    · rw [if_neg h1]
      by_cases h2 : ((m.natAbs / 10 ^ i : Nat) : Int) > 0
      · rw [if_pos h2]; exact step
      · rw [if_neg h2]
        have h4 : i = s := stop_at (u := m.natAbs) (Int.ofNat_le.1 (Int.not_lt.1 h1)) (by rw [← hl]; omega) (Nat.eq_zero_of_not_pos fun h => h2 (Int.ofNat_lt.2 h))
        rw [show ((i : Int) == (s : Int)) = true from by rw [h4]; exact beq_self_eq_true _]
        exact step
theorem RPrint_eq {m : Int} {s : Nat} (g : NumOk m s) : entrepotref02_Print.f 999 m s = some ⟨(printS m s).toArray⟩ := by
  have h1 := g.lo
  have h2 := g.hi
  have hnd : Lib.nDigits m.natAbs ≤ 13 := nd_bd (k := 12) (by omega)
  have hl := pad_len m s
  have key := rprint_loop m s g.sc (by omega) (padS m s).length 0 998 (by omega) (by have := g.sc; omega)
  rw [tail_zero, Nat.pow_zero, Nat.div_one, Int.natCast_zero] at key
  unfold entrepotref02_Print.f
  by_cases hm : m < 0
  · rw [if_pos hm, w64 (by omega) (by omega)]
    simp only [entrepotref02_Print.j0]
    rw [if_pos hm, show ((m.natAbs : Nat) : Int) = -m from by omega] at key
    exact key
  · rw [if_neg hm]
    simp only [entrepotref02_Print.j0]
    rw [if_neg hm, show ((m.natAbs : Nat) : Int) = m from by omega] at key
    exact key
theorem FixedPrints : entrepotlaw02_FixedPrints.Pure := by
  intro m s n t _ _ _ _
  refine ⟨1000, ?_⟩
  unfold entrepotlaw02_FixedPrints.f
  have hs := shown_eq 1000 (by decide)
  have hs' := shown_eq 999 (by decide)
  have hno : entrepotlaw02_FixedPrints.j0 1000 true m s n t = some true := by
    simp only [entrepotlaw02_FixedPrints.j0, if_true, hs', Option.bind_some]
  obtain ⟨b0, h0⟩ := good_some m s
  obtain ⟨b1, h1⟩ := good_some n t
  rw [h0, h1, hs]
  simp only [Option.bind_some]
  cases b0 with
  | false => simpa using hno
  | true =>
    cases b1 with
    | false => simpa using hno
    | true =>
      obtain ⟨u, rfl, g⟩ := good_yes h0
      obtain ⟨v, rfl, g'⟩ := good_yes h1
      rw [if_pos rfl, if_pos rfl]
      show entrepotlaw02_FixedPrints.j0 1000 false m u n v = some true
      simp only [entrepotlaw02_FixedPrints.j0]
      have hp : fixed_Print.f m u = some ⟨(printS m u).toArray⟩ := by
        unfold fixed_Print.f
        rw [if_pos (by have := g.lo; have := g.hi; have := g.sc; omega)]
        rfl
      rw [if_neg (by simp), hp]
      simp only [Option.bind_some]
      rw [RPrint_eq g]
      simp only [Option.bind_some]
      rw [if_pos trivial, g.least _ (by decide), RLeast_eq m u (by have := g.sc; omega) g.small.1 g.small.2 999 (by have := g.sc; omega)]
      simp only [Option.bind_some]
      rw [if_pos (by simp), Cmp_eq g g' _ (by decide), RCmp_eq g g' _ (by decide)]
      simp
end Go.Proofs.YtldllfadidepaaaDoor.Pure
namespace Go.Proofs.YtldllfadidepaaaDoor.lawFixedPrints
open Go Go.ChangeShapes Go.WideShapes Go.ChangeAt Go.RowKit
open Go.ChangeMaps (open_string shut_string)
set_option linter.unusedVariables false
set_option linter.unusedSimpArgs false
theorem own : ownKnob Tryd.prog.godebug = none := by kernel_rfl
theorem laidOut : laidOutB Tryd.prog = true := by kernel_rfl
theorem door_met (os : Os) (args : Array Value) : laidMetH Tryd.prog [("math/bits.deBruijn32tab", Rows.laid_math_bits_deBruijn32tab), ("math/bits.deBruijn64tab", Rows.laid_math_bits_deBruijn64tab), ("internal/strconv.uint64pow10", Rows.laid_internal_strconv_uint64pow10), ("strconv.ErrRange", Rows.laid_strconv_ErrRange), ("strconv.ErrSyntax", Rows.laid_strconv_ErrSyntax)] ((World.doorLaid Tryd.prog 400 os).forCall (fun _ _ => 0) ⟨#[], args, []⟩).memory :=
  laidMetH_of_parts3 (fuel := 8) (laidMet_of_run' 8 (by kernel_rfl) (by kernel_rfl)) (by kernel_rfl) (by kernel_rfl)
theorem tabs {W : World} (h : laidMetH Tryd.prog [("math/bits.deBruijn32tab", Rows.laid_math_bits_deBruijn32tab), ("math/bits.deBruijn64tab", Rows.laid_math_bits_deBruijn64tab), ("internal/strconv.uint64pow10", Rows.laid_internal_strconv_uint64pow10), ("strconv.ErrRange", Rows.laid_strconv_ErrRange), ("strconv.ErrSyntax", Rows.laid_strconv_ErrSyntax)] W) : Tabs W := by
  rw [MakeChecks.laidMetH_plain _ _ _ (by kernel_rfl)] at h
  have h := h.tail
  have h := h.tail
  exact Lib.tabBelow_of_tabIs (Lib.tabIs_of_head (k := .u64) (zs := Lib.pow10Tab) (g := 2) (t := 110) (e := 85) (n := 20) (by kernel_rfl) (by kernel_rfl) Tryd.underlying110 Tryd.underlying85 (by kernel_rfl) (by kernel_rfl) h)
set_option maxRecDepth 100000 in
theorem lifted (os : Os) (started : os.Started) (H : Type) (enc : TypeId × Value → H) :
    ReturnsInHanded {} Tryd.checked os 5 .any (fun w args => (Rows.fixedPrintsSpec.pre enc Tryd.prog Tryd.f5 [] false w args ∧ laidMetH Tryd.prog [("math/bits.deBruijn32tab", Rows.laid_math_bits_deBruijn32tab), ("math/bits.deBruijn64tab", Rows.laid_math_bits_deBruijn64tab), ("internal/strconv.uint64pow10", Rows.laid_internal_strconv_uint64pow10), ("strconv.ErrRange", Rows.laid_strconv_ErrRange), ("strconv.ErrSyntax", Rows.laid_strconv_ErrSyntax)] w) ∧ sizedMet enc Tryd.prog Tryd.f5 (OpenSpec.ofChange Rows.fixedPrintsSpec) false w args)
      (Rows.fixedPrintsSpec.post enc Tryd.prog Tryd.f5 false true false false) := by
  refine returnsInHanded_of_change_and (C := Tryd.checked) (X := fun w _ => laidMetH Tryd.prog [("math/bits.deBruijn32tab", Rows.laid_math_bits_deBruijn32tab), ("math/bits.deBruijn64tab", Rows.laid_math_bits_deBruijn64tab), ("internal/strconv.uint64pow10", Rows.laid_internal_strconv_uint64pow10), ("strconv.ErrRange", Rows.laid_strconv_ErrRange), ("strconv.ErrSyntax", Rows.laid_strconv_ErrSyntax)] w) (fun _ _ _ hh h => h.of_heap hh) own started (by kernel_rfl) Tryd.func5
    (ChangeSpec.witness_shaped (enc := enc) (C := Tryd.checked) (os := os) (X := fun w _ => laidMetH Tryd.prog [("math/bits.deBruijn32tab", Rows.laid_math_bits_deBruijn32tab), ("math/bits.deBruijn64tab", Rows.laid_math_bits_deBruijn64tab), ("internal/strconv.uint64pow10", Rows.laid_internal_strconv_uint64pow10), ("strconv.ErrRange", Rows.laid_strconv_ErrRange), ("strconv.ErrSyntax", Rows.laid_strconv_ErrSyntax)] w) false (World.doorLaid Tryd.prog 400 os) #[.agg #[.int .i64 0, .int .i64 0], .agg #[.int .i64 0, .int .i64 0]] 8 rfl (World.shaped_of_RefB (by kernel_rfl) (by kernel_rfl)) (by kernel_rfl) (by kernel_rfl) (by kernel_rfl) (door_met os _)) ?_
  intro W base args ds gs before hval0 hW _ hsz0 hL _
  have hsz : (DataW.weightsEach Tryd.prog (Tryd.f5.params.toList ++ Rows.fixedPrintsSpec.plain.varTypes Tryd.prog) (ds ++ gs)).all (· ≤ reachBytes) = true := hsz0
  have hval : ∀ (j : Nat) t v, Tryd.f5.params[j]? = some t → args[j]? = some v → Value.okWide Tryd.prog W .any base t v := hval0
  have hW' := hW
  obtain ⟨p, q, hA0, hV, rfl, hfz, hnd⟩ := hW
  have hA : DataW.TrodAll enc Tryd.prog W 0 (fun _ => true) true Tryd.f5.params.toList args.toList ds p := hA0
  rw [Tryd.params5] at hA hval hsz
  obtain ⟨v0, vs0, d0, ds0, p0, q0, hargs, rfl, rfl, h0, r0⟩ := trodAll_cons hA
  obtain ⟨v1, vs1, d1, ds1, p1, q1, rfl, rfl, rfl, h1, r1⟩ := trodAll_cons r0
  obtain ⟨rfl, rfl, rfl⟩ := trodAll_nil r1
  obtain rfl : args = #[v0, v1] := by cases args; simp_all
  obtain ⟨rfl, rfl⟩ := trodVars_none hV
  have k0 := h0
  have lt0 : ∀ x ∈ p0, x.block < W.heap.size := by obtain ⟨m, hm⟩ := k0; exact DataW.trod_lt m _ _ _ hm
  obtain ⟨c0_0, c0_1, g0_0, g0_1, m0, rfl, rfl, rfl, f0_0, f0_1⟩ := Joins.open_agg2 Tryd.underlying27 (by kernel_rfl) (by kernel_rfl) (hval 0 27 v0 rfl rfl) h0
  obtain ⟨a0_0, ea0_0, ya0_0, wa0_0⟩ := DataW.trod_int Tryd.underlying3 f0_0
  obtain rfl := (List.cons.inj ea0_0).1
  obtain ⟨a0_1, ea0_1, ya0_1, wa0_1⟩ := DataW.trod_int Tryd.underlying3 f0_1
  obtain rfl := (List.cons.inj ea0_1).1
  have k1 := h1
  have lt1 : ∀ x ∈ p1, x.block < W.heap.size := by obtain ⟨m, hm⟩ := k1; exact DataW.trod_lt m _ _ _ hm
  obtain ⟨c1_0, c1_1, g1_0, g1_1, m1, rfl, rfl, rfl, f1_0, f1_1⟩ := Joins.open_agg2 Tryd.underlying27 (by kernel_rfl) (by kernel_rfl) (hval 1 27 v1 rfl rfl) h1
  obtain ⟨a1_0, ea1_0, ya1_0, wa1_0⟩ := DataW.trod_int Tryd.underlying3 f1_0
  obtain rfl := (List.cons.inj ea1_0).1
  obtain ⟨a1_1, ea1_1, ya1_1, wa1_1⟩ := DataW.trod_int Tryd.underlying3 f1_1
  obtain rfl := (List.cons.inj ea1_1).1
  clear hA0 hval0 hsz0 hsz
  obtain ⟨k, hk⟩ := Pure.FixedPrints a0_0 a0_1 a1_0 a1_1 wa0_0 wa0_1 wa1_0 wa1_1
  refine (P.entrepotlaw02_FixedPrints.calls k a0_0 a0_1 a1_0 a1_1 true W (tabs hL) hk).mono fun e W' hp => ?_
  obtain ⟨he, hb⟩ := hp
  subst he
  have bel : Below W.heap.size W W' := hb
  exact ⟨_, rfl, _, _, _, [], _, [], hW', trodAll_mk1 (shut_bool Tryd.underlying4 _), trodAll_cons_mk (Below.trod laidOut (by kernel_rfl) (of_decide_eq_true (by kernel_rfl)) k0 bel lt0) (trodAll_cons_mk (Below.trod laidOut (by kernel_rfl) (of_decide_eq_true (by kernel_rfl)) k1 bel lt1) trodAll_mk0), rfl, bel.frame _, fun h => by cases h⟩
theorem over : Rows.fixedPrintsRow.holds Tryd.pinned (OpenSpec.ofChange Rows.fixedPrintsSpec) :=
  OpenClaim.holds_of_wide 5 Tryd.f5 rfl rfl rfl rfl rfl rfl rfl ⟨rfl, rfl, rfl, rfl, rfl⟩ rfl rfl rfl rfl rfl (by kernel_rfl) Tryd.func5 (by kernel_rfl)
    (of_decide_eq_true (by kernel_rfl)) (by unfold Func.isWrapper; first | (rw [if_pos (by decide +kernel)]; kernel_rfl) | (rw [if_neg (by decide +kernel)]; exact ⟨rfl, rfl⟩))
    (fun os started H enc _ => lifted os started H enc)
theorem card_holds : Rows.FixedPrintsCardSaid :=
  Claim7.holds_tied_plain_at .later [] [.data, .data, .data, .sentinel, .sentinel] true (true, "28f43b617a5675dde0b849d940f8ff89a871987def84bbb0a76c1180cb10c2cf") true
    over (fun _ h => by cases h) (by kernel_rfl) (fun _ h => by cases h) fixedPrints_row_tie rfl ⟨rfl, rfl⟩ (by kernel_rfl) rfl
    (fun f fn hf hfn => by
      obtain rfl : f = 5 := Option.some.inj ((show Tryd.prog.funcNamed "entrepot/entrepotlaw02.FixedPrints" = some 5 by kernel_rfl).symm.trans hf) |>.symm
      obtain rfl : fn = Tryd.f5 := (Option.some.inj (Tryd.func5.symm.trans hfn)).symm
      exact ⟨by kernel_rfl, fun j t ht => by
        rw [Tryd.params5] at ht
        have hm : t ∈ [27] := by simpa using Array.mem_of_getElem? ht
        have hall : ([27].all fun u => !Tryd.prog.wantsStandIn u) = true := by kernel_rfl
        exact (show Tryd.prog.wantsStandIn t = false by simpa using List.all_eq_true.1 hall t hm)⟩)
    (by kernel_rfl)
#print axioms card_holds
end Go.Proofs.YtldllfadidepaaaDoor.lawFixedPrints
namespace Go.Proofs.YtldllfadidepaaaDoor
/-- The card, under a short name, for the claim. -/
theorem lawFixedPrints_holds : Rows.FixedPrintsCardSaid := lawFixedPrints.card_holds
end Go.Proofs.YtldllfadidepaaaDoor
