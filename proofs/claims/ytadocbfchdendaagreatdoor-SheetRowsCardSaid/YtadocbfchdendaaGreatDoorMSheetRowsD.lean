/- SheetRows holds for every input: the law returns true, and its arguments read as they read. Its condition: the library's tables and errors that the row lists lie as the program's text lays them (the card ties this). -/
import Derived.Test.YtadocbfchdendaaGreatDoorMSheetRowsA
import Derived.Test.YtadocbfchdendaaGreatDoorMSheetRowsC
import Derived.Test.YtadocbfchdendaaGreatDoorMSheetRowsB
import Derived.Test.YtadocbfchdendaaGreatDoorRows
import Derived.Test.YtadocbfchdendaaGreatDoorCards
import Derived.Test.YtadocbfchdendaaGreatDoorTie
import Derived.WalkKit
import Derived.ProofKit
import Derived.OpenShut
import Derived.ShutString
import Derived.ChangeOld
import Derived.Below
import Derived.SizedLaws
import Derived.LaidMore
import Derived.Lay
import Derived.SevenTiedAt
import Derived.Lib.SmallJoins
import Derived.Stop.LaidErr
import Derived.Lib.LaidTab
import Derived.Carry
import Derived.Stop.Joined
namespace Go.Proofs.YtadocbfchdendaaGreatDoor.P
open Go.RowKit Go.Proofs.YtadocbfchdendaaGreatDoorW.PrintWords Go.Proofs.YtadocbfchdendaaGreatDoorW.PrintLast Go.Proofs.YtadocbfchdendaaGreatDoorW.PrintMore
attribute [local go_sem] max2_int min2_int max_two min_two max_three min_three max_four min_four   -- for this text's walks alone
set_option linter.unusedVariables false
set_option linter.unusedSimpArgs false
def entrepotref13_Same.l0 : Nat → List (S36) → List (S36) → Int → Option (Bool)
 | 0, _, _, _ => none
 | k + 1, x0, x1, x5 => if x5 < (x0.length : Int) then (if 0 ≤ x5 then (if x5 < (x1.length : Int) then (if ((rd_T36 x0 x5).f0) = ((rd_T36 x1 x5).f0) then ((entrepotref03_Same.f k ((rd_T36 x0 x5).f1) ((rd_T36 x1 x5).f1)).bind fun t105 => (if t105 = true then (entrepotref13_Same.l0 k x0 x1 (wrap64 (x5 + 1))) else (some false))) else (some false)) else (none)) else (none)) else (some true)
def entrepotref13_Same.f (k : Nat) (l0 : List (S36)) (l1 : List (S36)) : Option (Bool) := if (l0.length : Int) = (l1.length : Int) then (entrepotref13_Same.l0 k l0 l1 0) else (some false)
theorem entrepotref13_Same.mono_l : ∀ k, (∀ y0 y1 y2, LeO (entrepotref13_Same.l0 k y0 y1 y2) (entrepotref13_Same.l0 (k + 1) y0 y1 y2))
 | 0 => fun _ _ _ r h => by simp [entrepotref13_Same.l0] at h
 | k + 1 => by
  have ih0 := entrepotref13_Same.mono_l k
  ·intro y0 y1 y2
   unfold entrepotref13_Same.l0
   repeat' first
   | (with_reducible exact ih0 _ _ _)
   | (with_reducible exact entrepotref03_Same.mono _ _ _)
   | (with_reducible exact LeO.refl _)
   | (with_reducible exact LeO.none _)
   | (with_reducible refine LeO.ite ?_ ?_)
   | (with_reducible refine LeO.bind ?_ (fun _ => ?_))
   | exact ih0 _ _ _
   | exact entrepotref03_Same.mono _ _ _
   | exact LeO.none _
   | refine LeO.ite ?_ ?_
   | refine LeO.bind ?_ (fun _ => ?_)
theorem entrepotref13_Same.mono : ∀ a0 a1 k, LeO (entrepotref13_Same.f k a0 a1) (entrepotref13_Same.f (k + 1) a0 a1) := by
 intro a0 a1 k
 have ih0 := entrepotref13_Same.mono_l k
 unfold entrepotref13_Same.f
 repeat' first
   | (with_reducible exact ih0 _ _ _)
   | (with_reducible exact entrepotref03_Same.mono _ _ _)
   | (with_reducible exact LeO.refl _)
   | (with_reducible exact LeO.none _)
   | (with_reducible refine LeO.ite ?_ ?_)
   | (with_reducible refine LeO.bind ?_ (fun _ => ?_))
   | exact ih0 _ _ _
   | exact entrepotref03_Same.mono _ _ _
   | exact LeO.none _
   | refine LeO.ite ?_ ?_
   | refine LeO.bind ?_ (fun _ => ?_)
set_option maxHeartbeats 8000000 in
set_option maxRecDepth 100000 in
theorem entrepotref13_Same.calls (k : Nat) (A0 : Option Addr) (c0 : Nat) (l0 : List (S36)) (A1 : Option Addr) (c1 : Nat) (l1 : List (S36)) (r : Bool) (w : World) (hr0 : Kd.C k36 w A0 l0.length l0) (hc0 : l0.length ≤ c0) (hr1 : Kd.C k36 w A1 l1.length l1) (hc1 : l1.length ≤ c1) (h : entrepotref13_Same.f k l0 l1 = some r) :
  Calls Tryz.prog 17 #[.slice A0 l0.length c0, .slice A1 l1.length c1] w fun e w' => e = .returned (.bool r) ∧ Drawn0 w w' := by
 have HR0 := Aside0.mk hr0
 have HC0 := Aside0.mk hc0
 clear hr0 hc0
 have HR1 := Aside0.mk hr1
 have HC1 := Aside0.mk hc1
 clear hr1 hc1
 have H : (if (l0.length : Int) = (l1.length : Int) then (entrepotref13_Same.l0 k l0 l1 0) else (some false)) = some r := h
 clear h
 by_cases c3 : (l0.length : Int) = (l1.length : Int)
 ·rw [if_pos c3] at H
  have c3b0 : ((l0.length : Int) == (l1.length : Int)) = true := beq_iff_eq.mpr c3
  have c3b1 : ((l0.length : Int) != (l1.length : Int)) = false := bne_eq_false_iff_eq.mpr c3
  have c3b2 : (l0.length == l1.length) = true := by first | simpa using c3 | (simp at c3 ⊢; omega)
  clear c3
  have H' := Aside0.mk H
  clear H
  go_enter Tryz.func17, Tryz.ntmps17
  go_wp2
  repeat (go_quiet (fail); try go_wp2)
  (try simp only [Act.put, List.setIfInBounds_toArray, List.set_cons_zero, List.set_cons_succ])
  go_loopg [5] k (fun kq v5 w' => ∃ (x5_1 : Int), v5 = .int .i64 x5_1 ∧ Aside0 (entrepotref13_Same.l0 kq l0 l1 x5_1 = some r) ∧ Aside0 (kq ≤ k) ∧ Drawn0 w w')
  case atStart => exact ⟨(0), (by first | rfl | (simp; done) | (simp [*]; done)), H', ⟨Nat.le_refl _⟩, by repeat (first | exact Drawn0.refl _ | apply Drawn0.step)⟩
  case round =>
   clear H'
   try clear c1
   try clear p2
   try clear c3
   try clear c3b0
   try clear c3b1
   try clear c3b2
   obtain ⟨x5_1, rfl, HA, HK1, ⟨m1, rfl⟩⟩ := hrel
   cases gk with
   | zero => exact absurd HA.out (by simp [entrepotref13_Same.l0])
   | succ k1 =>
    have H := HA.out
    clear HA
    simp only [entrepotref13_Same.l0] at H
    by_cases c4 : x5_1 < (l0.length : Int)
    ·rw [if_pos c4] at H
     have c4b0 : decide (x5_1 < (l0.length : Int)) = true := decide_eq_true c4
     clear c4
     by_cases c5 : 0 ≤ x5_1
     ·rw [if_pos c5] at H
      have c5b0 : decide (0 ≤ x5_1) = true := decide_eq_true c5
      clear c5
      by_cases c6 : x5_1 < (l1.length : Int)
      ·rw [if_pos c6] at H
       have c6b0 : decide (x5_1 < (l1.length : Int)) = true := decide_eq_true c6
       clear c6
       by_cases c7 : ((rd_T36 l0 x5_1).f0) = ((rd_T36 l1 x5_1).f0)
       ·rw [if_pos c7] at H
        have c7b0 : (((rd_T36 l0 x5_1).f0) == ((rd_T36 l1 x5_1).f0)) = true := beq_iff_eq.mpr c7
        have c7b1 : (((rd_T36 l0 x5_1).f0) != ((rd_T36 l1 x5_1).f0)) = false := bne_eq_false_iff_eq.mpr c7
        clear c7
        replace H := Option.bind_eq_some_iff.mp H
        obtain ⟨t105, A80, H⟩ := H
        replace H : (if t105 = true then (entrepotref13_Same.l0 k1 l0 l1 (wrap64 (x5_1 + 1))) else (some false)) = some r := H
        have A8 := Aside0.mk A80
        clear A80
        by_cases c9 : t105 = true
        ·subst c9
         have H1 : (entrepotref13_Same.l0 k1 l0 l1 (wrap64 (x5_1 + 1))) = some r := by rw [if_pos rfl] at H; exact H
         clear H
         have H := H1
         clear H1
         have H' := Aside0.mk H
         clear H
         have p101 : 0 ≤ (x5_1 : Int) := of_decide_eq_true (by first | (with_reducible assumption) | assumption)
         have q101 : x5_1 < (l0.length : Int) := of_decide_eq_true (by first | (with_reducible assumption) | assumption)
         obtain ⟨ad101, A101_1, c101_1, e101, hx101_0, hx101_1, hl101_1, hi101_1⟩ := at_T36 HR0.out x5_1 p101 q101
         cases e101
         have HR101_1 := Aside0.mk hi101_1
         have HC101_1 := Aside0.mk hl101_1
         clear hi101_1 hl101_1
         (try simp only [Go.IntWalk.toNatUp] at hx101_0)
         (try simp only [Go.IntWalk.toNatUp] at hx101_1)
         replace p101 := eq_true p101
         replace q101 := eq_true q101
         have p102 : 0 ≤ (x5_1 : Int) := of_decide_eq_true (by first | (with_reducible assumption) | assumption)
         have q102 : x5_1 < (l1.length : Int) := of_decide_eq_true (by first | (with_reducible assumption) | assumption)
         obtain ⟨ad102, A102_1, c102_1, e102, hx102_0, hx102_1, hl102_1, hi102_1⟩ := at_T36 HR1.out x5_1 p102 q102
         cases e102
         have HR102_1 := Aside0.mk hi102_1
         have HC102_1 := Aside0.mk hl102_1
         clear hi102_1 hl102_1
         (try simp only [Go.IntWalk.toNatUp] at hx102_0)
         (try simp only [Go.IntWalk.toNatUp] at hx102_1)
         replace p102 := eq_true p102
         replace q102 := eq_true q102
         have p103 : 0 ≤ (x5_1 : Int) := of_decide_eq_true (by first | (with_reducible assumption) | assumption)
         have q103 : x5_1 < (l0.length : Int) := of_decide_eq_true (by first | (with_reducible assumption) | assumption)
         obtain ⟨ad103, A103_1, c103_1, e103, hx103_0, hx103_1, hl103_1, hi103_1⟩ := at_T36 HR0.out x5_1 p103 q103
         obtain rfl : ad101 = ad103 := (by injection e103)
         have HR103_1 := Aside0.mk hi103_1
         have HC103_1 := Aside0.mk hl103_1
         clear hi103_1 hl103_1
         (try simp only [Go.IntWalk.toNatUp] at hx103_0)
         (try simp only [Go.IntWalk.toNatUp] at hx103_1)
         replace p103 := eq_true p103
         replace q103 := eq_true q103
         have ea_ := Option.some.inj (hx101_1.symm.trans hx103_1)
         injection ea_ with ea_ en_ ec_
         subst ea_
         subst ec_
         clear en_
         have p104 : 0 ≤ (x5_1 : Int) := of_decide_eq_true (by first | (with_reducible assumption) | assumption)
         have q104 : x5_1 < (l1.length : Int) := of_decide_eq_true (by first | (with_reducible assumption) | assumption)
         obtain ⟨ad104, A104_1, c104_1, e104, hx104_0, hx104_1, hl104_1, hi104_1⟩ := at_T36 HR1.out x5_1 p104 q104
         obtain rfl : ad102 = ad104 := (by injection e104)
         have HR104_1 := Aside0.mk hi104_1
         have HC104_1 := Aside0.mk hl104_1
         clear hi104_1 hl104_1
         (try simp only [Go.IntWalk.toNatUp] at hx104_0)
         (try simp only [Go.IntWalk.toNatUp] at hx104_1)
         replace p104 := eq_true p104
         replace q104 := eq_true q104
         have ea_ := Option.some.inj (hx102_1.symm.trans hx104_1)
         injection ea_ with ea_ en_ ec_
         subst ea_
         subst ec_
         clear en_
         go_wp2_with (first | (go_at_call 51; (with_reducible refine (entrepotref03_Same.calls k1 _ _ ((rd_T36 l0 x5_1).f1) _ _ ((rd_T36 l1 x5_1).f1) true _ ?side1 ?side2 ?side3 ?side4 A8.out).mono ?_); (case side1 => repeat (first | exact HR103_1.out | (with_reducible refine Kd.C_alloc ?_ _) | (with_reducible refine Kd.C_drewN ?_ _) | (with_reducible refine Kd.C_drew ?_))); (case side2 => exact HC103_1.out); (case side3 => repeat (first | exact HR104_1.out | (with_reducible refine Kd.C_alloc ?_ _) | (with_reducible refine Kd.C_drewN ?_ _) | (with_reducible refine Kd.C_drew ?_))); (case side4 => exact HC104_1.out); rintro e w' ⟨rfl, ⟨nd, rfl⟩⟩; (try first | exact ⟨rfl, _, World.drewN_drewN _ _ _⟩ | exact ⟨rfl, _, Eq.trans (World.drewN_drewN _ _ _) (congrArg (World.drewN _) (Nat.add_assoc _ _ _))⟩)))
         repeat (go_quiet (first | (go_at_call 51; (try simp only [Go.IntWalk.i64_left]); (with_reducible refine (entrepotref03_Same.calls k1 _ _ ((rd_T36 l0 x5_1).f1) _ _ ((rd_T36 l1 x5_1).f1) true _ ?side1 ?side2 ?side3 ?side4 A8.out).mono ?_); (case side1 => repeat (first | exact HR103_1.out | (with_reducible refine Kd.C_alloc ?_ _) | (with_reducible refine Kd.C_drewN ?_ _) | (with_reducible refine Kd.C_drew ?_))); (case side2 => exact HC103_1.out); (case side3 => repeat (first | exact HR104_1.out | (with_reducible refine Kd.C_alloc ?_ _) | (with_reducible refine Kd.C_drewN ?_ _) | (with_reducible refine Kd.C_drew ?_))); (case side4 => exact HC104_1.out); rintro e w' ⟨rfl, ⟨nd, rfl⟩⟩; (try first | exact ⟨rfl, _, World.drewN_drewN _ _ _⟩ | exact ⟨rfl, _, Eq.trans (World.drewN_drewN _ _ _) (congrArg (World.drewN _) (Nat.add_assoc _ _ _))⟩))); (try simp only [Go.IntWalk.i64_left]); try go_wp2_with (first | (go_at_call 51; (try simp only [Go.IntWalk.i64_left]); (with_reducible refine (entrepotref03_Same.calls k1 _ _ ((rd_T36 l0 x5_1).f1) _ _ ((rd_T36 l1 x5_1).f1) true _ ?side1 ?side2 ?side3 ?side4 A8.out).mono ?_); (case side1 => repeat (first | exact HR103_1.out | (with_reducible refine Kd.C_alloc ?_ _) | (with_reducible refine Kd.C_drewN ?_ _) | (with_reducible refine Kd.C_drew ?_))); (case side2 => exact HC103_1.out); (case side3 => repeat (first | exact HR104_1.out | (with_reducible refine Kd.C_alloc ?_ _) | (with_reducible refine Kd.C_drewN ?_ _) | (with_reducible refine Kd.C_drew ?_))); (case side4 => exact HC104_1.out); rintro e w' ⟨rfl, ⟨nd, rfl⟩⟩; (try first | exact ⟨rfl, _, World.drewN_drewN _ _ _⟩ | exact ⟨rfl, _, Eq.trans (World.drewN_drewN _ _ _) (congrArg (World.drewN _) (Nat.add_assoc _ _ _))⟩))))
         go_roundg k1
         case measure => have := HK1.out; omega
         case rel => exact ⟨(wrap64 (x5_1 + 1)), (by first | rfl | (simp; done) | (simp [*]; done)), H', ⟨by have := HK1.out; omega⟩, by repeat (first | exact Drawn0.refl _ | apply Drawn0.step)⟩
        ·replace c9 := Bool.eq_false_iff.mpr c9
         subst c9
         have H1 : (some false) = some r := by rw [if_neg (show ¬ (false = true) by decide)] at H; exact H
         clear H
         have H := H1
         clear H1
         obtain rfl := Option.some.inj H
         have p101 : 0 ≤ (x5_1 : Int) := of_decide_eq_true (by first | (with_reducible assumption) | assumption)
         have q101 : x5_1 < (l0.length : Int) := of_decide_eq_true (by first | (with_reducible assumption) | assumption)
         obtain ⟨ad101, A101_1, c101_1, e101, hx101_0, hx101_1, hl101_1, hi101_1⟩ := at_T36 HR0.out x5_1 p101 q101
         cases e101
         have HR101_1 := Aside0.mk hi101_1
         have HC101_1 := Aside0.mk hl101_1
         clear hi101_1 hl101_1
         (try simp only [Go.IntWalk.toNatUp] at hx101_0)
         (try simp only [Go.IntWalk.toNatUp] at hx101_1)
         replace p101 := eq_true p101
         replace q101 := eq_true q101
         have p102 : 0 ≤ (x5_1 : Int) := of_decide_eq_true (by first | (with_reducible assumption) | assumption)
         have q102 : x5_1 < (l1.length : Int) := of_decide_eq_true (by first | (with_reducible assumption) | assumption)
         obtain ⟨ad102, A102_1, c102_1, e102, hx102_0, hx102_1, hl102_1, hi102_1⟩ := at_T36 HR1.out x5_1 p102 q102
         cases e102
         have HR102_1 := Aside0.mk hi102_1
         have HC102_1 := Aside0.mk hl102_1
         clear hi102_1 hl102_1
         (try simp only [Go.IntWalk.toNatUp] at hx102_0)
         (try simp only [Go.IntWalk.toNatUp] at hx102_1)
         replace p102 := eq_true p102
         replace q102 := eq_true q102
         have p103 : 0 ≤ (x5_1 : Int) := of_decide_eq_true (by first | (with_reducible assumption) | assumption)
         have q103 : x5_1 < (l0.length : Int) := of_decide_eq_true (by first | (with_reducible assumption) | assumption)
         obtain ⟨ad103, A103_1, c103_1, e103, hx103_0, hx103_1, hl103_1, hi103_1⟩ := at_T36 HR0.out x5_1 p103 q103
         obtain rfl : ad101 = ad103 := (by injection e103)
         have HR103_1 := Aside0.mk hi103_1
         have HC103_1 := Aside0.mk hl103_1
         clear hi103_1 hl103_1
         (try simp only [Go.IntWalk.toNatUp] at hx103_0)
         (try simp only [Go.IntWalk.toNatUp] at hx103_1)
         replace p103 := eq_true p103
         replace q103 := eq_true q103
         have ea_ := Option.some.inj (hx101_1.symm.trans hx103_1)
         injection ea_ with ea_ en_ ec_
         subst ea_
         subst ec_
         clear en_
         have p104 : 0 ≤ (x5_1 : Int) := of_decide_eq_true (by first | (with_reducible assumption) | assumption)
         have q104 : x5_1 < (l1.length : Int) := of_decide_eq_true (by first | (with_reducible assumption) | assumption)
         obtain ⟨ad104, A104_1, c104_1, e104, hx104_0, hx104_1, hl104_1, hi104_1⟩ := at_T36 HR1.out x5_1 p104 q104
         obtain rfl : ad102 = ad104 := (by injection e104)
         have HR104_1 := Aside0.mk hi104_1
         have HC104_1 := Aside0.mk hl104_1
         clear hi104_1 hl104_1
         (try simp only [Go.IntWalk.toNatUp] at hx104_0)
         (try simp only [Go.IntWalk.toNatUp] at hx104_1)
         replace p104 := eq_true p104
         replace q104 := eq_true q104
         have ea_ := Option.some.inj (hx102_1.symm.trans hx104_1)
         injection ea_ with ea_ en_ ec_
         subst ea_
         subst ec_
         clear en_
         go_wp2_with (first | (go_at_call 51; (with_reducible refine (entrepotref03_Same.calls k1 _ _ ((rd_T36 l0 x5_1).f1) _ _ ((rd_T36 l1 x5_1).f1) false _ ?side1 ?side2 ?side3 ?side4 A8.out).mono ?_); (case side1 => repeat (first | exact HR103_1.out | (with_reducible refine Kd.C_alloc ?_ _) | (with_reducible refine Kd.C_drewN ?_ _) | (with_reducible refine Kd.C_drew ?_))); (case side2 => exact HC103_1.out); (case side3 => repeat (first | exact HR104_1.out | (with_reducible refine Kd.C_alloc ?_ _) | (with_reducible refine Kd.C_drewN ?_ _) | (with_reducible refine Kd.C_drew ?_))); (case side4 => exact HC104_1.out); rintro e w' ⟨rfl, ⟨nd, rfl⟩⟩; (try first | exact ⟨rfl, _, World.drewN_drewN _ _ _⟩ | exact ⟨rfl, _, Eq.trans (World.drewN_drewN _ _ _) (congrArg (World.drewN _) (Nat.add_assoc _ _ _))⟩)))
         repeat (go_quiet (first | (go_at_call 51; (try simp only [Go.IntWalk.i64_left]); (with_reducible refine (entrepotref03_Same.calls k1 _ _ ((rd_T36 l0 x5_1).f1) _ _ ((rd_T36 l1 x5_1).f1) false _ ?side1 ?side2 ?side3 ?side4 A8.out).mono ?_); (case side1 => repeat (first | exact HR103_1.out | (with_reducible refine Kd.C_alloc ?_ _) | (with_reducible refine Kd.C_drewN ?_ _) | (with_reducible refine Kd.C_drew ?_))); (case side2 => exact HC103_1.out); (case side3 => repeat (first | exact HR104_1.out | (with_reducible refine Kd.C_alloc ?_ _) | (with_reducible refine Kd.C_drewN ?_ _) | (with_reducible refine Kd.C_drew ?_))); (case side4 => exact HC104_1.out); rintro e w' ⟨rfl, ⟨nd, rfl⟩⟩; (try first | exact ⟨rfl, _, World.drewN_drewN _ _ _⟩ | exact ⟨rfl, _, Eq.trans (World.drewN_drewN _ _ _) (congrArg (World.drewN _) (Nat.add_assoc _ _ _))⟩))); (try simp only [Go.IntWalk.i64_left]); try go_wp2_with (first | (go_at_call 51; (try simp only [Go.IntWalk.i64_left]); (with_reducible refine (entrepotref03_Same.calls k1 _ _ ((rd_T36 l0 x5_1).f1) _ _ ((rd_T36 l1 x5_1).f1) false _ ?side1 ?side2 ?side3 ?side4 A8.out).mono ?_); (case side1 => repeat (first | exact HR103_1.out | (with_reducible refine Kd.C_alloc ?_ _) | (with_reducible refine Kd.C_drewN ?_ _) | (with_reducible refine Kd.C_drew ?_))); (case side2 => exact HC103_1.out); (case side3 => repeat (first | exact HR104_1.out | (with_reducible refine Kd.C_alloc ?_ _) | (with_reducible refine Kd.C_drewN ?_ _) | (with_reducible refine Kd.C_drew ?_))); (case side4 => exact HC104_1.out); rintro e w' ⟨rfl, ⟨nd, rfl⟩⟩; (try first | exact ⟨rfl, _, World.drewN_drewN _ _ _⟩ | exact ⟨rfl, _, Eq.trans (World.drewN_drewN _ _ _) (congrArg (World.drewN _) (Nat.add_assoc _ _ _))⟩))))
         go_ret
         exact ⟨by first | rfl | (simp; done) | (simp [*]; done), by repeat (first | exact Drawn0.refl _ | apply Drawn0.step)⟩
       ·rw [if_neg c7] at H
        have c7b0 : (((rd_T36 l0 x5_1).f0) == ((rd_T36 l1 x5_1).f0)) = false := beq_eq_false_iff_ne.mpr c7
        have c7b1 : (((rd_T36 l0 x5_1).f0) != ((rd_T36 l1 x5_1).f0)) = true := bne_iff_ne.mpr c7
        obtain rfl := Option.some.inj H
        have p101 : 0 ≤ (x5_1 : Int) := of_decide_eq_true (by first | (with_reducible assumption) | assumption)
        have q101 : x5_1 < (l0.length : Int) := of_decide_eq_true (by first | (with_reducible assumption) | assumption)
        obtain ⟨ad101, A101_1, c101_1, e101, hx101_0, hx101_1, hl101_1, hi101_1⟩ := at_T36 HR0.out x5_1 p101 q101
        cases e101
        have HR101_1 := Aside0.mk hi101_1
        have HC101_1 := Aside0.mk hl101_1
        clear hi101_1 hl101_1
        (try simp only [Go.IntWalk.toNatUp] at hx101_0)
        (try simp only [Go.IntWalk.toNatUp] at hx101_1)
        replace p101 := eq_true p101
        replace q101 := eq_true q101
        have p102 : 0 ≤ (x5_1 : Int) := of_decide_eq_true (by first | (with_reducible assumption) | assumption)
        have q102 : x5_1 < (l1.length : Int) := of_decide_eq_true (by first | (with_reducible assumption) | assumption)
        obtain ⟨ad102, A102_1, c102_1, e102, hx102_0, hx102_1, hl102_1, hi102_1⟩ := at_T36 HR1.out x5_1 p102 q102
        cases e102
        have HR102_1 := Aside0.mk hi102_1
        have HC102_1 := Aside0.mk hl102_1
        clear hi102_1 hl102_1
        (try simp only [Go.IntWalk.toNatUp] at hx102_0)
        (try simp only [Go.IntWalk.toNatUp] at hx102_1)
        replace p102 := eq_true p102
        replace q102 := eq_true q102
        go_wp2
        repeat (go_quiet (fail); try go_wp2)
        go_ret
        exact ⟨by first | rfl | (simp; done) | (simp [*]; done), by repeat (first | exact Drawn0.refl _ | apply Drawn0.step)⟩
      ·rw [if_neg c6] at H
       exact absurd H (by simp)
     ·rw [if_neg c5] at H
      exact absurd H (by simp)
    ·rw [if_neg c4] at H
     have c4b0 : decide (x5_1 < (l0.length : Int)) = false := decide_eq_false c4
     clear c4
     obtain rfl := Option.some.inj H
     go_wp2
     repeat (go_quiet (fail); try go_wp2)
     go_ret
     exact ⟨by first | rfl | (simp; done) | (simp [*]; done), by repeat (first | exact Drawn0.refl _ | apply Drawn0.step)⟩
 ·rw [if_neg c3] at H
  have c3b0 : ((l0.length : Int) == (l1.length : Int)) = false := beq_eq_false_iff_ne.mpr c3
  have c3b1 : ((l0.length : Int) != (l1.length : Int)) = true := bne_iff_ne.mpr c3
  have c3b2 : (l0.length == l1.length) = false := by first | simpa using c3 | (simp at c3 ⊢; omega)
  obtain rfl := Option.some.inj H
  go_enter Tryz.func17, Tryz.ntmps17
  go_wp2
  repeat (go_quiet (fail); try go_wp2)
  go_ret
  exact ⟨by first | rfl | (simp; done) | (simp [*]; done), by repeat (first | exact Drawn0.refl _ | apply Drawn0.step)⟩

end Go.Proofs.YtadocbfchdendaaGreatDoor.P
namespace Go.Proofs.YtadocbfchdendaaGreatDoor.P
open Go.RowKit Go.Proofs.YtadocbfchdendaaGreatDoorW.PrintWords Go.Proofs.YtadocbfchdendaaGreatDoorW.PrintLast Go.Proofs.YtadocbfchdendaaGreatDoorW.PrintMore
attribute [local go_sem] max2_int min2_int max_two min_two max_three min_three max_four min_four   -- for this text's walks alone
set_option linter.unusedVariables false
set_option linter.unusedSimpArgs false
mutual
def entrepotlaw13_its.l0 : Nat → List (S32) → List (S36) → Int → Option ((List (S36)))
 | 0, _, _, _ => none
 | k + 1, x0, x3, x4 => if x4 < (x0.length : Int) then (if 0 ≤ x4 then (entrepotlaw13_its.l1 k x0 x3 x4 0 ((rd_T32 x0 x4).f0) ([] : List (S104))) else (none)) else (some x3)
def entrepotlaw13_its.l1 : Nat → List (S32) → List (S36) → Int → Int → Int → List (S104) → Option ((List (S36)))
 | 0, _, _, _, _, _, _ => none
 | k + 1, x0, x3, x4, x6, x106000, x106001 => if 0 ≤ x4 then (if x4 < (x0.length : Int) then (if x6 < (((rd_T32 x0 x4).f1).length : Int) then (if 0 ≤ x6 then (if x106001.length < 8796093022208 then (entrepotlaw13_its.l1 k x0 x3 x4 (wrap64 (x6 + 1)) x106000 (x106001 ++ [(⟨(rd_T105 ((rd_T32 x0 x4).f1) x6).f0, (rd_T105 ((rd_T32 x0 x4).f1) x6).f1⟩ : S104)])) else (none)) else (none)) else (if x3.length < 4398046511104 then (entrepotlaw13_its.l0 k x0 (x3 ++ [(⟨x106000, x106001⟩ : S36)]) (wrap64 (x4 + 1))) else (none))) else (none)) else (none)
end
def entrepotlaw13_its.f (k : Nat) (l0 : List (S32)) : Option ((List (S36))) := entrepotlaw13_its.l0 k l0 (([] : List (S36))) 0
theorem entrepotlaw13_its.mono_l : ∀ k, (∀ y0 y1 y2, LeO (entrepotlaw13_its.l0 k y0 y1 y2) (entrepotlaw13_its.l0 (k + 1) y0 y1 y2)) ∧ (∀ y0 y1 y2 y3 y4 y5, LeO (entrepotlaw13_its.l1 k y0 y1 y2 y3 y4 y5) (entrepotlaw13_its.l1 (k + 1) y0 y1 y2 y3 y4 y5))
 | 0 => ⟨fun _ _ _ r h => by simp [entrepotlaw13_its.l0] at h, fun _ _ _ _ _ _ r h => by simp [entrepotlaw13_its.l1] at h⟩
 | k + 1 => by
  obtain ⟨ih0, ih1⟩ := entrepotlaw13_its.mono_l k
  refine ⟨?_, ?_⟩
  ·intro y0 y1 y2
   unfold entrepotlaw13_its.l0
   repeat' first
   | (with_reducible exact ih0 _ _ _)
   | (with_reducible exact ih1 _ _ _ _ _ _)
   | (with_reducible exact LeO.refl _)
   | (with_reducible exact LeO.none _)
   | (with_reducible refine LeO.ite ?_ ?_)
   | (with_reducible refine LeO.bind ?_ (fun _ => ?_))
   | exact ih0 _ _ _
   | exact ih1 _ _ _ _ _ _
   | exact LeO.none _
   | refine LeO.ite ?_ ?_
   | refine LeO.bind ?_ (fun _ => ?_)
  ·intro y0 y1 y2 y3 y4 y5
   unfold entrepotlaw13_its.l1
   repeat' first
   | (with_reducible exact ih0 _ _ _)
   | (with_reducible exact ih1 _ _ _ _ _ _)
   | (with_reducible exact LeO.refl _)
   | (with_reducible exact LeO.none _)
   | (with_reducible refine LeO.ite ?_ ?_)
   | (with_reducible refine LeO.bind ?_ (fun _ => ?_))
   | exact ih0 _ _ _
   | exact ih1 _ _ _ _ _ _
   | exact LeO.none _
   | refine LeO.ite ?_ ?_
   | refine LeO.bind ?_ (fun _ => ?_)
theorem entrepotlaw13_its.mono : ∀ a0 k, LeO (entrepotlaw13_its.f k a0) (entrepotlaw13_its.f (k + 1) a0) := by
 intro a0 k
 obtain ⟨ih0, ih1⟩ := entrepotlaw13_its.mono_l k
 unfold entrepotlaw13_its.f
 repeat' first
   | (with_reducible exact ih0 _ _ _)
   | (with_reducible exact ih1 _ _ _ _ _ _)
   | (with_reducible exact LeO.refl _)
   | (with_reducible exact LeO.none _)
   | (with_reducible refine LeO.ite ?_ ?_)
   | (with_reducible refine LeO.bind ?_ (fun _ => ?_))
   | exact ih0 _ _ _
   | exact ih1 _ _ _ _ _ _
   | exact LeO.none _
   | refine LeO.ite ?_ ?_
   | refine LeO.bind ?_ (fun _ => ?_)
def entrepotlaw13_its.T9 : Bool × List (List Nat × List Nat) := (true, [([], []), ([0], [0]), ([], []), ([], []), ([2, 3], [2, 3]), ([4], [4]), ([5], [5]), ([], []), ([6, 7], [6, 7]), ([8], [8]), ([9], [9]), ([1, 10], [1, 10]), ([0, 1, 2, 3, 4, 5, 6, 7, 8, 9, 10, 11], []), ([12, 11, 11, 0, 1, 2, 3, 4, 5, 6, 7, 8, 9, 10, 11], [11, 12])])
def entrepotlaw13_its.B9 : List Nat := [0, 1, 0, 0, 12, 28, 60, 0, 252, 508, 1020, 2047, 4095, 8191]
theorem entrepotlaw13_its.tab9 : rtab .any (opsOf Tryz.f18 9) = entrepotlaw13_its.T9 := by kernel_rfl
theorem entrepotlaw13_its.bits9 : waitsOk entrepotlaw13_its.T9.2 entrepotlaw13_its.B9 = true := by kernel_rfl
set_option maxHeartbeats 8000000 in
set_option maxRecDepth 100000 in
theorem entrepotlaw13_its.calls (k : Nat) (A0 : Option Addr) (c0 : Nat) (l0 : List (S32)) (r : List (S36)) (w : World) (hr0 : Kd.C k32 w A0 l0.length l0) (hc0 : l0.length ≤ c0) (h : entrepotlaw13_its.f k l0 = some r) :
  Calls Tryz.prog 18 #[.slice A0 l0.length c0] w fun e w' => ∃ v0_ : Value, e = .returned (v0_) ∧ Kd.S k36 36 w' w.heap.size (fun _ => True) v0_ r ∧ Below w.heap.size w w' := by
 have hu36 := Tryz.underlying36
 have hu105 := Tryz.underlying105
 have HR0 := Aside0.mk hr0
 have HC0 := Aside0.mk hc0
 clear hr0 hc0
 have HB := Aside0.mk (Below.refl w.heap.size w)
 have H : (entrepotlaw13_its.l0 k l0 (([] : List (S36))) 0) = some r := h
 clear h
 obtain ⟨y101, hy101⟩ : ∃ y_ : List (S36), y_ = (([] : List (S36))) := ⟨_, rfl⟩
 replace H : (entrepotlaw13_its.l0 k l0 y101 0) = some r := by first | (rw [hy101]; with_reducible exact H) | (have H2_ := (Option.bind_some _ _).symm.trans H; rw [hy101]; with_reducible exact H2_) | (have H2_ := (Option.bind_some _ _).symm.trans H; with_reducible exact H2_) | with_reducible exact H | (rw [hy101]; exact H) | exact H
 have Ny101 := Aside0.mk hy101
 clear hy101
 have H' := Aside0.mk H
 clear H
 go_enter Tryz.func18, Tryz.ntmps18
 go_wp2_with (first | ((with_reducible refine gate_dst (N := 7) rfl ?_); refine Kd.S_lit k36 _ 36 ?hg (N := 7) ?hd (xs := ([] : List (S36))) (inner := []) (ok := fun _ => True) (okp := fun _ => True) ?hr ?hp (fun _ hk => hk) trivial (Below.refl _ _) (Nat.le_refl _) (by simp) ?_; (case hd => rfl); (case hg => rfl); (case hr => first | (go_simp; done) | (go_simp; rfl)); (case hp => exact (Reps.none _ _)); intro v102 w2 ho3 hb hg_ hnew_; clear hg_ hnew_; (first | rw [← Ny101.out] at ho3 | (simp only [Int.reduceToNat] at ho3; rw [← Ny101.out] at ho3)); have n0_ := Aside0.mk (Kd.S_lower ho3 (below_size (by repeat (first | (with_reducible first | exact HB.out | apply below_alloc | apply pw_below_drewN | apply below_drew1) | exact HB.out)))); have n1_ := Aside0.mk (below_step (by repeat (first | (with_reducible first | exact HB.out | apply below_alloc | apply pw_below_drewN | apply below_drew1) | exact HB.out)) hb); clear HB; have HO103 := n0_; have HB := n1_; clear n0_ n1_; clear hb ho3))
 (try simp only [Act.put, List.setIfInBounds_toArray, List.set_cons_zero, List.set_cons_succ])
 go_loopg [3, 4] k (fun kq v3 v4 w' => ∃ (x3_1 : List (S36)) (x4_1 : Int), v4 = .int .i64 x4_1 ∧ Aside0 (entrepotlaw13_its.l0 kq l0 x3_1 x4_1 = some r) ∧ Aside0 (kq ≤ k) ∧ Aside0 (Kd.S k36 36 w' w.heap.size (fun _ => True) v3 x3_1) ∧ Aside0 (Below w.heap.size w w'))
 case atStart => exact ⟨(y101), (0), (by first | rfl | (simp; done) | (simp [*]; done)), H', ⟨Nat.le_refl _⟩, ⟨by (with_reducible repeat (first | apply Kd.S_alloc | apply Kd.S_drewN | apply Kd.S_drew)); exact HO103.out⟩, ⟨by repeat (first | (with_reducible first | exact HB.out | apply below_alloc | apply pw_below_drewN | apply below_drew1) | exact HB.out)⟩⟩
 case round =>
  clear H'
  try clear c1
  try clear p2
  obtain ⟨x3_1, x4_1, rfl, HA, HK1, HO_3, HB⟩ := hrel
  cases gk with
  | zero => exact absurd HA.out (by simp [entrepotlaw13_its.l0])
  | succ k1 =>
   have H := HA.out
   clear HA
   simp only [entrepotlaw13_its.l0] at H
   by_cases c4 : x4_1 < (l0.length : Int)
   ·rw [if_pos c4] at H
    have c4b0 : decide (x4_1 < (l0.length : Int)) = true := decide_eq_true c4
    clear c4
    by_cases c5 : 0 ≤ x4_1
    ·rw [if_pos c5] at H
     have c5b0 : decide (0 ≤ x4_1) = true := decide_eq_true c5
     clear c5
     have H' := Aside0.mk H
     clear H
     have p104 : 0 ≤ (x4_1 : Int) := of_decide_eq_true (by first | (with_reducible assumption) | assumption)
     have q104 : x4_1 < (l0.length : Int) := of_decide_eq_true (by first | (with_reducible assumption) | assumption)
     obtain ⟨ad104, A104_1, c104_1, e104, hx104_0, hx104_1, hl104_1, hi104_1⟩ := at_T32 HR0.out x4_1 p104 q104
     cases e104
     replace hx104_0 := (HB.out.cell (World.block_lt_of_cell? w _ hx104_0)).trans hx104_0
     replace hx104_1 := (HB.out.cell (World.block_lt_of_cell? w _ hx104_1)).trans hx104_1
     have HR104_1 := Aside0.mk hi104_1
     have HC104_1 := Aside0.mk hl104_1
     clear hi104_1 hl104_1
     (try simp only [Go.IntWalk.toNatUp] at hx104_0)
     (try simp only [Go.IntWalk.toNatUp] at hx104_1)
     replace p104 := eq_true p104
     replace q104 := eq_true q104
     go_wp2_with (first | ((with_reducible refine gate_dst (N := 5) rfl ?_); refine box_event ?hg (N := 5) ?hd (cs := #[.int .i64 0, .slice none 0 0]) (t := 36) ?hr ?_; (case hd => rfl); (case hg => rfl); (case hr => first | (go_simp; done) | (go_simp; rfl)); intro gb105 hg w6 hbox hb; have n0_ := Aside0.mk (Kd.S_below (Kd.S_elderB (by (with_reducible repeat (first | apply Kd.S_alloc | apply Kd.S_drewN | apply Kd.S_drew)); exact HO_3.out) gb105 (Nat.le_of_eq hg.symm)) hb); have n1_ := Aside0.mk (below_step (by repeat (first | (with_reducible first | exact HB.out | apply below_alloc | apply pw_below_drewN | apply below_drew1) | exact HB.out)) hb); have n2_ := Aside0.mk (hbox); have n3_ := Aside0.mk ((by rw [hg]; exact (below_size (by repeat (first | (with_reducible first | exact HB.out | apply below_alloc | apply pw_below_drewN | apply below_drew1) | exact HB.out))) : w.heap.size ≤ gb105)); have n4_ := Aside0.mk ((by rw [hg]; exact (below_size (by repeat (first | (with_reducible first | exact HB.out | apply below_alloc | apply pw_below_drewN | apply below_drew1) | exact HB.out))) : w.heap.size ≤ gb105)); clear HO_3; clear HB; have HO_3 := n0_; have HB := n1_; have BK105 := n2_; have GW105 := n3_; have GE105 := n4_; clear n0_ n1_ n2_ n3_ n4_; clear hb hbox hg; have hcz7_0 : w6.cell? ⟨gb105, 0, none⟩ = some (.int .i64 0) := (blk_cell BK105.out 0).trans rfl; have hcz7_1 : w6.cell? ⟨gb105, 1, none⟩ = some (.slice none 0 0) := (blk_cell BK105.out 1).trans rfl; have hfz7_0 := blk_frozen BK105.out 0; have hfz7_1 := blk_frozen BK105.out 1))
     (try simp only [Act.put, List.setIfInBounds_toArray, List.set_cons_zero, List.set_cons_succ])
     go_loopg [6] k1 (fun kq v6 w' => ∃ (x6_2 : Int) (x106001_2 : List (S104)) (u106001 : Value), v6 = .int .i64 x6_2 ∧ Aside0 (entrepotlaw13_its.l1 kq l0 x3_1 x4_1 x6_2 ((rd_T32 l0 x4_1).f0) x106001_2 = some r) ∧ Aside0 (kq ≤ k1) ∧ Aside0 (Kd.S k36 36 w' w.heap.size (fun k_ => some k_ ≠ (u106001 : Value).ownBlock ∧ k_ ≠ gb105) u3 x3_1) ∧ Aside0 (Kd.R k104 104 w' w.heap.size (fun _ => True) u106001 x106001_2) ∧ Aside0 (w'.heap[gb105]? = some (.cells #[.int .i64 ((rd_T32 l0 x4_1).f0), u106001] 36 (0, 0))) ∧ Aside0 (Below w.heap.size w w'))
     case atStart => exact ⟨(0), (([] : List (S104))), (.slice none 0 0), (by first | rfl | (simp; done) | (simp [*]; done)), H', ⟨Nat.le_refl _⟩, ⟨by (with_reducible repeat (first | apply Kd.S_alloc | apply Kd.S_drewN | apply Kd.S_drew)); exact Kd.S_mono (Kd.S_far (p := ⟨gb105, 1, none⟩) (Kd.S_far (p := ⟨gb105, 0, none⟩) (Kd.S_mono HO_3.out (fun k_ hk => (⟨hk, hk.2⟩ : _ ∧ k_ ≠ gb105))) (fun _ hk => hk.2) (.int .i64 ((rd_T32 l0 x4_1).f0))) (fun _ hk => hk.2) (.slice none 0 0)) (fun _ hk => ⟨(by simp [Value.ownBlock]), hk.1.2⟩)⟩, ⟨by first | exact Kd.R_nil _ _ _ _ _ | exact Kd.N_nil _ _ _ _ _ | exact Kd.V_nil _ _ _ _ _ | exact Kd.Q_nil _ _ _ _ _ | exact Kd.S_nil _ _ _ _ _⟩, ⟨by (with_reducible repeat (first | refine blk_drewN ?_ _ | refine blk_drew ?_ | refine blk_alloc ?_ _)); refine blk_put (cs := #[.int .i64 ((rd_T32 l0 x4_1).f0), .slice none 0 0]) ?_ 1 _ rfl; (with_reducible repeat (first | refine blk_drewN ?_ _ | refine blk_drew ?_ | refine blk_alloc ?_ _)); refine blk_put (cs := #[.int .i64 0, .slice none 0 0]) ?_ 0 _ rfl; (with_reducible repeat (first | refine blk_drewN ?_ _ | refine blk_drew ?_ | refine blk_alloc ?_ _)); exact BK105.out⟩, ⟨by repeat (first | (with_reducible first | exact HB.out | apply below_alloc | apply pw_below_drewN | apply below_drew1 | refine below_set ?_ GE105.out) | exact HB.out)⟩⟩
     case round =>
      clear H'
      try clear c1
      try clear p1
      try clear q1
      try clear hx1
      try clear p2
      try clear c4
      try clear c4b0
      try clear c5
      try clear c5b0
      try clear hcz7_0
      try clear hcz7_1
      try clear hfz7_0
      try clear hfz7_1
      try clear hx104_0
      try clear hx104_1
      try clear p104
      try clear p2
      try clear q104
      obtain ⟨x6_2, x106001_2, u106001, rfl, HA, HK2, HO_3, HO_106001, BK105, HB⟩ := hrel
      cases gk with
      | zero => exact absurd HA.out (by simp [entrepotlaw13_its.l1])
      | succ k2 =>
       have H := HA.out
       clear HA
       simp only [entrepotlaw13_its.l1] at H
       by_cases c8 : 0 ≤ x4_1
       ·rw [if_pos c8] at H
        have c8b0 : decide (0 ≤ x4_1) = true := decide_eq_true c8
        clear c8
        by_cases c9 : x4_1 < (l0.length : Int)
        ·rw [if_pos c9] at H
         have c9b0 : decide (x4_1 < (l0.length : Int)) = true := decide_eq_true c9
         clear c9
         by_cases c10 : x6_2 < (((rd_T32 l0 x4_1).f1).length : Int)
         ·rw [if_pos c10] at H
          have c10b0 : decide (x6_2 < (((rd_T32 l0 x4_1).f1).length : Int)) = true := decide_eq_true c10
          clear c10
          by_cases c11 : 0 ≤ x6_2
          ·rw [if_pos c11] at H
           have c11b0 : decide (0 ≤ x6_2) = true := decide_eq_true c11
           clear c11
           by_cases c12 : x106001_2.length < 8796093022208
           ·rw [if_pos c12] at H
            have LMc12 := Aside0.mk c12
            clear c12
            obtain ⟨y109, hy109⟩ : ∃ y_ : List (S104), y_ = (x106001_2 ++ [(⟨(rd_T105 ((rd_T32 l0 x4_1).f1) x6_2).f0, (rd_T105 ((rd_T32 l0 x4_1).f1) x6_2).f1⟩ : S104)]) := ⟨_, rfl⟩
            replace H : (entrepotlaw13_its.l1 k2 l0 x3_1 x4_1 (wrap64 (x6_2 + 1)) ((rd_T32 l0 x4_1).f0) y109) = some r := by first | (rw [hy109]; with_reducible exact H) | (have H2_ := (Option.bind_some _ _).symm.trans H; rw [hy109]; with_reducible exact H2_) | (have H2_ := (Option.bind_some _ _).symm.trans H; with_reducible exact H2_) | with_reducible exact H | (rw [hy109]; exact H) | exact H
            have Ny109 := Aside0.mk hy109
            clear hy109
            have H' := Aside0.mk H
            clear H
            have p106 : 0 ≤ (x4_1 : Int) := of_decide_eq_true (by first | (with_reducible assumption) | assumption)
            have q106 : x4_1 < (l0.length : Int) := of_decide_eq_true (by first | (with_reducible assumption) | assumption)
            obtain ⟨ad106, A106_1, c106_1, e106, hx106_0, hx106_1, hl106_1, hi106_1⟩ := at_T32 HR0.out x4_1 p106 q106
            obtain rfl : ad104 = ad106 := (by injection e106)
            replace hx106_0 := (HB.out.cell (World.block_lt_of_cell? w _ hx106_0)).trans hx106_0
            replace hx106_1 := (HB.out.cell (World.block_lt_of_cell? w _ hx106_1)).trans hx106_1
            have HR106_1 := Aside0.mk hi106_1
            have HC106_1 := Aside0.mk hl106_1
            clear hi106_1 hl106_1
            (try simp only [Go.IntWalk.toNatUp] at hx106_0)
            (try simp only [Go.IntWalk.toNatUp] at hx106_1)
            replace p106 := eq_true p106
            replace q106 := eq_true q106
            try go_wp2
            have n0_ := Aside0.mk (Kd.S_drew HO_3.out)
            have n1_ := Aside0.mk (Kd.R_drew HO_106001.out)
            have n2_ := Aside0.mk (blk_drew BK105.out)
            have n3_ := Aside0.mk (below_drew1 HB.out)
            clear HO_3
            clear HO_106001
            clear BK105
            clear HB
            have HO_3 := n0_
            have HO_106001 := n1_
            have BK105 := n2_
            have HB := n3_
            clear n0_ n1_ n2_ n3_
            have p107 : 0 ≤ (x4_1 : Int) := of_decide_eq_true (by first | (with_reducible assumption) | assumption)
            have q107 : x4_1 < (l0.length : Int) := of_decide_eq_true (by first | (with_reducible assumption) | assumption)
            obtain ⟨ad107, A107_1, c107_1, e107, hx107_0, hx107_1, hl107_1, hi107_1⟩ := at_T32 HR0.out x4_1 p107 q107
            have hw107_1 := hx107_1
            have hw107_0 := hx107_0
            obtain rfl : ad104 = ad107 := (by injection e107)
            replace hx107_0 := (HB.out.cell (World.block_lt_of_cell? w _ hx107_0)).trans hx107_0
            replace hx107_1 := (HB.out.cell (World.block_lt_of_cell? w _ hx107_1)).trans hx107_1
            have HR107_1 := Aside0.mk hi107_1
            have HC107_1 := Aside0.mk hl107_1
            clear hi107_1 hl107_1
            (try simp only [Go.IntWalk.toNatUp] at hx107_0)
            (try simp only [Go.IntWalk.toNatUp] at hx107_1)
            replace p107 := eq_true p107
            replace q107 := eq_true q107
            have p108 : 0 ≤ (x6_2 : Int) := of_decide_eq_true (by first | (with_reducible assumption) | assumption)
            have q108 : x6_2 < (((rd_T32 l0 x4_1).f1).length : Int) := of_decide_eq_true (by first | (with_reducible assumption) | assumption)
            obtain ⟨ad108, e108, hx108_0, hx108_1⟩ := at_T105 HR107_1.out x6_2 p108 q108
            have hw108_1 := hx108_1
            have hw108_0 := hx108_0
            cases e108
            replace hx108_0 := (HB.out.cell (World.block_lt_of_cell? w _ hx108_0)).trans hx108_0
            replace hx108_1 := (HB.out.cell (World.block_lt_of_cell? w _ hx108_1)).trans hx108_1
            (try simp only [Go.IntWalk.toNatUp] at hx108_0)
            (try simp only [Go.IntWalk.toNatUp] at hx108_1)
            replace p108 := eq_true p108
            replace q108 := eq_true q108
            refine start_ (n := 14) (S := fun w' => w'.cell? ⟨gb105, 0, none⟩ = some (.int .i64 ((rd_T32 l0 x4_1).f0)) ∧ w'.cell? ⟨gb105, 1, none⟩ = some (u106001) ∧ w'.cell? (ad104.add ((x4_1).toNat * 2)) = some (.int .i64 ((rd_T32 l0 x4_1).f0)) ∧ w'.cell? ⟨(ad104.add ((x4_1).toNat * 2)).block, (ad104.add ((x4_1).toNat * 2)).off + 1, none⟩ = some (.slice (some ad108) ((rd_T32 l0 x4_1).f1).length c107_1) ∧ w'.cell? (ad108.add ((x6_2).toNat * 2)) = some (.int .i64 ((rd_T105 ((rd_T32 l0 x4_1).f1) x6_2).f0)) ∧ w'.cell? ⟨(ad108.add ((x6_2).toNat * 2)).block, (ad108.add ((x6_2).toNat * 2)).off + 1, none⟩ = some (.int .i64 ((rd_T105 ((rd_T32 l0 x4_1).f1) x6_2).f1))) (ds := [13]) #[false, false, false, false, false, false, false, false, false, false, false, false, false, false] (by kernel_rfl) rfl rfl ⟨(blk_cell BK105.out 0).trans rfl, (blk_cell BK105.out 1).trans rfl, ((HB.out.cell (World.block_lt_of_cell? w _ hw107_0)).trans hw107_0), ((HB.out.cell (World.block_lt_of_cell? w _ hw107_1)).trans hw107_1), ((HB.out.cell (World.block_lt_of_cell? w _ hw108_0)).trans hw108_0), ((HB.out.cell (World.block_lt_of_cell? w _ hw108_1)).trans hw108_1)⟩ (fun hHeld => ?_); refine with_tabW entrepotlaw13_its.tab9 entrepotlaw13_its.bits9 (fun HT_ HW_ => ?_)
            generalize wr.drew = w13 at HO_3 HO_106001 BK105 HB HR107_1 hx107_0 hx107_1 hx108_0 hx108_1 hHeld ⊢
            refine pure_ (i := 0) (N := some 30) (v := ?_) (a' := ?_) #[true, false, false, false, false, false, false, false, false, false, false, false, false, false] rfl rfl (any_of HT_.out (by kernel_rfl)) (fun _ _ _ h => h) (Or.inl ⟨by rfl, ?_⟩) ?_ ?_
            rotate_left
            ·intro w'
             go_simp
             with_reducible rfl
            rotate_left
            ·simp only [Act.put, List.setIfInBounds_toArray, List.set_cons_zero, List.set_cons_succ, i64_w, i32_w]
             rfl
            refine pure_ (i := 2) (N := some 32) (v := ?_) (a' := ?_) #[true, false, true, false, false, false, false, false, false, false, false, false, false, false] rfl rfl (any_of HT_.out (by kernel_rfl)) (fun _ _ _ h => h) (Or.inl ⟨by rfl, ?_⟩) ?_ ?_
            rotate_left
            ·intro w'
             go_simp
             with_reducible rfl
            rotate_left
            ·simp only [Act.put, List.setIfInBounds_toArray, List.set_cons_zero, List.set_cons_succ, i64_w, i32_w]
             rfl
            refine pure_ (i := 3) (N := some 33) (v := ?_) (a' := ?_) #[true, false, true, true, false, false, false, false, false, false, false, false, false, false] rfl rfl (any_of HT_.out (by kernel_rfl)) (fun _ _ _ h => h) (Or.inl ⟨by rfl, ?_⟩) ?_ ?_
            rotate_left
            ·intro w'
             go_simp
             with_reducible rfl
            rotate_left
            ·simp only [Act.put, List.setIfInBounds_toArray, List.set_cons_zero, List.set_cons_succ, i64_w, i32_w]
             rfl
            refine pure_ (i := 4) (N := some 34) (v := ?_) (a' := ?_) #[true, false, true, true, true, false, false, false, false, false, false, false, false, false] rfl rfl (any_of HT_.out (by kernel_rfl)) (fun _ _ _ h => h) (Or.inl ⟨by rfl, ?_⟩) ?_ ?_
            rotate_left
            ·intro w'
             go_simp
             with_reducible rfl
            rotate_left
            ·simp only [Act.put, List.setIfInBounds_toArray, List.set_cons_zero, List.set_cons_succ, i64_w, i32_w]
             rfl
            refine pure_ (i := 5) (N := some 35) (v := ?_) (a' := ?_) #[true, false, true, true, true, true, false, false, false, false, false, false, false, false] rfl rfl (any_of HT_.out (by kernel_rfl)) (fun _ _ _ h => h) (Or.inl ⟨by rfl, ?_⟩) ?_ ?_
            rotate_left
            ·intro w'
             go_simp
             with_reducible rfl
            rotate_left
            ·simp only [Act.put, List.setIfInBounds_toArray, List.set_cons_zero, List.set_cons_succ, i64_w, i32_w]
             rfl
            refine pure_ (i := 7) (N := some 37) (v := ?_) (a' := ?_) #[true, false, true, true, true, true, false, true, false, false, false, false, false, false] rfl rfl (any_of HT_.out (by kernel_rfl)) (fun _ _ _ h => h) (Or.inl ⟨by rfl, ?_⟩) ?_ ?_
            rotate_left
            ·intro w'
             go_simp
             with_reducible rfl
            rotate_left
            ·simp only [Act.put, List.setIfInBounds_toArray, List.set_cons_zero, List.set_cons_succ, i64_w, i32_w]
             rfl
            refine take_ (i := 1) (N := some 31) (v := ?_) (a' := ?_) #[true, true, true, true, true, true, false, true, false, false, false, false, false, false] rfl rfl (take_ofW HT_.out HW_.out (by kernel_rfl)) (fun _ _ _ h => h) (Or.inl ⟨by rfl, ?_⟩) hHeld ?_ ?_
            rotate_left
            ·rintro w' ⟨s0, s1, s2, s3, s4, s5⟩
             go_simp
             with_reducible rfl
            rotate_left
            ·simp only [Act.put, List.setIfInBounds_toArray, List.set_cons_zero, List.set_cons_succ, i64_w, i32_w]
             rfl
            refine take_ (i := 6) (N := some 36) (v := ?_) (a' := ?_) #[true, true, true, true, true, true, true, true, false, false, false, false, false, false] rfl rfl (take_ofW HT_.out HW_.out (by kernel_rfl)) (fun _ _ _ h => h) (Or.inl ⟨by rfl, ?_⟩) hHeld ?_ ?_
            rotate_left
            ·rintro w' ⟨s0, s1, s2, s3, s4, s5⟩
             go_simp
             with_reducible rfl
            rotate_left
            ·simp only [Act.put, List.setIfInBounds_toArray, List.set_cons_zero, List.set_cons_succ, i64_w, i32_w]
             rfl
            refine pure_ (i := 8) (N := some 38) (v := ?_) (a' := ?_) #[true, true, true, true, true, true, true, true, true, false, false, false, false, false] rfl rfl (any_of HT_.out (by kernel_rfl)) (fun _ _ _ h => h) (Or.inl ⟨by rfl, ?_⟩) ?_ ?_
            rotate_left
            ·intro w'
             go_simp
             with_reducible rfl
            rotate_left
            ·simp only [Act.put, List.setIfInBounds_toArray, List.set_cons_zero, List.set_cons_succ, i64_w, i32_w]
             rfl
            refine take_ (i := 9) (N := some 39) (v := ?_) (a' := ?_) #[true, true, true, true, true, true, true, true, true, true, false, false, false, false] rfl rfl (take_ofW HT_.out HW_.out (by kernel_rfl)) (fun _ _ _ h => h) (Or.inl ⟨by rfl, ?_⟩) hHeld ?_ ?_
            rotate_left
            ·rintro w' ⟨s0, s1, s2, s3, s4, s5⟩
             go_simp
             with_reducible rfl
            rotate_left
            ·simp only [Act.put, List.setIfInBounds_toArray, List.set_cons_zero, List.set_cons_succ, i64_w, i32_w]
             rfl
            refine one_ (i := 10) (N := some 40) #[true, true, true, true, true, true, true, true, true, true, true, false, false, false] rfl rfl (one_of HT_.out (by kernel_rfl)) (by decide) (fun K hK => ?_)
            refine value_ (w1 := ?_) (v := ?_) (by rfl) rfl ?_ ?_
            rotate_left 2
            ·go_simp
             constructor
             ·rfl
             ·rfl
            refine hK.out _ _ ⟨(blk_cell (blk_alloc BK105.out _) 0).trans rfl, (blk_cell (blk_alloc BK105.out _) 1).trans rfl, (World.cell?_alloc_lt _ _ _ (World.block_lt_of_cell? _ _ (((HB.out.cell (World.block_lt_of_cell? w _ hw107_0)).trans hw107_0)))).trans (((HB.out.cell (World.block_lt_of_cell? w _ hw107_0)).trans hw107_0)), (World.cell?_alloc_lt _ _ _ (World.block_lt_of_cell? _ _ (((HB.out.cell (World.block_lt_of_cell? w _ hw107_1)).trans hw107_1)))).trans (((HB.out.cell (World.block_lt_of_cell? w _ hw107_1)).trans hw107_1)), (World.cell?_alloc_lt _ _ _ (World.block_lt_of_cell? _ _ (((HB.out.cell (World.block_lt_of_cell? w _ hw108_0)).trans hw108_0)))).trans (((HB.out.cell (World.block_lt_of_cell? w _ hw108_0)).trans hw108_0)), (World.cell?_alloc_lt _ _ _ (World.block_lt_of_cell? _ _ (((HB.out.cell (World.block_lt_of_cell? w _ hw108_1)).trans hw108_1)))).trans (((HB.out.cell (World.block_lt_of_cell? w _ hw108_1)).trans hw108_1))⟩ (fun hHeld => ?_)
            clear hK K
            refine norm_ (a' := ?_) ?_ ?_
            rotate_left
            ·show Act.put _ (some 40) _ = _
             simp only [Act.put, List.setIfInBounds_toArray, List.set_cons_zero, List.set_cons_succ, i64_w, i32_w]
             rfl
            refine one_ (i := 11) (N := some 41) #[true, true, true, true, true, true, true, true, true, true, true, true, false, false] rfl rfl (one_of HT_.out (by kernel_rfl)) (by decide) (fun K hK => ?_)
            refine Kd.R_append_step k104 (w0 := w) w.heap.size (by rfl) (.tmp 31) (.tmp 40) 34 104 (.agg #[(.int .i64 0), (.int .i64 0)]) 16 rfl Tryz.underlying34 info104 rfl (by decide) (by omega) u106001 x106001_2 (⟨(rd_T105 ((rd_T32 l0 x4_1).f1) x6_2).f0, (rd_T105 ((rd_T32 l0 x4_1).f1) x6_2).f1⟩ : S104) [.int .i64 ((rd_T105 ((rd_T32 l0 x4_1).f1) x6_2).f0), .int .i64 ((rd_T105 ((rd_T32 l0 x4_1).f1) x6_2).f1)] (fun _ => True) (fun _ => False) rfl rfl ?aP (fun _ hk => hk.elim) ?aF ?aO ?aB ?aS ?aL ?_
            (case aP => exact k104_mkM _ _ _ (⟨(rd_T105 ((rd_T32 l0 x4_1).f1) x6_2).f0, (rd_T105 ((rd_T32 l0 x4_1).f1) x6_2).f1⟩ : S104))
            (case aB => exact (by repeat (first | (with_reducible first | exact HB.out | apply below_alloc | apply pw_below_drewN | apply below_drew1 | refine below_set ?_ GE105.out) | exact HB.out)))
            (case aF => exact (fun _ _ => trivial))
            (case aO => exact (by (with_reducible repeat (first | apply Kd.R_alloc | apply Kd.R_drewN | apply Kd.R_drew)); exact HO_106001.out))
            (case aS => exact (below_size (by repeat (first | (with_reducible first | exact HB.out | apply below_alloc | apply pw_below_drewN | apply below_drew1 | refine below_set ?_ GE105.out) | exact HB.out))))
            (case aL => have := LMc12.out; omega)
            intro v110 w14 ho hb hg hat
            rw [← Ny109.out] at ho
            have n0_ := Aside0.mk (Kd.S_after (ok := (fun k_ => k_ ≠ gb105)) (by (with_reducible repeat (first | apply Kd.S_alloc | apply Kd.S_drewN | apply Kd.S_drew)); exact Kd.S_mono HO_3.out (fun _ hk => ⟨hk.2, hk.1⟩)) hg hat)
            have n1_ := Aside0.mk (blk_grown (g := gb105) (o := .cells #[.int .i64 ((rd_T32 l0 x4_1).f0), u106001] 36 (0, 0)) (by (with_reducible repeat (first | refine blk_drewN ?_ _ | refine blk_drew ?_ | refine blk_alloc ?_ _)); exact BK105.out) hg (Kd.R_ne HO_106001.out BK105.out (by decide)))
            have n2_ := Aside0.mk (hb)
            have n3_ := Aside0.mk (ho)
            clear HO_3
            clear BK105
            clear HB
            clear HO_106001
            have HO_3 := n0_
            have BK105 := n1_
            have HB := n2_
            have HO111 := n3_
            clear n0_ n1_ n2_ n3_
            clear ho hb hg hat
            obtain ⟨Ao15, co15, eo15⟩ := Kd.R_slice HO111.out
            (first | subst eo15 | (injection eo15 with f1_ f2_ f3_; have f4_ := f1_.symm; have f5_ := f3_.symm; clear f1_ f2_ f3_; subst f4_; subst f5_))
            refine hK.out _ _ ⟨(blk_cell BK105.out 0).trans rfl, (blk_cell BK105.out 1).trans rfl, ((HB.out.cell (World.block_lt_of_cell? w _ hw107_0)).trans hw107_0), ((HB.out.cell (World.block_lt_of_cell? w _ hw107_1)).trans hw107_1), ((HB.out.cell (World.block_lt_of_cell? w _ hw108_0)).trans hw108_0), ((HB.out.cell (World.block_lt_of_cell? w _ hw108_1)).trans hw108_1)⟩ (fun hHeld => ?_)
            clear hK K
            refine norm_ (a' := ?_) ?_ ?_
            rotate_left
            ·show Act.put _ (some 41) _ = _
             simp only [Act.put, List.setIfInBounds_toArray, List.set_cons_zero, List.set_cons_succ, i64_w, i32_w]
             rfl
            refine pure_ (i := 12) (N := some 42) (v := ?_) (a' := ?_) #[true, true, true, true, true, true, true, true, true, true, true, true, true, false] rfl rfl (any_of HT_.out (by kernel_rfl)) (fun _ _ _ h => h) (Or.inl ⟨by rfl, ?_⟩) ?_ ?_
            rotate_left
            ·intro w'
             go_simp
             with_reducible rfl
            rotate_left
            ·simp only [Act.put, List.setIfInBounds_toArray, List.set_cons_zero, List.set_cons_succ, i64_w, i32_w]
             rfl
            refine last_ (i := 13) (N := none) #[true, true, true, true, true, true, true, true, true, true, true, true, true, true] rfl rfl (one_of HT_.out (by kernel_rfl)) (by decide) (fun K hK => ?_)
            have hs16 : w14.cell? ⟨gb105, 1, none⟩ = some (u106001) := (blk_cell BK105.out 1).trans rfl
            have hfs16 := blk_frozen BK105.out 1
            refine skip_ (w1 := ?_) (by rfl) rfl ?_ ?_
            rotate_left
            ·go_simp
             rfl
            refine hK.out _ _ ?_
            clear hK K
            refine done_ (done_of HT_.out (by kernel_rfl)) ?_
            try go_wp2
            go_roundg k2
            case measure => have := HK1.out; have := HK2.out; omega
            case rel => exact ⟨(wrap64 (x6_2 + 1)), (y109), (.slice Ao15 y109.length co15), (by first | rfl | (simp; done) | (simp [*]; done)), H', ⟨by have := HK1.out; have := HK2.out; omega⟩, ⟨by (with_reducible repeat (first | apply Kd.S_alloc | apply Kd.S_drewN | apply Kd.S_drew)); exact Kd.S_mono (Kd.S_far (p := ⟨gb105, 1, none⟩) (Kd.S_mono HO_3.out (fun k_ hk => (⟨hk, hk.1⟩ : _ ∧ k_ ≠ gb105))) (fun _ hk => hk.2) (.slice Ao15 y109.length co15)) (fun _ hk => ⟨hk.1.2, hk.1.1⟩)⟩, ⟨by (with_reducible repeat (first | apply Kd.R_alloc | apply Kd.R_drewN | apply Kd.R_drew)); exact Kd.R_mono (Kd.R_far (p := ⟨gb105, 1, none⟩) (Kd.R_types HO111.out BK105.out (by decide)) (fun _ hk => hk.2) (.slice Ao15 y109.length co15)) (fun _ hk => trivial)⟩, ⟨by (with_reducible repeat (first | refine blk_drewN ?_ _ | refine blk_drew ?_ | refine blk_alloc ?_ _)); refine blk_put (cs := #[.int .i64 ((rd_T32 l0 x4_1).f0), u106001]) ?_ 1 _ rfl; (with_reducible repeat (first | refine blk_drewN ?_ _ | refine blk_drew ?_ | refine blk_alloc ?_ _)); exact BK105.out⟩, ⟨by repeat (first | (with_reducible first | exact HB.out | apply below_alloc | apply pw_below_drewN | apply below_drew1 | refine below_set ?_ GE105.out) | exact HB.out)⟩⟩
           ·rw [if_neg c12] at H
            exact absurd H (by simp)
          ·rw [if_neg c11] at H
           exact absurd H (by simp)
         ·rw [if_neg c10] at H
          have c10b0 : decide (x6_2 < (((rd_T32 l0 x4_1).f1).length : Int)) = false := decide_eq_false c10
          clear c10
          by_cases c17 : x3_1.length < 4398046511104
          ·rw [if_pos c17] at H
           have LMc17 := Aside0.mk c17
           clear c17
           obtain ⟨y112, hy112⟩ : ∃ y_ : List (S36), y_ = (x3_1 ++ [(⟨((rd_T32 l0 x4_1).f0), x106001_2⟩ : S36)]) := ⟨_, rfl⟩
           replace H : (entrepotlaw13_its.l0 k2 l0 y112 (wrap64 (x4_1 + 1))) = some r := by first | (rw [hy112]; with_reducible exact H) | (have H2_ := (Option.bind_some _ _).symm.trans H; rw [hy112]; with_reducible exact H2_) | (have H2_ := (Option.bind_some _ _).symm.trans H; with_reducible exact H2_) | with_reducible exact H | (rw [hy112]; exact H) | exact H
           have Ny112 := Aside0.mk hy112
           clear hy112
           have H' := Aside0.mk H
           clear H
           have p106 : 0 ≤ (x4_1 : Int) := of_decide_eq_true (by first | (with_reducible assumption) | assumption)
           have q106 : x4_1 < (l0.length : Int) := of_decide_eq_true (by first | (with_reducible assumption) | assumption)
           obtain ⟨ad106, A106_1, c106_1, e106, hx106_0, hx106_1, hl106_1, hi106_1⟩ := at_T32 HR0.out x4_1 p106 q106
           obtain rfl : ad104 = ad106 := (by injection e106)
           replace hx106_0 := (HB.out.cell (World.block_lt_of_cell? w _ hx106_0)).trans hx106_0
           replace hx106_1 := (HB.out.cell (World.block_lt_of_cell? w _ hx106_1)).trans hx106_1
           have HR106_1 := Aside0.mk hi106_1
           have HC106_1 := Aside0.mk hl106_1
           clear hi106_1 hl106_1
           (try simp only [Go.IntWalk.toNatUp] at hx106_0)
           (try simp only [Go.IntWalk.toNatUp] at hx106_1)
           replace p106 := eq_true p106
           replace q106 := eq_true q106
           have hcz18_0 : wr.cell? ⟨gb105, 0, none⟩ = some (.int .i64 ((rd_T32 l0 x4_1).f0)) := (blk_cell BK105.out 0).trans rfl
           have hcz18_1 : wr.cell? ⟨gb105, 1, none⟩ = some (u106001) := (blk_cell BK105.out 1).trans rfl
           have hfz18_0 := blk_frozen BK105.out 0
           have hfz18_1 := blk_frozen BK105.out 1
           obtain ⟨Ao20, co20, eo20⟩ := Kd.R_slice HO_106001.out
           subst eo20
           go_wp2_with (first | ((with_reducible refine gate_builtin (b := .append) (xs := #[.tmp 43, .tmp 45]) rfl ?_); at_builtin; refine Kd.S_append k36 (w0 := w) w.heap.size rfl (.tmp 43) (.tmp 45) 25 36 (.agg #[(.int .i64 0), (.slice none 0 0)]) 32 rfl Tryz.underlying25 info36 rfl (by decide) (by omega) u3 x3_1 (⟨((rd_T32 l0 x4_1).f0), x106001_2⟩ : S36) [.int .i64 ((rd_T32 l0 x4_1).f0), .slice Ao20 x106001_2.length co20] (fun k_ => k_ ≠ gb105) (fun k_ => some k_ = (.slice Ao20 x106001_2.length co20 : Value).ownBlock) rfl rfl ?aP (fun k_ hk_ => ((Kd.R_mono (ok' := fun k_ => ((fun k_ => k_ ≠ gb105)) k_ ∧ some k_ ≠ (u3 : Value).ownBlock) (Kd.R_types (Kd.R_apart' (HO_106001.out) (Kd.S_typed HO_3.out) (by decide)) BK105.out (by decide)) (fun k_ hk => ⟨hk.2, hk.1.2⟩))).1 k_ hk_.symm) ?aF ?aO ?aB ?aS ?aL ?_; (case aP => exact k36_mkM _ _ _ (⟨((rd_T32 l0 x4_1).f0), x106001_2⟩ : S36) (Kd.R_mono (Kd.R_tight rfl (Kd.R_mono (ok' := fun k_ => ((fun k_ => k_ ≠ gb105)) k_ ∧ some k_ ≠ (u3 : Value).ownBlock) (Kd.R_types (Kd.R_apart' (HO_106001.out) (Kd.S_typed HO_3.out) (by decide)) BK105.out (by decide)) (fun k_ hk => ⟨hk.2, hk.1.2⟩))) (fun _ h_ => h_))); (case aB => exact (by repeat (first | (with_reducible first | exact HB.out | apply below_alloc | apply pw_below_drewN | apply below_drew1 | refine below_set ?_ GE105.out) | exact HB.out))); (case aF => exact (fun k_ hk => Kd.freshB (g := gb105) (o := .cells #[.int .i64 ((rd_T32 l0 x4_1).f0), .slice Ao20 x106001_2.length co20] 36 (0, 0)) (by (with_reducible repeat (first | refine blk_drewN ?_ _ | refine blk_drew ?_ | refine blk_alloc ?_ _)); exact BK105.out) k_ hk)); (case aO => exact (by (with_reducible repeat (first | apply Kd.S_alloc | apply Kd.S_drewN | apply Kd.S_drew)); exact Kd.S_mono HO_3.out (fun k_ hk => ⟨hk.2, fun e_ => hk.1 e_⟩))); (case aS => exact (below_size (by repeat (first | (with_reducible first | exact HB.out | apply below_alloc | apply pw_below_drewN | apply below_drew1 | refine below_set ?_ GE105.out) | exact HB.out)))); (case aL => have := LMc17.out; omega); intro v113 w19 ho hb hg hat; rw [← Ny112.out] at ho; have n0_ := Aside0.mk (blk_grown (g := gb105) (o := .cells #[.int .i64 ((rd_T32 l0 x4_1).f0), .slice Ao20 x106001_2.length co20] 36 (0, 0)) (by (with_reducible repeat (first | refine blk_drewN ?_ _ | refine blk_drew ?_ | refine blk_alloc ?_ _)); exact BK105.out) hg (Kd.S_away HO_3.out (fun _ hk => hk.2))); have n1_ := Aside0.mk (hb); have n2_ := Aside0.mk (ho); clear BK105; clear HB; clear HO_3; clear HO_106001; have BK105 := n0_; have HB := n1_; have HO114 := n2_; clear n0_ n1_ n2_; clear ho hb hg hat))
           go_roundg k2
           case measure => have := HK1.out; have := HK2.out; omega
           case rel => exact ⟨(y112), (wrap64 (x4_1 + 1)), (by first | rfl | (simp; done) | (simp [*]; done)), H', ⟨by have := HK1.out; have := HK2.out; omega⟩, ⟨by (with_reducible repeat (first | apply Kd.S_alloc | apply Kd.S_drewN | apply Kd.S_drew)); exact Kd.S_mono HO114.out (fun _ hk => trivial)⟩, ⟨by repeat (first | (with_reducible first | exact HB.out | apply below_alloc | apply pw_below_drewN | apply below_drew1 | refine below_set ?_ GE105.out) | exact HB.out)⟩⟩
          ·rw [if_neg c17] at H
           exact absurd H (by simp)
        ·rw [if_neg c9] at H
         exact absurd H (by simp)
       ·rw [if_neg c8] at H
        exact absurd H (by simp)
    ·rw [if_neg c5] at H
     exact absurd H (by simp)
   ·rw [if_neg c4] at H
    have c4b0 : decide (x4_1 < (l0.length : Int)) = false := decide_eq_false c4
    clear c4
    obtain rfl := Option.some.inj H
    go_wp2
    go_ret
    exact ⟨_, by first | rfl | (simp [errW_none, errW_some] <;> rfl) | (simp [*, errW_none, errW_some] <;> rfl), by (with_reducible repeat (first | apply Kd.S_alloc | apply Kd.S_drewN | apply Kd.S_drew)); exact HO_3.out, by repeat (first | (with_reducible first | exact HB.out | apply below_alloc | apply pw_below_drewN | apply below_drew1) | exact HB.out)⟩

end Go.Proofs.YtadocbfchdendaaGreatDoor.P
namespace Go.Proofs.YtadocbfchdendaaGreatDoor.P
open Go.RowKit Go.Proofs.YtadocbfchdendaaGreatDoorW.PrintWords Go.Proofs.YtadocbfchdendaaGreatDoorW.PrintLast Go.Proofs.YtadocbfchdendaaGreatDoorW.PrintMore
attribute [local go_sem] max2_int min2_int max_two min_two max_three min_three max_four min_four   -- for this text's walks alone
set_option linter.unusedVariables false
set_option linter.unusedSimpArgs false
def entrepotref03_Text.f (a0 : ByteArray) (a1_0 : Int) (a1_1 : Int) : Option (ByteArray) := (entrepotref03_places.f a0 a1_0 a1_1).bind fun t102 => (if t102 = true then (if 0 ≤ a1_0 then (if a1_0 ≤ a1_1 then (if a1_1 ≤ (a0.size : Int) then (some (a0.extract (a1_0 : Int).toNat (a1_1 : Int).toNat)) else (none)) else (none)) else (none)) else (some (⟨#[]⟩ : ByteArray)))
set_option maxHeartbeats 8000000 in
set_option maxRecDepth 100000 in
theorem entrepotref03_Text.calls (a0 : ByteArray) (a1_0 : Int) (a1_1 : Int) (r : ByteArray) (w : World) (h : entrepotref03_Text.f a0 a1_0 a1_1 = some r) :
  Calls Tryz.prog 55 #[.string a0, .agg #[.int .i64 a1_0, .int .i64 a1_1]] w fun e w' => e = .returned (.string r) ∧ Below w.heap.size w w' := by
 have hu104 := Tryz.underlying104
 have HB := Aside0.mk (Below.refl w.heap.size w)
 have H : ((entrepotref03_places.f a0 a1_0 a1_1).bind fun t102 => (if t102 = true then (if 0 ≤ a1_0 then (if a1_0 ≤ a1_1 then (if a1_1 ≤ (a0.size : Int) then (some (a0.extract (a1_0 : Int).toNat (a1_1 : Int).toNat)) else (none)) else (none)) else (none)) else (some (⟨#[]⟩ : ByteArray)))) = some r := h
 clear h
 replace H := Option.bind_eq_some_iff.mp H
 obtain ⟨t102, A30, H⟩ := H
 replace H : (if t102 = true then (if 0 ≤ a1_0 then (if a1_0 ≤ a1_1 then (if a1_1 ≤ (a0.size : Int) then (some (a0.extract (a1_0 : Int).toNat (a1_1 : Int).toNat)) else (none)) else (none)) else (none)) else (some (⟨#[]⟩ : ByteArray))) = some r := H
 have A3 := Aside0.mk A30
 clear A30
 by_cases c4 : t102 = true
 ·subst c4
  have H1 : (if 0 ≤ a1_0 then (if a1_0 ≤ a1_1 then (if a1_1 ≤ (a0.size : Int) then (some (a0.extract (a1_0 : Int).toNat (a1_1 : Int).toNat)) else (none)) else (none)) else (none)) = some r := by rw [if_pos rfl] at H; exact H
  clear H
  have H := H1
  clear H1
  by_cases c5 : 0 ≤ a1_0
  ·rw [if_pos c5] at H
   have c5b0 := eq_true c5
   have c5b1 : decide (0 ≤ a1_0) = true := decide_eq_true c5
   clear c5
   by_cases c6 : a1_0 ≤ a1_1
   ·rw [if_pos c6] at H
    have c6b0 := eq_true c6
    have c6b1 : decide (a1_0 ≤ a1_1) = true := decide_eq_true c6
    clear c6
    by_cases c7 : a1_1 ≤ (a0.size : Int)
    ·rw [if_pos c7] at H
     have c7b0 := eq_true c7
     have c7b1 : decide (a1_1 ≤ (a0.size : Int)) = true := decide_eq_true c7
     clear c7
     obtain rfl := Option.some.inj H
     go_enter Tryz.func55, Tryz.ntmps55
     go_wp2_with (first | ((with_reducible refine gate_dst (N := 3) rfl ?_); refine box_event ?hg (N := 3) ?hd (cs := #[.int .i64 a1_0, .int .i64 a1_1]) (t := 104) ?hr ?_; (case hd => rfl); (case hg => rfl); (case hr => first | (go_simp; done) | (go_simp; rfl)); intro gb101 hg w8 hbox hb; have n0_ := Aside0.mk (below_step (by repeat (first | (with_reducible first | exact HB.out | apply below_alloc | apply pw_below_drewN | apply below_drew1) | exact HB.out)) hb); have n1_ := Aside0.mk (hbox); have n2_ := Aside0.mk ((by rw [hg]; exact (below_size (by repeat (first | (with_reducible first | exact HB.out | apply below_alloc | apply pw_below_drewN | apply below_drew1) | exact HB.out))) : w.heap.size ≤ gb101)); have n3_ := Aside0.mk ((by rw [hg]; exact (below_size (by repeat (first | (with_reducible first | exact HB.out | apply below_alloc | apply pw_below_drewN | apply below_drew1) | exact HB.out))) : w.heap.size ≤ gb101)); clear HB; have HB := n0_; have BK101 := n1_; have GW101 := n2_; have GE101 := n3_; clear n0_ n1_ n2_ n3_; clear hb hbox hg; have hcz9_0 : w8.cell? ⟨gb101, 0, none⟩ = some (.int .i64 a1_0) := (blk_cell BK101.out 0).trans rfl; have hcz9_1 : w8.cell? ⟨gb101, 1, none⟩ = some (.int .i64 a1_1) := (blk_cell BK101.out 1).trans rfl; have hfz9_0 := blk_frozen BK101.out 0; have hfz9_1 := blk_frozen BK101.out 1) | ((with_reducible refine gate_callee (f := 93) rfl ?_); refine goesL_ (some 10) rfl rfl Tryz.func93 (by kernel_rfl) rfl #[.string a0, .int .i64 a1_0, .int .i64 a1_1] rfl (by (try simp only [List.map_toArray, List.map_cons, List.map_nil]); first | done | rfl | (simp only [List.length_drop, List.length_take]; rfl)) ?_; (with_reducible refine (entrepotref03_places.calls a0 a1_0 a1_1 true _ A3.out).mono ?_); rintro e w' ⟨rfl, ⟨nd, rfl⟩⟩; refine ⟨_, rfl, ?_⟩))
     go_ret
     exact ⟨by first | rfl | (simp [errW_none, errW_some] <;> rfl) | (simp [*, errW_none, errW_some] <;> rfl), by repeat (first | (with_reducible first | exact HB.out | apply below_alloc | apply pw_below_drewN | apply below_drew1 | refine below_set ?_ GE101.out) | exact HB.out)⟩
    ·rw [if_neg c7] at H
     exact absurd H (by simp)
   ·rw [if_neg c6] at H
    exact absurd H (by simp)
  ·rw [if_neg c5] at H
   exact absurd H (by simp)
 ·replace c4 := Bool.eq_false_iff.mpr c4
  subst c4
  have H1 : (some (⟨#[]⟩ : ByteArray)) = some r := by rw [if_neg (show ¬ (false = true) by decide)] at H; exact H
  clear H
  have H := H1
  clear H1
  obtain rfl := Option.some.inj H
  go_enter Tryz.func55, Tryz.ntmps55
  go_wp2_with (first | ((with_reducible refine gate_dst (N := 3) rfl ?_); refine box_event ?hg (N := 3) ?hd (cs := #[.int .i64 a1_0, .int .i64 a1_1]) (t := 104) ?hr ?_; (case hd => rfl); (case hg => rfl); (case hr => first | (go_simp; done) | (go_simp; rfl)); intro gb101 hg w10 hbox hb; have n0_ := Aside0.mk (below_step (by repeat (first | (with_reducible first | exact HB.out | apply below_alloc | apply pw_below_drewN | apply below_drew1) | exact HB.out)) hb); have n1_ := Aside0.mk (hbox); have n2_ := Aside0.mk ((by rw [hg]; exact (below_size (by repeat (first | (with_reducible first | exact HB.out | apply below_alloc | apply pw_below_drewN | apply below_drew1) | exact HB.out))) : w.heap.size ≤ gb101)); have n3_ := Aside0.mk ((by rw [hg]; exact (below_size (by repeat (first | (with_reducible first | exact HB.out | apply below_alloc | apply pw_below_drewN | apply below_drew1) | exact HB.out))) : w.heap.size ≤ gb101)); clear HB; have HB := n0_; have BK101 := n1_; have GW101 := n2_; have GE101 := n3_; clear n0_ n1_ n2_ n3_; clear hb hbox hg; have hcz11_0 : w10.cell? ⟨gb101, 0, none⟩ = some (.int .i64 a1_0) := (blk_cell BK101.out 0).trans rfl; have hcz11_1 : w10.cell? ⟨gb101, 1, none⟩ = some (.int .i64 a1_1) := (blk_cell BK101.out 1).trans rfl; have hfz11_0 := blk_frozen BK101.out 0; have hfz11_1 := blk_frozen BK101.out 1) | ((with_reducible refine gate_callee (f := 93) rfl ?_); refine goesL_ (some 10) rfl rfl Tryz.func93 (by kernel_rfl) rfl #[.string a0, .int .i64 a1_0, .int .i64 a1_1] rfl (by (try simp only [List.map_toArray, List.map_cons, List.map_nil]); first | done | rfl | (simp only [List.length_drop, List.length_take]; rfl)) ?_; (with_reducible refine (entrepotref03_places.calls a0 a1_0 a1_1 false _ A3.out).mono ?_); rintro e w' ⟨rfl, ⟨nd, rfl⟩⟩; refine ⟨_, rfl, ?_⟩))
  go_ret
  exact ⟨by first | rfl | (simp [errW_none, errW_some] <;> rfl) | (simp [*, errW_none, errW_some] <;> rfl), by repeat (first | (with_reducible first | exact HB.out | apply below_alloc | apply pw_below_drewN | apply below_drew1 | refine below_set ?_ GE101.out) | exact HB.out)⟩

end Go.Proofs.YtadocbfchdendaaGreatDoor.P
namespace Go.Proofs.YtadocbfchdendaaGreatDoor.P
open Go.RowKit Go.Proofs.YtadocbfchdendaaGreatDoorW.PrintWords Go.Proofs.YtadocbfchdendaaGreatDoorW.PrintLast Go.Proofs.YtadocbfchdendaaGreatDoorW.PrintMore
attribute [local go_sem] max2_int min2_int max_two min_two max_three min_three max_four min_four   -- for this text's walks alone
set_option linter.unusedVariables false
set_option linter.unusedSimpArgs false
def entrepotref13_Title.l0 : Nat → ByteArray → ByteArray → ByteArray → Int → Int → List (S104) → Option (Bool)
 | 0, _, _, _, _, _, _ => none
 | k + 1, x0, x2, x7, x8, x102000, x102001 => if x8 < (x102001.length : Int) then (if x8 > 0 then (if x7.size + 1 ≤ 9223372036854775807 then (if 0 ≤ x8 then ((entrepotref03_Text.f x0 ((rd_T104 x102001 x8).f0) ((rd_T104 x102001 x8).f1)).bind fun t103 => (if (x7 ++ (⟨#[32]⟩ : ByteArray)).size + t103.size ≤ 9223372036854775807 then (entrepotref13_Title.l0 k x0 x2 ((x7 ++ (⟨#[32]⟩ : ByteArray)) ++ t103) (wrap64 (x8 + 1)) x102000 x102001) else (none))) else (none)) else (none)) else (if 0 ≤ x8 then ((entrepotref03_Text.f x0 ((rd_T104 x102001 x8).f0) ((rd_T104 x102001 x8).f1)).bind fun t105 => (if x7.size + t105.size ≤ 9223372036854775807 then (entrepotref13_Title.l0 k x0 x2 (x7 ++ t105) (wrap64 (x8 + 1)) x102000 x102001) else (none))) else (none))) else (some (x7.toList == x2.toList))
def entrepotref13_Title.f (k : Nat) (a0 : ByteArray) (a1_0 : Int) (l1_1 : List (S104)) (a2 : ByteArray) : Option (Bool) := entrepotref13_Title.l0 k a0 a2 (⟨#[]⟩ : ByteArray) 0 a1_0 l1_1
theorem entrepotref13_Title.mono_l : ∀ k, (∀ y0 y1 y2 y3 y4 y5, LeO (entrepotref13_Title.l0 k y0 y1 y2 y3 y4 y5) (entrepotref13_Title.l0 (k + 1) y0 y1 y2 y3 y4 y5))
 | 0 => fun _ _ _ _ _ _ r h => by simp [entrepotref13_Title.l0] at h
 | k + 1 => by
  have ih0 := entrepotref13_Title.mono_l k
  ·intro y0 y1 y2 y3 y4 y5
   unfold entrepotref13_Title.l0
   repeat' first
   | (with_reducible exact ih0 _ _ _ _ _ _)
   | (with_reducible exact LeO.refl _)
   | (with_reducible exact LeO.none _)
   | (with_reducible refine LeO.ite ?_ ?_)
   | (with_reducible refine LeO.bind ?_ (fun _ => ?_))
   | exact ih0 _ _ _ _ _ _
   | exact LeO.none _
   | refine LeO.ite ?_ ?_
   | refine LeO.bind ?_ (fun _ => ?_)
theorem entrepotref13_Title.mono : ∀ a0 a1 a2 a3 k, LeO (entrepotref13_Title.f k a0 a1 a2 a3) (entrepotref13_Title.f (k + 1) a0 a1 a2 a3) := by
 intro a0 a1 a2 a3 k
 have ih0 := entrepotref13_Title.mono_l k
 unfold entrepotref13_Title.f
 repeat' first
   | (with_reducible exact ih0 _ _ _ _ _ _)
   | (with_reducible exact LeO.refl _)
   | (with_reducible exact LeO.none _)
   | (with_reducible refine LeO.ite ?_ ?_)
   | (with_reducible refine LeO.bind ?_ (fun _ => ?_))
   | exact ih0 _ _ _ _ _ _
   | exact LeO.none _
   | refine LeO.ite ?_ ?_
   | refine LeO.bind ?_ (fun _ => ?_)
set_option maxHeartbeats 8000000 in
set_option maxRecDepth 100000 in
theorem entrepotref13_Title.calls (k : Nat) (a0 : ByteArray) (a1_0 : Int) (A1_1 : Option Addr) (c1_1 : Nat) (l1_1 : List (S104)) (a2 : ByteArray) (r : Bool) (w : World) (hr1_1 : Kd.C k104 w A1_1 l1_1.length l1_1) (hc1_1 : l1_1.length ≤ c1_1) (h : entrepotref13_Title.f k a0 a1_0 l1_1 a2 = some r) :
  Calls Tryz.prog 20 #[.string a0, .agg #[.int .i64 a1_0, .slice A1_1 l1_1.length c1_1], .string a2] w fun e w' => e = .returned (.bool r) ∧ Below w.heap.size w w' := by
 have hu36 := Tryz.underlying36
 have hu104 := Tryz.underlying104
 have HR1_1 := Aside0.mk hr1_1
 have HC1_1 := Aside0.mk hc1_1
 clear hr1_1 hc1_1
 have HB := Aside0.mk (Below.refl w.heap.size w)
 have H : (entrepotref13_Title.l0 k a0 a2 (⟨#[]⟩ : ByteArray) 0 a1_0 l1_1) = some r := h
 clear h
 have H' := Aside0.mk H
 clear H
 go_enter Tryz.func20, Tryz.ntmps20
 go_wp2_with (first | ((with_reducible refine gate_dst (N := 4) rfl ?_); refine box_event ?hg (N := 4) ?hd (cs := #[.int .i64 a1_0, .slice A1_1 l1_1.length c1_1]) (t := 36) ?hr ?_; (case hd => rfl); (case hg => rfl); (case hr => first | (go_simp; done) | (go_simp; rfl)); intro gb101 hg w4 hbox hb; have n0_ := Aside0.mk (below_step (by repeat (first | (with_reducible first | exact HB.out | apply below_alloc | apply pw_below_drewN | apply below_drew1) | exact HB.out)) hb); have n1_ := Aside0.mk (hbox); have n2_ := Aside0.mk ((by rw [hg]; exact (below_size (by repeat (first | (with_reducible first | exact HB.out | apply below_alloc | apply pw_below_drewN | apply below_drew1) | exact HB.out))) : w.heap.size ≤ gb101)); have n3_ := Aside0.mk ((by rw [hg]; exact (below_size (by repeat (first | (with_reducible first | exact HB.out | apply below_alloc | apply pw_below_drewN | apply below_drew1) | exact HB.out))) : w.heap.size ≤ gb101)); clear HB; have HB := n0_; have BK101 := n1_; have GW101 := n2_; have GE101 := n3_; clear n0_ n1_ n2_ n3_; clear hb hbox hg))
 (try simp only [Act.put, List.setIfInBounds_toArray, List.set_cons_zero, List.set_cons_succ])
 go_loopg [7, 8] k (fun kq v7 v8 w' => ∃ (x7_1 : ByteArray) (x8_1 : Int), v7 = .string x7_1 ∧ v8 = .int .i64 x8_1 ∧ Aside0 (entrepotref13_Title.l0 kq a0 a2 x7_1 x8_1 a1_0 l1_1 = some r) ∧ Aside0 (kq ≤ k) ∧ Aside0 (w'.heap[gb101]? = some (.cells #[.int .i64 a1_0, (.slice A1_1 l1_1.length c1_1)] 36 (0, 0))) ∧ Aside0 (Below w.heap.size w w'))
 case atStart => exact ⟨((⟨#[]⟩ : ByteArray)), (0), (by first | rfl | (simp; done) | (simp [*]; done)), (by first | rfl | (simp; done) | (simp [*]; done)), H', ⟨Nat.le_refl _⟩, ⟨by (with_reducible repeat (first | refine blk_drewN ?_ _ | refine blk_drew ?_ | refine blk_alloc ?_ _)); exact BK101.out⟩, ⟨by repeat (first | (with_reducible first | exact HB.out | apply below_alloc | apply pw_below_drewN | apply below_drew1 | refine below_set ?_ GE101.out) | exact HB.out)⟩⟩
 case round =>
  clear H'
  try clear c1
  try clear c2
  try clear p2
  obtain ⟨x7_1, x8_1, rfl, rfl, HA, HK1, BK101, HB⟩ := hrel
  cases gk with
  | zero => exact absurd HA.out (by simp [entrepotref13_Title.l0])
  | succ k1 =>
   have H := HA.out
   clear HA
   simp only [entrepotref13_Title.l0] at H
   by_cases c5 : x8_1 < (l1_1.length : Int)
   ·rw [if_pos c5] at H
    have c5b0 : decide (x8_1 < (l1_1.length : Int)) = true := decide_eq_true c5
    clear c5
    by_cases c6 : x8_1 > 0
    ·rw [if_pos c6] at H
     have c6b0 : decide (0 < x8_1) = true := decide_eq_true c6
     clear c6
     by_cases c7 : x7_1.size + 1 ≤ 9223372036854775807
     ·rw [if_pos c7] at H
      have c7b0 := eq_true c7
      have c7b1 : decide (x7_1.size + 1 ≤ 9223372036854775807) = true := decide_eq_true c7
      try have c7b2 : (9223372036854775807 < x7_1.size + 1) = False := eq_false (Nat.not_lt.2 c7)
      by_cases c8 : 0 ≤ x8_1
      ·rw [if_pos c8] at H
       have c8b0 : decide (0 ≤ x8_1) = true := decide_eq_true c8
       clear c8
       replace H := Option.bind_eq_some_iff.mp H
       obtain ⟨t103, A90, H⟩ := H
       replace H : (if (x7_1 ++ (⟨#[32]⟩ : ByteArray)).size + t103.size ≤ 9223372036854775807 then (entrepotref13_Title.l0 k1 a0 a2 ((x7_1 ++ (⟨#[32]⟩ : ByteArray)) ++ t103) (wrap64 (x8_1 + 1)) a1_0 l1_1) else (none)) = some r := H
       have A9 := Aside0.mk A90
       clear A90
       by_cases c10 : (x7_1 ++ (⟨#[32]⟩ : ByteArray)).size + t103.size ≤ 9223372036854775807
       ·rw [if_pos c10] at H
        have c10s : x7_1.size + 1 + t103.size ≤ 9223372036854775807 := by (have z_ := c10); simp only [ByteArray.size_append] at z_; exact z_
        replace c10s := eq_true c10s
        try have c10t := eq_false (Nat.not_lt.2 (of_eq_true c10s))
        have c10b0 := eq_true c10
        have c10b1 : decide ((x7_1 ++ (⟨#[32]⟩ : ByteArray)).size + t103.size ≤ 9223372036854775807) = true := decide_eq_true c10
        try have c10b2 : (9223372036854775807 < (x7_1 ++ (⟨#[32]⟩ : ByteArray)).size + t103.size) = False := eq_false (Nat.not_lt.2 c10)
        have H' := Aside0.mk H
        clear H
        have hcz11_0 : wr.cell? ⟨gb101, 0, none⟩ = some (.int .i64 a1_0) := (blk_cell BK101.out 0).trans rfl
        have hcz11_1 : wr.cell? ⟨gb101, 1, none⟩ = some (.slice A1_1 l1_1.length c1_1) := (blk_cell BK101.out 1).trans rfl
        have hfz11_0 := blk_frozen BK101.out 0
        have hfz11_1 := blk_frozen BK101.out 1
        have p102 : 0 ≤ (x8_1 : Int) := of_decide_eq_true (by first | (with_reducible assumption) | assumption)
        have q102 : x8_1 < (l1_1.length : Int) := of_decide_eq_true (by first | (with_reducible assumption) | assumption)
        obtain ⟨ad102, e102, hx102_0, hx102_1⟩ := at_T104 HR1_1.out x8_1 p102 q102
        cases e102
        replace hx102_0 := (HB.out.cell (World.block_lt_of_cell? w _ hx102_0)).trans hx102_0
        replace hx102_1 := (HB.out.cell (World.block_lt_of_cell? w _ hx102_1)).trans hx102_1
        (try simp only [Go.IntWalk.toNatUp] at hx102_0)
        (try simp only [Go.IntWalk.toNatUp] at hx102_1)
        replace p102 := eq_true p102
        replace q102 := eq_true q102
        go_wp2_with (first | ((with_reducible refine gate_callee (f := 55) rfl ?_); refine goesL_ (some 27) rfl rfl Tryz.func55 (by kernel_rfl) rfl #[.string a0, .agg #[.int .i64 ((rd_T104 l1_1 x8_1).f0), .int .i64 ((rd_T104 l1_1 x8_1).f1)]] rfl (by (try simp only [List.map_toArray, List.map_cons, List.map_nil]); first | done | rfl | (simp only [List.length_drop, List.length_take]; rfl)) ?_; (with_reducible refine (entrepotref03_Text.calls a0 ((rd_T104 l1_1 x8_1).f0) ((rd_T104 l1_1 x8_1).f1) t103 _ A9.out).mono ?_); rintro e w12 ⟨rfl, hb⟩; refine ⟨_, rfl, ?_⟩; have n0_ := Aside0.mk (blk_below (g := gb101) (o := .cells #[.int .i64 a1_0, .slice (some ad102) l1_1.length c1_1] 36 (0, 0)) (by (with_reducible repeat (first | refine blk_drewN ?_ _ | refine blk_drew ?_ | refine blk_alloc ?_ _)); exact BK101.out) hb); have n1_ := Aside0.mk (below_step (by repeat (first | (with_reducible first | exact HB.out | apply below_alloc | apply pw_below_drewN | apply below_drew1 | refine below_set ?_ GE101.out) | exact HB.out)) hb); clear BK101; clear HB; have BK101 := n0_; have HB := n1_; clear n0_ n1_; (try clear hb); (try clear hb2); (try clear hk); (try clear hi)))
        go_roundg k1
        case measure => have := HK1.out; omega
        case rel => exact ⟨((x7_1 ++ (⟨#[32]⟩ : ByteArray)) ++ t103), (wrap64 (x8_1 + 1)), (by first | rfl | (simp; done) | (simp [*]; done)), (by first | rfl | (simp; done) | (simp [*]; done)), H', ⟨by have := HK1.out; omega⟩, ⟨by (with_reducible repeat (first | refine blk_drewN ?_ _ | refine blk_drew ?_ | refine blk_alloc ?_ _)); exact BK101.out⟩, ⟨by repeat (first | (with_reducible first | exact HB.out | apply below_alloc | apply pw_below_drewN | apply below_drew1 | refine below_set ?_ GE101.out) | exact HB.out)⟩⟩
       ·rw [if_neg c10] at H
        exact absurd H (by simp)
      ·rw [if_neg c8] at H
       exact absurd H (by simp)
     ·rw [if_neg c7] at H
      exact absurd H (by simp)
    ·rw [if_neg c6] at H
     have c6b0 : decide (0 < x8_1) = false := decide_eq_false c6
     clear c6
     by_cases c13 : 0 ≤ x8_1
     ·rw [if_pos c13] at H
      have c13b0 : decide (0 ≤ x8_1) = true := decide_eq_true c13
      clear c13
      replace H := Option.bind_eq_some_iff.mp H
      obtain ⟨t105, A140, H⟩ := H
      replace H : (if x7_1.size + t105.size ≤ 9223372036854775807 then (entrepotref13_Title.l0 k1 a0 a2 (x7_1 ++ t105) (wrap64 (x8_1 + 1)) a1_0 l1_1) else (none)) = some r := H
      have A14 := Aside0.mk A140
      clear A140
      by_cases c15 : x7_1.size + t105.size ≤ 9223372036854775807
      ·rw [if_pos c15] at H
       have c15b0 := eq_true c15
       have c15b1 : decide (x7_1.size + t105.size ≤ 9223372036854775807) = true := decide_eq_true c15
       try have c15b2 : (9223372036854775807 < x7_1.size + t105.size) = False := eq_false (Nat.not_lt.2 c15)
       have H' := Aside0.mk H
       clear H
       have hcz16_0 : wr.cell? ⟨gb101, 0, none⟩ = some (.int .i64 a1_0) := (blk_cell BK101.out 0).trans rfl
       have hcz16_1 : wr.cell? ⟨gb101, 1, none⟩ = some (.slice A1_1 l1_1.length c1_1) := (blk_cell BK101.out 1).trans rfl
       have hfz16_0 := blk_frozen BK101.out 0
       have hfz16_1 := blk_frozen BK101.out 1
       have p104 : 0 ≤ (x8_1 : Int) := of_decide_eq_true (by first | (with_reducible assumption) | assumption)
       have q104 : x8_1 < (l1_1.length : Int) := of_decide_eq_true (by first | (with_reducible assumption) | assumption)
       obtain ⟨ad104, e104, hx104_0, hx104_1⟩ := at_T104 HR1_1.out x8_1 p104 q104
       cases e104
       replace hx104_0 := (HB.out.cell (World.block_lt_of_cell? w _ hx104_0)).trans hx104_0
       replace hx104_1 := (HB.out.cell (World.block_lt_of_cell? w _ hx104_1)).trans hx104_1
       (try simp only [Go.IntWalk.toNatUp] at hx104_0)
       (try simp only [Go.IntWalk.toNatUp] at hx104_1)
       replace p104 := eq_true p104
       replace q104 := eq_true q104
       go_wp2_with (first | ((with_reducible refine gate_callee (f := 55) rfl ?_); refine goesL_ (some 27) rfl rfl Tryz.func55 (by kernel_rfl) rfl #[.string a0, .agg #[.int .i64 ((rd_T104 l1_1 x8_1).f0), .int .i64 ((rd_T104 l1_1 x8_1).f1)]] rfl (by (try simp only [List.map_toArray, List.map_cons, List.map_nil]); first | done | rfl | (simp only [List.length_drop, List.length_take]; rfl)) ?_; (with_reducible refine (entrepotref03_Text.calls a0 ((rd_T104 l1_1 x8_1).f0) ((rd_T104 l1_1 x8_1).f1) t105 _ A14.out).mono ?_); rintro e w17 ⟨rfl, hb⟩; refine ⟨_, rfl, ?_⟩; have n0_ := Aside0.mk (blk_below (g := gb101) (o := .cells #[.int .i64 a1_0, .slice (some ad104) l1_1.length c1_1] 36 (0, 0)) (by (with_reducible repeat (first | refine blk_drewN ?_ _ | refine blk_drew ?_ | refine blk_alloc ?_ _)); exact BK101.out) hb); have n1_ := Aside0.mk (below_step (by repeat (first | (with_reducible first | exact HB.out | apply below_alloc | apply pw_below_drewN | apply below_drew1 | refine below_set ?_ GE101.out) | exact HB.out)) hb); clear BK101; clear HB; have BK101 := n0_; have HB := n1_; clear n0_ n1_; (try clear hb); (try clear hb2); (try clear hk); (try clear hi)))
       go_roundg k1
       case measure => have := HK1.out; omega
       case rel => exact ⟨(x7_1 ++ t105), (wrap64 (x8_1 + 1)), (by first | rfl | (simp; done) | (simp [*]; done)), (by first | rfl | (simp; done) | (simp [*]; done)), H', ⟨by have := HK1.out; omega⟩, ⟨by (with_reducible repeat (first | refine blk_drewN ?_ _ | refine blk_drew ?_ | refine blk_alloc ?_ _)); exact BK101.out⟩, ⟨by repeat (first | (with_reducible first | exact HB.out | apply below_alloc | apply pw_below_drewN | apply below_drew1 | refine below_set ?_ GE101.out) | exact HB.out)⟩⟩
      ·rw [if_neg c15] at H
       exact absurd H (by simp)
     ·rw [if_neg c13] at H
      exact absurd H (by simp)
   ·rw [if_neg c5] at H
    have c5b0 : decide (x8_1 < (l1_1.length : Int)) = false := decide_eq_false c5
    clear c5
    obtain rfl := Option.some.inj H
    have hcz18_0 : wr.cell? ⟨gb101, 0, none⟩ = some (.int .i64 a1_0) := (blk_cell BK101.out 0).trans rfl
    have hcz18_1 : wr.cell? ⟨gb101, 1, none⟩ = some (.slice A1_1 l1_1.length c1_1) := (blk_cell BK101.out 1).trans rfl
    have hfz18_0 := blk_frozen BK101.out 0
    have hfz18_1 := blk_frozen BK101.out 1
    go_wp2
    go_ret
    exact ⟨by first | rfl | (simp [errW_none, errW_some] <;> rfl) | (simp [*, errW_none, errW_some] <;> rfl), by repeat (first | (with_reducible first | exact HB.out | apply below_alloc | apply pw_below_drewN | apply below_drew1 | refine below_set ?_ GE101.out) | exact HB.out)⟩

end Go.Proofs.YtadocbfchdendaaGreatDoor.P
namespace Go.Proofs.YtadocbfchdendaaGreatDoor.P
open Go.RowKit Go.Proofs.YtadocbfchdendaaGreatDoorW.PrintWords Go.Proofs.YtadocbfchdendaaGreatDoorW.PrintLast Go.Proofs.YtadocbfchdendaaGreatDoorW.PrintMore
attribute [local go_sem] max2_int min2_int max_two min_two max_three min_three max_four min_four   -- for this text's walks alone
set_option linter.unusedVariables false
set_option linter.unusedSimpArgs false
mutual
def entrepotlaw13_SheetRows.j0 : Nat → ByteArray → Int → ByteArray → Bool → Option (Bool)
 | 0, _, _, _, _ => none
 | k + 1, x0, x1, x2, x21 => if x21 = true then ((entrepotlaw13_shown.f k).bind fun t102 => (some t102)) else ((sheet_Rows.f k x0 x1).bind fun t103 => ((entrepotref13_Rows.f k x0 x1).bind fun t106 => ((entrepotlaw13_its.f k t103).bind fun t109 => ((entrepotref13_Same.f k t109 t106).bind fun t112 => (if t112 = true then (entrepotlaw13_SheetRows.l0 k x0 x2 t103 t106 0) else (none))))))
def entrepotlaw13_SheetRows.l0 : Nat → ByteArray → ByteArray → List (S32) → List (S36) → Int → Option (Bool)
 | 0, _, _, _, _, _ => none
 | k + 1, x0, x2, x7, x8, x9 => if x9 < (x7.length : Int) then (if 0 ≤ x9 then ((sheet_Title.f k x0 ((rd_T32 x7 x9).f0) ((rd_T32 x7 x9).f1) x2).bind fun t114 => (if x9 < (x8.length : Int) then ((entrepotref13_Title.f k x0 ((rd_T36 x8 x9).f0) ((rd_T36 x8 x9).f1) x2).bind fun t116 => (if (t114 != t116) = true then (none) else (entrepotlaw13_SheetRows.l0 k x0 x2 x7 x8 (wrap64 (x9 + 1))))) else (none))) else (none)) else (some true)
end
def entrepotlaw13_SheetRows.f (k : Nat) (a0 : ByteArray) (a1 : Int) (a2 : ByteArray) : Option (Bool) := if (a0.size : Int) > 500 then (entrepotlaw13_SheetRows.j0 k a0 a1 a2 true) else (if (a2.size : Int) > 100 then (entrepotlaw13_SheetRows.j0 k a0 a1 a2 true) else ((entrepotlaw13_shown.f k).bind fun t101 => (entrepotlaw13_SheetRows.j0 k a0 a1 a2 (!t101))))
theorem entrepotlaw13_SheetRows.mono_l : ∀ k, (∀ y0 y1 y2 y3, LeO (entrepotlaw13_SheetRows.j0 k y0 y1 y2 y3) (entrepotlaw13_SheetRows.j0 (k + 1) y0 y1 y2 y3)) ∧ (∀ y0 y1 y2 y3 y4, LeO (entrepotlaw13_SheetRows.l0 k y0 y1 y2 y3 y4) (entrepotlaw13_SheetRows.l0 (k + 1) y0 y1 y2 y3 y4))
 | 0 => ⟨fun _ _ _ _ r h => by simp [entrepotlaw13_SheetRows.j0] at h, fun _ _ _ _ _ r h => by simp [entrepotlaw13_SheetRows.l0] at h⟩
 | k + 1 => by
  obtain ⟨ih0, ih1⟩ := entrepotlaw13_SheetRows.mono_l k
  refine ⟨?_, ?_⟩
  ·intro y0 y1 y2 y3
   unfold entrepotlaw13_SheetRows.j0
   repeat' first
   | (with_reducible exact ih0 _ _ _ _)
   | (with_reducible exact ih1 _ _ _ _ _)
   | (with_reducible exact entrepotlaw13_its.mono _ _)
   | (with_reducible exact entrepotlaw13_shown.mono _)
   | (with_reducible exact entrepotref13_Rows.mono _ _ _)
   | (with_reducible exact entrepotref13_Same.mono _ _ _)
   | (with_reducible exact entrepotref13_Title.mono _ _ _ _ _)
   | (with_reducible exact sheet_Rows.mono _ _ _)
   | (with_reducible exact sheet_Title.mono _ _ _ _ _)
   | (with_reducible exact LeO.refl _)
   | (with_reducible exact LeO.none _)
   | (with_reducible refine LeO.ite ?_ ?_)
   | (with_reducible refine LeO.bind ?_ (fun _ => ?_))
   | exact ih0 _ _ _ _
   | exact ih1 _ _ _ _ _
   | exact entrepotlaw13_its.mono _ _
   | exact entrepotlaw13_shown.mono _
   | exact entrepotref13_Rows.mono _ _ _
   | exact entrepotref13_Same.mono _ _ _
   | exact entrepotref13_Title.mono _ _ _ _ _
   | exact sheet_Rows.mono _ _ _
   | exact sheet_Title.mono _ _ _ _ _
   | exact LeO.none _
   | refine LeO.ite ?_ ?_
   | refine LeO.bind ?_ (fun _ => ?_)
  ·intro y0 y1 y2 y3 y4
   unfold entrepotlaw13_SheetRows.l0
   repeat' first
   | (with_reducible exact ih0 _ _ _ _)
   | (with_reducible exact ih1 _ _ _ _ _)
   | (with_reducible exact entrepotlaw13_its.mono _ _)
   | (with_reducible exact entrepotlaw13_shown.mono _)
   | (with_reducible exact entrepotref13_Rows.mono _ _ _)
   | (with_reducible exact entrepotref13_Same.mono _ _ _)
   | (with_reducible exact entrepotref13_Title.mono _ _ _ _ _)
   | (with_reducible exact sheet_Rows.mono _ _ _)
   | (with_reducible exact sheet_Title.mono _ _ _ _ _)
   | (with_reducible exact LeO.refl _)
   | (with_reducible exact LeO.none _)
   | (with_reducible refine LeO.ite ?_ ?_)
   | (with_reducible refine LeO.bind ?_ (fun _ => ?_))
   | exact ih0 _ _ _ _
   | exact ih1 _ _ _ _ _
   | exact entrepotlaw13_its.mono _ _
   | exact entrepotlaw13_shown.mono _
   | exact entrepotref13_Rows.mono _ _ _
   | exact entrepotref13_Same.mono _ _ _
   | exact entrepotref13_Title.mono _ _ _ _ _
   | exact sheet_Rows.mono _ _ _
   | exact sheet_Title.mono _ _ _ _ _
   | exact LeO.none _
   | refine LeO.ite ?_ ?_
   | refine LeO.bind ?_ (fun _ => ?_)
theorem entrepotlaw13_SheetRows.mono : ∀ a0 a1 a2 k, LeO (entrepotlaw13_SheetRows.f k a0 a1 a2) (entrepotlaw13_SheetRows.f (k + 1) a0 a1 a2) := by
 intro a0 a1 a2 k
 obtain ⟨ih0, ih1⟩ := entrepotlaw13_SheetRows.mono_l k
 unfold entrepotlaw13_SheetRows.f
 repeat' first
   | (with_reducible exact ih0 _ _ _ _)
   | (with_reducible exact ih1 _ _ _ _ _)
   | (with_reducible exact entrepotlaw13_its.mono _ _)
   | (with_reducible exact entrepotlaw13_shown.mono _)
   | (with_reducible exact entrepotref13_Rows.mono _ _ _)
   | (with_reducible exact entrepotref13_Same.mono _ _ _)
   | (with_reducible exact entrepotref13_Title.mono _ _ _ _ _)
   | (with_reducible exact sheet_Rows.mono _ _ _)
   | (with_reducible exact sheet_Title.mono _ _ _ _ _)
   | (with_reducible exact LeO.refl _)
   | (with_reducible exact LeO.none _)
   | (with_reducible refine LeO.ite ?_ ?_)
   | (with_reducible refine LeO.bind ?_ (fun _ => ?_))
   | exact ih0 _ _ _ _
   | exact ih1 _ _ _ _ _
   | exact entrepotlaw13_its.mono _ _
   | exact entrepotlaw13_shown.mono _
   | exact entrepotref13_Rows.mono _ _ _
   | exact entrepotref13_Same.mono _ _ _
   | exact entrepotref13_Title.mono _ _ _ _ _
   | exact sheet_Rows.mono _ _ _
   | exact sheet_Title.mono _ _ _ _ _
   | exact LeO.none _
   | refine LeO.ite ?_ ?_
   | refine LeO.bind ?_ (fun _ => ?_)
def entrepotlaw13_SheetRows.T10 : Bool × List (List Nat × List Nat) := (true, [([], []), ([], []), ([], []), ([1, 2], [1, 2]), ([3], [3]), ([], []), ([0, 4, 5], [0, 4, 5]), ([], []), ([], []), ([], []), ([8, 9], [8, 9]), ([10], [10]), ([], []), ([7, 11, 12, 6], [7, 11, 12]), ([6, 13], [6, 13])])
def entrepotlaw13_SheetRows.B10 : List Nat := [0, 0, 0, 6, 14, 0, 63, 0, 0, 0, 768, 1792, 0, 8191, 16383]
theorem entrepotlaw13_SheetRows.tab10 : rtab .any (opsOf Tryz.f3 10) = entrepotlaw13_SheetRows.T10 := by kernel_rfl
theorem entrepotlaw13_SheetRows.bits10 : waitsOk entrepotlaw13_SheetRows.T10.2 entrepotlaw13_SheetRows.B10 = true := by kernel_rfl
set_option maxHeartbeats 8000000 in
set_option maxRecDepth 100000 in
theorem entrepotlaw13_SheetRows.calls (k : Nat) (a0 : ByteArray) (a1 : Int) (a2 : ByteArray) (r : Bool) (w : World) (h : entrepotlaw13_SheetRows.f k a0 a1 a2 = some r) :
  Calls Tryz.prog 3 #[.string a0, .int .i64 a1, .string a2] w fun e w' => e = .returned (.bool r) ∧ Below w.heap.size w w' := by
 have hu32 := Tryz.underlying32
 have hu36 := Tryz.underlying36
 have HB := Aside0.mk (Below.refl w.heap.size w)
 have H : (if (a0.size : Int) > 500 then (entrepotlaw13_SheetRows.j0 k a0 a1 a2 true) else (if (a2.size : Int) > 100 then (entrepotlaw13_SheetRows.j0 k a0 a1 a2 true) else ((entrepotlaw13_shown.f k).bind fun t101 => (entrepotlaw13_SheetRows.j0 k a0 a1 a2 (!t101))))) = some r := h
 clear h
 have HC4 := Aside0.mk H
 clear H
 go_enter Tryz.func3, Tryz.ntmps3
 go_upto_region 1 with (fail)
 go_cut [21] (fun v21 wc => ∃ (kq : Nat) (x21_3 : Bool), v21 = .bool x21_3 ∧ Aside0 (entrepotlaw13_SheetRows.j0 kq a0 a1 a2 x21_3 = some r) ∧ Aside0 (kq ≤ k) ∧ Aside0 (Below w.heap.size w wc))
 case first =>
  have H := HC4.out
  clear HC4
  by_cases c5 : (a0.size : Int) > 500
  ·rw [if_pos c5] at H
   have c5b0 : decide (500 < (a0.size : Int)) = true := decide_eq_true c5
   have c5b1 : decide (500 < a0.size) = true := decide_eq_true (by omega)
   clear c5
   (first | rw [c5b0] | (simp only [i64_w, i32_w]; rw [c5b0]) | skip)
   have H' := Aside0.mk H
   clear H
   go_wp2
   go_meet
   case rel => exact ⟨_, (true), (by first | rfl | (simp; done) | (simp [*]; done)), H', ⟨by first | omega | exact Nat.le_refl _⟩, ⟨by repeat (first | (with_reducible first | exact HB.out | apply below_alloc | apply pw_below_drewN | apply below_drew1) | exact HB.out)⟩⟩
  ·rw [if_neg c5] at H
   have c5b0 : decide (500 < (a0.size : Int)) = false := decide_eq_false c5
   have c5b1 : decide (500 < a0.size) = false := decide_eq_false (by omega)
   clear c5
   (first | rw [c5b0] | (simp only [i64_w, i32_w]; rw [c5b0]) | skip)
   by_cases c6 : (a2.size : Int) > 100
   ·rw [if_pos c6] at H
    have c6b0 : decide (100 < (a2.size : Int)) = true := decide_eq_true c6
    have c6b1 : decide (100 < a2.size) = true := decide_eq_true (by omega)
    clear c6
    have H' := Aside0.mk H
    clear H
    go_wp2
    go_meet
    case rel => exact ⟨_, (true), (by first | rfl | (simp; done) | (simp [*]; done)), H', ⟨by first | omega | exact Nat.le_refl _⟩, ⟨by repeat (first | (with_reducible first | exact HB.out | apply below_alloc | apply pw_below_drewN | apply below_drew1) | exact HB.out)⟩⟩
   ·rw [if_neg c6] at H
    have c6b0 : decide (100 < (a2.size : Int)) = false := decide_eq_false c6
    have c6b1 : decide (100 < a2.size) = false := decide_eq_false (by omega)
    clear c6
    replace H := Option.bind_eq_some_iff.mp H
    obtain ⟨t101, A70, H⟩ := H
    replace H : (entrepotlaw13_SheetRows.j0 k a0 a1 a2 (!t101)) = some r := H
    have A7 := Aside0.mk A70
    clear A70
    have H' := Aside0.mk H
    clear H
    go_wp2_with (first | (go_at_call 14; (with_reducible refine (entrepotlaw13_shown.calls k  t101 _ A7.out).mono ?_); rintro e w8 ⟨rfl, hb⟩; have n0_ := Aside0.mk (below_step (by repeat (first | (with_reducible first | exact HB.out | apply below_alloc | apply pw_below_drewN | apply below_drew1) | exact HB.out)) hb); clear HB; have HB := n0_; clear n0_; (try clear hb); (try clear hb2); (try clear hk); (try clear hi)))
    go_meet
    case rel => exact ⟨_, (!t101), (by first | rfl | (simp; done) | (simp [*]; done)), H', ⟨by first | omega | exact Nat.le_refl _⟩, ⟨by repeat (first | (with_reducible first | exact HB.out | apply below_alloc | apply pw_below_drewN | apply below_drew1) | exact HB.out)⟩⟩
 case rest =>
  clear HC4
  try clear p2
  try clear c3
  try clear c5
  try clear c5b0
  try clear c5b1
  try clear c6
  try clear c6b0
  try clear c6b1
  obtain ⟨kq, x21_3, rfl, HA, HJ3, HB⟩ := hcut
  cases kq with
  | zero => exact absurd HA.out (by simp [entrepotlaw13_SheetRows.j0])
  | succ kj3 =>
   have H := HA.out
   clear HA
   simp only [entrepotlaw13_SheetRows.j0] at H
   by_cases c9 : x21_3 = true
   ·subst c9
    have H1 : ((entrepotlaw13_shown.f kj3).bind fun t102 => (some t102)) = some r := by rw [if_pos rfl] at H; exact H
    clear H
    have H := H1
    clear H1
    replace H := Option.bind_eq_some_iff.mp H
    obtain ⟨t102, A100, H⟩ := H
    replace H : (some t102) = some r := H
    have A10 := Aside0.mk A100
    clear A100
    obtain rfl := Option.some.inj H
    go_wp2_with (first | ((with_reducible refine gate_callee (f := 14) rfl ?_); refine goesL_ (some 22) rfl rfl Tryz.func14 (by kernel_rfl) rfl #[] rfl (by (try simp only [List.map_toArray, List.map_cons, List.map_nil]); first | done | rfl | (simp only [List.length_drop, List.length_take]; rfl)) ?_; (with_reducible refine (entrepotlaw13_shown.calls kj3  t102 _ A10.out).mono ?_); rintro e w11 ⟨rfl, hb⟩; refine ⟨_, rfl, ?_⟩; have n0_ := Aside0.mk (below_step (by repeat (first | (with_reducible first | exact HB.out | apply below_alloc | apply pw_below_drewN | apply below_drew1) | exact HB.out)) hb); clear HB; have HB := n0_; clear n0_; (try clear hb); (try clear hb2); (try clear hk); (try clear hi)))
    go_ret
    exact ⟨by first | rfl | (simp [errW_none, errW_some] <;> rfl) | (simp [*, errW_none, errW_some] <;> rfl), by repeat (first | (with_reducible first | exact HB.out | apply below_alloc | apply pw_below_drewN | apply below_drew1) | exact HB.out)⟩
   ·replace c9 := Bool.eq_false_iff.mpr c9
    subst c9
    have H1 : ((sheet_Rows.f kj3 a0 a1).bind fun t103 => ((entrepotref13_Rows.f kj3 a0 a1).bind fun t106 => ((entrepotlaw13_its.f kj3 t103).bind fun t109 => ((entrepotref13_Same.f kj3 t109 t106).bind fun t112 => (if t112 = true then (entrepotlaw13_SheetRows.l0 kj3 a0 a2 t103 t106 0) else (none)))))) = some r := by rw [if_neg (show ¬ (false = true) by decide)] at H; exact H
    clear H
    have H := H1
    clear H1
    replace H := Option.bind_eq_some_iff.mp H
    obtain ⟨t103, A120, H⟩ := H
    replace H : ((entrepotref13_Rows.f kj3 a0 a1).bind fun t106 => ((entrepotlaw13_its.f kj3 t103).bind fun t109 => ((entrepotref13_Same.f kj3 t109 t106).bind fun t112 => (if t112 = true then (entrepotlaw13_SheetRows.l0 kj3 a0 a2 t103 t106 0) else (none))))) = some r := H
    have A12 := Aside0.mk A120
    clear A120
    replace H := Option.bind_eq_some_iff.mp H
    obtain ⟨t106, A130, H⟩ := H
    replace H : ((entrepotlaw13_its.f kj3 t103).bind fun t109 => ((entrepotref13_Same.f kj3 t109 t106).bind fun t112 => (if t112 = true then (entrepotlaw13_SheetRows.l0 kj3 a0 a2 t103 t106 0) else (none)))) = some r := H
    have A13 := Aside0.mk A130
    clear A130
    replace H := Option.bind_eq_some_iff.mp H
    obtain ⟨t109, A140, H⟩ := H
    replace H : ((entrepotref13_Same.f kj3 t109 t106).bind fun t112 => (if t112 = true then (entrepotlaw13_SheetRows.l0 kj3 a0 a2 t103 t106 0) else (none))) = some r := H
    have A14 := Aside0.mk A140
    clear A140
    replace H := Option.bind_eq_some_iff.mp H
    obtain ⟨t112, A150, H⟩ := H
    replace H : (if t112 = true then (entrepotlaw13_SheetRows.l0 kj3 a0 a2 t103 t106 0) else (none)) = some r := H
    have A15 := Aside0.mk A150
    clear A150
    by_cases c16 : t112 = true
    ·subst c16
     have H1 : (entrepotlaw13_SheetRows.l0 kj3 a0 a2 t103 t106 0) = some r := by rw [if_pos rfl] at H; exact H
     clear H
     have H := H1
     clear H1
     have H' := Aside0.mk H
     clear H
     go_wp2_with (first | ((with_reducible refine gate_callee (f := 15) rfl ?_); refine goesL_ (some 25) rfl rfl Tryz.func15 (by kernel_rfl) rfl #[.string a0, .int .i64 a1] rfl (by (try simp only [List.map_toArray, List.map_cons, List.map_nil]); first | done | rfl | (simp only [List.length_drop, List.length_take]; rfl)) ?_; (with_reducible refine (sheet_Rows.calls kj3 a0 a1 t103 _ A12.out).mono ?_); rintro e w17 ⟨v104, rfl, ho0, hb⟩; refine ⟨_, rfl, ?_⟩; have n0_ := Aside0.mk (Kd.S_lower ho0 (below_size (by repeat (first | (with_reducible first | exact HB.out | apply below_alloc | apply pw_below_drewN | apply below_drew1) | exact HB.out)))); have n1_ := Aside0.mk (below_step (by repeat (first | (with_reducible first | exact HB.out | apply below_alloc | apply pw_below_drewN | apply below_drew1) | exact HB.out)) hb); clear HB; have HO105 := n0_; have HB := n1_; clear n0_ n1_; (try clear hb); (try clear hb2); (try clear hk); (try clear hi); (try clear ho0)) | ((with_reducible refine gate_callee (f := 16) rfl ?_); refine goesL_ (some 28) rfl rfl Tryz.func16 (by kernel_rfl) rfl #[.string a0, .int .i64 a1] rfl (by (try simp only [List.map_toArray, List.map_cons, List.map_nil]); first | done | rfl | (simp only [List.length_drop, List.length_take]; rfl)) ?_; (with_reducible refine (entrepotref13_Rows.calls kj3 a0 a1 t106 _ A13.out).mono ?_); rintro e w18 ⟨v107, rfl, ho0, hb⟩; refine ⟨_, rfl, ?_⟩; have n0_ := Aside0.mk (Kd.S_below (by (with_reducible repeat (first | apply Kd.S_alloc | apply Kd.S_drewN | apply Kd.S_drew)); exact HO105.out) hb); have n1_ := Aside0.mk (Kd.S_lower ho0 (below_size (by repeat (first | (with_reducible first | exact HB.out | apply below_alloc | apply pw_below_drewN | apply below_drew1) | exact HB.out)))); have n2_ := Aside0.mk (below_step (by repeat (first | (with_reducible first | exact HB.out | apply below_alloc | apply pw_below_drewN | apply below_drew1) | exact HB.out)) hb); clear HO105; clear HB; have HO105 := n0_; have HO108 := n1_; have HB := n2_; clear n0_ n1_ n2_; (try clear hb); (try clear hb2); (try clear hk); (try clear hi); (try clear ho0); obtain ⟨Ao19, co19, eo19⟩ := Kd.S_slice HO105.out; subst eo19) | ((with_reducible refine gate_callee (f := 18) rfl ?_); refine goesL_ (some 30) rfl rfl Tryz.func18 (by kernel_rfl) rfl #[.slice Ao19 t103.length co19] rfl (by (try simp only [List.map_toArray, List.map_cons, List.map_nil]); first | done | rfl | (simp only [List.length_drop, List.length_take]; rfl)) ?_; (with_reducible refine (entrepotlaw13_its.calls kj3 _ _ t103 t109 _ ?side1 ?side2 A14.out).mono ?_); (case side1 => repeat (first | exact (Kd.S_reads' HO105.out).2.2 | (with_reducible refine Kd.C_alloc ?_ _) | (with_reducible refine Kd.C_drewN ?_ _) | (with_reducible refine Kd.C_drew ?_))); (case side2 => exact (Kd.S_reads' HO105.out).2.1); rintro e w20 ⟨v110, rfl, ho0, hb⟩; refine ⟨_, rfl, ?_⟩; have n0_ := Aside0.mk (Kd.S_below (by (with_reducible repeat (first | apply Kd.S_alloc | apply Kd.S_drewN | apply Kd.S_drew)); exact HO105.out) hb); have n1_ := Aside0.mk (Kd.S_elder' (by (with_reducible repeat (first | apply Kd.S_alloc | apply Kd.S_drewN | apply Kd.S_drew)); exact HO108.out) (Kd.S_base ho0) hb); have n2_ := Aside0.mk (Kd.S_lower (Kd.S_new' ho0 (Kd.S_lt (by (with_reducible repeat (first | apply Kd.S_alloc | apply Kd.S_drewN | apply Kd.S_drew)); exact HO108.out))) (below_size (by repeat (first | (with_reducible first | exact HB.out | apply below_alloc | apply pw_below_drewN | apply below_drew1) | exact HB.out)))); have n3_ := Aside0.mk (below_step (by repeat (first | (with_reducible first | exact HB.out | apply below_alloc | apply pw_below_drewN | apply below_drew1) | exact HB.out)) hb); clear HO105; clear HO108; clear HB; have HO105 := n0_; have HO108 := n1_; have HO111 := n2_; have HB := n3_; clear n0_ n1_ n2_ n3_; (try clear hb); (try clear hb2); (try clear hk); (try clear hi); (try clear ho0); obtain ⟨Ao21, co21, eo21⟩ := Kd.S_slice HO111.out; subst eo21; obtain ⟨Ao22, co22, eo22⟩ := Kd.S_slice HO108.out; subst eo22) | ((with_reducible refine gate_callee (f := 17) rfl ?_); refine goesL_ (some 32) rfl rfl Tryz.func17 (by kernel_rfl) rfl #[.slice Ao21 t109.length co21, .slice Ao22 t106.length co22] rfl (by (try simp only [List.map_toArray, List.map_cons, List.map_nil]); first | done | rfl | (simp only [List.length_drop, List.length_take]; rfl)) ?_; (with_reducible refine (entrepotref13_Same.calls kj3 _ _ t109 _ _ t106 true _ ?side1 ?side2 ?side3 ?side4 A15.out).mono ?_); (case side1 => repeat (first | exact (Kd.S_reads' HO111.out).2.2 | (with_reducible refine Kd.C_alloc ?_ _) | (with_reducible refine Kd.C_drewN ?_ _) | (with_reducible refine Kd.C_drew ?_))); (case side2 => exact (Kd.S_reads' HO111.out).2.1); (case side3 => repeat (first | exact (Kd.S_reads' HO108.out).2.2 | (with_reducible refine Kd.C_alloc ?_ _) | (with_reducible refine Kd.C_drewN ?_ _) | (with_reducible refine Kd.C_drew ?_))); (case side4 => exact (Kd.S_reads' HO108.out).2.1); rintro e w' ⟨rfl, ⟨nd, rfl⟩⟩; refine ⟨_, rfl, ?_⟩))
     (try simp only [Act.put, List.setIfInBounds_toArray, List.set_cons_zero, List.set_cons_succ])
     go_loopg [9] kj3 (fun kq v9 w' => ∃ (x9_2 : Int), v9 = .int .i64 x9_2 ∧ Aside0 (entrepotlaw13_SheetRows.l0 kq a0 a2 t103 t106 x9_2 = some r) ∧ Aside0 (kq ≤ kj3) ∧ Aside0 (Kd.S k32 32 w' w.heap.size (fun _ => True) (.slice Ao19 t103.length co19) t103) ∧ Aside0 (Kd.S k36 36 w' w.heap.size (fun _ => True) (.slice Ao22 t106.length co22) t106) ∧ Aside0 (Below w.heap.size w w'))
     case atStart => exact ⟨(0), (by first | rfl | (simp; done) | (simp [*]; done)), H', ⟨Nat.le_refl _⟩, ⟨by (with_reducible repeat (first | apply Kd.S_alloc | apply Kd.S_drewN | apply Kd.S_drew)); exact HO105.out⟩, ⟨by (with_reducible repeat (first | apply Kd.S_alloc | apply Kd.S_drewN | apply Kd.S_drew)); exact Kd.S_mono HO108.out (fun _ hk => trivial)⟩, ⟨by repeat (first | (with_reducible first | exact HB.out | apply below_alloc | apply pw_below_drewN | apply below_drew1) | exact HB.out)⟩⟩
     case round =>
      clear H'
      try clear c1
      try clear p2
      try clear c3
      try clear c5
      try clear c5b0
      try clear c5b1
      try clear c6
      try clear c6b0
      try clear c6b1
      try clear c9
      try clear c14
      try clear c15
      try clear c16
      try clear c17
      try clear c18
      try clear p2
      obtain ⟨x9_2, rfl, HA, HK2, HO_7, HO_8, HB⟩ := hrel
      cases gk with
      | zero => exact absurd HA.out (by simp [entrepotlaw13_SheetRows.l0])
      | succ k2 =>
       have H := HA.out
       clear HA
       simp only [entrepotlaw13_SheetRows.l0] at H
       by_cases c23 : x9_2 < (t103.length : Int)
       ·rw [if_pos c23] at H
        have c23b0 : decide (x9_2 < (t103.length : Int)) = true := decide_eq_true c23
        clear c23
        by_cases c24 : 0 ≤ x9_2
        ·rw [if_pos c24] at H
         have c24b0 : decide (0 ≤ x9_2) = true := decide_eq_true c24
         clear c24
         replace H := Option.bind_eq_some_iff.mp H
         obtain ⟨t114, A250, H⟩ := H
         replace H : (if x9_2 < (t106.length : Int) then ((entrepotref13_Title.f k2 a0 ((rd_T36 t106 x9_2).f0) ((rd_T36 t106 x9_2).f1) a2).bind fun t116 => (if (t114 != t116) = true then (none) else (entrepotlaw13_SheetRows.l0 k2 a0 a2 t103 t106 (wrap64 (x9_2 + 1))))) else (none)) = some r := H
         have A25 := Aside0.mk A250
         clear A250
         by_cases c26 : x9_2 < (t106.length : Int)
         ·rw [if_pos c26] at H
          have c26b0 : decide (x9_2 < (t106.length : Int)) = true := decide_eq_true c26
          clear c26
          replace H := Option.bind_eq_some_iff.mp H
          obtain ⟨t116, A270, H⟩ := H
          replace H : (if (t114 != t116) = true then (none) else (entrepotlaw13_SheetRows.l0 k2 a0 a2 t103 t106 (wrap64 (x9_2 + 1)))) = some r := H
          have A27 := Aside0.mk A270
          clear A270
          by_cases c28 : (t114 != t116) = true
          ·rw [if_pos c28] at H
           exact absurd H (by simp)
          ·rw [if_neg c28] at H
           have c28b0 : (t114 != t116) = false := by simpa using c28
           (try (have c28b1 : decide (t114 = t116) = true := by simpa using c28))
           (try (have c28b2 : (t114 == t116) = true := by simpa using c28))
           clear c28
           have H' := Aside0.mk H
           clear H
           try go_wp2
           have n0_ := Aside0.mk (Kd.S_drew HO_7.out)
           have n1_ := Aside0.mk (Kd.S_drew HO_8.out)
           have n2_ := Aside0.mk (below_drew1 HB.out)
           clear HO_7
           clear HO_8
           clear HB
           have HO_7 := n0_
           have HO_8 := n1_
           have HB := n2_
           clear n0_ n1_ n2_
           have p113 : 0 ≤ (x9_2 : Int) := of_decide_eq_true (by first | (with_reducible assumption) | assumption)
           have q113 : x9_2 < (t103.length : Int) := of_decide_eq_true (by first | (with_reducible assumption) | assumption)
           obtain ⟨ad113, A113_1, c113_1, e113, hx113_0, hx113_1, hl113_1, hi113_1⟩ := at_T32 (Kd.S_reads' HO_7.out).2.2 x9_2 p113 q113
           cases e113
           obtain ⟨ce113, hce113, hMe113, hcc113⟩ := Kd.S_get HO_7.out z32 x9_2 p113 (by first | exact q113 | exact of_decide_eq_true (by first | (with_reducible assumption) | assumption) | (have e_ := (Kd.S_reads' HO_7.out).1; omega))
           obtain ⟨ve113_1, rfl, ge113_1⟩ := k32_openM hMe113
           have hv113_1 := hcc113 1 _ rfl
           rw [add_field _ _ 1 (by omega)] at hv113_1
           replace hv113_1 := Option.some.inj (hv113_1.symm.trans hx113_1)
           rw [hv113_1] at ge113_1
           have HL113_1 := Aside0.mk (show Kd.R k105 105 _ _ _ _ ((rd_T32 t103 x9_2).f1) from ge113_1)
           clear hv113_1 ge113_1
           clear hcc113 hce113
           have HR113_1 := Aside0.mk hi113_1
           have HC113_1 := Aside0.mk hl113_1
           clear hi113_1 hl113_1
           (try simp only [Go.IntWalk.toNatUp] at hx113_0)
           (try simp only [Go.IntWalk.toNatUp] at hx113_1)
           replace p113 := eq_true p113
           replace q113 := eq_true q113
           have p115 : 0 ≤ (x9_2 : Int) := of_decide_eq_true (by first | (with_reducible assumption) | assumption)
           have q115 : x9_2 < (t106.length : Int) := of_decide_eq_true (by first | (with_reducible assumption) | assumption)
           obtain ⟨ad115, A115_1, c115_1, e115, hx115_0, hx115_1, hl115_1, hi115_1⟩ := at_T36 (Kd.S_reads' HO_8.out).2.2 x9_2 p115 q115
           cases e115
           obtain ⟨ce115, hce115, hMe115, hcc115⟩ := Kd.S_get HO_8.out z36 x9_2 p115 (by first | exact q115 | exact of_decide_eq_true (by first | (with_reducible assumption) | assumption) | (have e_ := (Kd.S_reads' HO_8.out).1; omega))
           obtain ⟨ve115_1, rfl, ge115_1⟩ := k36_openM hMe115
           have hv115_1 := hcc115 1 _ rfl
           rw [add_field _ _ 1 (by omega)] at hv115_1
           replace hv115_1 := Option.some.inj (hv115_1.symm.trans hx115_1)
           rw [hv115_1] at ge115_1
           have HL115_1 := Aside0.mk (show Kd.R k104 104 _ _ _ _ ((rd_T36 t106 x9_2).f1) from ge115_1)
           clear hv115_1 ge115_1
           clear hcc115 hce115
           have HR115_1 := Aside0.mk hi115_1
           have HC115_1 := Aside0.mk hl115_1
           clear hi115_1 hl115_1
           (try simp only [Go.IntWalk.toNatUp] at hx115_0)
           (try simp only [Go.IntWalk.toNatUp] at hx115_1)
           replace p115 := eq_true p115
           replace q115 := eq_true q115
           refine start_ (n := 15) (S := fun w' => w'.cell? (ad113.add ((x9_2).toNat * 2)) = some (.int .i64 ((rd_T32 t103 x9_2).f0)) ∧ w'.cell? ⟨(ad113.add ((x9_2).toNat * 2)).block, (ad113.add ((x9_2).toNat * 2)).off + 1, none⟩ = some (.slice A113_1 ((rd_T32 t103 x9_2).f1).length c113_1) ∧ w'.cell? (ad115.add ((x9_2).toNat * 2)) = some (.int .i64 ((rd_T36 t106 x9_2).f0)) ∧ w'.cell? ⟨(ad115.add ((x9_2).toNat * 2)).block, (ad115.add ((x9_2).toNat * 2)).off + 1, none⟩ = some (.slice A115_1 ((rd_T36 t106 x9_2).f1).length c115_1)) (ds := []) #[false, false, false, false, false, false, false, false, false, false, false, false, false, false, false] (by kernel_rfl) rfl rfl ⟨hx113_0, hx113_1, hx115_0, hx115_1⟩ (fun hHeld => ?_); refine with_tabW entrepotlaw13_SheetRows.tab10 entrepotlaw13_SheetRows.bits10 (fun HT_ HW_ => ?_)
           generalize wr.drew = w29 at HO_7 HO_8 HB HL113_1 HL115_1 HR113_1 HR115_1 hx113_0 hx113_1 hx115_0 hx115_1 hHeld ⊢
           refine pure_ (i := 0) (N := some 40) (v := ?_) (a' := ?_) #[true, false, false, false, false, false, false, false, false, false, false, false, false, false, false] rfl rfl (any_of HT_.out (by kernel_rfl)) (fun _ _ _ h => h) (Or.inl ⟨by rfl, ?_⟩) ?_ ?_
           rotate_left
           ·intro w'
            go_simp
            with_reducible rfl
           rotate_left
           ·simp only [Act.put, List.setIfInBounds_toArray, List.set_cons_zero, List.set_cons_succ, i64_w, i32_w]
            rfl
           refine pure_ (i := 1) (N := some 41) (v := ?_) (a' := ?_) #[true, true, false, false, false, false, false, false, false, false, false, false, false, false, false] rfl rfl (any_of HT_.out (by kernel_rfl)) (fun _ _ _ h => h) (Or.inl ⟨by rfl, ?_⟩) ?_ ?_
           rotate_left
           ·intro w'
            go_simp
            with_reducible rfl
           rotate_left
           ·simp only [Act.put, List.setIfInBounds_toArray, List.set_cons_zero, List.set_cons_succ, i64_w, i32_w]
            rfl
           refine pure_ (i := 2) (N := some 42) (v := ?_) (a' := ?_) #[true, true, true, false, false, false, false, false, false, false, false, false, false, false, false] rfl rfl (any_of HT_.out (by kernel_rfl)) (fun _ _ _ h => h) (Or.inl ⟨by rfl, ?_⟩) ?_ ?_
           rotate_left
           ·intro w'
            go_simp
            with_reducible rfl
           rotate_left
           ·simp only [Act.put, List.setIfInBounds_toArray, List.set_cons_zero, List.set_cons_succ, i64_w, i32_w]
            rfl
           refine pure_ (i := 3) (N := some 43) (v := ?_) (a' := ?_) #[true, true, true, true, false, false, false, false, false, false, false, false, false, false, false] rfl rfl (any_of HT_.out (by kernel_rfl)) (fun _ _ _ h => h) (Or.inl ⟨by rfl, ?_⟩) ?_ ?_
           rotate_left
           ·intro w'
            go_simp
            with_reducible rfl
           rotate_left
           ·simp only [Act.put, List.setIfInBounds_toArray, List.set_cons_zero, List.set_cons_succ, i64_w, i32_w]
            rfl
           refine pure_ (i := 5) (N := some 45) (v := ?_) (a' := ?_) #[true, true, true, true, false, true, false, false, false, false, false, false, false, false, false] rfl rfl (any_of HT_.out (by kernel_rfl)) (fun _ _ _ h => h) (Or.inl ⟨by rfl, ?_⟩) ?_ ?_
           rotate_left
           ·intro w'
            go_simp
            with_reducible rfl
           rotate_left
           ·simp only [Act.put, List.setIfInBounds_toArray, List.set_cons_zero, List.set_cons_succ, i64_w, i32_w]
            rfl
           refine pure_ (i := 7) (N := some 47) (v := ?_) (a' := ?_) #[true, true, true, true, false, true, false, true, false, false, false, false, false, false, false] rfl rfl (any_of HT_.out (by kernel_rfl)) (fun _ _ _ h => h) (Or.inl ⟨by rfl, ?_⟩) ?_ ?_
           rotate_left
           ·intro w'
            go_simp
            with_reducible rfl
           rotate_left
           ·simp only [Act.put, List.setIfInBounds_toArray, List.set_cons_zero, List.set_cons_succ, i64_w, i32_w]
            rfl
           refine pure_ (i := 8) (N := some 48) (v := ?_) (a' := ?_) #[true, true, true, true, false, true, false, true, true, false, false, false, false, false, false] rfl rfl (any_of HT_.out (by kernel_rfl)) (fun _ _ _ h => h) (Or.inl ⟨by rfl, ?_⟩) ?_ ?_
           rotate_left
           ·intro w'
            go_simp
            with_reducible rfl
           rotate_left
           ·simp only [Act.put, List.setIfInBounds_toArray, List.set_cons_zero, List.set_cons_succ, i64_w, i32_w]
            rfl
           refine pure_ (i := 9) (N := some 49) (v := ?_) (a' := ?_) #[true, true, true, true, false, true, false, true, true, true, false, false, false, false, false] rfl rfl (any_of HT_.out (by kernel_rfl)) (fun _ _ _ h => h) (Or.inl ⟨by rfl, ?_⟩) ?_ ?_
           rotate_left
           ·intro w'
            go_simp
            with_reducible rfl
           rotate_left
           ·simp only [Act.put, List.setIfInBounds_toArray, List.set_cons_zero, List.set_cons_succ, i64_w, i32_w]
            rfl
           refine pure_ (i := 10) (N := some 50) (v := ?_) (a' := ?_) #[true, true, true, true, false, true, false, true, true, true, true, false, false, false, false] rfl rfl (any_of HT_.out (by kernel_rfl)) (fun _ _ _ h => h) (Or.inl ⟨by rfl, ?_⟩) ?_ ?_
           rotate_left
           ·intro w'
            go_simp
            with_reducible rfl
           rotate_left
           ·simp only [Act.put, List.setIfInBounds_toArray, List.set_cons_zero, List.set_cons_succ, i64_w, i32_w]
            rfl
           refine pure_ (i := 12) (N := some 52) (v := ?_) (a' := ?_) #[true, true, true, true, false, true, false, true, true, true, true, false, true, false, false] rfl rfl (any_of HT_.out (by kernel_rfl)) (fun _ _ _ h => h) (Or.inl ⟨by rfl, ?_⟩) ?_ ?_
           rotate_left
           ·intro w'
            go_simp
            with_reducible rfl
           rotate_left
           ·simp only [Act.put, List.setIfInBounds_toArray, List.set_cons_zero, List.set_cons_succ, i64_w, i32_w]
            rfl
           refine take_ (i := 4) (N := some 44) (v := ?_) (a' := ?_) #[true, true, true, true, true, true, false, true, true, true, true, false, true, false, false] rfl rfl (take_ofW HT_.out HW_.out (by kernel_rfl)) (fun _ _ _ h => h) (Or.inl ⟨by rfl, ?_⟩) hHeld ?_ ?_
           rotate_left
           ·rintro w' ⟨s0, s1, s2, s3⟩
            go_simp
            with_reducible rfl
           rotate_left
           ·simp only [Act.put, List.setIfInBounds_toArray, List.set_cons_zero, List.set_cons_succ, i64_w, i32_w]
            rfl
           refine take_ (i := 11) (N := some 51) (v := ?_) (a' := ?_) #[true, true, true, true, true, true, false, true, true, true, true, true, true, false, false] rfl rfl (take_ofW HT_.out HW_.out (by kernel_rfl)) (fun _ _ _ h => h) (Or.inl ⟨by rfl, ?_⟩) hHeld ?_ ?_
           rotate_left
           ·rintro w' ⟨s0, s1, s2, s3⟩
            go_simp
            with_reducible rfl
           rotate_left
           ·simp only [Act.put, List.setIfInBounds_toArray, List.set_cons_zero, List.set_cons_succ, i64_w, i32_w]
            rfl
           refine one_ (i := 6) (N := some 46) #[true, true, true, true, true, true, true, true, true, true, true, true, true, false, false] rfl rfl (one_of HT_.out (by kernel_rfl)) (by decide) (fun K hK => ?_)
           refine goes_ Tryz.func19 (by kernel_rfl) rfl #[.string a0, .agg #[.int .i64 ((rd_T32 t103 x9_2).f0), .slice A113_1 ((rd_T32 t103 x9_2).f1).length c113_1], .string a2] (by rfl) rfl rfl (by (try simp only [List.map_toArray, List.map_cons, List.map_nil]); first | done | rfl | (simp only [List.length_drop, List.length_take]; rfl)) ?_
           with_reducible refine (sheet_Title.calls k2 a0 ((rd_T32 t103 x9_2).f0) _ _ ((rd_T32 t103 x9_2).f1) a2 t114 _ ?side1 ?side2 A25.out).mono ?_
           (case side1 => repeat (first | exact (by repeat (first | (with_reducible exact HR113_1.out) | (with_reducible refine Kd.C_alloc ?_ _) | (with_reducible refine Kd.C_drewN ?_ _) | (with_reducible refine Kd.C_drew ?_) | exact HR113_1.out)) | (with_reducible refine Kd.C_alloc ?_ _) | (with_reducible refine Kd.C_drewN ?_ _) | (with_reducible refine Kd.C_drew ?_)))
           (case side2 => exact HC113_1.out)
           rintro e w30 ⟨rfl, hb⟩
           have HS0_ := (hb.cell (World.block_lt_of_cell? _ _ (hHeld.1))).trans (hHeld.1)
           have HS1_ := (hb.cell (World.block_lt_of_cell? _ _ (hHeld.2.1))).trans (hHeld.2.1)
           have HS2_ := (hb.cell (World.block_lt_of_cell? _ _ (hHeld.2.2.1))).trans (hHeld.2.2.1)
           have HS3_ := (hb.cell (World.block_lt_of_cell? _ _ (hHeld.2.2.2))).trans (hHeld.2.2.2)
           refine ⟨_, rfl, ?_⟩
           have n0_ := Aside0.mk (Kd.S_below (by (with_reducible repeat (first | apply Kd.S_alloc | apply Kd.S_drewN | apply Kd.S_drew)); exact HO_7.out) hb)
           have n1_ := Aside0.mk (Kd.S_below (by (with_reducible repeat (first | apply Kd.S_alloc | apply Kd.S_drewN | apply Kd.S_drew)); exact HO_8.out) hb)
           have n2_ := Aside0.mk (Kd.R_below (by (with_reducible repeat (first | apply Kd.R_alloc | apply Kd.R_drewN | apply Kd.R_drew)); exact HL113_1.out) hb)
           have n3_ := Aside0.mk (Kd.R_below (by (with_reducible repeat (first | apply Kd.R_alloc | apply Kd.R_drewN | apply Kd.R_drew)); exact HL115_1.out) hb)
           have n4_ := Aside0.mk (Kd.C_below (by repeat (first | (with_reducible exact HR113_1.out) | (with_reducible refine Kd.C_alloc ?_ _) | (with_reducible refine Kd.C_drewN ?_ _) | (with_reducible refine Kd.C_drew ?_) | exact HR113_1.out)) hb)
           have n5_ := Aside0.mk (Kd.C_below (by repeat (first | (with_reducible exact HR115_1.out) | (with_reducible refine Kd.C_alloc ?_ _) | (with_reducible refine Kd.C_drewN ?_ _) | (with_reducible refine Kd.C_drew ?_) | exact HR115_1.out)) hb)
           have n6_ := Aside0.mk (below_step (by repeat (first | (with_reducible first | exact HB.out | apply below_alloc | apply pw_below_drewN | apply below_drew1) | exact HB.out)) hb)
           clear HO_7
           clear HO_8
           clear HL113_1
           clear HL115_1
           clear HR113_1
           clear HR115_1
           clear HB
           have HO_7 := n0_
           have HO_8 := n1_
           have HL113_1 := n2_
           have HL115_1 := n3_
           have HR113_1 := n4_
           have HR115_1 := n5_
           have HB := n6_
           clear n0_ n1_ n2_ n3_ n4_ n5_ n6_
           (try clear hb)
           (try clear hb2)
           (try clear hk)
           (try clear hi)
           refine hK.out _ _ ⟨HS0_, HS1_, HS2_, HS3_⟩ (fun hHeld => ?_)
           clear hK K
           refine norm_ (a' := ?_) ?_ ?_
           rotate_left
           ·show Act.put _ (some 46) _ = _
            simp only [Act.put, List.setIfInBounds_toArray, List.set_cons_zero, List.set_cons_succ, i64_w, i32_w]
            rfl
           refine one_ (i := 13) (N := some 53) #[true, true, true, true, true, true, true, true, true, true, true, true, true, true, false] rfl rfl (one_of HT_.out (by kernel_rfl)) (by decide) (fun K hK => ?_)
           refine goes_ Tryz.func20 (by kernel_rfl) rfl #[.string a0, .agg #[.int .i64 ((rd_T36 t106 x9_2).f0), .slice A115_1 ((rd_T36 t106 x9_2).f1).length c115_1], .string a2] (by rfl) rfl rfl (by (try simp only [List.map_toArray, List.map_cons, List.map_nil]); first | done | rfl | (simp only [List.length_drop, List.length_take]; rfl)) ?_
           with_reducible refine (entrepotref13_Title.calls k2 a0 ((rd_T36 t106 x9_2).f0) _ _ ((rd_T36 t106 x9_2).f1) a2 t116 _ ?side1 ?side2 A27.out).mono ?_
           (case side1 => repeat (first | exact (by repeat (first | (with_reducible exact HR115_1.out) | (with_reducible refine Kd.C_alloc ?_ _) | (with_reducible refine Kd.C_drewN ?_ _) | (with_reducible refine Kd.C_drew ?_) | exact HR115_1.out)) | (with_reducible refine Kd.C_alloc ?_ _) | (with_reducible refine Kd.C_drewN ?_ _) | (with_reducible refine Kd.C_drew ?_)))
           (case side2 => exact HC115_1.out)
           rintro e w31 ⟨rfl, hb⟩
           have HS0_ := (hb.cell (World.block_lt_of_cell? _ _ (hHeld.1))).trans (hHeld.1)
           have HS1_ := (hb.cell (World.block_lt_of_cell? _ _ (hHeld.2.1))).trans (hHeld.2.1)
           have HS2_ := (hb.cell (World.block_lt_of_cell? _ _ (hHeld.2.2.1))).trans (hHeld.2.2.1)
           have HS3_ := (hb.cell (World.block_lt_of_cell? _ _ (hHeld.2.2.2))).trans (hHeld.2.2.2)
           refine ⟨_, rfl, ?_⟩
           have n0_ := Aside0.mk (Kd.S_below (by (with_reducible repeat (first | apply Kd.S_alloc | apply Kd.S_drewN | apply Kd.S_drew)); exact HO_7.out) hb)
           have n1_ := Aside0.mk (Kd.S_below (by (with_reducible repeat (first | apply Kd.S_alloc | apply Kd.S_drewN | apply Kd.S_drew)); exact HO_8.out) hb)
           have n2_ := Aside0.mk (Kd.R_below (by (with_reducible repeat (first | apply Kd.R_alloc | apply Kd.R_drewN | apply Kd.R_drew)); exact HL113_1.out) hb)
           have n3_ := Aside0.mk (Kd.R_below (by (with_reducible repeat (first | apply Kd.R_alloc | apply Kd.R_drewN | apply Kd.R_drew)); exact HL115_1.out) hb)
           have n4_ := Aside0.mk (Kd.C_below (by repeat (first | (with_reducible exact HR113_1.out) | (with_reducible refine Kd.C_alloc ?_ _) | (with_reducible refine Kd.C_drewN ?_ _) | (with_reducible refine Kd.C_drew ?_) | exact HR113_1.out)) hb)
           have n5_ := Aside0.mk (Kd.C_below (by repeat (first | (with_reducible exact HR115_1.out) | (with_reducible refine Kd.C_alloc ?_ _) | (with_reducible refine Kd.C_drewN ?_ _) | (with_reducible refine Kd.C_drew ?_) | exact HR115_1.out)) hb)
           have n6_ := Aside0.mk (below_step (by repeat (first | (with_reducible first | exact HB.out | apply below_alloc | apply pw_below_drewN | apply below_drew1) | exact HB.out)) hb)
           clear HO_7
           clear HO_8
           clear HL113_1
           clear HL115_1
           clear HR113_1
           clear HR115_1
           clear HB
           have HO_7 := n0_
           have HO_8 := n1_
           have HL113_1 := n2_
           have HL115_1 := n3_
           have HR113_1 := n4_
           have HR115_1 := n5_
           have HB := n6_
           clear n0_ n1_ n2_ n3_ n4_ n5_ n6_
           (try clear hb)
           (try clear hb2)
           (try clear hk)
           (try clear hi)
           refine hK.out _ _ ⟨HS0_, HS1_, HS2_, HS3_⟩ (fun hHeld => ?_)
           clear hK K
           refine norm_ (a' := ?_) ?_ ?_
           rotate_left
           ·show Act.put _ (some 53) _ = _
            simp only [Act.put, List.setIfInBounds_toArray, List.set_cons_zero, List.set_cons_succ, i64_w, i32_w]
            rfl
           refine pure_ (i := 14) (N := some 54) (v := ?_) (a' := ?_) #[true, true, true, true, true, true, true, true, true, true, true, true, true, true, true] rfl rfl (any_of HT_.out (by kernel_rfl)) (fun _ _ _ h => h) (Or.inl ⟨by rfl, ?_⟩) ?_ ?_
           rotate_left
           ·intro w'
            go_simp
            with_reducible rfl
           rotate_left
           ·simp only [Act.put, List.setIfInBounds_toArray, List.set_cons_zero, List.set_cons_succ, i64_w, i32_w]
            rfl
           refine done_ (done_of HT_.out (by kernel_rfl)) ?_
           try go_wp2
           go_roundg k2
           case measure => have := HJ3.out; have := HK2.out; omega
           case rel => exact ⟨(wrap64 (x9_2 + 1)), (by first | rfl | (simp; done) | (simp [*]; done)), H', ⟨by have := HJ3.out; have := HK2.out; omega⟩, ⟨by (with_reducible repeat (first | apply Kd.S_alloc | apply Kd.S_drewN | apply Kd.S_drew)); exact HO_7.out⟩, ⟨by (with_reducible repeat (first | apply Kd.S_alloc | apply Kd.S_drewN | apply Kd.S_drew)); exact HO_8.out⟩, ⟨by repeat (first | (with_reducible first | exact HB.out | apply below_alloc | apply pw_below_drewN | apply below_drew1) | exact HB.out)⟩⟩
         ·rw [if_neg c26] at H
          exact absurd H (by simp)
        ·rw [if_neg c24] at H
         exact absurd H (by simp)
       ·rw [if_neg c23] at H
        have c23b0 : decide (x9_2 < (t103.length : Int)) = false := decide_eq_false c23
        clear c23
        obtain rfl := Option.some.inj H
        go_wp2
        go_ret
        exact ⟨by first | rfl | (simp [errW_none, errW_some] <;> rfl) | (simp [*, errW_none, errW_some] <;> rfl), by repeat (first | (with_reducible first | exact HB.out | apply below_alloc | apply pw_below_drewN | apply below_drew1) | exact HB.out)⟩
    ·replace c16 := Bool.eq_false_iff.mpr c16
     subst c16
     have H1 : (none) = some r := by rw [if_neg (show ¬ (false = true) by decide)] at H; exact H
     clear H
     have H := H1
     clear H1
     exact absurd H (by simp)

end Go.Proofs.YtadocbfchdendaaGreatDoor.P
namespace Go.Proofs.YtadocbfchdendaaGreatDoor.P
open Go.RowKit
def entrepotlaw13_SheetRows.Pure : Prop := ∀ (a0 : ByteArray) (a1 : Int) (a2 : ByteArray), a0.size ≤ 140737488351232 → (Lit.int .i64 a1).wf = true → a2.size ≤ 140737488351232 → ∃ k, entrepotlaw13_SheetRows.f k a0 a1 a2 = some true
end Go.Proofs.YtadocbfchdendaaGreatDoor.P
namespace Go.Proofs.YtadocbfchdendaaGreatDoor.Cu
open Go.RowKit Go.Lib Go.Proofs.YtadocbfchdendaaGreatDoorW.PrintWords Go.Proofs.YtadocbfchdendaaGreatDoorW.PrintLast Go.Proofs.YtadocbfchdendaaGreatDoorW.PrintMore Go.Proofs.YtadocbfchdendaaGreatDoor.P
set_option linter.unusedSimpArgs false
abbrev RLn := S100
abbrev RWd := S104
def toR (x : Ln) : RLn := ⟨x.f0, x.f1, x.f2⟩
def toW (x : Wd) : RWd := ⟨x.f0, x.f1⟩
theorem w64' {n : Int} (h1 : -9223372036854775808 ≤ n) (h2 : n ≤ 9223372036854775807) : wrap64 n = n := by unfold wrap64; omega
theorem succ' {k n : Nat} (h : n < k) : ∃ m, k = m + 1 ∧ n ≤ m := ⟨k - 1, by omega, by omega⟩
theorem bt_data (s : ByteArray) (i : Nat) (c : UInt8) (h : s.data.toList[i]? = some c) : bt s (i : Int) = (c.toNat : Int) := by
  have hi : i < s.data.toList.length := (List.getElem?_eq_some_iff.1 h).1
  have hc := (List.getElem?_eq_some_iff.1 h).2
  unfold bt
  rw [dif_pos (by rw [Int.toNat_natCast]; exact hi), ← hc]
  rfl
theorem get_data (s : ByteArray) (i : Nat) (h : i < s.size) : ∃ c, s.data.toList[i]? = some c := ⟨_, List.getElem?_eq_getElem (show i < s.data.toList.length from h)⟩
theorem nat_eq {c : UInt8} {n : Nat} (hn : n < 256) : ((c.toNat : Int) = (n : Int)) ↔ c = UInt8.ofNat n := by
  constructor
  · intro h
    apply UInt8.toNat_inj.1
    rw [UInt8.toNat_ofNat_of_lt' (by simpa using hn)]
    omega
  · intro h
    subst h
    rw [UInt8.toNat_ofNat_of_lt' (by simpa using hn)]
theorem lineT_hit (l : List UInt8) (m : Nat) (h1 : ∀ j c, j < m → l[j]? = some c → c ≠ 10) (h2 : l[m]? = some 10) : lineT l = l.take m := by
  induction m generalizing l with
  | zero =>
    cases l with
    | nil => simp at h2
    | cons c l => simp at h2; subst h2; simp [lineT]
  | succ m ih =>
    cases l with
    | nil => simp at h2
    | cons c l =>
      have hc := h1 0 c (by omega) rfl
      have := ih l (fun j d hj hd => h1 (j + 1) d (by omega) (by simpa using hd)) (by simpa using h2)
      rw [List.take_succ_cons, ← this]
      simp [lineT, List.takeWhile_cons, hc]
theorem lineT_all (l : List UInt8) (h1 : ∀ (j : Nat) c, l[j]? = some c → c ≠ 10) : lineT l = l := by
  induction l with
  | nil => rfl
  | cons c l ih =>
    have hc := h1 0 c rfl
    have := ih (fun j d hd => h1 (j + 1) d (by simpa using hd))
    simp only [lineT] at this ⊢
    rw [List.takeWhile_cons, if_pos (by simpa using hc), this]
theorem rlines_l (s : ByteArray) (hs : s.size < 1000000000) (d : Nat) : ∀ (i a k : Nat) (acc : List RLn), i + d = s.size → a ≤ i → acc.length ≤ a → (∀ j c, j < i - a → (s.data.toList.drop a)[j]? = some c → c ≠ 10) → d < k →
    entrepotref01_Lines.l0 k s acc a i = some (acc ++ (linesF (s.size - a) (s.data.toList.drop a) a).map toR) := by
  have hL : s.data.toList.length = s.size := rfl
  induction d with
  | zero =>
    intro i a k acc hi ha hacc hno hk
    obtain ⟨k, rfl, hk⟩ := succ' hk
    simp only [entrepotref01_Lines.l0]
    rw [if_neg (by omega)]
    by_cases hlt : a < s.size
    · rw [if_pos (by omega), if_pos (by omega)]
      have hT : lineT (s.data.toList.drop a) = s.data.toList.drop a := lineT_all _ (fun j c hj => hno j c (by
        have := (List.getElem?_eq_some_iff.1 hj).1
        rw [List.length_drop] at this; omega) hj)
      have hst := lines_step s.data.toList a hlt
      have hx : lineX (s.data.toList.drop a) a = ⟨a, (s.size : Nat), (s.size : Nat)⟩ := by
        unfold lineX
        rw [hT, if_neg (by omega), List.length_drop, hL, show a + (s.size - a) = s.size by omega]
      rw [hL, hx] at hst
      rw [hst]
      simp only [Int.toNat_natCast]
      rw [Nat.sub_self]
      simp [linesF, toR]
    · rw [if_neg (by omega), show s.size - a = 0 by omega]
      simp [linesF]
  | succ d ih =>
    intro i a k acc hi ha hacc hno hk
    obtain ⟨k, rfl, hk⟩ := succ' hk
    obtain ⟨c, hc⟩ := get_data s i (by omega)
    have hci : (s.data.toList.drop a)[i - a]? = some c := by rw [List.getElem?_drop, show a + (i - a) = i by omega]; exact hc
    simp only [entrepotref01_Lines.l0]
    rw [if_pos (by omega), if_pos (by omega), bt_data s i c hc]
    have e1 : wrap64 ((i : Int) + 1) = ((i + 1 : Nat) : Int) := by rw [w64' (by omega) (by omega)]; omega
    rw [e1]
    by_cases h10 : c = 10
    · subst h10
      rw [if_pos (by rfl)]
      have hT := lineT_hit _ (i - a) hno hci
      have hTl : (lineT (s.data.toList.drop a)).length = i - a := by rw [hT, List.length_take, List.length_drop]; omega
      have hst := lines_step s.data.toList a (by omega)
      have hx : lineX (s.data.toList.drop a) a = ⟨a, ((i - cr (lineT (s.data.toList.drop a)) : Nat) : Int), ((i + 1 : Nat) : Int)⟩ := by
        unfold lineX
        rw [hTl, if_pos (by rw [List.length_drop]; omega), show a + (i - a) = i by omega]
      rw [hx, hL] at hst
      simp only [Int.toNat_natCast] at hst
      have next : ∀ acc' : List RLn, acc' = acc ++ [toR ⟨a, ((i - cr (lineT (s.data.toList.drop a)) : Nat) : Int), ((i + 1 : Nat) : Int)⟩] → entrepotref01_Lines.l0 k s acc' ((i + 1 : Nat) : Int) ((i + 1 : Nat) : Int) = some (acc ++ (linesF (s.size - a) (s.data.toList.drop a) a).map toR) := by
        intro acc' e
        rw [ih (i + 1) (i + 1) k acc' (by omega) (Nat.le_refl _) (by rw [e]; simp; omega) (by intro j c hj; omega) (by omega), hst, e]
        simp
      by_cases hia : a < i
      · obtain ⟨c2, hc2⟩ := get_data s (i - 1) (by omega)
        have e2 : wrap64 ((i : Int) - 1) = ((i - 1 : Nat) : Int) := by rw [w64' (by omega) (by omega)]; omega
        have hlast : (lineT (s.data.toList.drop a)).getLast? = some c2 := by
          rw [hT, List.getLast?_eq_getElem?, List.length_take, List.length_drop, show min (i - a) (s.data.toList.length - a) - 1 = i - a - 1 by omega, List.getElem?_take_of_lt (by omega), List.getElem?_drop, show a + (i - a - 1) = i - 1 by omega]
          exact hc2
        rw [if_pos (by omega), e2, if_pos (by omega), if_pos (by omega), bt_data s (i - 1) c2 hc2]
        by_cases h13 : c2 = 13
        · subst h13
          rw [if_pos (by rfl), if_pos (by omega)]
          refine next _ ?_
          have : cr (lineT (s.data.toList.drop a)) = 1 := by unfold cr; rw [hlast]; rfl
          rw [this]; rfl
        · rw [if_neg (by rw [show (13 : Int) = ((13 : Nat) : Int) from rfl, nat_eq (by omega)]; exact h13), if_pos (by omega)]
          refine next _ ?_
          have : cr (lineT (s.data.toList.drop a)) = 0 := by unfold cr; rw [hlast, if_neg (by simpa using h13)]
          rw [this]; rfl
      · rw [if_neg (by omega), if_pos (by omega)]
        refine next _ ?_
        have h0 : lineT (s.data.toList.drop a) = [] := List.length_eq_zero_iff.1 (by omega)
        have : cr (lineT (s.data.toList.drop a)) = 0 := by rw [h0]; rfl
        rw [this]; rfl
    · rw [if_neg (by rw [show (10 : Int) = ((10 : Nat) : Int) from rfl, nat_eq (by omega)]; exact h10)]
      refine ih (i + 1) a k acc (by omega) (by omega) hacc (fun j c' hj hc' => ?_) (by omega)
      by_cases hj' : j < i - a
      · exact hno j c' hj' hc'
      · obtain rfl : j = i - a := by omega
        rw [hci] at hc'
        injection hc' with hc'
        rw [← hc']; exact h10
theorem RLines_eq (s : ByteArray) (hs : s.size < 1000000000) (k : Nat) (hk : s.size < k) : entrepotref01_Lines.f k s = some ((linesL s.data.toList).map toR) := by
  have := rlines_l s hs s.size 0 0 k [] (by omega) (Nat.le_refl _) (by simp) (by intro j c hj; omega) (by omega)
  simpa [entrepotref01_Lines.f, linesL] using this
theorem rblank_l (s : ByteArray) (hs : s.size < 1000000000) (b : Nat) (hb : b ≤ s.size) (x y z : Int) (hy : y = (b : Int)) (d : Nat) : ∀ (i k : Nat), i + d = b → d < k →
    entrepotref01_Blank.l0 k s i x y z = some (((s.data.toList.drop i).take (b - i)).all blankC) := by
  subst hy
  have hL : s.data.toList.length = s.size := rfl
  induction d with
  | zero =>
    intro i k hi hk
    obtain ⟨k, rfl, hk⟩ := succ' hk
    simp only [entrepotref01_Blank.l0]
    rw [if_neg (by omega), show b - i = 0 by omega]
    rfl
  | succ d ih =>
    intro i k hi hk
    obtain ⟨k, rfl, hk⟩ := succ' hk
    obtain ⟨c, hc⟩ := get_data s i (by omega)
    have hd : s.data.toList.drop i = c :: s.data.toList.drop (i + 1) := by
      rw [List.drop_eq_getElem_cons (show i < s.data.toList.length by omega)]
      congr 1
      exact Option.some.inj ((List.getElem?_eq_getElem (show i < s.data.toList.length by omega)).symm.trans hc)
    have e1 : wrap64 ((i : Int) + 1) = ((i + 1 : Nat) : Int) := by rw [w64' (by omega) (by omega)]; omega
    have ht : ((s.data.toList.drop i).take (b - i)).all blankC = (blankC c && ((s.data.toList.drop (i + 1)).take (b - (i + 1))).all blankC) := by
      rw [hd, show b - i = (b - (i + 1)) + 1 by omega, List.take_succ_cons, List.all_cons]
    simp only [entrepotref01_Blank.l0]
    rw [if_pos (by omega), if_pos (by omega), if_pos (by omega), bt_data s i c hc, e1, ht]
    have ih' := ih (i + 1) k (by omega) (by omega)
    by_cases h32 : c = 32
    · subst h32
      rw [if_pos (by rfl), ih']
      rfl
    · rw [if_neg (by rw [show (32 : Int) = ((32 : Nat) : Int) from rfl, nat_eq (by omega)]; exact h32)]
      by_cases h9 : c = 9
      · subst h9
        rw [if_pos (by rfl), ih']
        rfl
      · rw [if_neg (by rw [show (9 : Int) = ((9 : Nat) : Int) from rfl, nat_eq (by omega)]; exact h9)]
        have : blankC c = false := by unfold blankC; simp [h32, h9]
        rw [this]; rfl
theorem RBlank_eq (s : ByteArray) (hs : s.size < 1000000000) (x : Ln) (hx : LOk s x) (k : Nat) (hk : s.size < k) : entrepotref01_Blank.f k s x.f0 x.f1 x.f2 = some (blankL s.data.toList x) := by
  obtain ⟨h0, h1, h2⟩ := hx
  obtain ⟨a, ha⟩ := Int.eq_ofNat_of_zero_le h0
  obtain ⟨b, hb⟩ := Int.eq_ofNat_of_zero_le (show 0 ≤ x.f1 by omega)
  unfold entrepotref01_Blank.f blankL
  rw [ha, hb, rblank_l s hs b (by omega) _ _ _ rfl (b - a) a k (by omega) (by omega)]
  simp
theorem linesF_ok (s : ByteArray) (d : Nat) : ∀ a, a + d = s.size → ∀ x ∈ linesF (s.size - a) (s.data.toList.drop a) a, LOk s x := by
  induction d using Nat.strongRecOn with
  | ind d ih =>
    intro a ha x hx
    have hL : s.data.toList.length = s.size := rfl
    by_cases h0 : d = 0
    · rw [show s.size - a = 0 by omega] at hx
      simp [linesF] at hx
    · have hst := lines_step s.data.toList a (by omega)
      rw [hL] at hst
      rw [hst] at hx
      rcases List.mem_cons.1 hx with rfl | hx
      · exact lineX_ok s a (by omega)
      · have hn := lineX_next s.data.toList a (by omega)
        exact ih (s.size - (lineX (s.data.toList.drop a) a).f2.toNat) (by omega) _ (by omega) x hx
theorem linesL_ok (s : ByteArray) : ∀ x ∈ linesL s.data.toList, LOk s x := linesF_ok s s.size 0 (by omega)
theorem rd_map (l : List Ln) (i : Nat) (x : Ln) (h : l[i]? = some x) : rd_T100 (l.map toR) (i : Int) = toR x := by
  unfold rd_T100
  rw [Int.toNat_natCast, List.getD_eq_getElem?_getD, List.getElem?_map, h]
  rfl
theorem rrows_l (s : ByteArray) (hs : s.size < 1000000000) (L : List Ln) (hL : ∀ x ∈ L, LOk s x) (hlen : L.length < 1000000000) (d : Nat) : ∀ (i k : Nat) (acc : List RLn), i + d = L.length → acc.length ≤ i → s.size + 1 + d < k →
    entrepotref01_Rows.l0 k s acc (L.map toR) i = some (acc ++ ((L.drop i).filter (fun x => !blankL s.data.toList x)).map toR) := by
  induction d with
  | zero =>
    intro i k acc hi hacc hk
    obtain ⟨k, rfl, hk⟩ := succ' hk
    simp only [entrepotref01_Rows.l0]
    rw [if_neg (by rw [List.length_map]; omega), List.drop_of_length_le (by omega)]
    simp
  | succ d ih =>
    intro i k acc hi hacc hk
    obtain ⟨k, rfl, hk⟩ := succ' hk
    obtain ⟨x, hx⟩ : ∃ x, L[i]? = some x := ⟨_, List.getElem?_eq_getElem (show i < L.length by omega)⟩
    have hd : L.drop i = x :: L.drop (i + 1) := by
      rw [List.drop_eq_getElem_cons (show i < L.length by omega)]
      congr 1
      exact Option.some.inj ((List.getElem?_eq_getElem (show i < L.length by omega)).symm.trans hx)
    have e1 : wrap64 ((i : Int) + 1) = ((i + 1 : Nat) : Int) := by rw [w64' (by omega) (by omega)]; omega
    simp only [entrepotref01_Rows.l0]
    rw [if_pos (by rw [List.length_map]; omega), if_pos (by omega), rd_map L i x hx, e1]
    have hB := RBlank_eq s hs x (hL x (List.mem_of_getElem? hx)) k (by omega)
    rw [show (toR x).f0 = x.f0 from rfl, show (toR x).f1 = x.f1 from rfl, show (toR x).f2 = x.f2 from rfl, hB]
    simp only [Option.bind_some]
    rw [hd]
    cases hb : blankL s.data.toList x with
    | true =>
      rw [if_pos rfl, ih (i + 1) k acc (by omega) (by omega) (by omega)]
      simp [hb]
    | false =>
      rw [if_neg (by simp), if_pos (by omega), ih (i + 1) k _ (by omega) (by simp; omega) (by omega)]
      simp [hb, toR]
theorem linesL_len (s : List UInt8) : (linesL s).length ≤ s.length := linesF_len _ _ _
theorem RRows_eq (s : ByteArray) (hs : s.size < 1000000000) (k : Nat) (hk : 2 * s.size + 2 < k) : entrepotref01_Rows.f k s = some ((rowsL s.data.toList).map toR) := by
  have hl := linesL_len s.data.toList
  have hL : s.data.toList.length = s.size := rfl
  unfold entrepotref01_Rows.f
  rw [RLines_eq s hs k (by omega)]
  simp only [Option.bind_some]
  have := rrows_l s hs (linesL s.data.toList) (linesL_ok s) (by omega) (linesL s.data.toList).length 0 k [] (by omega) (by simp) (by omega)
  simpa [rowsL] using this
theorem rblankc (c : UInt8) : entrepotref03_blank.f (c.toNat : Int) = some (blankC c) := by
  unfold entrepotref03_blank.f blankC
  by_cases h32 : c = 32
  · subst h32; rfl
  · rw [if_neg (by rw [show (32 : Int) = ((32 : Nat) : Int) from rfl, nat_eq (by omega)]; exact h32)]
    have h0 : (c == 32) = false := by simpa using h32
    rw [h0, Bool.false_or]
    by_cases h9 : c = 9
    · subst h9; rfl
    · have h1 : (c == 9) = false := by simpa using h9
      rw [h1]
      have h2 : ¬ ((c.toNat : Int) = 9) := by rw [show (9 : Int) = ((9 : Nat) : Int) from rfl, nat_eq (by omega)]; exact h9
      rw [Option.some.injEq, beq_eq_false_iff_ne]; exact h2
def openW (ws : List Wd) (st : Option Nat) (i : Nat) : List RWd := ws.map toW ++ (match st with | none => [] | some b => [⟨b, i⟩])
theorem openW_none (ws : List Wd) (i j : Nat) : openW ws none i = openW ws none j := rfl
theorem rfields_l (s : ByteArray) (hs : s.size < 1000000000) (a b : Nat) (hb : b ≤ s.size) (d : Nat) : ∀ (i k : Nat) (ws : List Wd) (st : Option Nat), i + d = b → a ≤ i → ws.length + 1 ≤ i + 1 - a → (st = none → i = a ∨ ∃ c, s.data.toList[i - 1]? = some c ∧ blankC c = true) → (∀ e, st = some e → a < i ∧ ∃ c, s.data.toList[i - 1]? = some c ∧ blankC c = false) → d < k →
    entrepotref03_Fields.l0 k s a b (openW ws st i) i = some ((ws ++ fieldsG ((s.data.toList.drop i).take (b - i)) i st).map toW) := by
  have hL : s.data.toList.length = s.size := rfl
  induction d with
  | zero =>
    intro i k ws st hi ha hl hn hsm hk
    obtain ⟨k, rfl, hk⟩ := succ' hk
    simp only [entrepotref03_Fields.l0]
    rw [if_neg (by omega), show b - i = 0 by omega, List.take_zero]
    cases st with
    | none => simp [openW, fieldsG]
    | some e => simp [openW, fieldsG, toW]
  | succ d ih =>
    intro i k ws st hi ha hl hn hsm hk
    obtain ⟨k, rfl, hk⟩ := succ' hk
    obtain ⟨c, hc⟩ := get_data s i (by omega)
    have hd : (s.data.toList.drop i).take (b - i) = c :: (s.data.toList.drop (i + 1)).take (b - (i + 1)) := by
      rw [List.drop_eq_getElem_cons (show i < s.data.toList.length by omega), show b - i = (b - (i + 1)) + 1 by omega, List.take_succ_cons]
      congr 1
      exact Option.some.inj ((List.getElem?_eq_getElem (show i < s.data.toList.length by omega)).symm.trans hc)
    have e1 : wrap64 ((i : Int) + 1) = ((i + 1 : Nat) : Int) := by rw [w64' (by omega) (by omega)]; omega
    simp only [entrepotref03_Fields.l0]
    rw [if_pos (by omega), if_pos (by omega), if_pos (by omega), bt_data s i c hc, rblankc, e1, hd]
    simp only [Option.bind_some]
    have hlen : (openW ws st i).length ≤ ws.length + 1 := by
      unfold openW
      cases st <;> simp
    cases hbc : blankC c with
    | true =>
      rw [if_pos rfl]
      cases st with
      | none =>
        rw [fieldsG_none _ _ _ hbc, openW_none ws i (i + 1)]
        exact ih (i + 1) k ws none (by omega) (by omega) (by omega) (fun _ => .inr ⟨c, by rw [Nat.add_sub_cancel]; exact hc, hbc⟩) (by simp) (by omega)
      | some e =>
        rw [fieldsG_some _ _ _ _ hbc]
        have h1 : openW ws (some e) i = openW (ws ++ [(⟨(e : Int), (i : Int)⟩ : Wd)]) none (i + 1) := by simp [openW, toW]
        rw [h1, ih (i + 1) k (ws ++ [(⟨(e : Int), (i : Int)⟩ : Wd)]) none (by omega) (by omega) (by have := (hsm e rfl).1; simp; omega) (fun _ => .inr ⟨c, by rw [Nat.add_sub_cancel]; exact hc, hbc⟩) (by simp) (by omega)]
        simp
    | false =>
      rw [if_neg (by simp), fieldsG_skip _ _ _ _ hbc]
      cases st with
      | none =>
        have h2 : openW ws none i ++ [(⟨(i : Int), ((i + 1 : Nat) : Int)⟩ : RWd)] = openW ws (some i) (i + 1) := by simp [openW]
        have h3 := ih (i + 1) k ws (some i) (by omega) (by omega) (by omega) (by simp) (fun e _ => ⟨by omega, c, by rw [Nat.add_sub_cancel]; exact hc, hbc⟩) (by omega)
        rcases hn rfl with hia | ⟨c2, hc2, hb2⟩
        · rw [if_neg (by omega), if_pos (by omega), h2, h3]; rfl
        · by_cases hia : a < i
          · have e2 : wrap64 ((i : Int) - 1) = ((i - 1 : Nat) : Int) := by rw [w64' (by omega) (by omega)]; omega
            rw [if_pos (by omega), e2, if_pos (by omega), if_pos (by omega), bt_data s (i - 1) c2 hc2, rblankc, hb2]
            simp only [Option.bind_some, if_true]
            rw [if_pos (by omega), h2, h3]; rfl
          · rw [if_neg (by omega), if_pos (by omega), h2, h3]; rfl
      | some e =>
        obtain ⟨hia, c2, hc2, hb2⟩ := hsm e rfl
        have e2 : wrap64 ((i : Int) - 1) = ((i - 1 : Nat) : Int) := by rw [w64' (by omega) (by omega)]; omega
        have hol : (openW ws (some e) i).length = ws.length + 1 := by simp [openW]
        have e3 : wrap64 (((openW ws (some e) i).length : Int) - 1) = (ws.length : Int) := by rw [hol, w64' (by omega) (by omega)]; omega
        rw [if_pos (by omega), e2, if_pos (by omega), if_pos (by omega), bt_data s (i - 1) c2 hc2, rblankc, hb2]
        simp only [Option.bind_some, Bool.false_eq_true, if_false]
        rw [e3, if_pos (by omega), if_pos (by omega)]
        have h4 : (openW ws (some e) i).set ((ws.length : Int)).toNat ⟨(rd_T104 (openW ws (some e) i) (ws.length : Int)).f0, ((i + 1 : Nat) : Int)⟩ = openW ws (some e) (i + 1) := by
          have h5 : (openW ws (some e) i)[ws.length]? = some ⟨e, i⟩ := by
            unfold openW
            rw [List.getElem?_append_right (by simp)]
            simp
          have h6 : rd_T104 (openW ws (some e) i) (ws.length : Int) = ⟨e, i⟩ := by
            unfold rd_T104
            rw [Int.toNat_natCast, List.getD_eq_getElem?_getD, h5]; rfl
          rw [h6, Int.toNat_natCast]
          unfold openW
          rw [List.set_append_right _ _ (by simp)]
          simp
        rw [h4, ih (i + 1) k ws (some e) (by omega) (by omega) (by omega) (by simp) (fun e' _ => ⟨by omega, c, by rw [Nat.add_sub_cancel]; exact hc, hbc⟩) (by omega)]
        rfl
theorem RFields_eq (s : ByteArray) (hs : s.size < 1000000000) (a b : Nat) (hab : a ≤ b) (hb : b ≤ s.size) (k : Nat) (hk : s.size < k) : entrepotref03_Fields.f k s a b = some ((fieldsG ((s.data.toList.drop a).take (b - a)) a none).map toW) := by
  unfold entrepotref03_Fields.f
  have hp : entrepotref03_places.f s a b = some true := by
    unfold entrepotref03_places.f
    rw [if_pos (by omega), if_pos (by omega)]
    simp; omega
  simp only [Option.bind_some]
  rw [hp]
  simp only [Option.bind_some, if_true]
  have := rfields_l s hs a b hb (b - a) a k [] none (by omega) (Nat.le_refl _) (by simp) (fun _ => .inl rfl) (by simp) (by omega)
  simpa [openW] using this
end Go.Proofs.YtadocbfchdendaaGreatDoor.Cu
namespace Go.Proofs.YtadocbfchdendaaGreatDoor.Cu
open Go.RowKit Go.Lib Go.Proofs.YtadocbfchdendaaGreatDoorW.PrintWords Go.Proofs.YtadocbfchdendaaGreatDoorW.PrintLast Go.Proofs.YtadocbfchdendaaGreatDoorW.PrintMore Go.Proofs.YtadocbfchdendaaGreatDoor.P
set_option linter.unusedSimpArgs false
abbrev Row := S32
abbrev RRow := S36
def toRow (x : Row) : RRow := ⟨x.f0, x.f1.map toW⟩
def rowOf (s : List UInt8) (l : Ln) : Row := ⟨l.f0, fieldsG ((s.drop l.f0.toNat).take (l.f1.toNat - l.f0.toNat)) l.f0.toNat none⟩
def shR (s : List UInt8) (from_ : Int) : List Row := ((rowsL s).filter (fun l => decide (from_ ≤ l.f0))).map (rowOf s)
theorem rowsL_ok (s : ByteArray) : ∀ x ∈ rowsL s.data.toList, LOk s x := fun x hx => linesL_ok s x (List.mem_filter.1 hx).1
theorem rowsL_len (s : List UInt8) : (rowsL s).length ≤ s.length := Nat.le_trans (List.length_filter_le _ _) (linesL_len s)
theorem drop_cons' {α : Type} (L : List α) (i : Nat) (x : α) (hx : L[i]? = some x) : L.drop i = x :: L.drop (i + 1) := by
  have hi := (List.getElem?_eq_some_iff.1 hx).1
  rw [List.drop_eq_getElem_cons hi]
  congr 1
  exact Option.some.inj ((List.getElem?_eq_getElem hi).symm.trans hx)
theorem rdL (l : List Ln) (i : Nat) (x : Ln) (h : l[i]? = some x) : rd_T96 l (i : Int) = x := by
  unfold rd_T96
  rw [Int.toNat_natCast, List.getD_eq_getElem?_getD, h]
  rfl
theorem shrows_l (s : ByteArray) (hs : s.size < 1000000000) (from_ : Int) (L : List Ln) (hL : ∀ x ∈ L, LOk s x) (hlen : L.length < 1000000000) (d : Nat) : ∀ (i k : Nat) (acc : List Row), i + d = L.length → acc.length ≤ i → d < k →
    sheet_Rows.l0 k s from_ acc L (L.length : Int) i = some (acc ++ ((L.drop i).filter (fun l => decide (from_ ≤ l.f0))).map (rowOf s.data.toList)) := by
  induction d with
  | zero =>
    intro i k acc hi hacc hk
    obtain ⟨k, rfl, hk⟩ := succ' hk
    simp only [sheet_Rows.l0]
    rw [if_neg (by omega), List.drop_of_length_le (by omega)]
    simp
  | succ d ih =>
    intro i k acc hi hacc hk
    obtain ⟨k, rfl, hk⟩ := succ' hk
    obtain ⟨x, hx⟩ : ∃ x, L[i]? = some x := ⟨_, List.getElem?_eq_getElem (show i < L.length by omega)⟩
    have e1 : wrap64 ((i : Int) + 1) = ((i + 1 : Nat) : Int) := by rw [w64' (by omega) (by omega)]; omega
    obtain ⟨o1, o2, o3⟩ := hL x (List.mem_of_getElem? hx)
    simp only [sheet_Rows.l0]
    rw [if_pos (by omega), if_pos (by omega), if_pos (by omega), rdL L i x hx, e1, drop_cons' L i x hx]
    by_cases hf : from_ ≤ x.f0
    · rw [if_pos hf]
      unfold words_Fields.f
      rw [if_pos hs, if_pos ⟨o1, o2, o3⟩]
      simp only [Option.bind_some]
      rw [if_pos (by omega), ih (i + 1) k _ (by omega) (by simp; omega) (by omega)]
      simp [hf, rowOf]
    · rw [if_neg hf, ih (i + 1) k acc (by omega) (by omega) (by omega)]
      simp [hf]
theorem Rows_sheet (s : ByteArray) (hs : s.size < 1000000000) (from_ : Int) (k : Nat) (hk : s.size < k) : sheet_Rows.f k s from_ = some (shR s.data.toList from_) := by
  have hl := rowsL_len s.data.toList
  have hL : s.data.toList.length = s.size := rfl
  unfold sheet_Rows.f cursor_Rows.f
  rw [if_pos hs]
  simp only [Option.bind_some]
  have := shrows_l s hs from_ (rowsL s.data.toList) (rowsL_ok s) (by omega) (rowsL s.data.toList).length 0 k [] (by omega) (by simp) (by omega)
  simpa [shR] using this
theorem rshrows_l (s : ByteArray) (hs : s.size < 1000000000) (from_ : Int) (L : List Ln) (hL : ∀ x ∈ L, LOk s x) (hlen : L.length < 1000000000) (d : Nat) : ∀ (i k : Nat) (acc : List RRow), i + d = L.length → acc.length ≤ i → s.size + 1 + d < k →
    entrepotref13_Rows.l0 k s from_ acc (L.map toR) i = some (acc ++ (((L.drop i).filter (fun l => decide (from_ ≤ l.f0))).map (rowOf s.data.toList)).map toRow) := by
  induction d with
  | zero =>
    intro i k acc hi hacc hk
    obtain ⟨k, rfl, hk⟩ := succ' hk
    simp only [entrepotref13_Rows.l0]
    rw [if_neg (by rw [List.length_map]; omega), List.drop_of_length_le (by omega)]
    simp
  | succ d ih =>
    intro i k acc hi hacc hk
    obtain ⟨k, rfl, hk⟩ := succ' hk
    obtain ⟨x, hx⟩ : ∃ x, L[i]? = some x := ⟨_, List.getElem?_eq_getElem (show i < L.length by omega)⟩
    have e1 : wrap64 ((i : Int) + 1) = ((i + 1 : Nat) : Int) := by rw [w64' (by omega) (by omega)]; omega
    obtain ⟨o1, o2, o3⟩ := hL x (List.mem_of_getElem? hx)
    obtain ⟨a, ha⟩ := Int.eq_ofNat_of_zero_le o1
    obtain ⟨b, hb⟩ := Int.eq_ofNat_of_zero_le (show 0 ≤ x.f1 by omega)
    simp only [entrepotref13_Rows.l0]
    rw [if_pos (by rw [List.length_map]; omega), if_pos (by omega), rd_map L i x hx, e1, drop_cons' L i x hx]
    rw [show (toR x).f0 = x.f0 from rfl, show (toR x).f1 = x.f1 from rfl]
    by_cases hf : from_ ≤ x.f0
    · rw [if_pos hf, ha, hb, RFields_eq s hs a b (by omega) (by omega) k (by omega)]
      simp only [Option.bind_some]
      rw [if_pos (by omega), ih (i + 1) k _ (by omega) (by simp; omega) (by omega)]
      rw [List.filter_cons_of_pos (by simpa using hf)]
      simp [rowOf, toRow, ha, hb]
    · rw [if_neg hf, ih (i + 1) k acc (by omega) (by omega) (by omega)]
      simp [hf]
theorem Rows_ref (s : ByteArray) (hs : s.size < 1000000000) (from_ : Int) (k : Nat) (hk : 2 * s.size + 2 < k) : entrepotref13_Rows.f k s from_ = some ((shR s.data.toList from_).map toRow) := by
  have hl := rowsL_len s.data.toList
  have hL : s.data.toList.length = s.size := rfl
  unfold entrepotref13_Rows.f
  rw [RRows_eq s hs k hk]
  simp only [Option.bind_some]
  have := rshrows_l s hs from_ (rowsL s.data.toList) (rowsL_ok s) (by omega) (rowsL s.data.toList).length 0 k [] (by omega) (by simp) (by omega)
  simpa [shR] using this
end Go.Proofs.YtadocbfchdendaaGreatDoor.Cu
namespace Go.Proofs.YtadocbfchdendaaGreatDoor.Cu
open Go.RowKit Go.Lib Go.Proofs.YtadocbfchdendaaGreatDoorW.PrintWords Go.Proofs.YtadocbfchdendaaGreatDoorW.PrintLast Go.Proofs.YtadocbfchdendaaGreatDoorW.PrintMore Go.Proofs.YtadocbfchdendaaGreatDoor.P
set_option linter.unusedSimpArgs false
theorem shown13 : entrepotlaw13_shown.f 60 = some true := by kernel_rfl
theorem up13 (k : Nat) (hk : 60 ≤ k) : entrepotlaw13_shown.f k = some true := by
  obtain ⟨d, rfl⟩ : ∃ d, k = 60 + d := ⟨k - 60, by omega⟩
  induction d with
  | zero => exact shown13
  | succ d ih => exact entrepotlaw13_shown.mono (60 + d) _ (ih (by omega))
theorem rdS (l : List Row) (i : Nat) (x : Row) (h : l[i]? = some x) : rd_T32 l (i : Int) = x := by
  unfold rd_T32
  rw [Int.toNat_natCast, List.getD_eq_getElem?_getD, h]
  rfl
theorem rdW (l : List Wd) (i : Nat) (x : Wd) (h : l[i]? = some x) : rd_T105 l (i : Int) = x := by
  unfold rd_T105
  rw [Int.toNat_natCast, List.getD_eq_getElem?_getD, h]
  rfl
theorem rdRW (l : List RWd) (i : Nat) (x : RWd) (h : l[i]? = some x) : rd_T104 l (i : Int) = x := by
  unfold rd_T104
  rw [Int.toNat_natCast, List.getD_eq_getElem?_getD, h]
  rfl
theorem rdRR (l : List RRow) (i : Nat) (x : RRow) (h : l[i]? = some x) : rd_T36 l (i : Int) = x := by
  unfold rd_T36
  rw [Int.toNat_natCast, List.getD_eq_getElem?_getD, h]
  rfl
theorem its_in (l : List Row) (i : Nat) (x : Row) (hx : l[i]? = some x) (hlen : l.length < 1000000000) (hw : x.f1.length < 1000000000) (acc : List RRow) (f : Int) (d : Nat) : ∀ (j k : Nat) (ws : List RWd), j + d = x.f1.length → ws.length ≤ j → d < k → acc.length < 1000000000 →
    ∃ k', k' + d + 1 = k ∧ entrepotlaw13_its.l1 k l acc i j f ws = entrepotlaw13_its.l0 k' l (acc ++ [⟨f, ws ++ (x.f1.drop j).map toW⟩]) (wrap64 ((i : Int) + 1)) := by
  have hi := (List.getElem?_eq_some_iff.1 hx).1
  induction d with
  | zero =>
    intro j k ws hj hws hk hacc
    obtain ⟨k, rfl, hk⟩ := succ' hk
    refine ⟨k, rfl, ?_⟩
    simp only [entrepotlaw13_its.l1]
    rw [if_pos (by omega), if_pos (by omega), rdS l i x hx, if_neg (by omega), if_pos (by omega), List.drop_of_length_le (by omega)]
    simp
  | succ d ih =>
    intro j k ws hj hws hk hacc
    obtain ⟨k, rfl, hk⟩ := succ' hk
    obtain ⟨y, hy⟩ : ∃ y, x.f1[j]? = some y := ⟨_, List.getElem?_eq_getElem (show j < x.f1.length by omega)⟩
    have e1 : wrap64 ((j : Int) + 1) = ((j + 1 : Nat) : Int) := by rw [w64' (by omega) (by omega)]; omega
    obtain ⟨k', hk', hE⟩ := ih (j + 1) k (ws ++ [toW y]) (by omega) (by simp; omega) (by omega) hacc
    refine ⟨k', by omega, ?_⟩
    simp only [entrepotlaw13_its.l1]
    rw [if_pos (by omega), if_pos (by omega), rdS l i x hx, if_pos (by omega), if_pos (by omega), if_pos (by omega), rdW x.f1 j y hy, e1]
    rw [show (⟨y.f0, y.f1⟩ : RWd) = toW y from rfl, hE, drop_cons' x.f1 j y hy]
    simp
theorem its_l (l : List Row) (hlen : l.length < 1000000000) (M : Nat) (hM : M < 1000000000) (hw : ∀ x ∈ l, x.f1.length ≤ M) (d : Nat) : ∀ (i k : Nat) (acc : List RRow), i + d = l.length → acc.length ≤ i → d * (M + 2) < k →
    entrepotlaw13_its.l0 k l acc i = some (acc ++ (l.drop i).map toRow) := by
  induction d with
  | zero =>
    intro i k acc hi hacc hk
    obtain ⟨k, rfl, hk⟩ := succ' hk
    simp only [entrepotlaw13_its.l0]
    rw [if_neg (by omega), List.drop_of_length_le (by omega)]
    simp
  | succ d ih =>
    intro i k acc hi hacc hk
    obtain ⟨k, rfl, hk⟩ := succ' hk
    obtain ⟨x, hx⟩ : ∃ x, l[i]? = some x := ⟨_, List.getElem?_eq_getElem (show i < l.length by omega)⟩
    have hxm := hw x (List.mem_of_getElem? hx)
    have e1 : wrap64 ((i : Int) + 1) = ((i + 1 : Nat) : Int) := by rw [w64' (by omega) (by omega)]; omega
    rw [Nat.succ_mul] at hk
    simp only [entrepotlaw13_its.l0]
    rw [if_pos (by omega), if_pos (by omega), rdS l i x hx]
    obtain ⟨k', hk', hE⟩ := its_in l i x hx hlen (by omega) acc x.f0 x.f1.length 0 k [] (by omega) (by simp) (by omega) (by omega)
    rw [show (0 : Int) = ((0 : Nat) : Int) from rfl, hE, e1, ih (i + 1) k' _ (by omega) (by simp; omega) (by omega), drop_cons' l i x hx]
    simp [toRow]
theorem its_eq (l : List Row) (hlen : l.length < 1000000000) (M : Nat) (hM : M < 1000000000) (hw : ∀ x ∈ l, x.f1.length ≤ M) (k : Nat) (hk : l.length * (M + 2) < k) : entrepotlaw13_its.f k l = some (l.map toRow) := by
  have := its_l l hlen M hM hw l.length 0 k [] (by omega) (by simp) hk
  simpa [entrepotlaw13_its.f] using this
theorem same3_l (l : List RWd) (hl : l.length < 1000000000) (d : Nat) : ∀ (i k : Nat), i + d = l.length → d < k → entrepotref03_Same.l0 k l l i = some true := by
  induction d with
  | zero =>
    intro i k hi hk
    obtain ⟨k, rfl, hk⟩ := succ' hk
    simp only [entrepotref03_Same.l0]
    rw [if_neg (by omega)]
  | succ d ih =>
    intro i k hi hk
    obtain ⟨k, rfl, hk⟩ := succ' hk
    have e1 : wrap64 ((i : Int) + 1) = ((i + 1 : Nat) : Int) := by rw [w64' (by omega) (by omega)]; omega
    simp only [entrepotref03_Same.l0]
    rw [if_pos (by omega), if_pos (by omega), if_pos (by omega), if_neg (by simp), e1]
    exact ih (i + 1) k (by omega) (by omega)
theorem Same3 (l : List RWd) (hl : l.length < 1000000000) (k : Nat) (hk : l.length < k) : entrepotref03_Same.f k l l = some true := by
  unfold entrepotref03_Same.f
  rw [if_pos rfl]
  exact same3_l l hl l.length 0 k (by omega) hk
theorem same13_l (l : List RRow) (hl : l.length < 1000000000) (M : Nat) (hM : M < 1000000000) (hw : ∀ x ∈ l, x.f1.length ≤ M) (d : Nat) : ∀ (i k : Nat), i + d = l.length → d + M + 1 < k → entrepotref13_Same.l0 k l l i = some true := by
  induction d with
  | zero =>
    intro i k hi hk
    obtain ⟨k, rfl, hk⟩ := succ' hk
    simp only [entrepotref13_Same.l0]
    rw [if_neg (by omega)]
  | succ d ih =>
    intro i k hi hk
    obtain ⟨k, rfl, hk⟩ := succ' hk
    have e1 : wrap64 ((i : Int) + 1) = ((i + 1 : Nat) : Int) := by rw [w64' (by omega) (by omega)]; omega
    obtain ⟨x, hx⟩ : ∃ x, l[i]? = some x := ⟨_, List.getElem?_eq_getElem (show i < l.length by omega)⟩
    have hxm := hw x (List.mem_of_getElem? hx)
    simp only [entrepotref13_Same.l0]
    rw [if_pos (by omega), if_pos (by omega), if_pos (by omega), if_pos trivial, rdRR l i x hx, Same3 x.f1 (by omega) k (by omega)]
    simp only [Option.bind_some, if_true]
    rw [e1]
    exact ih (i + 1) k (by omega) (by omega)
theorem Same13 (l : List RRow) (hl : l.length < 1000000000) (M : Nat) (hM : M < 1000000000) (hw : ∀ x ∈ l, x.f1.length ≤ M) (k : Nat) (hk : l.length + M + 1 < k) : entrepotref13_Same.f k l l = some true := by
  unfold entrepotref13_Same.f
  rw [if_pos rfl]
  exact same13_l l hl M hM hw l.length 0 k (by omega) hk
end Go.Proofs.YtadocbfchdendaaGreatDoor.Cu
namespace Go.Proofs.YtadocbfchdendaaGreatDoor.Cu
open Go.RowKit Go.Lib Go.Proofs.YtadocbfchdendaaGreatDoorW.PrintWords Go.Proofs.YtadocbfchdendaaGreatDoorW.PrintLast Go.Proofs.YtadocbfchdendaaGreatDoorW.PrintMore Go.Proofs.YtadocbfchdendaaGreatDoor.P
set_option linter.unusedSimpArgs false
def txt (s : ByteArray) (x y : Int) : ByteArray := if 0 ≤ x ∧ x ≤ y ∧ y ≤ (s.size : Int) then s.extract x.toNat y.toNat else ⟨#[]⟩
theorem txt_size (s : ByteArray) (x y : Int) : (txt s x y).size ≤ s.size := by
  unfold txt
  split
  · rw [ByteArray.size_extract]; omega
  · exact Nat.zero_le _
theorem Text_eq (s : ByteArray) (x y : Int) : words_Text.f s x y = some (txt s x y) := by
  unfold words_Text.f words_places.f txt
  by_cases h0 : 0 ≤ x
  · by_cases h1 : x ≤ y
    · by_cases h2 : y ≤ (s.size : Int)
      · simp [h0, h1, h2]
      · simp [h0, h1, h2]
    · simp [h0, h1]
  · simp [h0]
theorem RText_eq (s : ByteArray) (x y : Int) : entrepotref03_Text.f s x y = some (txt s x y) := by
  unfold entrepotref03_Text.f entrepotref03_places.f txt
  by_cases h0 : 0 ≤ x
  · by_cases h1 : x ≤ y
    · by_cases h2 : y ≤ (s.size : Int)
      · simp [h0, h1, h2]
      · simp [h0, h1, h2]
    · simp [h0, h1]
  · simp [h0]
theorem eachS_l (s : ByteArray) (ws : List Wd) (hl : ws.length < 1000000) (d : Nat) : ∀ (i k : Nat) (acc : List ByteArray), i + d = ws.length → acc.length ≤ i → d < k →
    sheet_each_string.l0 k s acc ws (ws.length : Int) i 0 0 = some (acc ++ (ws.drop i).map (fun w => txt s w.f0 w.f1), 0, 0) := by
  induction d with
  | zero =>
    intro i k acc hi hacc hk
    obtain ⟨k, rfl, hk⟩ := succ' hk
    simp only [sheet_each_string.l0]
    rw [if_neg (by omega), List.drop_of_length_le (by omega)]
    simp
  | succ d ih =>
    intro i k acc hi hacc hk
    obtain ⟨k, rfl, hk⟩ := succ' hk
    obtain ⟨x, hx⟩ : ∃ x, ws[i]? = some x := ⟨_, List.getElem?_eq_getElem (show i < ws.length by omega)⟩
    have e1 : wrap64 ((i : Int) + 1) = ((i + 1 : Nat) : Int) := by rw [w64' (by omega) (by omega)]; omega
    simp only [sheet_each_string.l0]
    rw [if_pos (by omega), if_pos (by omega), if_pos (by omega), rdW ws i x hx, Text_eq]
    simp only [Option.bind_some, sheet_Title_1.f, if_true]
    rw [if_pos (by omega), e1, ih (i + 1) k _ (by omega) (by simp; omega) (by omega), drop_cons' ws i x hx]
    simp
theorem join_snoc (l : List (List UInt8)) (x : List UInt8) (sep : List UInt8) : Lib.join (l ++ [x]) sep = if l = [] then x else Lib.join l sep ++ sep ++ x := by
  cases l with
  | nil => simp [Lib.join_one]
  | cons a l =>
    rw [if_neg (by simp), List.cons_append, Lib.join_cons, Lib.join_cons]
    simp [Lib.joinTail, List.append_assoc]
theorem joinTail_len (M : Nat) (l : List (List UInt8)) (h : ∀ x ∈ l, x.length ≤ M) : (Lib.joinTail [32] l).length ≤ l.length * (M + 1) := by
  induction l with
  | nil => simp [Lib.joinTail]
  | cons a l ih =>
    have h1 := h a List.mem_cons_self
    have h2 := ih (fun x hx => h x (List.mem_cons_of_mem _ hx))
    have e : Lib.joinTail [32] (a :: l) = [32] ++ a ++ Lib.joinTail [32] l := by simp [Lib.joinTail]
    rw [e, List.length_append, List.length_append, List.length_cons, List.length_cons, List.length_nil, Nat.succ_mul]
    omega
def joinW (s : ByteArray) (ws : List Wd) : List UInt8 := Lib.join ((ws.map (fun w => txt s w.f0 w.f1)).map (·.data.toList)) [32]
theorem joinW_snoc (s : ByteArray) (ws : List Wd) (x : Wd) : joinW s (ws ++ [x]) = if ws = [] then (txt s x.f0 x.f1).data.toList else joinW s ws ++ [32] ++ (txt s x.f0 x.f1).data.toList := by
  unfold joinW
  rw [List.map_append, List.map_append, List.map_cons, List.map_nil, List.map_cons, List.map_nil, join_snoc]
  simp
theorem joinW_len (s : ByteArray) (ws : List Wd) : (joinW s ws).length ≤ ws.length * (s.size + 1) := by
  cases ws with
  | nil => simp [joinW, Lib.join_nil]
  | cons w ws =>
    have h1 : (txt s w.f0 w.f1).data.toList.length ≤ s.size := txt_size s w.f0 w.f1
    have h2 := joinTail_len s.size ((ws.map (fun w => txt s w.f0 w.f1)).map (·.data.toList)) (by
      intro x hx
      obtain ⟨y, hy, rfl⟩ := List.mem_map.1 hx
      obtain ⟨z, _, rfl⟩ := List.mem_map.1 hy
      exact txt_size s _ _)
    unfold joinW
    rw [List.map_cons, List.map_cons, Lib.join_cons, List.length_append, List.length_cons, Nat.succ_mul]
    rw [List.length_map, List.length_map] at h2
    omega
theorem Title_eq (s : ByteArray) (hs : s.size ≤ 1000) (f0 : Int) (ws : List Wd) (hl : ws.length ≤ 100000) (t : ByteArray) (k : Nat) (hk : ws.length < k) : sheet_Title.f k s f0 ws t = some (joinW s ws == t.toList) := by
  unfold sheet_Title.f sheet_each_string.f
  have h1 := eachS_l s ws (by omega) ws.length 0 k [] (by omega) (by simp) hk
  rw [show (0 : Int) = ((0 : Nat) : Int) from rfl] at h1 ⊢
  rw [h1]
  simp only [Option.bind_some, List.nil_append, List.drop_zero]
  have hj := joinW_len s ws
  have hm : ws.length * (s.size + 1) ≤ 100000 * 1001 := Nat.mul_le_mul hl (by omega)
  unfold strings_Join.f
  rw [if_pos ⟨by rw [List.length_map]; omega, by show (joinW s ws).length ≤ _; omega⟩]
  simp only [Option.bind_some, Option.some.injEq]
  rw [ba_list]
  rfl
theorem rtitle_l (s : ByteArray) (hs : s.size ≤ 1000) (t : ByteArray) (ws : List Wd) (hl : ws.length ≤ 100000) (f0 : Int) (d : Nat) : ∀ (i k : Nat), i + d = ws.length → d < k →
    entrepotref13_Title.l0 k s t ⟨(joinW s (ws.take i)).toArray⟩ i f0 (ws.map toW) = some (joinW s ws == t.toList) := by
  induction d with
  | zero =>
    intro i k hi hk
    obtain ⟨k, rfl, hk⟩ := succ' hk
    simp only [entrepotref13_Title.l0]
    rw [if_neg (by rw [List.length_map]; omega), List.take_of_length_le (by omega), ba_list]
  | succ d ih =>
    intro i k hi hk
    obtain ⟨k, rfl, hk⟩ := succ' hk
    obtain ⟨x, hx⟩ : ∃ x, ws[i]? = some x := ⟨_, List.getElem?_eq_getElem (show i < ws.length by omega)⟩
    have hxr : (ws.map toW)[i]? = some (toW x) := by rw [List.getElem?_map, hx]; rfl
    have e1 : wrap64 ((i : Int) + 1) = ((i + 1 : Nat) : Int) := by rw [w64' (by omega) (by omega)]; omega
    have htk : ws.take (i + 1) = ws.take i ++ [x] := by rw [List.take_add_one, hx]; rfl
    have hj := joinW_len s (ws.take i)
    rw [List.length_take] at hj
    have hm : min i ws.length * (s.size + 1) ≤ 100000 * 1001 := Nat.mul_le_mul (by omega) (by omega)
    have ht := txt_size s x.f0 x.f1
    have hsz : (⟨(joinW s (ws.take i)).toArray⟩ : ByteArray).size = (joinW s (ws.take i)).length := ba_sizeL _
    have hdat : (⟨(txt s x.f0 x.f1).data.toList.toArray⟩ : ByteArray) = txt s x.f0 x.f1 := by simp
    have next := ih (i + 1) k (by omega) (by omega)
    rw [htk, joinW_snoc] at next
    simp only [entrepotref13_Title.l0]
    rw [if_pos (by rw [List.length_map]; omega)]
    by_cases h0 : 0 < i
    · rw [if_pos (by omega), if_pos (by rw [hsz]; omega), if_pos (by omega), rdRW _ i _ hxr, show (toW x).f0 = x.f0 from rfl, show (toW x).f1 = x.f1 from rfl, RText_eq]
      simp only [Option.bind_some]
      rw [if_pos (by rw [ByteArray.size_append, hsz]; show _ + 1 + _ ≤ _; omega), e1]
      rw [if_neg (by intro h; have := congrArg List.length h; rw [List.length_take, List.length_nil] at this; omega)] at next
      have ha : ((⟨(joinW s (ws.take i)).toArray⟩ : ByteArray) ++ ⟨#[32]⟩) ++ txt s x.f0 x.f1 = ⟨(joinW s (ws.take i) ++ [32] ++ (txt s x.f0 x.f1).data.toList).toArray⟩ := by
        apply ByteArray.ext
        simp [ByteArray.data_append]
      rw [ha]
      exact next
    · obtain rfl : i = 0 := by omega
      rw [if_neg (by omega), if_pos (by omega), rdRW _ 0 _ hxr, show (toW x).f0 = x.f0 from rfl, show (toW x).f1 = x.f1 from rfl, RText_eq]
      simp only [Option.bind_some]
      rw [if_pos (by rw [hsz]; omega), e1]
      rw [if_pos (by simp)] at next
      have ha : (⟨(joinW s (ws.take 0)).toArray⟩ : ByteArray) ++ txt s x.f0 x.f1 = ⟨((txt s x.f0 x.f1).data.toList).toArray⟩ := by
        apply ByteArray.ext
        simp [ByteArray.data_append, joinW, Lib.join_nil]
      rw [ha]
      exact next
theorem RTitle_eq (s : ByteArray) (hs : s.size ≤ 1000) (f0 : Int) (ws : List Wd) (hl : ws.length ≤ 100000) (t : ByteArray) (k : Nat) (hk : ws.length < k) : entrepotref13_Title.f k s f0 (ws.map toW) t = some (joinW s ws == t.toList) := by
  have := rtitle_l s hs t ws hl f0 ws.length 0 k (by omega) hk
  simpa [entrepotref13_Title.f, joinW, Lib.join_nil] using this
theorem shR_len (s : List UInt8) (f : Int) : (shR s f).length ≤ s.length := by
  unfold shR
  rw [List.length_map]
  exact Nat.le_trans (List.length_filter_le _ _) (rowsL_len s)
theorem shR_words (s : List UInt8) (f : Int) : ∀ x ∈ shR s f, x.f1.length ≤ s.length + 1 := by
  intro x hx
  obtain ⟨l, _, rfl⟩ := List.mem_map.1 hx
  have := fieldsG_len ((s.drop l.f0.toNat).take (l.f1.toNat - l.f0.toNat)) l.f0.toNat none
  rw [List.length_take, List.length_drop] at this
  show (fieldsG ((s.drop l.f0.toNat).take (l.f1.toNat - l.f0.toNat)) l.f0.toNat none).length ≤ _
  omega
end Go.Proofs.YtadocbfchdendaaGreatDoor.Cu
namespace Go.Proofs.YtadocbfchdendaaGreatDoor.Cu
open Go.RowKit Go.Lib Go.Proofs.YtadocbfchdendaaGreatDoorW.PrintWords Go.Proofs.YtadocbfchdendaaGreatDoorW.PrintLast Go.Proofs.YtadocbfchdendaaGreatDoorW.PrintMore Go.Proofs.YtadocbfchdendaaGreatDoor.P
set_option linter.unusedSimpArgs false
theorem sheetRows_l (s t : ByteArray) (hs : s.size ≤ 500) (L : List Row) (hlen : L.length ≤ 500) (hw : ∀ x ∈ L, x.f1.length ≤ 501) (d : Nat) : ∀ (i k : Nat), i + d = L.length → d + 600 < k →
    entrepotlaw13_SheetRows.l0 k s t L (L.map toRow) i = some true := by
  induction d with
  | zero =>
    intro i k hi hk
    obtain ⟨k, rfl, hk⟩ := succ' hk
    simp only [entrepotlaw13_SheetRows.l0]
    rw [if_neg (by omega)]
  | succ d ih =>
    intro i k hi hk
    obtain ⟨k, rfl, hk⟩ := succ' hk
    obtain ⟨x, hx⟩ : ∃ x, L[i]? = some x := ⟨_, List.getElem?_eq_getElem (show i < L.length by omega)⟩
    have hxr : (L.map toRow)[i]? = some (toRow x) := by rw [List.getElem?_map, hx]; rfl
    have hxm := hw x (List.mem_of_getElem? hx)
    have e1 : wrap64 ((i : Int) + 1) = ((i + 1 : Nat) : Int) := by rw [w64' (by omega) (by omega)]; omega
    simp only [entrepotlaw13_SheetRows.l0]
    rw [if_pos (by omega), if_pos (by omega), rdS L i x hx, rdRR _ i _ hxr, Title_eq s (by omega) x.f0 x.f1 (by omega) t k (by omega)]
    simp only [Option.bind_some]
    rw [if_pos (by rw [List.length_map]; omega), show (toRow x).f0 = x.f0 from rfl, show (toRow x).f1 = x.f1.map toW from rfl, RTitle_eq s (by omega) x.f0 x.f1 (by omega) t k (by omega)]
    simp only [Option.bind_some, bne_self_eq_false, Bool.false_eq_true, if_false]
    rw [e1]
    exact ih (i + 1) k (by omega) (by omega)
end Go.Proofs.YtadocbfchdendaaGreatDoor.Cu
namespace Go.Proofs.YtadocbfchdendaaGreatDoor.Pure
open Go.RowKit Go.Proofs.YtadocbfchdendaaGreatDoor.P Go.Proofs.YtadocbfchdendaaGreatDoor.Cu
theorem SheetRows : entrepotlaw13_SheetRows.Pure := by
  intro s f t _ _ _
  refine ⟨1000000, ?_⟩
  unfold entrepotlaw13_SheetRows.f
  have hsh : ∀ k, 60 ≤ k → entrepotlaw13_SheetRows.j0 (k + 1) s f t true = some true := by
    intro k hk
    simp only [entrepotlaw13_SheetRows.j0, if_true]
    rw [up13 k hk]
    rfl
  split
  · exact hsh 999999 (by omega)
  · rename_i h1
    split
    · exact hsh 999999 (by omega)
    · rename_i h2
      rw [up13 1000000 (by omega)]
      simp only [Option.bind_some, Bool.not_true]
      rw [show (1000000 : Nat) = 999999 + 1 from rfl]
      simp only [entrepotlaw13_SheetRows.j0, Bool.false_eq_true, if_false]
      have hL : s.data.toList.length = s.size := rfl
      have h3 := shR_len s.data.toList f
      have h4 := shR_words s.data.toList f
      have h5 : (shR s.data.toList f).length * (501 + 2) ≤ 500 * 503 := Nat.mul_le_mul (by omega) (by omega)
      rw [Rows_sheet s (by omega) f 999999 (by omega)]
      simp only [Option.bind_some]
      rw [Rows_ref s (by omega) f 999999 (by omega)]
      simp only [Option.bind_some]
      rw [its_eq _ (by omega) 501 (by omega) (fun x hx => by have := h4 x hx; omega) 999999 (by omega)]
      simp only [Option.bind_some]
      rw [Same13 _ (by rw [List.length_map]; omega) 501 (by omega) (by
        intro x hx
        obtain ⟨y, hy, rfl⟩ := List.mem_map.1 hx
        have := h4 y hy
        show (y.f1.map toW).length ≤ 501
        rw [List.length_map]; omega) 999999 (by rw [List.length_map]; omega)]
      simp only [Option.bind_some, if_true]
      exact sheetRows_l s t (by omega) _ (by omega) (fun x hx => by have := h4 x hx; omega) (shR s.data.toList f).length 0 999999 (by omega) (by omega)
end Go.Proofs.YtadocbfchdendaaGreatDoor.Pure
namespace Go.Proofs.YtadocbfchdendaaGreatDoor.lawSheetRows
open Go Go.ChangeShapes Go.WideShapes Go.ChangeAt Go.RowKit
open Go.ChangeMaps (open_string shut_string)
set_option linter.unusedVariables false
set_option linter.unusedSimpArgs false
theorem own : ownKnob Tryz.prog.godebug = none := by kernel_rfl
theorem laidOut : laidOutB Tryz.prog = true := by kernel_rfl
set_option maxRecDepth 100000 in
theorem lifted (os : Os) (started : os.Started) (H : Type) (enc : TypeId × Value → H) :
    ReturnsInHanded {} Tryz.checked os 3 .any (fun w args => (Rows.sheetRowsSpec.pre enc Tryz.prog Tryz.f3 [] false w args ∧ laidMetH Tryz.prog [("math/bits.deBruijn32tab", Rows.laid_math_bits_deBruijn32tab), ("math/bits.deBruijn64tab", Rows.laid_math_bits_deBruijn64tab), ("internal/strconv.uint64pow10", Rows.laid_internal_strconv_uint64pow10), ("unicode/utf8.acceptRanges", Rows.laid_unicode_utf8_acceptRanges), ("strconv.ErrRange", Rows.laid_strconv_ErrRange), ("strconv.ErrSyntax", Rows.laid_strconv_ErrSyntax), ("unicode/utf8.first", Rows.laid_unicode_utf8_first)] w) ∧ sizedMet enc Tryz.prog Tryz.f3 (OpenSpec.ofChange Rows.sheetRowsSpec) false w args)
      (Rows.sheetRowsSpec.post enc Tryz.prog Tryz.f3 false true false false) := by
  refine returnsInHanded_of_change_and (C := Tryz.checked) (X := fun w _ => laidMetH Tryz.prog [("math/bits.deBruijn32tab", Rows.laid_math_bits_deBruijn32tab), ("math/bits.deBruijn64tab", Rows.laid_math_bits_deBruijn64tab), ("internal/strconv.uint64pow10", Rows.laid_internal_strconv_uint64pow10), ("unicode/utf8.acceptRanges", Rows.laid_unicode_utf8_acceptRanges), ("strconv.ErrRange", Rows.laid_strconv_ErrRange), ("strconv.ErrSyntax", Rows.laid_strconv_ErrSyntax), ("unicode/utf8.first", Rows.laid_unicode_utf8_first)] w) (fun _ _ _ hh h => h.of_heap hh) own started (by kernel_rfl) Tryz.func3
    (ChangeSpec.witness_shaped (enc := enc) (C := Tryz.checked) (os := os) (X := fun w _ => laidMetH Tryz.prog [("math/bits.deBruijn32tab", Rows.laid_math_bits_deBruijn32tab), ("math/bits.deBruijn64tab", Rows.laid_math_bits_deBruijn64tab), ("internal/strconv.uint64pow10", Rows.laid_internal_strconv_uint64pow10), ("unicode/utf8.acceptRanges", Rows.laid_unicode_utf8_acceptRanges), ("strconv.ErrRange", Rows.laid_strconv_ErrRange), ("strconv.ErrSyntax", Rows.laid_strconv_ErrSyntax), ("unicode/utf8.first", Rows.laid_unicode_utf8_first)] w) false (World.laidAll Tryz.prog os [("math/bits.deBruijn32tab", Rows.laid_math_bits_deBruijn32tab), ("math/bits.deBruijn64tab", Rows.laid_math_bits_deBruijn64tab), ("internal/strconv.uint64pow10", Rows.laid_internal_strconv_uint64pow10), ("unicode/utf8.acceptRanges", Rows.laid_unicode_utf8_acceptRanges), ("strconv.ErrRange", Rows.laid_strconv_ErrRange), ("strconv.ErrSyntax", Rows.laid_strconv_ErrSyntax), ("unicode/utf8.first", Rows.laid_unicode_utf8_first)]) #[.string ByteArray.empty, .int .i64 0, .string ByteArray.empty] 8 (World.laidAll_os _ _ _) (World.shaped_of_ZipB (by kernel_rfl) (by kernel_rfl)) (by kernel_rfl) (by kernel_rfl) (by kernel_rfl) (by rw [MakeChecks.laidMetH_plain _ _ _ (by kernel_rfl)]; exact laidMet_laidAll _ (by kernel_rfl) (by kernel_rfl))) ?_
  intro W base args ds gs before hval0 hW _ hsz0 hL _
  have hsz : (DataW.weightsEach Tryz.prog (Tryz.f3.params.toList ++ Rows.sheetRowsSpec.plain.varTypes Tryz.prog) (ds ++ gs)).all (· ≤ reachBytes) = true := hsz0
  have hval : ∀ (j : Nat) t v, Tryz.f3.params[j]? = some t → args[j]? = some v → Value.okWide Tryz.prog W .any base t v := hval0
  have hW' := hW
  obtain ⟨p, q, hA0, hV, rfl, hfz, hnd⟩ := hW
  have hA : DataW.TrodAll enc Tryz.prog W 0 (fun _ => true) true Tryz.f3.params.toList args.toList ds p := hA0
  rw [Tryz.params3] at hA hval hsz
  obtain ⟨v0, vs0, d0, ds0, p0, q0, hargs, rfl, rfl, h0, r0⟩ := trodAll_cons hA
  obtain ⟨v1, vs1, d1, ds1, p1, q1, rfl, rfl, rfl, h1, r1⟩ := trodAll_cons r0
  obtain ⟨v2, vs2, d2, ds2, p2, q2, rfl, rfl, rfl, h2, r2⟩ := trodAll_cons r1
  obtain ⟨rfl, rfl, rfl⟩ := trodAll_nil r2
  obtain rfl : args = #[v0, v1, v2] := by cases args; simp_all
  obtain ⟨rfl, rfl⟩ := trodVars_none hV
  have k0 := h0
  have lt0 : ∀ x ∈ p0, x.block < W.heap.size := by obtain ⟨m, hm⟩ := k0; exact DataW.trod_lt m _ _ _ hm
  obtain ⟨a0, rfl, rfl, rfl, y0⟩ := open_string Tryz.underlying9 (hval 0 9 v0 rfl rfl) h0
  have wa0 : a0.size ≤ 140737488351232 := by
    have z := sized_string hsz (j := 0) (t := 9) rfl rfl
    rw [Array.length_toList] at z
    exact z
  have k1 := h1
  have lt1 : ∀ x ∈ p1, x.block < W.heap.size := by obtain ⟨m, hm⟩ := k1; exact DataW.trod_lt m _ _ _ hm
  obtain ⟨a1, rfl, rfl, rfl, wa1⟩ := open_int Tryz.underlying3 (hval 1 3 v1 rfl rfl) h1
  have k2 := h2
  have lt2 : ∀ x ∈ p2, x.block < W.heap.size := by obtain ⟨m, hm⟩ := k2; exact DataW.trod_lt m _ _ _ hm
  obtain ⟨a2, rfl, rfl, rfl, y2⟩ := open_string Tryz.underlying9 (hval 2 9 v2 rfl rfl) h2
  have wa2 : a2.size ≤ 140737488351232 := by
    have z := sized_string hsz (j := 2) (t := 9) rfl rfl
    rw [Array.length_toList] at z
    exact z
  clear hA0 hval0 hsz0 hsz
  obtain ⟨k, hk⟩ := Pure.SheetRows a0 a1 a2 wa0 wa1 wa2
  refine (P.entrepotlaw13_SheetRows.calls k a0 a1 a2 true W hk).mono fun e W' hp => ?_
  obtain ⟨he, hb⟩ := hp
  subst he
  have bel : Below W.heap.size W W' := hb
  exact ⟨_, rfl, _, _, _, [], _, [], hW', trodAll_mk1 (shut_bool Tryz.underlying4 _), trodAll_cons_mk (Below.trod laidOut (by kernel_rfl) (of_decide_eq_true (by kernel_rfl)) k0 bel lt0) (trodAll_cons_mk (Below.trod laidOut (by kernel_rfl) (of_decide_eq_true (by kernel_rfl)) k1 bel lt1) (trodAll_cons_mk (Below.trod laidOut (by kernel_rfl) (of_decide_eq_true (by kernel_rfl)) k2 bel lt2) trodAll_mk0)), rfl, bel.frame _, fun h => by cases h⟩
theorem over : Rows.sheetRowsRow.holds Tryz.pinned (OpenSpec.ofChange Rows.sheetRowsSpec) :=
  OpenClaim.holds_of_wide 3 Tryz.f3 rfl rfl rfl rfl rfl rfl rfl ⟨rfl, rfl, rfl, rfl, rfl⟩ rfl rfl rfl rfl rfl (by kernel_rfl) Tryz.func3 (by kernel_rfl)
    (of_decide_eq_true (by kernel_rfl)) (by unfold Func.isWrapper; first | (rw [if_pos (by decide +kernel)]; kernel_rfl) | (rw [if_neg (by decide +kernel)]; exact ⟨rfl, rfl⟩))
    (fun os started H enc _ => lifted os started H enc)
theorem card_holds : Rows.SheetRowsCardSaid :=
  Claim7.holds_tied_plain_at .later [] [.data, .data, .data, .data, .sentinel, .sentinel, .pinned] true (true, "50ff171a6ebaa1dc44acd7db4d9128ea4c6fd5289ca809cb7593c385ab16d17b") true
    over (fun _ h => by cases h) (by kernel_rfl) (fun _ h => by cases h) sheetRows_row_tie rfl ⟨rfl, rfl⟩ (by kernel_rfl) rfl
    (fun f fn hf hfn => by
      obtain rfl : f = 3 := Option.some.inj ((show Tryz.prog.funcNamed "entrepot/entrepotlaw13.SheetRows" = some 3 by kernel_rfl).symm.trans hf) |>.symm
      obtain rfl : fn = Tryz.f3 := (Option.some.inj (Tryz.func3.symm.trans hfn)).symm
      exact ⟨by kernel_rfl, fun j t ht => by
        rw [Tryz.params3] at ht
        have hm : t ∈ [9, 3, 9] := by simpa using Array.mem_of_getElem? ht
        have hall : ([9, 3, 9].all fun u => !Tryz.prog.wantsStandIn u) = true := by kernel_rfl
        exact (show Tryz.prog.wantsStandIn t = false by simpa using List.all_eq_true.1 hall t hm)⟩)
    (by kernel_rfl)
#print axioms card_holds
end Go.Proofs.YtadocbfchdendaaGreatDoor.lawSheetRows
namespace Go.Proofs.YtadocbfchdendaaGreatDoor
theorem lawSheetRows_holds : Rows.SheetRowsCardSaid := lawSheetRows.card_holds
end Go.Proofs.YtadocbfchdendaaGreatDoor
