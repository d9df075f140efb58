/- TourOrder holds for every input: the law returns true, and its arguments read as they read. Its condition: the library's tables and errors that the row lists lie as the program's text lays them (the card ties this). -/
import Derived.Test.YtadocbfchdendaaGreatDoorMTourOrderA
import Derived.Test.YtadocbfchdendaaGreatDoorMTourOrderB
import Derived.Test.YtadocbfchdendaaGreatDoorMTourOrderC
import Derived.Deep.LoopGhost
import Derived.Lib.ItoaLen
import Derived.Lib.IndexLaws
import Derived.ChangeArms
import Derived.DataReads
import Derived.WideShapes
import Derived.OpenShut
import Derived.Test.YtadocbfchdendaaGreatDoorRows
import Derived.Test.YtadocbfchdendaaGreatDoorCards
import Derived.Test.YtadocbfchdendaaGreatDoorTie
import Derived.WalkKit
import Derived.ProofKit
import Derived.ShutString
import Derived.ChangeOld
import Derived.Below
import Derived.SizedLaws
import Derived.LaidMore
import Derived.Lay
import Derived.SevenTiedAt
import Derived.Lib.SmallJoins
import Derived.Stop.LaidErr
import Derived.Lib.LaidTab
import Derived.Carry
import Derived.Stop.Joined
set_option linter.unusedVariables false
set_option linter.unusedSimpArgs false
namespace Go.Proofs.YtadocbfchdendaaGreatDoor.P
open Go.RowKit Go.Proofs.YtadocbfchdendaaGreatDoorW.PrintWords Go.Proofs.YtadocbfchdendaaGreatDoorW.PrintLast Go.Proofs.YtadocbfchdendaaGreatDoorW.PrintMore
attribute [local go_sem] max2_int min2_int max_two min_two max_three min_three max_four min_four
set_option linter.unusedVariables false
set_option linter.unusedSimpArgs false
attribute [local go_sem high] eqA41
def entrepotlaw16_shown.f (k : Nat)  : Option (Bool) := (tour_PrintTour.f k (⟨#[116]⟩ : ByteArray) (([(([1, 0] : List Int))] : List (List Int)))).bind fun t107 => ((tour_ParseTour.f t107).bind fun bt108 => ((tour_ParseRoutes.f (⟨#[82, 111, 117, 116, 101, 32, 35, 49, 58, 32, 51, 32, 49, 10, 82, 111, 117, 116, 101, 32, 50, 32, 58, 10, 67, 111, 115, 116, 32, 50, 48, 10]⟩ : ByteArray)).bind fun bt115 => ((tour_ParseRoutes.f (⟨#[82, 111, 117, 116, 101, 32, 35, 50, 58, 32, 51, 10]⟩ : ByteArray)).bind fun bt123 => (if t107.toList = ([78, 65, 77, 69, 32, 58, 32, 116, 10, 84, 89, 80, 69, 32, 58, 32, 84, 79, 85, 82, 10, 68, 73, 77, 69, 78, 83, 73, 79, 78, 32, 58, 32, 50, 10, 84, 79, 85, 82, 95, 83, 69, 67, 84, 73, 79, 78, 10, 50, 10, 49, 10, 45, 49, 10, 69, 79, 70, 10] : List UInt8) then (if (bt108.1.length : Int) = 1 then (if 0 < (bt108.1.length : Int) then (if ((rd_L14 bt108.1 0).length : Int) = 2 then (if 0 < ((rd_L14 bt108.1 0).length : Int) then (if (rd (rd_L14 bt108.1 0) 0) = 1 then (if (bt108.2.1 == 0 && (bt108.2.2 == 0)) = true then (if (bt115.1.length : Int) = 2 then (if 0 < (bt115.1.length : Int) then (if ((rd_L14 bt115.1 0).length : Int) = 2 then (if bt115.2.1 = 20 then (if (bt115.2.2.1 == 0 && (bt115.2.2.2 == 0)) = true then (some (bt123.2.2.1 == 0 && (bt123.2.2.2 == 3))) else (none)) else (none)) else (none)) else (none)) else (none)) else (none)) else (none)) else (none)) else (none)) else (none)) else (none)) else (none)))))
theorem entrepotlaw16_shown.mono : ∀ k, LeO (entrepotlaw16_shown.f k ) (entrepotlaw16_shown.f (k + 1) ) := by
 intro  k
 unfold entrepotlaw16_shown.f
 repeat' first
   | (with_reducible exact tour_PrintTour.mono _ _ _)
   | (with_reducible exact LeO.refl _)
   | (with_reducible exact LeO.none _)
   | (with_reducible refine LeO.ite ?_ ?_)
   | (with_reducible refine LeO.bind ?_ (fun _ => ?_))
   | exact tour_PrintTour.mono _ _ _
   | exact LeO.none _
   | refine LeO.ite ?_ ?_
   | refine LeO.bind ?_ (fun _ => ?_)
set_option maxHeartbeats 8000000 in
set_option maxRecDepth 100000 in
theorem entrepotlaw16_shown.calls (k : Nat)  (r : Bool) (w : World) (hT : Tabs w) (h : entrepotlaw16_shown.f k  = some r) :
  Calls Tryz.prog 33 #[] w fun e w' => e = .returned (.bool r) ∧ Below w.heap.size w w' := by
 have hu70 := Tryz.underlying70; have hu41 := Tryz.underlying41; have HT0 := Aside0.mk hT; clear hT; have HB := Aside0.mk (Below.refl w.heap.size w); have H : ((tour_PrintTour.f k (⟨#[116]⟩ : ByteArray) (([(([1, 0] : List Int))] : List (List Int)))).bind fun t107 => ((tour_ParseTour.f t107).bind fun bt108 => ((tour_ParseRoutes.f (⟨#[82, 111, 117, 116, 101, 32, 35, 49, 58, 32, 51, 32, 49, 10, 82, 111, 117, 116, 101, 32, 50, 32, 58, 10, 67, 111, 115, 116, 32, 50, 48, 10]⟩ : ByteArray)).bind fun bt115 => ((tour_ParseRoutes.f (⟨#[82, 111, 117, 116, 101, 32, 35, 50, 58, 32, 51, 10]⟩ : ByteArray)).bind fun bt123 => (if t107.toList = ([78, 65, 77, 69, 32, 58, 32, 116, 10, 84, 89, 80, 69, 32, 58, 32, 84, 79, 85, 82, 10, 68, 73, 77, 69, 78, 83, 73, 79, 78, 32, 58, 32, 50, 10, 84, 79, 85, 82, 95, 83, 69, 67, 84, 73, 79, 78, 10, 50, 10, 49, 10, 45, 49, 10, 69, 79, 70, 10] : List UInt8) then (if (bt108.1.length : Int) = 1 then (if 0 < (bt108.1.length : Int) then (if ((rd_L14 bt108.1 0).length : Int) = 2 then (if 0 < ((rd_L14 bt108.1 0).length : Int) then (if (rd (rd_L14 bt108.1 0) 0) = 1 then (if (bt108.2.1 == 0 && (bt108.2.2 == 0)) = true then (if (bt115.1.length : Int) = 2 then (if 0 < (bt115.1.length : Int) then (if ((rd_L14 bt115.1 0).length : Int) = 2 then (if bt115.2.1 = 20 then (if (bt115.2.2.1 == 0 && (bt115.2.2.2 == 0)) = true then (some (bt123.2.2.1 == 0 && (bt123.2.2.2 == 3))) else (none)) else (none)) else (none)) else (none)) else (none)) else (none)) else (none)) else (none)) else (none)) else (none)) else (none)) else (none)))))) = some r := h; clear h; obtain ⟨y101, hy101⟩ : ∃ y_ : List Int, y_ = (([1, 0] : List Int)) := ⟨_, rfl⟩; replace H : ((tour_PrintTour.f k (⟨#[116]⟩ : ByteArray) (([y101] : List (List Int)))).bind fun t107 => ((tour_ParseTour.f t107).bind fun bt108 => ((tour_ParseRoutes.f (⟨#[82, 111, 117, 116, 101, 32, 35, 49, 58, 32, 51, 32, 49, 10, 82, 111, 117, 116, 101, 32, 50, 32, 58, 10, 67, 111, 115, 116, 32, 50, 48, 10]⟩ : ByteArray)).bind fun bt115 => ((tour_ParseRoutes.f (⟨#[82, 111, 117, 116, 101, 32, 35, 50, 58, 32, 51, 10]⟩ : ByteArray)).bind fun bt123 => (if t107.toList = ([78, 65, 77, 69, 32, 58, 32, 116, 10, 84, 89, 80, 69, 32, 58, 32, 84, 79, 85, 82, 10, 68, 73, 77, 69, 78, 83, 73, 79, 78, 32, 58, 32, 50, 10, 84, 79, 85, 82, 95, 83, 69, 67, 84, 73, 79, 78, 10, 50, 10, 49, 10, 45, 49, 10, 69, 79, 70, 10] : List UInt8) then (if (bt108.1.length : Int) = 1 then (if 0 < (bt108.1.length : Int) then (if ((rd_L14 bt108.1 0).length : Int) = 2 then (if 0 < ((rd_L14 bt108.1 0).length : Int) then (if (rd (rd_L14 bt108.1 0) 0) = 1 then (if (bt108.2.1 == 0 && (bt108.2.2 == 0)) = true then (if (bt115.1.length : Int) = 2 then (if 0 < (bt115.1.length : Int) then (if ((rd_L14 bt115.1 0).length : Int) = 2 then (if bt115.2.1 = 20 then (if (bt115.2.2.1 == 0 && (bt115.2.2.2 == 0)) = true then (some (bt123.2.2.1 == 0 && (bt123.2.2.2 == 3))) else (none)) else (none)) else (none)) else (none)) else (none)) else (none)) else (none)) else (none)) else (none)) else (none)) else (none)) else (none)))))) = some r := by first | (rw [hy101]; with_reducible exact H) | (have H2_ := (Option.bind_some _ _).symm.trans H; rw [hy101]; with_reducible exact H2_) | (have H2_ := (Option.bind_some _ _).symm.trans H; with_reducible exact H2_) | with_reducible exact H | (rw [hy101]; exact H) | exact H
 have Ny101 := Aside0.mk hy101; clear hy101; obtain ⟨y104, hy104⟩ : ∃ y_ : List (List Int), y_ = (([y101] : List (List Int))) := ⟨_, rfl⟩; replace H : ((tour_PrintTour.f k (⟨#[116]⟩ : ByteArray) y104).bind fun t107 => ((tour_ParseTour.f t107).bind fun bt108 => ((tour_ParseRoutes.f (⟨#[82, 111, 117, 116, 101, 32, 35, 49, 58, 32, 51, 32, 49, 10, 82, 111, 117, 116, 101, 32, 50, 32, 58, 10, 67, 111, 115, 116, 32, 50, 48, 10]⟩ : ByteArray)).bind fun bt115 => ((tour_ParseRoutes.f (⟨#[82, 111, 117, 116, 101, 32, 35, 50, 58, 32, 51, 10]⟩ : ByteArray)).bind fun bt123 => (if t107.toList = ([78, 65, 77, 69, 32, 58, 32, 116, 10, 84, 89, 80, 69, 32, 58, 32, 84, 79, 85, 82, 10, 68, 73, 77, 69, 78, 83, 73, 79, 78, 32, 58, 32, 50, 10, 84, 79, 85, 82, 95, 83, 69, 67, 84, 73, 79, 78, 10, 50, 10, 49, 10, 45, 49, 10, 69, 79, 70, 10] : List UInt8) then (if (bt108.1.length : Int) = 1 then (if 0 < (bt108.1.length : Int) then (if ((rd_L14 bt108.1 0).length : Int) = 2 then (if 0 < ((rd_L14 bt108.1 0).length : Int) then (if (rd (rd_L14 bt108.1 0) 0) = 1 then (if (bt108.2.1 == 0 && (bt108.2.2 == 0)) = true then (if (bt115.1.length : Int) = 2 then (if 0 < (bt115.1.length : Int) then (if ((rd_L14 bt115.1 0).length : Int) = 2 then (if bt115.2.1 = 20 then (if (bt115.2.2.1 == 0 && (bt115.2.2.2 == 0)) = true then (some (bt123.2.2.1 == 0 && (bt123.2.2.2 == 3))) else (none)) else (none)) else (none)) else (none)) else (none)) else (none)) else (none)) else (none)) else (none)) else (none)) else (none)) else (none)))))) = some r := by first | (rw [hy104]; with_reducible exact H) | (have H2_ := (Option.bind_some _ _).symm.trans H; rw [hy104]; with_reducible exact H2_) | (have H2_ := (Option.bind_some _ _).symm.trans H; with_reducible exact H2_) | with_reducible exact H | (rw [hy104]; exact H) | exact H
 have Ny104 := Aside0.mk hy104; clear hy104; replace H := Option.bind_eq_some_iff.mp H; obtain ⟨t107, A10, H⟩ := H; (try dsimp only at H); have A1 := Aside0.mk A10; clear A10; replace H := Option.bind_eq_some_iff.mp H; obtain ⟨⟨t108, t111, t112⟩, A20, H⟩ := H; (try dsimp only at H); have A2 := Aside0.mk A20; clear A20; replace H := Option.bind_eq_some_iff.mp H; obtain ⟨⟨t115, t118, t119, t120⟩, A30, H⟩ := H; (try dsimp only at H); have A3 := Aside0.mk A30; clear A30; replace H := Option.bind_eq_some_iff.mp H; obtain ⟨⟨t123, t126, t127, t128⟩, A40, H⟩ := H; (try dsimp only at H); have A4 := Aside0.mk A40; clear A40
 by_cases c5 : t107.toList = ([78, 65, 77, 69, 32, 58, 32, 116, 10, 84, 89, 80, 69, 32, 58, 32, 84, 79, 85, 82, 10, 68, 73, 77, 69, 78, 83, 73, 79, 78, 32, 58, 32, 50, 10, 84, 79, 85, 82, 95, 83, 69, 67, 84, 73, 79, 78, 10, 50, 10, 49, 10, 45, 49, 10, 69, 79, 70, 10] : List UInt8)
 ·rw [if_pos c5] at H; have c5b0 := beq_iff_eq.mpr c5; have c5b1 := bne_eq_false_iff_eq.mpr c5; clear c5
  by_cases c6 : (t108.length : Int) = 1
  ·rw [if_pos c6] at H; have c6b0 := beq_iff_eq.mpr c6; have c6b1 := bne_eq_false_iff_eq.mpr c6; clear c6
   by_cases c7 : 0 < (t108.length : Int)
   ·rw [if_pos c7] at H; have c7b0 := decide_eq_true c7; have c7b1 : decide (0 < t108.length) = true := decide_eq_true (by omega); clear c7
    by_cases c8 : ((rd_L14 t108 0).length : Int) = 2
    ·rw [if_pos c8] at H; have c8b0 := beq_iff_eq.mpr c8; have c8b1 := bne_eq_false_iff_eq.mpr c8; clear c8
     by_cases c9 : 0 < ((rd_L14 t108 0).length : Int)
     ·rw [if_pos c9] at H; have c9b0 := decide_eq_true c9; have c9b1 : decide (0 < (rd_L14 t108 0).length) = true := decide_eq_true (by omega); clear c9
      by_cases c10 : (rd (rd_L14 t108 0) 0) = 1
      ·rw [if_pos c10] at H; have c10b0 := beq_iff_eq.mpr c10; have c10b1 := bne_eq_false_iff_eq.mpr c10; clear c10
       by_cases c11 : (t111 == 0 && (t112 == 0)) = true
       ·rw [if_pos c11] at H; have c11b0 : (t111 == 0 && (t112 == 0)) = true := c11; (try (have c11b1 : decide (t111 = 0 && (t112 == 0)) = true := by simpa using c11)); (try (have c11b2 : (t111 == 0 && (t112 == 0)) = true := by simpa using c11)); clear c11
        by_cases c12 : (t115.length : Int) = 2
        ·rw [if_pos c12] at H; have c12b0 := beq_iff_eq.mpr c12; have c12b1 := bne_eq_false_iff_eq.mpr c12; clear c12
         by_cases c13 : 0 < (t115.length : Int)
         ·rw [if_pos c13] at H; have c13b0 := decide_eq_true c13; have c13b1 : decide (0 < t115.length) = true := decide_eq_true (by omega); clear c13
          by_cases c14 : ((rd_L14 t115 0).length : Int) = 2
          ·rw [if_pos c14] at H; have c14b0 := beq_iff_eq.mpr c14; have c14b1 := bne_eq_false_iff_eq.mpr c14; clear c14
           by_cases c15 : t118 = 20
           ·rw [if_pos c15] at H; have c15b0 := beq_iff_eq.mpr c15; have c15b1 := bne_eq_false_iff_eq.mpr c15; clear c15
            by_cases c16 : (t119 == 0 && (t120 == 0)) = true
            ·rw [if_pos c16] at H; have c16b0 : (t119 == 0 && (t120 == 0)) = true := c16; (try (have c16b1 : decide (t119 = 0 && (t120 == 0)) = true := by simpa using c16)); (try (have c16b2 : (t119 == 0 && (t120 == 0)) = true := by simpa using c16)); clear c16; obtain rfl := Option.some.inj H; go_enter Tryz.func33, Tryz.ntmps33
             go_wp2_with (first | ((with_reducible refine gate_dst (N := 10) rfl ?_); (try (refine gate_guard (by rfl) ?_; dsimp only)); refine Kd.R_lit (Kd.int .i64) _ 3 ?hg (N := 10) ?hd (xs := ([1, 0] : List Int)) (inner := [.int .i64 1, .int .i64 0]) (ok := fun _ => True) (okp := fun _ => True) ?hr ?hp (fun _ hk => hk) trivial (Below.refl _ _) (Nat.le_refl _) (by simp) ?_; (case hd => rfl); (case hg => rfl); (case hr => first | (go_simp; done) | (go_simp; rfl)); (case hp => exact (Reps.one (show Kd.M (Kd.int .i64) _ _ _ 1 [.int .i64 1] from rfl) (Reps.one (show Kd.M (Kd.int .i64) _ _ _ 0 [.int .i64 0] from rfl) (Reps.none _ _)))); intro v102 w17 ho18 hb hg_ hnew_; clear hg_ hnew_; (first | rw [← Ny101.out] at ho18 | (simp only [Int.reduceToNat] at ho18; rw [← Ny101.out] at ho18)); have HO103 := Aside0.mk (Kd.R_lower ho18 (below_size qb)); replace HB := cB HB hb; clear hb ho18; obtain ⟨Ao19, co19, eo19⟩ := Kd.R_slice HO103.out; subst eo19) | ((with_reducible refine gate_dst (N := 11) rfl ?_); (try (refine gate_guard (by rfl) ?_; dsimp only)); refine Kd.N_lit (Kd.slice 3 (Kd.int .i64)) _ 38 ?hg (N' := 11) ?hd (xs := ([y101] : List (List Int))) (inner := [.slice Ao19 y101.length co19]) (ok := (fun _ => True)) (okp := (fun _ => True)) ?hr ?hp (fun _ hk => hk) ((show ∀ k_, w17.heap.size ≤ k_ → (fun _ => True) k_ from fun k_ hk => trivial) _ (Nat.le_refl _)) (Below.refl _ _) (Nat.le_refl _) (by simp) ?_; (case hd => rfl); (case hg => rfl); (case hr => first | (go_simp; done) | (go_simp; rfl)); (case hp => exact (Reps.one (show Kd.FK (Kd.slice 3 (Kd.int .i64)) _ _ y101 [.slice Ao19 y101.length co19] from (Kd.FK_slice_mk (Kd.R_reads' (Kd.R_mono (ok' := (fun _ => True)) (HO103.out) (fun k_ hk => trivial))).2.1 (Kd.R_F (Kd.R_mono (ok' := (fun _ => True)) (HO103.out) (fun k_ hk => trivial))))) (Reps.none _ _))); intro v105 w20 ho21 hb hg_ hnew_; clear hg_ hnew_; (first | rw [← Ny104.out] at ho21 | (simp only [Int.reduceToNat] at ho21; rw [← Ny104.out] at ho21)); have HO106 := Aside0.mk (Kd.N_lower ho21 (below_size qb)); replace HB := cB HB hb; clear HO103; clear hb ho21; obtain ⟨Ao22, co22, eo22⟩ := Kd.N_slice HO106.out; subst eo22) | ((with_reducible refine gate_callee (f := 40) rfl ?_); refine goesL_ (some 13) rfl rfl Tryz.func40 (by kernel_rfl) rfl #[.string (⟨#[116]⟩ : ByteArray), .agg #[.slice Ao22 y104.length co22]] rfl qm ?_; (with_reducible refine (tour_PrintTour.calls k (⟨#[116]⟩ : ByteArray) _ _ y104 t107 _ ?side1 ?side2 (Tabs.kept HT0.out qb) A1.out).mono ?_); (case side1 => repeat (first | exact (Kd.N_reads' HO106.out).2.2 | (with_reducible refine Kd.C_alloc ?_ _) | (with_reducible refine Kd.C_drewN ?_ _) | (with_reducible refine Kd.C_drew ?_))); (case side2 => exact (Kd.N_reads' HO106.out).2.1); rintro e w23 ⟨rfl, hb⟩; refine ⟨_, rfl, ?_⟩; replace HO106 := cN HO106 hb; replace HB := cB HB hb; (try clear hb); (try clear hb2); (try clear hk); (try clear hi)) | ((with_reducible refine gate_callee (f := 34) rfl ?_); refine goesL_ (some 16) rfl rfl Tryz.func34 (by kernel_rfl) rfl #[.string t107] rfl qm ?_; (with_reducible refine (tour_ParseTour.calls t107 t108 t111 t112 _ A2.out).mono ?_); rintro e w24 ⟨v109, rfl, ho0, hb⟩; refine ⟨_, rfl, ?_⟩; have n0_ := Aside0.mk (Kd.N_elder' (qN HO106.out) (Kd.S_base ho0) hb); have HO110 := Aside0.mk (Kd.N_lower (Kd.N_mono (ok' := fun k_ => some k_ ≠ (.slice Ao22 y104.length co22 : Value).ownBlock) (Kd.S_N (Kd.S_bound ho0)) (fun k_ hk_ => (Kd.fresh' (Kd.N_lt (qN HO106.out)) k_ hk_.2.1))) (below_size qb)); replace HB := cB HB hb; replace HO106 := n0_; clear n0_; (try clear hb); (try clear hb2); (try clear hk); (try clear hi); (try clear ho0)) | ((with_reducible refine gate_dst (N := 2) rfl ?_); (try (refine gate_guard (by rfl) ?_; dsimp only)); refine box_ev (N := 2) (cs := #[.slice none 0 0]) (t := 70) ?_; intro gb113 hg w25 hbox hb; have n0_ := Aside0.mk (Kd.N_below (Kd.N_elderB (qN HO106.out) gb113 (Nat.le_of_eq hg.symm)) hb); have n1_ := Aside0.mk (Kd.N_below (Kd.N_elderB (qN HO110.out) gb113 (Nat.le_of_eq hg.symm)) hb); have BK113 := Aside0.mk (hbox); have GW113 := Aside0.mk ((qg : w.heap.size ≤ gb113)); have GE113 := Aside0.mk ((qg : w.heap.size ≤ gb113)); replace HB := cB HB hb; replace HO106 := n0_; replace HO110 := n1_; clear n0_ n1_; clear hb hbox hg) | ((with_reducible refine gate_dst (N := 3) rfl ?_); (try (refine gate_guard (by rfl) ?_; dsimp only)); refine box_ev (N := 3) (cs := #[.int .i64 0, .int .i64 0]) (t := 41) ?_; intro gb114 hg w26 hbox hb; have n0_ := Aside0.mk (Kd.N_below (Kd.N_elderB (qN HO106.out) gb114 (Nat.le_of_eq hg.symm)) hb); have n1_ := Aside0.mk (Kd.N_below (Kd.N_elderB (qN HO110.out) gb114 (Nat.le_of_eq hg.symm)) hb); have BK114 := Aside0.mk (hbox); have GW114 := Aside0.mk ((qg : w.heap.size ≤ gb114)); have GE114 := Aside0.mk ((qg : w.heap.size ≤ gb114)); have NB113_114 := Aside0.mk ((by rw [hg]; exact Nat.ne_of_lt (blk_lt (g := gb113) (o := .cells #[.slice none 0 0] 70 (0, 0)) (qk BK113.out)) : gb113 ≠ gb114)); have NB114_113 := Aside0.mk ((by rw [hg]; exact Nat.ne_of_gt (blk_lt (g := gb113) (o := .cells #[.slice none 0 0] 70 (0, 0)) (qk BK113.out)) : gb114 ≠ gb113)); replace BK113 := cK BK113 hb; replace HB := cB HB hb; replace HO106 := n0_; replace HO110 := n1_; clear n0_ n1_; clear hb hbox hg; obtain ⟨Ao27, co27, eo27⟩ := Kd.N_slice HO110.out; subst eo27; have hnb28 := NB113_114.out; have hnc28 := NB114_113.out; have hcz29_0 : w26.cell? ⟨gb113, 0, none⟩ = some (.slice none 0 0) := (blk_cell BK113.out 0).trans rfl; have hfz29_0 := blk_frozen BK113.out 0; have hcz30_0 : w26.cell? ⟨gb114, 0, none⟩ = some (.int .i64 0) := (blk_cell BK114.out 0).trans rfl; have hcz30_1 : w26.cell? ⟨gb114, 1, none⟩ = some (.int .i64 0) := (blk_cell BK114.out 1).trans rfl; have hfz30_0 := blk_frozen BK114.out 0; have hfz30_1 := blk_frozen BK114.out 1) | ((with_reducible refine gate_callee (f := 36) rfl ?_); refine goesL_ (some 20) rfl rfl Tryz.func36 (by kernel_rfl) rfl #[.string (⟨#[82, 111, 117, 116, 101, 32, 35, 49, 58, 32, 51, 32, 49, 10, 82, 111, 117, 116, 101, 32, 50, 32, 58, 10, 67, 111, 115, 116, 32, 50, 48, 10]⟩ : ByteArray)] rfl qm ?_; (with_reducible refine (tour_ParseRoutes.calls (⟨#[82, 111, 117, 116, 101, 32, 35, 49, 58, 32, 51, 32, 49, 10, 82, 111, 117, 116, 101, 32, 50, 32, 58, 10, 67, 111, 115, 116, 32, 50, 48, 10]⟩ : ByteArray) t115 t118 t119 t120 _ (Tabs.kept HT0.out qb) A3.out).mono ?_); rintro e w31 ⟨v116, rfl, ho0, hb⟩; refine ⟨_, rfl, ?_⟩; have n0_ := Aside0.mk (Kd.N_elder' (by refine qN ?_; exact (Kd.N_mono (Kd.N_mono (Kd.N_far (p := ⟨gb114, 1, none⟩) (Kd.N_far (p := ⟨gb114, 0, none⟩) (Kd.N_far (p := ⟨gb113, 0, none⟩) (Kd.N_mono (Kd.N_mono HO106.out (fun k_ hk => (⟨hk, hk.1.2⟩ : _ ∧ k_ ≠ gb113))) (fun k_ hk => (⟨hk, hk.1.2⟩ : _ ∧ k_ ≠ gb114))) (fun _ hk => hk.1.2) (.slice Ao27 t108.length co27)) (fun _ hk => hk.2) (.int .i64 t111)) (fun _ hk => hk.2) (.int .i64 t112)) (fun _ h_ => by first | exact h_.1 | exact ⟨trivial, h_.1⟩)) (fun _ h_ => by first | exact h_.1 | exact ⟨trivial, h_.1⟩))) (Kd.S_base ho0) hb); have n1_ := Aside0.mk (Kd.N_elder' (by refine qN ?_; exact (Kd.N_mono (Kd.N_mono (Kd.N_far (p := ⟨gb114, 1, none⟩) (Kd.N_far (p := ⟨gb114, 0, none⟩) (Kd.N_far (p := ⟨gb113, 0, none⟩) (Kd.N_mono (Kd.N_mono HO110.out (fun k_ hk => (⟨hk, hk.1.2⟩ : _ ∧ k_ ≠ gb113))) (fun k_ hk => (⟨hk, hk.1.2⟩ : _ ∧ k_ ≠ gb114))) (fun _ hk => hk.1.2) (.slice Ao27 t108.length co27)) (fun _ hk => hk.2) (.int .i64 t111)) (fun _ hk => hk.2) (.int .i64 t112)) (fun _ h_ => by first | exact h_.1 | exact ⟨trivial, h_.1⟩)) (fun _ h_ => by first | exact h_.1 | exact ⟨trivial, h_.1⟩))) (Kd.S_base ho0) hb); have HO117 := Aside0.mk (Kd.N_lower (Kd.N_mono (ok' := fun k_ => some k_ ≠ (.slice Ao22 y104.length co22 : Value).ownBlock ∧ some k_ ≠ (.slice Ao27 t108.length co27 : Value).ownBlock ∧ k_ ≠ gb113 ∧ k_ ≠ gb114) (Kd.S_N (Kd.S_bound ho0)) (fun k_ hk_ => ⟨(Kd.fresh' (Kd.N_lt (by refine qN ?_; exact (Kd.N_mono (Kd.N_mono (Kd.N_far (p := ⟨gb114, 1, none⟩) (Kd.N_far (p := ⟨gb114, 0, none⟩) (Kd.N_far (p := ⟨gb113, 0, none⟩) (Kd.N_mono (Kd.N_mono HO106.out (fun k_ hk => (⟨hk, hk.1.2⟩ : _ ∧ k_ ≠ gb113))) (fun k_ hk => (⟨hk, hk.1.2⟩ : _ ∧ k_ ≠ gb114))) (fun _ hk => hk.1.2) (.slice Ao27 t108.length co27)) (fun _ hk => hk.2) (.int .i64 t111)) (fun _ hk => hk.2) (.int .i64 t112)) (fun _ h_ => by first | exact h_.1 | exact ⟨trivial, h_.1⟩)) (fun _ h_ => by first | exact h_.1 | exact ⟨trivial, h_.1⟩)))) k_ hk_.2.1), (Kd.fresh' (Kd.N_lt (by refine qN ?_; exact (Kd.N_mono (Kd.N_mono (Kd.N_far (p := ⟨gb114, 1, none⟩) (Kd.N_far (p := ⟨gb114, 0, none⟩) (Kd.N_far (p := ⟨gb113, 0, none⟩) (Kd.N_mono (Kd.N_mono HO110.out (fun k_ hk => (⟨hk, hk.1.2⟩ : _ ∧ k_ ≠ gb113))) (fun k_ hk => (⟨hk, hk.1.2⟩ : _ ∧ k_ ≠ gb114))) (fun _ hk => hk.1.2) (.slice Ao27 t108.length co27)) (fun _ hk => hk.2) (.int .i64 t111)) (fun _ hk => hk.2) (.int .i64 t112)) (fun _ h_ => by first | exact h_.1 | exact ⟨trivial, h_.1⟩)) (fun _ h_ => by first | exact h_.1 | exact ⟨trivial, h_.1⟩)))) k_ hk_.2.1), (Kd.freshB (g := gb113) (o := .cells #[.slice Ao27 t108.length co27] 70 (0, 0)) (by refine qk ?_; refine blk_far ?_ NB113_114.out _; refine qk ?_; refine blk_far ?_ NB113_114.out _; refine qk ?_; refine blk_put (cs := #[.slice none 0 0]) ?_ 0 _ rfl; refine qk ?_; exact BK113.out) k_ hk_.2.1), (Kd.freshB (g := gb114) (o := .cells #[.int .i64 t111, .int .i64 t112] 41 (0, 0)) (by refine qk ?_; refine blk_put (cs := #[.int .i64 t111, .int .i64 0]) ?_ 1 _ rfl; refine qk ?_; refine blk_put (cs := #[.int .i64 0, .int .i64 0]) ?_ 0 _ rfl; refine qk ?_; refine blk_far ?_ NB114_113.out _; refine qk ?_; exact BK114.out) k_ hk_.2.1)⟩)) (below_size qb)); have n3_ := Aside0.mk (blk_below (g := gb113) (o := .cells #[.slice Ao27 t108.length co27] 70 (0, 0)) (by refine qk ?_; refine blk_far ?_ NB113_114.out _; refine qk ?_; refine blk_far ?_ NB113_114.out _; refine qk ?_; refine blk_put (cs := #[.slice none 0 0]) ?_ 0 _ rfl; refine qk ?_; exact BK113.out) hb); have n4_ := Aside0.mk (blk_below (g := gb114) (o := .cells #[.int .i64 t111, .int .i64 t112] 41 (0, 0)) (by refine qk ?_; refine blk_put (cs := #[.int .i64 t111, .int .i64 0]) ?_ 1 _ rfl; refine qk ?_; refine blk_put (cs := #[.int .i64 0, .int .i64 0]) ?_ 0 _ rfl; refine qk ?_; refine blk_far ?_ NB114_113.out _; refine qk ?_; exact BK114.out) hb); replace HB := cB HB hb; replace HO106 := n0_; replace HO110 := n1_; replace BK113 := n3_; replace BK114 := n4_; clear n0_ n1_ n3_ n4_; (try clear hb); (try clear hb2); (try clear hk); (try clear hi); (try clear ho0)) | ((with_reducible refine gate_dst (N := 4) rfl ?_); (try (refine gate_guard (by rfl) ?_; dsimp only)); refine box_ev (N := 4) (cs := #[.slice none 0 0]) (t := 70) ?_; intro gb121 hg w32 hbox hb; have n0_ := Aside0.mk (Kd.N_below (Kd.N_elderB (qN HO106.out) gb121 (Nat.le_of_eq hg.symm)) hb); have n1_ := Aside0.mk (Kd.N_below (Kd.N_elderB (qN HO110.out) gb121 (Nat.le_of_eq hg.symm)) hb); have n2_ := Aside0.mk (Kd.N_below (Kd.N_elderB (qN HO117.out) gb121 (Nat.le_of_eq hg.symm)) hb); have BK121 := Aside0.mk (hbox); have GW121 := Aside0.mk ((qg : w.heap.size ≤ gb121)); have GE121 := Aside0.mk ((qg : w.heap.size ≤ gb121)); have NB113_121 := Aside0.mk ((by rw [hg]; exact Nat.ne_of_lt (blk_lt (g := gb113) (o := .cells #[.slice Ao27 t108.length co27] 70 (0, 0)) (qk BK113.out)) : gb113 ≠ gb121)); have NB121_113 := Aside0.mk ((by rw [hg]; exact Nat.ne_of_gt (blk_lt (g := gb113) (o := .cells #[.slice Ao27 t108.length co27] 70 (0, 0)) (qk BK113.out)) : gb121 ≠ gb113)); have NB114_121 := Aside0.mk ((by rw [hg]; exact Nat.ne_of_lt (blk_lt (g := gb114) (o := .cells #[.int .i64 t111, .int .i64 t112] 41 (0, 0)) (qk BK114.out)) : gb114 ≠ gb121)); have NB121_114 := Aside0.mk ((by rw [hg]; exact Nat.ne_of_gt (blk_lt (g := gb114) (o := .cells #[.int .i64 t111, .int .i64 t112] 41 (0, 0)) (qk BK114.out)) : gb121 ≠ gb114)); replace BK113 := cK BK113 hb; replace BK114 := cK BK114 hb; replace HB := cB HB hb; replace HO106 := n0_; replace HO110 := n1_; replace HO117 := n2_; clear n0_ n1_ n2_; clear hb hbox hg) | ((with_reducible refine gate_dst (N := 6) rfl ?_); (try (refine gate_guard (by rfl) ?_; dsimp only)); refine box_ev (N := 6) (cs := #[.int .i64 0, .int .i64 0]) (t := 41) ?_; intro gb122 hg w33 hbox hb; have n0_ := Aside0.mk (Kd.N_below (Kd.N_elderB (qN HO106.out) gb122 (Nat.le_of_eq hg.symm)) hb); have n1_ := Aside0.mk (Kd.N_below (Kd.N_elderB (qN HO110.out) gb122 (Nat.le_of_eq hg.symm)) hb); have n2_ := Aside0.mk (Kd.N_below (Kd.N_elderB (qN HO117.out) gb122 (Nat.le_of_eq hg.symm)) hb); have BK122 := Aside0.mk (hbox); have GW122 := Aside0.mk ((qg : w.heap.size ≤ gb122)); have GE122 := Aside0.mk ((qg : w.heap.size ≤ gb122)); have NB113_122 := Aside0.mk ((by rw [hg]; exact Nat.ne_of_lt (blk_lt (g := gb113) (o := .cells #[.slice Ao27 t108.length co27] 70 (0, 0)) (qk BK113.out)) : gb113 ≠ gb122)); have NB122_113 := Aside0.mk ((by rw [hg]; exact Nat.ne_of_gt (blk_lt (g := gb113) (o := .cells #[.slice Ao27 t108.length co27] 70 (0, 0)) (qk BK113.out)) : gb122 ≠ gb113)); have NB114_122 := Aside0.mk ((by rw [hg]; exact Nat.ne_of_lt (blk_lt (g := gb114) (o := .cells #[.int .i64 t111, .int .i64 t112] 41 (0, 0)) (qk BK114.out)) : gb114 ≠ gb122)); have NB122_114 := Aside0.mk ((by rw [hg]; exact Nat.ne_of_gt (blk_lt (g := gb114) (o := .cells #[.int .i64 t111, .int .i64 t112] 41 (0, 0)) (qk BK114.out)) : gb122 ≠ gb114)); have NB121_122 := Aside0.mk ((by rw [hg]; exact Nat.ne_of_lt (blk_lt (g := gb121) (o := .cells #[.slice none 0 0] 70 (0, 0)) (qk BK121.out)) : gb121 ≠ gb122)); have NB122_121 := Aside0.mk ((by rw [hg]; exact Nat.ne_of_gt (blk_lt (g := gb121) (o := .cells #[.slice none 0 0] 70 (0, 0)) (qk BK121.out)) : gb122 ≠ gb121)); replace BK113 := cK BK113 hb; replace BK114 := cK BK114 hb; replace BK121 := cK BK121 hb; replace HB := cB HB hb; replace HO106 := n0_; replace HO110 := n1_; replace HO117 := n2_; clear n0_ n1_ n2_; clear hb hbox hg; obtain ⟨Ao34, co34, eo34⟩ := Kd.N_slice HO117.out; subst eo34; have hnb35 := NB121_113.out; have hnc35 := NB113_121.out; have hnb36 := NB121_114.out; have hnc36 := NB114_121.out; have hnb37 := NB121_122.out; have hnc37 := NB122_121.out; have hcz38_0 : w33.cell? ⟨gb121, 0, none⟩ = some (.slice none 0 0) := (blk_cell BK121.out 0).trans rfl; have hfz38_0 := blk_frozen BK121.out 0; have hnb39 := NB122_113.out; have hnc39 := NB113_122.out; have hnb40 := NB122_114.out; have hnc40 := NB114_122.out; have hcz41_0 : w33.cell? ⟨gb122, 0, none⟩ = some (.int .i64 0) := (blk_cell BK122.out 0).trans rfl; have hcz41_1 : w33.cell? ⟨gb122, 1, none⟩ = some (.int .i64 0) := (blk_cell BK122.out 1).trans rfl; have hfz41_0 := blk_frozen BK122.out 0; have hfz41_1 := blk_frozen BK122.out 1) | ((with_reducible refine gate_callee (f := 36) rfl ?_); refine goesL_ (some 25) rfl rfl Tryz.func36 (by kernel_rfl) rfl #[.string (⟨#[82, 111, 117, 116, 101, 32, 35, 50, 58, 32, 51, 10]⟩ : ByteArray)] rfl qm ?_; (with_reducible refine (tour_ParseRoutes.calls (⟨#[82, 111, 117, 116, 101, 32, 35, 50, 58, 32, 51, 10]⟩ : ByteArray) t123 t126 t127 t128 _ (Tabs.kept HT0.out qb) A4.out).mono ?_); rintro e w42 ⟨v124, rfl, ho0, hb⟩; refine ⟨_, rfl, ?_⟩; have n0_ := Aside0.mk (Kd.N_elder' (by refine qN ?_; exact (Kd.N_mono (Kd.N_mono (Kd.N_far (p := ⟨gb122, 1, none⟩) (Kd.N_far (p := ⟨gb122, 0, none⟩) (Kd.N_far (p := ⟨gb121, 0, none⟩) (Kd.N_mono (Kd.N_mono HO106.out (fun k_ hk => (⟨hk, hk.1.2⟩ : _ ∧ k_ ≠ gb121))) (fun k_ hk => (⟨hk, hk.1.2⟩ : _ ∧ k_ ≠ gb122))) (fun _ hk => hk.1.2) (.slice Ao34 t115.length co34)) (fun _ hk => hk.2) (.int .i64 t119)) (fun _ hk => hk.2) (.int .i64 t120)) (fun _ h_ => by first | exact h_.1 | exact ⟨trivial, h_.1⟩)) (fun _ h_ => by first | exact h_.1 | exact ⟨trivial, h_.1⟩))) (Kd.S_base ho0) hb); have n1_ := Aside0.mk (Kd.N_elder' (by refine qN ?_; exact (Kd.N_mono (Kd.N_mono (Kd.N_far (p := ⟨gb122, 1, none⟩) (Kd.N_far (p := ⟨gb122, 0, none⟩) (Kd.N_far (p := ⟨gb121, 0, none⟩) (Kd.N_mono (Kd.N_mono HO110.out (fun k_ hk => (⟨hk, hk.1.2⟩ : _ ∧ k_ ≠ gb121))) (fun k_ hk => (⟨hk, hk.1.2⟩ : _ ∧ k_ ≠ gb122))) (fun _ hk => hk.1.2) (.slice Ao34 t115.length co34)) (fun _ hk => hk.2) (.int .i64 t119)) (fun _ hk => hk.2) (.int .i64 t120)) (fun _ h_ => by first | exact h_.1 | exact ⟨trivial, h_.1⟩)) (fun _ h_ => by first | exact h_.1 | exact ⟨trivial, h_.1⟩))) (Kd.S_base ho0) hb); have n2_ := Aside0.mk (Kd.N_elder' (by refine qN ?_; exact (Kd.N_mono (Kd.N_mono (Kd.N_far (p := ⟨gb122, 1, none⟩) (Kd.N_far (p := ⟨gb122, 0, none⟩) (Kd.N_far (p := ⟨gb121, 0, none⟩) (Kd.N_mono (Kd.N_mono HO117.out (fun k_ hk => (⟨hk, hk.1.2⟩ : _ ∧ k_ ≠ gb121))) (fun k_ hk => (⟨hk, hk.1.2⟩ : _ ∧ k_ ≠ gb122))) (fun _ hk => hk.1.2) (.slice Ao34 t115.length co34)) (fun _ hk => hk.2) (.int .i64 t119)) (fun _ hk => hk.2) (.int .i64 t120)) (fun _ h_ => by first | exact h_.1 | exact ⟨trivial, h_.1⟩)) (fun _ h_ => by first | exact h_.1 | exact ⟨trivial, h_.1⟩))) (Kd.S_base ho0) hb); have HO125 := Aside0.mk (Kd.N_lower (Kd.N_mono (ok' := fun k_ => some k_ ≠ (.slice Ao22 y104.length co22 : Value).ownBlock ∧ some k_ ≠ (.slice Ao27 t108.length co27 : Value).ownBlock ∧ some k_ ≠ (.slice Ao34 t115.length co34 : Value).ownBlock ∧ k_ ≠ gb113 ∧ k_ ≠ gb114 ∧ k_ ≠ gb121 ∧ k_ ≠ gb122) (Kd.S_N (Kd.S_bound ho0)) (fun k_ hk_ => ⟨(Kd.fresh' (Kd.N_lt (by refine qN ?_; exact (Kd.N_mono (Kd.N_mono (Kd.N_far (p := ⟨gb122, 1, none⟩) (Kd.N_far (p := ⟨gb122, 0, none⟩) (Kd.N_far (p := ⟨gb121, 0, none⟩) (Kd.N_mono (Kd.N_mono HO106.out (fun k_ hk => (⟨hk, hk.1.2⟩ : _ ∧ k_ ≠ gb121))) (fun k_ hk => (⟨hk, hk.1.2⟩ : _ ∧ k_ ≠ gb122))) (fun _ hk => hk.1.2) (.slice Ao34 t115.length co34)) (fun _ hk => hk.2) (.int .i64 t119)) (fun _ hk => hk.2) (.int .i64 t120)) (fun _ h_ => by first | exact h_.1 | exact ⟨trivial, h_.1⟩)) (fun _ h_ => by first | exact h_.1 | exact ⟨trivial, h_.1⟩)))) k_ hk_.2.1), (Kd.fresh' (Kd.N_lt (by refine qN ?_; exact (Kd.N_mono (Kd.N_mono (Kd.N_far (p := ⟨gb122, 1, none⟩) (Kd.N_far (p := ⟨gb122, 0, none⟩) (Kd.N_far (p := ⟨gb121, 0, none⟩) (Kd.N_mono (Kd.N_mono HO110.out (fun k_ hk => (⟨hk, hk.1.2⟩ : _ ∧ k_ ≠ gb121))) (fun k_ hk => (⟨hk, hk.1.2⟩ : _ ∧ k_ ≠ gb122))) (fun _ hk => hk.1.2) (.slice Ao34 t115.length co34)) (fun _ hk => hk.2) (.int .i64 t119)) (fun _ hk => hk.2) (.int .i64 t120)) (fun _ h_ => by first | exact h_.1 | exact ⟨trivial, h_.1⟩)) (fun _ h_ => by first | exact h_.1 | exact ⟨trivial, h_.1⟩)))) k_ hk_.2.1), (Kd.fresh' (Kd.N_lt (by refine qN ?_; exact (Kd.N_mono (Kd.N_mono (Kd.N_far (p := ⟨gb122, 1, none⟩) (Kd.N_far (p := ⟨gb122, 0, none⟩) (Kd.N_far (p := ⟨gb121, 0, none⟩) (Kd.N_mono (Kd.N_mono HO117.out (fun k_ hk => (⟨hk, hk.1.2⟩ : _ ∧ k_ ≠ gb121))) (fun k_ hk => (⟨hk, hk.1.2⟩ : _ ∧ k_ ≠ gb122))) (fun _ hk => hk.1.2) (.slice Ao34 t115.length co34)) (fun _ hk => hk.2) (.int .i64 t119)) (fun _ hk => hk.2) (.int .i64 t120)) (fun _ h_ => by first | exact h_.1 | exact ⟨trivial, h_.1⟩)) (fun _ h_ => by first | exact h_.1 | exact ⟨trivial, h_.1⟩)))) k_ hk_.2.1), (Kd.freshB (g := gb113) (o := .cells #[.slice Ao27 t108.length co27] 70 (0, 0)) (by refine qk ?_; refine blk_far ?_ NB113_122.out _; refine qk ?_; refine blk_far ?_ NB113_122.out _; refine qk ?_; refine blk_far ?_ NB113_121.out _; refine qk ?_; exact BK113.out) k_ hk_.2.1), (Kd.freshB (g := gb114) (o := .cells #[.int .i64 t111, .int .i64 t112] 41 (0, 0)) (by refine qk ?_; refine blk_far ?_ NB114_122.out _; refine qk ?_; refine blk_far ?_ NB114_122.out _; refine qk ?_; refine blk_far ?_ NB114_121.out _; refine qk ?_; exact BK114.out) k_ hk_.2.1), (Kd.freshB (g := gb121) (o := .cells #[.slice Ao34 t115.length co34] 70 (0, 0)) (by refine qk ?_; refine blk_far ?_ NB121_122.out _; refine qk ?_; refine blk_far ?_ NB121_122.out _; refine qk ?_; refine blk_put (cs := #[.slice none 0 0]) ?_ 0 _ rfl; refine qk ?_; exact BK121.out) k_ hk_.2.1), (Kd.freshB (g := gb122) (o := .cells #[.int .i64 t119, .int .i64 t120] 41 (0, 0)) (by refine qk ?_; refine blk_put (cs := #[.int .i64 t119, .int .i64 0]) ?_ 1 _ rfl; refine qk ?_; refine blk_put (cs := #[.int .i64 0, .int .i64 0]) ?_ 0 _ rfl; refine qk ?_; refine blk_far ?_ NB122_121.out _; refine qk ?_; exact BK122.out) k_ hk_.2.1)⟩)) (below_size qb)); have n4_ := Aside0.mk (blk_below (g := gb113) (o := .cells #[.slice Ao27 t108.length co27] 70 (0, 0)) (by refine qk ?_; refine blk_far ?_ NB113_122.out _; refine qk ?_; refine blk_far ?_ NB113_122.out _; refine qk ?_; refine blk_far ?_ NB113_121.out _; refine qk ?_; exact BK113.out) hb); have n5_ := Aside0.mk (blk_below (g := gb114) (o := .cells #[.int .i64 t111, .int .i64 t112] 41 (0, 0)) (by refine qk ?_; refine blk_far ?_ NB114_122.out _; refine qk ?_; refine blk_far ?_ NB114_122.out _; refine qk ?_; refine blk_far ?_ NB114_121.out _; refine qk ?_; exact BK114.out) hb); have n6_ := Aside0.mk (blk_below (g := gb121) (o := .cells #[.slice Ao34 t115.length co34] 70 (0, 0)) (by refine qk ?_; refine blk_far ?_ NB121_122.out _; refine qk ?_; refine blk_far ?_ NB121_122.out _; refine qk ?_; refine blk_put (cs := #[.slice none 0 0]) ?_ 0 _ rfl; refine qk ?_; exact BK121.out) hb); have n7_ := Aside0.mk (blk_below (g := gb122) (o := .cells #[.int .i64 t119, .int .i64 t120] 41 (0, 0)) (by refine qk ?_; refine blk_put (cs := #[.int .i64 t119, .int .i64 0]) ?_ 1 _ rfl; refine qk ?_; refine blk_put (cs := #[.int .i64 0, .int .i64 0]) ?_ 0 _ rfl; refine qk ?_; refine blk_far ?_ NB122_121.out _; refine qk ?_; exact BK122.out) hb); replace HB := cB HB hb; replace HO106 := n0_; replace HO110 := n1_; replace HO117 := n2_; replace BK113 := n4_; replace BK114 := n5_; replace BK121 := n6_; replace BK122 := n7_; clear n0_ n1_ n2_ n4_ n5_ n6_ n7_; (try clear hb); (try clear hb2); (try clear hk); (try clear hi); (try clear ho0)) | ((with_reducible refine gate_dst (N := 7) rfl ?_); (try (refine gate_guard (by rfl) ?_; dsimp only)); refine box_ev (N := 7) (cs := #[.slice none 0 0]) (t := 70) ?_; intro gb129 hg w43 hbox hb; have n0_ := Aside0.mk (Kd.N_below (Kd.N_elderB (qN HO106.out) gb129 (Nat.le_of_eq hg.symm)) hb); have n1_ := Aside0.mk (Kd.N_below (Kd.N_elderB (qN HO110.out) gb129 (Nat.le_of_eq hg.symm)) hb); have n2_ := Aside0.mk (Kd.N_below (Kd.N_elderB (qN HO117.out) gb129 (Nat.le_of_eq hg.symm)) hb); have n3_ := Aside0.mk (Kd.N_below (Kd.N_elderB (qN HO125.out) gb129 (Nat.le_of_eq hg.symm)) hb); have BK129 := Aside0.mk (hbox); have GW129 := Aside0.mk ((qg : w.heap.size ≤ gb129)); have GE129 := Aside0.mk ((qg : w.heap.size ≤ gb129)); have NB113_129 := Aside0.mk ((by rw [hg]; exact Nat.ne_of_lt (blk_lt (g := gb113) (o := .cells #[.slice Ao27 t108.length co27] 70 (0, 0)) (qk BK113.out)) : gb113 ≠ gb129)); have NB129_113 := Aside0.mk ((by rw [hg]; exact Nat.ne_of_gt (blk_lt (g := gb113) (o := .cells #[.slice Ao27 t108.length co27] 70 (0, 0)) (qk BK113.out)) : gb129 ≠ gb113)); have NB114_129 := Aside0.mk ((by rw [hg]; exact Nat.ne_of_lt (blk_lt (g := gb114) (o := .cells #[.int .i64 t111, .int .i64 t112] 41 (0, 0)) (qk BK114.out)) : gb114 ≠ gb129)); have NB129_114 := Aside0.mk ((by rw [hg]; exact Nat.ne_of_gt (blk_lt (g := gb114) (o := .cells #[.int .i64 t111, .int .i64 t112] 41 (0, 0)) (qk BK114.out)) : gb129 ≠ gb114)); have NB121_129 := Aside0.mk ((by rw [hg]; exact Nat.ne_of_lt (blk_lt (g := gb121) (o := .cells #[.slice Ao34 t115.length co34] 70 (0, 0)) (qk BK121.out)) : gb121 ≠ gb129)); have NB129_121 := Aside0.mk ((by rw [hg]; exact Nat.ne_of_gt (blk_lt (g := gb121) (o := .cells #[.slice Ao34 t115.length co34] 70 (0, 0)) (qk BK121.out)) : gb129 ≠ gb121)); have NB122_129 := Aside0.mk ((by rw [hg]; exact Nat.ne_of_lt (blk_lt (g := gb122) (o := .cells #[.int .i64 t119, .int .i64 t120] 41 (0, 0)) (qk BK122.out)) : gb122 ≠ gb129)); have NB129_122 := Aside0.mk ((by rw [hg]; exact Nat.ne_of_gt (blk_lt (g := gb122) (o := .cells #[.int .i64 t119, .int .i64 t120] 41 (0, 0)) (qk BK122.out)) : gb129 ≠ gb122)); replace BK113 := cK BK113 hb; replace BK114 := cK BK114 hb; replace BK121 := cK BK121 hb; replace BK122 := cK BK122 hb; replace HB := cB HB hb; replace HO106 := n0_; replace HO110 := n1_; replace HO117 := n2_; replace HO125 := n3_; clear n0_ n1_ n2_ n3_; clear hb hbox hg) | ((with_reducible refine gate_dst (N := 9) rfl ?_); (try (refine gate_guard (by rfl) ?_; dsimp only)); refine box_ev (N := 9) (cs := #[.int .i64 0, .int .i64 0]) (t := 41) ?_; intro gb130 hg w44 hbox hb; have n0_ := Aside0.mk (Kd.N_below (Kd.N_elderB (qN HO106.out) gb130 (Nat.le_of_eq hg.symm)) hb); have n1_ := Aside0.mk (Kd.N_below (Kd.N_elderB (qN HO110.out) gb130 (Nat.le_of_eq hg.symm)) hb); have n2_ := Aside0.mk (Kd.N_below (Kd.N_elderB (qN HO117.out) gb130 (Nat.le_of_eq hg.symm)) hb); have n3_ := Aside0.mk (Kd.N_below (Kd.N_elderB (qN HO125.out) gb130 (Nat.le_of_eq hg.symm)) hb); have BK130 := Aside0.mk (hbox); have GW130 := Aside0.mk ((qg : w.heap.size ≤ gb130)); have GE130 := Aside0.mk ((qg : w.heap.size ≤ gb130)); have NB113_130 := Aside0.mk ((by rw [hg]; exact Nat.ne_of_lt (blk_lt (g := gb113) (o := .cells #[.slice Ao27 t108.length co27] 70 (0, 0)) (qk BK113.out)) : gb113 ≠ gb130)); have NB130_113 := Aside0.mk ((by rw [hg]; exact Nat.ne_of_gt (blk_lt (g := gb113) (o := .cells #[.slice Ao27 t108.length co27] 70 (0, 0)) (qk BK113.out)) : gb130 ≠ gb113)); have NB114_130 := Aside0.mk ((by rw [hg]; exact Nat.ne_of_lt (blk_lt (g := gb114) (o := .cells #[.int .i64 t111, .int .i64 t112] 41 (0, 0)) (qk BK114.out)) : gb114 ≠ gb130)); have NB130_114 := Aside0.mk ((by rw [hg]; exact Nat.ne_of_gt (blk_lt (g := gb114) (o := .cells #[.int .i64 t111, .int .i64 t112] 41 (0, 0)) (qk BK114.out)) : gb130 ≠ gb114)); have NB121_130 := Aside0.mk ((by rw [hg]; exact Nat.ne_of_lt (blk_lt (g := gb121) (o := .cells #[.slice Ao34 t115.length co34] 70 (0, 0)) (qk BK121.out)) : gb121 ≠ gb130)); have NB130_121 := Aside0.mk ((by rw [hg]; exact Nat.ne_of_gt (blk_lt (g := gb121) (o := .cells #[.slice Ao34 t115.length co34] 70 (0, 0)) (qk BK121.out)) : gb130 ≠ gb121)); have NB122_130 := Aside0.mk ((by rw [hg]; exact Nat.ne_of_lt (blk_lt (g := gb122) (o := .cells #[.int .i64 t119, .int .i64 t120] 41 (0, 0)) (qk BK122.out)) : gb122 ≠ gb130)); have NB130_122 := Aside0.mk ((by rw [hg]; exact Nat.ne_of_gt (blk_lt (g := gb122) (o := .cells #[.int .i64 t119, .int .i64 t120] 41 (0, 0)) (qk BK122.out)) : gb130 ≠ gb122)); have NB129_130 := Aside0.mk ((by rw [hg]; exact Nat.ne_of_lt (blk_lt (g := gb129) (o := .cells #[.slice none 0 0] 70 (0, 0)) (qk BK129.out)) : gb129 ≠ gb130)); have NB130_129 := Aside0.mk ((by rw [hg]; exact Nat.ne_of_gt (blk_lt (g := gb129) (o := .cells #[.slice none 0 0] 70 (0, 0)) (qk BK129.out)) : gb130 ≠ gb129)); replace BK113 := cK BK113 hb; replace BK114 := cK BK114 hb; replace BK121 := cK BK121 hb; replace BK122 := cK BK122 hb; replace BK129 := cK BK129 hb; replace HB := cB HB hb; replace HO106 := n0_; replace HO110 := n1_; replace HO117 := n2_; replace HO125 := n3_; clear n0_ n1_ n2_ n3_; clear hb hbox hg; obtain ⟨Ao45, co45, eo45⟩ := Kd.N_slice HO125.out; subst eo45; have hnb46 := NB129_113.out; have hnc46 := NB113_129.out; have hnb47 := NB129_114.out; have hnc47 := NB114_129.out; have hnb48 := NB129_121.out; have hnc48 := NB121_129.out; have hnb49 := NB129_122.out; have hnc49 := NB122_129.out; have hnb50 := NB129_130.out; have hnc50 := NB130_129.out; have hcz51_0 : w44.cell? ⟨gb129, 0, none⟩ = some (.slice none 0 0) := (blk_cell BK129.out 0).trans rfl; have hfz51_0 := blk_frozen BK129.out 0) | ((with_reducible refine gate_store (t := 70) (p := 7) rfl ?_); refine store_ev (t := 70) (p := 7) (w1 := (w44.setCell ⟨gb129, 0, none⟩ (.slice Ao45 t123.length co45))) ?_; intro w52 hw; have n0_ : Aside0 (Kd.N (Kd.slice 3 (Kd.int .i64)) 38 w52 w.heap.size (fun k_ => some k_ ≠ (.slice Ao27 t108.length co27 : Value).ownBlock ∧ some k_ ≠ (.slice Ao34 t115.length co34 : Value).ownBlock ∧ some k_ ≠ (.slice Ao45 t123.length co45 : Value).ownBlock ∧ k_ ≠ gb113 ∧ k_ ≠ gb114 ∧ k_ ≠ gb121 ∧ k_ ≠ gb122 ∧ k_ ≠ gb129 ∧ k_ ≠ gb130) (.slice Ao22 y104.length co22) y104) := ⟨(by rw [hw]; exact (by refine qN ?_; exact Kd.N_mono (Kd.N_far (p := ⟨gb129, 0, none⟩) (Kd.N_mono HO106.out (fun k_ hk => (⟨hk, hk.1.2⟩ : _ ∧ k_ ≠ gb129))) (fun _ hk => hk.2) (.slice Ao45 t123.length co45)) (fun _ hk => ⟨hk.1.1.1.1.1.1.1.1.1.2, ⟨hk.1.1.1.1.1.1.2, ⟨hk.1.1.1.2, ⟨hk.1.1.1.1.1.1.1.1.2, ⟨hk.1.1.1.1.1.1.1.2, ⟨hk.1.1.1.1.1.2, ⟨hk.1.1.1.1.2, ⟨hk.1.1.2, hk.1.2⟩⟩⟩⟩⟩⟩⟩⟩)))⟩; have n1_ : Aside0 (Kd.N (Kd.slice 3 (Kd.int .i64)) 38 w52 w.heap.size (fun k_ => some k_ ≠ (.slice Ao22 y104.length co22 : Value).ownBlock ∧ some k_ ≠ (.slice Ao34 t115.length co34 : Value).ownBlock ∧ some k_ ≠ (.slice Ao45 t123.length co45 : Value).ownBlock ∧ k_ ≠ gb113 ∧ k_ ≠ gb114 ∧ k_ ≠ gb121 ∧ k_ ≠ gb122 ∧ k_ ≠ gb129 ∧ k_ ≠ gb130) (.slice Ao27 t108.length co27) t108) := ⟨(by rw [hw]; exact (by refine qN ?_; exact Kd.N_mono (Kd.N_far (p := ⟨gb129, 0, none⟩) (Kd.N_mono HO110.out (fun k_ hk => (⟨hk, hk.1.2⟩ : _ ∧ k_ ≠ gb129))) (fun _ hk => hk.2) (.slice Ao45 t123.length co45)) (fun _ hk => ⟨hk.1.1.1.1.1.1.1.1.1, ⟨hk.1.1.1.1.1.1.2, ⟨hk.1.1.1.2, ⟨hk.1.1.1.1.1.1.1.1.2, ⟨hk.1.1.1.1.1.1.1.2, ⟨hk.1.1.1.1.1.2, ⟨hk.1.1.1.1.2, ⟨hk.1.1.2, hk.1.2⟩⟩⟩⟩⟩⟩⟩⟩)))⟩; have n2_ : Aside0 (Kd.N (Kd.slice 3 (Kd.int .i64)) 38 w52 w.heap.size (fun k_ => some k_ ≠ (.slice Ao22 y104.length co22 : Value).ownBlock ∧ some k_ ≠ (.slice Ao27 t108.length co27 : Value).ownBlock ∧ some k_ ≠ (.slice Ao45 t123.length co45 : Value).ownBlock ∧ k_ ≠ gb113 ∧ k_ ≠ gb114 ∧ k_ ≠ gb121 ∧ k_ ≠ gb122 ∧ k_ ≠ gb129 ∧ k_ ≠ gb130) (.slice Ao34 t115.length co34) t115) := ⟨(by rw [hw]; exact (by refine qN ?_; exact Kd.N_mono (Kd.N_far (p := ⟨gb129, 0, none⟩) (Kd.N_mono HO117.out (fun k_ hk => (⟨hk, hk.1.2⟩ : _ ∧ k_ ≠ gb129))) (fun _ hk => hk.2) (.slice Ao45 t123.length co45)) (fun _ hk => ⟨hk.1.1.1.1.1.1.1, ⟨hk.1.1.1.1.1.1.2.1, ⟨hk.1.1.1.2, ⟨hk.1.1.1.1.1.1.2.2.1, ⟨hk.1.1.1.1.1.1.2.2.2, ⟨hk.1.1.1.1.1.2, ⟨hk.1.1.1.1.2, ⟨hk.1.1.2, hk.1.2⟩⟩⟩⟩⟩⟩⟩⟩)))⟩; have n3_ : Aside0 (Kd.N (Kd.slice 3 (Kd.int .i64)) 38 w52 w.heap.size (fun k_ => some k_ ≠ (.slice Ao22 y104.length co22 : Value).ownBlock ∧ some k_ ≠ (.slice Ao27 t108.length co27 : Value).ownBlock ∧ some k_ ≠ (.slice Ao34 t115.length co34 : Value).ownBlock ∧ k_ ≠ gb113 ∧ k_ ≠ gb114 ∧ k_ ≠ gb121 ∧ k_ ≠ gb122 ∧ k_ ≠ gb129 ∧ k_ ≠ gb130) (.slice Ao45 t123.length co45) t123) := ⟨(by rw [hw]; exact (by refine qN ?_; exact Kd.N_mono (Kd.N_far (p := ⟨gb129, 0, none⟩) (Kd.N_mono HO125.out (fun k_ hk => (⟨hk, hk.1.2⟩ : _ ∧ k_ ≠ gb129))) (fun _ hk => hk.2) (.slice Ao45 t123.length co45)) (fun _ hk => ⟨hk.1.1.1.1, ⟨hk.1.1.1.2.1, ⟨hk.1.1.1.2.2.1, ⟨hk.1.1.1.2.2.2.1, ⟨hk.1.1.1.2.2.2.2.1, ⟨hk.1.1.1.2.2.2.2.2.1, ⟨hk.1.1.1.2.2.2.2.2.2, ⟨hk.1.1.2, hk.1.2⟩⟩⟩⟩⟩⟩⟩⟩)))⟩; have n4_ : Aside0 (w52.heap[gb113]? = some (.cells #[.slice Ao27 t108.length co27] 70 (0, 0))) := ⟨(by rw [hw]; exact (by refine qk ?_; refine blk_far ?_ NB113_129.out _; refine qk ?_; exact BK113.out))⟩; have n5_ : Aside0 (w52.heap[gb114]? = some (.cells #[.int .i64 t111, .int .i64 t112] 41 (0, 0))) := ⟨(by rw [hw]; exact (by refine qk ?_; refine blk_far ?_ NB114_129.out _; refine qk ?_; exact BK114.out))⟩; have n6_ : Aside0 (w52.heap[gb121]? = some (.cells #[.slice Ao34 t115.length co34] 70 (0, 0))) := ⟨(by rw [hw]; exact (by refine qk ?_; refine blk_far ?_ NB121_129.out _; refine qk ?_; exact BK121.out))⟩; have n7_ : Aside0 (w52.heap[gb122]? = some (.cells #[.int .i64 t119, .int .i64 t120] 41 (0, 0))) := ⟨(by rw [hw]; exact (by refine qk ?_; refine blk_far ?_ NB122_129.out _; refine qk ?_; exact BK122.out))⟩; have n8_ : Aside0 (w52.heap[gb129]? = some (.cells #[.slice Ao45 t123.length co45] 70 (0, 0))) := ⟨(by rw [hw]; exact (by refine qk ?_; refine blk_put (cs := #[.slice none 0 0]) ?_ 0 _ rfl; refine qk ?_; exact BK129.out))⟩; have n9_ : Aside0 (w52.heap[gb130]? = some (.cells #[.int .i64 0, .int .i64 0] 41 (0, 0))) := ⟨(by rw [hw]; exact (by refine qk ?_; refine blk_far ?_ NB130_129.out _; refine qk ?_; exact BK130.out))⟩; have n10_ : Aside0 (Below w.heap.size w w52) := ⟨(by rw [hw]; exact qb)⟩; clear hw; clear HO106; clear HO110; clear HO117; clear HO125; clear BK113; clear BK114; clear BK121; clear BK122; clear BK129; clear BK130; clear HB; have HO106 := n0_; have HO110 := n1_; have HO117 := n2_; have HO125 := n3_; have BK113 := n4_; have BK114 := n5_; have BK121 := n6_; have BK122 := n7_; have BK129 := n8_; have BK130 := n9_; have HB := n10_; clear n0_ n1_ n2_ n3_ n4_ n5_ n6_ n7_ n8_ n9_ n10_; have hnb53 := NB130_113.out; have hnc53 := NB113_130.out; have hnb54 := NB130_114.out; have hnc54 := NB114_130.out; have hnb55 := NB130_121.out; have hnc55 := NB121_130.out; have hnb56 := NB130_122.out; have hnc56 := NB122_130.out; have hcz57_0 : w52.cell? ⟨gb130, 0, none⟩ = some (.int .i64 0) := (blk_cell BK130.out 0).trans rfl; have hcz57_1 : w52.cell? ⟨gb130, 1, none⟩ = some (.int .i64 0) := (blk_cell BK130.out 1).trans rfl; have hfz57_0 := blk_frozen BK130.out 0; have hfz57_1 := blk_frozen BK130.out 1) | ((with_reducible refine gate_store (t := 41) (p := 9) rfl ?_); refine store_ev (t := 41) (p := 9) (w1 := ((w52.setCell ⟨gb130, 0, none⟩ (.int .i64 t127)).setCell ⟨gb130, 1, none⟩ (.int .i64 t128))) ?_; intro w58 hw; have n0_ : Aside0 (Kd.N (Kd.slice 3 (Kd.int .i64)) 38 w58 w.heap.size (fun k_ => some k_ ≠ (.slice Ao27 t108.length co27 : Value).ownBlock ∧ some k_ ≠ (.slice Ao34 t115.length co34 : Value).ownBlock ∧ some k_ ≠ (.slice Ao45 t123.length co45 : Value).ownBlock ∧ k_ ≠ gb113 ∧ k_ ≠ gb114 ∧ k_ ≠ gb121 ∧ k_ ≠ gb122 ∧ k_ ≠ gb129 ∧ k_ ≠ gb130) (.slice Ao22 y104.length co22) y104) := ⟨(by rw [hw]; exact (by refine qN ?_; exact Kd.N_mono (Kd.N_far (p := ⟨gb130, 1, none⟩) (Kd.N_far (p := ⟨gb130, 0, none⟩) (Kd.N_mono HO106.out (fun k_ hk => (⟨hk, hk.2.2.2.2.2.2.2.2⟩ : _ ∧ k_ ≠ gb130))) (fun _ hk => hk.2) (.int .i64 t127)) (fun _ hk => hk.2) (.int .i64 t128)) (fun _ hk => ⟨hk.1.1, ⟨hk.1.2.1, ⟨hk.1.2.2.1, ⟨hk.1.2.2.2.1, ⟨hk.1.2.2.2.2.1, ⟨hk.1.2.2.2.2.2.1, ⟨hk.1.2.2.2.2.2.2.1, ⟨hk.1.2.2.2.2.2.2.2.1, hk.1.2.2.2.2.2.2.2.2⟩⟩⟩⟩⟩⟩⟩⟩)))⟩; have n1_ : Aside0 (Kd.N (Kd.slice 3 (Kd.int .i64)) 38 w58 w.heap.size (fun k_ => some k_ ≠ (.slice Ao22 y104.length co22 : Value).ownBlock ∧ some k_ ≠ (.slice Ao34 t115.length co34 : Value).ownBlock ∧ some k_ ≠ (.slice Ao45 t123.length co45 : Value).ownBlock ∧ k_ ≠ gb113 ∧ k_ ≠ gb114 ∧ k_ ≠ gb121 ∧ k_ ≠ gb122 ∧ k_ ≠ gb129 ∧ k_ ≠ gb130) (.slice Ao27 t108.length co27) t108) := ⟨(by rw [hw]; exact (by refine qN ?_; exact Kd.N_mono (Kd.N_far (p := ⟨gb130, 1, none⟩) (Kd.N_far (p := ⟨gb130, 0, none⟩) (Kd.N_mono HO110.out (fun k_ hk => (⟨hk, hk.2.2.2.2.2.2.2.2⟩ : _ ∧ k_ ≠ gb130))) (fun _ hk => hk.2) (.int .i64 t127)) (fun _ hk => hk.2) (.int .i64 t128)) (fun _ hk => ⟨hk.1.1, ⟨hk.1.2.1, ⟨hk.1.2.2.1, ⟨hk.1.2.2.2.1, ⟨hk.1.2.2.2.2.1, ⟨hk.1.2.2.2.2.2.1, ⟨hk.1.2.2.2.2.2.2.1, ⟨hk.1.2.2.2.2.2.2.2.1, hk.1.2.2.2.2.2.2.2.2⟩⟩⟩⟩⟩⟩⟩⟩)))⟩; have n2_ : Aside0 (Kd.N (Kd.slice 3 (Kd.int .i64)) 38 w58 w.heap.size (fun k_ => some k_ ≠ (.slice Ao22 y104.length co22 : Value).ownBlock ∧ some k_ ≠ (.slice Ao27 t108.length co27 : Value).ownBlock ∧ some k_ ≠ (.slice Ao45 t123.length co45 : Value).ownBlock ∧ k_ ≠ gb113 ∧ k_ ≠ gb114 ∧ k_ ≠ gb121 ∧ k_ ≠ gb122 ∧ k_ ≠ gb129 ∧ k_ ≠ gb130) (.slice Ao34 t115.length co34) t115) := ⟨(by rw [hw]; exact (by refine qN ?_; exact Kd.N_mono (Kd.N_far (p := ⟨gb130, 1, none⟩) (Kd.N_far (p := ⟨gb130, 0, none⟩) (Kd.N_mono HO117.out (fun k_ hk => (⟨hk, hk.2.2.2.2.2.2.2.2⟩ : _ ∧ k_ ≠ gb130))) (fun _ hk => hk.2) (.int .i64 t127)) (fun _ hk => hk.2) (.int .i64 t128)) (fun _ hk => ⟨hk.1.1, ⟨hk.1.2.1, ⟨hk.1.2.2.1, ⟨hk.1.2.2.2.1, ⟨hk.1.2.2.2.2.1, ⟨hk.1.2.2.2.2.2.1, ⟨hk.1.2.2.2.2.2.2.1, ⟨hk.1.2.2.2.2.2.2.2.1, hk.1.2.2.2.2.2.2.2.2⟩⟩⟩⟩⟩⟩⟩⟩)))⟩; have n3_ : Aside0 (Kd.N (Kd.slice 3 (Kd.int .i64)) 38 w58 w.heap.size (fun k_ => some k_ ≠ (.slice Ao22 y104.length co22 : Value).ownBlock ∧ some k_ ≠ (.slice Ao27 t108.length co27 : Value).ownBlock ∧ some k_ ≠ (.slice Ao34 t115.length co34 : Value).ownBlock ∧ k_ ≠ gb113 ∧ k_ ≠ gb114 ∧ k_ ≠ gb121 ∧ k_ ≠ gb122 ∧ k_ ≠ gb129 ∧ k_ ≠ gb130) (.slice Ao45 t123.length co45) t123) := ⟨(by rw [hw]; exact (by refine qN ?_; exact Kd.N_mono (Kd.N_far (p := ⟨gb130, 1, none⟩) (Kd.N_far (p := ⟨gb130, 0, none⟩) (Kd.N_mono HO125.out (fun k_ hk => (⟨hk, hk.2.2.2.2.2.2.2.2⟩ : _ ∧ k_ ≠ gb130))) (fun _ hk => hk.2) (.int .i64 t127)) (fun _ hk => hk.2) (.int .i64 t128)) (fun _ hk => ⟨hk.1.1, ⟨hk.1.2.1, ⟨hk.1.2.2.1, ⟨hk.1.2.2.2.1, ⟨hk.1.2.2.2.2.1, ⟨hk.1.2.2.2.2.2.1, ⟨hk.1.2.2.2.2.2.2.1, ⟨hk.1.2.2.2.2.2.2.2.1, hk.1.2.2.2.2.2.2.2.2⟩⟩⟩⟩⟩⟩⟩⟩)))⟩; have n4_ : Aside0 (w58.heap[gb113]? = some (.cells #[.slice Ao27 t108.length co27] 70 (0, 0))) := ⟨(by rw [hw]; exact (by refine qk ?_; refine blk_far ?_ NB113_130.out _; refine qk ?_; refine blk_far ?_ NB113_130.out _; refine qk ?_; exact BK113.out))⟩; have n5_ : Aside0 (w58.heap[gb114]? = some (.cells #[.int .i64 t111, .int .i64 t112] 41 (0, 0))) := ⟨(by rw [hw]; exact (by refine qk ?_; refine blk_far ?_ NB114_130.out _; refine qk ?_; refine blk_far ?_ NB114_130.out _; refine qk ?_; exact BK114.out))⟩; have n6_ : Aside0 (w58.heap[gb121]? = some (.cells #[.slice Ao34 t115.length co34] 70 (0, 0))) := ⟨(by rw [hw]; exact (by refine qk ?_; refine blk_far ?_ NB121_130.out _; refine qk ?_; refine blk_far ?_ NB121_130.out _; refine qk ?_; exact BK121.out))⟩; have n7_ : Aside0 (w58.heap[gb122]? = some (.cells #[.int .i64 t119, .int .i64 t120] 41 (0, 0))) := ⟨(by rw [hw]; exact (by refine qk ?_; refine blk_far ?_ NB122_130.out _; refine qk ?_; refine blk_far ?_ NB122_130.out _; refine qk ?_; exact BK122.out))⟩; have n8_ : Aside0 (w58.heap[gb129]? = some (.cells #[.slice Ao45 t123.length co45] 70 (0, 0))) := ⟨(by rw [hw]; exact (by refine qk ?_; refine blk_far ?_ NB129_130.out _; refine qk ?_; refine blk_far ?_ NB129_130.out _; refine qk ?_; exact BK129.out))⟩; have n9_ : Aside0 (w58.heap[gb130]? = some (.cells #[.int .i64 t127, .int .i64 t128] 41 (0, 0))) := ⟨(by rw [hw]; exact (by refine qk ?_; refine blk_put (cs := #[.int .i64 t127, .int .i64 0]) ?_ 1 _ rfl; refine qk ?_; refine blk_put (cs := #[.int .i64 0, .int .i64 0]) ?_ 0 _ rfl; refine qk ?_; exact BK130.out))⟩; have n10_ : Aside0 (Below w.heap.size w w58) := ⟨(by rw [hw]; exact qb)⟩; clear hw; clear HO106; clear HO110; clear HO117; clear HO125; clear BK113; clear BK114; clear BK121; clear BK122; clear BK129; clear BK130; clear HB; have HO106 := n0_; have HO110 := n1_; have HO117 := n2_; have HO125 := n3_; have BK113 := n4_; have BK114 := n5_; have BK121 := n6_; have BK122 := n7_; have BK129 := n8_; have BK130 := n9_; have HB := n10_; clear n0_ n1_ n2_ n3_ n4_ n5_ n6_ n7_ n8_ n9_ n10_; have hcz59_0 : w58.cell? ⟨gb113, 0, none⟩ = some (.slice Ao27 t108.length co27) := (blk_cell BK113.out 0).trans rfl; have hfz59_0 := blk_frozen BK113.out 0; have p131 : 0 ≤ (0 : Int) := (by omega); have q131 : 0 < (t108.length : Int) := of_decide_eq_true qa; obtain ⟨ad131, A131_0, c131_0, e131, hx131_0, hl131_0, hi131_0⟩ := at_L14 (Kd.N_reads' HO110.out).2.2 0 p131 q131; cases e131; obtain ⟨ce131, hce131, hMe131, hcc131⟩ := Kd.N_get HO110.out [] 0 p131 (by first | exact q131 | exact of_decide_eq_true qa | (have e_ := (Kd.N_reads' HO110.out).1; omega)); obtain ⟨ua131_0, uc131_0, rfl, ul131_0, ge131_0⟩ := Kd.FK_slice_open hMe131; have hv131_0 := hcc131 0 _ rfl; rw [Nat.add_zero, show ((Kd.slice 3 (Kd.int .i64))).sz = 1 from rfl, Nat.mul_one] at hv131_0; replace hv131_0 := Option.some.inj (hv131_0.symm.trans hx131_0); injection hv131_0 with hva_ hvn_ hvc_; rw [hva_] at ge131_0; rw [hvc_] at ul131_0; have HL131_0 := Aside0.mk (show Kd.V (Kd.int .i64) 3 _ w.heap.size _ _ (rd_L14 t108 0) from Kd.V_mk ul131_0 ge131_0); clear hva_ hvn_ hvc_ ge131_0 ul131_0; clear hcc131 hce131; have qi131 : (0 < t108.length) = True := eq_true (by omega); (try rw [show ((0 : Int)).toNat = 0 from rfl] at hx131_0); (try rw [Addr.add_zero'] at hx131_0); have HR131_0 := Aside0.mk hi131_0; have HC131_0 := Aside0.mk hl131_0; clear hi131_0 hl131_0; (try simp only [Go.IntWalk.toNatUp] at hx131_0); replace p131 := eq_true p131; replace q131 := eq_true q131; have p132 : 0 ≤ (0 : Int) := (by omega); have q132 : 0 < (t108.length : Int) := of_decide_eq_true qa; obtain ⟨ad132, A132_0, c132_0, e132, hx132_0, hl132_0, hi132_0⟩ := at_L14 (Kd.N_reads' HO110.out).2.2 0 p132 q132; obtain rfl : ad131 = ad132 := (by injection e132); obtain ⟨ce132, hce132, hMe132, hcc132⟩ := Kd.N_get HO110.out [] 0 p132 (by first | exact q132 | exact of_decide_eq_true qa | (have e_ := (Kd.N_reads' HO110.out).1; omega)); obtain ⟨ua132_0, uc132_0, rfl, ul132_0, ge132_0⟩ := Kd.FK_slice_open hMe132; have hv132_0 := hcc132 0 _ rfl; rw [Nat.add_zero, show ((Kd.slice 3 (Kd.int .i64))).sz = 1 from rfl, Nat.mul_one] at hv132_0; replace hv132_0 := Option.some.inj (hv132_0.symm.trans hx132_0); injection hv132_0 with hva_ hvn_ hvc_; rw [hva_] at ge132_0; rw [hvc_] at ul132_0; have HL132_0 := Aside0.mk (show Kd.V (Kd.int .i64) 3 _ w.heap.size _ _ (rd_L14 t108 0) from Kd.V_mk ul132_0 ge132_0); clear hva_ hvn_ hvc_ ge132_0 ul132_0; clear hcc132 hce132; have qi132 : (0 < t108.length) = True := eq_true (by omega); (try rw [show ((0 : Int)).toNat = 0 from rfl] at hx132_0); (try rw [Addr.add_zero'] at hx132_0); have HR132_0 := Aside0.mk hi132_0; have HC132_0 := Aside0.mk hl132_0; clear hi132_0 hl132_0; (try simp only [Go.IntWalk.toNatUp] at hx132_0); replace p132 := eq_true p132; replace q132 := eq_true q132; have ea_ := Option.some.inj (hx131_0.symm.trans hx132_0); injection ea_ with ea_ en_ ec_; subst ea_; subst ec_; clear en_; have p133 : 0 ≤ (0 : Int) := (by omega); have q133 : 0 < ((rd_L14 t108 0).length : Int) := of_decide_eq_true qa; obtain ⟨ad133, e133, hx133_0⟩ := Kd.at_int (qD HR132_0.out HL132_0.out) 0 p133 q133; cases e133; have qi133 : (0 < (rd_L14 t108 0).length) = True := eq_true (by omega); (try rw [show ((0 : Int)).toNat = 0 from rfl] at hx133_0); (try rw [Addr.add_zero'] at hx133_0); (try simp only [Go.IntWalk.toNatUp] at hx133_0); replace p133 := eq_true p133; replace q133 := eq_true q133; have hcz60_0 : w58.cell? ⟨gb114, 0, none⟩ = some (.int .i64 t111) := (blk_cell BK114.out 0).trans rfl; have hcz60_1 : w58.cell? ⟨gb114, 1, none⟩ = some (.int .i64 t112) := (blk_cell BK114.out 1).trans rfl; have hfz60_0 := blk_frozen BK114.out 0; have hfz60_1 := blk_frozen BK114.out 1; have hcz61_0 : w58.cell? ⟨gb121, 0, none⟩ = some (.slice Ao34 t115.length co34) := (blk_cell BK121.out 0).trans rfl; have hfz61_0 := blk_frozen BK121.out 0; have p134 : 0 ≤ (0 : Int) := (by omega); have q134 : 0 < (t115.length : Int) := of_decide_eq_true qa; obtain ⟨ad134, A134_0, c134_0, e134, hx134_0, hl134_0, hi134_0⟩ := at_L14 (Kd.N_reads' HO117.out).2.2 0 p134 q134; cases e134; obtain ⟨ce134, hce134, hMe134, hcc134⟩ := Kd.N_get HO117.out [] 0 p134 (by first | exact q134 | exact of_decide_eq_true qa | (have e_ := (Kd.N_reads' HO117.out).1; omega)); obtain ⟨ua134_0, uc134_0, rfl, ul134_0, ge134_0⟩ := Kd.FK_slice_open hMe134; have hv134_0 := hcc134 0 _ rfl; rw [Nat.add_zero, show ((Kd.slice 3 (Kd.int .i64))).sz = 1 from rfl, Nat.mul_one] at hv134_0; replace hv134_0 := Option.some.inj (hv134_0.symm.trans hx134_0); injection hv134_0 with hva_ hvn_ hvc_; rw [hva_] at ge134_0; rw [hvc_] at ul134_0; have HL134_0 := Aside0.mk (show Kd.V (Kd.int .i64) 3 _ w.heap.size _ _ (rd_L14 t115 0) from Kd.V_mk ul134_0 ge134_0); clear hva_ hvn_ hvc_ ge134_0 ul134_0; clear hcc134 hce134; have qi134 : (0 < t115.length) = True := eq_true (by omega); (try rw [show ((0 : Int)).toNat = 0 from rfl] at hx134_0); (try rw [Addr.add_zero'] at hx134_0); have HR134_0 := Aside0.mk hi134_0; have HC134_0 := Aside0.mk hl134_0; clear hi134_0 hl134_0; (try simp only [Go.IntWalk.toNatUp] at hx134_0); replace p134 := eq_true p134; replace q134 := eq_true q134; have hcz62_0 : w58.cell? ⟨gb122, 0, none⟩ = some (.int .i64 t119) := (blk_cell BK122.out 0).trans rfl; have hcz62_1 : w58.cell? ⟨gb122, 1, none⟩ = some (.int .i64 t120) := (blk_cell BK122.out 1).trans rfl; have hfz62_0 := blk_frozen BK122.out 0; have hfz62_1 := blk_frozen BK122.out 1; have hcz63_0 : w58.cell? ⟨gb130, 0, none⟩ = some (.int .i64 t127) := (blk_cell BK130.out 0).trans rfl; have hcz63_1 : w58.cell? ⟨gb130, 1, none⟩ = some (.int .i64 t128) := (blk_cell BK130.out 1).trans rfl; have hfz63_0 := blk_frozen BK130.out 0; have hfz63_1 := blk_frozen BK130.out 1))
             go_ret
             exact ⟨qe, qb⟩
            ·rw [if_neg c16] at H
             exact absurd H (by simp)
           ·rw [if_neg c15] at H
            exact absurd H (by simp)
          ·rw [if_neg c14] at H
           exact absurd H (by simp)
         ·rw [if_neg c13] at H
          exact absurd H (by simp)
        ·rw [if_neg c12] at H
         exact absurd H (by simp)
       ·rw [if_neg c11] at H
        exact absurd H (by simp)
      ·rw [if_neg c10] at H
       exact absurd H (by simp)
     ·rw [if_neg c9] at H
      exact absurd H (by simp)
    ·rw [if_neg c8] at H
     exact absurd H (by simp)
   ·rw [if_neg c7] at H
    exact absurd H (by simp)
  ·rw [if_neg c6] at H
   exact absurd H (by simp)
 ·rw [if_neg c5] at H
  exact absurd H (by simp)
end Go.Proofs.YtadocbfchdendaaGreatDoor.P
namespace Go.Proofs.YtadocbfchdendaaGreatDoor.P
open Go.RowKit Go.Proofs.YtadocbfchdendaaGreatDoorW.PrintWords Go.Proofs.YtadocbfchdendaaGreatDoorW.PrintLast Go.Proofs.YtadocbfchdendaaGreatDoorW.PrintMore
attribute [local go_sem] max2_int min2_int max_two min_two max_three min_three max_four min_four
set_option linter.unusedVariables false
set_option linter.unusedSimpArgs false
mutual
def entrepotlaw16_long.l0 : Nat → Int → Int → List (List Int) → Option (Bool)
 | 0, _, _, _ => none
 | k + 1, x3, x4, x102000 => if x4 < (x102000.length : Int) then (entrepotlaw16_long.j1 k x3 x4 (decide (x4 < 70)) x102000) else (entrepotlaw16_long.j1 k x3 x4 false x102000)
def entrepotlaw16_long.j1 : Nat → Int → Int → Bool → List (List Int) → Option (Bool)
 | 0, _, _, _, _ => none
 | k + 1, x3, x4, x13, x102000 => if x13 = true then (if 0 ≤ x4 then (if x4 < (x102000.length : Int) then (if ((rd_L14 x102000 x4).length : Int) > 450 then (some true) else (entrepotlaw16_long.l0 k (wrap64 (x3 + ((rd_L14 x102000 x4).length : Int))) (wrap64 (x4 + 1)) x102000)) else (none)) else (none)) else (if (x102000.length : Int) > 60 then (some true) else (some (decide (x3 > 450))))
end
def entrepotlaw16_long.f (k : Nat) (l0_0 : List (List Int)) : Option (Bool) := entrepotlaw16_long.l0 k 0 0 l0_0
theorem entrepotlaw16_long.mono_l : ∀ k, (∀ y0 y1 y2, LeO (entrepotlaw16_long.l0 k y0 y1 y2) (entrepotlaw16_long.l0 (k + 1) y0 y1 y2)) ∧ (∀ y0 y1 y2 y3, LeO (entrepotlaw16_long.j1 k y0 y1 y2 y3) (entrepotlaw16_long.j1 (k + 1) y0 y1 y2 y3))
 | 0 => ⟨fun _ _ _ r h => by simp [entrepotlaw16_long.l0] at h, fun _ _ _ _ r h => by simp [entrepotlaw16_long.j1] at h⟩
 | k + 1 => by
  obtain ⟨ih0, ih1⟩ := entrepotlaw16_long.mono_l k; refine ⟨?_, ?_⟩
  ·intro y0 y1 y2
   unfold entrepotlaw16_long.l0
   repeat' first
   | (with_reducible exact ih0 _ _ _)
   | (with_reducible exact ih1 _ _ _ _)
   | (with_reducible exact LeO.refl _)
   | (with_reducible exact LeO.none _)
   | (with_reducible refine LeO.ite ?_ ?_)
   | (with_reducible refine LeO.bind ?_ (fun _ => ?_))
   | exact ih0 _ _ _
   | exact ih1 _ _ _ _
   | exact LeO.none _
   | refine LeO.ite ?_ ?_
   | refine LeO.bind ?_ (fun _ => ?_)
  ·intro y0 y1 y2 y3
   unfold entrepotlaw16_long.j1
   repeat' first
   | (with_reducible exact ih0 _ _ _)
   | (with_reducible exact ih1 _ _ _ _)
   | (with_reducible exact LeO.refl _)
   | (with_reducible exact LeO.none _)
   | (with_reducible refine LeO.ite ?_ ?_)
   | (with_reducible refine LeO.bind ?_ (fun _ => ?_))
   | exact ih0 _ _ _
   | exact ih1 _ _ _ _
   | exact LeO.none _
   | refine LeO.ite ?_ ?_
   | refine LeO.bind ?_ (fun _ => ?_)
theorem entrepotlaw16_long.mono : ∀ a0 k, LeO (entrepotlaw16_long.f k a0) (entrepotlaw16_long.f (k + 1) a0) := by
 intro a0 k
 obtain ⟨ih0, ih1⟩ := entrepotlaw16_long.mono_l k; unfold entrepotlaw16_long.f
 repeat' first
   | (with_reducible exact ih0 _ _ _)
   | (with_reducible exact ih1 _ _ _ _)
   | (with_reducible exact LeO.refl _)
   | (with_reducible exact LeO.none _)
   | (with_reducible refine LeO.ite ?_ ?_)
   | (with_reducible refine LeO.bind ?_ (fun _ => ?_))
   | exact ih0 _ _ _
   | exact ih1 _ _ _ _
   | exact LeO.none _
   | refine LeO.ite ?_ ?_
   | refine LeO.bind ?_ (fun _ => ?_)
set_option maxHeartbeats 8000000 in
set_option maxRecDepth 100000 in
theorem entrepotlaw16_long.calls (k : Nat) (A0_0 : Option Addr) (c0_0 : Nat) (l0_0 : List (List Int)) (r : Bool) (w : World) (hr0_0 : Kd.C (Kd.slice 3 (Kd.int .i64)) w A0_0 l0_0.length l0_0) (hc0_0 : l0_0.length ≤ c0_0) (h : entrepotlaw16_long.f k l0_0 = some r) :
  Calls Tryz.prog 41 #[.agg #[.slice A0_0 l0_0.length c0_0]] w fun e w' => e = .returned (.bool r) ∧ Below w.heap.size w w' := by
 have hu70 := Tryz.underlying70; have HR0_0 := Aside0.mk hr0_0; have HC0_0 := Aside0.mk hc0_0; clear hr0_0 hc0_0; have HB := Aside0.mk (Below.refl w.heap.size w); have H : (entrepotlaw16_long.l0 k 0 0 l0_0) = some r := h; clear h; have H' := Aside0.mk H; clear H; go_enter Tryz.func41, Tryz.ntmps41
 go_wp2_with (first | ((with_reducible refine gate_dst (N := 1) rfl ?_); refine box_ev (N := 1) (cs := #[.slice A0_0 l0_0.length c0_0]) (t := 70) ?_; intro gb101 hg w2 hbox hb; have BK101 := Aside0.mk (hbox); have GW101 := Aside0.mk ((qg : w.heap.size ≤ gb101)); have GE101 := Aside0.mk ((qg : w.heap.size ≤ gb101)); replace HB := cB HB hb; clear hb hbox hg))
 (try simp only [Act.put, List.setIfInBounds_toArray, List.set_cons_zero, List.set_cons_succ])
 go_loopg [3, 4] k (fun kq v3 v4 w' => ∃ (x3_1 : Int) (x4_1 : Int), v3 = .int .i64 x3_1 ∧ v4 = .int .i64 x4_1 ∧ Aside0 (entrepotlaw16_long.l0 kq x3_1 x4_1 l0_0 = some r) ∧ Aside0 (kq ≤ k) ∧ Aside0 (w'.heap[gb101]? = some (.cells #[(.slice A0_0 l0_0.length c0_0)] 70 (0, 0))) ∧ Aside0 (Below w.heap.size w w'))
 case atStart => exact ⟨(0), (0), qr, qr, H', ⟨Nat.le_refl _⟩, ⟨qk BK101.out⟩, ⟨qb⟩⟩
 case round =>
  clear H'; (try clear p2); obtain ⟨x3_1, x4_1, rfl, rfl, HA, HK1, BK101, HB⟩ := hrel; cases gk with
  | zero => exact absurd HA.out (by simp [entrepotlaw16_long.l0])
  | succ k1 =>
   have H := HA.out; clear HA; simp only [entrepotlaw16_long.l0] at H; have HC3 := Aside0.mk H; clear H
   go_upto_region 3 with (fail)
   go_cut [13] (fun v13 wc => ∃ (kq : Nat) (x13_2 : Bool), v13 = .bool x13_2 ∧ Aside0 (entrepotlaw16_long.j1 kq x3_1 x4_1 x13_2 l0_0 = some r) ∧ Aside0 (kq ≤ k1) ∧ Aside0 (wc.heap[gb101]? = some (.cells #[(.slice A0_0 l0_0.length c0_0)] 70 (0, 0))) ∧ Aside0 (Below w.heap.size w wc))
   case first =>
    have H := HC3.out; clear HC3
    by_cases c4 : x4_1 < (l0_0.length : Int)
    ·rw [if_pos c4] at H; have c4b0 := decide_eq_true c4; clear c4; (first | rw [c4b0] | (simp only [i64_w, i32_w]; rw [c4b0]) | skip); have H' := Aside0.mk H; clear H; obtain ⟨hcz5_0, hfz5_0⟩ := bc1 BK101.out
     go_wp2
     go_meet
     case rel => exact ⟨_, (decide (x4_1 < 70)), qr, H', ⟨by have := HK1.out; first | omega | exact Nat.le_refl _⟩, ⟨qk BK101.out⟩, ⟨qb⟩⟩
    ·rw [if_neg c4] at H; have c4b0 := decide_eq_false c4; clear c4; (first | rw [c4b0] | (simp only [i64_w, i32_w]; rw [c4b0]) | skip); have H' := Aside0.mk H; clear H; obtain ⟨hcz6_0, hfz6_0⟩ := bc1 BK101.out
     go_wp2
     go_meet
     case rel => exact ⟨_, (false), qr, H', ⟨by have := HK1.out; first | omega | exact Nat.le_refl _⟩, ⟨qk BK101.out⟩, ⟨qb⟩⟩
   case rest =>
    clear HC3; (try clear p2); (try clear c4); (try clear c4b0); (try clear hcz5_0); (try clear hcz6_0); (try clear hfz5_0); (try clear hfz6_0); (try clear p2); obtain ⟨kq, x13_2, rfl, HA, HJ2, BK101, HB⟩ := hcut; cases kq with
    | zero => exact absurd HA.out (by simp [entrepotlaw16_long.j1])
    | succ kj2 =>
     have H := HA.out; clear HA; simp only [entrepotlaw16_long.j1] at H
     by_cases c7 : x13_2 = true
     ·subst c7; have H1 : (if 0 ≤ x4_1 then (if x4_1 < (l0_0.length : Int) then (if ((rd_L14 l0_0 x4_1).length : Int) > 450 then (some true) else (entrepotlaw16_long.l0 kj2 (wrap64 (x3_1 + ((rd_L14 l0_0 x4_1).length : Int))) (wrap64 (x4_1 + 1)) l0_0)) else (none)) else (none)) = some r := by rw [if_pos rfl] at H; exact H
      clear H; have H := H1; clear H1
      by_cases c8 : 0 ≤ x4_1
      ·rw [if_pos c8] at H; have c8b0 := decide_eq_true c8; clear c8
       by_cases c9 : x4_1 < (l0_0.length : Int)
       ·rw [if_pos c9] at H; have c9b0 := decide_eq_true c9; clear c9
        by_cases c10 : ((rd_L14 l0_0 x4_1).length : Int) > 450
        ·rw [if_pos c10] at H; have c10b0 := decide_eq_true c10; have c10b1 : decide (450 < (rd_L14 l0_0 x4_1).length) = true := decide_eq_true (by omega); clear c10; obtain rfl := Option.some.inj H; obtain ⟨hcz11_0, hfz11_0⟩ := bc1 BK101.out; have p102 : 0 ≤ (x4_1 : Int) := of_decide_eq_true qa; have q102 : x4_1 < (l0_0.length : Int) := of_decide_eq_true qa; obtain ⟨ad102, A102_0, c102_0, e102, hx102_0, hl102_0, hi102_0⟩ := at_L14 HR0_0.out x4_1 p102 q102; cases e102; replace hx102_0 := (HB.out.cell (World.block_lt_of_cell? w _ hx102_0)).trans hx102_0; have HR102_0 := Aside0.mk hi102_0; have HC102_0 := Aside0.mk hl102_0; clear hi102_0 hl102_0; (try simp only [Go.IntWalk.toNatUp] at hx102_0); replace p102 := eq_true p102; replace q102 := eq_true q102
         go_wp2
         go_ret
         exact ⟨qe, qb⟩
        ·rw [if_neg c10] at H; have c10b0 := decide_eq_false c10; have c10b1 : decide (450 < (rd_L14 l0_0 x4_1).length) = false := decide_eq_false (by omega); clear c10; have H' := Aside0.mk H; clear H; obtain ⟨hcz12_0, hfz12_0⟩ := bc1 BK101.out; have p102 : 0 ≤ (x4_1 : Int) := of_decide_eq_true qa; have q102 : x4_1 < (l0_0.length : Int) := of_decide_eq_true qa; obtain ⟨ad102, A102_0, c102_0, e102, hx102_0, hl102_0, hi102_0⟩ := at_L14 HR0_0.out x4_1 p102 q102; cases e102; replace hx102_0 := (HB.out.cell (World.block_lt_of_cell? w _ hx102_0)).trans hx102_0; have HR102_0 := Aside0.mk hi102_0; have HC102_0 := Aside0.mk hl102_0; clear hi102_0 hl102_0; (try simp only [Go.IntWalk.toNatUp] at hx102_0); replace p102 := eq_true p102; replace q102 := eq_true q102; have p103 : 0 ≤ (x4_1 : Int) := of_decide_eq_true qa; have q103 : x4_1 < (l0_0.length : Int) := of_decide_eq_true qa; obtain ⟨ad103, A103_0, c103_0, e103, hx103_0, hl103_0, hi103_0⟩ := at_L14 HR0_0.out x4_1 p103 q103; obtain rfl : ad102 = ad103 := (by injection e103); replace hx103_0 := (HB.out.cell (World.block_lt_of_cell? w _ hx103_0)).trans hx103_0; have HR103_0 := Aside0.mk hi103_0; have HC103_0 := Aside0.mk hl103_0; clear hi103_0 hl103_0; (try simp only [Go.IntWalk.toNatUp] at hx103_0); replace p103 := eq_true p103; replace q103 := eq_true q103; have ea_ := Option.some.inj (hx102_0.symm.trans hx103_0); injection ea_ with ea_ en_ ec_
         subst ea_; subst ec_; clear en_
         go_wp2
         go_roundg kj2
         case measure => have := HK1.out; have := HJ2.out; omega
         case rel => exact ⟨(wrap64 (x3_1 + ((rd_L14 l0_0 x4_1).length : Int))), (wrap64 (x4_1 + 1)), qr, qr, H', ⟨by have := HK1.out; have := HJ2.out; omega⟩, ⟨qk BK101.out⟩, ⟨qb⟩⟩
       ·rw [if_neg c9] at H
        exact absurd H (by simp)
      ·rw [if_neg c8] at H
       exact absurd H (by simp)
     ·replace c7 := Bool.eq_false_iff.mpr c7; subst c7; have H1 : (if (l0_0.length : Int) > 60 then (some true) else (some (decide (x3_1 > 450)))) = some r := by rw [if_neg (show ¬ (false = true) by decide)] at H; exact H
      clear H; have H := H1; clear H1
      by_cases c13 : (l0_0.length : Int) > 60
      ·rw [if_pos c13] at H; have c13b0 := decide_eq_true c13; have c13b1 : decide (60 < l0_0.length) = true := decide_eq_true (by omega); clear c13; obtain rfl := Option.some.inj H; obtain ⟨hcz14_0, hfz14_0⟩ := bc1 BK101.out
       go_wp2
       go_ret
       exact ⟨qe, qb⟩
      ·rw [if_neg c13] at H; have c13b0 := decide_eq_false c13; have c13b1 : decide (60 < l0_0.length) = false := decide_eq_false (by omega); clear c13; obtain rfl := Option.some.inj H; obtain ⟨hcz15_0, hfz15_0⟩ := bc1 BK101.out
       go_wp2
       go_ret
       exact ⟨qe, qb⟩
mutual
def entrepotlaw16_small.l0 : Nat → Int → List (List Int) → Option (Bool)
 | 0, _, _ => none
 | k + 1, x3, x102000 => if x3 < (x102000.length : Int) then (entrepotlaw16_small.l1 k x3 0 x102000) else (some true)
def entrepotlaw16_small.l1 : Nat → Int → Int → List (List Int) → Option (Bool)
 | 0, _, _, _ => none
 | k + 1, x3, x4, x102000 => if 0 ≤ x3 then (if x3 < (x102000.length : Int) then (if x4 < ((rd_L14 x102000 x3).length : Int) then (if 0 ≤ x4 then (if (rd (rd_L14 x102000 x3) x4) < (-100000000) then (some false) else (if (rd (rd_L14 x102000 x3) x4) > 100000000 then (some false) else (entrepotlaw16_small.l1 k x3 (wrap64 (x4 + 1)) x102000))) else (none)) else (entrepotlaw16_small.l0 k (wrap64 (x3 + 1)) x102000)) else (none)) else (none)
end
def entrepotlaw16_small.f (k : Nat) (l0_0 : List (List Int)) : Option (Bool) := entrepotlaw16_small.l0 k 0 l0_0
theorem entrepotlaw16_small.mono_l : ∀ k, (∀ y0 y1, LeO (entrepotlaw16_small.l0 k y0 y1) (entrepotlaw16_small.l0 (k + 1) y0 y1)) ∧ (∀ y0 y1 y2, LeO (entrepotlaw16_small.l1 k y0 y1 y2) (entrepotlaw16_small.l1 (k + 1) y0 y1 y2))
 | 0 => ⟨fun _ _ r h => by simp [entrepotlaw16_small.l0] at h, fun _ _ _ r h => by simp [entrepotlaw16_small.l1] at h⟩
 | k + 1 => by
  obtain ⟨ih0, ih1⟩ := entrepotlaw16_small.mono_l k; refine ⟨?_, ?_⟩
  ·intro y0 y1
   unfold entrepotlaw16_small.l0
   repeat' first
   | (with_reducible exact ih0 _ _)
   | (with_reducible exact ih1 _ _ _)
   | (with_reducible exact LeO.refl _)
   | (with_reducible exact LeO.none _)
   | (with_reducible refine LeO.ite ?_ ?_)
   | (with_reducible refine LeO.bind ?_ (fun _ => ?_))
   | exact ih0 _ _
   | exact ih1 _ _ _
   | exact LeO.none _
   | refine LeO.ite ?_ ?_
   | refine LeO.bind ?_ (fun _ => ?_)
  ·intro y0 y1 y2
   unfold entrepotlaw16_small.l1
   repeat' first
   | (with_reducible exact ih0 _ _)
   | (with_reducible exact ih1 _ _ _)
   | (with_reducible exact LeO.refl _)
   | (with_reducible exact LeO.none _)
   | (with_reducible refine LeO.ite ?_ ?_)
   | (with_reducible refine LeO.bind ?_ (fun _ => ?_))
   | exact ih0 _ _
   | exact ih1 _ _ _
   | exact LeO.none _
   | refine LeO.ite ?_ ?_
   | refine LeO.bind ?_ (fun _ => ?_)
theorem entrepotlaw16_small.mono : ∀ a0 k, LeO (entrepotlaw16_small.f k a0) (entrepotlaw16_small.f (k + 1) a0) := by
 intro a0 k
 obtain ⟨ih0, ih1⟩ := entrepotlaw16_small.mono_l k; unfold entrepotlaw16_small.f
 repeat' first
   | (with_reducible exact ih0 _ _)
   | (with_reducible exact ih1 _ _ _)
   | (with_reducible exact LeO.refl _)
   | (with_reducible exact LeO.none _)
   | (with_reducible refine LeO.ite ?_ ?_)
   | (with_reducible refine LeO.bind ?_ (fun _ => ?_))
   | exact ih0 _ _
   | exact ih1 _ _ _
   | exact LeO.none _
   | refine LeO.ite ?_ ?_
   | refine LeO.bind ?_ (fun _ => ?_)
set_option maxHeartbeats 8000000 in
set_option maxRecDepth 100000 in
theorem entrepotlaw16_small.calls (k : Nat) (A0_0 : Option Addr) (c0_0 : Nat) (l0_0 : List (List Int)) (r : Bool) (w : World) (hr0_0 : Kd.C (Kd.slice 3 (Kd.int .i64)) w A0_0 l0_0.length l0_0) (hc0_0 : l0_0.length ≤ c0_0) (h : entrepotlaw16_small.f k l0_0 = some r) :
  Calls Tryz.prog 43 #[.agg #[.slice A0_0 l0_0.length c0_0]] w fun e w' => e = .returned (.bool r) ∧ Below w.heap.size w w' := by
 have hu70 := Tryz.underlying70; have HR0_0 := Aside0.mk hr0_0; have HC0_0 := Aside0.mk hc0_0; clear hr0_0 hc0_0; have HB := Aside0.mk (Below.refl w.heap.size w); have H : (entrepotlaw16_small.l0 k 0 l0_0) = some r := h; clear h; have H' := Aside0.mk H; clear H; go_enter Tryz.func43, Tryz.ntmps43
 go_wp2_with (first | ((with_reducible refine gate_dst (N := 1) rfl ?_); refine box_ev (N := 1) (cs := #[.slice A0_0 l0_0.length c0_0]) (t := 70) ?_; intro gb101 hg w2 hbox hb; have BK101 := Aside0.mk (hbox); have GW101 := Aside0.mk ((qg : w.heap.size ≤ gb101)); have GE101 := Aside0.mk ((qg : w.heap.size ≤ gb101)); replace HB := cB HB hb; clear hb hbox hg))
 (try simp only [Act.put, List.setIfInBounds_toArray, List.set_cons_zero, List.set_cons_succ])
 go_loopg [3] k (fun kq v3 w' => ∃ (x3_1 : Int), v3 = .int .i64 x3_1 ∧ Aside0 (entrepotlaw16_small.l0 kq x3_1 l0_0 = some r) ∧ Aside0 (kq ≤ k) ∧ Aside0 (w'.heap[gb101]? = some (.cells #[(.slice A0_0 l0_0.length c0_0)] 70 (0, 0))) ∧ Aside0 (Below w.heap.size w w'))
 case atStart => exact ⟨(0), qr, H', ⟨Nat.le_refl _⟩, ⟨qk BK101.out⟩, ⟨qb⟩⟩
 case round =>
  clear H'; (try clear p2); obtain ⟨x3_1, rfl, HA, HK1, BK101, HB⟩ := hrel; cases gk with
  | zero => exact absurd HA.out (by simp [entrepotlaw16_small.l0])
  | succ k1 =>
   have H := HA.out; clear HA; simp only [entrepotlaw16_small.l0] at H
   by_cases c3 : x3_1 < (l0_0.length : Int)
   ·rw [if_pos c3] at H; have c3b0 := decide_eq_true c3; clear c3; have H' := Aside0.mk H; clear H; obtain ⟨hcz4_0, hfz4_0⟩ := bc1 BK101.out
    go_wp2
    (try simp only [Act.put, List.setIfInBounds_toArray, List.set_cons_zero, List.set_cons_succ])
    go_loopg [4] k1 (fun kq v4 w' => ∃ (x4_2 : Int), v4 = .int .i64 x4_2 ∧ Aside0 (entrepotlaw16_small.l1 kq x3_1 x4_2 l0_0 = some r) ∧ Aside0 (kq ≤ k1) ∧ Aside0 (w'.heap[gb101]? = some (.cells #[(.slice A0_0 l0_0.length c0_0)] 70 (0, 0))) ∧ Aside0 (Below w.heap.size w w'))
    case atStart => exact ⟨(0), qr, H', ⟨Nat.le_refl _⟩, ⟨qk BK101.out⟩, ⟨qb⟩⟩
    case round =>
     clear H'; (try clear p2); (try clear c3); (try clear c3b0); (try clear c4); (try clear hcz4_0); (try clear hfz4_0); (try clear p2); obtain ⟨x4_2, rfl, HA, HK2, BK101, HB⟩ := hrel; cases gk with
     | zero => exact absurd HA.out (by simp [entrepotlaw16_small.l1])
     | succ k2 =>
      have H := HA.out; clear HA; simp only [entrepotlaw16_small.l1] at H
      by_cases c5 : 0 ≤ x3_1
      ·rw [if_pos c5] at H; have c5b0 := decide_eq_true c5; clear c5
       by_cases c6 : x3_1 < (l0_0.length : Int)
       ·rw [if_pos c6] at H; have c6b0 := decide_eq_true c6; clear c6
        by_cases c7 : x4_2 < ((rd_L14 l0_0 x3_1).length : Int)
        ·rw [if_pos c7] at H; have c7b0 := decide_eq_true c7; clear c7
         by_cases c8 : 0 ≤ x4_2
         ·rw [if_pos c8] at H; have c8b0 := decide_eq_true c8; clear c8
          by_cases c9 : (rd (rd_L14 l0_0 x3_1) x4_2) < (-100000000)
          ·rw [if_pos c9] at H; have c9b0 := decide_eq_true c9; clear c9; obtain rfl := Option.some.inj H; obtain ⟨hcz10_0, hfz10_0⟩ := bc1 BK101.out; have p102 : 0 ≤ (x3_1 : Int) := of_decide_eq_true qa; have q102 : x3_1 < (l0_0.length : Int) := of_decide_eq_true qa; obtain ⟨ad102, A102_0, c102_0, e102, hx102_0, hl102_0, hi102_0⟩ := at_L14 HR0_0.out x3_1 p102 q102; cases e102; replace hx102_0 := (HB.out.cell (World.block_lt_of_cell? w _ hx102_0)).trans hx102_0; have HR102_0 := Aside0.mk hi102_0; have HC102_0 := Aside0.mk hl102_0; clear hi102_0 hl102_0; (try simp only [Go.IntWalk.toNatUp] at hx102_0); replace p102 := eq_true p102; replace q102 := eq_true q102; have p103 : 0 ≤ (x3_1 : Int) := of_decide_eq_true qa; have q103 : x3_1 < (l0_0.length : Int) := of_decide_eq_true qa; obtain ⟨ad103, A103_0, c103_0, e103, hx103_0, hl103_0, hi103_0⟩ := at_L14 HR0_0.out x3_1 p103 q103; obtain rfl : ad102 = ad103 := (by injection e103); replace hx103_0 := (HB.out.cell (World.block_lt_of_cell? w _ hx103_0)).trans hx103_0; have HR103_0 := Aside0.mk hi103_0; have HC103_0 := Aside0.mk hl103_0; clear hi103_0 hl103_0; (try simp only [Go.IntWalk.toNatUp] at hx103_0); replace p103 := eq_true p103; replace q103 := eq_true q103; have ea_ := Option.some.inj (hx102_0.symm.trans hx103_0); injection ea_ with ea_ en_ ec_
           subst ea_; subst ec_; clear en_; have p104 : 0 ≤ (x4_2 : Int) := of_decide_eq_true qa; have q104 : x4_2 < ((rd_L14 l0_0 x3_1).length : Int) := of_decide_eq_true qa; obtain ⟨ad104, e104, hx104_0⟩ := Kd.at_int HR103_0.out x4_2 p104 q104; cases e104; replace hx104_0 := (HB.out.cell (World.block_lt_of_cell? w _ hx104_0)).trans hx104_0; (try simp only [Go.IntWalk.toNatUp] at hx104_0); replace p104 := eq_true p104; replace q104 := eq_true q104
           go_wp2
           go_ret
           exact ⟨qe, qb⟩
          ·rw [if_neg c9] at H; have c9b0 := decide_eq_false c9; clear c9
           by_cases c11 : (rd (rd_L14 l0_0 x3_1) x4_2) > 100000000
           ·rw [if_pos c11] at H; have c11b0 := decide_eq_true c11; clear c11; obtain rfl := Option.some.inj H; obtain ⟨hcz12_0, hfz12_0⟩ := bc1 BK101.out; have p102 : 0 ≤ (x3_1 : Int) := of_decide_eq_true qa; have q102 : x3_1 < (l0_0.length : Int) := of_decide_eq_true qa; obtain ⟨ad102, A102_0, c102_0, e102, hx102_0, hl102_0, hi102_0⟩ := at_L14 HR0_0.out x3_1 p102 q102; cases e102; replace hx102_0 := (HB.out.cell (World.block_lt_of_cell? w _ hx102_0)).trans hx102_0; have HR102_0 := Aside0.mk hi102_0; have HC102_0 := Aside0.mk hl102_0; clear hi102_0 hl102_0; (try simp only [Go.IntWalk.toNatUp] at hx102_0); replace p102 := eq_true p102; replace q102 := eq_true q102; have p103 : 0 ≤ (x3_1 : Int) := of_decide_eq_true qa; have q103 : x3_1 < (l0_0.length : Int) := of_decide_eq_true qa; obtain ⟨ad103, A103_0, c103_0, e103, hx103_0, hl103_0, hi103_0⟩ := at_L14 HR0_0.out x3_1 p103 q103; obtain rfl : ad102 = ad103 := (by injection e103); replace hx103_0 := (HB.out.cell (World.block_lt_of_cell? w _ hx103_0)).trans hx103_0; have HR103_0 := Aside0.mk hi103_0; have HC103_0 := Aside0.mk hl103_0; clear hi103_0 hl103_0; (try simp only [Go.IntWalk.toNatUp] at hx103_0); replace p103 := eq_true p103; replace q103 := eq_true q103; have ea_ := Option.some.inj (hx102_0.symm.trans hx103_0); injection ea_ with ea_ en_ ec_
            subst ea_; subst ec_; clear en_; have p104 : 0 ≤ (x4_2 : Int) := of_decide_eq_true qa; have q104 : x4_2 < ((rd_L14 l0_0 x3_1).length : Int) := of_decide_eq_true qa; obtain ⟨ad104, e104, hx104_0⟩ := Kd.at_int HR103_0.out x4_2 p104 q104; cases e104; replace hx104_0 := (HB.out.cell (World.block_lt_of_cell? w _ hx104_0)).trans hx104_0; (try simp only [Go.IntWalk.toNatUp] at hx104_0); replace p104 := eq_true p104; replace q104 := eq_true q104; have p105 : 0 ≤ (x3_1 : Int) := of_decide_eq_true qa; have q105 : x3_1 < (l0_0.length : Int) := of_decide_eq_true qa; obtain ⟨ad105, A105_0, c105_0, e105, hx105_0, hl105_0, hi105_0⟩ := at_L14 HR0_0.out x3_1 p105 q105; obtain rfl : ad102 = ad105 := (by injection e105); replace hx105_0 := (HB.out.cell (World.block_lt_of_cell? w _ hx105_0)).trans hx105_0; have HR105_0 := Aside0.mk hi105_0; have HC105_0 := Aside0.mk hl105_0; clear hi105_0 hl105_0; (try simp only [Go.IntWalk.toNatUp] at hx105_0); replace p105 := eq_true p105; replace q105 := eq_true q105; have ea_ := Option.some.inj (hx102_0.symm.trans hx105_0); injection ea_ with ea_ en_ ec_
            subst ea_; subst ec_; clear en_; have p106 : 0 ≤ (x4_2 : Int) := of_decide_eq_true qa; have q106 : x4_2 < ((rd_L14 l0_0 x3_1).length : Int) := of_decide_eq_true qa; obtain ⟨ad106, e106, hx106_0⟩ := Kd.at_int HR105_0.out x4_2 p106 q106; cases e106; replace hx106_0 := (HB.out.cell (World.block_lt_of_cell? w _ hx106_0)).trans hx106_0; (try simp only [Go.IntWalk.toNatUp] at hx106_0); replace p106 := eq_true p106; replace q106 := eq_true q106
            go_wp2
            go_ret
            exact ⟨qe, qb⟩
           ·rw [if_neg c11] at H; have c11b0 := decide_eq_false c11; clear c11; have H' := Aside0.mk H; clear H; obtain ⟨hcz13_0, hfz13_0⟩ := bc1 BK101.out; have p102 : 0 ≤ (x3_1 : Int) := of_decide_eq_true qa; have q102 : x3_1 < (l0_0.length : Int) := of_decide_eq_true qa; obtain ⟨ad102, A102_0, c102_0, e102, hx102_0, hl102_0, hi102_0⟩ := at_L14 HR0_0.out x3_1 p102 q102; cases e102; replace hx102_0 := (HB.out.cell (World.block_lt_of_cell? w _ hx102_0)).trans hx102_0; have HR102_0 := Aside0.mk hi102_0; have HC102_0 := Aside0.mk hl102_0; clear hi102_0 hl102_0; (try simp only [Go.IntWalk.toNatUp] at hx102_0); replace p102 := eq_true p102; replace q102 := eq_true q102; have p103 : 0 ≤ (x3_1 : Int) := of_decide_eq_true qa; have q103 : x3_1 < (l0_0.length : Int) := of_decide_eq_true qa; obtain ⟨ad103, A103_0, c103_0, e103, hx103_0, hl103_0, hi103_0⟩ := at_L14 HR0_0.out x3_1 p103 q103; obtain rfl : ad102 = ad103 := (by injection e103); replace hx103_0 := (HB.out.cell (World.block_lt_of_cell? w _ hx103_0)).trans hx103_0; have HR103_0 := Aside0.mk hi103_0; have HC103_0 := Aside0.mk hl103_0; clear hi103_0 hl103_0; (try simp only [Go.IntWalk.toNatUp] at hx103_0); replace p103 := eq_true p103; replace q103 := eq_true q103; have ea_ := Option.some.inj (hx102_0.symm.trans hx103_0); injection ea_ with ea_ en_ ec_
            subst ea_; subst ec_; clear en_; have p104 : 0 ≤ (x4_2 : Int) := of_decide_eq_true qa; have q104 : x4_2 < ((rd_L14 l0_0 x3_1).length : Int) := of_decide_eq_true qa; obtain ⟨ad104, e104, hx104_0⟩ := Kd.at_int HR103_0.out x4_2 p104 q104; cases e104; replace hx104_0 := (HB.out.cell (World.block_lt_of_cell? w _ hx104_0)).trans hx104_0; (try simp only [Go.IntWalk.toNatUp] at hx104_0); replace p104 := eq_true p104; replace q104 := eq_true q104; have p105 : 0 ≤ (x3_1 : Int) := of_decide_eq_true qa; have q105 : x3_1 < (l0_0.length : Int) := of_decide_eq_true qa; obtain ⟨ad105, A105_0, c105_0, e105, hx105_0, hl105_0, hi105_0⟩ := at_L14 HR0_0.out x3_1 p105 q105; obtain rfl : ad102 = ad105 := (by injection e105); replace hx105_0 := (HB.out.cell (World.block_lt_of_cell? w _ hx105_0)).trans hx105_0; have HR105_0 := Aside0.mk hi105_0; have HC105_0 := Aside0.mk hl105_0; clear hi105_0 hl105_0; (try simp only [Go.IntWalk.toNatUp] at hx105_0); replace p105 := eq_true p105; replace q105 := eq_true q105; have ea_ := Option.some.inj (hx102_0.symm.trans hx105_0); injection ea_ with ea_ en_ ec_
            subst ea_; subst ec_; clear en_; have p106 : 0 ≤ (x4_2 : Int) := of_decide_eq_true qa; have q106 : x4_2 < ((rd_L14 l0_0 x3_1).length : Int) := of_decide_eq_true qa; obtain ⟨ad106, e106, hx106_0⟩ := Kd.at_int HR105_0.out x4_2 p106 q106; cases e106; replace hx106_0 := (HB.out.cell (World.block_lt_of_cell? w _ hx106_0)).trans hx106_0; (try simp only [Go.IntWalk.toNatUp] at hx106_0); replace p106 := eq_true p106; replace q106 := eq_true q106
            go_wp2
            go_roundg k2
            case measure => have := HK1.out; have := HK2.out; omega
            case rel => exact ⟨(wrap64 (x4_2 + 1)), qr, H', ⟨by have := HK1.out; have := HK2.out; omega⟩, ⟨qk BK101.out⟩, ⟨qb⟩⟩
         ·rw [if_neg c8] at H
          exact absurd H (by simp)
        ·rw [if_neg c7] at H; have c7b0 := decide_eq_false c7; clear c7; have H' := Aside0.mk H; clear H; obtain ⟨hcz14_0, hfz14_0⟩ := bc1 BK101.out; have p102 : 0 ≤ (x3_1 : Int) := of_decide_eq_true qa; have q102 : x3_1 < (l0_0.length : Int) := of_decide_eq_true qa; obtain ⟨ad102, A102_0, c102_0, e102, hx102_0, hl102_0, hi102_0⟩ := at_L14 HR0_0.out x3_1 p102 q102; cases e102; replace hx102_0 := (HB.out.cell (World.block_lt_of_cell? w _ hx102_0)).trans hx102_0; have HR102_0 := Aside0.mk hi102_0; have HC102_0 := Aside0.mk hl102_0; clear hi102_0 hl102_0; (try simp only [Go.IntWalk.toNatUp] at hx102_0); replace p102 := eq_true p102; replace q102 := eq_true q102
         go_wp2
         go_roundg k2
         case measure => have := HK1.out; have := HK2.out; omega
         case rel => exact ⟨(wrap64 (x3_1 + 1)), qr, H', ⟨by have := HK1.out; have := HK2.out; omega⟩, ⟨qk BK101.out⟩, ⟨qb⟩⟩
       ·rw [if_neg c6] at H
        exact absurd H (by simp)
      ·rw [if_neg c5] at H
       exact absurd H (by simp)
   ·rw [if_neg c3] at H; have c3b0 := decide_eq_false c3; clear c3; obtain rfl := Option.some.inj H; obtain ⟨hcz15_0, hfz15_0⟩ := bc1 BK101.out
    go_wp2
    go_ret
    exact ⟨qe, qb⟩
end Go.Proofs.YtadocbfchdendaaGreatDoor.P
namespace Go.Proofs.YtadocbfchdendaaGreatDoor.Cu
open Go.RowKit Go.Lib Go.Proofs.YtadocbfchdendaaGreatDoorW.PrintWords Go.Proofs.YtadocbfchdendaaGreatDoor.P
set_option linter.unusedSimpArgs false
set_option linter.unusedVariables false
def stopsT (r : List Int) : List UInt8 := r.flatMap fun n => 32 :: Lib.itoa n
def headT (hash : Bool) (i : Nat) : List UInt8 := if hash = true then [82, 111, 117, 116, 101, 32, 35] ++ (Lib.itoa ((i : Int) + 1) ++ [58]) else [82, 111, 117, 116, 101, 32] ++ (Lib.itoa ((i : Int) + 1) ++ [32, 58])
def routesT (hash : Bool) : List (List Int) → Nat → List UInt8
  | [], _ => []
  | r :: rs, i => headT hash i ++ (stopsT r ++ (10 :: routesT hash rs (i + 1)))
def costT (cost : Int) : List UInt8 := if cost ≥ 0 then [67, 111, 115, 116, 32] ++ (Lib.itoa cost ++ [10]) else []
def prS (l : List (List Int)) (cost : Int) (hash : Bool) : List UInt8 := routesT hash l 0 ++ costT cost
theorem drop_at {α : Type} (L : List α) (i : Nat) (x : α) (hx : L[i]? = some x) : L.drop i = x :: L.drop (i + 1) := by
  have hi := (List.getElem?_eq_some_iff.1 hx).1
  rw [List.drop_eq_getElem_cons hi]
  congr 1
  exact Option.some.inj ((List.getElem?_eq_getElem hi).symm.trans hx)
structure PrSt (w wr : World) (b : Nat) (t rest full : List UInt8) : Prop where
  bel : Below w.heap.size w wr
  bld : Bld wr b b t
  eq : t ++ rest = full
  ge : w.heap.size ≤ b
  lt : b ≤ wr.heap.size
theorem PrSt.step {w wr w' : World} {b : Nat} {t rest full : List UInt8} (h : PrSt w wr b t rest full) (hb : Below wr.heap.size wr w') : PrSt w w' b t rest full :=
  ⟨below_step h.bel hb, h.bld.below hb, h.eq, h.ge, Nat.le_trans h.lt hb.size⟩
theorem PrSt.wrote {w wr w' : World} {b : Nat} {t s rest full : List UInt8} (h : PrSt w wr b t (s ++ rest) full) (hB : Bld w' b b (t ++ s)) (hb : Below b wr w') : PrSt w w' b (t ++ s) rest full :=
  ⟨h.bel.trans (hb.mono h.ge), hB, by rw [← h.eq, List.append_assoc], h.ge, Nat.le_trans h.lt hb.size⟩
theorem PrSt.put {w wr : World} {b : Nat} {t x rest full : List UInt8} (h : PrSt w wr b t (x ++ rest) full) (hz : full.length ≤ 140737488355328) (s : ByteArray) (hs : s.data.toList = x) :
    Calls Tryz.prog 82 #[.pointer (some ⟨b, 0, none⟩), .string s] wr fun e w' => e = .returned (.tuple #[.int .i64 s.size, .nilIface]) ∧ Hid (PrSt w w' b (t ++ x) rest full) := by
  subst hs
  have hl : s.data.toList.length = s.size := rfl
  have he := congrArg List.length h.eq
  simp only [List.length_append] at he
  exact (h.bld.write s (by omega) h.lt).mono fun e w' ⟨h1, h2, h3⟩ => ⟨h1, h.wrote h2 h3⟩
theorem stopsT_nil : stopsT [] = [] := rfl
theorem routesT_nil (hash : Bool) (i : Nat) : routesT hash [] i = [] := rfl
theorem stopsT_at (r : List Int) (k : Nat) (n : Int) (h : r[k]? = some n) (R : List UInt8) : stopsT (r.drop k) ++ R = (32 :: Lib.itoa n) ++ (stopsT (r.drop (k + 1)) ++ R) := by
  rw [drop_at r k n h]
  simp [stopsT]
set_option maxRecDepth 100000 in
set_option maxHeartbeats 4000000 in
theorem PrintRoutes_calls (A : Option Addr) (c : Nat) (l : List (List Int)) (cost : Int) (hash : Bool) (w : World) (hT : Tabs w) (hC : Kd.C (Kd.slice 3 (Kd.int .i64)) w A l.length l) (hc : l.length ≤ c)
    (hr : ∀ r ∈ l, ∀ n ∈ r, -9223372036854775808 ≤ n ∧ n ≤ 9223372036854775807) (hcost : -9223372036854775808 ≤ cost ∧ cost ≤ 9223372036854775807) (hlen : l.length < 1000000000) (hsz : (prS l cost hash).length ≤ 140737488355328) :
    Calls Tryz.prog 44 #[.agg #[.slice A l.length c], .int .i64 cost, .bool hash] w fun e w' => e = .returned (.string ⟨(prS l cost hash).toArray⟩) ∧ Below w.heap.size w w' := by
  have HT := Lib.hid hT
  have HC := Lib.hid hC
  have HR := Lib.hid hr
  have HZ := Lib.hid hsz
  obtain ⟨full, hf⟩ : ∃ full, prS l cost hash = full := ⟨_, rfl⟩
  have HF := Lib.hid hf
  rw [hf] at HZ ⊢
  clear hT hC hr hsz hf
  go_enter Tryz.func44, Tryz.ntmps44
  go_wp2_with fail
  go_loopg [16] (l.length + 1) (fun n v16 wr => ∃ (i : Nat) (t : List UInt8), v16 = .int .i64 (i : Int) ∧ i ≤ l.length ∧ l.length + 1 - i ≤ n ∧ Hid (PrSt w wr (w.heap.size + 1) t (routesT hash (l.drop i) i ++ costT cost) full))
  case atStart =>
    refine ⟨0, [], rfl, by omega, by omega, ?_⟩
    have hb := Bld.new (w.alloc (.cells #[.slice A l.length c] 70))
    exact ⟨((Below.refl _ w).alloc (Nat.le_refl _) _).alloc (by simp) _, by simpa using hb, by rw [← HF.out, List.nil_append, List.drop_zero, prS], by omega, by simp⟩
  case round =>
    obtain ⟨i, t, rfl, hi, hn, HS⟩ := hrel
    by_cases hlt : i < l.length
    · obtain ⟨r, hr⟩ : ∃ r, l[i]? = some r := ⟨_, List.getElem?_eq_getElem hlt⟩
      obtain ⟨ad, A1, c1, rfl, hx, hl1, hC1⟩ := row_at HC.out i r hr
      have hx' := pw_cell_below HS.out.bel hx
      have HC1 := Lib.hid hC1
      have hrr := HR.out r (List.mem_of_getElem? hr)
      have HRR := Lib.hid hrr
      have HR0 := Lib.hid hr
      have e1 : wrap64 ((i : Int) + 1) = (i : Int) + 1 := by unfold wrap64; omega
      have hIt : strconv_Itoa.f ((i : Int) + 1) = some ⟨(Lib.itoa ((i : Int) + 1)).toArray⟩ := by unfold strconv_Itoa.f; rw [if_pos (by omega)]
      have hln := Lib.itoa_length_le ((i : Int) + 1) (by omega) (by omega)
      obtain ⟨R1, hR1⟩ : ∃ R1, routesT hash (l.drop (i + 1)) (i + 1) ++ costT cost = R1 := ⟨_, rfl⟩
      have H0 : Hid (PrSt w wr (w.heap.size + 1) t (headT hash i ++ (stopsT (r.drop 0) ++ ([10] ++ R1))) full) := by
        have := HS.out
        rw [drop_at l i r hr] at this
        refine ⟨this.bel, this.bld, ?_, this.ge, this.lt⟩
        rw [← this.eq, ← hR1]
        simp [routesT]
      have HR1 := Lib.hid hR1
      clear hx hC1 hrr hr HS hR1
      cases hash
      all_goals
        go_wp2_with (first
          | (go_at_call 80; refine (strconv_Itoa.calls _ _ _ (Tabs.kept HT.out H0.out.bel) hIt).mono ?_; rintro e W1 ⟨rfl, hb1⟩; have H1 := Lib.hid (H0.out.step hb1); clear H0 hb1 hIt hx')
          | (go_at_call 82; refine (H1.out.put HZ.out _ ?hs).mono ?_; (case hs => simp [headT]); rintro e W2 ⟨rfl, H2⟩; clear H1))
        go_loopg [35] (r.length + 1) (fun n v35 wr => ∃ (k : Nat) (t : List UInt8), v35 = .int .i64 (k : Int) ∧ k ≤ r.length ∧ r.length + 1 - k ≤ n ∧ Hid (PrSt w wr (w.heap.size + 1) t (stopsT (r.drop k) ++ ([10] ++ R1)) full))
        case atStart => exact ⟨0, _, rfl, by omega, by omega, H2⟩
        case round =>
          obtain ⟨k, t, rfl, hk, hn2, H3⟩ := hrel
          by_cases hlt2 : k < r.length
          · obtain ⟨n, hr⟩ : ∃ n, r[k]? = some n := ⟨_, List.getElem?_eq_getElem hlt2⟩
            obtain ⟨ad1, rfl, hx⟩ := int_at HC1.out k n hr
            have hx' := pw_cell_below H3.out.bel hx
            have hnn := HRR.out n (List.mem_of_getElem? hr)
            have hIt : strconv_Itoa.f n = some ⟨(Lib.itoa n).toArray⟩ := by unfold strconv_Itoa.f; rw [if_pos hnn]
            have hln2 := Lib.itoa_length_le n hnn.1 hnn.2
            have e2 := wrap_up hlt2 (C_len HC1.out)
            have H4 := H3
            rw [stopsT_at r k n hr] at H4
            clear hx hr
            go_wp2_with (first
              | (go_at_call 80; refine (strconv_Itoa.calls _ _ _ (Tabs.kept HT.out H4.out.bel) hIt).mono ?_; rintro e W1 ⟨rfl, hb1⟩; have H1 := Lib.hid (H4.out.step hb1); clear H4 H3 hb1 hIt hx')
              | (go_at_call 82; refine (H1.out.put HZ.out _ ?hs).mono ?_; (case hs => simp); rintro e W2 ⟨rfl, H2⟩; clear H1))
            go_roundg (r.length - k)
            case measure => exact meas_up hn2 hlt2
            case rel => exact ⟨k + 1, _, by rw [e2]; rfl, hlt2, left_up, H2⟩
          · have hk' : k = r.length := by omega
            have H4 := H3
            rw [hk', List.drop_of_length_le (Nat.le_refl _), stopsT_nil, List.nil_append] at H4
            have H5 := H4
            clear hk' H4 H3
            go_wp2_with (go_at_call 82; refine (H5.out.put HZ.out _ ?hs).mono ?_; (case hs => simp); rintro e W2 ⟨rfl, H6⟩; clear H5)
            go_roundg (l.length - i)
            case measure => omega
            case rel => exact ⟨i + 1, _, by go_num, by omega, by omega, by rw [HR1.out]; exact H6⟩
    · have hi' : i = l.length := by omega
      have H4 := HS
      rw [hi', List.drop_of_length_le (Nat.le_refl _), routesT_nil, List.nil_append] at H4
      have H5 := H4
      clear hi' H4 HS
      by_cases hc0 : cost ≥ 0
      · have hIt : strconv_Itoa.f cost = some ⟨(Lib.itoa cost).toArray⟩ := by unfold strconv_Itoa.f; rw [if_pos hcost]
        have hln := Lib.itoa_length_le cost hcost.1 hcost.2
        have H6 : Hid (PrSt w wr (w.heap.size + 1) t (([67, 111, 115, 116, 32] ++ (Lib.itoa cost ++ [10])) ++ []) full) := by
          have := H5.out
          unfold costT at this
          rw [if_pos hc0] at this
          rw [List.append_nil]
          exact this
        have hc1 : (0 : Int) ≤ cost := hc0
        clear H5
        go_wp2_with (first
          | (go_at_call 80; refine (strconv_Itoa.calls _ _ _ (Tabs.kept HT.out H6.out.bel) hIt).mono ?_; rintro e W1 ⟨rfl, hb1⟩; have H7 := Lib.hid (H6.out.step hb1); clear H6 hb1 hIt)
          | (go_at_call 82; refine (H7.out.put HZ.out _ ?hs).mono ?_; (case hs => simp); rintro e W2 ⟨rfl, H8⟩; clear H7)
          | (go_at_call 83; refine (H8.out.bld.text H8.out.lt).mono ?_; rintro e W3 ⟨rfl, hb3⟩))
        go_ret
        refine ⟨?_, H8.out.bel.trans (hb3.mono H8.out.ge)⟩
        have := H8.out.eq
        rw [List.append_nil] at this
        rw [← this]
        rfl
      · have H6 : Hid (PrSt w wr (w.heap.size + 1) t [] full) := by
          have := H5.out
          unfold costT at this
          rw [if_neg hc0] at this
          exact this
        have hc1 : ¬ (0 : Int) ≤ cost := hc0
        clear H5
        go_wp2_with (go_at_call 83; refine (H6.out.bld.text H6.out.lt).mono ?_; rintro e W3 ⟨rfl, hb3⟩)
        go_ret
        refine ⟨?_, H6.out.bel.trans (hb3.mono H6.out.ge)⟩
        have := H6.out.eq
        rw [List.append_nil] at this
        rw [← this]
        rfl
end Go.Proofs.YtadocbfchdendaaGreatDoor.Cu
namespace Go.Proofs.YtadocbfchdendaaGreatDoor.P
open Go.RowKit Go.Lib Go.Proofs.YtadocbfchdendaaGreatDoorW.PrintWords
set_option linter.unusedSimpArgs false
set_option linter.unusedVariables false
def tour_PrintRoutes.ok (l : List (List Int)) (cost : Int) (hash : Bool) : Bool :=
  l.all (fun r => r.all fun n => decide (-9223372036854775808 ≤ n) && decide (n ≤ 9223372036854775807)) && (decide (-9223372036854775808 ≤ cost) && (decide (cost ≤ 9223372036854775807) && (decide (l.length < 1000000000) && decide ((Cu.prS l cost hash).length ≤ 140737488355328))))
def tour_PrintRoutes.f (l : List (List Int)) (cost : Int) (hash : Bool) : Option ByteArray := if tour_PrintRoutes.ok l cost hash = true then some ⟨(Cu.prS l cost hash).toArray⟩ else none
theorem tour_PrintRoutes.calls (A0_0 : Option Addr) (c0_0 : Nat) (l0_0 : List (List Int)) (a1 : Int) (a2 : Bool) (r : ByteArray) (w : World) (hr0_0 : Kd.C (Kd.slice 3 (Kd.int .i64)) w A0_0 l0_0.length l0_0) (hc0_0 : l0_0.length ≤ c0_0) (hT : Tabs w) (h : tour_PrintRoutes.f l0_0 a1 a2 = some r) :
    Calls Tryz.prog 44 #[.agg #[.slice A0_0 l0_0.length c0_0], .int .i64 a1, .bool a2] w fun e w' => e = .returned (.string r) ∧ Below w.heap.size w w' := by
  unfold tour_PrintRoutes.f at h
  split at h
  · rename_i hb
    obtain rfl := Option.some.inj h
    unfold tour_PrintRoutes.ok at hb
    simp only [Bool.and_eq_true, List.all_eq_true, decide_eq_true_eq] at hb
    exact Cu.PrintRoutes_calls A0_0 c0_0 l0_0 a1 a2 w hT hr0_0 hc0_0 hb.1 ⟨hb.2.1, hb.2.2.1⟩ hb.2.2.2.1 hb.2.2.2.2
  · cases h
end Go.Proofs.YtadocbfchdendaaGreatDoor.P
namespace Go.Proofs.YtadocbfchdendaaGreatDoor.P
open Go.RowKit Go.Proofs.YtadocbfchdendaaGreatDoorW.PrintWords Go.Proofs.YtadocbfchdendaaGreatDoorW.PrintLast Go.Proofs.YtadocbfchdendaaGreatDoorW.PrintMore
attribute [local go_sem] max2_int min2_int max_two min_two max_three min_three max_four min_four
set_option linter.unusedVariables false
set_option linter.unusedSimpArgs false
attribute [local go_sem high] eqA41
def entrepotlaw16_TourOrder.j0 : Nat → Int → Int → Bool → List (List Int) → Option (Bool)
 | 0, _, _, _, _ => none
 | k + 1, x1, x2, x41, x102000 => if x41 = true then ((entrepotlaw16_shown.f k).bind fun t105 => (some t105)) else (if (x102000.length : Int) = 0 then (none) else (if 0 ≤ (Int.tmod (wrap64 (x2)) (x102000.length : Int)) then (if (Int.tmod (wrap64 (x2)) (x102000.length : Int)) ≤ (x102000.length : Int) then ((tour_PrintRoutes.f (x102000.take ((Int.tmod (wrap64 (x2)) (x102000.length : Int)) : Int).toNat) (-1) true).bind fun t111 => ((tour_PrintRoutes.f x102000 x1 true).bind fun t112 => (if t111.size + t112.size ≤ 9223372036854775807 then ((tour_ParseRoutes.f (t111 ++ t112)).bind fun bt113 => ((tour_PrintRoutes.f x102000 x1 false).bind fun t121 => (if t121.size + 10 ≤ 9223372036854775807 then ((tour_ParseRoutes.f (t121 ++ (⟨#[82, 111, 117, 116, 101, 32, 49, 32, 58, 10]⟩ : ByteArray))).bind fun bt122 => (if (Int.tmod (wrap64 (x2)) (x102000.length : Int)) > 0 then (if (!(bt113.2.2.1 == (t111.size : Int)) || (!(bt113.2.2.2 == 3))) = true then (none) else (some (bt122.2.2.1 == (t121.size : Int) && (bt122.2.2.2 == 4)))) else (some (bt122.2.2.1 == (t121.size : Int) && (bt122.2.2.2 == 4))))) else (none)))) else (none)))) else (none)) else (none)))
def entrepotlaw16_TourOrder.f (k : Nat) (l0_0 : List (List Int)) (a1 : Int) (a2 : Int) : Option (Bool) := (entrepotlaw16_long.f k l0_0).bind fun t102 => (if t102 = true then (entrepotlaw16_TourOrder.j0 k a1 a2 true l0_0) else ((entrepotlaw16_small.f k l0_0).bind fun t103 => (if t103 = true then (if a1 < 0 then (entrepotlaw16_TourOrder.j0 k a1 a2 true l0_0) else (if a1 > 100000000 then (entrepotlaw16_TourOrder.j0 k a1 a2 true l0_0) else (if (l0_0.length : Int) < 2 then (entrepotlaw16_TourOrder.j0 k a1 a2 true l0_0) else ((entrepotlaw16_shown.f k).bind fun t104 => (entrepotlaw16_TourOrder.j0 k a1 a2 (!t104) l0_0))))) else (entrepotlaw16_TourOrder.j0 k a1 a2 true l0_0))))
theorem entrepotlaw16_TourOrder.mono_l : ∀ k, (∀ y0 y1 y2 y3, LeO (entrepotlaw16_TourOrder.j0 k y0 y1 y2 y3) (entrepotlaw16_TourOrder.j0 (k + 1) y0 y1 y2 y3))
 | 0 => fun _ _ _ _ r h => by simp [entrepotlaw16_TourOrder.j0] at h
 | k + 1 => by
  have ih0 := entrepotlaw16_TourOrder.mono_l k
  ·intro y0 y1 y2 y3
   unfold entrepotlaw16_TourOrder.j0
   repeat' first
   | (with_reducible exact ih0 _ _ _ _)
   | (with_reducible exact entrepotlaw16_long.mono _ _)
   | (with_reducible exact entrepotlaw16_shown.mono _)
   | (with_reducible exact entrepotlaw16_small.mono _ _)
   | (with_reducible exact LeO.refl _)
   | (with_reducible exact LeO.none _)
   | (with_reducible refine LeO.ite ?_ ?_)
   | (with_reducible refine LeO.bind ?_ (fun _ => ?_))
   | exact ih0 _ _ _ _
   | exact entrepotlaw16_long.mono _ _
   | exact entrepotlaw16_shown.mono _
   | exact entrepotlaw16_small.mono _ _
   | exact LeO.none _
   | refine LeO.ite ?_ ?_
   | refine LeO.bind ?_ (fun _ => ?_)
theorem entrepotlaw16_TourOrder.mono : ∀ a0 a1 a2 k, LeO (entrepotlaw16_TourOrder.f k a0 a1 a2) (entrepotlaw16_TourOrder.f (k + 1) a0 a1 a2) := by
 intro a0 a1 a2 k
 have ih0 := entrepotlaw16_TourOrder.mono_l k; unfold entrepotlaw16_TourOrder.f
 repeat' first
   | (with_reducible exact ih0 _ _ _ _)
   | (with_reducible exact entrepotlaw16_long.mono _ _)
   | (with_reducible exact entrepotlaw16_shown.mono _)
   | (with_reducible exact entrepotlaw16_small.mono _ _)
   | (with_reducible exact LeO.refl _)
   | (with_reducible exact LeO.none _)
   | (with_reducible refine LeO.ite ?_ ?_)
   | (with_reducible refine LeO.bind ?_ (fun _ => ?_))
   | exact ih0 _ _ _ _
   | exact entrepotlaw16_long.mono _ _
   | exact entrepotlaw16_shown.mono _
   | exact entrepotlaw16_small.mono _ _
   | exact LeO.none _
   | refine LeO.ite ?_ ?_
   | refine LeO.bind ?_ (fun _ => ?_)
set_option maxHeartbeats 8000000 in
set_option maxRecDepth 100000 in
theorem entrepotlaw16_TourOrder.calls (k : Nat) (A0_0 : Option Addr) (c0_0 : Nat) (l0_0 : List (List Int)) (a1 : Int) (a2 : Int) (r : Bool) (w : World) (hr0_0 : Kd.C (Kd.slice 3 (Kd.int .i64)) w A0_0 l0_0.length l0_0) (hc0_0 : l0_0.length ≤ c0_0) (hT : Tabs w) (h : entrepotlaw16_TourOrder.f k l0_0 a1 a2 = some r) :
  Calls Tryz.prog 12 #[.agg #[.slice A0_0 l0_0.length c0_0], .int .i64 a1, .int .u8 a2] w fun e w' => e = .returned (.bool r) ∧ Below w.heap.size w w' := by
 have hu70 := Tryz.underlying70; have hu41 := Tryz.underlying41; have HT0 := Aside0.mk hT; clear hT; have HR0_0 := Aside0.mk hr0_0; have HC0_0 := Aside0.mk hc0_0; clear hr0_0 hc0_0; have HB := Aside0.mk (Below.refl w.heap.size w); have H : ((entrepotlaw16_long.f k l0_0).bind fun t102 => (if t102 = true then (entrepotlaw16_TourOrder.j0 k a1 a2 true l0_0) else ((entrepotlaw16_small.f k l0_0).bind fun t103 => (if t103 = true then (if a1 < 0 then (entrepotlaw16_TourOrder.j0 k a1 a2 true l0_0) else (if a1 > 100000000 then (entrepotlaw16_TourOrder.j0 k a1 a2 true l0_0) else (if (l0_0.length : Int) < 2 then (entrepotlaw16_TourOrder.j0 k a1 a2 true l0_0) else ((entrepotlaw16_shown.f k).bind fun t104 => (entrepotlaw16_TourOrder.j0 k a1 a2 (!t104) l0_0))))) else (entrepotlaw16_TourOrder.j0 k a1 a2 true l0_0))))) = some r := h; clear h; have HC4 := Aside0.mk H; clear H; go_enter Tryz.func12, Tryz.ntmps12
 go_upto_region 1 with (first | ((with_reducible refine gate_dst (N := 3) rfl ?_); (try (refine gate_guard (by rfl) ?_; dsimp only)); refine box_ev (N := 3) (cs := #[.slice A0_0 l0_0.length c0_0]) (t := 70) ?_; intro gb101 hg w5 hbox hb; have BK101 := Aside0.mk (hbox); have GW101 := Aside0.mk ((qg : w.heap.size ≤ gb101)); have GE101 := Aside0.mk ((qg : w.heap.size ≤ gb101)); replace HB := cB HB hb; clear hb hbox hg))
 (try simp only [Act.put, List.setIfInBounds_toArray, List.set_cons_zero, List.set_cons_succ])
 go_cut [41] (fun v41 wc => ∃ (kq : Nat) (x41_3 : Bool), v41 = .bool x41_3 ∧ Aside0 (entrepotlaw16_TourOrder.j0 kq a1 a2 x41_3 l0_0 = some r) ∧ Aside0 (kq ≤ k) ∧ Aside0 (wc.heap[gb101]? = some (.cells #[(.slice A0_0 l0_0.length c0_0)] 70 (0, 0))) ∧ Aside0 (Below w.heap.size w wc))
 case first =>
  have H := HC4.out; clear HC4; replace H := Option.bind_eq_some_iff.mp H; obtain ⟨t102, A60, H⟩ := H; (try dsimp only at H); have A6 := Aside0.mk A60; clear A60
  by_cases c7 : t102 = true
  ·subst c7; have H1 : (entrepotlaw16_TourOrder.j0 k a1 a2 true l0_0) = some r := by rw [if_pos rfl] at H; exact H
   clear H; have H := H1; clear H1; have H' := Aside0.mk H; clear H; obtain ⟨hcz8_0, hfz8_0⟩ := bc1 BK101.out
   go_wp2_with (first | ((with_reducible refine gate_callee (f := 41) rfl ?_); refine goesL_ (some 18) rfl rfl Tryz.func41 (by kernel_rfl) rfl #[.agg #[.slice A0_0 l0_0.length c0_0]] rfl qm ?_; (with_reducible refine (entrepotlaw16_long.calls k _ _ l0_0 true _ ?side1 ?side2 A6.out).mono ?_); (case side1 => exact qC (Kd.C_below HR0_0.out HB.out)); (case side2 => exact HC0_0.out); rintro e w9 ⟨rfl, hb⟩; refine ⟨_, rfl, ?_⟩; replace BK101 := cK BK101 hb; replace HB := cB HB hb; (try clear hb); (try clear hb2); (try clear hk); (try clear hi)))
   go_meet
   case rel => exact ⟨_, (true), qr, H', ⟨by first | omega | exact Nat.le_refl _⟩, ⟨qk BK101.out⟩, ⟨qb⟩⟩
  ·replace c7 := Bool.eq_false_iff.mpr c7; subst c7; have H1 : ((entrepotlaw16_small.f k l0_0).bind fun t103 => (if t103 = true then (if a1 < 0 then (entrepotlaw16_TourOrder.j0 k a1 a2 true l0_0) else (if a1 > 100000000 then (entrepotlaw16_TourOrder.j0 k a1 a2 true l0_0) else (if (l0_0.length : Int) < 2 then (entrepotlaw16_TourOrder.j0 k a1 a2 true l0_0) else ((entrepotlaw16_shown.f k).bind fun t104 => (entrepotlaw16_TourOrder.j0 k a1 a2 (!t104) l0_0))))) else (entrepotlaw16_TourOrder.j0 k a1 a2 true l0_0))) = some r := by rw [if_neg (show ¬ (false = true) by decide)] at H; exact H
   clear H; have H := H1; clear H1; replace H := Option.bind_eq_some_iff.mp H; obtain ⟨t103, A100, H⟩ := H; (try dsimp only at H); have A10 := Aside0.mk A100; clear A100
   by_cases c11 : t103 = true
   ·subst c11; have H1 : (if a1 < 0 then (entrepotlaw16_TourOrder.j0 k a1 a2 true l0_0) else (if a1 > 100000000 then (entrepotlaw16_TourOrder.j0 k a1 a2 true l0_0) else (if (l0_0.length : Int) < 2 then (entrepotlaw16_TourOrder.j0 k a1 a2 true l0_0) else ((entrepotlaw16_shown.f k).bind fun t104 => (entrepotlaw16_TourOrder.j0 k a1 a2 (!t104) l0_0))))) = some r := by rw [if_pos rfl] at H; exact H
    clear H; have H := H1; clear H1
    by_cases c12 : a1 < 0
    ·rw [if_pos c12] at H; have c12b0 := decide_eq_true c12; clear c12; (first | rw [c12b0] | (simp only [i64_w, i32_w]; rw [c12b0]) | skip); have H' := Aside0.mk H; clear H; obtain ⟨hcz13_0, hfz13_0⟩ := bc1 BK101.out
     go_wp2_with (first | ((with_reducible refine gate_callee (f := 41) rfl ?_); refine goesL_ (some 18) rfl rfl Tryz.func41 (by kernel_rfl) rfl #[.agg #[.slice A0_0 l0_0.length c0_0]] rfl qm ?_; (with_reducible refine (entrepotlaw16_long.calls k _ _ l0_0 false _ ?side1 ?side2 A6.out).mono ?_); (case side1 => exact qC (Kd.C_below HR0_0.out HB.out)); (case side2 => exact HC0_0.out); rintro e w14 ⟨rfl, hb⟩; refine ⟨_, rfl, ?_⟩; replace BK101 := cK BK101 hb; replace HB := cB HB hb; (try clear hb); (try clear hb2); (try clear hk); (try clear hi); have hcz15_0 : w14.cell? ⟨gb101, 0, none⟩ = some (.slice A0_0 l0_0.length c0_0) := (blk_cell BK101.out 0).trans rfl; have hfz15_0 := blk_frozen BK101.out 0) | (go_at_call 43; (with_reducible refine (entrepotlaw16_small.calls k _ _ l0_0 true _ ?side1 ?side2 A10.out).mono ?_); (case side1 => exact qC (Kd.C_below HR0_0.out HB.out)); (case side2 => exact HC0_0.out); rintro e w16 ⟨rfl, hb⟩; replace BK101 := cK BK101 hb; replace HB := cB HB hb; (try clear hb); (try clear hb2); (try clear hk); (try clear hi)))
     go_meet
     case rel => exact ⟨_, (true), qr, H', ⟨by first | omega | exact Nat.le_refl _⟩, ⟨qk BK101.out⟩, ⟨qb⟩⟩
    ·rw [if_neg c12] at H; have c12b0 := decide_eq_false c12; clear c12; (first | rw [c12b0] | (simp only [i64_w, i32_w]; rw [c12b0]) | skip)
     by_cases c17 : a1 > 100000000
     ·rw [if_pos c17] at H; have c17b0 := decide_eq_true c17; clear c17; have H' := Aside0.mk H; clear H; obtain ⟨hcz18_0, hfz18_0⟩ := bc1 BK101.out
      go_wp2_with (first | ((with_reducible refine gate_callee (f := 41) rfl ?_); refine goesL_ (some 18) rfl rfl Tryz.func41 (by kernel_rfl) rfl #[.agg #[.slice A0_0 l0_0.length c0_0]] rfl qm ?_; (with_reducible refine (entrepotlaw16_long.calls k _ _ l0_0 false _ ?side1 ?side2 A6.out).mono ?_); (case side1 => exact qC (Kd.C_below HR0_0.out HB.out)); (case side2 => exact HC0_0.out); rintro e w19 ⟨rfl, hb⟩; refine ⟨_, rfl, ?_⟩; replace BK101 := cK BK101 hb; replace HB := cB HB hb; (try clear hb); (try clear hb2); (try clear hk); (try clear hi); have hcz20_0 : w19.cell? ⟨gb101, 0, none⟩ = some (.slice A0_0 l0_0.length c0_0) := (blk_cell BK101.out 0).trans rfl; have hfz20_0 := blk_frozen BK101.out 0) | (go_at_call 43; (with_reducible refine (entrepotlaw16_small.calls k _ _ l0_0 true _ ?side1 ?side2 A10.out).mono ?_); (case side1 => exact qC (Kd.C_below HR0_0.out HB.out)); (case side2 => exact HC0_0.out); rintro e w21 ⟨rfl, hb⟩; replace BK101 := cK BK101 hb; replace HB := cB HB hb; (try clear hb); (try clear hb2); (try clear hk); (try clear hi)))
      go_meet
      case rel => exact ⟨_, (true), qr, H', ⟨by first | omega | exact Nat.le_refl _⟩, ⟨qk BK101.out⟩, ⟨qb⟩⟩
     ·rw [if_neg c17] at H; have c17b0 := decide_eq_false c17; clear c17
      by_cases c22 : (l0_0.length : Int) < 2
      ·rw [if_pos c22] at H; have c22b0 := decide_eq_true c22; have c22b1 : decide (l0_0.length < 2) = true := decide_eq_true (by omega); clear c22; have H' := Aside0.mk H; clear H; obtain ⟨hcz23_0, hfz23_0⟩ := bc1 BK101.out
       go_wp2_with (first | ((with_reducible refine gate_callee (f := 41) rfl ?_); refine goesL_ (some 18) rfl rfl Tryz.func41 (by kernel_rfl) rfl #[.agg #[.slice A0_0 l0_0.length c0_0]] rfl qm ?_; (with_reducible refine (entrepotlaw16_long.calls k _ _ l0_0 false _ ?side1 ?side2 A6.out).mono ?_); (case side1 => exact qC (Kd.C_below HR0_0.out HB.out)); (case side2 => exact HC0_0.out); rintro e w24 ⟨rfl, hb⟩; refine ⟨_, rfl, ?_⟩; replace BK101 := cK BK101 hb; replace HB := cB HB hb; (try clear hb); (try clear hb2); (try clear hk); (try clear hi); have hcz25_0 : w24.cell? ⟨gb101, 0, none⟩ = some (.slice A0_0 l0_0.length c0_0) := (blk_cell BK101.out 0).trans rfl; have hfz25_0 := blk_frozen BK101.out 0) | (go_at_call 43; (with_reducible refine (entrepotlaw16_small.calls k _ _ l0_0 true _ ?side1 ?side2 A10.out).mono ?_); (case side1 => exact qC (Kd.C_below HR0_0.out HB.out)); (case side2 => exact HC0_0.out); rintro e w26 ⟨rfl, hb⟩; replace BK101 := cK BK101 hb; replace HB := cB HB hb; (try clear hb); (try clear hb2); (try clear hk); (try clear hi); have hcz27_0 : w26.cell? ⟨gb101, 0, none⟩ = some (.slice A0_0 l0_0.length c0_0) := (blk_cell BK101.out 0).trans rfl; have hfz27_0 := blk_frozen BK101.out 0))
       go_meet
       case rel => exact ⟨_, (true), qr, H', ⟨by first | omega | exact Nat.le_refl _⟩, ⟨qk BK101.out⟩, ⟨qb⟩⟩
      ·rw [if_neg c22] at H; have c22b0 := decide_eq_false c22; have c22b1 : decide (l0_0.length < 2) = false := decide_eq_false (by omega); clear c22; replace H := Option.bind_eq_some_iff.mp H; obtain ⟨t104, A280, H⟩ := H; (try dsimp only at H); have A28 := Aside0.mk A280; clear A280; have H' := Aside0.mk H; clear H; obtain ⟨hcz29_0, hfz29_0⟩ := bc1 BK101.out
       go_wp2_with (first | ((with_reducible refine gate_callee (f := 41) rfl ?_); refine goesL_ (some 18) rfl rfl Tryz.func41 (by kernel_rfl) rfl #[.agg #[.slice A0_0 l0_0.length c0_0]] rfl qm ?_; (with_reducible refine (entrepotlaw16_long.calls k _ _ l0_0 false _ ?side1 ?side2 A6.out).mono ?_); (case side1 => exact qC (Kd.C_below HR0_0.out HB.out)); (case side2 => exact HC0_0.out); rintro e w30 ⟨rfl, hb⟩; refine ⟨_, rfl, ?_⟩; replace BK101 := cK BK101 hb; replace HB := cB HB hb; (try clear hb); (try clear hb2); (try clear hk); (try clear hi); have hcz31_0 : w30.cell? ⟨gb101, 0, none⟩ = some (.slice A0_0 l0_0.length c0_0) := (blk_cell BK101.out 0).trans rfl; have hfz31_0 := blk_frozen BK101.out 0) | (go_at_call 43; (with_reducible refine (entrepotlaw16_small.calls k _ _ l0_0 true _ ?side1 ?side2 A10.out).mono ?_); (case side1 => exact qC (Kd.C_below HR0_0.out HB.out)); (case side2 => exact HC0_0.out); rintro e w32 ⟨rfl, hb⟩; replace BK101 := cK BK101 hb; replace HB := cB HB hb; (try clear hb); (try clear hb2); (try clear hk); (try clear hi); have hcz33_0 : w32.cell? ⟨gb101, 0, none⟩ = some (.slice A0_0 l0_0.length c0_0) := (blk_cell BK101.out 0).trans rfl; have hfz33_0 := blk_frozen BK101.out 0) | (go_at_call 33; (with_reducible refine (entrepotlaw16_shown.calls k  t104 _ (Tabs.kept HT0.out qb) A28.out).mono ?_); rintro e w34 ⟨rfl, hb⟩; replace BK101 := cK BK101 hb; replace HB := cB HB hb; (try clear hb); (try clear hb2); (try clear hk); (try clear hi)))
       go_meet
       case rel => exact ⟨_, (!t104), qr, H', ⟨by first | omega | exact Nat.le_refl _⟩, ⟨qk BK101.out⟩, ⟨qb⟩⟩
   ·replace c11 := Bool.eq_false_iff.mpr c11; subst c11; have H1 : (entrepotlaw16_TourOrder.j0 k a1 a2 true l0_0) = some r := by rw [if_neg (show ¬ (false = true) by decide)] at H; exact H
    clear H; have H := H1; clear H1; have H' := Aside0.mk H; clear H; obtain ⟨hcz35_0, hfz35_0⟩ := bc1 BK101.out
    go_wp2_with (first | ((with_reducible refine gate_callee (f := 41) rfl ?_); refine goesL_ (some 18) rfl rfl Tryz.func41 (by kernel_rfl) rfl #[.agg #[.slice A0_0 l0_0.length c0_0]] rfl qm ?_; (with_reducible refine (entrepotlaw16_long.calls k _ _ l0_0 false _ ?side1 ?side2 A6.out).mono ?_); (case side1 => exact qC (Kd.C_below HR0_0.out HB.out)); (case side2 => exact HC0_0.out); rintro e w36 ⟨rfl, hb⟩; refine ⟨_, rfl, ?_⟩; replace BK101 := cK BK101 hb; replace HB := cB HB hb; (try clear hb); (try clear hb2); (try clear hk); (try clear hi); have hcz37_0 : w36.cell? ⟨gb101, 0, none⟩ = some (.slice A0_0 l0_0.length c0_0) := (blk_cell BK101.out 0).trans rfl; have hfz37_0 := blk_frozen BK101.out 0) | (go_at_call 43; (with_reducible refine (entrepotlaw16_small.calls k _ _ l0_0 false _ ?side1 ?side2 A10.out).mono ?_); (case side1 => exact qC (Kd.C_below HR0_0.out HB.out)); (case side2 => exact HC0_0.out); rintro e w38 ⟨rfl, hb⟩; replace BK101 := cK BK101 hb; replace HB := cB HB hb; (try clear hb); (try clear hb2); (try clear hk); (try clear hi)))
    go_meet
    case rel => exact ⟨_, (true), qr, H', ⟨by first | omega | exact Nat.le_refl _⟩, ⟨qk BK101.out⟩, ⟨qb⟩⟩
 case rest =>
  clear HC4; (try clear c1); (try clear c2); (try clear p2); (try clear c4); (try clear c7); (try clear c11); (try clear c12); (try clear c12b0); (try clear c17); (try clear c17b0); (try clear c22); (try clear c22b0); (try clear c22b1); (try clear hcz13_0); (try clear hcz15_0); (try clear hcz18_0); (try clear hcz20_0); (try clear hcz23_0); (try clear hcz25_0); (try clear hcz27_0); (try clear hcz29_0); (try clear hcz31_0); (try clear hcz33_0); (try clear hcz35_0); (try clear hcz37_0); (try clear hcz8_0); (try clear hfz13_0); (try clear hfz15_0); (try clear hfz18_0); (try clear hfz20_0); (try clear hfz23_0); (try clear hfz25_0); (try clear hfz27_0); (try clear hfz29_0); (try clear hfz31_0); (try clear hfz33_0); (try clear hfz35_0); (try clear hfz37_0); (try clear hfz8_0); obtain ⟨kq, x41_3, rfl, HA, HJ3, BK101, HB⟩ := hcut; cases kq with
  | zero => exact absurd HA.out (by simp [entrepotlaw16_TourOrder.j0])
  | succ kj3 =>
   have H := HA.out; clear HA; simp only [entrepotlaw16_TourOrder.j0] at H
   by_cases c39 : x41_3 = true
   ·subst c39; have H1 : ((entrepotlaw16_shown.f kj3).bind fun t105 => (some t105)) = some r := by rw [if_pos rfl] at H; exact H
    clear H; have H := H1; clear H1; replace H := Option.bind_eq_some_iff.mp H; obtain ⟨t105, A400, H⟩ := H; (try dsimp only at H); have A40 := Aside0.mk A400; clear A400; obtain rfl := Option.some.inj H
    go_wp2_with (first | ((with_reducible refine gate_callee (f := 33) rfl ?_); refine goesL_ (some 42) rfl rfl Tryz.func33 (by kernel_rfl) rfl #[] rfl qm ?_; (with_reducible refine (entrepotlaw16_shown.calls kj3  t105 _ (Tabs.kept HT0.out qb) A40.out).mono ?_); rintro e w41 ⟨rfl, hb⟩; refine ⟨_, rfl, ?_⟩; replace BK101 := cK BK101 hb; replace HB := cB HB hb; (try clear hb); (try clear hb2); (try clear hk); (try clear hi)))
    go_ret
    exact ⟨qe, qb⟩
   ·replace c39 := Bool.eq_false_iff.mpr c39; subst c39; have H1 : (if (l0_0.length : Int) = 0 then (none) else (if 0 ≤ (Int.tmod (wrap64 (a2)) (l0_0.length : Int)) then (if (Int.tmod (wrap64 (a2)) (l0_0.length : Int)) ≤ (l0_0.length : Int) then ((tour_PrintRoutes.f (l0_0.take ((Int.tmod (wrap64 (a2)) (l0_0.length : Int)) : Int).toNat) (-1) true).bind fun t111 => ((tour_PrintRoutes.f l0_0 a1 true).bind fun t112 => (if t111.size + t112.size ≤ 9223372036854775807 then ((tour_ParseRoutes.f (t111 ++ t112)).bind fun bt113 => ((tour_PrintRoutes.f l0_0 a1 false).bind fun t121 => (if t121.size + 10 ≤ 9223372036854775807 then ((tour_ParseRoutes.f (t121 ++ (⟨#[82, 111, 117, 116, 101, 32, 49, 32, 58, 10]⟩ : ByteArray))).bind fun bt122 => (if (Int.tmod (wrap64 (a2)) (l0_0.length : Int)) > 0 then (if (!(bt113.2.2.1 == (t111.size : Int)) || (!(bt113.2.2.2 == 3))) = true then (none) else (some (bt122.2.2.1 == (t121.size : Int) && (bt122.2.2.2 == 4)))) else (some (bt122.2.2.1 == (t121.size : Int) && (bt122.2.2.2 == 4))))) else (none)))) else (none)))) else (none)) else (none))) = some r := by rw [if_neg (show ¬ (false = true) by decide)] at H; exact H
    clear H; have H := H1; clear H1
    by_cases c42 : (l0_0.length : Int) = 0
    ·rw [if_pos c42] at H
     exact absurd H (by simp)
    ·rw [if_neg c42] at H; have c42b0 := beq_eq_false_iff_ne.mpr c42; have c42b1 := bne_iff_ne.mpr c42; have c42b2 : ¬ (l0_0 = []) := fun h_ => c42 (by rw [h_]; rfl); obtain ⟨ji43, hji43⟩ : ∃ j_ : Int, (Int.tmod (wrap64 (a2)) (l0_0.length : Int)) = j_ := ⟨_, rfl⟩; replace H : (if 0 ≤ (ji43) then (if (ji43) ≤ (l0_0.length : Int) then ((tour_PrintRoutes.f (l0_0.take ((ji43) : Int).toNat) (-1) true).bind fun t111 => ((tour_PrintRoutes.f l0_0 a1 true).bind fun t112 => (if t111.size + t112.size ≤ 9223372036854775807 then ((tour_ParseRoutes.f (t111 ++ t112)).bind fun bt113 => ((tour_PrintRoutes.f l0_0 a1 false).bind fun t121 => (if t121.size + 10 ≤ 9223372036854775807 then ((tour_ParseRoutes.f (t121 ++ (⟨#[82, 111, 117, 116, 101, 32, 49, 32, 58, 10]⟩ : ByteArray))).bind fun bt122 => (if (ji43) > 0 then (if (!(bt113.2.2.1 == (t111.size : Int)) || (!(bt113.2.2.2 == 3))) = true then (none) else (some (bt122.2.2.1 == (t121.size : Int) && (bt122.2.2.2 == 4)))) else (some (bt122.2.2.1 == (t121.size : Int) && (bt122.2.2.2 == 4))))) else (none)))) else (none)))) else (none)) else (none)) = some r := by first | (rw [hji43] at H; exact H) | (simp only [hji43] at H ⊢; exact H)
     by_cases c44 : 0 ≤ (ji43)
     ·rw [if_pos c44] at H; have c44b0 := eq_true c44; have c44b1 := decide_eq_true c44; clear c44
      by_cases c45 : (ji43) ≤ (l0_0.length : Int)
      ·rw [if_pos c45] at H; have c45b0 := eq_true c45; have c45b1 := decide_eq_true c45; clear c45; obtain ⟨y106, hy106⟩ : ∃ y_ : List (List Int), y_ = (l0_0.take ((ji43) : Int).toNat) := ⟨_, rfl⟩; replace H : ((tour_PrintRoutes.f y106 (-1) true).bind fun t111 => ((tour_PrintRoutes.f l0_0 a1 true).bind fun t112 => (if t111.size + t112.size ≤ 9223372036854775807 then ((tour_ParseRoutes.f (t111 ++ t112)).bind fun bt113 => ((tour_PrintRoutes.f l0_0 a1 false).bind fun t121 => (if t121.size + 10 ≤ 9223372036854775807 then ((tour_ParseRoutes.f (t121 ++ (⟨#[82, 111, 117, 116, 101, 32, 49, 32, 58, 10]⟩ : ByteArray))).bind fun bt122 => (if (ji43) > 0 then (if (!(bt113.2.2.1 == (t111.size : Int)) || (!(bt113.2.2.2 == 3))) = true then (none) else (some (bt122.2.2.1 == (t121.size : Int) && (bt122.2.2.2 == 4)))) else (some (bt122.2.2.1 == (t121.size : Int) && (bt122.2.2.2 == 4))))) else (none)))) else (none)))) = some r := by first | (rw [hy106]; with_reducible exact H) | (have H2_ := (Option.bind_some _ _).symm.trans H; rw [hy106]; with_reducible exact H2_) | (have H2_ := (Option.bind_some _ _).symm.trans H; with_reducible exact H2_) | with_reducible exact H | (rw [hy106]; exact H) | exact H
       have Ny106 := Aside0.mk hy106; clear hy106; replace H := Option.bind_eq_some_iff.mp H; obtain ⟨t111, A460, H⟩ := H; (try dsimp only at H); have A46 := Aside0.mk A460; clear A460; replace H := Option.bind_eq_some_iff.mp H; obtain ⟨t112, A470, H⟩ := H; (try dsimp only at H); have A47 := Aside0.mk A470; clear A470
       by_cases c48 : t111.size + t112.size ≤ 9223372036854775807
       ·rw [if_pos c48] at H; have c48b0 := eq_true c48; have c48b1 := decide_eq_true c48
        try have c48b2 : (9223372036854775807 < t111.size + t112.size) = False := eq_false (Nat.not_lt.2 c48)
        replace H := Option.bind_eq_some_iff.mp H; obtain ⟨⟨t113, t116, t117, t118⟩, A490, H⟩ := H; (try dsimp only at H); have A49 := Aside0.mk A490; clear A490; replace H := Option.bind_eq_some_iff.mp H; obtain ⟨t121, A500, H⟩ := H; (try dsimp only at H); have A50 := Aside0.mk A500; clear A500
        by_cases c51 : t121.size + 10 ≤ 9223372036854775807
        ·rw [if_pos c51] at H; have c51b0 := eq_true c51; have c51b1 := decide_eq_true c51
         try have c51b2 : (9223372036854775807 < t121.size + 10) = False := eq_false (Nat.not_lt.2 c51)
         replace H := Option.bind_eq_some_iff.mp H; obtain ⟨⟨t122, t125, t126, t127⟩, A520, H⟩ := H; (try dsimp only at H); have A52 := Aside0.mk A520; clear A520
         by_cases c53 : (ji43) > 0
         ·rw [if_pos c53] at H; have c53b0 := decide_eq_true c53; clear c53
          by_cases c54 : (!(t117 == (t111.size : Int)) || (!(t118 == 3))) = true
          ·rw [if_pos c54] at H
           exact absurd H (by simp)
          ·rw [if_neg c54] at H; have c54b0 : (!(t117 == (t111.size : Int)) || (!(t118 == 3))) = false := by simpa using c54
           clear c54; obtain rfl := Option.some.inj H; obtain ⟨hcz55_0, hfz55_0⟩ := bc1 BK101.out; have q56 : ((ji43) : Int) ≤ ((l0_0.length : Int) : Int) := of_decide_eq_true qa; obtain ⟨i056, hi056, _, hsz56, _⟩ := info_parts info38; have hroom56 : l0_0.length ≤ c0_0 := HC0_0.out; have hC56 : Kd.C (Kd.slice 3 (Kd.int .i64)) _ A0_0 l0_0.length l0_0 := HR0_0.out; have hcut56 := cut_to (P := Tryz.prog) 68 38 .i64 Tryz.underlying68 hi056 A0_0 l0_0.length c0_0 (ji43) (of_decide_eq_true qa) q56 hroom56; have hr56 := Kd.C_take (m := ((ji43) : Int).toNat) hC56 (by omega); have hy56 : y106.length = ((ji43) : Int).toNat := (by rw [Ny106.out, List.length_take]; omega); rw [← Ny106.out] at hr56; rw [← hy56] at hcut56; have HR109 := Aside0.mk hr56; have HC109 := Aside0.mk (show y106.length ≤ c0_0 from by omega); clear hr56 hC56 hroom56 hi056 hsz56; have KY56 := Aside0.mk hy56; clear hy56; replace q56 := eq_true q56
           go_wp2_with (first | ((with_reducible refine gate_dst (N := 8) rfl ?_); (try (refine gate_guard (by rfl) ?_; dsimp only)); refine box_ev (N := 8) (cs := #[.slice none 0 0]) (t := 70) ?_; intro gb110 hg w57 hbox hb; have BK110 := Aside0.mk (hbox); have GW110 := Aside0.mk ((qg : w.heap.size ≤ gb110)); have GE110 := Aside0.mk ((qg : w.heap.size ≤ gb110)); have NB101_110 := Aside0.mk ((by rw [hg]; exact Nat.ne_of_lt (blk_lt (g := gb101) (o := .cells #[.slice A0_0 l0_0.length c0_0] 70 (0, 0)) (qk BK101.out)) : gb101 ≠ gb110)); have NB110_101 := Aside0.mk ((by rw [hg]; exact Nat.ne_of_gt (blk_lt (g := gb101) (o := .cells #[.slice A0_0 l0_0.length c0_0] 70 (0, 0)) (qk BK101.out)) : gb110 ≠ gb101)); replace BK101 := cK BK101 hb; replace HB := cB HB hb; clear hb hbox hg; have hnb58 := NB110_101.out; have hnc58 := NB101_110.out; have hcz59_0 : w57.cell? ⟨gb110, 0, none⟩ = some (.slice none 0 0) := (blk_cell BK110.out 0).trans rfl; have hfz59_0 := blk_frozen BK110.out 0) | ((with_reducible refine gate_callee (f := 44) rfl ?_); refine goesL_ (some 55) rfl rfl Tryz.func44 (by kernel_rfl) rfl #[.agg #[.slice A0_0 y106.length c0_0], .int .i64 (-1), .bool true] rfl qm ?_; (with_reducible refine (tour_PrintRoutes.calls _ _ y106 (-1) true t111 _ ?side1 ?side2 (Tabs.kept HT0.out qb) A46.out).mono ?_); (case side1 => exact Kd.C_below HR109.out qb); (case side2 => exact HC109.out); rintro e w60 ⟨rfl, hb⟩; refine ⟨_, rfl, ?_⟩; have n0_ := Aside0.mk (blk_below (g := gb101) (o := .cells #[.slice A0_0 l0_0.length c0_0] 70 (0, 0)) (by refine qk ?_; refine blk_far ?_ NB101_110.out _; refine qk ?_; exact BK101.out) hb); have n1_ := Aside0.mk (blk_below (g := gb110) (o := .cells #[.slice A0_0 y106.length c0_0] 70 (0, 0)) (by refine qk ?_; refine blk_put (cs := #[.slice none 0 0]) ?_ 0 _ rfl; refine qk ?_; exact BK110.out) hb); replace HB := cB HB hb; replace BK101 := n0_; replace BK110 := n1_; clear n0_ n1_; (try clear hb); (try clear hb2); (try clear hk); (try clear hi); have hcz61_0 : w60.cell? ⟨gb101, 0, none⟩ = some (.slice A0_0 l0_0.length c0_0) := (blk_cell BK101.out 0).trans rfl; have hfz61_0 := blk_frozen BK101.out 0) | ((with_reducible refine gate_callee (f := 44) rfl ?_); refine goesL_ (some 60) rfl rfl Tryz.func44 (by kernel_rfl) rfl #[.agg #[.slice A0_0 l0_0.length c0_0], .int .i64 a1, .bool true] rfl qm ?_; (with_reducible refine (tour_PrintRoutes.calls _ _ l0_0 a1 true t112 _ ?side1 ?side2 (Tabs.kept HT0.out qb) A47.out).mono ?_); (case side1 => exact qC (Kd.C_below HR0_0.out HB.out)); (case side2 => exact HC0_0.out); rintro e w62 ⟨rfl, hb⟩; refine ⟨_, rfl, ?_⟩; replace BK101 := cK BK101 hb; replace BK110 := cK BK110 hb; replace HB := cB HB hb; (try clear hb); (try clear hb2); (try clear hk); (try clear hi)) | ((with_reducible refine gate_callee (f := 36) rfl ?_); refine goesL_ (some 62) rfl rfl Tryz.func36 (by kernel_rfl) rfl #[.string (t111 ++ t112)] rfl qm ?_; (with_reducible refine (tour_ParseRoutes.calls (t111 ++ t112) t113 t116 t117 t118 _ (Tabs.kept HT0.out qb) A49.out).mono ?_); rintro e w63 ⟨v114, rfl, ho0, hb⟩; refine ⟨_, rfl, ?_⟩; have HO115 := Aside0.mk (Kd.S_lower ho0 (below_size qb)); replace BK101 := cK BK101 hb; replace BK110 := cK BK110 hb; replace HB := cB HB hb; (try clear hb); (try clear hb2); (try clear hk); (try clear hi); (try clear ho0)) | ((with_reducible refine gate_dst (N := 10) rfl ?_); (try (refine gate_guard (by rfl) ?_; dsimp only)); refine box_ev (N := 10) (cs := #[.slice none 0 0]) (t := 70) ?_; intro gb119 hg w64 hbox hb; have BK119 := Aside0.mk (hbox); have GW119 := Aside0.mk ((qg : w.heap.size ≤ gb119)); have GE119 := Aside0.mk ((qg : w.heap.size ≤ gb119)); have NB101_119 := Aside0.mk ((by rw [hg]; exact Nat.ne_of_lt (blk_lt (g := gb101) (o := .cells #[.slice A0_0 l0_0.length c0_0] 70 (0, 0)) (qk BK101.out)) : gb101 ≠ gb119)); have NB119_101 := Aside0.mk ((by rw [hg]; exact Nat.ne_of_gt (blk_lt (g := gb101) (o := .cells #[.slice A0_0 l0_0.length c0_0] 70 (0, 0)) (qk BK101.out)) : gb119 ≠ gb101)); have NB110_119 := Aside0.mk ((by rw [hg]; exact Nat.ne_of_lt (blk_lt (g := gb110) (o := .cells #[.slice A0_0 y106.length c0_0] 70 (0, 0)) (qk BK110.out)) : gb110 ≠ gb119)); have NB119_110 := Aside0.mk ((by rw [hg]; exact Nat.ne_of_gt (blk_lt (g := gb110) (o := .cells #[.slice A0_0 y106.length c0_0] 70 (0, 0)) (qk BK110.out)) : gb119 ≠ gb110)); replace HO115 := cS HO115 hb; replace BK101 := cK BK101 hb; replace BK110 := cK BK110 hb; replace HB := cB HB hb; clear hb hbox hg) | ((with_reducible refine gate_dst (N := 12) rfl ?_); (try (refine gate_guard (by rfl) ?_; dsimp only)); refine box_ev (N := 12) (cs := #[.int .i64 0, .int .i64 0]) (t := 41) ?_; intro gb120 hg w65 hbox hb; have BK120 := Aside0.mk (hbox); have GW120 := Aside0.mk ((qg : w.heap.size ≤ gb120)); have GE120 := Aside0.mk ((qg : w.heap.size ≤ gb120)); have NB101_120 := Aside0.mk ((by rw [hg]; exact Nat.ne_of_lt (blk_lt (g := gb101) (o := .cells #[.slice A0_0 l0_0.length c0_0] 70 (0, 0)) (qk BK101.out)) : gb101 ≠ gb120)); have NB120_101 := Aside0.mk ((by rw [hg]; exact Nat.ne_of_gt (blk_lt (g := gb101) (o := .cells #[.slice A0_0 l0_0.length c0_0] 70 (0, 0)) (qk BK101.out)) : gb120 ≠ gb101)); have NB110_120 := Aside0.mk ((by rw [hg]; exact Nat.ne_of_lt (blk_lt (g := gb110) (o := .cells #[.slice A0_0 y106.length c0_0] 70 (0, 0)) (qk BK110.out)) : gb110 ≠ gb120)); have NB120_110 := Aside0.mk ((by rw [hg]; exact Nat.ne_of_gt (blk_lt (g := gb110) (o := .cells #[.slice A0_0 y106.length c0_0] 70 (0, 0)) (qk BK110.out)) : gb120 ≠ gb110)); have NB119_120 := Aside0.mk ((by rw [hg]; exact Nat.ne_of_lt (blk_lt (g := gb119) (o := .cells #[.slice none 0 0] 70 (0, 0)) (qk BK119.out)) : gb119 ≠ gb120)); have NB120_119 := Aside0.mk ((by rw [hg]; exact Nat.ne_of_gt (blk_lt (g := gb119) (o := .cells #[.slice none 0 0] 70 (0, 0)) (qk BK119.out)) : gb120 ≠ gb119)); replace HO115 := cS HO115 hb; replace BK101 := cK BK101 hb; replace BK110 := cK BK110 hb; replace BK119 := cK BK119 hb; replace HB := cB HB hb; clear hb hbox hg; obtain ⟨Ao66, co66, eo66⟩ := Kd.S_slice HO115.out; subst eo66; have hnb67 := NB119_101.out; have hnc67 := NB101_119.out; have hnb68 := NB119_110.out; have hnc68 := NB110_119.out; have hnb69 := NB119_120.out; have hnc69 := NB120_119.out; have hcz70_0 : w65.cell? ⟨gb119, 0, none⟩ = some (.slice none 0 0) := (blk_cell BK119.out 0).trans rfl; have hfz70_0 := blk_frozen BK119.out 0; have hnb71 := NB120_101.out; have hnc71 := NB101_120.out; have hnb72 := NB120_110.out; have hnc72 := NB110_120.out; have hcz73_0 : w65.cell? ⟨gb120, 0, none⟩ = some (.int .i64 0) := (blk_cell BK120.out 0).trans rfl; have hcz73_1 : w65.cell? ⟨gb120, 1, none⟩ = some (.int .i64 0) := (blk_cell BK120.out 1).trans rfl; have hfz73_0 := blk_frozen BK120.out 0; have hfz73_1 := blk_frozen BK120.out 1; have hcz74_0 : w65.cell? ⟨gb101, 0, none⟩ = some (.slice A0_0 l0_0.length c0_0) := (blk_cell BK101.out 0).trans rfl; have hfz74_0 := blk_frozen BK101.out 0) | ((with_reducible refine gate_callee (f := 44) rfl ?_); refine goesL_ (some 68) rfl rfl Tryz.func44 (by kernel_rfl) rfl #[.agg #[.slice A0_0 l0_0.length c0_0], .int .i64 a1, .bool false] rfl qm ?_; (with_reducible refine (tour_PrintRoutes.calls _ _ l0_0 a1 false t121 _ ?side1 ?side2 (Tabs.kept HT0.out qb) A50.out).mono ?_); (case side1 => exact Kd.C_below HR0_0.out qb); (case side2 => exact HC0_0.out); rintro e w75 ⟨rfl, hb⟩; refine ⟨_, rfl, ?_⟩; have n0_ := Aside0.mk (Kd.S_below (by refine qS ?_; exact (Kd.S_mono (Kd.S_mono (Kd.S_far (p := ⟨gb120, 1, none⟩) (Kd.S_far (p := ⟨gb120, 0, none⟩) (Kd.S_far (p := ⟨gb119, 0, none⟩) (Kd.S_types (Kd.S_types HO115.out BK119.out (by decide)) BK120.out (by decide)) (fun _ hk => hk.1.2) (.slice Ao66 t113.length co66)) (fun _ hk => hk.2) (.int .i64 t117)) (fun _ hk => hk.2) (.int .i64 t118)) (fun _ h_ => by first | exact h_.1 | exact ⟨trivial, h_.1⟩)) (fun _ h_ => by first | exact h_.1 | exact ⟨trivial, h_.1⟩))) hb); have n1_ := Aside0.mk (blk_below (g := gb101) (o := .cells #[.slice A0_0 l0_0.length c0_0] 70 (0, 0)) (by refine qk ?_; refine blk_far ?_ NB101_120.out _; refine qk ?_; refine blk_far ?_ NB101_120.out _; refine qk ?_; refine blk_far ?_ NB101_119.out _; refine qk ?_; exact BK101.out) hb); have n2_ := Aside0.mk (blk_below (g := gb110) (o := .cells #[.slice A0_0 y106.length c0_0] 70 (0, 0)) (by refine qk ?_; refine blk_far ?_ NB110_120.out _; refine qk ?_; refine blk_far ?_ NB110_120.out _; refine qk ?_; refine blk_far ?_ NB110_119.out _; refine qk ?_; exact BK110.out) hb); have n3_ := Aside0.mk (blk_below (g := gb119) (o := .cells #[.slice Ao66 t113.length co66] 70 (0, 0)) (by refine qk ?_; refine blk_far ?_ NB119_120.out _; refine qk ?_; refine blk_far ?_ NB119_120.out _; refine qk ?_; refine blk_put (cs := #[.slice none 0 0]) ?_ 0 _ rfl; refine qk ?_; exact BK119.out) hb); have n4_ := Aside0.mk (blk_below (g := gb120) (o := .cells #[.int .i64 t117, .int .i64 t118] 41 (0, 0)) (by refine qk ?_; refine blk_put (cs := #[.int .i64 t117, .int .i64 0]) ?_ 1 _ rfl; refine qk ?_; refine blk_put (cs := #[.int .i64 0, .int .i64 0]) ?_ 0 _ rfl; refine qk ?_; refine blk_far ?_ NB120_119.out _; refine qk ?_; exact BK120.out) hb); replace HB := cB HB hb; replace HO115 := n0_; replace BK101 := n1_; replace BK110 := n2_; replace BK119 := n3_; replace BK120 := n4_; clear n0_ n1_ n2_ n3_ n4_; (try clear hb); (try clear hb2); (try clear hk); (try clear hi)) | ((with_reducible refine gate_callee (f := 36) rfl ?_); refine goesL_ (some 72) rfl rfl Tryz.func36 (by kernel_rfl) rfl #[.string (t121 ++ (⟨#[82, 111, 117, 116, 101, 32, 49, 32, 58, 10]⟩ : ByteArray))] rfl qm ?_; (with_reducible refine (tour_ParseRoutes.calls (t121 ++ (⟨#[82, 111, 117, 116, 101, 32, 49, 32, 58, 10]⟩ : ByteArray)) t122 t125 t126 t127 _ (Tabs.kept HT0.out qb) A52.out).mono ?_); rintro e w76 ⟨v123, rfl, ho0, hb⟩; refine ⟨_, rfl, ?_⟩; have n0_ := Aside0.mk (Kd.S_elder' (qS HO115.out) (Kd.S_base ho0) hb); have HO124 := Aside0.mk (Kd.S_lower (Kd.S_new' ho0 (Kd.S_lt (qS HO115.out))) (below_size qb)); replace BK101 := cK BK101 hb; replace BK110 := cK BK110 hb; replace BK119 := cK BK119 hb; replace BK120 := cK BK120 hb; replace HB := cB HB hb; replace HO115 := n0_; clear n0_; (try clear hb); (try clear hb2); (try clear hk); (try clear hi); (try clear ho0)) | ((with_reducible refine gate_dst (N := 14) rfl ?_); (try (refine gate_guard (by rfl) ?_; dsimp only)); refine box_ev (N := 14) (cs := #[.slice none 0 0]) (t := 70) ?_; intro gb128 hg w77 hbox hb; have BK128 := Aside0.mk (hbox); have GW128 := Aside0.mk ((qg : w.heap.size ≤ gb128)); have GE128 := Aside0.mk ((qg : w.heap.size ≤ gb128)); have NB101_128 := Aside0.mk ((by rw [hg]; exact Nat.ne_of_lt (blk_lt (g := gb101) (o := .cells #[.slice A0_0 l0_0.length c0_0] 70 (0, 0)) (qk BK101.out)) : gb101 ≠ gb128)); have NB128_101 := Aside0.mk ((by rw [hg]; exact Nat.ne_of_gt (blk_lt (g := gb101) (o := .cells #[.slice A0_0 l0_0.length c0_0] 70 (0, 0)) (qk BK101.out)) : gb128 ≠ gb101)); have NB110_128 := Aside0.mk ((by rw [hg]; exact Nat.ne_of_lt (blk_lt (g := gb110) (o := .cells #[.slice A0_0 y106.length c0_0] 70 (0, 0)) (qk BK110.out)) : gb110 ≠ gb128)); have NB128_110 := Aside0.mk ((by rw [hg]; exact Nat.ne_of_gt (blk_lt (g := gb110) (o := .cells #[.slice A0_0 y106.length c0_0] 70 (0, 0)) (qk BK110.out)) : gb128 ≠ gb110)); have NB119_128 := Aside0.mk ((by rw [hg]; exact Nat.ne_of_lt (blk_lt (g := gb119) (o := .cells #[.slice Ao66 t113.length co66] 70 (0, 0)) (qk BK119.out)) : gb119 ≠ gb128)); have NB128_119 := Aside0.mk ((by rw [hg]; exact Nat.ne_of_gt (blk_lt (g := gb119) (o := .cells #[.slice Ao66 t113.length co66] 70 (0, 0)) (qk BK119.out)) : gb128 ≠ gb119)); have NB120_128 := Aside0.mk ((by rw [hg]; exact Nat.ne_of_lt (blk_lt (g := gb120) (o := .cells #[.int .i64 t117, .int .i64 t118] 41 (0, 0)) (qk BK120.out)) : gb120 ≠ gb128)); have NB128_120 := Aside0.mk ((by rw [hg]; exact Nat.ne_of_gt (blk_lt (g := gb120) (o := .cells #[.int .i64 t117, .int .i64 t118] 41 (0, 0)) (qk BK120.out)) : gb128 ≠ gb120)); replace HO115 := cS HO115 hb; replace HO124 := cS HO124 hb; replace BK101 := cK BK101 hb; replace BK110 := cK BK110 hb; replace BK119 := cK BK119 hb; replace BK120 := cK BK120 hb; replace HB := cB HB hb; clear hb hbox hg) | ((with_reducible refine gate_dst (N := 16) rfl ?_); (try (refine gate_guard (by rfl) ?_; dsimp only)); refine box_ev (N := 16) (cs := #[.int .i64 0, .int .i64 0]) (t := 41) ?_; intro gb129 hg w78 hbox hb; have BK129 := Aside0.mk (hbox); have GW129 := Aside0.mk ((qg : w.heap.size ≤ gb129)); have GE129 := Aside0.mk ((qg : w.heap.size ≤ gb129)); have NB101_129 := Aside0.mk ((by rw [hg]; exact Nat.ne_of_lt (blk_lt (g := gb101) (o := .cells #[.slice A0_0 l0_0.length c0_0] 70 (0, 0)) (qk BK101.out)) : gb101 ≠ gb129)); have NB129_101 := Aside0.mk ((by rw [hg]; exact Nat.ne_of_gt (blk_lt (g := gb101) (o := .cells #[.slice A0_0 l0_0.length c0_0] 70 (0, 0)) (qk BK101.out)) : gb129 ≠ gb101)); have NB110_129 := Aside0.mk ((by rw [hg]; exact Nat.ne_of_lt (blk_lt (g := gb110) (o := .cells #[.slice A0_0 y106.length c0_0] 70 (0, 0)) (qk BK110.out)) : gb110 ≠ gb129)); have NB129_110 := Aside0.mk ((by rw [hg]; exact Nat.ne_of_gt (blk_lt (g := gb110) (o := .cells #[.slice A0_0 y106.length c0_0] 70 (0, 0)) (qk BK110.out)) : gb129 ≠ gb110)); have NB119_129 := Aside0.mk ((by rw [hg]; exact Nat.ne_of_lt (blk_lt (g := gb119) (o := .cells #[.slice Ao66 t113.length co66] 70 (0, 0)) (qk BK119.out)) : gb119 ≠ gb129)); have NB129_119 := Aside0.mk ((by rw [hg]; exact Nat.ne_of_gt (blk_lt (g := gb119) (o := .cells #[.slice Ao66 t113.length co66] 70 (0, 0)) (qk BK119.out)) : gb129 ≠ gb119)); have NB120_129 := Aside0.mk ((by rw [hg]; exact Nat.ne_of_lt (blk_lt (g := gb120) (o := .cells #[.int .i64 t117, .int .i64 t118] 41 (0, 0)) (qk BK120.out)) : gb120 ≠ gb129)); have NB129_120 := Aside0.mk ((by rw [hg]; exact Nat.ne_of_gt (blk_lt (g := gb120) (o := .cells #[.int .i64 t117, .int .i64 t118] 41 (0, 0)) (qk BK120.out)) : gb129 ≠ gb120)); have NB128_129 := Aside0.mk ((by rw [hg]; exact Nat.ne_of_lt (blk_lt (g := gb128) (o := .cells #[.slice none 0 0] 70 (0, 0)) (qk BK128.out)) : gb128 ≠ gb129)); have NB129_128 := Aside0.mk ((by rw [hg]; exact Nat.ne_of_gt (blk_lt (g := gb128) (o := .cells #[.slice none 0 0] 70 (0, 0)) (qk BK128.out)) : gb129 ≠ gb128)); replace HO115 := cS HO115 hb; replace HO124 := cS HO124 hb; replace BK101 := cK BK101 hb; replace BK110 := cK BK110 hb; replace BK119 := cK BK119 hb; replace BK120 := cK BK120 hb; replace BK128 := cK BK128 hb; replace HB := cB HB hb; clear hb hbox hg; obtain ⟨Ao79, co79, eo79⟩ := Kd.S_slice HO124.out; subst eo79; have hnb80 := NB128_101.out; have hnc80 := NB101_128.out; have hnb81 := NB128_110.out; have hnc81 := NB110_128.out; have hnb82 := NB128_119.out; have hnc82 := NB119_128.out; have hnb83 := NB128_120.out; have hnc83 := NB120_128.out; have hnb84 := NB128_129.out; have hnc84 := NB129_128.out; have hcz85_0 : w78.cell? ⟨gb128, 0, none⟩ = some (.slice none 0 0) := (blk_cell BK128.out 0).trans rfl; have hfz85_0 := blk_frozen BK128.out 0; have hnb86 := NB129_101.out; have hnc86 := NB101_129.out; have hnb87 := NB129_110.out; have hnc87 := NB110_129.out; have hnb88 := NB129_119.out; have hnc88 := NB119_129.out; have hnb89 := NB129_120.out; have hnc89 := NB120_129.out; have hcz90_0 : w78.cell? ⟨gb129, 0, none⟩ = some (.int .i64 0) := (blk_cell BK129.out 0).trans rfl; have hcz90_1 : w78.cell? ⟨gb129, 1, none⟩ = some (.int .i64 0) := (blk_cell BK129.out 1).trans rfl; have hfz90_0 := blk_frozen BK129.out 0; have hfz90_1 := blk_frozen BK129.out 1; have hcz91_0 : w78.cell? ⟨gb120, 0, none⟩ = some (.int .i64 t117) := (blk_cell BK120.out 0).trans rfl; have hcz91_1 : w78.cell? ⟨gb120, 1, none⟩ = some (.int .i64 t118) := (blk_cell BK120.out 1).trans rfl; have hfz91_0 := blk_frozen BK120.out 0; have hfz91_1 := blk_frozen BK120.out 1))
           go_ret
           exact ⟨by first | rfl | (simp [errW_none, errW_some] <;> rfl) | (simp only [← hji43]; first | rfl | (simp [errW_none, errW_some] <;> rfl)) | (simp [*, errW_none, errW_some] <;> rfl), qb⟩
         ·rw [if_neg c53] at H; have c53b0 := decide_eq_false c53; clear c53; obtain rfl := Option.some.inj H; obtain ⟨hcz92_0, hfz92_0⟩ := bc1 BK101.out; have q93 : ((ji43) : Int) ≤ ((l0_0.length : Int) : Int) := of_decide_eq_true qa; obtain ⟨i093, hi093, _, hsz93, _⟩ := info_parts info38; have hroom93 : l0_0.length ≤ c0_0 := HC0_0.out; have hC93 : Kd.C (Kd.slice 3 (Kd.int .i64)) _ A0_0 l0_0.length l0_0 := HR0_0.out; have hcut93 := cut_to (P := Tryz.prog) 68 38 .i64 Tryz.underlying68 hi093 A0_0 l0_0.length c0_0 (ji43) (of_decide_eq_true qa) q93 hroom93; have hr93 := Kd.C_take (m := ((ji43) : Int).toNat) hC93 (by omega); have hy93 : y106.length = ((ji43) : Int).toNat := (by rw [Ny106.out, List.length_take]; omega); rw [← Ny106.out] at hr93; rw [← hy93] at hcut93; have HR109 := Aside0.mk hr93; have HC109 := Aside0.mk (show y106.length ≤ c0_0 from by omega); clear hr93 hC93 hroom93 hi093 hsz93; have KY93 := Aside0.mk hy93; clear hy93; replace q93 := eq_true q93
          go_wp2_with (first | ((with_reducible refine gate_dst (N := 8) rfl ?_); (try (refine gate_guard (by rfl) ?_; dsimp only)); refine box_ev (N := 8) (cs := #[.slice none 0 0]) (t := 70) ?_; intro gb110 hg w94 hbox hb; have BK110 := Aside0.mk (hbox); have GW110 := Aside0.mk ((qg : w.heap.size ≤ gb110)); have GE110 := Aside0.mk ((qg : w.heap.size ≤ gb110)); have NB101_110 := Aside0.mk ((by rw [hg]; exact Nat.ne_of_lt (blk_lt (g := gb101) (o := .cells #[.slice A0_0 l0_0.length c0_0] 70 (0, 0)) (qk BK101.out)) : gb101 ≠ gb110)); have NB110_101 := Aside0.mk ((by rw [hg]; exact Nat.ne_of_gt (blk_lt (g := gb101) (o := .cells #[.slice A0_0 l0_0.length c0_0] 70 (0, 0)) (qk BK101.out)) : gb110 ≠ gb101)); replace BK101 := cK BK101 hb; replace HB := cB HB hb; clear hb hbox hg; have hnb95 := NB110_101.out; have hnc95 := NB101_110.out; have hcz96_0 : w94.cell? ⟨gb110, 0, none⟩ = some (.slice none 0 0) := (blk_cell BK110.out 0).trans rfl; have hfz96_0 := blk_frozen BK110.out 0) | ((with_reducible refine gate_callee (f := 44) rfl ?_); refine goesL_ (some 55) rfl rfl Tryz.func44 (by kernel_rfl) rfl #[.agg #[.slice A0_0 y106.length c0_0], .int .i64 (-1), .bool true] rfl qm ?_; (with_reducible refine (tour_PrintRoutes.calls _ _ y106 (-1) true t111 _ ?side1 ?side2 (Tabs.kept HT0.out qb) A46.out).mono ?_); (case side1 => exact Kd.C_below HR109.out qb); (case side2 => exact HC109.out); rintro e w97 ⟨rfl, hb⟩; refine ⟨_, rfl, ?_⟩; have n0_ := Aside0.mk (blk_below (g := gb101) (o := .cells #[.slice A0_0 l0_0.length c0_0] 70 (0, 0)) (by refine qk ?_; refine blk_far ?_ NB101_110.out _; refine qk ?_; exact BK101.out) hb); have n1_ := Aside0.mk (blk_below (g := gb110) (o := .cells #[.slice A0_0 y106.length c0_0] 70 (0, 0)) (by refine qk ?_; refine blk_put (cs := #[.slice none 0 0]) ?_ 0 _ rfl; refine qk ?_; exact BK110.out) hb); replace HB := cB HB hb; replace BK101 := n0_; replace BK110 := n1_; clear n0_ n1_; (try clear hb); (try clear hb2); (try clear hk); (try clear hi); have hcz98_0 : w97.cell? ⟨gb101, 0, none⟩ = some (.slice A0_0 l0_0.length c0_0) := (blk_cell BK101.out 0).trans rfl; have hfz98_0 := blk_frozen BK101.out 0) | ((with_reducible refine gate_callee (f := 44) rfl ?_); refine goesL_ (some 60) rfl rfl Tryz.func44 (by kernel_rfl) rfl #[.agg #[.slice A0_0 l0_0.length c0_0], .int .i64 a1, .bool true] rfl qm ?_; (with_reducible refine (tour_PrintRoutes.calls _ _ l0_0 a1 true t112 _ ?side1 ?side2 (Tabs.kept HT0.out qb) A47.out).mono ?_); (case side1 => exact qC (Kd.C_below HR0_0.out HB.out)); (case side2 => exact HC0_0.out); rintro e w99 ⟨rfl, hb⟩; refine ⟨_, rfl, ?_⟩; replace BK101 := cK BK101 hb; replace BK110 := cK BK110 hb; replace HB := cB HB hb; (try clear hb); (try clear hb2); (try clear hk); (try clear hi)) | ((with_reducible refine gate_callee (f := 36) rfl ?_); refine goesL_ (some 62) rfl rfl Tryz.func36 (by kernel_rfl) rfl #[.string (t111 ++ t112)] rfl qm ?_; (with_reducible refine (tour_ParseRoutes.calls (t111 ++ t112) t113 t116 t117 t118 _ (Tabs.kept HT0.out qb) A49.out).mono ?_); rintro e w100 ⟨v114, rfl, ho0, hb⟩; refine ⟨_, rfl, ?_⟩; have HO115 := Aside0.mk (Kd.S_lower ho0 (below_size qb)); replace BK101 := cK BK101 hb; replace BK110 := cK BK110 hb; replace HB := cB HB hb; (try clear hb); (try clear hb2); (try clear hk); (try clear hi); (try clear ho0)) | ((with_reducible refine gate_dst (N := 10) rfl ?_); (try (refine gate_guard (by rfl) ?_; dsimp only)); refine box_ev (N := 10) (cs := #[.slice none 0 0]) (t := 70) ?_; intro gb119 hg w101 hbox hb; have BK119 := Aside0.mk (hbox); have GW119 := Aside0.mk ((qg : w.heap.size ≤ gb119)); have GE119 := Aside0.mk ((qg : w.heap.size ≤ gb119)); have NB101_119 := Aside0.mk ((by rw [hg]; exact Nat.ne_of_lt (blk_lt (g := gb101) (o := .cells #[.slice A0_0 l0_0.length c0_0] 70 (0, 0)) (qk BK101.out)) : gb101 ≠ gb119)); have NB119_101 := Aside0.mk ((by rw [hg]; exact Nat.ne_of_gt (blk_lt (g := gb101) (o := .cells #[.slice A0_0 l0_0.length c0_0] 70 (0, 0)) (qk BK101.out)) : gb119 ≠ gb101)); have NB110_119 := Aside0.mk ((by rw [hg]; exact Nat.ne_of_lt (blk_lt (g := gb110) (o := .cells #[.slice A0_0 y106.length c0_0] 70 (0, 0)) (qk BK110.out)) : gb110 ≠ gb119)); have NB119_110 := Aside0.mk ((by rw [hg]; exact Nat.ne_of_gt (blk_lt (g := gb110) (o := .cells #[.slice A0_0 y106.length c0_0] 70 (0, 0)) (qk BK110.out)) : gb119 ≠ gb110)); replace HO115 := cS HO115 hb; replace BK101 := cK BK101 hb; replace BK110 := cK BK110 hb; replace HB := cB HB hb; clear hb hbox hg) | ((with_reducible refine gate_dst (N := 12) rfl ?_); (try (refine gate_guard (by rfl) ?_; dsimp only)); refine box_ev (N := 12) (cs := #[.int .i64 0, .int .i64 0]) (t := 41) ?_; intro gb120 hg w102 hbox hb; have BK120 := Aside0.mk (hbox); have GW120 := Aside0.mk ((qg : w.heap.size ≤ gb120)); have GE120 := Aside0.mk ((qg : w.heap.size ≤ gb120)); have NB101_120 := Aside0.mk ((by rw [hg]; exact Nat.ne_of_lt (blk_lt (g := gb101) (o := .cells #[.slice A0_0 l0_0.length c0_0] 70 (0, 0)) (qk BK101.out)) : gb101 ≠ gb120)); have NB120_101 := Aside0.mk ((by rw [hg]; exact Nat.ne_of_gt (blk_lt (g := gb101) (o := .cells #[.slice A0_0 l0_0.length c0_0] 70 (0, 0)) (qk BK101.out)) : gb120 ≠ gb101)); have NB110_120 := Aside0.mk ((by rw [hg]; exact Nat.ne_of_lt (blk_lt (g := gb110) (o := .cells #[.slice A0_0 y106.length c0_0] 70 (0, 0)) (qk BK110.out)) : gb110 ≠ gb120)); have NB120_110 := Aside0.mk ((by rw [hg]; exact Nat.ne_of_gt (blk_lt (g := gb110) (o := .cells #[.slice A0_0 y106.length c0_0] 70 (0, 0)) (qk BK110.out)) : gb120 ≠ gb110)); have NB119_120 := Aside0.mk ((by rw [hg]; exact Nat.ne_of_lt (blk_lt (g := gb119) (o := .cells #[.slice none 0 0] 70 (0, 0)) (qk BK119.out)) : gb119 ≠ gb120)); have NB120_119 := Aside0.mk ((by rw [hg]; exact Nat.ne_of_gt (blk_lt (g := gb119) (o := .cells #[.slice none 0 0] 70 (0, 0)) (qk BK119.out)) : gb120 ≠ gb119)); replace HO115 := cS HO115 hb; replace BK101 := cK BK101 hb; replace BK110 := cK BK110 hb; replace BK119 := cK BK119 hb; replace HB := cB HB hb; clear hb hbox hg; obtain ⟨Ao103, co103, eo103⟩ := Kd.S_slice HO115.out; subst eo103; have hnb104 := NB119_101.out; have hnc104 := NB101_119.out; have hnb105 := NB119_110.out; have hnc105 := NB110_119.out; have hnb106 := NB119_120.out; have hnc106 := NB120_119.out; have hcz107_0 : w102.cell? ⟨gb119, 0, none⟩ = some (.slice none 0 0) := (blk_cell BK119.out 0).trans rfl; have hfz107_0 := blk_frozen BK119.out 0; have hnb108 := NB120_101.out; have hnc108 := NB101_120.out; have hnb109 := NB120_110.out; have hnc109 := NB110_120.out; have hcz110_0 : w102.cell? ⟨gb120, 0, none⟩ = some (.int .i64 0) := (blk_cell BK120.out 0).trans rfl; have hcz110_1 : w102.cell? ⟨gb120, 1, none⟩ = some (.int .i64 0) := (blk_cell BK120.out 1).trans rfl; have hfz110_0 := blk_frozen BK120.out 0; have hfz110_1 := blk_frozen BK120.out 1; have hcz111_0 : w102.cell? ⟨gb101, 0, none⟩ = some (.slice A0_0 l0_0.length c0_0) := (blk_cell BK101.out 0).trans rfl; have hfz111_0 := blk_frozen BK101.out 0) | ((with_reducible refine gate_callee (f := 44) rfl ?_); refine goesL_ (some 68) rfl rfl Tryz.func44 (by kernel_rfl) rfl #[.agg #[.slice A0_0 l0_0.length c0_0], .int .i64 a1, .bool false] rfl qm ?_; (with_reducible refine (tour_PrintRoutes.calls _ _ l0_0 a1 false t121 _ ?side1 ?side2 (Tabs.kept HT0.out qb) A50.out).mono ?_); (case side1 => exact Kd.C_below HR0_0.out qb); (case side2 => exact HC0_0.out); rintro e w112 ⟨rfl, hb⟩; refine ⟨_, rfl, ?_⟩; have n0_ := Aside0.mk (Kd.S_below (by refine qS ?_; exact (Kd.S_mono (Kd.S_mono (Kd.S_far (p := ⟨gb120, 1, none⟩) (Kd.S_far (p := ⟨gb120, 0, none⟩) (Kd.S_far (p := ⟨gb119, 0, none⟩) (Kd.S_types (Kd.S_types HO115.out BK119.out (by decide)) BK120.out (by decide)) (fun _ hk => hk.1.2) (.slice Ao103 t113.length co103)) (fun _ hk => hk.2) (.int .i64 t117)) (fun _ hk => hk.2) (.int .i64 t118)) (fun _ h_ => by first | exact h_.1 | exact ⟨trivial, h_.1⟩)) (fun _ h_ => by first | exact h_.1 | exact ⟨trivial, h_.1⟩))) hb); have n1_ := Aside0.mk (blk_below (g := gb101) (o := .cells #[.slice A0_0 l0_0.length c0_0] 70 (0, 0)) (by refine qk ?_; refine blk_far ?_ NB101_120.out _; refine qk ?_; refine blk_far ?_ NB101_120.out _; refine qk ?_; refine blk_far ?_ NB101_119.out _; refine qk ?_; exact BK101.out) hb); have n2_ := Aside0.mk (blk_below (g := gb110) (o := .cells #[.slice A0_0 y106.length c0_0] 70 (0, 0)) (by refine qk ?_; refine blk_far ?_ NB110_120.out _; refine qk ?_; refine blk_far ?_ NB110_120.out _; refine qk ?_; refine blk_far ?_ NB110_119.out _; refine qk ?_; exact BK110.out) hb); have n3_ := Aside0.mk (blk_below (g := gb119) (o := .cells #[.slice Ao103 t113.length co103] 70 (0, 0)) (by refine qk ?_; refine blk_far ?_ NB119_120.out _; refine qk ?_; refine blk_far ?_ NB119_120.out _; refine qk ?_; refine blk_put (cs := #[.slice none 0 0]) ?_ 0 _ rfl; refine qk ?_; exact BK119.out) hb); have n4_ := Aside0.mk (blk_below (g := gb120) (o := .cells #[.int .i64 t117, .int .i64 t118] 41 (0, 0)) (by refine qk ?_; refine blk_put (cs := #[.int .i64 t117, .int .i64 0]) ?_ 1 _ rfl; refine qk ?_; refine blk_put (cs := #[.int .i64 0, .int .i64 0]) ?_ 0 _ rfl; refine qk ?_; refine blk_far ?_ NB120_119.out _; refine qk ?_; exact BK120.out) hb); replace HB := cB HB hb; replace HO115 := n0_; replace BK101 := n1_; replace BK110 := n2_; replace BK119 := n3_; replace BK120 := n4_; clear n0_ n1_ n2_ n3_ n4_; (try clear hb); (try clear hb2); (try clear hk); (try clear hi)) | ((with_reducible refine gate_callee (f := 36) rfl ?_); refine goesL_ (some 72) rfl rfl Tryz.func36 (by kernel_rfl) rfl #[.string (t121 ++ (⟨#[82, 111, 117, 116, 101, 32, 49, 32, 58, 10]⟩ : ByteArray))] rfl qm ?_; (with_reducible refine (tour_ParseRoutes.calls (t121 ++ (⟨#[82, 111, 117, 116, 101, 32, 49, 32, 58, 10]⟩ : ByteArray)) t122 t125 t126 t127 _ (Tabs.kept HT0.out qb) A52.out).mono ?_); rintro e w113 ⟨v123, rfl, ho0, hb⟩; refine ⟨_, rfl, ?_⟩; have n0_ := Aside0.mk (Kd.S_elder' (qS HO115.out) (Kd.S_base ho0) hb); have HO124 := Aside0.mk (Kd.S_lower (Kd.S_new' ho0 (Kd.S_lt (qS HO115.out))) (below_size qb)); replace BK101 := cK BK101 hb; replace BK110 := cK BK110 hb; replace BK119 := cK BK119 hb; replace BK120 := cK BK120 hb; replace HB := cB HB hb; replace HO115 := n0_; clear n0_; (try clear hb); (try clear hb2); (try clear hk); (try clear hi); (try clear ho0)) | ((with_reducible refine gate_dst (N := 14) rfl ?_); (try (refine gate_guard (by rfl) ?_; dsimp only)); refine box_ev (N := 14) (cs := #[.slice none 0 0]) (t := 70) ?_; intro gb128 hg w114 hbox hb; have BK128 := Aside0.mk (hbox); have GW128 := Aside0.mk ((qg : w.heap.size ≤ gb128)); have GE128 := Aside0.mk ((qg : w.heap.size ≤ gb128)); have NB101_128 := Aside0.mk ((by rw [hg]; exact Nat.ne_of_lt (blk_lt (g := gb101) (o := .cells #[.slice A0_0 l0_0.length c0_0] 70 (0, 0)) (qk BK101.out)) : gb101 ≠ gb128)); have NB128_101 := Aside0.mk ((by rw [hg]; exact Nat.ne_of_gt (blk_lt (g := gb101) (o := .cells #[.slice A0_0 l0_0.length c0_0] 70 (0, 0)) (qk BK101.out)) : gb128 ≠ gb101)); have NB110_128 := Aside0.mk ((by rw [hg]; exact Nat.ne_of_lt (blk_lt (g := gb110) (o := .cells #[.slice A0_0 y106.length c0_0] 70 (0, 0)) (qk BK110.out)) : gb110 ≠ gb128)); have NB128_110 := Aside0.mk ((by rw [hg]; exact Nat.ne_of_gt (blk_lt (g := gb110) (o := .cells #[.slice A0_0 y106.length c0_0] 70 (0, 0)) (qk BK110.out)) : gb128 ≠ gb110)); have NB119_128 := Aside0.mk ((by rw [hg]; exact Nat.ne_of_lt (blk_lt (g := gb119) (o := .cells #[.slice Ao103 t113.length co103] 70 (0, 0)) (qk BK119.out)) : gb119 ≠ gb128)); have NB128_119 := Aside0.mk ((by rw [hg]; exact Nat.ne_of_gt (blk_lt (g := gb119) (o := .cells #[.slice Ao103 t113.length co103] 70 (0, 0)) (qk BK119.out)) : gb128 ≠ gb119)); have NB120_128 := Aside0.mk ((by rw [hg]; exact Nat.ne_of_lt (blk_lt (g := gb120) (o := .cells #[.int .i64 t117, .int .i64 t118] 41 (0, 0)) (qk BK120.out)) : gb120 ≠ gb128)); have NB128_120 := Aside0.mk ((by rw [hg]; exact Nat.ne_of_gt (blk_lt (g := gb120) (o := .cells #[.int .i64 t117, .int .i64 t118] 41 (0, 0)) (qk BK120.out)) : gb128 ≠ gb120)); replace HO115 := cS HO115 hb; replace HO124 := cS HO124 hb; replace BK101 := cK BK101 hb; replace BK110 := cK BK110 hb; replace BK119 := cK BK119 hb; replace BK120 := cK BK120 hb; replace HB := cB HB hb; clear hb hbox hg) | ((with_reducible refine gate_dst (N := 16) rfl ?_); (try (refine gate_guard (by rfl) ?_; dsimp only)); refine box_ev (N := 16) (cs := #[.int .i64 0, .int .i64 0]) (t := 41) ?_; intro gb129 hg w115 hbox hb; have BK129 := Aside0.mk (hbox); have GW129 := Aside0.mk ((qg : w.heap.size ≤ gb129)); have GE129 := Aside0.mk ((qg : w.heap.size ≤ gb129)); have NB101_129 := Aside0.mk ((by rw [hg]; exact Nat.ne_of_lt (blk_lt (g := gb101) (o := .cells #[.slice A0_0 l0_0.length c0_0] 70 (0, 0)) (qk BK101.out)) : gb101 ≠ gb129)); have NB129_101 := Aside0.mk ((by rw [hg]; exact Nat.ne_of_gt (blk_lt (g := gb101) (o := .cells #[.slice A0_0 l0_0.length c0_0] 70 (0, 0)) (qk BK101.out)) : gb129 ≠ gb101)); have NB110_129 := Aside0.mk ((by rw [hg]; exact Nat.ne_of_lt (blk_lt (g := gb110) (o := .cells #[.slice A0_0 y106.length c0_0] 70 (0, 0)) (qk BK110.out)) : gb110 ≠ gb129)); have NB129_110 := Aside0.mk ((by rw [hg]; exact Nat.ne_of_gt (blk_lt (g := gb110) (o := .cells #[.slice A0_0 y106.length c0_0] 70 (0, 0)) (qk BK110.out)) : gb129 ≠ gb110)); have NB119_129 := Aside0.mk ((by rw [hg]; exact Nat.ne_of_lt (blk_lt (g := gb119) (o := .cells #[.slice Ao103 t113.length co103] 70 (0, 0)) (qk BK119.out)) : gb119 ≠ gb129)); have NB129_119 := Aside0.mk ((by rw [hg]; exact Nat.ne_of_gt (blk_lt (g := gb119) (o := .cells #[.slice Ao103 t113.length co103] 70 (0, 0)) (qk BK119.out)) : gb129 ≠ gb119)); have NB120_129 := Aside0.mk ((by rw [hg]; exact Nat.ne_of_lt (blk_lt (g := gb120) (o := .cells #[.int .i64 t117, .int .i64 t118] 41 (0, 0)) (qk BK120.out)) : gb120 ≠ gb129)); have NB129_120 := Aside0.mk ((by rw [hg]; exact Nat.ne_of_gt (blk_lt (g := gb120) (o := .cells #[.int .i64 t117, .int .i64 t118] 41 (0, 0)) (qk BK120.out)) : gb129 ≠ gb120)); have NB128_129 := Aside0.mk ((by rw [hg]; exact Nat.ne_of_lt (blk_lt (g := gb128) (o := .cells #[.slice none 0 0] 70 (0, 0)) (qk BK128.out)) : gb128 ≠ gb129)); have NB129_128 := Aside0.mk ((by rw [hg]; exact Nat.ne_of_gt (blk_lt (g := gb128) (o := .cells #[.slice none 0 0] 70 (0, 0)) (qk BK128.out)) : gb129 ≠ gb128)); replace HO115 := cS HO115 hb; replace HO124 := cS HO124 hb; replace BK101 := cK BK101 hb; replace BK110 := cK BK110 hb; replace BK119 := cK BK119 hb; replace BK120 := cK BK120 hb; replace BK128 := cK BK128 hb; replace HB := cB HB hb; clear hb hbox hg; obtain ⟨Ao116, co116, eo116⟩ := Kd.S_slice HO124.out; subst eo116; have hnb117 := NB128_101.out; have hnc117 := NB101_128.out; have hnb118 := NB128_110.out; have hnc118 := NB110_128.out; have hnb119 := NB128_119.out; have hnc119 := NB119_128.out; have hnb120 := NB128_120.out; have hnc120 := NB120_128.out; have hnb121 := NB128_129.out; have hnc121 := NB129_128.out; have hcz122_0 : w115.cell? ⟨gb128, 0, none⟩ = some (.slice none 0 0) := (blk_cell BK128.out 0).trans rfl; have hfz122_0 := blk_frozen BK128.out 0; have hnb123 := NB129_101.out; have hnc123 := NB101_129.out; have hnb124 := NB129_110.out; have hnc124 := NB110_129.out; have hnb125 := NB129_119.out; have hnc125 := NB119_129.out; have hnb126 := NB129_120.out; have hnc126 := NB120_129.out; have hcz127_0 : w115.cell? ⟨gb129, 0, none⟩ = some (.int .i64 0) := (blk_cell BK129.out 0).trans rfl; have hcz127_1 : w115.cell? ⟨gb129, 1, none⟩ = some (.int .i64 0) := (blk_cell BK129.out 1).trans rfl; have hfz127_0 := blk_frozen BK129.out 0; have hfz127_1 := blk_frozen BK129.out 1))
          go_ret
          exact ⟨by first | rfl | (simp [errW_none, errW_some] <;> rfl) | (simp only [← hji43]; first | rfl | (simp [errW_none, errW_some] <;> rfl)) | (simp [*, errW_none, errW_some] <;> rfl), qb⟩
        ·rw [if_neg c51] at H
         exact absurd H (by simp)
       ·rw [if_neg c48] at H
        exact absurd H (by simp)
      ·rw [if_neg c45] at H
       exact absurd H (by simp)
     ·rw [if_neg c44] at H
      exact absurd H (by simp)
end Go.Proofs.YtadocbfchdendaaGreatDoor.P
namespace Go.Proofs.YtadocbfchdendaaGreatDoor.P
open Go.RowKit
def entrepotlaw16_TourOrder.Pure : Prop := ∀ (a0_0 : List (List (Int))) (a1 : Int) (a2 : Int), (a0_0.length ≤ maxLen ∧ ∀ v0 ∈ a0_0, (v0.length ≤ maxLen ∧ ∀ v1 ∈ v0, (Lit.int .i64 v1).wf = true)) → (Lit.int .i64 a1).wf = true → (Lit.int .u8 a2).wf = true → ∃ k, entrepotlaw16_TourOrder.f k a0_0 a1 a2 = some true
end Go.Proofs.YtadocbfchdendaaGreatDoor.P
namespace Go.Proofs.YtadocbfchdendaaGreatDoor.P
open Go.RowKit Go.Proofs.YtadocbfchdendaaGreatDoorW.PrintWords Go.Proofs.YtadocbfchdendaaGreatDoorW.PrintLast Go.Proofs.YtadocbfchdendaaGreatDoorW.PrintMore
attribute [local go_sem] max2_int min2_int max_two min_two max_three min_three max_four min_four
set_option linter.unusedVariables false
set_option linter.unusedSimpArgs false
end Go.Proofs.YtadocbfchdendaaGreatDoor.P
namespace Go.Proofs.YtadocbfchdendaaGreatDoor.Cu
open Go.RowKit Go.Lib Go.Proofs.YtadocbfchdendaaGreatDoorW.PrintWords Go.Proofs.YtadocbfchdendaaGreatDoorW.PrintLast Go.Proofs.YtadocbfchdendaaGreatDoorW.PrintMore Go.Proofs.YtadocbfchdendaaGreatDoor.P
set_option linter.unusedSimpArgs false
set_option linter.unusedVariables false
structure RZ (w W1 : World) (A : Option Addr) (L : List RRow) : Prop where
 bel : Below w.heap.size w W1
 bp : W1.heap[w.heap.size]? = some (.cells #[.slice none 0 0] 73 (0, 0))
 bd : W1.heap[w.heap.size + 1]? = some (.cells #[.int .i64 0, .int .i64 0] 41 (0, 0))
 rows : Kd.C k36 W1 A L.length L
 sz : w.heap.size + 2 ≤ W1.heap.size
structure RS (W1 : World) (g N : Nat) (W : World) (acc : List (List Int)) : Prop where
 b1 : Below W1.heap.size W1 W
 hg : W1.heap.size ≤ g
 plan : ∃ A c, W.heap[g]? = some (.cells #[.slice A acc.length c] 73 (0, 0)) ∧ Kd.S (Kd.slice 3 (Kd.int .i64)) 38 W W1.heap.size (fun k => k < N) (.slice A acc.length c) acc
theorem RS.lt {W1 W : World} {g N : Nat} {acc : List (List Int)} (h : RS W1 g N W acc) : g < W.heap.size := by
 obtain ⟨A, c, h1, h2⟩ := h.plan
 exact blk_lt h1
theorem RS.step {W1 W W' : World} {g N : Nat} {acc : List (List Int)} (h : RS W1 g N W acc) (hb : Below W.heap.size W W') : RS W1 g N W' acc := by
 obtain ⟨A, c, h1, h2⟩ := h.plan
 exact ⟨h.b1.trans (hb.mono h.b1.size), h.hg, ⟨A, c, blk_below h1 hb, Kd.S_below h2 hb⟩⟩
theorem RS.app {W1 W W' : World} {g N N' : Nat} {acc acc' : List (List Int)} (h : RS W1 g N W acc) {row : Option Nat} (hrow : ∀ k, row = some k → W1.heap.size ≤ k) (hne : some g ≠ row) (hg : W.grownBy W' row) (hb : Below W1.heap.size W1 W') {A' : Option Addr} {c' : Nat}
  (ho : Kd.S (Kd.slice 3 (Kd.int .i64)) 38 W' W1.heap.size (fun k => k < N') (.slice A' acc'.length c') acc') : RS W1 g N' (W'.setCell ⟨g, 0, none⟩ (.slice A' acc'.length c')) acc' := by
 have hlt := h.lt
 obtain ⟨A, c, h1, h2⟩ := h.plan
 have hp := (hg.block g hlt hne).trans h1
 exact ⟨hb.setCell (p := ⟨_, _, none⟩) h.hg _, h.hg, ⟨A', c', blk_put hp 0 _ rfl, Kd.S_set ho hp (by decide) 0 _⟩⟩
theorem RS.cells {w W1 W : World} {A : Option Addr} {L : List RRow} {g N : Nat} {acc : List (List Int)} (hz : RZ w W1 A L) (h : RS W1 g N W acc) :
  W.cell? ⟨w.heap.size, 0, none⟩ = some (.slice none 0 0) ∧ W.frozen? ⟨w.heap.size, 0, none⟩ = false ∧ W.cell? ⟨w.heap.size + 1, 0, none⟩ = some (.int .i64 0) ∧ W.cell? ⟨w.heap.size + 1, 1, none⟩ = some (.int .i64 0) ∧ W.frozen? ⟨w.heap.size + 1, 0, none⟩ = false ∧ W.frozen? ⟨w.heap.size + 1, 1, none⟩ = false := by
 have hp := (h.b1.block _ (by have := hz.sz; omega)).trans hz.bp
 have hd := (h.b1.block _ (by have := hz.sz; omega)).trans hz.bd
 exact ⟨(bc1 hp).1, (bc1 hp).2, (bc2 hd).1, (bc2 hd).2.1, (bc2 hd).2.2.1, (bc2 hd).2.2.2⟩
end Go.Proofs.YtadocbfchdendaaGreatDoor.Cu
namespace Go.Proofs.YtadocbfchdendaaGreatDoor.P
open Go.RowKit Go.Lib Go.Proofs.YtadocbfchdendaaGreatDoorW.PrintWords
end Go.Proofs.YtadocbfchdendaaGreatDoor.P
namespace Go.Proofs.YtadocbfchdendaaGreatDoor.P
open Go.RowKit Go.Proofs.YtadocbfchdendaaGreatDoorW.PrintWords Go.Proofs.YtadocbfchdendaaGreatDoorW.PrintLast Go.Proofs.YtadocbfchdendaaGreatDoorW.PrintMore
attribute [local go_sem] max2_int min2_int max_two min_two max_three min_three max_four min_four
set_option linter.unusedVariables false
set_option linter.unusedSimpArgs false
end Go.Proofs.YtadocbfchdendaaGreatDoor.P
namespace Go.Proofs.YtadocbfchdendaaGreatDoor.Cu
open Go.RowKit Go.Lib Go.Proofs.YtadocbfchdendaaGreatDoorW.PrintWords Go.Proofs.YtadocbfchdendaaGreatDoorW.PrintLast Go.Proofs.YtadocbfchdendaaGreatDoorW.PrintMore Go.Proofs.YtadocbfchdendaaGreatDoor.P
set_option linter.unusedSimpArgs false
set_option linter.unusedVariables false
structure UZ (w W1 : World) (A : Option Addr) (R : List RRow) (B : Option Addr) (L : List RLn) : Prop where
 bel : Below w.heap.size w W1
 bp : W1.heap[w.heap.size]? = some (.cells #[.slice none 0 0] 73 (0, 0))
 bd : W1.heap[w.heap.size + 1]? = some (.cells #[.int .i64 0, .int .i64 0] 41 (0, 0))
 rows : Kd.C k36 W1 A R.length R
 lines : Kd.C k100 W1 B L.length L
 sz : w.heap.size + 2 ≤ W1.heap.size
theorem UZ.cells {w W1 W : World} {A : Option Addr} {R : List RRow} {B : Option Addr} {L : List RLn} (hz : UZ w W1 A R B L) (h : Below W1.heap.size W1 W) :
  W.cell? ⟨w.heap.size, 0, none⟩ = some (.slice none 0 0) ∧ W.frozen? ⟨w.heap.size, 0, none⟩ = false ∧ W.cell? ⟨w.heap.size + 1, 0, none⟩ = some (.int .i64 0) ∧ W.cell? ⟨w.heap.size + 1, 1, none⟩ = some (.int .i64 0) ∧ W.frozen? ⟨w.heap.size + 1, 0, none⟩ = false ∧ W.frozen? ⟨w.heap.size + 1, 1, none⟩ = false := by
 have hp := (h.block _ (by have := hz.sz; omega)).trans hz.bp
 have hd := (h.block _ (by have := hz.sz; omega)).trans hz.bd
 exact ⟨(bc1 hp).1, (bc1 hp).2, (bc2 hd).1, (bc2 hd).2.1, (bc2 hd).2.2.1, (bc2 hd).2.2.2⟩
end Go.Proofs.YtadocbfchdendaaGreatDoor.Cu
namespace Go.Proofs.YtadocbfchdendaaGreatDoor.P
open Go.RowKit Go.Lib Go.Proofs.YtadocbfchdendaaGreatDoorW.PrintWords
end Go.Proofs.YtadocbfchdendaaGreatDoor.P
namespace Go.Proofs.YtadocbfchdendaaGreatDoor.Cu
open Go.RowKit Go.Lib Go.Proofs.YtadocbfchdendaaGreatDoorW.PrintWords Go.Proofs.YtadocbfchdendaaGreatDoorW.PrintLast Go.Proofs.YtadocbfchdendaaGreatDoorW.PrintMore Go.Proofs.YtadocbfchdendaaGreatDoor.P
set_option linter.unusedSimpArgs false
end Go.Proofs.YtadocbfchdendaaGreatDoor.Cu
namespace Go.Proofs.YtadocbfchdendaaGreatDoor.Cu
open Go.RowKit Go.Lib Go.Proofs.YtadocbfchdendaaGreatDoorW.PrintWords Go.Proofs.YtadocbfchdendaaGreatDoorW.PrintLast Go.Proofs.YtadocbfchdendaaGreatDoorW.PrintMore Go.Proofs.YtadocbfchdendaaGreatDoor.P Go.Proofs.YtadocbfchdendaaGreatDoor.Sp
set_option linter.unusedSimpArgs false
theorem linesF_sorted (s : List UInt8) (d : Nat) : ∀ a, s.length - a ≤ d → (∀ y ∈ linesF (s.length - a) (s.drop a) a, (a : Int) ≤ y.f0 ∧ y.f0 < y.f2) ∧ List.Pairwise (fun x y : Ln => x.f2 ≤ y.f0) (linesF (s.length - a) (s.drop a) a) := by
 induction d with
 | zero =>
  intro a ha
  rw [show s.length - a = 0 by omega]
  exact ⟨by simp [linesF], by simp [linesF]⟩
 | succ d ih =>
  intro a ha
  by_cases h : a < s.length
  ·obtain ⟨h1, h2, h3⟩ := lineX_next s a h
   have h0 : (lineX (s.drop a) a).f0 = (a : Int) := by unfold lineX; split <;> rfl
   rw [lines_step s a h]
   obtain ⟨i1, i2⟩ := ih (lineX (s.drop a) a).f2.toNat (by omega)
   refine ⟨fun y hy => ?_, List.pairwise_cons.2 ⟨fun y hy => ?_, i2⟩⟩
   ·rcases List.mem_cons.1 hy with rfl | hy
    ·rw [h0]; omega
    ·have := i1 y hy; omega
   ·have := i1 y hy; omega
  ·rw [show s.length - a = 0 by omega]
   exact ⟨by simp [linesF], by simp [linesF]⟩
theorem rowsL_sorted (s : List UInt8) : (∀ y ∈ rowsL s, 0 ≤ y.f0 ∧ y.f0 < y.f2) ∧ List.Pairwise (fun x y : Ln => x.f2 ≤ y.f0) (rowsL s) := by
 obtain ⟨h1, h2⟩ := linesF_sorted s s.length 0 (by omega)
 unfold rowsL linesL
 rw [Nat.sub_zero, List.drop_zero] at h1 h2
 exact ⟨fun y hy => h1 y (List.mem_filter.1 hy).1, List.Pairwise.filter _ h2⟩
theorem shR_zero (s : List UInt8) : shR s 0 = (rowsL s).map (rowOf s) := by
 unfold shR
 congr 1
 exact List.filter_eq_self.2 (fun z hz => by simpa using (rowsL_sorted s).1 z hz |>.1)
end Go.Proofs.YtadocbfchdendaaGreatDoor.Cu
namespace Go.Proofs.YtadocbfchdendaaGreatDoor.Cu
open Go.RowKit Go.Lib Go.Proofs.YtadocbfchdendaaGreatDoorW.PrintWords Go.Proofs.YtadocbfchdendaaGreatDoorW.PrintLast Go.Proofs.YtadocbfchdendaaGreatDoorW.PrintMore Go.Proofs.YtadocbfchdendaaGreatDoor.P
set_option linter.unusedSimpArgs false
end Go.Proofs.YtadocbfchdendaaGreatDoor.Cu
namespace Go.Proofs.YtadocbfchdendaaGreatDoor.Cu
open Go.RowKit Go.Lib Go.Proofs.YtadocbfchdendaaGreatDoorW.PrintWords Go.Proofs.YtadocbfchdendaaGreatDoorW.PrintLast Go.Proofs.YtadocbfchdendaaGreatDoorW.PrintMore Go.Proofs.YtadocbfchdendaaGreatDoor.P Go.Proofs.YtadocbfchdendaaGreatDoor.Sp
set_option linter.unusedSimpArgs false
theorem rows_ok (s : ByteArray) : ∀ x ∈ shR s.data.toList 0, x.f1 ≠ [] ∧ (∀ y ∈ x.f1, WOk s y) ∧ 0 ≤ x.f0 ∧ x.f0 ≤ (s.size : Int) := by
 intro x hx
 rw [shR_zero] at hx
 obtain ⟨l, hl, rfl⟩ := List.mem_map.1 hx
 obtain ⟨h0, h1, h2⟩ := rowsL_ok s l hl
 have hnb : blankL s.data.toList l = false := by
  have := (List.mem_filter.1 hl).2
  simpa using this
 refine ⟨fun he => ?_, fun y hy => ?_, h0, by show l.f0 ≤ _; omega⟩
 ·have := (fieldsG_ne _ _ _ he).2
  unfold blankL at hnb
  rw [this] at hnb
  cases hnb
 ·obtain ⟨p, q, h3, h4, h5, h6⟩ := fieldsG_words s l.f1.toNat (by omega) (l.f1.toNat - l.f0.toNat) l.f0.toNat none (by omega) (fun p h => by cases h) y hy
  exact ⟨p, q, h3, h4, by omega, h6⟩
abbrev routeL : List UInt8 := [82, 111, 117, 116, 101]
def begS (s : ByteArray) (ws : List Wd) (k : Int) : Int := match ws with
 | x :: y :: r => if wtx s x = routeL then (if wtx s y = 35 :: (Lib.itoa k ++ [58]) then 2 else if wtx s y = Lib.itoa k then (match r with | z :: _ => if wtx s z = [58] then 3 else 0 | [] => 0) else 0) else 0
 | _ => 0
theorem joinW2 (s : ByteArray) (x y : Wd) : joinW s [x, y] = wtx s x ++ 32 :: wtx s y := by
 unfold joinW wtx
 simp [Lib.join, Lib.joinTail]
theorem joinW3 (s : ByteArray) (x y z : Wd) : joinW s [x, y, z] = wtx s x ++ 32 :: (wtx s y ++ 32 :: wtx s z) := by
 unfold joinW wtx
 simp [Lib.join, Lib.joinTail]
theorem begins_p (s : ByteArray) (hs : s.size ≤ 90000) (f0 : Int) (ws : List Wd) (hl : ws.length ≤ 100000) (hw : ∀ y ∈ ws, WOk s y) (k : Int) (hk0 : 0 ≤ k) (hk : k ≤ 1000000) : tour_begins.f 200000 s f0 ws k = some (begS s ws k) := by
 have hil := itoa_length_le k (by omega) (by omega)
 have hI : strconv_Itoa.f k = some ⟨(Lib.itoa k).toArray⟩ := by unfold strconv_Itoa.f; rw [if_pos ⟨by omega, by omega⟩]
 have hnb : ∀ y ∈ ws, ∀ c ∈ wtx s y, c ≠ 32 := fun y hy c hc => nb32 ((wtx_ok s y (hw y hy)).2 c hc)
 have hni : ∀ c ∈ Lib.itoa k, c ≠ 32 := fun c hc => nb32 (itoa_mem k c hc).1
 have hnr : ∀ c ∈ routeL, c ≠ 32 := by decide
 have e1 : ((⟨#[82, 111, 117, 116, 101, 32, 35]⟩ : ByteArray) ++ ⟨(Lib.itoa k).toArray⟩) ++ (⟨#[58]⟩ : ByteArray) = ⟨(routeL ++ 32 :: (35 :: (Lib.itoa k ++ [58]))).toArray⟩ := by
  rw [show (⟨#[82, 111, 117, 116, 101, 32, 35]⟩ : ByteArray) = ⟨([82, 111, 117, 116, 101, 32, 35] : List UInt8).toArray⟩ from rfl, show (⟨#[58]⟩ : ByteArray) = ⟨([58] : List UInt8).toArray⟩ from rfl, ba_app, ba_app]
  rfl
 have e2 : ((⟨#[82, 111, 117, 116, 101, 32]⟩ : ByteArray) ++ ⟨(Lib.itoa k).toArray⟩) ++ (⟨#[32, 58]⟩ : ByteArray) = ⟨(routeL ++ 32 :: (Lib.itoa k ++ 32 :: [58])).toArray⟩ := by
  rw [show (⟨#[82, 111, 117, 116, 101, 32]⟩ : ByteArray) = ⟨([82, 111, 117, 116, 101, 32] : List UInt8).toArray⟩ from rfl, show (⟨#[32, 58]⟩ : ByteArray) = ⟨([32, 58] : List UInt8).toArray⟩ from rfl, ba_app, ba_app]
  rfl
 unfold tour_begins.f
 rw [hI]
 simp only [Option.bind_some]
 have z1 : (⟨(Lib.itoa k).toArray⟩ : ByteArray).size = (Lib.itoa k).length := ba_size _
 rw [if_pos (by rw [z1]; omega), if_pos (by rw [show (⟨#[82, 111, 117, 116, 101, 32, 35]⟩ : ByteArray) = ⟨([82, 111, 117, 116, 101, 32, 35] : List UInt8).toArray⟩ from rfl, ba_app, ba_size]; simp; omega),
  if_pos (by rw [z1]; omega), if_pos (by rw [show (⟨#[82, 111, 117, 116, 101, 32]⟩ : ByteArray) = ⟨([82, 111, 117, 116, 101, 32] : List UInt8).toArray⟩ from rfl, ba_app, ba_size]; simp; omega), e1, e2]
 have w2 : wrap64 ((0 : Int) + 2) = 2 := by rw [w64' (by decide) (by decide)]; rfl
 have w1 : wrap64 ((0 : Int) + 1) = 1 := by rw [w64' (by decide) (by decide)]; rfl
 have w3 : wrap64 ((1 : Int) + 2) = 3 := by rw [w64' (by decide) (by decide)]; rfl
 have w4 : wrap64 ((1 : Int) + 1) = 2 := by rw [w64' (by decide) (by decide)]; rfl
 obtain ⟨B1, hB1⟩ : ∃ B : ByteArray, B = ⟨(routeL ++ 32 :: (35 :: (Lib.itoa k ++ [58]))).toArray⟩ := ⟨_, rfl⟩
 obtain ⟨B2, hB2⟩ : ∃ B : ByteArray, B = ⟨(routeL ++ 32 :: (Lib.itoa k ++ 32 :: [58])).toArray⟩ := ⟨_, rfl⟩
 rw [← hB1, ← hB2]
 have t1 : B1.toList = routeL ++ 32 :: (35 :: (Lib.itoa k ++ [58])) := by rw [hB1, toList_mk]
 have t2 : B2.toList = routeL ++ 32 :: (Lib.itoa k ++ 32 :: [58]) := by rw [hB2, toList_mk]
 clear e1 e2 hB1 hB2
 obtain ⟨K, hK⟩ : ∃ K, (200000 : Nat) = K + 3 := ⟨199997, rfl⟩
 rw [hK]
 have hK2 : 100 < K := by omega
 clear hK
 have r0 : rdOf ByteArray.empty [B1, B2] 0 = B1 := rfl
 have r1 : rdOf ByteArray.empty [B1, B2] 1 = B2 := rfl
 simp only [tour_begins.l0, List.length_cons, List.length_nil, w1, w2, w3, w4, r0, r1]
 rw [if_pos (by decide), if_pos (by decide), if_pos (by decide)]
 match ws, hl, hw, hnb with
 | [], _, _, _ =>
  rw [if_neg (by simp), if_pos (by decide), if_pos (by decide), if_pos (by decide), if_neg (by simp), if_neg (by decide)]
  rfl
 | [x], _, _, _ =>
  rw [if_neg (by simp), if_pos (by decide), if_pos (by decide), if_pos (by decide), if_neg (by simp), if_neg (by decide)]
  rfl
 | [x, y], _, hw, hnb =>
  rw [if_pos (by simp), if_pos (by decide), if_pos (by simp), show ((2 : Int).toNat) = 2 from rfl, show [x, y].take 2 = [x, y] from rfl]
  rw [Title_eq s (by omega) 0 [x, y] (by simp) B1 _ (by simp; omega), joinW2, t1]
  simp only [Option.bind_some]
  have hx := hnb x (by simp)
  unfold begS
  simp only
  by_cases h1 : wtx s x = routeL ∧ wtx s y = 35 :: (Lib.itoa k ++ [58])
  ·rw [if_pos (by rw [beq_iff_eq, h1.1, h1.2]), if_pos h1.1, if_pos h1.2]
  ·have h2 : ¬ ((wtx s x ++ 32 :: wtx s y == routeL ++ 32 :: (35 :: (Lib.itoa k ++ [58]))) = true) := fun h => h1 (split32 _ _ _ _ (by simpa using h) hx hnr)
   rw [if_neg h2, if_pos (by decide), if_pos (by decide), if_pos (by decide), if_neg (by simp), if_neg (by decide)]
   by_cases h3 : wtx s x = routeL
   ·rw [if_pos h3, if_neg (fun h => h1 ⟨h3, h⟩)]
    split <;> rfl
   ·rw [if_neg h3]
 | x :: y :: z :: r, hl, hw, hnb =>
  have hx := hnb x (by simp)
  have hy := hnb y (by simp)
  rw [if_pos (by simp; omega), if_pos (by decide), if_pos (by simp; omega), show ((2 : Int).toNat) = 2 from rfl, show (x :: y :: z :: r).take 2 = [x, y] from rfl]
  rw [Title_eq s (by omega) 0 [x, y] (by simp) B1 _ (by simp; omega), joinW2, t1]
  simp only [Option.bind_some]
  unfold begS
  simp only
  by_cases h1 : wtx s x = routeL ∧ wtx s y = 35 :: (Lib.itoa k ++ [58])
  ·rw [if_pos (by rw [beq_iff_eq, h1.1, h1.2]), if_pos h1.1, if_pos h1.2]
  ·have h2 : ¬ ((wtx s x ++ 32 :: wtx s y == routeL ++ 32 :: (35 :: (Lib.itoa k ++ [58]))) = true) := fun h => h1 (split32 _ _ _ _ (by simpa using h) hx hnr)
   rw [if_neg h2, if_pos (by decide), if_pos (by decide), if_pos (by decide), if_pos (by simp; omega), if_pos (by decide), if_pos (by simp; omega), show ((3 : Int).toNat) = 3 from rfl, show (x :: y :: z :: r).take 3 = [x, y, z] from rfl]
   rw [Title_eq s (by omega) 0 [x, y, z] (by simp) B2 _ (by simp; omega), joinW3, t2]
   simp only [Option.bind_some]
   by_cases h3 : wtx s x = routeL
   ·rw [if_pos h3, if_neg (show ¬ wtx s y = 35 :: (Lib.itoa k ++ [58]) from fun h => h1 ⟨h3, h⟩)]
    by_cases h4 : wtx s y = Lib.itoa k
    ·rw [if_pos h4]
     by_cases h5 : wtx s z = [58]
     ·rw [if_pos (by rw [beq_iff_eq, h3, h4, h5]), if_pos h5]
     ·rw [if_neg (fun h => h5 (split32 _ _ _ _ (split32 _ _ _ _ (by simpa using h) hx hnr).2 hy hni).2), if_neg (by decide), if_neg h5]
    ·rw [if_neg (fun h => h4 (split32 _ _ _ _ (split32 _ _ _ _ (by simpa using h) hx hnr).2 hy hni).1), if_neg (by decide), if_neg h4]
   ·rw [if_neg (fun h => h3 (split32 _ _ _ _ (by simpa using h) hx hnr).1), if_neg (by decide), if_neg h3]
def intsP (s : ByteArray) (x : Row) (f : Int) (k : List Int → RTold) : RTold := if (intsR s x.f0 (x.f1.drop f.toNat) ((x.f1.length : Int) - f)).2.2 = 0 then k (intsR s x.f0 (x.f1.drop f.toNat) ((x.f1.length : Int) - f)).1 else ([], 0, (intsR s x.f0 (x.f1.drop f.toNat) ((x.f1.length : Int) - f)).2)
def lastP (l : List Row) (acc : List (List Int)) (c : Int) : RTold := match l with
  | z :: _ => ([], 0, z.f0, 4)
  | [] => (acc, c, 0, 0)
def costP (s : ByteArray) (x : Row) (l : List Row) (acc : List (List Int)) : RTold := match x.f1 with
 | [_, z] => if (num s z).2 = 0 then lastP l acc (num s z).1 else ([], 0, z.f0, (num s z).2)
 | _ => ([], 0, x.f0, 3)
def routesP (s : ByteArray) : List Row → Int → List (List Int) → RTold
 | [], _, acc => (acc, -1, 0, 0)
 | x :: l, i, acc => if (x.f1.head?.map (wtx s)) = some costL then costP s x l acc
   else if begS s x.f1 (i + 1) = 0 then ([], 0, x.f0, 3) else intsP s x (begS s x.f1 (i + 1)) fun r => routesP s l (i + 1) (acc ++ [r])
theorem begS_le (s : ByteArray) (ws : List Wd) (k : Int) : 0 ≤ begS s ws k ∧ begS s ws k ≤ (ws.length : Int) := by
 unfold begS
 split
 ·rename_i x y r
  split
  ·split
   ·simp; omega
   ·split
    ·cases r with
     | nil => simp
     | cons z r => simp only; split <;> simp <;> omega
    ·simp; omega
  ·simp; omega
 ·simp
theorem eachR_ok (s : ByteArray) (ws : List Wd) : ∀ (acc : List Int), (eachR s ws acc).2.2 = 0 → (eachR s ws acc).2.1 = 0 ∧ (eachR s ws acc).1.length = acc.length + ws.length := by
 induction ws with
 | nil => intro acc h; simp [eachR]
 | cons w ws ih =>
  intro acc h
  unfold eachR at h ⊢
  by_cases h0 : (num s w).2 = 0
  ·rw [if_pos h0] at h ⊢
   obtain ⟨h1, h2⟩ := ih _ h
   exact ⟨h1, by rw [h2]; simp; omega⟩
  ·rw [if_neg h0] at h
   exact absurd h h0
theorem intsR_ok2 (s : ByteArray) (f : Int) (ws : List Wd) (n : Int) (h : (intsR s f ws n).2.2 = 0) : (intsR s f ws n).2.1 = 0 ∧ (intsR s f ws n).1.length = ws.length := by
 unfold intsR at h ⊢
 split at h
 ·rename_i hn
  rw [if_pos hn]
  obtain ⟨h1, h2⟩ := eachR_ok s ws [] h
  exact ⟨h1, by rw [h2]; simp⟩
 ·cases h
theorem routes_p (s : ByteArray) (hs : s.size ≤ 90000) (l : List Row) : ∀ (i : Int) (acc : List (List Int)), 0 ≤ i → i + (l.length : Int) ≤ 100000 → (∀ x ∈ l, x.f1 ≠ [] ∧ (∀ y ∈ x.f1, WOk s y) ∧ x.f1.length ≤ 100000) →
  routesS s l i acc = some (routesP s l i acc) := by
 induction l with
 | nil => intro i acc _ _ _; rfl
 | cons x l ih =>
  intro i acc hi hil hw
  obtain ⟨hne, hwk, hxl⟩ := hw x List.mem_cons_self
  have hil2 : i + 1 + (l.length : Int) ≤ 100000 := by simp at hil; omega
  rw [routesS, routesP]
  cases hxw : x.f1 with
  | nil => exact absurd hxw hne
  | cons y ys =>
   simp only
   rw [← hxw, begins_p s hs x.f0 x.f1 hxl hwk (i + 1) (by omega) (by omega)]
   simp only [Option.bind_some]
   rw [Text_eq]
   simp only [Option.bind_some]
   have hh : x.f1.head?.map (wtx s) = some (wtx s y) := by rw [hxw]; rfl
   have ht : (txt s y.f0 y.f1).toList = wtx s y := by unfold wtx; rw [ByteArray.toList_eq]
   rw [hh]
   by_cases hc : wtx s y = costL
   ·rw [if_pos (show some (wtx s y) = some costL by rw [hc])]
    unfold fromS
    rw [ht, if_pos hc]
    unfold costP
    by_cases h2 : x.f1.length = 2
    ·obtain ⟨z, rfl⟩ : ∃ z, ys = [z] := by
      rw [hxw] at h2
      exact List.length_eq_one_iff.1 (by simpa using h2)
     rw [if_pos h2, if_neg (by decide)]
     unfold intsS
     rw [if_pos ⟨by decide, by omega⟩, show ((1 : Int).toNat) = 1 from rfl]
     rw [SInts_eq s (by omega) x.f0 (x.f1.drop 1) (by rw [List.length_drop]; omega) _ 200000 (by rw [List.length_drop]; omega)]
     simp only [Option.bind_some]
     have hI : intsR s x.f0 (x.f1.drop 1) ((x.f1.length : Int) - 1) = (if (num s z).2 = 0 then ([(num s z).1], 0, 0) else ([], z.f0, (num s z).2)) := by
      rw [hxw]
      unfold intsR
      rw [if_pos (by simp)]
      show eachR s [z] [] = _
      unfold eachR
      split <;> rfl
     rw [hI, hxw]
     simp only
     by_cases h0 : (num s z).2 = 0
     ·rw [if_pos h0, if_pos h0]
      simp only [if_true]
      rw [if_pos hc]
      unfold lastS lastP
      cases l <;> rfl
     ·rw [if_neg h0, if_neg h0]
      simp only
      rw [if_neg h0]
    ·rw [if_neg h2, if_pos rfl]
     rw [hxw] at h2 ⊢
     cases ys with
     | nil => rfl
     | cons z zs =>
      cases zs with
      | nil => exact absurd rfl h2
      | cons _ _ => rfl
   ·have hb := begS_le s x.f1 (i + 1)
    rw [if_neg (show ¬ some (wtx s y) = some costL from fun h => hc (Option.some.inj h))]
    unfold fromS
    rw [ht, if_neg hc]
    by_cases h0 : begS s x.f1 (i + 1) = 0
    ·rw [if_pos h0, if_pos h0]
    ·rw [if_neg h0, if_neg h0]
     unfold intsS intsP
     rw [if_pos ⟨hb.1, hb.2⟩, SInts_eq s (by omega) x.f0 (x.f1.drop (begS s x.f1 (i + 1)).toNat) (by rw [List.length_drop]; omega) _ 200000 (by rw [List.length_drop]; omega)]
     simp only [Option.bind_some]
     by_cases h1 : (intsR s x.f0 (x.f1.drop (begS s x.f1 (i + 1)).toNat) ((x.f1.length : Int) - begS s x.f1 (i + 1))).2.2 = 0
     ·rw [if_pos h1, if_pos h1, if_pos (intsR_ok2 _ _ _ _ h1).1, if_neg hc, ih (i + 1) _ (by omega) hil2 (fun z hz => hw z (List.mem_cons_of_mem _ hz))]
     ·rw [if_neg h1, if_neg h1]
def routesF (s : ByteArray) : RTold := routesP s (shR s.data.toList 0) 0 []
theorem rows_all (s : ByteArray) (hs : s.size ≤ 90000) : ∀ x ∈ shR s.data.toList 0, x.f1 ≠ [] ∧ (∀ y ∈ x.f1, WOk s y) ∧ x.f1.length ≤ 100000 := fun x hx => by
 have h1 := rows_ok s x hx
 have h2 := shR_words s.data.toList 0 x hx
 have hL : s.data.toList.length = s.size := rfl
 exact ⟨h1.1, h1.2.1, by omega⟩
theorem parseRoutes_eq (s : ByteArray) (hs : s.size ≤ 90000) : parseRoutes s = some (routesF s) := by
 have hL : s.data.toList.length = s.size := rfl
 have h1 := shR_len s.data.toList 0
 unfold parseRoutes routesF
 rw [if_pos hs, Rows_sheet s (by omega) 0 100002 (by omega)]
 simp only [Option.bind_some]
 rw [if_pos (by omega)]
 exact routes_p s hs _ 0 [] (by decide) (by omega) (rows_all s hs)
set_option maxRecDepth 100000 in
theorem shown16 : entrepotlaw16_shown.f 60 = some true := by kernel_rfl
theorem up16 (k : Nat) (hk : 60 ≤ k) : entrepotlaw16_shown.f k = some true := by
  obtain ⟨d, rfl⟩ := Nat.exists_eq_add_of_le hk
  clear hk
  induction d with
  | zero => exact shown16
  | succ d ih => exact entrepotlaw16_shown.mono (60 + d) _ ih
theorem rdX14 (l : List (List Int)) (i : Nat) (x : List Int) (h : l[i]? = some x) : rd_L14 l (i : Int) = x := by
  simp [rd_L14, h]
theorem rdXI (l : List Int) (i : Nat) (x : Int) (h : l[i]? = some x) : rd l (i : Int) = x := by
  simp [rd, h]
end Go.Proofs.YtadocbfchdendaaGreatDoor.Cu
namespace Go.Proofs.YtadocbfchdendaaGreatDoor.P
open Go.RowKit Go.Proofs.YtadocbfchdendaaGreatDoorW.PrintWords Go.Proofs.YtadocbfchdendaaGreatDoorW.PrintLast Go.Proofs.YtadocbfchdendaaGreatDoorW.PrintMore
attribute [local go_sem] max2_int min2_int max_two min_two max_three min_three max_four min_four
set_option linter.unusedVariables false
set_option linter.unusedSimpArgs false
end Go.Proofs.YtadocbfchdendaaGreatDoor.P
namespace Go.Proofs.YtadocbfchdendaaGreatDoor.Cu
open Go.RowKit Go.Lib Go.Proofs.YtadocbfchdendaaGreatDoorW.PrintWords Go.Proofs.YtadocbfchdendaaGreatDoorW.PrintLast Go.Proofs.YtadocbfchdendaaGreatDoorW.PrintMore Go.Proofs.YtadocbfchdendaaGreatDoor.P Go.Proofs.YtadocbfchdendaaGreatDoor.Sp
set_option linter.unusedSimpArgs false
theorem wrapN (j : Nat) (h : j ≤ 1000000000) : wrap64 ((j : Int) + 1) = ((j + 1 : Nat) : Int) := by rw [w64' (by omega) (by omega)]; omega
theorem stopsT_len (r : List Int) (hsm : ∀ v ∈ r, -100000000 ≤ v ∧ v ≤ 100000000) : (stopsT r).length ≤ r.length * 22 := by
  induction r with
  | nil => simp [stopsT]
  | cons v r ih =>
    have h1 := hsm v List.mem_cons_self
    have h2 := itoa_length_le v (by omega) (by omega)
    have h3 := ih (fun u hu => hsm u (List.mem_cons_of_mem _ hu))
    unfold stopsT at h3 ⊢
    simp only [List.flatMap_cons, List.length_append, List.length_cons]
    omega
theorem head_len (hash : Bool) (i : Nat) (h : i ≤ 1000000) : (headT hash i).length ≤ 40 := by
  have := itoa_length_le ((i : Int) + 1) (by omega) (by omega)
  unfold headT
  split <;> simp <;> omega
theorem routesT_len (hash : Bool) (l : List (List Int)) (hsm : ∀ r ∈ l, r.length ≤ 450 ∧ ∀ v ∈ r, -100000000 ≤ v ∧ v ≤ 100000000) : ∀ i : Nat, i + l.length ≤ 100000 → (routesT hash l i).length ≤ l.length * 10000 := by
  induction l with
  | nil => intro i _; simp [routesT]
  | cons r l ih =>
    intro i hi
    obtain ⟨h1, h2⟩ := hsm r List.mem_cons_self
    have h3 := stopsT_len r h2
    have h4 := head_len hash i (by simp at hi; omega)
    have h5 := ih (fun u hu => hsm u (List.mem_cons_of_mem _ hu)) (i + 1) (by simp at hi; omega)
    simp only [routesT, List.length_append, List.length_cons]
    omega
theorem proutes_eq (l : List (List Int)) (cost : Int) (hash : Bool) (hl : l.length ≤ 60) (hsm : ∀ r ∈ l, r.length ≤ 450 ∧ ∀ v ∈ r, -100000000 ≤ v ∧ v ≤ 100000000) (hc0 : -1 ≤ cost) (hc1 : cost ≤ 100000000) : tour_PrintRoutes.f l cost hash = some ⟨(prS l cost hash).toArray⟩ ∧ (prS l cost hash).length ≤ 700000 := by
  have h1 := routesT_len hash l hsm 0 (by omega)
  have hlen : (prS l cost hash).length ≤ 700000 := by
    have h2 := itoa_length_le cost (by omega) (by omega)
    have h3 : (costT cost).length ≤ 100 := by unfold costT; split <;> simp; omega
    unfold prS
    rw [List.length_append]
    omega
  refine ⟨?_, hlen⟩
  unfold tour_PrintRoutes.f
  rw [if_pos ?_]
  unfold tour_PrintRoutes.ok
  simp only [Bool.and_eq_true, List.all_eq_true, decide_eq_true_eq]
  exact ⟨fun r hr v hv => by have := (hsm r hr).2 v hv; omega, by omega, by omega, by omega, by omega⟩
def body (x : List UInt8) : List UInt8 := x.take (x.length - cr x)
theorem body_len (x : List UInt8) : (body x).length = x.length - cr x := by unfold body; rw [List.length_take]; omega
theorem body_id (x : List UInt8) (h : x.getLast? ≠ some 13) : body x = x := by
  unfold body cr
  rw [if_neg h, Nat.sub_zero, List.take_length]
def linesV : Nat → List (List UInt8) → List (Nat × List UInt8 × Nat)
  | _, [] => []
  | a, x :: l => (a, body x, a + x.length + 1) :: linesV (a + x.length + 1) l
def lnV (p : Nat × List UInt8 × Nat) : Ln := ⟨(p.1 : Nat), ((p.1 + p.2.1.length : Nat) : Int), (p.2.2 : Nat)⟩
def rowV (p : Nat × List UInt8 × Nat) : Row := ⟨(p.1 : Nat), fieldsG p.2.1 p.1 none⟩
def rowsV (a : Nat) (ls : List (List UInt8)) : List (Nat × List UInt8 × Nat) := (linesV a ls).filter fun p => !p.2.1.all blankC
theorem lineT_app (x r : List UInt8) (h : ∀ c ∈ x, c ≠ 10) : lineT (x ++ 10 :: r) = x := by
  induction x with
  | nil => simp [lineT]
  | cons c x ih =>
    have h1 := ih (fun d hd => h d (List.mem_cons_of_mem _ hd))
    have h2 := h c List.mem_cons_self
    unfold lineT at h1 ⊢
    rw [List.cons_append, List.takeWhile_cons, if_pos (by simpa using h2), h1]
theorem lnT_cons (x : List UInt8) (ls : List (List UInt8)) : lnT (x :: ls) = x ++ 10 :: lnT ls := by simp [lnT]
theorem lnT_app (a b : List (List UInt8)) : lnT (a ++ b) = lnT a ++ lnT b := by simp [lnT]
theorem linesF_lnT (ls : List (List UInt8)) (h : ∀ x ∈ ls, ∀ c ∈ x, c ≠ 10) : ∀ a f, (lnT ls).length ≤ f → linesF f (lnT ls) a = (linesV a ls).map lnV := by
  induction ls with
  | nil => intro a f _; cases f <;> simp [lnT, linesF, linesV]
  | cons x ls ih =>
    intro a f hf
    rw [lnT_cons] at hf ⊢
    have hT := lineT_app x (lnT ls) (h x List.mem_cons_self)
    have hc := cr_le x
    have hb := body_len x
    obtain ⟨f, rfl⟩ : ∃ g, f = g + 1 := ⟨f - 1, by simp at hf; omega⟩
    have hd : (x ++ 10 :: lnT ls).drop (x.length + 1) = lnT ls := by
      rw [List.drop_append, List.drop_of_length_le (by omega), show x.length + 1 - x.length = 1 by omega]
      rfl
    rw [linesF, if_neg (by simp), hT, hd, ih (fun y hy => h y (List.mem_cons_of_mem _ hy)) _ _ (by simp at hf; omega)]
    simp only [linesV, List.map_cons]
    congr 1
    unfold lineX lnV
    rw [hT, if_pos (by simp)]
    simp only [hb]
    congr 1
    omega
def PV (s : ByteArray) (p : Nat × List UInt8 × Nat) : Prop := seg s p.1 (p.1 + p.2.1.length) = p.2.1 ∧ p.1 + p.2.1.length ≤ s.size
theorem linesV_pv (s : ByteArray) (ls : List (List UInt8)) : ∀ pre : List UInt8, s.data.toList = pre ++ lnT ls → ∀ p ∈ linesV pre.length ls, PV s p := by
  have hL : s.data.toList.length = s.size := rfl
  induction ls with
  | nil => intro pre _ p hp; simp [linesV] at hp
  | cons x ls ih =>
    intro pre hs p hp
    rw [lnT_cons] at hs
    rcases List.mem_cons.1 hp with rfl | hp
    · have hb := body_len x
      have hc := cr_le x
      refine ⟨?_, ?_⟩
      · unfold seg
        rw [hs]
        simp only
        rw [List.drop_append, List.drop_of_length_le (Nat.le_refl _), Nat.sub_self, List.drop_zero, List.nil_append, show pre.length + (body x).length - pre.length = (body x).length by omega, List.take_append_of_le_length (by omega)]
        rw [hb]
        rfl
      · rw [← hL, hs]
        simp only [List.length_append, List.length_cons]
        omega
    · refine ih (pre ++ (x ++ [10])) (by rw [hs]; simp) p ?_
      have e : (pre ++ (x ++ [10])).length = pre.length + x.length + 1 := by simp; omega
      rw [e]
      exact hp
theorem blankL_lnV (s : ByteArray) (p : Nat × List UInt8 × Nat) (h : PV s p) : blankL s.data.toList (lnV p) = p.2.1.all blankC := by
  obtain ⟨h1, h2⟩ := h
  unfold blankL lnV
  simp only [Int.toNat_natCast]
  unfold seg at h1
  rw [h1]
theorem rowOf_lnV (s : ByteArray) (p : Nat × List UInt8 × Nat) (h : PV s p) : rowOf s.data.toList (lnV p) = rowV p := by
  obtain ⟨h1, h2⟩ := h
  unfold rowOf lnV rowV
  simp only [Int.toNat_natCast]
  unfold seg at h1
  rw [h1]
theorem rowsV_pv (s : ByteArray) (ls : List (List UInt8)) (hs : s.data.toList = lnT ls) : ∀ p ∈ rowsV 0 ls, PV s p :=
  fun p hp => linesV_pv s ls [] (by rw [hs]; rfl) p (List.mem_filter.1 hp).1
theorem rows_lnT (s : ByteArray) (ls : List (List UInt8)) (h : ∀ x ∈ ls, ∀ c ∈ x, c ≠ 10) (hs : s.data.toList = lnT ls) : rowsL s.data.toList = (rowsV 0 ls).map lnV := by
  have h0 : linesL s.data.toList = (linesV 0 ls).map lnV := by
    unfold linesL
    rw [hs]
    exact linesF_lnT ls h 0 _ (Nat.le_refl _)
  unfold rowsL
  rw [h0, List.filter_map]
  unfold rowsV
  congr 1
  refine List.filter_congr fun p hp => ?_
  show (!blankL s.data.toList (lnV p)) = _
  rw [blankL_lnV s p (linesV_pv s ls [] (by rw [hs]; rfl) p hp)]
theorem shR_lnT (s : ByteArray) (ls : List (List UInt8)) (h : ∀ x ∈ ls, ∀ c ∈ x, c ≠ 10) (hs : s.data.toList = lnT ls) : shR s.data.toList 0 = (rowsV 0 ls).map rowV := by
  unfold shR
  rw [List.filter_eq_self.2 (fun z hz => by simpa using (rowsL_ok s z hz).1), rows_lnT s ls h hs, List.map_map]
  refine List.map_congr_left fun p hp => ?_
  exact rowOf_lnV s p (rowsV_pv s ls hs p hp)
def splitG : List UInt8 → List UInt8 → List (List UInt8)
  | [], cur => if cur = [] then [] else [cur]
  | c :: l, cur => if blankC c = true then (if cur = [] then splitG l [] else cur :: splitG l []) else splitG l (cur ++ [c])
theorem wtx_seg (s : ByteArray) (p q : Nat) (h : p ≤ q) (hq : q ≤ s.size) : wtx s ⟨(p : Nat), (q : Nat)⟩ = seg s p q := by
  unfold wtx
  rw [show ((⟨(p : Nat), (q : Nat)⟩ : Wd)).f0 = (p : Int) from rfl, show ((⟨(p : Nat), (q : Nat)⟩ : Wd)).f1 = (q : Int) from rfl, txt_seg s p q h hq]
theorem seg_ne (s : ByteArray) (p q : Nat) (h : p < q) (hq : q ≤ s.size) : seg s p q ≠ [] := fun he => by
  have := seg_len s p q (by omega) hq
  rw [he] at this
  simp at this
  omega
theorem fieldsG_split (s : ByteArray) (b : Nat) (hb : b ≤ s.size) (d : Nat) : ∀ (a : Nat) (st : Option Nat), a + d = b → (∀ p, st = some p → p < a) →
    (fieldsG (seg s a b) a st).map (wtx s) = splitG (seg s a b) (match st with | none => [] | some p => seg s p a) := by
  induction d with
  | zero =>
    intro a st ha hst
    obtain rfl : a = b := by omega
    rw [seg_nil]
    cases st with
    | none => simp [fieldsG, splitG]
    | some p =>
      have hp := hst p rfl
      simp only [fieldsG, List.map_cons, List.map_nil, splitG]
      rw [wtx_seg s p a (by omega) hb, if_neg (seg_ne s p a hp hb)]
  | succ d ih =>
    intro a st ha hst
    obtain ⟨c, hc⟩ := get_data s a (by omega)
    rw [seg_cons s a b c (by omega) hc]
    by_cases hbl : blankC c = true
    · have hn := ih (a + 1) none (by omega) (fun p h => by cases h)
      cases st with
      | none => rw [fieldsG_none c _ a hbl, hn, splitG, if_pos hbl, if_pos rfl]
      | some p =>
        have hp := hst p rfl
        rw [fieldsG_some c _ a p hbl, List.map_cons, hn, splitG, if_pos hbl, if_neg (seg_ne s p a hp (by omega)), wtx_seg s p a (by omega) (by omega)]
    · have hbf : blankC c = false := Bool.eq_false_iff.2 hbl
      rw [fieldsG_skip c _ a st hbf, ih (a + 1) _ (by omega) (fun p h => by
        obtain rfl := Option.some.inj h
        cases st with
        | none => simp
        | some p => have := hst p rfl; simp; omega), splitG, if_neg hbl]
      cases st with
      | none => simp only [Option.getD_none]; rw [seg_snoc s a a c (Nat.le_refl _) hc, seg_nil]
      | some p => have := hst p rfl; simp only [Option.getD_some]; rw [seg_snoc s p a c (by omega) hc]
theorem rowV_words (s : ByteArray) (p : Nat × List UInt8 × Nat) (h : PV s p) : (rowV p).f1.map (wtx s) = splitG p.2.1 [] := by
  obtain ⟨h1, h2⟩ := h
  have := fieldsG_split s (p.1 + p.2.1.length) h2 p.2.1.length p.1 none rfl (fun p h => by cases h)
  rw [h1] at this
  exact this
theorem splitG_word (w : List UInt8) (hw : ∀ c ∈ w, blankC c = false) : ∀ r cur, splitG (w ++ r) cur = splitG r (cur ++ w) := by
  induction w with
  | nil => intro r cur; simp
  | cons c w ih =>
    intro r cur
    rw [List.cons_append, splitG, if_neg (by rw [hw c List.mem_cons_self]; decide), ih (fun d hd => hw d (List.mem_cons_of_mem _ hd))]
    simp
theorem splitG_cons (w : List UInt8) (hw : ∀ c ∈ w, blankC c = false) (h0 : w ≠ []) (c : UInt8) (hc : blankC c = true) (r : List UInt8) : splitG (w ++ c :: r) [] = w :: splitG r [] := by
  rw [splitG_word w hw, splitG, if_pos hc, List.nil_append, if_neg h0]
theorem splitG_one (w : List UInt8) (hw : ∀ c ∈ w, blankC c = false) (h0 : w ≠ []) : splitG w [] = [w] := by
  have := splitG_word w hw [] []
  rw [List.append_nil] at this
  rw [this, splitG, List.nil_append, if_neg h0]
theorem itoa_sgn (n : Int) : Lib.itoa n = sgnT (decide (n < 0)) ++ Lib.decDigits n.natAbs := by
  unfold Lib.itoa sgnT
  by_cases h : n < 0
  · rw [if_pos h, if_pos (by simpa using h)]; rfl
  · rw [if_neg h, if_neg (by simpa using h)]
    show Lib.decDigits n.toNat = Lib.decDigits n.natAbs
    rw [show n.toNat = n.natAbs by omega]
theorem int_itoa (n : Int) (h1 : -100000000 ≤ n) (h2 : n ≤ 100000000) : intS (Lib.itoa n) = (n, 0) := by
  have hnd : Lib.nDigits n.natAbs ≤ 12 := nd_bd (k := 11) (by omega)
  rw [itoa_sgn, int_whole _ _ (dec_dig _) (dec_ne _) (by rw [Lib.decDigits_length]; exact hnd), sgn_abs n _ (dv_dec _), if_pos (by unfold fitsB; simp; omega)]
theorem itoa_nb (n : Int) : ∀ c ∈ Lib.itoa n, blankC c = false := fun c hc => (itoa_mem n c hc).1
def okC (c : UInt8) : Prop := c ≠ 10 ∧ c ≠ 13
theorem itoa_okC (n : Int) : ∀ c ∈ Lib.itoa n, okC c := fun c hc => by
  refine ⟨(itoa_mem n c hc).2.1, fun h => ?_⟩
  subst h
  rw [itoa_sgn] at hc
  rcases List.mem_append.1 hc with h | h
  · unfold sgnT at h
    split at h
    · simp at h
    · simp at h
  · exact absurd (dec_dig _ _ h) (by decide)
theorem body_okC (x : List UInt8) (h : ∀ c ∈ x, okC c) : body x = x := body_id x (fun h2 => (h 13 (List.mem_of_getLast? h2)).2 rfl)
theorem rowsV_app (l m : List (List UInt8)) : ∀ a, rowsV a (l ++ m) = rowsV a l ++ rowsV (a + (lnT l).length) m := by
  induction l with
  | nil => intro a; rfl
  | cons x l ih =>
    intro a
    have h := ih (a + x.length + 1)
    unfold rowsV at h ⊢
    rw [List.cons_append, linesV, linesV, List.filter_cons, List.filter_cons, h, lnT_cons, show a + (x ++ 10 :: lnT l).length = a + x.length + 1 + (lnT l).length by simp; omega]
    split <;> rfl
theorem rowsV_bodies (ls : List (List UInt8)) (h1 : ∀ x ∈ ls, body x = x) (h2 : ∀ x ∈ ls, x.all blankC = false) : ∀ a, (rowsV a ls).map (fun p => p.2.1) = ls := by
  induction ls with
  | nil => intro a; rfl
  | cons x ls ih =>
    intro a
    have h := ih (fun y hy => h1 y (List.mem_cons_of_mem _ hy)) (fun y hy => h2 y (List.mem_cons_of_mem _ hy)) (a + x.length + 1)
    unfold rowsV at h ⊢
    rw [linesV, List.filter_cons, h1 x List.mem_cons_self, h2 x List.mem_cons_self]
    show x :: List.map _ _ = _
    rw [h]
theorem itoa_inj {a b : Int} (h : Lib.itoa a = Lib.itoa b) (h1 : -100000000 ≤ a) (h2 : a ≤ 100000000) (h3 : -100000000 ≤ b) (h4 : b ≤ 100000000) : a = b := by
  have e1 := int_itoa a h1 h2
  rw [h, int_itoa b h3 h4] at e1
  injection e1 with e _
  exact e.symm
theorem eachR_words (s : ByteArray) (r : List Int) : ∀ (ws : List Wd) (acc : List Int), ws.map (wtx s) = r.map Lib.itoa → (∀ v ∈ r, -100000000 ≤ v ∧ v ≤ 100000000) → eachR s ws acc = (acc ++ r, 0, 0) := by
  induction r with
  | nil =>
    intro ws acc h _
    obtain rfl : ws = [] := by simpa using h
    simp [eachR]
  | cons n r ih =>
    intro ws acc h hs
    cases ws with
    | nil => simp at h
    | cons y ws =>
      simp only [List.map_cons, List.cons.injEq] at h
      have h2 : num s y = (n, 0) := by
        show intS (wtx s y) = _
        rw [h.1]
        exact int_itoa n (hs n List.mem_cons_self).1 (hs n List.mem_cons_self).2
      rw [eachR, h2, if_pos rfl, ih ws _ h.2 (fun v hv => hs v (List.mem_cons_of_mem _ hv))]
      simp
def rtL (hash : Bool) : List (List Int) → Nat → List (List UInt8)
  | [], _ => []
  | r :: rs, i => (headT hash i ++ stopsT r) :: rtL hash rs (i + 1)
def coL (cost : Int) : List (List UInt8) := if cost ≥ 0 then [costL ++ 32 :: Lib.itoa cost] else []
theorem routesT_lnT (hash : Bool) (l : List (List Int)) : ∀ i, routesT hash l i = lnT (rtL hash l i) := by
  induction l with
  | nil => intro i; rfl
  | cons r l ih => intro i; rw [routesT, rtL, lnT_cons, ih (i + 1)]; simp
theorem prS_lnT (l : List (List Int)) (cost : Int) (hash : Bool) : prS l cost hash = lnT (rtL hash l 0 ++ coL cost) := by
  unfold prS costT coL
  rw [lnT_app, routesT_lnT]
  congr 1
  split <;> simp [lnT]
theorem mem_of_mem8 {c : UInt8} {a : List UInt8} (h : c ∈ a) (ha : ∀ c ∈ a, c ∈ ([82, 111, 117, 116, 101, 32, 35, 58] : List UInt8) := by decide) : c ∈ ([82, 111, 117, 116, 101, 32, 35, 58] : List UInt8) := ha c h
theorem head_okC (hash : Bool) (i : Nat) : ∀ c ∈ headT hash i, okC c := fun c hc => by
  unfold headT at hc
  have hl : ∀ c ∈ ([82, 111, 117, 116, 101, 32, 35, 58] : List UInt8), c ≠ 10 ∧ c ≠ 13 := by decide
  have hi := itoa_okC ((i : Int) + 1) c
  split at hc
  · simp only [List.mem_append] at hc
    rcases hc with h | h | h
    · exact hl c (mem_of_mem8 h)
    · exact hi h
    · exact hl c (mem_of_mem8 h)
  · simp only [List.mem_append] at hc
    rcases hc with h | h | h
    · exact hl c (mem_of_mem8 h)
    · exact hi h
    · exact hl c (mem_of_mem8 h)
theorem stops_okC (r : List Int) : ∀ c ∈ stopsT r, okC c := fun c hc => by
  unfold stopsT at hc
  obtain ⟨n, _, h⟩ := List.mem_flatMap.1 hc
  rcases List.mem_cons.1 h with h | h
  · rw [h]; exact ⟨by decide, by decide⟩
  · exact itoa_okC n c h
theorem rtL_okC (hash : Bool) (l : List (List Int)) : ∀ i, ∀ x ∈ rtL hash l i, ∀ c ∈ x, okC c := by
  induction l with
  | nil => intro i x hx; simp [rtL] at hx
  | cons r l ih =>
    intro i x hx c hc
    rw [rtL] at hx
    rcases List.mem_cons.1 hx with rfl | hx
    · rcases List.mem_append.1 hc with h | h
      · exact head_okC hash i c h
      · exact stops_okC r c h
    · exact ih (i + 1) x hx c hc
theorem coL_okC (cost : Int) : ∀ x ∈ coL cost, ∀ c ∈ x, okC c := fun x hx c hc => by
  unfold coL at hx
  split at hx
  · obtain rfl := List.mem_singleton.1 hx
    rcases List.mem_append.1 hc with h | h
    · have hl : ∀ c ∈ costL, c ≠ 10 ∧ c ≠ 13 := by decide
      exact hl c h
    · rcases List.mem_cons.1 h with h | h
      · rw [h]; exact ⟨by decide, by decide⟩
      · exact itoa_okC cost c h
  · simp at hx
def hdW (hash : Bool) (i : Nat) : List (List UInt8) := if hash = true then [routeL, 35 :: (Lib.itoa ((i : Int) + 1) ++ [58])] else [routeL, Lib.itoa ((i : Int) + 1), [58]]
theorem splitG_stops (r : List Int) : ∀ cur, cur ≠ [] → splitG (stopsT r) cur = cur :: r.map Lib.itoa := by
  induction r with
  | nil => intro cur h; show splitG [] cur = _; rw [splitG, if_neg h]; rfl
  | cons n r ih =>
    intro cur h
    have e : stopsT (n :: r) = 32 :: (Lib.itoa n ++ stopsT r) := by simp [stopsT]
    rw [e, splitG, if_pos (by decide), if_neg h, splitG_word _ (itoa_nb n), List.nil_append, ih _ (itoa_ne n)]
    rfl
theorem line_words (hash : Bool) (i : Nat) (r : List Int) : splitG (headT hash i ++ stopsT r) [] = hdW hash i ++ r.map Lib.itoa := by
  have hR : ∀ c ∈ routeL, blankC c = false := by decide
  have hi := itoa_nb ((i : Int) + 1)
  have hi0 := itoa_ne ((i : Int) + 1)
  unfold headT hdW
  cases hash with
  | true =>
    rw [if_pos rfl, if_pos rfl]
    have e : ([82, 111, 117, 116, 101, 32, 35] ++ (Lib.itoa ((i : Int) + 1) ++ [58])) ++ stopsT r = routeL ++ 32 :: ((35 :: (Lib.itoa ((i : Int) + 1) ++ [58])) ++ stopsT r) := by simp
    rw [e, splitG_cons routeL hR (by simp) 32 (by decide), splitG_word (35 :: (Lib.itoa ((i : Int) + 1) ++ [58])) (fun c hc => by
      simp only [List.mem_cons, List.mem_append, List.not_mem_nil, or_false] at hc
      rcases hc with rfl | h | rfl
      · decide
      · exact hi c h
      · decide), splitG_stops r _ (by simp)]
    rfl
  | false =>
    rw [if_neg (by decide), if_neg (by decide)]
    have e : ([82, 111, 117, 116, 101, 32] ++ (Lib.itoa ((i : Int) + 1) ++ [32, 58])) ++ stopsT r = routeL ++ 32 :: (Lib.itoa ((i : Int) + 1) ++ 32 :: ([58] ++ stopsT r)) := by simp
    rw [e, splitG_cons routeL hR (by simp) 32 (by decide), splitG_cons _ hi hi0 32 (by decide), splitG_word [58] (by decide), splitG_stops r _ (by simp)]
    rfl
theorem begS_ok (s : ByteArray) (hash : Bool) (i : Nat) (ws : List Wd) (t : List (List UInt8)) (h : ws.map (wtx s) = hdW hash i ++ t) : ∃ a b, ws = a ++ b ∧ begS s ws ((i : Int) + 1) = (a.length : Int) ∧ 0 < a.length ∧ b.map (wtx s) = t ∧ ws.head?.map (wtx s) = some routeL := by
  unfold hdW at h
  cases hash with
  | true =>
    rw [if_pos rfl] at h
    match ws, h with
    | y :: z :: ws, h =>
      simp only [List.map_cons, List.cons_append, List.nil_append, List.cons.injEq] at h
      obtain ⟨h1, h2, h3⟩ := h
      refine ⟨[y, z], ws, rfl, ?_, by simp, h3, by simp [h1]⟩
      unfold begS
      simp only
      rw [if_pos h1, if_pos h2]
      rfl
    | [y], h => simp at h
    | [], h => simp at h
  | false =>
    rw [if_neg (by decide)] at h
    match ws, h with
    | y :: z :: u :: ws, h =>
      simp only [List.map_cons, List.cons_append, List.nil_append, List.cons.injEq] at h
      obtain ⟨h1, h2, h4, h3⟩ := h
      refine ⟨[y, z, u], ws, rfl, ?_, by simp, h3, by simp [h1]⟩
      unfold begS
      simp only
      rw [if_pos h1, if_neg (fun h5 => (itoa_mem ((i : Int) + 1) 35 (by rw [← h2, h5]; simp)).2.2.1 rfl), if_pos h2, if_pos h4]
      rfl
    | [y, z], h => simp at h
    | [y], h => simp at h
    | [], h => simp at h
theorem routes_ok (s : ByteArray) (hash : Bool) (rest : List Row) (rs : List (List Int)) : ∀ (R : List (Nat × List UInt8 × Nat)) (i : Nat) (acc : List (List Int)), (∀ p ∈ R, PV s p) → R.map (fun p => p.2.1) = rtL hash rs i → (∀ r ∈ rs, ∀ v ∈ r, -100000000 ≤ v ∧ v ≤ 100000000) →
    routesP s (R.map rowV ++ rest) i acc = routesP s rest ((i + rs.length : Nat) : Int) (acc ++ rs) := by
  induction rs with
  | nil =>
    intro R i acc _ hR _
    obtain rfl : R = [] := by simpa [rtL] using hR
    simp
  | cons r rs ih =>
    intro R i acc hp hR hv
    cases R with
    | nil => simp [rtL] at hR
    | cons p R =>
      simp only [List.map_cons, rtL, List.cons.injEq] at hR
      have hw := rowV_words s p (hp p List.mem_cons_self)
      rw [hR.1, line_words] at hw
      obtain ⟨a, b, e1, e2, e3, e4, e5⟩ := begS_ok s hash i _ _ hw
      rw [List.map_cons, List.cons_append, routesP, e5, if_neg (by decide), e2, if_neg (by omega)]
      unfold intsP
      rw [Int.toNat_natCast, e1, List.drop_left]
      have hI : intsR s (rowV p).f0 b (((a ++ b).length : Int) - (a.length : Int)) = (r, 0, 0) := by
        unfold intsR
        rw [if_pos (by simp; omega), eachR_words s r b [] e4 (hv r List.mem_cons_self)]
        rfl
      rw [hI, if_pos rfl]
      have := ih R (i + 1) (acc ++ [r]) (fun q hq => hp q (List.mem_cons_of_mem _ hq)) hR.2 (fun u hu => hv u (List.mem_cons_of_mem _ hu))
      rw [show ((i : Int) + 1) = ((i + 1 : Nat) : Int) by omega]
      simp only
      rw [this]
      simp only [List.length_cons, List.append_assoc, List.cons_append, List.nil_append]
      congr 2
      omega
theorem cost_ok (s : ByteArray) (p : Nat × List UInt8 × Nat) (h : PV s p) (cost : Int) (hb : p.2.1 = costL ++ 32 :: Lib.itoa cost) (h1 : -100000000 ≤ cost) (h2 : cost ≤ 100000000) (l : List Row) (i : Int) (acc : List (List Int)) :
    routesP s (rowV p :: l) i acc = lastP l acc cost := by
  have hw := rowV_words s p h
  rw [hb, splitG_cons costL (by decide) (by simp) 32 (by decide), splitG_one _ (itoa_nb _) (itoa_ne _)] at hw
  match hx : (rowV p).f1, hw with
  | [y, z], hw =>
    simp only [List.map_cons, List.map_nil, List.cons.injEq, and_true] at hw
    have h3 : num s z = (cost, 0) := by
      show intS (wtx s z) = _
      rw [hw.2]
      exact int_itoa _ h1 h2
    rw [routesP, hx, if_pos (by simp [hw.1])]
    unfold costP
    rw [hx]
    simp only
    rw [h3, if_pos rfl]
  | [y], hw => simp at hw
  | [], hw => simp at hw
  | _ :: _ :: _ :: _, hw => simp at hw
theorem rtL_nb (hash : Bool) (l : List (List Int)) : ∀ i, ∀ x ∈ rtL hash l i, x.all blankC = false := by
  induction l with
  | nil => intro i x hx; simp [rtL] at hx
  | cons r l ih =>
    intro i x hx
    rw [rtL] at hx
    rcases List.mem_cons.1 hx with rfl | hx
    · have : ∃ t, headT hash i = 82 :: t := by unfold headT; split <;> exact ⟨_, rfl⟩
      obtain ⟨t, ht⟩ := this
      rw [ht]
      rfl
    · exact ih (i + 1) x hx
theorem coL_nb (cost : Int) : ∀ x ∈ coL cost, x.all blankC = false := fun x hx => by
  unfold coL at hx
  split at hx
  · obtain rfl := List.mem_singleton.1 hx
    rfl
  · simp at hx
theorem pr_no (l : List (List Int)) (cost : Int) (hash : Bool) : ∀ x ∈ rtL hash l 0 ++ coL cost, ∀ c ∈ x, okC c := fun x hx => by
  rcases List.mem_append.1 hx with h | h
  · exact rtL_okC hash l 0 x h
  · exact coL_okC cost x h
theorem route_bad (s : ByteArray) (p : Nat × List UInt8 × Nat) (h : PV s p) (r : List Int) (hb : p.2.1 = headT true 0 ++ stopsT r) (k : Nat) (hk : 0 < k) (hk2 : k ≤ 1000) (l : List Row) (acc : List (List Int)) :
    routesP s (rowV p :: l) (k : Int) acc = ([], 0, (p.1 : Int), 3) := by
  have hw := rowV_words s p h
  rw [hb, line_words] at hw
  match hx : (rowV p).f1, hw with
  | y :: z :: ws, hw =>
    simp only [hdW, if_true, List.map_cons, List.cons_append, List.nil_append, List.cons.injEq] at hw
    obtain ⟨g1, g2, g3⟩ := hw
    have hB : begS s (y :: z :: ws) ((k : Int) + 1) = 0 := by
      unfold begS
      simp only
      rw [if_pos g1, g2, if_neg (fun h5 => ?_), if_neg (fun h5 => ?_)]
      · exact (itoa_mem ((k : Int) + 1) 35 (by rw [← h5]; simp)).2.2.1 rfl
      · have h6 : Lib.itoa (((0 : Nat) : Int) + 1) = Lib.itoa ((k : Int) + 1) := by simpa using h5
        have := itoa_inj h6 (by omega) (by omega) (by omega) (by omega)
        omega
    rw [routesP, hx, if_neg (by simp [g1]), hB, if_pos rfl]
    rfl
  | [y], hw => simp [hdW] at hw
  | [], hw => simp [hdW] at hw
theorem order_first (s : ByteArray) (l1 l : List (List Int)) (cost : Int) (hs : s.data.toList = lnT (rtL true l1 0 ++ (rtL true l 0 ++ coL cost))) (hsm : ∀ r ∈ l1, ∀ v ∈ r, -100000000 ≤ v ∧ v ≤ 100000000) (h1 : l1 ≠ []) (hl : l ≠ []) (hl1 : l1.length ≤ 1000) :
    routesF s = ([], 0, ((lnT (rtL true l1 0)).length : Int), 3) := by
  have hno : ∀ x ∈ rtL true l1 0 ++ (rtL true l 0 ++ coL cost), ∀ c ∈ x, c ≠ 10 := fun x hx c hc => by
    rcases List.mem_append.1 hx with h | h
    · exact (rtL_okC true l1 0 x h c hc).1
    · exact (pr_no l cost true x h c hc).1
  have hpv := rowsV_pv s _ hs
  unfold routesF
  rw [shR_lnT s _ hno hs]
  rw [rowsV_app] at hpv ⊢
  have hR := rowsV_bodies (rtL true l1 0) (fun x hx => body_okC x (rtL_okC true l1 0 x hx)) (rtL_nb true l1 0) 0
  rw [List.map_append, show (0 : Int) = ((0 : Nat) : Int) from rfl, routes_ok s true _ l1 _ 0 [] (fun p hp => hpv p (List.mem_append_left _ hp)) hR hsm]
  cases l with
  | nil => exact absurd rfl hl
  | cons r l =>
    have hb := body_okC (headT true 0 ++ stopsT r) (rtL_okC true (r :: l) 0 _ (by rw [rtL]; exact List.mem_cons_self))
    have hn := rtL_nb true (r :: l) 0 (headT true 0 ++ stopsT r) (by rw [rtL]; exact List.mem_cons_self)
    have e : rowsV (0 + (lnT (rtL true l1 0)).length) (rtL true (r :: l) 0 ++ coL cost) = (0 + (lnT (rtL true l1 0)).length, headT true 0 ++ stopsT r, 0 + (lnT (rtL true l1 0)).length + (headT true 0 ++ stopsT r).length + 1) :: rowsV (0 + (lnT (rtL true l1 0)).length + (headT true 0 ++ stopsT r).length + 1) (rtL true l 1 ++ coL cost) := by
      unfold rowsV
      rw [rtL, List.cons_append, linesV, List.filter_cons, hb, hn]
      rfl
    rw [e] at hpv ⊢
    rw [List.map_cons, route_bad s _ (hpv _ (by simp)) r rfl _ (by have := List.length_pos_iff.2 h1; omega) (by omega)]
    simp
theorem order_behind (s : ByteArray) (l : List (List Int)) (cost : Int) (hash : Bool) (x : List UInt8) (hs : s.data.toList = lnT (rtL hash l 0 ++ coL cost ++ [x])) (hx : ∀ c ∈ x, okC c) (hx2 : x.all blankC = false)
    (hsm : ∀ r ∈ l, ∀ v ∈ r, -100000000 ≤ v ∧ v ≤ 100000000) (h1 : 0 ≤ cost) (h2 : cost ≤ 100000000) : routesF s = ([], 0, ((lnT (rtL hash l 0 ++ coL cost)).length : Int), 4) := by
  have hno : ∀ y ∈ rtL hash l 0 ++ coL cost ++ [x], ∀ c ∈ y, c ≠ 10 := fun y hy c hc => by
    rcases List.mem_append.1 hy with h | h
    · exact (pr_no l cost hash y h c hc).1
    · obtain rfl := List.mem_singleton.1 h
      exact (hx c hc).1
  have hpv := rowsV_pv s _ hs
  unfold routesF
  rw [shR_lnT s _ hno hs]
  rw [rowsV_app, rowsV_app] at hpv ⊢
  have hR := rowsV_bodies (rtL hash l 0) (fun x hx => body_okC x (rtL_okC hash l 0 x hx)) (rtL_nb hash l 0) 0
  have hC := rowsV_bodies (coL cost) (fun x hx => body_okC x (coL_okC cost x hx)) (coL_nb cost) (0 + (lnT (rtL hash l 0)).length)
  have e : rowsV (0 + (lnT (rtL hash l 0 ++ coL cost)).length) [x] = [(0 + (lnT (rtL hash l 0 ++ coL cost)).length, x, 0 + (lnT (rtL hash l 0 ++ coL cost)).length + x.length + 1)] := by
    unfold rowsV
    rw [linesV, List.filter_cons, body_okC x hx, hx2]
    rfl
  rw [e] at hpv ⊢
  rw [List.map_append, List.map_append, List.append_assoc, show (0 : Int) = ((0 : Nat) : Int) from rfl, routes_ok s hash _ l _ 0 [] (fun p hp => hpv p (List.mem_append_left _ (List.mem_append_left _ hp))) hR hsm]
  obtain ⟨C, hCC⟩ : ∃ C, rowsV (0 + (lnT (rtL hash l 0)).length) (coL cost) = C := ⟨_, rfl⟩
  rw [hCC] at hC hpv ⊢
  unfold coL at hC
  rw [if_pos h1] at hC
  obtain ⟨p, rfl, h3⟩ := List.map_eq_singleton_iff.1 hC
  rw [List.map_cons, List.map_nil, List.cons_append, List.nil_append, cost_ok s p (hpv p (by simp)) cost h3 (by omega) h2]
  unfold lastP
  simp [rowV]
def sumL (l : List (List Int)) : Nat := (l.map List.length).sum
theorem sumL_take (l : List (List Int)) (i : Nat) (r : List Int) (hr : l[i]? = some r) : sumL (l.take (i + 1)) = sumL (l.take i) + r.length := by
  unfold sumL
  rw [List.take_add_one, hr]
  simp
theorem sumL_mem (l : List (List Int)) : ∀ r ∈ l, r.length ≤ sumL l := by
  induction l with
  | nil => simp
  | cons x l ih =>
    intro r hr
    unfold sumL at ih ⊢
    rw [List.map_cons, List.sum_cons]
    rcases List.mem_cons.1 hr with rfl | h
    · omega
    · have := ih r h; omega
theorem long_l (l : List (List Int)) (d : Nat) : ∀ (i k : Nat) (n : Int), i + d = 70 → d * 2 + 4 < k → n = (sumL (l.take i) : Int) → n ≤ (i : Int) * 450 →
    entrepotlaw16_long.l0 k n i l = some true ∨ (entrepotlaw16_long.l0 k n i l = some false ∧ l.length ≤ 60 ∧ sumL l ≤ 450) := by
  have hend : ∀ (i k : Nat) (n : Int), 1 < k → (l.length ≤ i ∨ 70 ≤ i) → n = (sumL (l.take i) : Int) → entrepotlaw16_long.j1 k n i false l = some true ∨ (entrepotlaw16_long.j1 k n i false l = some false ∧ l.length ≤ 60 ∧ sumL l ≤ 450) := by
    intro i k n hk hi hb
    obtain ⟨k, rfl, hk⟩ := succ' hk
    rw [entrepotlaw16_long.j1, if_neg (by decide)]
    by_cases h60 : (l.length : Int) > 60
    · rw [if_pos h60]; exact .inl rfl
    · rw [if_neg h60]
      rw [List.take_of_length_le (by omega)] at hb
      cases hd : decide (n > 450) with
      | true => exact .inl rfl
      | false =>
        have : ¬ n > 450 := by simpa using hd
        exact .inr ⟨rfl, by omega, by omega⟩
  induction d with
  | zero =>
    intro i k n hi hk hn hn2
    obtain ⟨k, rfl, hk⟩ := succ' hk
    obtain rfl : i = 70 := by omega
    rw [entrepotlaw16_long.l0]
    rw [show decide (((70 : Nat) : Int) < 70) = false from rfl, ite_self]
    exact hend 70 k n (by omega) (.inr (Nat.le_refl _)) hn
  | succ d ih =>
    intro i k n hi hk hn hn2
    obtain ⟨k, rfl, hk⟩ := succ' hk
    rw [entrepotlaw16_long.l0]
    by_cases hlt : i < l.length
    · obtain ⟨r, hr⟩ : ∃ r, l[i]? = some r := ⟨_, List.getElem?_eq_getElem hlt⟩
      obtain ⟨k, rfl, hk⟩ := succ' (show 3 < k by omega)
      rw [if_pos (by omega), show decide ((i : Int) < 70) = true by simp; omega, entrepotlaw16_long.j1, if_pos rfl, if_pos (by omega), if_pos (by omega), rdX14 l i r hr]
      by_cases h4 : (r.length : Int) > 450
      · rw [if_pos h4]; exact .inl rfl
      · rw [if_neg h4, wrapN i (by omega), w64' (n := n + (r.length : Int)) (by omega) (by omega)]
        exact ih (i + 1) k _ (by omega) (by omega) (by rw [sumL_take l i r hr]; omega) (by omega)
    · rw [if_neg (by omega)]
      exact hend i k n (by omega) (.inl (by omega)) hn
theorem long_s (l : List (List Int)) (k : Nat) (hk : 200 < k) : entrepotlaw16_long.f k l = some true ∨ (entrepotlaw16_long.f k l = some false ∧ l.length ≤ 60 ∧ sumL l ≤ 450) := by
  unfold entrepotlaw16_long.f
  exact long_l l 70 0 k 0 (by omega) (by omega) (by simp [sumL]) (by decide)
theorem small_in (l : List (List Int)) (hl : l.length ≤ 60) (i : Nat) (r : List Int) (hr : l[i]? = some r) (hrl : r.length ≤ 450) (N : Nat) (Q : Prop) (d : Nat) : ∀ (j k : Nat), j + d = r.length → N + d + 2 < k →
    (∀ k', N < k' → entrepotlaw16_small.l0 k' ((i + 1 : Nat) : Int) l = some false ∨ (entrepotlaw16_small.l0 k' ((i + 1 : Nat) : Int) l = some true ∧ Q)) →
    entrepotlaw16_small.l1 k i j l = some false ∨ (entrepotlaw16_small.l1 k i j l = some true ∧ Q ∧ ∀ v ∈ r.drop j, -100000000 ≤ v ∧ v ≤ 100000000) := by
  have hlt := (List.getElem?_eq_some_iff.1 hr).1
  induction d with
  | zero =>
    intro j k hj hk hB
    obtain ⟨k, rfl, hk⟩ := succ' hk
    rw [entrepotlaw16_small.l1, if_pos (by omega), if_pos (by omega), rdX14 l i r hr, if_neg (by omega), wrapN i (by omega), List.drop_of_length_le (by omega)]
    rcases hB k (by omega) with h | ⟨h, hq⟩
    · exact .inl h
    · exact .inr ⟨h, hq, by simp⟩
  | succ d ih =>
    intro j k hj hk hB
    obtain ⟨k, rfl, hk⟩ := succ' hk
    obtain ⟨v, hv⟩ : ∃ v, r[j]? = some v := ⟨_, List.getElem?_eq_getElem (show j < r.length by omega)⟩
    rw [entrepotlaw16_small.l1, if_pos (by omega), if_pos (by omega), rdX14 l i r hr, if_pos (by omega), if_pos (by omega), rdXI r j v hv, wrapN j (by omega)]
    by_cases h1 : v < -100000000
    · rw [if_pos h1]; exact .inl rfl
    · by_cases h2 : v > 100000000
      · rw [if_neg h1, if_pos h2]; exact .inl rfl
      · rw [if_neg h1, if_neg h2]
        rcases ih (j + 1) k (by omega) (by omega) hB with h | ⟨h, hq, h3⟩
        · exact .inl h
        · refine .inr ⟨h, hq, fun u hu => ?_⟩
          rw [drop_cons' r j v hv] at hu
          rcases List.mem_cons.1 hu with rfl | hu
          · omega
          · exact h3 u hu
theorem small_l (l : List (List Int)) (hl : l.length ≤ 60) (hrl : ∀ r ∈ l, r.length ≤ 450) (d : Nat) : ∀ (i k : Nat), i + d = l.length → d * 500 + 2 < k →
    entrepotlaw16_small.l0 k i l = some false ∨ (entrepotlaw16_small.l0 k i l = some true ∧ ∀ r ∈ l.drop i, ∀ v ∈ r, -100000000 ≤ v ∧ v ≤ 100000000) := by
  induction d with
  | zero =>
    intro i k hi hk
    obtain ⟨k, rfl, hk⟩ := succ' hk
    rw [entrepotlaw16_small.l0, if_neg (by omega), List.drop_of_length_le (by omega)]
    exact .inr ⟨rfl, by simp⟩
  | succ d ih =>
    intro i k hi hk
    obtain ⟨k, rfl, hk⟩ := succ' hk
    obtain ⟨r, hr⟩ : ∃ r, l[i]? = some r := ⟨_, List.getElem?_eq_getElem (show i < l.length by omega)⟩
    have h45 := hrl r (List.mem_of_getElem? hr)
    rw [entrepotlaw16_small.l0, if_pos (by omega), show (0 : Int) = ((0 : Nat) : Int) from rfl]
    rcases small_in l hl i r hr h45 (d * 500 + 2) _ r.length 0 k (by omega) (by omega) (fun k' hk' => ih (i + 1) k' (by omega) hk') with h | ⟨h, hq, h3⟩
    · exact .inl h
    · refine .inr ⟨h, fun u hu v hv => ?_⟩
      rw [drop_cons' l i r hr] at hu
      rcases List.mem_cons.1 hu with rfl | hu
      · exact h3 v (by simpa using hv)
      · exact hq u hu v hv
theorem small_eq (l : List (List Int)) (hl : l.length ≤ 60) (hrl : ∀ r ∈ l, r.length ≤ 450) (k : Nat) (hk : 40000 < k) :
    entrepotlaw16_small.f k l = some false ∨ (entrepotlaw16_small.f k l = some true ∧ ∀ r ∈ l, ∀ v ∈ r, -100000000 ≤ v ∧ v ≤ 100000000) := by
  unfold entrepotlaw16_small.f
  have := small_l l hl hrl l.length 0 k (by omega) (by omega)
  rw [List.drop_zero] at this
  exact this
theorem routesT_sum (hash : Bool) (l : List (List Int)) (hsm : ∀ r ∈ l, ∀ v ∈ r, -100000000 ≤ v ∧ v ≤ 100000000) : ∀ i : Nat, i + l.length ≤ 100000 → (routesT hash l i).length ≤ sumL l * 22 + l.length * 41 := by
  induction l with
  | nil => intro i _; simp [routesT]
  | cons r l ih =>
    intro i hi
    have h3 := stopsT_len r (hsm r List.mem_cons_self)
    have h4 := head_len hash i (by simp at hi; omega)
    have h5 := ih (fun u hu => hsm u (List.mem_cons_of_mem _ hu)) (i + 1) (by simp at hi; omega)
    have h6 : sumL (r :: l) = r.length + sumL l := by simp [sumL]
    simp only [routesT, List.length_append, List.length_cons, h6]
    omega
theorem prS_len (l : List (List Int)) (cost : Int) (hash : Bool) (hl : l.length ≤ 60) (hs : sumL l ≤ 450) (hsm : ∀ r ∈ l, ∀ v ∈ r, -100000000 ≤ v ∧ v ≤ 100000000) (hc0 : -1 ≤ cost) (hc1 : cost ≤ 100000000) : (prS l cost hash).length ≤ 13000 := by
  have h1 := routesT_sum hash l hsm 0 (by omega)
  have h2 := itoa_length_le cost (by omega) (by omega)
  have h3 : (costT cost).length ≤ 100 := by unfold costT; split <;> simp; omega
  unfold prS
  rw [List.length_append]
  omega
theorem pr_f (l : List (List Int)) (cost : Int) (hash : Bool) (hl : l.length ≤ 60) (hs : sumL l ≤ 450) (hsm : ∀ r ∈ l, ∀ v ∈ r, -100000000 ≤ v ∧ v ≤ 100000000) (hc0 : -1 ≤ cost) (hc1 : cost ≤ 100000000) : tour_PrintRoutes.f l cost hash = some ⟨(prS l cost hash).toArray⟩ :=
  (proutes_eq l cost hash hl (fun r hr => ⟨by have := sumL_mem l r hr; omega, hsm r hr⟩) hc0 hc1).1
end Go.Proofs.YtadocbfchdendaaGreatDoor.Cu
namespace Go.Proofs.YtadocbfchdendaaGreatDoor.Pure
open Go.RowKit Go.Lib Go.Proofs.YtadocbfchdendaaGreatDoor.P Go.Proofs.YtadocbfchdendaaGreatDoor.Cu
theorem TourOrder : entrepotlaw16_TourOrder.Pure := by
  intro l cost at_ _ _ hat
  refine ⟨1000000, ?_⟩
  obtain ⟨K, hK⟩ : ∃ K, (1000000 : Nat) = K + 1 := ⟨999999, rfl⟩
  rw [hK]
  have hK2 : 900000 < K := by omega
  clear hK
  have hno : entrepotlaw16_TourOrder.j0 (K + 1) cost at_ true l = some true := by
    rw [entrepotlaw16_TourOrder.j0, if_pos rfl, up16 K (by omega)]
    rfl
  unfold entrepotlaw16_TourOrder.f
  rcases long_s l (K + 1) (by omega) with hb | ⟨hb, h60, h450⟩
  · rw [hb]
    simp only [Option.bind_some, if_true]
    exact hno
  · have h45 : ∀ r ∈ l, r.length ≤ 450 := fun r hr => by have := sumL_mem l r hr; omega
    rw [hb]
    simp only [Option.bind_some, Bool.false_eq_true, if_false]
    rcases small_eq l h60 h45 (K + 1) (by omega) with hs | ⟨hs, hsm⟩
    · rw [hs]
      simp only [Option.bind_some, Bool.false_eq_true, if_false]
      exact hno
    · rw [hs]
      simp only [Option.bind_some, if_true]
      by_cases h1 : cost < 0
      · rw [if_pos h1]; exact hno
      · rw [if_neg h1]
        by_cases h2 : cost > 100000000
        · rw [if_pos h2]; exact hno
        · rw [if_neg h2]
          by_cases h3 : (l.length : Int) < 2
          · rw [if_pos h3]; exact hno
          · rw [if_neg h3, up16 (K + 1) (by omega)]
            simp only [Option.bind_some, Bool.not_true]
            have hw : wrap64 at_ = at_ ∧ 0 ≤ at_ := by
              have : 0 ≤ at_ ∧ at_ ≤ 255 := by
                have h : IntKind.u8.min ≤ at_ ∧ at_ ≤ IntKind.u8.max := by simpa [Lit.wf] using hat
                rw [show IntKind.u8.min = 0 from rfl, show IntKind.u8.max = 255 from rfl] at h
                exact h
              exact ⟨w64' (by omega) (by omega), this.1⟩
            obtain ⟨k, hk, hkl⟩ : ∃ k : Nat, Int.tmod (wrap64 at_) (l.length : Int) = (k : Int) ∧ k < l.length := by
              rw [hw.1, Int.tmod_eq_emod_of_nonneg hw.2]
              have h4 := Int.emod_nonneg at_ (show (l.length : Int) ≠ 0 by omega)
              have h5 := Int.emod_lt_of_pos at_ (show 0 < (l.length : Int) by omega)
              exact ⟨(at_ % (l.length : Int)).toNat, by omega, by omega⟩
            have hsm2 : ∀ r ∈ l.take k, ∀ v ∈ r, -100000000 ≤ v ∧ v ≤ 100000000 := fun r hr => hsm r (List.mem_of_mem_take hr)
            have htl : (l.take k).length = k := by rw [List.length_take]; omega
            have hsum : sumL (l.take k) ≤ 450 := by
              have h6 : sumL l = sumL (l.take k) + sumL (l.drop k) := by
                unfold sumL
                rw [← List.sum_append, ← List.map_append, List.take_append_drop]
              omega
            rw [entrepotlaw16_TourOrder.j0, if_neg (by decide), if_neg (by omega), hk, if_pos (by omega), if_pos (by omega), Int.toNat_natCast]
            rw [pr_f (l.take k) (-1) true (by omega) hsum hsm2 (by decide) (by decide), pr_f l cost true h60 h450 hsm (by omega) (by omega), pr_f l cost false h60 h450 hsm (by omega) (by omega)]
            simp only [Option.bind_some]
            have l1 := prS_len (l.take k) (-1) true (by omega) hsum hsm2 (by decide) (by decide)
            have l2 := prS_len l cost true h60 h450 hsm (by omega) (by omega)
            have l3 := prS_len l cost false h60 h450 hsm (by omega) (by omega)
            have q1 : prS (l.take k) (-1) true = lnT (rtL true (l.take k) 0) := by
              rw [prS_lnT]
              show lnT (_ ++ []) = _
              rw [List.append_nil]
            obtain ⟨T, hT, hT2⟩ : ∃ T, tour_ParseRoutes.f ((⟨(prS (l.take k) (-1) true).toArray⟩ : ByteArray) ++ ⟨(prS l cost true).toArray⟩) = some T ∧ (0 < k → T = ([], 0, ((prS (l.take k) (-1) true).length : Int), 3)) := by
              refine ⟨routesF ((⟨(prS (l.take k) (-1) true).toArray⟩ : ByteArray) ++ ⟨(prS l cost true).toArray⟩), ?_, fun hk0 => ?_⟩
              · show parseRoutes _ = _
                rw [ba_app]
                rw [parseRoutes_eq _ (by rw [ba_size]; simp; omega)]
              · rw [ba_app]
                rw [order_first _ (l.take k) l cost (by
                  show prS (l.take k) (-1) true ++ prS l cost true = _
                  rw [q1, prS_lnT, ← lnT_app]) hsm2 (by intro h; rw [h] at htl; simp at htl; omega) (by intro h; rw [h] at h3; simp at h3) (by omega), q1]
            have p2 : tour_ParseRoutes.f ((⟨(prS l cost false).toArray⟩ : ByteArray) ++ (⟨#[82, 111, 117, 116, 101, 32, 49, 32, 58, 10]⟩ : ByteArray)) = some ([], 0, ((prS l cost false).length : Int), 4) := by
              show parseRoutes _ = _
              rw [show (⟨#[82, 111, 117, 116, 101, 32, 49, 32, 58, 10]⟩ : ByteArray) = ⟨([82, 111, 117, 116, 101, 32, 49, 32, 58, 10] : List UInt8).toArray⟩ from rfl, ba_app]
              rw [parseRoutes_eq _ (by rw [ba_size]; simp; omega), order_behind _ l cost false [82, 111, 117, 116, 101, 32, 49, 32, 58] (by
                show prS l cost false ++ [82, 111, 117, 116, 101, 32, 49, 32, 58, 10] = _
                rw [prS_lnT, lnT_app _ [_]]
                rfl) (fun c hc => (show ∀ c ∈ ([82, 111, 117, 116, 101, 32, 49, 32, 58] : List UInt8), c ≠ 10 ∧ c ≠ 13 by decide) c hc) rfl hsm (by omega) (by omega), prS_lnT]
            rw [if_pos (by rw [ba_size, ba_size]; omega), hT]
            simp only [Option.bind_some]
            rw [if_pos (by rw [ba_size]; omega), p2]
            simp only [Option.bind_some]
            have hfin : ((((prS l cost false).length : Int)) == ((⟨(prS l cost false).toArray⟩ : ByteArray).size : Int) && ((4 : Int) == 4)) = true := by rw [ba_size]; simp
            by_cases hk0 : (k : Int) > 0
            · rw [if_pos hk0, hT2 (by omega), if_neg (by rw [ba_size]; simp), hfin]
            · rw [if_neg hk0, hfin]
end Go.Proofs.YtadocbfchdendaaGreatDoor.Pure
namespace Go.Proofs.YtadocbfchdendaaGreatDoor.Op
open Go Go.RowKit Go.Proofs.YtadocbfchdendaaGreatDoorW.PrintWords
set_option linter.unusedSimpArgs false
section
variable {H : Type} {enc : TypeId × Value → H} {P : Program} {w : World}
def Opens (enc : TypeId × Value → H) (P : Program) (w : World) {α : Type} (t : TypeId) (d : Kd α) (Q : α → Prop) : Prop :=
  d.sz = P.cellsOf t ∧ ∀ (n : Nat) (cs : List Value) x, DataW.trod enc P w 0 (fun _ => true) true n t cs = some x → ∃ v, d.K w v cs ∧ Q v
theorem opens_int {t : TypeId} {k : IntKind} (ht : P.underlying t = some (.int k)) (hc : P.cellsOf t = 1) : Opens enc P w t (Kd.int k) (fun v => (Lit.int k v).wf = true) := by
  refine ⟨hc.symm, fun n cs x h => ?_⟩
  obtain ⟨v, e, _, hw⟩ := DataW.trod_int ht h
  exact ⟨v, e, hw⟩
theorem add_assoc' (a : Addr) (i j : Nat) : (a.add i).add j = a.add (i + j) := by
  unfold Addr.add
  by_cases h1 : i = 0 <;> by_cases h2 : j = 0 <;> simp [h1, h2, Nat.add_assoc]
theorem exists_list {α : Type} (p : Nat → α → Prop) (n : Nat) (h : ∀ i, i < n → ∃ v, p i v) : ∃ l : List α, l.length = n ∧ ∀ i v, l[i]? = some v → p i v := by
  induction n with
  | zero => exact ⟨[], rfl, fun i v h => by simp at h⟩
  | succ n ih =>
    obtain ⟨l, hl, hp⟩ := ih (fun i hi => h i (by omega))
    obtain ⟨v, hv⟩ := h n (by omega)
    refine ⟨l ++ [v], by simp [hl], fun i u hu => ?_⟩
    by_cases e : i < n
    · rw [List.getElem?_append_left (by omega)] at hu
      exact hp i u hu
    · rw [List.getElem?_append_right (by omega)] at hu
      have e' : i = n := by
        have := (List.getElem?_eq_some_iff.1 hu).1
        simp at this; omega
      subst e'
      rw [hl, Nat.sub_self] at hu
      obtain rfl : v = u := by simpa using hu
      exact hv
theorem opens_slice {α : Type} {t e : TypeId} {d : Kd α} {Q : α → Prop} (ht : P.underlying t = some (.slice e)) (hc : P.cellsOf t = 1) (he : Opens enc P w e d Q) (e' : Nat) :
    Opens enc P w t (Kd.slice e' d) (fun l => l.length ≤ maxLen ∧ ∀ v ∈ l, Q v) := by
  refine ⟨hc.symm, fun n cs x h => ?_⟩
  rcases DataW.trod_slice ht h with ⟨rfl, _⟩ | ⟨a, len, cap, elems, rest, m, _, rfl, _, _, hl, hm, hn, hel, _⟩
  · refine ⟨[], ⟨none, 0, rfl, Nat.le_refl _, ?_⟩, Nat.zero_le _, by simp⟩
    exact ⟨rfl, by simp, fun h0 => absurd h0 (by simp)⟩
  · obtain ⟨l, hll, hp⟩ := exists_list (fun i v => ∃ c, w.cells? 0 (a.add (i * P.cellsOf e)) (P.cellsOf e) = some c ∧ d.K w v c ∧ Q v) len (by
      intro i hi
      have h1 := hel i hi
      obtain ⟨y, hy⟩ : ∃ y, elems[i]? = some y := ⟨_, List.getElem?_eq_getElem (by omega)⟩
      rw [hy] at h1
      obtain ⟨c, h2, h3⟩ := Option.bind_eq_some_iff.1 h1
      obtain ⟨v, h4, h5⟩ := he.2 m c y h3
      exact ⟨v, c, h2, h4, h5⟩)
    subst hll
    have hm' : l.length ≤ maxLen := Nat.le_trans hl hm
    refine ⟨l, ⟨some a, cap, rfl, hl, rfl, (by unfold maxLen at hm'; omega), fun _ => ⟨a, rfl, fun j p hj => ?_⟩⟩, hm', fun v hv => ?_⟩
    · obtain ⟨c, h2, h4, _⟩ := hp j p hj
      refine ⟨c, d.K_len h4, h4, fun i u hu => ?_⟩
      obtain ⟨_, h6, h7⟩ := World.cells?_some h2
      have hi : i < P.cellsOf e := by rw [← h6]; exact (List.getElem?_eq_some_iff.1 hu).1
      have := (h7 i hi).trans hu
      rw [he.1]
      rwa [show (a.add (j * P.cellsOf e)).add i = a.add (j * P.cellsOf e + i) from add_assoc' _ _ _] at this
    · obtain ⟨i, hi⟩ := List.mem_iff_getElem?.1 hv
      obtain ⟨_, _, _, h5⟩ := hp i v hi
      exact h5
def OpensF (enc : TypeId × Value → H) (P : Program) (w : World) {α : Type} (fs : List Field) (off : Nat) (d : Kd α) (Q : α → Prop) : Prop :=
  ∀ (n : Nat) (cs : List Value) (xs : List (DataW H × List MemPlace)), xs.length = fs.length → (∀ (i : Nat) (f : Field), fs[i]? = some f → DataW.trod enc P w 0 (fun _ => true) true n f.type ((cs.drop f.offset).take (P.cellsOf f.type)) = xs[i]?) →
    cs.length = off + d.sz → ∃ v, d.K w v (cs.drop off) ∧ Q v
theorem opens_last {α : Type} {f : Field} {off : Nat} {d : Kd α} {Q : α → Prop} (ho : f.offset = off) (h : Opens enc P w f.type d Q) : OpensF enc P w [f] off d Q := by
  intro n cs xs hl hx hc
  subst ho
  obtain ⟨y, hy⟩ : ∃ y, xs[0]? = some y := ⟨_, List.getElem?_eq_getElem (by simp [hl])⟩
  have h1 := hx 0 f rfl
  rw [hy] at h1
  have h2 := h.2 _ _ _ h1
  rwa [← h.1, List.take_of_length_le (by rw [List.length_drop]; omega)] at h2
theorem opens_plain {α : Type} {t : TypeId} {fs : Array Field} {d : Kd α} {Q : α → Prop} (ht : P.underlying t = some (.struct fs)) (hc : d.sz = P.cellsOf t) (hf : OpensF enc P w fs.toList 0 d Q) : Opens enc P w t d Q := by
  refine ⟨hc, fun n cs x h => ?_⟩
  obtain ⟨xs, m, _, _, hl, hlen, hx⟩ := DataW.trod_struct ht h
  obtain ⟨v, hv, qv⟩ := hf m cs xs (by simpa using hlen) (fun i f hi => hx i f (by simpa using hi)) (by rw [hl, hc, Nat.zero_add])
  exact ⟨v, by simpa using hv, qv⟩
theorem arg_struct {α : Type} {t : TypeId} {fs : Array Field} {d : Kd α} {Q : α → Prop} {r : Reach} {b : Nat} {v : Value} {D : DataW H} {p : List MemPlace} (ht : P.underlying t = some (.struct fs)) (ho : Opens enc P w t d Q)
    (hv : Value.okWide P w r b t v) (h : DataW.Trod enc P w 0 (fun _ => true) true t v D p) : ∃ cs x, v = .agg cs ∧ d.K w x cs.toList ∧ Q x := by
  obtain ⟨cs, rfl, _⟩ := WideShapes.okWide_struct ht hv
  obtain ⟨n, hn⟩ := h
  obtain ⟨x, hx, hQ⟩ := ho.2 n _ _ hn
  exact ⟨cs, x, rfl, by simpa [Value.cells] using hx, hQ⟩
end
end Go.Proofs.YtadocbfchdendaaGreatDoor.Op
namespace Go.Proofs.YtadocbfchdendaaGreatDoor.lawTourOrder
open Go Go.ChangeShapes Go.WideShapes Go.ChangeAt Go.RowKit
open Go.ChangeMaps (open_string shut_string)
open Go.Proofs.YtadocbfchdendaaGreatDoorW.PrintWords Go.Proofs.YtadocbfchdendaaGreatDoor.P
set_option linter.unusedVariables false
set_option linter.unusedSimpArgs false
theorem own : ownKnob Tryz.prog.godebug = none := by kernel_rfl
theorem laidOut : laidOutB Tryz.prog = true := by kernel_rfl
theorem tabs {W : World} (h : laidMetH Tryz.prog [("math/bits.deBruijn32tab", Rows.laid_math_bits_deBruijn32tab), ("math/bits.deBruijn64tab", Rows.laid_math_bits_deBruijn64tab), ("internal/strconv.uint64pow10", Rows.laid_internal_strconv_uint64pow10), ("unicode/utf8.acceptRanges", Rows.laid_unicode_utf8_acceptRanges), ("strconv.ErrRange", Rows.laid_strconv_ErrRange), ("strconv.ErrSyntax", Rows.laid_strconv_ErrSyntax), ("unicode/utf8.first", Rows.laid_unicode_utf8_first)] W) : Tabs W := by
  rw [MakeChecks.laidMetH_plain _ _ _ (by kernel_rfl)] at h
  have h := h.tail
  have h := h.tail
  exact Lib.tabBelow_of_tabIs (Lib.tabIs_of_head (k := .u64) (zs := Lib.pow10Tab) (g := 1) (t := 213) (e := 119) (n := 20) (by kernel_rfl) (by kernel_rfl) Tryz.underlying213 Tryz.underlying119 (by kernel_rfl) (by kernel_rfl) h)
set_option maxRecDepth 100000 in
theorem lifted (os : Os) (started : os.Started) (H : Type) (enc : TypeId × Value → H) :
    ReturnsInHanded {} Tryz.checked os 12 .any (fun w args => (Rows.tourOrderSpec.pre enc Tryz.prog Tryz.f12 [] false w args ∧ laidMetH Tryz.prog [("math/bits.deBruijn32tab", Rows.laid_math_bits_deBruijn32tab), ("math/bits.deBruijn64tab", Rows.laid_math_bits_deBruijn64tab), ("internal/strconv.uint64pow10", Rows.laid_internal_strconv_uint64pow10), ("unicode/utf8.acceptRanges", Rows.laid_unicode_utf8_acceptRanges), ("strconv.ErrRange", Rows.laid_strconv_ErrRange), ("strconv.ErrSyntax", Rows.laid_strconv_ErrSyntax), ("unicode/utf8.first", Rows.laid_unicode_utf8_first)] w) ∧ sizedMet enc Tryz.prog Tryz.f12 (OpenSpec.ofChange Rows.tourOrderSpec) false w args)
      (Rows.tourOrderSpec.post enc Tryz.prog Tryz.f12 false true false false) := by
  refine returnsInHanded_of_change_and (C := Tryz.checked) (X := fun w _ => laidMetH Tryz.prog [("math/bits.deBruijn32tab", Rows.laid_math_bits_deBruijn32tab), ("math/bits.deBruijn64tab", Rows.laid_math_bits_deBruijn64tab), ("internal/strconv.uint64pow10", Rows.laid_internal_strconv_uint64pow10), ("unicode/utf8.acceptRanges", Rows.laid_unicode_utf8_acceptRanges), ("strconv.ErrRange", Rows.laid_strconv_ErrRange), ("strconv.ErrSyntax", Rows.laid_strconv_ErrSyntax), ("unicode/utf8.first", Rows.laid_unicode_utf8_first)] w) (fun _ _ _ hh h => h.of_heap hh) own started (by kernel_rfl) Tryz.func12
    (ChangeSpec.witness_shaped (enc := enc) (C := Tryz.checked) (os := os) (X := fun w _ => laidMetH Tryz.prog [("math/bits.deBruijn32tab", Rows.laid_math_bits_deBruijn32tab), ("math/bits.deBruijn64tab", Rows.laid_math_bits_deBruijn64tab), ("internal/strconv.uint64pow10", Rows.laid_internal_strconv_uint64pow10), ("unicode/utf8.acceptRanges", Rows.laid_unicode_utf8_acceptRanges), ("strconv.ErrRange", Rows.laid_strconv_ErrRange), ("strconv.ErrSyntax", Rows.laid_strconv_ErrSyntax), ("unicode/utf8.first", Rows.laid_unicode_utf8_first)] w) false (World.laidAll Tryz.prog os [("math/bits.deBruijn32tab", Rows.laid_math_bits_deBruijn32tab), ("math/bits.deBruijn64tab", Rows.laid_math_bits_deBruijn64tab), ("internal/strconv.uint64pow10", Rows.laid_internal_strconv_uint64pow10), ("unicode/utf8.acceptRanges", Rows.laid_unicode_utf8_acceptRanges), ("strconv.ErrRange", Rows.laid_strconv_ErrRange), ("strconv.ErrSyntax", Rows.laid_strconv_ErrSyntax), ("unicode/utf8.first", Rows.laid_unicode_utf8_first)]) #[.agg #[.slice none 0 0], .int .i64 0, .int .u8 0] 8 (World.laidAll_os _ _ _) (World.shaped_of_ZipB (by kernel_rfl) (by kernel_rfl)) (by kernel_rfl) (by kernel_rfl) (by kernel_rfl) (by rw [MakeChecks.laidMetH_plain _ _ _ (by kernel_rfl)]; exact laidMet_laidAll _ (by kernel_rfl) (by kernel_rfl))) ?_
  intro W base args ds gs before hval0 hW _ hsz0 hL _
  have hsz : (DataW.weightsEach Tryz.prog (Tryz.f12.params.toList ++ Rows.tourOrderSpec.plain.varTypes Tryz.prog) (ds ++ gs)).all (· ≤ reachBytes) = true := hsz0
  have hval : ∀ (j : Nat) t v, Tryz.f12.params[j]? = some t → args[j]? = some v → Value.okWide Tryz.prog W .any base t v := hval0
  have hW' := hW
  obtain ⟨p, q, hA0, hV, rfl, hfz, hnd⟩ := hW
  have hA : DataW.TrodAll enc Tryz.prog W 0 (fun _ => true) true Tryz.f12.params.toList args.toList ds p := hA0
  rw [Tryz.params12] at hA hval hsz
  obtain ⟨v0, vs0, d0, ds0, p0, q0, hargs, rfl, rfl, h0, r0⟩ := trodAll_cons hA
  obtain ⟨v1, vs1, d1, ds1, p1, q1, rfl, rfl, rfl, h1, r1⟩ := trodAll_cons r0
  obtain ⟨v2, vs2, d2, ds2, p2, q2, rfl, rfl, rfl, h2, r2⟩ := trodAll_cons r1
  obtain ⟨rfl, rfl, rfl⟩ := trodAll_nil r2
  obtain rfl : args = #[v0, v1, v2] := by cases args; simp_all
  obtain ⟨rfl, rfl⟩ := trodVars_none hV
  have k0 := h0
  have lt0 : ∀ x ∈ p0, x.block < W.heap.size := by obtain ⟨m, hm⟩ := k0; exact DataW.trod_lt m _ _ _ hm
  obtain ⟨cs0, a0_0, rfl, hk0, wa0_0⟩ := Op.arg_struct (Q := fun (x : List (List (Int))) => (x.length ≤ maxLen ∧ ∀ v0 ∈ x, (v0.length ≤ maxLen ∧ ∀ v1 ∈ v0, (Lit.int .i64 v1).wf = true))) Tryz.underlying70 (Op.opens_plain Tryz.underlying70 (by kernel_rfl) (Op.opens_last rfl (Op.opens_slice Tryz.underlying68 (by kernel_rfl) (Op.opens_slice Tryz.underlying38 (by kernel_rfl) (Op.opens_int Tryz.underlying3 (by kernel_rfl)) 3) 38)) : Op.Opens enc Tryz.prog W 70 (Kd.slice 38 (Kd.slice 3 (Kd.int .i64))) _) (hval 0 70 v0 rfl rfl) h0
  obtain ⟨A0_0, c0_0, hcs0, hc0_0, hr0_0⟩ := hk0
  have ecs0 := congrArg List.toArray hcs0
  rw [Array.toArray_toList] at ecs0
  obtain rfl : cs0 = #[.slice A0_0 a0_0.length c0_0] := ecs0
  have k1 := h1
  have lt1 : ∀ x ∈ p1, x.block < W.heap.size := by obtain ⟨m, hm⟩ := k1; exact DataW.trod_lt m _ _ _ hm
  obtain ⟨a1, rfl, rfl, rfl, wa1⟩ := open_int Tryz.underlying3 (hval 1 3 v1 rfl rfl) h1
  have k2 := h2
  have lt2 : ∀ x ∈ p2, x.block < W.heap.size := by obtain ⟨m, hm⟩ := k2; exact DataW.trod_lt m _ _ _ hm
  obtain ⟨a2, rfl, rfl, rfl, wa2⟩ := open_int Tryz.underlying5 (hval 2 5 v2 rfl rfl) h2
  clear hA0 hval0 hsz0 hsz
  obtain ⟨k, hk⟩ := Pure.TourOrder a0_0 a1 a2 wa0_0 wa1 wa2
  refine (P.entrepotlaw16_TourOrder.calls k A0_0 c0_0 a0_0 a1 a2 true W hr0_0 hc0_0 (tabs hL) hk).mono fun e W' hp => ?_
  obtain ⟨he, hb⟩ := hp
  subst he
  have bel : Below W.heap.size W W' := hb
  exact ⟨_, rfl, _, _, _, [], _, [], hW', trodAll_mk1 (shut_bool Tryz.underlying4 _), trodAll_cons_mk (Below.trod laidOut (by kernel_rfl) (of_decide_eq_true (by kernel_rfl)) k0 bel lt0) (trodAll_cons_mk (Below.trod laidOut (by kernel_rfl) (of_decide_eq_true (by kernel_rfl)) k1 bel lt1) (trodAll_cons_mk (Below.trod laidOut (by kernel_rfl) (of_decide_eq_true (by kernel_rfl)) k2 bel lt2) trodAll_mk0)), rfl, bel.frame _, fun h => by cases h⟩
theorem over : Rows.tourOrderRow.holds Tryz.pinned (OpenSpec.ofChange Rows.tourOrderSpec) :=
  OpenClaim.holds_of_wide 12 Tryz.f12 rfl rfl rfl rfl rfl rfl rfl ⟨rfl, rfl, rfl, rfl, rfl⟩ rfl rfl rfl rfl rfl (by kernel_rfl) Tryz.func12 (by kernel_rfl)
    (of_decide_eq_true (by kernel_rfl)) (by unfold Func.isWrapper; first | (rw [if_pos (by decide +kernel)]; kernel_rfl) | (rw [if_neg (by decide +kernel)]; exact ⟨rfl, rfl⟩))
    (fun os started H enc _ => lifted os started H enc)
theorem card_holds : Rows.TourOrderCardSaid :=
  Claim7.holds_tied_plain_at .later [] [.data, .data, .data, .data, .sentinel, .sentinel, .pinned] true (true, "50ff171a6ebaa1dc44acd7db4d9128ea4c6fd5289ca809cb7593c385ab16d17b") true
    over (fun _ h => by cases h) (by kernel_rfl) (fun _ h => by cases h) tourOrder_row_tie rfl ⟨rfl, rfl⟩ (by kernel_rfl) rfl
    (fun f fn hf hfn => by
      obtain rfl : f = 12 := Option.some.inj ((show Tryz.prog.funcNamed "entrepot/entrepotlaw16.TourOrder" = some 12 by kernel_rfl).symm.trans hf) |>.symm
      obtain rfl : fn = Tryz.f12 := (Option.some.inj (Tryz.func12.symm.trans hfn)).symm
      exact ⟨by kernel_rfl, fun j t ht => by
        rw [Tryz.params12] at ht
        have hm : t ∈ [70, 3, 5] := by simpa using Array.mem_of_getElem? ht
        have hall : ([70, 3, 5].all fun u => !Tryz.prog.wantsStandIn u) = true := by kernel_rfl
        exact (show Tryz.prog.wantsStandIn t = false by simpa using List.all_eq_true.1 hall t hm)⟩)
    (by kernel_rfl)
#print axioms card_holds
end Go.Proofs.YtadocbfchdendaaGreatDoor.lawTourOrder
namespace Go.Proofs.YtadocbfchdendaaGreatDoor
theorem lawTourOrder_holds : Rows.TourOrderCardSaid := lawTourOrder.card_holds
end Go.Proofs.YtadocbfchdendaaGreatDoor
