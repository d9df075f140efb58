/- TourBack holds for every input: the law returns true, and its arguments read as they read. Its condition: the library's tables and errors that the row lists lie as the program's text lays them (the card ties this). -/
import Derived.Test.YtadocbfchdendaaGreatDoorMTourBackA
import Derived.Test.YtadocbfchdendaaGreatDoorMTourBackB
import Derived.Test.YtadocbfchdendaaGreatDoorMTourBackC
import Derived.Lib.IndexLaws
import Derived.Deep.LoopGhost
import Derived.Lib.ItoaLen
import Derived.ChangeArms
import Derived.DataReads
import Derived.WideShapes
import Derived.OpenShut
import Derived.Test.YtadocbfchdendaaGreatDoorRows
import Derived.Test.YtadocbfchdendaaGreatDoorCards
import Derived.Test.YtadocbfchdendaaGreatDoorTie
import Derived.WalkKit
import Derived.ProofKit
import Derived.ShutString
import Derived.ChangeOld
import Derived.Below
import Derived.SizedLaws
import Derived.LaidMore
import Derived.Lay
import Derived.SevenTiedAt
import Derived.Lib.SmallJoins
import Derived.Stop.LaidErr
import Derived.Lib.LaidTab
import Derived.Carry
import Derived.Stop.Joined
set_option linter.unusedVariables false
set_option linter.unusedSimpArgs false
namespace Go.Proofs.YtadocbfchdendaaGreatDoor.P
open Go.RowKit Go.Proofs.YtadocbfchdendaaGreatDoorW.PrintWords Go.Proofs.YtadocbfchdendaaGreatDoorW.PrintLast Go.Proofs.YtadocbfchdendaaGreatDoorW.PrintMore
attribute [local go_sem] max2_int min2_int max_two min_two max_three min_three max_four min_four
set_option linter.unusedVariables false
set_option linter.unusedSimpArgs false
attribute [local go_sem high] eqA41
def entrepotlaw16_shown.f (k : Nat)  : Option (Bool) := (tour_PrintTour.f k (⟨#[116]⟩ : ByteArray) (([(([1, 0] : List Int))] : List (List Int)))).bind fun t107 => ((tour_ParseTour.f t107).bind fun bt108 => ((tour_ParseRoutes.f (⟨#[82, 111, 117, 116, 101, 32, 35, 49, 58, 32, 51, 32, 49, 10, 82, 111, 117, 116, 101, 32, 50, 32, 58, 10, 67, 111, 115, 116, 32, 50, 48, 10]⟩ : ByteArray)).bind fun bt115 => ((tour_ParseRoutes.f (⟨#[82, 111, 117, 116, 101, 32, 35, 50, 58, 32, 51, 10]⟩ : ByteArray)).bind fun bt123 => (if t107.toList = ([78, 65, 77, 69, 32, 58, 32, 116, 10, 84, 89, 80, 69, 32, 58, 32, 84, 79, 85, 82, 10, 68, 73, 77, 69, 78, 83, 73, 79, 78, 32, 58, 32, 50, 10, 84, 79, 85, 82, 95, 83, 69, 67, 84, 73, 79, 78, 10, 50, 10, 49, 10, 45, 49, 10, 69, 79, 70, 10] : List UInt8) then (if (bt108.1.length : Int) = 1 then (if 0 < (bt108.1.length : Int) then (if ((rd_L14 bt108.1 0).length : Int) = 2 then (if 0 < ((rd_L14 bt108.1 0).length : Int) then (if (rd (rd_L14 bt108.1 0) 0) = 1 then (if (bt108.2.1 == 0 && (bt108.2.2 == 0)) = true then (if (bt115.1.length : Int) = 2 then (if 0 < (bt115.1.length : Int) then (if ((rd_L14 bt115.1 0).length : Int) = 2 then (if bt115.2.1 = 20 then (if (bt115.2.2.1 == 0 && (bt115.2.2.2 == 0)) = true then (some (bt123.2.2.1 == 0 && (bt123.2.2.2 == 3))) else (none)) else (none)) else (none)) else (none)) else (none)) else (none)) else (none)) else (none)) else (none)) else (none)) else (none)) else (none)))))
theorem entrepotlaw16_shown.mono : ∀ k, LeO (entrepotlaw16_shown.f k ) (entrepotlaw16_shown.f (k + 1) ) := by
 intro  k
 unfold entrepotlaw16_shown.f
 repeat' first
   | (with_reducible exact tour_PrintTour.mono _ _ _)
   | (with_reducible exact LeO.refl _)
   | (with_reducible exact LeO.none _)
   | (with_reducible refine LeO.ite ?_ ?_)
   | (with_reducible refine LeO.bind ?_ (fun _ => ?_))
   | exact tour_PrintTour.mono _ _ _
   | exact LeO.none _
   | refine LeO.ite ?_ ?_
   | refine LeO.bind ?_ (fun _ => ?_)
set_option maxHeartbeats 8000000 in
set_option maxRecDepth 100000 in
theorem entrepotlaw16_shown.calls (k : Nat)  (r : Bool) (w : World) (hT : Tabs w) (h : entrepotlaw16_shown.f k  = some r) :
  Calls Tryz.prog 33 #[] w fun e w' => e = .returned (.bool r) ∧ Below w.heap.size w w' := by
 have hu70 := Tryz.underlying70; have hu41 := Tryz.underlying41; have HT0 := Aside0.mk hT; clear hT; have HB := Aside0.mk (Below.refl w.heap.size w); have H : ((tour_PrintTour.f k (⟨#[116]⟩ : ByteArray) (([(([1, 0] : List Int))] : List (List Int)))).bind fun t107 => ((tour_ParseTour.f t107).bind fun bt108 => ((tour_ParseRoutes.f (⟨#[82, 111, 117, 116, 101, 32, 35, 49, 58, 32, 51, 32, 49, 10, 82, 111, 117, 116, 101, 32, 50, 32, 58, 10, 67, 111, 115, 116, 32, 50, 48, 10]⟩ : ByteArray)).bind fun bt115 => ((tour_ParseRoutes.f (⟨#[82, 111, 117, 116, 101, 32, 35, 50, 58, 32, 51, 10]⟩ : ByteArray)).bind fun bt123 => (if t107.toList = ([78, 65, 77, 69, 32, 58, 32, 116, 10, 84, 89, 80, 69, 32, 58, 32, 84, 79, 85, 82, 10, 68, 73, 77, 69, 78, 83, 73, 79, 78, 32, 58, 32, 50, 10, 84, 79, 85, 82, 95, 83, 69, 67, 84, 73, 79, 78, 10, 50, 10, 49, 10, 45, 49, 10, 69, 79, 70, 10] : List UInt8) then (if (bt108.1.length : Int) = 1 then (if 0 < (bt108.1.length : Int) then (if ((rd_L14 bt108.1 0).length : Int) = 2 then (if 0 < ((rd_L14 bt108.1 0).length : Int) then (if (rd (rd_L14 bt108.1 0) 0) = 1 then (if (bt108.2.1 == 0 && (bt108.2.2 == 0)) = true then (if (bt115.1.length : Int) = 2 then (if 0 < (bt115.1.length : Int) then (if ((rd_L14 bt115.1 0).length : Int) = 2 then (if bt115.2.1 = 20 then (if (bt115.2.2.1 == 0 && (bt115.2.2.2 == 0)) = true then (some (bt123.2.2.1 == 0 && (bt123.2.2.2 == 3))) else (none)) else (none)) else (none)) else (none)) else (none)) else (none)) else (none)) else (none)) else (none)) else (none)) else (none)) else (none)))))) = some r := h; clear h; obtain ⟨y101, hy101⟩ : ∃ y_ : List Int, y_ = (([1, 0] : List Int)) := ⟨_, rfl⟩; replace H : ((tour_PrintTour.f k (⟨#[116]⟩ : ByteArray) (([y101] : List (List Int)))).bind fun t107 => ((tour_ParseTour.f t107).bind fun bt108 => ((tour_ParseRoutes.f (⟨#[82, 111, 117, 116, 101, 32, 35, 49, 58, 32, 51, 32, 49, 10, 82, 111, 117, 116, 101, 32, 50, 32, 58, 10, 67, 111, 115, 116, 32, 50, 48, 10]⟩ : ByteArray)).bind fun bt115 => ((tour_ParseRoutes.f (⟨#[82, 111, 117, 116, 101, 32, 35, 50, 58, 32, 51, 10]⟩ : ByteArray)).bind fun bt123 => (if t107.toList = ([78, 65, 77, 69, 32, 58, 32, 116, 10, 84, 89, 80, 69, 32, 58, 32, 84, 79, 85, 82, 10, 68, 73, 77, 69, 78, 83, 73, 79, 78, 32, 58, 32, 50, 10, 84, 79, 85, 82, 95, 83, 69, 67, 84, 73, 79, 78, 10, 50, 10, 49, 10, 45, 49, 10, 69, 79, 70, 10] : List UInt8) then (if (bt108.1.length : Int) = 1 then (if 0 < (bt108.1.length : Int) then (if ((rd_L14 bt108.1 0).length : Int) = 2 then (if 0 < ((rd_L14 bt108.1 0).length : Int) then (if (rd (rd_L14 bt108.1 0) 0) = 1 then (if (bt108.2.1 == 0 && (bt108.2.2 == 0)) = true then (if (bt115.1.length : Int) = 2 then (if 0 < (bt115.1.length : Int) then (if ((rd_L14 bt115.1 0).length : Int) = 2 then (if bt115.2.1 = 20 then (if (bt115.2.2.1 == 0 && (bt115.2.2.2 == 0)) = true then (some (bt123.2.2.1 == 0 && (bt123.2.2.2 == 3))) else (none)) else (none)) else (none)) else (none)) else (none)) else (none)) else (none)) else (none)) else (none)) else (none)) else (none)) else (none)))))) = some r := by first | (rw [hy101]; with_reducible exact H) | (have H2_ := (Option.bind_some _ _).symm.trans H; rw [hy101]; with_reducible exact H2_) | (have H2_ := (Option.bind_some _ _).symm.trans H; with_reducible exact H2_) | with_reducible exact H | (rw [hy101]; exact H) | exact H
 have Ny101 := Aside0.mk hy101; clear hy101; obtain ⟨y104, hy104⟩ : ∃ y_ : List (List Int), y_ = (([y101] : List (List Int))) := ⟨_, rfl⟩; replace H : ((tour_PrintTour.f k (⟨#[116]⟩ : ByteArray) y104).bind fun t107 => ((tour_ParseTour.f t107).bind fun bt108 => ((tour_ParseRoutes.f (⟨#[82, 111, 117, 116, 101, 32, 35, 49, 58, 32, 51, 32, 49, 10, 82, 111, 117, 116, 101, 32, 50, 32, 58, 10, 67, 111, 115, 116, 32, 50, 48, 10]⟩ : ByteArray)).bind fun bt115 => ((tour_ParseRoutes.f (⟨#[82, 111, 117, 116, 101, 32, 35, 50, 58, 32, 51, 10]⟩ : ByteArray)).bind fun bt123 => (if t107.toList = ([78, 65, 77, 69, 32, 58, 32, 116, 10, 84, 89, 80, 69, 32, 58, 32, 84, 79, 85, 82, 10, 68, 73, 77, 69, 78, 83, 73, 79, 78, 32, 58, 32, 50, 10, 84, 79, 85, 82, 95, 83, 69, 67, 84, 73, 79, 78, 10, 50, 10, 49, 10, 45, 49, 10, 69, 79, 70, 10] : List UInt8) then (if (bt108.1.length : Int) = 1 then (if 0 < (bt108.1.length : Int) then (if ((rd_L14 bt108.1 0).length : Int) = 2 then (if 0 < ((rd_L14 bt108.1 0).length : Int) then (if (rd (rd_L14 bt108.1 0) 0) = 1 then (if (bt108.2.1 == 0 && (bt108.2.2 == 0)) = true then (if (bt115.1.length : Int) = 2 then (if 0 < (bt115.1.length : Int) then (if ((rd_L14 bt115.1 0).length : Int) = 2 then (if bt115.2.1 = 20 then (if (bt115.2.2.1 == 0 && (bt115.2.2.2 == 0)) = true then (some (bt123.2.2.1 == 0 && (bt123.2.2.2 == 3))) else (none)) else (none)) else (none)) else (none)) else (none)) else (none)) else (none)) else (none)) else (none)) else (none)) else (none)) else (none)))))) = some r := by first | (rw [hy104]; with_reducible exact H) | (have H2_ := (Option.bind_some _ _).symm.trans H; rw [hy104]; with_reducible exact H2_) | (have H2_ := (Option.bind_some _ _).symm.trans H; with_reducible exact H2_) | with_reducible exact H | (rw [hy104]; exact H) | exact H
 have Ny104 := Aside0.mk hy104; clear hy104; replace H := Option.bind_eq_some_iff.mp H; obtain ⟨t107, A10, H⟩ := H; (try dsimp only at H); have A1 := Aside0.mk A10; clear A10; replace H := Option.bind_eq_some_iff.mp H; obtain ⟨⟨t108, t111, t112⟩, A20, H⟩ := H; (try dsimp only at H); have A2 := Aside0.mk A20; clear A20; replace H := Option.bind_eq_some_iff.mp H; obtain ⟨⟨t115, t118, t119, t120⟩, A30, H⟩ := H; (try dsimp only at H); have A3 := Aside0.mk A30; clear A30; replace H := Option.bind_eq_some_iff.mp H; obtain ⟨⟨t123, t126, t127, t128⟩, A40, H⟩ := H; (try dsimp only at H); have A4 := Aside0.mk A40; clear A40
 by_cases c5 : t107.toList = ([78, 65, 77, 69, 32, 58, 32, 116, 10, 84, 89, 80, 69, 32, 58, 32, 84, 79, 85, 82, 10, 68, 73, 77, 69, 78, 83, 73, 79, 78, 32, 58, 32, 50, 10, 84, 79, 85, 82, 95, 83, 69, 67, 84, 73, 79, 78, 10, 50, 10, 49, 10, 45, 49, 10, 69, 79, 70, 10] : List UInt8)
 ·rw [if_pos c5] at H; have c5b0 := beq_iff_eq.mpr c5; have c5b1 := bne_eq_false_iff_eq.mpr c5; clear c5
  by_cases c6 : (t108.length : Int) = 1
  ·rw [if_pos c6] at H; have c6b0 := beq_iff_eq.mpr c6; have c6b1 := bne_eq_false_iff_eq.mpr c6; clear c6
   by_cases c7 : 0 < (t108.length : Int)
   ·rw [if_pos c7] at H; have c7b0 := decide_eq_true c7; have c7b1 : decide (0 < t108.length) = true := decide_eq_true (by omega); clear c7
    by_cases c8 : ((rd_L14 t108 0).length : Int) = 2
    ·rw [if_pos c8] at H; have c8b0 := beq_iff_eq.mpr c8; have c8b1 := bne_eq_false_iff_eq.mpr c8; clear c8
     by_cases c9 : 0 < ((rd_L14 t108 0).length : Int)
     ·rw [if_pos c9] at H; have c9b0 := decide_eq_true c9; have c9b1 : decide (0 < (rd_L14 t108 0).length) = true := decide_eq_true (by omega); clear c9
      by_cases c10 : (rd (rd_L14 t108 0) 0) = 1
      ·rw [if_pos c10] at H; have c10b0 := beq_iff_eq.mpr c10; have c10b1 := bne_eq_false_iff_eq.mpr c10; clear c10
       by_cases c11 : (t111 == 0 && (t112 == 0)) = true
       ·rw [if_pos c11] at H; have c11b0 : (t111 == 0 && (t112 == 0)) = true := c11; (try (have c11b1 : decide (t111 = 0 && (t112 == 0)) = true := by simpa using c11)); (try (have c11b2 : (t111 == 0 && (t112 == 0)) = true := by simpa using c11)); clear c11
        by_cases c12 : (t115.length : Int) = 2
        ·rw [if_pos c12] at H; have c12b0 := beq_iff_eq.mpr c12; have c12b1 := bne_eq_false_iff_eq.mpr c12; clear c12
         by_cases c13 : 0 < (t115.length : Int)
         ·rw [if_pos c13] at H; have c13b0 := decide_eq_true c13; have c13b1 : decide (0 < t115.length) = true := decide_eq_true (by omega); clear c13
          by_cases c14 : ((rd_L14 t115 0).length : Int) = 2
          ·rw [if_pos c14] at H; have c14b0 := beq_iff_eq.mpr c14; have c14b1 := bne_eq_false_iff_eq.mpr c14; clear c14
           by_cases c15 : t118 = 20
           ·rw [if_pos c15] at H; have c15b0 := beq_iff_eq.mpr c15; have c15b1 := bne_eq_false_iff_eq.mpr c15; clear c15
            by_cases c16 : (t119 == 0 && (t120 == 0)) = true
            ·rw [if_pos c16] at H; have c16b0 : (t119 == 0 && (t120 == 0)) = true := c16; (try (have c16b1 : decide (t119 = 0 && (t120 == 0)) = true := by simpa using c16)); (try (have c16b2 : (t119 == 0 && (t120 == 0)) = true := by simpa using c16)); clear c16; obtain rfl := Option.some.inj H; go_enter Tryz.func33, Tryz.ntmps33
             go_wp2_with (first | ((with_reducible refine gate_dst (N := 10) rfl ?_); (try (refine gate_guard (by rfl) ?_; dsimp only)); refine Kd.R_lit (Kd.int .i64) _ 3 ?hg (N := 10) ?hd (xs := ([1, 0] : List Int)) (inner := [.int .i64 1, .int .i64 0]) (ok := fun _ => True) (okp := fun _ => True) ?hr ?hp (fun _ hk => hk) trivial (Below.refl _ _) (Nat.le_refl _) (by simp) ?_; (case hd => rfl); (case hg => rfl); (case hr => first | (go_simp; done) | (go_simp; rfl)); (case hp => exact (Reps.one (show Kd.M (Kd.int .i64) _ _ _ 1 [.int .i64 1] from rfl) (Reps.one (show Kd.M (Kd.int .i64) _ _ _ 0 [.int .i64 0] from rfl) (Reps.none _ _)))); intro v102 w17 ho18 hb hg_ hnew_; clear hg_ hnew_; (first | rw [← Ny101.out] at ho18 | (simp only [Int.reduceToNat] at ho18; rw [← Ny101.out] at ho18)); have HO103 := Aside0.mk (Kd.R_lower ho18 (below_size qb)); replace HB := cB HB hb; clear hb ho18; obtain ⟨Ao19, co19, eo19⟩ := Kd.R_slice HO103.out; subst eo19) | ((with_reducible refine gate_dst (N := 11) rfl ?_); (try (refine gate_guard (by rfl) ?_; dsimp only)); refine Kd.N_lit (Kd.slice 3 (Kd.int .i64)) _ 38 ?hg (N' := 11) ?hd (xs := ([y101] : List (List Int))) (inner := [.slice Ao19 y101.length co19]) (ok := (fun _ => True)) (okp := (fun _ => True)) ?hr ?hp (fun _ hk => hk) ((show ∀ k_, w17.heap.size ≤ k_ → (fun _ => True) k_ from fun k_ hk => trivial) _ (Nat.le_refl _)) (Below.refl _ _) (Nat.le_refl _) (by simp) ?_; (case hd => rfl); (case hg => rfl); (case hr => first | (go_simp; done) | (go_simp; rfl)); (case hp => exact (Reps.one (show Kd.FK (Kd.slice 3 (Kd.int .i64)) _ _ y101 [.slice Ao19 y101.length co19] from (Kd.FK_slice_mk (Kd.R_reads' (Kd.R_mono (ok' := (fun _ => True)) (HO103.out) (fun k_ hk => trivial))).2.1 (Kd.R_F (Kd.R_mono (ok' := (fun _ => True)) (HO103.out) (fun k_ hk => trivial))))) (Reps.none _ _))); intro v105 w20 ho21 hb hg_ hnew_; clear hg_ hnew_; (first | rw [← Ny104.out] at ho21 | (simp only [Int.reduceToNat] at ho21; rw [← Ny104.out] at ho21)); have HO106 := Aside0.mk (Kd.N_lower ho21 (below_size qb)); replace HB := cB HB hb; clear HO103; clear hb ho21; obtain ⟨Ao22, co22, eo22⟩ := Kd.N_slice HO106.out; subst eo22) | ((with_reducible refine gate_callee (f := 40) rfl ?_); refine goesL_ (some 13) rfl rfl Tryz.func40 (by kernel_rfl) rfl #[.string (⟨#[116]⟩ : ByteArray), .agg #[.slice Ao22 y104.length co22]] rfl qm ?_; (with_reducible refine (tour_PrintTour.calls k (⟨#[116]⟩ : ByteArray) _ _ y104 t107 _ ?side1 ?side2 (Tabs.kept HT0.out qb) A1.out).mono ?_); (case side1 => repeat (first | exact (Kd.N_reads' HO106.out).2.2 | (with_reducible refine Kd.C_alloc ?_ _) | (with_reducible refine Kd.C_drewN ?_ _) | (with_reducible refine Kd.C_drew ?_))); (case side2 => exact (Kd.N_reads' HO106.out).2.1); rintro e w23 ⟨rfl, hb⟩; refine ⟨_, rfl, ?_⟩; replace HO106 := cN HO106 hb; replace HB := cB HB hb; (try clear hb); (try clear hb2); (try clear hk); (try clear hi)) | ((with_reducible refine gate_callee (f := 34) rfl ?_); refine goesL_ (some 16) rfl rfl Tryz.func34 (by kernel_rfl) rfl #[.string t107] rfl qm ?_; (with_reducible refine (tour_ParseTour.calls t107 t108 t111 t112 _ A2.out).mono ?_); rintro e w24 ⟨v109, rfl, ho0, hb⟩; refine ⟨_, rfl, ?_⟩; have n0_ := Aside0.mk (Kd.N_elder' (qN HO106.out) (Kd.S_base ho0) hb); have HO110 := Aside0.mk (Kd.N_lower (Kd.N_mono (ok' := fun k_ => some k_ ≠ (.slice Ao22 y104.length co22 : Value).ownBlock) (Kd.S_N (Kd.S_bound ho0)) (fun k_ hk_ => (Kd.fresh' (Kd.N_lt (qN HO106.out)) k_ hk_.2.1))) (below_size qb)); replace HB := cB HB hb; replace HO106 := n0_; clear n0_; (try clear hb); (try clear hb2); (try clear hk); (try clear hi); (try clear ho0)) | ((with_reducible refine gate_dst (N := 2) rfl ?_); (try (refine gate_guard (by rfl) ?_; dsimp only)); refine box_ev (N := 2) (cs := #[.slice none 0 0]) (t := 70) ?_; intro gb113 hg w25 hbox hb; have n0_ := Aside0.mk (Kd.N_below (Kd.N_elderB (qN HO106.out) gb113 (Nat.le_of_eq hg.symm)) hb); have n1_ := Aside0.mk (Kd.N_below (Kd.N_elderB (qN HO110.out) gb113 (Nat.le_of_eq hg.symm)) hb); have BK113 := Aside0.mk (hbox); have GW113 := Aside0.mk ((qg : w.heap.size ≤ gb113)); have GE113 := Aside0.mk ((qg : w.heap.size ≤ gb113)); replace HB := cB HB hb; replace HO106 := n0_; replace HO110 := n1_; clear n0_ n1_; clear hb hbox hg) | ((with_reducible refine gate_dst (N := 3) rfl ?_); (try (refine gate_guard (by rfl) ?_; dsimp only)); refine box_ev (N := 3) (cs := #[.int .i64 0, .int .i64 0]) (t := 41) ?_; intro gb114 hg w26 hbox hb; have n0_ := Aside0.mk (Kd.N_below (Kd.N_elderB (qN HO106.out) gb114 (Nat.le_of_eq hg.symm)) hb); have n1_ := Aside0.mk (Kd.N_below (Kd.N_elderB (qN HO110.out) gb114 (Nat.le_of_eq hg.symm)) hb); have BK114 := Aside0.mk (hbox); have GW114 := Aside0.mk ((qg : w.heap.size ≤ gb114)); have GE114 := Aside0.mk ((qg : w.heap.size ≤ gb114)); have NB113_114 := Aside0.mk ((by rw [hg]; exact Nat.ne_of_lt (blk_lt (g := gb113) (o := .cells #[.slice none 0 0] 70 (0, 0)) (qk BK113.out)) : gb113 ≠ gb114)); have NB114_113 := Aside0.mk ((by rw [hg]; exact Nat.ne_of_gt (blk_lt (g := gb113) (o := .cells #[.slice none 0 0] 70 (0, 0)) (qk BK113.out)) : gb114 ≠ gb113)); replace BK113 := cK BK113 hb; replace HB := cB HB hb; replace HO106 := n0_; replace HO110 := n1_; clear n0_ n1_; clear hb hbox hg; obtain ⟨Ao27, co27, eo27⟩ := Kd.N_slice HO110.out; subst eo27; have hnb28 := NB113_114.out; have hnc28 := NB114_113.out; have hcz29_0 : w26.cell? ⟨gb113, 0, none⟩ = some (.slice none 0 0) := (blk_cell BK113.out 0).trans rfl; have hfz29_0 := blk_frozen BK113.out 0; have hcz30_0 : w26.cell? ⟨gb114, 0, none⟩ = some (.int .i64 0) := (blk_cell BK114.out 0).trans rfl; have hcz30_1 : w26.cell? ⟨gb114, 1, none⟩ = some (.int .i64 0) := (blk_cell BK114.out 1).trans rfl; have hfz30_0 := blk_frozen BK114.out 0; have hfz30_1 := blk_frozen BK114.out 1) | ((with_reducible refine gate_callee (f := 36) rfl ?_); refine goesL_ (some 20) rfl rfl Tryz.func36 (by kernel_rfl) rfl #[.string (⟨#[82, 111, 117, 116, 101, 32, 35, 49, 58, 32, 51, 32, 49, 10, 82, 111, 117, 116, 101, 32, 50, 32, 58, 10, 67, 111, 115, 116, 32, 50, 48, 10]⟩ : ByteArray)] rfl qm ?_; (with_reducible refine (tour_ParseRoutes.calls (⟨#[82, 111, 117, 116, 101, 32, 35, 49, 58, 32, 51, 32, 49, 10, 82, 111, 117, 116, 101, 32, 50, 32, 58, 10, 67, 111, 115, 116, 32, 50, 48, 10]⟩ : ByteArray) t115 t118 t119 t120 _ (Tabs.kept HT0.out qb) A3.out).mono ?_); rintro e w31 ⟨v116, rfl, ho0, hb⟩; refine ⟨_, rfl, ?_⟩; have n0_ := Aside0.mk (Kd.N_elder' (by refine qN ?_; exact (Kd.N_mono (Kd.N_mono (Kd.N_far (p := ⟨gb114, 1, none⟩) (Kd.N_far (p := ⟨gb114, 0, none⟩) (Kd.N_far (p := ⟨gb113, 0, none⟩) (Kd.N_mono (Kd.N_mono HO106.out (fun k_ hk => (⟨hk, hk.1.2⟩ : _ ∧ k_ ≠ gb113))) (fun k_ hk => (⟨hk, hk.1.2⟩ : _ ∧ k_ ≠ gb114))) (fun _ hk => hk.1.2) (.slice Ao27 t108.length co27)) (fun _ hk => hk.2) (.int .i64 t111)) (fun _ hk => hk.2) (.int .i64 t112)) (fun _ h_ => by first | exact h_.1 | exact ⟨trivial, h_.1⟩)) (fun _ h_ => by first | exact h_.1 | exact ⟨trivial, h_.1⟩))) (Kd.S_base ho0) hb); have n1_ := Aside0.mk (Kd.N_elder' (by refine qN ?_; exact (Kd.N_mono (Kd.N_mono (Kd.N_far (p := ⟨gb114, 1, none⟩) (Kd.N_far (p := ⟨gb114, 0, none⟩) (Kd.N_far (p := ⟨gb113, 0, none⟩) (Kd.N_mono (Kd.N_mono HO110.out (fun k_ hk => (⟨hk, hk.1.2⟩ : _ ∧ k_ ≠ gb113))) (fun k_ hk => (⟨hk, hk.1.2⟩ : _ ∧ k_ ≠ gb114))) (fun _ hk => hk.1.2) (.slice Ao27 t108.length co27)) (fun _ hk => hk.2) (.int .i64 t111)) (fun _ hk => hk.2) (.int .i64 t112)) (fun _ h_ => by first | exact h_.1 | exact ⟨trivial, h_.1⟩)) (fun _ h_ => by first | exact h_.1 | exact ⟨trivial, h_.1⟩))) (Kd.S_base ho0) hb); have HO117 := Aside0.mk (Kd.N_lower (Kd.N_mono (ok' := fun k_ => some k_ ≠ (.slice Ao22 y104.length co22 : Value).ownBlock ∧ some k_ ≠ (.slice Ao27 t108.length co27 : Value).ownBlock ∧ k_ ≠ gb113 ∧ k_ ≠ gb114) (Kd.S_N (Kd.S_bound ho0)) (fun k_ hk_ => ⟨(Kd.fresh' (Kd.N_lt (by refine qN ?_; exact (Kd.N_mono (Kd.N_mono (Kd.N_far (p := ⟨gb114, 1, none⟩) (Kd.N_far (p := ⟨gb114, 0, none⟩) (Kd.N_far (p := ⟨gb113, 0, none⟩) (Kd.N_mono (Kd.N_mono HO106.out (fun k_ hk => (⟨hk, hk.1.2⟩ : _ ∧ k_ ≠ gb113))) (fun k_ hk => (⟨hk, hk.1.2⟩ : _ ∧ k_ ≠ gb114))) (fun _ hk => hk.1.2) (.slice Ao27 t108.length co27)) (fun _ hk => hk.2) (.int .i64 t111)) (fun _ hk => hk.2) (.int .i64 t112)) (fun _ h_ => by first | exact h_.1 | exact ⟨trivial, h_.1⟩)) (fun _ h_ => by first | exact h_.1 | exact ⟨trivial, h_.1⟩)))) k_ hk_.2.1), (Kd.fresh' (Kd.N_lt (by refine qN ?_; exact (Kd.N_mono (Kd.N_mono (Kd.N_far (p := ⟨gb114, 1, none⟩) (Kd.N_far (p := ⟨gb114, 0, none⟩) (Kd.N_far (p := ⟨gb113, 0, none⟩) (Kd.N_mono (Kd.N_mono HO110.out (fun k_ hk => (⟨hk, hk.1.2⟩ : _ ∧ k_ ≠ gb113))) (fun k_ hk => (⟨hk, hk.1.2⟩ : _ ∧ k_ ≠ gb114))) (fun _ hk => hk.1.2) (.slice Ao27 t108.length co27)) (fun _ hk => hk.2) (.int .i64 t111)) (fun _ hk => hk.2) (.int .i64 t112)) (fun _ h_ => by first | exact h_.1 | exact ⟨trivial, h_.1⟩)) (fun _ h_ => by first | exact h_.1 | exact ⟨trivial, h_.1⟩)))) k_ hk_.2.1), (Kd.freshB (g := gb113) (o := .cells #[.slice Ao27 t108.length co27] 70 (0, 0)) (by refine qk ?_; refine blk_far ?_ NB113_114.out _; refine qk ?_; refine blk_far ?_ NB113_114.out _; refine qk ?_; refine blk_put (cs := #[.slice none 0 0]) ?_ 0 _ rfl; refine qk ?_; exact BK113.out) k_ hk_.2.1), (Kd.freshB (g := gb114) (o := .cells #[.int .i64 t111, .int .i64 t112] 41 (0, 0)) (by refine qk ?_; refine blk_put (cs := #[.int .i64 t111, .int .i64 0]) ?_ 1 _ rfl; refine qk ?_; refine blk_put (cs := #[.int .i64 0, .int .i64 0]) ?_ 0 _ rfl; refine qk ?_; refine blk_far ?_ NB114_113.out _; refine qk ?_; exact BK114.out) k_ hk_.2.1)⟩)) (below_size qb)); have n3_ := Aside0.mk (blk_below (g := gb113) (o := .cells #[.slice Ao27 t108.length co27] 70 (0, 0)) (by refine qk ?_; refine blk_far ?_ NB113_114.out _; refine qk ?_; refine blk_far ?_ NB113_114.out _; refine qk ?_; refine blk_put (cs := #[.slice none 0 0]) ?_ 0 _ rfl; refine qk ?_; exact BK113.out) hb); have n4_ := Aside0.mk (blk_below (g := gb114) (o := .cells #[.int .i64 t111, .int .i64 t112] 41 (0, 0)) (by refine qk ?_; refine blk_put (cs := #[.int .i64 t111, .int .i64 0]) ?_ 1 _ rfl; refine qk ?_; refine blk_put (cs := #[.int .i64 0, .int .i64 0]) ?_ 0 _ rfl; refine qk ?_; refine blk_far ?_ NB114_113.out _; refine qk ?_; exact BK114.out) hb); replace HB := cB HB hb; replace HO106 := n0_; replace HO110 := n1_; replace BK113 := n3_; replace BK114 := n4_; clear n0_ n1_ n3_ n4_; (try clear hb); (try clear hb2); (try clear hk); (try clear hi); (try clear ho0)) | ((with_reducible refine gate_dst (N := 4) rfl ?_); (try (refine gate_guard (by rfl) ?_; dsimp only)); refine box_ev (N := 4) (cs := #[.slice none 0 0]) (t := 70) ?_; intro gb121 hg w32 hbox hb; have n0_ := Aside0.mk (Kd.N_below (Kd.N_elderB (qN HO106.out) gb121 (Nat.le_of_eq hg.symm)) hb); have n1_ := Aside0.mk (Kd.N_below (Kd.N_elderB (qN HO110.out) gb121 (Nat.le_of_eq hg.symm)) hb); have n2_ := Aside0.mk (Kd.N_below (Kd.N_elderB (qN HO117.out) gb121 (Nat.le_of_eq hg.symm)) hb); have BK121 := Aside0.mk (hbox); have GW121 := Aside0.mk ((qg : w.heap.size ≤ gb121)); have GE121 := Aside0.mk ((qg : w.heap.size ≤ gb121)); have NB113_121 := Aside0.mk ((by rw [hg]; exact Nat.ne_of_lt (blk_lt (g := gb113) (o := .cells #[.slice Ao27 t108.length co27] 70 (0, 0)) (qk BK113.out)) : gb113 ≠ gb121)); have NB121_113 := Aside0.mk ((by rw [hg]; exact Nat.ne_of_gt (blk_lt (g := gb113) (o := .cells #[.slice Ao27 t108.length co27] 70 (0, 0)) (qk BK113.out)) : gb121 ≠ gb113)); have NB114_121 := Aside0.mk ((by rw [hg]; exact Nat.ne_of_lt (blk_lt (g := gb114) (o := .cells #[.int .i64 t111, .int .i64 t112] 41 (0, 0)) (qk BK114.out)) : gb114 ≠ gb121)); have NB121_114 := Aside0.mk ((by rw [hg]; exact Nat.ne_of_gt (blk_lt (g := gb114) (o := .cells #[.int .i64 t111, .int .i64 t112] 41 (0, 0)) (qk BK114.out)) : gb121 ≠ gb114)); replace BK113 := cK BK113 hb; replace BK114 := cK BK114 hb; replace HB := cB HB hb; replace HO106 := n0_; replace HO110 := n1_; replace HO117 := n2_; clear n0_ n1_ n2_; clear hb hbox hg) | ((with_reducible refine gate_dst (N := 6) rfl ?_); (try (refine gate_guard (by rfl) ?_; dsimp only)); refine box_ev (N := 6) (cs := #[.int .i64 0, .int .i64 0]) (t := 41) ?_; intro gb122 hg w33 hbox hb; have n0_ := Aside0.mk (Kd.N_below (Kd.N_elderB (qN HO106.out) gb122 (Nat.le_of_eq hg.symm)) hb); have n1_ := Aside0.mk (Kd.N_below (Kd.N_elderB (qN HO110.out) gb122 (Nat.le_of_eq hg.symm)) hb); have n2_ := Aside0.mk (Kd.N_below (Kd.N_elderB (qN HO117.out) gb122 (Nat.le_of_eq hg.symm)) hb); have BK122 := Aside0.mk (hbox); have GW122 := Aside0.mk ((qg : w.heap.size ≤ gb122)); have GE122 := Aside0.mk ((qg : w.heap.size ≤ gb122)); have NB113_122 := Aside0.mk ((by rw [hg]; exact Nat.ne_of_lt (blk_lt (g := gb113) (o := .cells #[.slice Ao27 t108.length co27] 70 (0, 0)) (qk BK113.out)) : gb113 ≠ gb122)); have NB122_113 := Aside0.mk ((by rw [hg]; exact Nat.ne_of_gt (blk_lt (g := gb113) (o := .cells #[.slice Ao27 t108.length co27] 70 (0, 0)) (qk BK113.out)) : gb122 ≠ gb113)); have NB114_122 := Aside0.mk ((by rw [hg]; exact Nat.ne_of_lt (blk_lt (g := gb114) (o := .cells #[.int .i64 t111, .int .i64 t112] 41 (0, 0)) (qk BK114.out)) : gb114 ≠ gb122)); have NB122_114 := Aside0.mk ((by rw [hg]; exact Nat.ne_of_gt (blk_lt (g := gb114) (o := .cells #[.int .i64 t111, .int .i64 t112] 41 (0, 0)) (qk BK114.out)) : gb122 ≠ gb114)); have NB121_122 := Aside0.mk ((by rw [hg]; exact Nat.ne_of_lt (blk_lt (g := gb121) (o := .cells #[.slice none 0 0] 70 (0, 0)) (qk BK121.out)) : gb121 ≠ gb122)); have NB122_121 := Aside0.mk ((by rw [hg]; exact Nat.ne_of_gt (blk_lt (g := gb121) (o := .cells #[.slice none 0 0] 70 (0, 0)) (qk BK121.out)) : gb122 ≠ gb121)); replace BK113 := cK BK113 hb; replace BK114 := cK BK114 hb; replace BK121 := cK BK121 hb; replace HB := cB HB hb; replace HO106 := n0_; replace HO110 := n1_; replace HO117 := n2_; clear n0_ n1_ n2_; clear hb hbox hg; obtain ⟨Ao34, co34, eo34⟩ := Kd.N_slice HO117.out; subst eo34; have hnb35 := NB121_113.out; have hnc35 := NB113_121.out; have hnb36 := NB121_114.out; have hnc36 := NB114_121.out; have hnb37 := NB121_122.out; have hnc37 := NB122_121.out; have hcz38_0 : w33.cell? ⟨gb121, 0, none⟩ = some (.slice none 0 0) := (blk_cell BK121.out 0).trans rfl; have hfz38_0 := blk_frozen BK121.out 0; have hnb39 := NB122_113.out; have hnc39 := NB113_122.out; have hnb40 := NB122_114.out; have hnc40 := NB114_122.out; have hcz41_0 : w33.cell? ⟨gb122, 0, none⟩ = some (.int .i64 0) := (blk_cell BK122.out 0).trans rfl; have hcz41_1 : w33.cell? ⟨gb122, 1, none⟩ = some (.int .i64 0) := (blk_cell BK122.out 1).trans rfl; have hfz41_0 := blk_frozen BK122.out 0; have hfz41_1 := blk_frozen BK122.out 1) | ((with_reducible refine gate_callee (f := 36) rfl ?_); refine goesL_ (some 25) rfl rfl Tryz.func36 (by kernel_rfl) rfl #[.string (⟨#[82, 111, 117, 116, 101, 32, 35, 50, 58, 32, 51, 10]⟩ : ByteArray)] rfl qm ?_; (with_reducible refine (tour_ParseRoutes.calls (⟨#[82, 111, 117, 116, 101, 32, 35, 50, 58, 32, 51, 10]⟩ : ByteArray) t123 t126 t127 t128 _ (Tabs.kept HT0.out qb) A4.out).mono ?_); rintro e w42 ⟨v124, rfl, ho0, hb⟩; refine ⟨_, rfl, ?_⟩; have n0_ := Aside0.mk (Kd.N_elder' (by refine qN ?_; exact (Kd.N_mono (Kd.N_mono (Kd.N_far (p := ⟨gb122, 1, none⟩) (Kd.N_far (p := ⟨gb122, 0, none⟩) (Kd.N_far (p := ⟨gb121, 0, none⟩) (Kd.N_mono (Kd.N_mono HO106.out (fun k_ hk => (⟨hk, hk.1.2⟩ : _ ∧ k_ ≠ gb121))) (fun k_ hk => (⟨hk, hk.1.2⟩ : _ ∧ k_ ≠ gb122))) (fun _ hk => hk.1.2) (.slice Ao34 t115.length co34)) (fun _ hk => hk.2) (.int .i64 t119)) (fun _ hk => hk.2) (.int .i64 t120)) (fun _ h_ => by first | exact h_.1 | exact ⟨trivial, h_.1⟩)) (fun _ h_ => by first | exact h_.1 | exact ⟨trivial, h_.1⟩))) (Kd.S_base ho0) hb); have n1_ := Aside0.mk (Kd.N_elder' (by refine qN ?_; exact (Kd.N_mono (Kd.N_mono (Kd.N_far (p := ⟨gb122, 1, none⟩) (Kd.N_far (p := ⟨gb122, 0, none⟩) (Kd.N_far (p := ⟨gb121, 0, none⟩) (Kd.N_mono (Kd.N_mono HO110.out (fun k_ hk => (⟨hk, hk.1.2⟩ : _ ∧ k_ ≠ gb121))) (fun k_ hk => (⟨hk, hk.1.2⟩ : _ ∧ k_ ≠ gb122))) (fun _ hk => hk.1.2) (.slice Ao34 t115.length co34)) (fun _ hk => hk.2) (.int .i64 t119)) (fun _ hk => hk.2) (.int .i64 t120)) (fun _ h_ => by first | exact h_.1 | exact ⟨trivial, h_.1⟩)) (fun _ h_ => by first | exact h_.1 | exact ⟨trivial, h_.1⟩))) (Kd.S_base ho0) hb); have n2_ := Aside0.mk (Kd.N_elder' (by refine qN ?_; exact (Kd.N_mono (Kd.N_mono (Kd.N_far (p := ⟨gb122, 1, none⟩) (Kd.N_far (p := ⟨gb122, 0, none⟩) (Kd.N_far (p := ⟨gb121, 0, none⟩) (Kd.N_mono (Kd.N_mono HO117.out (fun k_ hk => (⟨hk, hk.1.2⟩ : _ ∧ k_ ≠ gb121))) (fun k_ hk => (⟨hk, hk.1.2⟩ : _ ∧ k_ ≠ gb122))) (fun _ hk => hk.1.2) (.slice Ao34 t115.length co34)) (fun _ hk => hk.2) (.int .i64 t119)) (fun _ hk => hk.2) (.int .i64 t120)) (fun _ h_ => by first | exact h_.1 | exact ⟨trivial, h_.1⟩)) (fun _ h_ => by first | exact h_.1 | exact ⟨trivial, h_.1⟩))) (Kd.S_base ho0) hb); have HO125 := Aside0.mk (Kd.N_lower (Kd.N_mono (ok' := fun k_ => some k_ ≠ (.slice Ao22 y104.length co22 : Value).ownBlock ∧ some k_ ≠ (.slice Ao27 t108.length co27 : Value).ownBlock ∧ some k_ ≠ (.slice Ao34 t115.length co34 : Value).ownBlock ∧ k_ ≠ gb113 ∧ k_ ≠ gb114 ∧ k_ ≠ gb121 ∧ k_ ≠ gb122) (Kd.S_N (Kd.S_bound ho0)) (fun k_ hk_ => ⟨(Kd.fresh' (Kd.N_lt (by refine qN ?_; exact (Kd.N_mono (Kd.N_mono (Kd.N_far (p := ⟨gb122, 1, none⟩) (Kd.N_far (p := ⟨gb122, 0, none⟩) (Kd.N_far (p := ⟨gb121, 0, none⟩) (Kd.N_mono (Kd.N_mono HO106.out (fun k_ hk => (⟨hk, hk.1.2⟩ : _ ∧ k_ ≠ gb121))) (fun k_ hk => (⟨hk, hk.1.2⟩ : _ ∧ k_ ≠ gb122))) (fun _ hk => hk.1.2) (.slice Ao34 t115.length co34)) (fun _ hk => hk.2) (.int .i64 t119)) (fun _ hk => hk.2) (.int .i64 t120)) (fun _ h_ => by first | exact h_.1 | exact ⟨trivial, h_.1⟩)) (fun _ h_ => by first | exact h_.1 | exact ⟨trivial, h_.1⟩)))) k_ hk_.2.1), (Kd.fresh' (Kd.N_lt (by refine qN ?_; exact (Kd.N_mono (Kd.N_mono (Kd.N_far (p := ⟨gb122, 1, none⟩) (Kd.N_far (p := ⟨gb122, 0, none⟩) (Kd.N_far (p := ⟨gb121, 0, none⟩) (Kd.N_mono (Kd.N_mono HO110.out (fun k_ hk => (⟨hk, hk.1.2⟩ : _ ∧ k_ ≠ gb121))) (fun k_ hk => (⟨hk, hk.1.2⟩ : _ ∧ k_ ≠ gb122))) (fun _ hk => hk.1.2) (.slice Ao34 t115.length co34)) (fun _ hk => hk.2) (.int .i64 t119)) (fun _ hk => hk.2) (.int .i64 t120)) (fun _ h_ => by first | exact h_.1 | exact ⟨trivial, h_.1⟩)) (fun _ h_ => by first | exact h_.1 | exact ⟨trivial, h_.1⟩)))) k_ hk_.2.1), (Kd.fresh' (Kd.N_lt (by refine qN ?_; exact (Kd.N_mono (Kd.N_mono (Kd.N_far (p := ⟨gb122, 1, none⟩) (Kd.N_far (p := ⟨gb122, 0, none⟩) (Kd.N_far (p := ⟨gb121, 0, none⟩) (Kd.N_mono (Kd.N_mono HO117.out (fun k_ hk => (⟨hk, hk.1.2⟩ : _ ∧ k_ ≠ gb121))) (fun k_ hk => (⟨hk, hk.1.2⟩ : _ ∧ k_ ≠ gb122))) (fun _ hk => hk.1.2) (.slice Ao34 t115.length co34)) (fun _ hk => hk.2) (.int .i64 t119)) (fun _ hk => hk.2) (.int .i64 t120)) (fun _ h_ => by first | exact h_.1 | exact ⟨trivial, h_.1⟩)) (fun _ h_ => by first | exact h_.1 | exact ⟨trivial, h_.1⟩)))) k_ hk_.2.1), (Kd.freshB (g := gb113) (o := .cells #[.slice Ao27 t108.length co27] 70 (0, 0)) (by refine qk ?_; refine blk_far ?_ NB113_122.out _; refine qk ?_; refine blk_far ?_ NB113_122.out _; refine qk ?_; refine blk_far ?_ NB113_121.out _; refine qk ?_; exact BK113.out) k_ hk_.2.1), (Kd.freshB (g := gb114) (o := .cells #[.int .i64 t111, .int .i64 t112] 41 (0, 0)) (by refine qk ?_; refine blk_far ?_ NB114_122.out _; refine qk ?_; refine blk_far ?_ NB114_122.out _; refine qk ?_; refine blk_far ?_ NB114_121.out _; refine qk ?_; exact BK114.out) k_ hk_.2.1), (Kd.freshB (g := gb121) (o := .cells #[.slice Ao34 t115.length co34] 70 (0, 0)) (by refine qk ?_; refine blk_far ?_ NB121_122.out _; refine qk ?_; refine blk_far ?_ NB121_122.out _; refine qk ?_; refine blk_put (cs := #[.slice none 0 0]) ?_ 0 _ rfl; refine qk ?_; exact BK121.out) k_ hk_.2.1), (Kd.freshB (g := gb122) (o := .cells #[.int .i64 t119, .int .i64 t120] 41 (0, 0)) (by refine qk ?_; refine blk_put (cs := #[.int .i64 t119, .int .i64 0]) ?_ 1 _ rfl; refine qk ?_; refine blk_put (cs := #[.int .i64 0, .int .i64 0]) ?_ 0 _ rfl; refine qk ?_; refine blk_far ?_ NB122_121.out _; refine qk ?_; exact BK122.out) k_ hk_.2.1)⟩)) (below_size qb)); have n4_ := Aside0.mk (blk_below (g := gb113) (o := .cells #[.slice Ao27 t108.length co27] 70 (0, 0)) (by refine qk ?_; refine blk_far ?_ NB113_122.out _; refine qk ?_; refine blk_far ?_ NB113_122.out _; refine qk ?_; refine blk_far ?_ NB113_121.out _; refine qk ?_; exact BK113.out) hb); have n5_ := Aside0.mk (blk_below (g := gb114) (o := .cells #[.int .i64 t111, .int .i64 t112] 41 (0, 0)) (by refine qk ?_; refine blk_far ?_ NB114_122.out _; refine qk ?_; refine blk_far ?_ NB114_122.out _; refine qk ?_; refine blk_far ?_ NB114_121.out _; refine qk ?_; exact BK114.out) hb); have n6_ := Aside0.mk (blk_below (g := gb121) (o := .cells #[.slice Ao34 t115.length co34] 70 (0, 0)) (by refine qk ?_; refine blk_far ?_ NB121_122.out _; refine qk ?_; refine blk_far ?_ NB121_122.out _; refine qk ?_; refine blk_put (cs := #[.slice none 0 0]) ?_ 0 _ rfl; refine qk ?_; exact BK121.out) hb); have n7_ := Aside0.mk (blk_below (g := gb122) (o := .cells #[.int .i64 t119, .int .i64 t120] 41 (0, 0)) (by refine qk ?_; refine blk_put (cs := #[.int .i64 t119, .int .i64 0]) ?_ 1 _ rfl; refine qk ?_; refine blk_put (cs := #[.int .i64 0, .int .i64 0]) ?_ 0 _ rfl; refine qk ?_; refine blk_far ?_ NB122_121.out _; refine qk ?_; exact BK122.out) hb); replace HB := cB HB hb; replace HO106 := n0_; replace HO110 := n1_; replace HO117 := n2_; replace BK113 := n4_; replace BK114 := n5_; replace BK121 := n6_; replace BK122 := n7_; clear n0_ n1_ n2_ n4_ n5_ n6_ n7_; (try clear hb); (try clear hb2); (try clear hk); (try clear hi); (try clear ho0)) | ((with_reducible refine gate_dst (N := 7) rfl ?_); (try (refine gate_guard (by rfl) ?_; dsimp only)); refine box_ev (N := 7) (cs := #[.slice none 0 0]) (t := 70) ?_; intro gb129 hg w43 hbox hb; have n0_ := Aside0.mk (Kd.N_below (Kd.N_elderB (qN HO106.out) gb129 (Nat.le_of_eq hg.symm)) hb); have n1_ := Aside0.mk (Kd.N_below (Kd.N_elderB (qN HO110.out) gb129 (Nat.le_of_eq hg.symm)) hb); have n2_ := Aside0.mk (Kd.N_below (Kd.N_elderB (qN HO117.out) gb129 (Nat.le_of_eq hg.symm)) hb); have n3_ := Aside0.mk (Kd.N_below (Kd.N_elderB (qN HO125.out) gb129 (Nat.le_of_eq hg.symm)) hb); have BK129 := Aside0.mk (hbox); have GW129 := Aside0.mk ((qg : w.heap.size ≤ gb129)); have GE129 := Aside0.mk ((qg : w.heap.size ≤ gb129)); have NB113_129 := Aside0.mk ((by rw [hg]; exact Nat.ne_of_lt (blk_lt (g := gb113) (o := .cells #[.slice Ao27 t108.length co27] 70 (0, 0)) (qk BK113.out)) : gb113 ≠ gb129)); have NB129_113 := Aside0.mk ((by rw [hg]; exact Nat.ne_of_gt (blk_lt (g := gb113) (o := .cells #[.slice Ao27 t108.length co27] 70 (0, 0)) (qk BK113.out)) : gb129 ≠ gb113)); have NB114_129 := Aside0.mk ((by rw [hg]; exact Nat.ne_of_lt (blk_lt (g := gb114) (o := .cells #[.int .i64 t111, .int .i64 t112] 41 (0, 0)) (qk BK114.out)) : gb114 ≠ gb129)); have NB129_114 := Aside0.mk ((by rw [hg]; exact Nat.ne_of_gt (blk_lt (g := gb114) (o := .cells #[.int .i64 t111, .int .i64 t112] 41 (0, 0)) (qk BK114.out)) : gb129 ≠ gb114)); have NB121_129 := Aside0.mk ((by rw [hg]; exact Nat.ne_of_lt (blk_lt (g := gb121) (o := .cells #[.slice Ao34 t115.length co34] 70 (0, 0)) (qk BK121.out)) : gb121 ≠ gb129)); have NB129_121 := Aside0.mk ((by rw [hg]; exact Nat.ne_of_gt (blk_lt (g := gb121) (o := .cells #[.slice Ao34 t115.length co34] 70 (0, 0)) (qk BK121.out)) : gb129 ≠ gb121)); have NB122_129 := Aside0.mk ((by rw [hg]; exact Nat.ne_of_lt (blk_lt (g := gb122) (o := .cells #[.int .i64 t119, .int .i64 t120] 41 (0, 0)) (qk BK122.out)) : gb122 ≠ gb129)); have NB129_122 := Aside0.mk ((by rw [hg]; exact Nat.ne_of_gt (blk_lt (g := gb122) (o := .cells #[.int .i64 t119, .int .i64 t120] 41 (0, 0)) (qk BK122.out)) : gb129 ≠ gb122)); replace BK113 := cK BK113 hb; replace BK114 := cK BK114 hb; replace BK121 := cK BK121 hb; replace BK122 := cK BK122 hb; replace HB := cB HB hb; replace HO106 := n0_; replace HO110 := n1_; replace HO117 := n2_; replace HO125 := n3_; clear n0_ n1_ n2_ n3_; clear hb hbox hg) | ((with_reducible refine gate_dst (N := 9) rfl ?_); (try (refine gate_guard (by rfl) ?_; dsimp only)); refine box_ev (N := 9) (cs := #[.int .i64 0, .int .i64 0]) (t := 41) ?_; intro gb130 hg w44 hbox hb; have n0_ := Aside0.mk (Kd.N_below (Kd.N_elderB (qN HO106.out) gb130 (Nat.le_of_eq hg.symm)) hb); have n1_ := Aside0.mk (Kd.N_below (Kd.N_elderB (qN HO110.out) gb130 (Nat.le_of_eq hg.symm)) hb); have n2_ := Aside0.mk (Kd.N_below (Kd.N_elderB (qN HO117.out) gb130 (Nat.le_of_eq hg.symm)) hb); have n3_ := Aside0.mk (Kd.N_below (Kd.N_elderB (qN HO125.out) gb130 (Nat.le_of_eq hg.symm)) hb); have BK130 := Aside0.mk (hbox); have GW130 := Aside0.mk ((qg : w.heap.size ≤ gb130)); have GE130 := Aside0.mk ((qg : w.heap.size ≤ gb130)); have NB113_130 := Aside0.mk ((by rw [hg]; exact Nat.ne_of_lt (blk_lt (g := gb113) (o := .cells #[.slice Ao27 t108.length co27] 70 (0, 0)) (qk BK113.out)) : gb113 ≠ gb130)); have NB130_113 := Aside0.mk ((by rw [hg]; exact Nat.ne_of_gt (blk_lt (g := gb113) (o := .cells #[.slice Ao27 t108.length co27] 70 (0, 0)) (qk BK113.out)) : gb130 ≠ gb113)); have NB114_130 := Aside0.mk ((by rw [hg]; exact Nat.ne_of_lt (blk_lt (g := gb114) (o := .cells #[.int .i64 t111, .int .i64 t112] 41 (0, 0)) (qk BK114.out)) : gb114 ≠ gb130)); have NB130_114 := Aside0.mk ((by rw [hg]; exact Nat.ne_of_gt (blk_lt (g := gb114) (o := .cells #[.int .i64 t111, .int .i64 t112] 41 (0, 0)) (qk BK114.out)) : gb130 ≠ gb114)); have NB121_130 := Aside0.mk ((by rw [hg]; exact Nat.ne_of_lt (blk_lt (g := gb121) (o := .cells #[.slice Ao34 t115.length co34] 70 (0, 0)) (qk BK121.out)) : gb121 ≠ gb130)); have NB130_121 := Aside0.mk ((by rw [hg]; exact Nat.ne_of_gt (blk_lt (g := gb121) (o := .cells #[.slice Ao34 t115.length co34] 70 (0, 0)) (qk BK121.out)) : gb130 ≠ gb121)); have NB122_130 := Aside0.mk ((by rw [hg]; exact Nat.ne_of_lt (blk_lt (g := gb122) (o := .cells #[.int .i64 t119, .int .i64 t120] 41 (0, 0)) (qk BK122.out)) : gb122 ≠ gb130)); have NB130_122 := Aside0.mk ((by rw [hg]; exact Nat.ne_of_gt (blk_lt (g := gb122) (o := .cells #[.int .i64 t119, .int .i64 t120] 41 (0, 0)) (qk BK122.out)) : gb130 ≠ gb122)); have NB129_130 := Aside0.mk ((by rw [hg]; exact Nat.ne_of_lt (blk_lt (g := gb129) (o := .cells #[.slice none 0 0] 70 (0, 0)) (qk BK129.out)) : gb129 ≠ gb130)); have NB130_129 := Aside0.mk ((by rw [hg]; exact Nat.ne_of_gt (blk_lt (g := gb129) (o := .cells #[.slice none 0 0] 70 (0, 0)) (qk BK129.out)) : gb130 ≠ gb129)); replace BK113 := cK BK113 hb; replace BK114 := cK BK114 hb; replace BK121 := cK BK121 hb; replace BK122 := cK BK122 hb; replace BK129 := cK BK129 hb; replace HB := cB HB hb; replace HO106 := n0_; replace HO110 := n1_; replace HO117 := n2_; replace HO125 := n3_; clear n0_ n1_ n2_ n3_; clear hb hbox hg; obtain ⟨Ao45, co45, eo45⟩ := Kd.N_slice HO125.out; subst eo45; have hnb46 := NB129_113.out; have hnc46 := NB113_129.out; have hnb47 := NB129_114.out; have hnc47 := NB114_129.out; have hnb48 := NB129_121.out; have hnc48 := NB121_129.out; have hnb49 := NB129_122.out; have hnc49 := NB122_129.out; have hnb50 := NB129_130.out; have hnc50 := NB130_129.out; have hcz51_0 : w44.cell? ⟨gb129, 0, none⟩ = some (.slice none 0 0) := (blk_cell BK129.out 0).trans rfl; have hfz51_0 := blk_frozen BK129.out 0) | ((with_reducible refine gate_store (t := 70) (p := 7) rfl ?_); refine store_ev (t := 70) (p := 7) (w1 := (w44.setCell ⟨gb129, 0, none⟩ (.slice Ao45 t123.length co45))) ?_; intro w52 hw; have n0_ : Aside0 (Kd.N (Kd.slice 3 (Kd.int .i64)) 38 w52 w.heap.size (fun k_ => some k_ ≠ (.slice Ao27 t108.length co27 : Value).ownBlock ∧ some k_ ≠ (.slice Ao34 t115.length co34 : Value).ownBlock ∧ some k_ ≠ (.slice Ao45 t123.length co45 : Value).ownBlock ∧ k_ ≠ gb113 ∧ k_ ≠ gb114 ∧ k_ ≠ gb121 ∧ k_ ≠ gb122 ∧ k_ ≠ gb129 ∧ k_ ≠ gb130) (.slice Ao22 y104.length co22) y104) := ⟨(by rw [hw]; exact (by refine qN ?_; exact Kd.N_mono (Kd.N_far (p := ⟨gb129, 0, none⟩) (Kd.N_mono HO106.out (fun k_ hk => (⟨hk, hk.1.2⟩ : _ ∧ k_ ≠ gb129))) (fun _ hk => hk.2) (.slice Ao45 t123.length co45)) (fun _ hk => ⟨hk.1.1.1.1.1.1.1.1.1.2, ⟨hk.1.1.1.1.1.1.2, ⟨hk.1.1.1.2, ⟨hk.1.1.1.1.1.1.1.1.2, ⟨hk.1.1.1.1.1.1.1.2, ⟨hk.1.1.1.1.1.2, ⟨hk.1.1.1.1.2, ⟨hk.1.1.2, hk.1.2⟩⟩⟩⟩⟩⟩⟩⟩)))⟩; have n1_ : Aside0 (Kd.N (Kd.slice 3 (Kd.int .i64)) 38 w52 w.heap.size (fun k_ => some k_ ≠ (.slice Ao22 y104.length co22 : Value).ownBlock ∧ some k_ ≠ (.slice Ao34 t115.length co34 : Value).ownBlock ∧ some k_ ≠ (.slice Ao45 t123.length co45 : Value).ownBlock ∧ k_ ≠ gb113 ∧ k_ ≠ gb114 ∧ k_ ≠ gb121 ∧ k_ ≠ gb122 ∧ k_ ≠ gb129 ∧ k_ ≠ gb130) (.slice Ao27 t108.length co27) t108) := ⟨(by rw [hw]; exact (by refine qN ?_; exact Kd.N_mono (Kd.N_far (p := ⟨gb129, 0, none⟩) (Kd.N_mono HO110.out (fun k_ hk => (⟨hk, hk.1.2⟩ : _ ∧ k_ ≠ gb129))) (fun _ hk => hk.2) (.slice Ao45 t123.length co45)) (fun _ hk => ⟨hk.1.1.1.1.1.1.1.1.1, ⟨hk.1.1.1.1.1.1.2, ⟨hk.1.1.1.2, ⟨hk.1.1.1.1.1.1.1.1.2, ⟨hk.1.1.1.1.1.1.1.2, ⟨hk.1.1.1.1.1.2, ⟨hk.1.1.1.1.2, ⟨hk.1.1.2, hk.1.2⟩⟩⟩⟩⟩⟩⟩⟩)))⟩; have n2_ : Aside0 (Kd.N (Kd.slice 3 (Kd.int .i64)) 38 w52 w.heap.size (fun k_ => some k_ ≠ (.slice Ao22 y104.length co22 : Value).ownBlock ∧ some k_ ≠ (.slice Ao27 t108.length co27 : Value).ownBlock ∧ some k_ ≠ (.slice Ao45 t123.length co45 : Value).ownBlock ∧ k_ ≠ gb113 ∧ k_ ≠ gb114 ∧ k_ ≠ gb121 ∧ k_ ≠ gb122 ∧ k_ ≠ gb129 ∧ k_ ≠ gb130) (.slice Ao34 t115.length co34) t115) := ⟨(by rw [hw]; exact (by refine qN ?_; exact Kd.N_mono (Kd.N_far (p := ⟨gb129, 0, none⟩) (Kd.N_mono HO117.out (fun k_ hk => (⟨hk, hk.1.2⟩ : _ ∧ k_ ≠ gb129))) (fun _ hk => hk.2) (.slice Ao45 t123.length co45)) (fun _ hk => ⟨hk.1.1.1.1.1.1.1, ⟨hk.1.1.1.1.1.1.2.1, ⟨hk.1.1.1.2, ⟨hk.1.1.1.1.1.1.2.2.1, ⟨hk.1.1.1.1.1.1.2.2.2, ⟨hk.1.1.1.1.1.2, ⟨hk.1.1.1.1.2, ⟨hk.1.1.2, hk.1.2⟩⟩⟩⟩⟩⟩⟩⟩)))⟩; have n3_ : Aside0 (Kd.N (Kd.slice 3 (Kd.int .i64)) 38 w52 w.heap.size (fun k_ => some k_ ≠ (.slice Ao22 y104.length co22 : Value).ownBlock ∧ some k_ ≠ (.slice Ao27 t108.length co27 : Value).ownBlock ∧ some k_ ≠ (.slice Ao34 t115.length co34 : Value).ownBlock ∧ k_ ≠ gb113 ∧ k_ ≠ gb114 ∧ k_ ≠ gb121 ∧ k_ ≠ gb122 ∧ k_ ≠ gb129 ∧ k_ ≠ gb130) (.slice Ao45 t123.length co45) t123) := ⟨(by rw [hw]; exact (by refine qN ?_; exact Kd.N_mono (Kd.N_far (p := ⟨gb129, 0, none⟩) (Kd.N_mono HO125.out (fun k_ hk => (⟨hk, hk.1.2⟩ : _ ∧ k_ ≠ gb129))) (fun _ hk => hk.2) (.slice Ao45 t123.length co45)) (fun _ hk => ⟨hk.1.1.1.1, ⟨hk.1.1.1.2.1, ⟨hk.1.1.1.2.2.1, ⟨hk.1.1.1.2.2.2.1, ⟨hk.1.1.1.2.2.2.2.1, ⟨hk.1.1.1.2.2.2.2.2.1, ⟨hk.1.1.1.2.2.2.2.2.2, ⟨hk.1.1.2, hk.1.2⟩⟩⟩⟩⟩⟩⟩⟩)))⟩; have n4_ : Aside0 (w52.heap[gb113]? = some (.cells #[.slice Ao27 t108.length co27] 70 (0, 0))) := ⟨(by rw [hw]; exact (by refine qk ?_; refine blk_far ?_ NB113_129.out _; refine qk ?_; exact BK113.out))⟩; have n5_ : Aside0 (w52.heap[gb114]? = some (.cells #[.int .i64 t111, .int .i64 t112] 41 (0, 0))) := ⟨(by rw [hw]; exact (by refine qk ?_; refine blk_far ?_ NB114_129.out _; refine qk ?_; exact BK114.out))⟩; have n6_ : Aside0 (w52.heap[gb121]? = some (.cells #[.slice Ao34 t115.length co34] 70 (0, 0))) := ⟨(by rw [hw]; exact (by refine qk ?_; refine blk_far ?_ NB121_129.out _; refine qk ?_; exact BK121.out))⟩; have n7_ : Aside0 (w52.heap[gb122]? = some (.cells #[.int .i64 t119, .int .i64 t120] 41 (0, 0))) := ⟨(by rw [hw]; exact (by refine qk ?_; refine blk_far ?_ NB122_129.out _; refine qk ?_; exact BK122.out))⟩; have n8_ : Aside0 (w52.heap[gb129]? = some (.cells #[.slice Ao45 t123.length co45] 70 (0, 0))) := ⟨(by rw [hw]; exact (by refine qk ?_; refine blk_put (cs := #[.slice none 0 0]) ?_ 0 _ rfl; refine qk ?_; exact BK129.out))⟩; have n9_ : Aside0 (w52.heap[gb130]? = some (.cells #[.int .i64 0, .int .i64 0] 41 (0, 0))) := ⟨(by rw [hw]; exact (by refine qk ?_; refine blk_far ?_ NB130_129.out _; refine qk ?_; exact BK130.out))⟩; have n10_ : Aside0 (Below w.heap.size w w52) := ⟨(by rw [hw]; exact qb)⟩; clear hw; clear HO106; clear HO110; clear HO117; clear HO125; clear BK113; clear BK114; clear BK121; clear BK122; clear BK129; clear BK130; clear HB; have HO106 := n0_; have HO110 := n1_; have HO117 := n2_; have HO125 := n3_; have BK113 := n4_; have BK114 := n5_; have BK121 := n6_; have BK122 := n7_; have BK129 := n8_; have BK130 := n9_; have HB := n10_; clear n0_ n1_ n2_ n3_ n4_ n5_ n6_ n7_ n8_ n9_ n10_; have hnb53 := NB130_113.out; have hnc53 := NB113_130.out; have hnb54 := NB130_114.out; have hnc54 := NB114_130.out; have hnb55 := NB130_121.out; have hnc55 := NB121_130.out; have hnb56 := NB130_122.out; have hnc56 := NB122_130.out; have hcz57_0 : w52.cell? ⟨gb130, 0, none⟩ = some (.int .i64 0) := (blk_cell BK130.out 0).trans rfl; have hcz57_1 : w52.cell? ⟨gb130, 1, none⟩ = some (.int .i64 0) := (blk_cell BK130.out 1).trans rfl; have hfz57_0 := blk_frozen BK130.out 0; have hfz57_1 := blk_frozen BK130.out 1) | ((with_reducible refine gate_store (t := 41) (p := 9) rfl ?_); refine store_ev (t := 41) (p := 9) (w1 := ((w52.setCell ⟨gb130, 0, none⟩ (.int .i64 t127)).setCell ⟨gb130, 1, none⟩ (.int .i64 t128))) ?_; intro w58 hw; have n0_ : Aside0 (Kd.N (Kd.slice 3 (Kd.int .i64)) 38 w58 w.heap.size (fun k_ => some k_ ≠ (.slice Ao27 t108.length co27 : Value).ownBlock ∧ some k_ ≠ (.slice Ao34 t115.length co34 : Value).ownBlock ∧ some k_ ≠ (.slice Ao45 t123.length co45 : Value).ownBlock ∧ k_ ≠ gb113 ∧ k_ ≠ gb114 ∧ k_ ≠ gb121 ∧ k_ ≠ gb122 ∧ k_ ≠ gb129 ∧ k_ ≠ gb130) (.slice Ao22 y104.length co22) y104) := ⟨(by rw [hw]; exact (by refine qN ?_; exact Kd.N_mono (Kd.N_far (p := ⟨gb130, 1, none⟩) (Kd.N_far (p := ⟨gb130, 0, none⟩) (Kd.N_mono HO106.out (fun k_ hk => (⟨hk, hk.2.2.2.2.2.2.2.2⟩ : _ ∧ k_ ≠ gb130))) (fun _ hk => hk.2) (.int .i64 t127)) (fun _ hk => hk.2) (.int .i64 t128)) (fun _ hk => ⟨hk.1.1, ⟨hk.1.2.1, ⟨hk.1.2.2.1, ⟨hk.1.2.2.2.1, ⟨hk.1.2.2.2.2.1, ⟨hk.1.2.2.2.2.2.1, ⟨hk.1.2.2.2.2.2.2.1, ⟨hk.1.2.2.2.2.2.2.2.1, hk.1.2.2.2.2.2.2.2.2⟩⟩⟩⟩⟩⟩⟩⟩)))⟩; have n1_ : Aside0 (Kd.N (Kd.slice 3 (Kd.int .i64)) 38 w58 w.heap.size (fun k_ => some k_ ≠ (.slice Ao22 y104.length co22 : Value).ownBlock ∧ some k_ ≠ (.slice Ao34 t115.length co34 : Value).ownBlock ∧ some k_ ≠ (.slice Ao45 t123.length co45 : Value).ownBlock ∧ k_ ≠ gb113 ∧ k_ ≠ gb114 ∧ k_ ≠ gb121 ∧ k_ ≠ gb122 ∧ k_ ≠ gb129 ∧ k_ ≠ gb130) (.slice Ao27 t108.length co27) t108) := ⟨(by rw [hw]; exact (by refine qN ?_; exact Kd.N_mono (Kd.N_far (p := ⟨gb130, 1, none⟩) (Kd.N_far (p := ⟨gb130, 0, none⟩) (Kd.N_mono HO110.out (fun k_ hk => (⟨hk, hk.2.2.2.2.2.2.2.2⟩ : _ ∧ k_ ≠ gb130))) (fun _ hk => hk.2) (.int .i64 t127)) (fun _ hk => hk.2) (.int .i64 t128)) (fun _ hk => ⟨hk.1.1, ⟨hk.1.2.1, ⟨hk.1.2.2.1, ⟨hk.1.2.2.2.1, ⟨hk.1.2.2.2.2.1, ⟨hk.1.2.2.2.2.2.1, ⟨hk.1.2.2.2.2.2.2.1, ⟨hk.1.2.2.2.2.2.2.2.1, hk.1.2.2.2.2.2.2.2.2⟩⟩⟩⟩⟩⟩⟩⟩)))⟩; have n2_ : Aside0 (Kd.N (Kd.slice 3 (Kd.int .i64)) 38 w58 w.heap.size (fun k_ => some k_ ≠ (.slice Ao22 y104.length co22 : Value).ownBlock ∧ some k_ ≠ (.slice Ao27 t108.length co27 : Value).ownBlock ∧ some k_ ≠ (.slice Ao45 t123.length co45 : Value).ownBlock ∧ k_ ≠ gb113 ∧ k_ ≠ gb114 ∧ k_ ≠ gb121 ∧ k_ ≠ gb122 ∧ k_ ≠ gb129 ∧ k_ ≠ gb130) (.slice Ao34 t115.length co34) t115) := ⟨(by rw [hw]; exact (by refine qN ?_; exact Kd.N_mono (Kd.N_far (p := ⟨gb130, 1, none⟩) (Kd.N_far (p := ⟨gb130, 0, none⟩) (Kd.N_mono HO117.out (fun k_ hk => (⟨hk, hk.2.2.2.2.2.2.2.2⟩ : _ ∧ k_ ≠ gb130))) (fun _ hk => hk.2) (.int .i64 t127)) (fun _ hk => hk.2) (.int .i64 t128)) (fun _ hk => ⟨hk.1.1, ⟨hk.1.2.1, ⟨hk.1.2.2.1, ⟨hk.1.2.2.2.1, ⟨hk.1.2.2.2.2.1, ⟨hk.1.2.2.2.2.2.1, ⟨hk.1.2.2.2.2.2.2.1, ⟨hk.1.2.2.2.2.2.2.2.1, hk.1.2.2.2.2.2.2.2.2⟩⟩⟩⟩⟩⟩⟩⟩)))⟩; have n3_ : Aside0 (Kd.N (Kd.slice 3 (Kd.int .i64)) 38 w58 w.heap.size (fun k_ => some k_ ≠ (.slice Ao22 y104.length co22 : Value).ownBlock ∧ some k_ ≠ (.slice Ao27 t108.length co27 : Value).ownBlock ∧ some k_ ≠ (.slice Ao34 t115.length co34 : Value).ownBlock ∧ k_ ≠ gb113 ∧ k_ ≠ gb114 ∧ k_ ≠ gb121 ∧ k_ ≠ gb122 ∧ k_ ≠ gb129 ∧ k_ ≠ gb130) (.slice Ao45 t123.length co45) t123) := ⟨(by rw [hw]; exact (by refine qN ?_; exact Kd.N_mono (Kd.N_far (p := ⟨gb130, 1, none⟩) (Kd.N_far (p := ⟨gb130, 0, none⟩) (Kd.N_mono HO125.out (fun k_ hk => (⟨hk, hk.2.2.2.2.2.2.2.2⟩ : _ ∧ k_ ≠ gb130))) (fun _ hk => hk.2) (.int .i64 t127)) (fun _ hk => hk.2) (.int .i64 t128)) (fun _ hk => ⟨hk.1.1, ⟨hk.1.2.1, ⟨hk.1.2.2.1, ⟨hk.1.2.2.2.1, ⟨hk.1.2.2.2.2.1, ⟨hk.1.2.2.2.2.2.1, ⟨hk.1.2.2.2.2.2.2.1, ⟨hk.1.2.2.2.2.2.2.2.1, hk.1.2.2.2.2.2.2.2.2⟩⟩⟩⟩⟩⟩⟩⟩)))⟩; have n4_ : Aside0 (w58.heap[gb113]? = some (.cells #[.slice Ao27 t108.length co27] 70 (0, 0))) := ⟨(by rw [hw]; exact (by refine qk ?_; refine blk_far ?_ NB113_130.out _; refine qk ?_; refine blk_far ?_ NB113_130.out _; refine qk ?_; exact BK113.out))⟩; have n5_ : Aside0 (w58.heap[gb114]? = some (.cells #[.int .i64 t111, .int .i64 t112] 41 (0, 0))) := ⟨(by rw [hw]; exact (by refine qk ?_; refine blk_far ?_ NB114_130.out _; refine qk ?_; refine blk_far ?_ NB114_130.out _; refine qk ?_; exact BK114.out))⟩; have n6_ : Aside0 (w58.heap[gb121]? = some (.cells #[.slice Ao34 t115.length co34] 70 (0, 0))) := ⟨(by rw [hw]; exact (by refine qk ?_; refine blk_far ?_ NB121_130.out _; refine qk ?_; refine blk_far ?_ NB121_130.out _; refine qk ?_; exact BK121.out))⟩; have n7_ : Aside0 (w58.heap[gb122]? = some (.cells #[.int .i64 t119, .int .i64 t120] 41 (0, 0))) := ⟨(by rw [hw]; exact (by refine qk ?_; refine blk_far ?_ NB122_130.out _; refine qk ?_; refine blk_far ?_ NB122_130.out _; refine qk ?_; exact BK122.out))⟩; have n8_ : Aside0 (w58.heap[gb129]? = some (.cells #[.slice Ao45 t123.length co45] 70 (0, 0))) := ⟨(by rw [hw]; exact (by refine qk ?_; refine blk_far ?_ NB129_130.out _; refine qk ?_; refine blk_far ?_ NB129_130.out _; refine qk ?_; exact BK129.out))⟩; have n9_ : Aside0 (w58.heap[gb130]? = some (.cells #[.int .i64 t127, .int .i64 t128] 41 (0, 0))) := ⟨(by rw [hw]; exact (by refine qk ?_; refine blk_put (cs := #[.int .i64 t127, .int .i64 0]) ?_ 1 _ rfl; refine qk ?_; refine blk_put (cs := #[.int .i64 0, .int .i64 0]) ?_ 0 _ rfl; refine qk ?_; exact BK130.out))⟩; have n10_ : Aside0 (Below w.heap.size w w58) := ⟨(by rw [hw]; exact qb)⟩; clear hw; clear HO106; clear HO110; clear HO117; clear HO125; clear BK113; clear BK114; clear BK121; clear BK122; clear BK129; clear BK130; clear HB; have HO106 := n0_; have HO110 := n1_; have HO117 := n2_; have HO125 := n3_; have BK113 := n4_; have BK114 := n5_; have BK121 := n6_; have BK122 := n7_; have BK129 := n8_; have BK130 := n9_; have HB := n10_; clear n0_ n1_ n2_ n3_ n4_ n5_ n6_ n7_ n8_ n9_ n10_; have hcz59_0 : w58.cell? ⟨gb113, 0, none⟩ = some (.slice Ao27 t108.length co27) := (blk_cell BK113.out 0).trans rfl; have hfz59_0 := blk_frozen BK113.out 0; have p131 : 0 ≤ (0 : Int) := (by omega); have q131 : 0 < (t108.length : Int) := of_decide_eq_true qa; obtain ⟨ad131, A131_0, c131_0, e131, hx131_0, hl131_0, hi131_0⟩ := at_L14 (Kd.N_reads' HO110.out).2.2 0 p131 q131; cases e131; obtain ⟨ce131, hce131, hMe131, hcc131⟩ := Kd.N_get HO110.out [] 0 p131 (by first | exact q131 | exact of_decide_eq_true qa | (have e_ := (Kd.N_reads' HO110.out).1; omega)); obtain ⟨ua131_0, uc131_0, rfl, ul131_0, ge131_0⟩ := Kd.FK_slice_open hMe131; have hv131_0 := hcc131 0 _ rfl; rw [Nat.add_zero, show ((Kd.slice 3 (Kd.int .i64))).sz = 1 from rfl, Nat.mul_one] at hv131_0; replace hv131_0 := Option.some.inj (hv131_0.symm.trans hx131_0); injection hv131_0 with hva_ hvn_ hvc_; rw [hva_] at ge131_0; rw [hvc_] at ul131_0; have HL131_0 := Aside0.mk (show Kd.V (Kd.int .i64) 3 _ w.heap.size _ _ (rd_L14 t108 0) from Kd.V_mk ul131_0 ge131_0); clear hva_ hvn_ hvc_ ge131_0 ul131_0; clear hcc131 hce131; have qi131 : (0 < t108.length) = True := eq_true (by omega); (try rw [show ((0 : Int)).toNat = 0 from rfl] at hx131_0); (try rw [Addr.add_zero'] at hx131_0); have HR131_0 := Aside0.mk hi131_0; have HC131_0 := Aside0.mk hl131_0; clear hi131_0 hl131_0; (try simp only [Go.IntWalk.toNatUp] at hx131_0); replace p131 := eq_true p131; replace q131 := eq_true q131; have p132 : 0 ≤ (0 : Int) := (by omega); have q132 : 0 < (t108.length : Int) := of_decide_eq_true qa; obtain ⟨ad132, A132_0, c132_0, e132, hx132_0, hl132_0, hi132_0⟩ := at_L14 (Kd.N_reads' HO110.out).2.2 0 p132 q132; obtain rfl : ad131 = ad132 := (by injection e132); obtain ⟨ce132, hce132, hMe132, hcc132⟩ := Kd.N_get HO110.out [] 0 p132 (by first | exact q132 | exact of_decide_eq_true qa | (have e_ := (Kd.N_reads' HO110.out).1; omega)); obtain ⟨ua132_0, uc132_0, rfl, ul132_0, ge132_0⟩ := Kd.FK_slice_open hMe132; have hv132_0 := hcc132 0 _ rfl; rw [Nat.add_zero, show ((Kd.slice 3 (Kd.int .i64))).sz = 1 from rfl, Nat.mul_one] at hv132_0; replace hv132_0 := Option.some.inj (hv132_0.symm.trans hx132_0); injection hv132_0 with hva_ hvn_ hvc_; rw [hva_] at ge132_0; rw [hvc_] at ul132_0; have HL132_0 := Aside0.mk (show Kd.V (Kd.int .i64) 3 _ w.heap.size _ _ (rd_L14 t108 0) from Kd.V_mk ul132_0 ge132_0); clear hva_ hvn_ hvc_ ge132_0 ul132_0; clear hcc132 hce132; have qi132 : (0 < t108.length) = True := eq_true (by omega); (try rw [show ((0 : Int)).toNat = 0 from rfl] at hx132_0); (try rw [Addr.add_zero'] at hx132_0); have HR132_0 := Aside0.mk hi132_0; have HC132_0 := Aside0.mk hl132_0; clear hi132_0 hl132_0; (try simp only [Go.IntWalk.toNatUp] at hx132_0); replace p132 := eq_true p132; replace q132 := eq_true q132; have ea_ := Option.some.inj (hx131_0.symm.trans hx132_0); injection ea_ with ea_ en_ ec_; subst ea_; subst ec_; clear en_; have p133 : 0 ≤ (0 : Int) := (by omega); have q133 : 0 < ((rd_L14 t108 0).length : Int) := of_decide_eq_true qa; obtain ⟨ad133, e133, hx133_0⟩ := Kd.at_int (qD HR132_0.out HL132_0.out) 0 p133 q133; cases e133; have qi133 : (0 < (rd_L14 t108 0).length) = True := eq_true (by omega); (try rw [show ((0 : Int)).toNat = 0 from rfl] at hx133_0); (try rw [Addr.add_zero'] at hx133_0); (try simp only [Go.IntWalk.toNatUp] at hx133_0); replace p133 := eq_true p133; replace q133 := eq_true q133; have hcz60_0 : w58.cell? ⟨gb114, 0, none⟩ = some (.int .i64 t111) := (blk_cell BK114.out 0).trans rfl; have hcz60_1 : w58.cell? ⟨gb114, 1, none⟩ = some (.int .i64 t112) := (blk_cell BK114.out 1).trans rfl; have hfz60_0 := blk_frozen BK114.out 0; have hfz60_1 := blk_frozen BK114.out 1; have hcz61_0 : w58.cell? ⟨gb121, 0, none⟩ = some (.slice Ao34 t115.length co34) := (blk_cell BK121.out 0).trans rfl; have hfz61_0 := blk_frozen BK121.out 0; have p134 : 0 ≤ (0 : Int) := (by omega); have q134 : 0 < (t115.length : Int) := of_decide_eq_true qa; obtain ⟨ad134, A134_0, c134_0, e134, hx134_0, hl134_0, hi134_0⟩ := at_L14 (Kd.N_reads' HO117.out).2.2 0 p134 q134; cases e134; obtain ⟨ce134, hce134, hMe134, hcc134⟩ := Kd.N_get HO117.out [] 0 p134 (by first | exact q134 | exact of_decide_eq_true qa | (have e_ := (Kd.N_reads' HO117.out).1; omega)); obtain ⟨ua134_0, uc134_0, rfl, ul134_0, ge134_0⟩ := Kd.FK_slice_open hMe134; have hv134_0 := hcc134 0 _ rfl; rw [Nat.add_zero, show ((Kd.slice 3 (Kd.int .i64))).sz = 1 from rfl, Nat.mul_one] at hv134_0; replace hv134_0 := Option.some.inj (hv134_0.symm.trans hx134_0); injection hv134_0 with hva_ hvn_ hvc_; rw [hva_] at ge134_0; rw [hvc_] at ul134_0; have HL134_0 := Aside0.mk (show Kd.V (Kd.int .i64) 3 _ w.heap.size _ _ (rd_L14 t115 0) from Kd.V_mk ul134_0 ge134_0); clear hva_ hvn_ hvc_ ge134_0 ul134_0; clear hcc134 hce134; have qi134 : (0 < t115.length) = True := eq_true (by omega); (try rw [show ((0 : Int)).toNat = 0 from rfl] at hx134_0); (try rw [Addr.add_zero'] at hx134_0); have HR134_0 := Aside0.mk hi134_0; have HC134_0 := Aside0.mk hl134_0; clear hi134_0 hl134_0; (try simp only [Go.IntWalk.toNatUp] at hx134_0); replace p134 := eq_true p134; replace q134 := eq_true q134; have hcz62_0 : w58.cell? ⟨gb122, 0, none⟩ = some (.int .i64 t119) := (blk_cell BK122.out 0).trans rfl; have hcz62_1 : w58.cell? ⟨gb122, 1, none⟩ = some (.int .i64 t120) := (blk_cell BK122.out 1).trans rfl; have hfz62_0 := blk_frozen BK122.out 0; have hfz62_1 := blk_frozen BK122.out 1; have hcz63_0 : w58.cell? ⟨gb130, 0, none⟩ = some (.int .i64 t127) := (blk_cell BK130.out 0).trans rfl; have hcz63_1 : w58.cell? ⟨gb130, 1, none⟩ = some (.int .i64 t128) := (blk_cell BK130.out 1).trans rfl; have hfz63_0 := blk_frozen BK130.out 0; have hfz63_1 := blk_frozen BK130.out 1))
             go_ret
             exact ⟨qe, qb⟩
            ·rw [if_neg c16] at H
             exact absurd H (by simp)
           ·rw [if_neg c15] at H
            exact absurd H (by simp)
          ·rw [if_neg c14] at H
           exact absurd H (by simp)
         ·rw [if_neg c13] at H
          exact absurd H (by simp)
        ·rw [if_neg c12] at H
         exact absurd H (by simp)
       ·rw [if_neg c11] at H
        exact absurd H (by simp)
      ·rw [if_neg c10] at H
       exact absurd H (by simp)
     ·rw [if_neg c9] at H
      exact absurd H (by simp)
    ·rw [if_neg c8] at H
     exact absurd H (by simp)
   ·rw [if_neg c7] at H
    exact absurd H (by simp)
  ·rw [if_neg c6] at H
   exact absurd H (by simp)
 ·rw [if_neg c5] at H
  exact absurd H (by simp)
end Go.Proofs.YtadocbfchdendaaGreatDoor.P
namespace Go.Proofs.YtadocbfchdendaaGreatDoor.P
open Go.RowKit Go.Proofs.YtadocbfchdendaaGreatDoorW.PrintWords Go.Proofs.YtadocbfchdendaaGreatDoorW.PrintLast Go.Proofs.YtadocbfchdendaaGreatDoorW.PrintMore
attribute [local go_sem] max2_int min2_int max_two min_two max_three min_three max_four min_four
set_option linter.unusedVariables false
set_option linter.unusedSimpArgs false
attribute [local go_sem high] eqA41
mutual
def entrepotlaw16_TourBack.j0 : Nat → ByteArray → List Int → Bool → Option (Bool)
 | 0, _, _, _ => none
 | k + 1, x0, x1, x23 => if x23 = true then ((entrepotlaw16_shown.f k).bind fun t102 => (some t102)) else ((tour_PrintTour.f k x0 (([x1] : List (List Int)))).bind fun t106 => (if t106.toList = ([] : List UInt8) then (some true) else ((tour_ParseTour.f t106).bind fun bt107 => (entrepotlaw16_TourBack.l0 k x1 t106 (⟨#[]⟩ : ByteArray) 0 bt107.1 bt107.2.1 bt107.2.2))))
def entrepotlaw16_TourBack.l0 : Nat → List Int → ByteArray → ByteArray → Int → List (List Int) → Int → Int → Option (Bool)
 | 0, _, _, _, _, _, _, _ => none
 | k + 1, x1, x5, x8, x9, x113000, x114000, x114001 => if x9 < (x5.size : Int) then (if 0 ≤ x9 then (if x9 ≤ (wrap64 (x9 + 1)) then (if (wrap64 (x9 + 1)) ≤ (x5.size : Int) then (if x8.size + (x5.extract (x9 : Int).toNat ((wrap64 (x9 + 1)) : Int).toNat).size ≤ 9223372036854775807 then (if (bt x5 x9) = 10 then (if (x8 ++ (x5.extract (x9 : Int).toNat ((wrap64 (x9 + 1)) : Int).toNat)).size + 3 ≤ 9223372036854775807 then (entrepotlaw16_TourBack.l0 k x1 x5 ((x8 ++ (x5.extract (x9 : Int).toNat ((wrap64 (x9 + 1)) : Int).toNat)) ++ (⟨#[9, 13, 10]⟩ : ByteArray)) (wrap64 (x9 + 1)) x113000 x114000 x114001) else (none)) else (entrepotlaw16_TourBack.l0 k x1 x5 (x8 ++ (x5.extract (x9 : Int).toNat ((wrap64 (x9 + 1)) : Int).toNat)) (wrap64 (x9 + 1)) x113000 x114000 x114001)) else (none)) else (none)) else (none)) else (none)) else ((tour_ParseTour.f x8).bind fun bt114 => (if (x114000 == 0 && (x114001 == 0)) = true then (if (bt114.2.1 == 0 && (bt114.2.2 == 0)) = true then (if (x113000.length : Int) = 1 then (if (bt114.1.length : Int) = 1 then (if 0 < (x113000.length : Int) then ((entrepotref07_Ints.f k (rd_L14 x113000 0) x1).bind fun t122 => (if t122 = true then (if 0 < (bt114.1.length : Int) then ((entrepotref07_Ints.f k (rd_L14 bt114.1 0) x1).bind fun t124 => (some t124)) else (none)) else (none))) else (none)) else (none)) else (none)) else (none)) else (none)))
end
def entrepotlaw16_TourBack.f (k : Nat) (a0 : ByteArray) (l1 : List Int) : Option (Bool) := if (a0.size : Int) > 100 then (entrepotlaw16_TourBack.j0 k a0 l1 true) else (if (l1.length : Int) > 450 then (entrepotlaw16_TourBack.j0 k a0 l1 true) else ((entrepotlaw16_shown.f k).bind fun t101 => (entrepotlaw16_TourBack.j0 k a0 l1 (!t101))))
theorem entrepotlaw16_TourBack.mono_l : ∀ k, (∀ y0 y1 y2, LeO (entrepotlaw16_TourBack.j0 k y0 y1 y2) (entrepotlaw16_TourBack.j0 (k + 1) y0 y1 y2)) ∧ (∀ y0 y1 y2 y3 y4 y5 y6, LeO (entrepotlaw16_TourBack.l0 k y0 y1 y2 y3 y4 y5 y6) (entrepotlaw16_TourBack.l0 (k + 1) y0 y1 y2 y3 y4 y5 y6))
 | 0 => ⟨fun _ _ _ r h => by simp [entrepotlaw16_TourBack.j0] at h, fun _ _ _ _ _ _ _ r h => by simp [entrepotlaw16_TourBack.l0] at h⟩
 | k + 1 => by
  obtain ⟨ih0, ih1⟩ := entrepotlaw16_TourBack.mono_l k; refine ⟨?_, ?_⟩
  ·intro y0 y1 y2
   unfold entrepotlaw16_TourBack.j0
   repeat' first
   | (with_reducible exact ih0 _ _ _)
   | (with_reducible exact ih1 _ _ _ _ _ _ _)
   | (with_reducible exact entrepotlaw16_shown.mono _)
   | (with_reducible exact entrepotref07_Ints.mono _ _ _)
   | (with_reducible exact tour_PrintTour.mono _ _ _)
   | (with_reducible exact LeO.refl _)
   | (with_reducible exact LeO.none _)
   | (with_reducible refine LeO.ite ?_ ?_)
   | (with_reducible refine LeO.bind ?_ (fun _ => ?_))
   | exact ih0 _ _ _
   | exact ih1 _ _ _ _ _ _ _
   | exact entrepotlaw16_shown.mono _
   | exact entrepotref07_Ints.mono _ _ _
   | exact tour_PrintTour.mono _ _ _
   | exact LeO.none _
   | refine LeO.ite ?_ ?_
   | refine LeO.bind ?_ (fun _ => ?_)
  ·intro y0 y1 y2 y3 y4 y5 y6
   unfold entrepotlaw16_TourBack.l0
   repeat' first
   | (with_reducible exact ih0 _ _ _)
   | (with_reducible exact ih1 _ _ _ _ _ _ _)
   | (with_reducible exact entrepotlaw16_shown.mono _)
   | (with_reducible exact entrepotref07_Ints.mono _ _ _)
   | (with_reducible exact tour_PrintTour.mono _ _ _)
   | (with_reducible exact LeO.refl _)
   | (with_reducible exact LeO.none _)
   | (with_reducible refine LeO.ite ?_ ?_)
   | (with_reducible refine LeO.bind ?_ (fun _ => ?_))
   | exact ih0 _ _ _
   | exact ih1 _ _ _ _ _ _ _
   | exact entrepotlaw16_shown.mono _
   | exact entrepotref07_Ints.mono _ _ _
   | exact tour_PrintTour.mono _ _ _
   | exact LeO.none _
   | refine LeO.ite ?_ ?_
   | refine LeO.bind ?_ (fun _ => ?_)
theorem entrepotlaw16_TourBack.mono : ∀ a0 a1 k, LeO (entrepotlaw16_TourBack.f k a0 a1) (entrepotlaw16_TourBack.f (k + 1) a0 a1) := by
 intro a0 a1 k
 obtain ⟨ih0, ih1⟩ := entrepotlaw16_TourBack.mono_l k; unfold entrepotlaw16_TourBack.f
 repeat' first
   | (with_reducible exact ih0 _ _ _)
   | (with_reducible exact ih1 _ _ _ _ _ _ _)
   | (with_reducible exact entrepotlaw16_shown.mono _)
   | (with_reducible exact entrepotref07_Ints.mono _ _ _)
   | (with_reducible exact tour_PrintTour.mono _ _ _)
   | (with_reducible exact LeO.refl _)
   | (with_reducible exact LeO.none _)
   | (with_reducible refine LeO.ite ?_ ?_)
   | (with_reducible refine LeO.bind ?_ (fun _ => ?_))
   | exact ih0 _ _ _
   | exact ih1 _ _ _ _ _ _ _
   | exact entrepotlaw16_shown.mono _
   | exact entrepotref07_Ints.mono _ _ _
   | exact tour_PrintTour.mono _ _ _
   | exact LeO.none _
   | refine LeO.ite ?_ ?_
   | refine LeO.bind ?_ (fun _ => ?_)
set_option maxHeartbeats 8000000 in
set_option maxRecDepth 100000 in
theorem entrepotlaw16_TourBack.calls (k : Nat) (a0 : ByteArray) (P1_ : Nat → Prop) (A1 : Option Addr) (c1 : Nat) (l1 : List Int) (r : Bool) (w : World) (hs1 : Kd.V (Kd.int .i64) 3 w w.heap.size (fun k_ => P1_ k_) (.slice A1 l1.length c1) l1) (hT : Tabs w) (h : entrepotlaw16_TourBack.f k a0 l1 = some r) :
  Calls Tryz.prog 9 #[.string a0, .slice A1 l1.length c1] w fun e w' => e = .returned (.bool r) ∧ Below w.heap.size w w' := by
 have hu70 := Tryz.underlying70; have hu41 := Tryz.underlying41; have HT0 := Aside0.mk hT; clear hT; have HO1 := Aside0.mk (show Kd.V (Kd.int .i64) 3 w w.heap.size (fun k_ => (P1_ k_ ∨ w.heap.size ≤ k_)) (.slice A1 l1.length c1) l1 from Kd.V_mono hs1 (fun k_ hk => .inl hk)); have HB := Aside0.mk (Below.refl w.heap.size w); have H : (if (a0.size : Int) > 100 then (entrepotlaw16_TourBack.j0 k a0 l1 true) else (if (l1.length : Int) > 450 then (entrepotlaw16_TourBack.j0 k a0 l1 true) else ((entrepotlaw16_shown.f k).bind fun t101 => (entrepotlaw16_TourBack.j0 k a0 l1 (!t101))))) = some r := h; clear h; have HC3 := Aside0.mk H; clear H; go_enter Tryz.func9, Tryz.ntmps9
 go_upto_region 1 with (fail)
 go_cut [23] (fun v23 wc => ∃ (kq : Nat) (x23_2 : Bool), v23 = .bool x23_2 ∧ Aside0 (entrepotlaw16_TourBack.j0 kq a0 l1 x23_2 = some r) ∧ Aside0 (kq ≤ k) ∧ Aside0 (Kd.V (Kd.int .i64) 3 wc w.heap.size (fun k_ => (P1_ k_ ∨ w.heap.size ≤ k_)) (.slice A1 l1.length c1) l1) ∧ Aside0 (Below w.heap.size w wc))
 case first =>
  have H := HC3.out; clear HC3
  by_cases c4 : (a0.size : Int) > 100
  ·rw [if_pos c4] at H; have c4b0 := decide_eq_true c4; have c4b1 : decide (100 < a0.size) = true := decide_eq_true (by omega); clear c4; (first | rw [c4b0] | (simp only [i64_w, i32_w]; rw [c4b0]) | skip); have H' := Aside0.mk H; clear H
   go_wp2
   go_meet
   case rel => exact ⟨_, (true), qr, H', ⟨by first | omega | exact Nat.le_refl _⟩, ⟨qV HO1.out⟩, ⟨qb⟩⟩
  ·rw [if_neg c4] at H; have c4b0 := decide_eq_false c4; have c4b1 : decide (100 < a0.size) = false := decide_eq_false (by omega); clear c4; (first | rw [c4b0] | (simp only [i64_w, i32_w]; rw [c4b0]) | skip)
   by_cases c5 : (l1.length : Int) > 450
   ·rw [if_pos c5] at H; have c5b0 := decide_eq_true c5; have c5b1 : decide (450 < l1.length) = true := decide_eq_true (by omega); clear c5; have H' := Aside0.mk H; clear H
    go_wp2
    go_meet
    case rel => exact ⟨_, (true), qr, H', ⟨by first | omega | exact Nat.le_refl _⟩, ⟨qV HO1.out⟩, ⟨qb⟩⟩
   ·rw [if_neg c5] at H; have c5b0 := decide_eq_false c5; have c5b1 : decide (450 < l1.length) = false := decide_eq_false (by omega); clear c5; replace H := Option.bind_eq_some_iff.mp H; obtain ⟨t101, A60, H⟩ := H; (try dsimp only at H); have A6 := Aside0.mk A60; clear A60; have H' := Aside0.mk H; clear H
    go_wp2_with (first | (go_at_call 33; (with_reducible refine (entrepotlaw16_shown.calls k  t101 _ (Tabs.kept HT0.out qb) A6.out).mono ?_); rintro e w7 ⟨rfl, hb⟩; replace HO1 := cV HO1 hb; replace HB := cB HB hb; (try clear hb); (try clear hb2); (try clear hk); (try clear hi)))
    go_meet
    case rel => exact ⟨_, (!t101), qr, H', ⟨by first | omega | exact Nat.le_refl _⟩, ⟨qV HO1.out⟩, ⟨qb⟩⟩
 case rest =>
  clear HC3; (try clear c1); (try clear p2); (try clear c4); (try clear c4b0); (try clear c4b1); (try clear c5); (try clear c5b0); (try clear c5b1); obtain ⟨kq, x23_2, rfl, HA, HJ2, HO_1, HB⟩ := hcut; cases kq with
  | zero => exact absurd HA.out (by simp [entrepotlaw16_TourBack.j0])
  | succ kj2 =>
   have H := HA.out; clear HA; simp only [entrepotlaw16_TourBack.j0] at H
   by_cases c8 : x23_2 = true
   ·subst c8; have H1 : ((entrepotlaw16_shown.f kj2).bind fun t102 => (some t102)) = some r := by rw [if_pos rfl] at H; exact H
    clear H; have H := H1; clear H1; replace H := Option.bind_eq_some_iff.mp H; obtain ⟨t102, A90, H⟩ := H; (try dsimp only at H); have A9 := Aside0.mk A90; clear A90; obtain rfl := Option.some.inj H
    go_wp2_with (first | ((with_reducible refine gate_callee (f := 33) rfl ?_); refine goesL_ (some 24) rfl rfl Tryz.func33 (by kernel_rfl) rfl #[] rfl qm ?_; (with_reducible refine (entrepotlaw16_shown.calls kj2  t102 _ (Tabs.kept HT0.out qb) A9.out).mono ?_); rintro e w10 ⟨rfl, hb⟩; refine ⟨_, rfl, ?_⟩; replace HO_1 := cV HO_1 hb; replace HB := cB HB hb; (try clear hb); (try clear hb2); (try clear hk); (try clear hi)))
    go_ret
    exact ⟨qe, qb⟩
   ·replace c8 := Bool.eq_false_iff.mpr c8; subst c8; have H1 : ((tour_PrintTour.f kj2 a0 (([l1] : List (List Int)))).bind fun t106 => (if t106.toList = ([] : List UInt8) then (some true) else ((tour_ParseTour.f t106).bind fun bt107 => (entrepotlaw16_TourBack.l0 kj2 l1 t106 (⟨#[]⟩ : ByteArray) 0 bt107.1 bt107.2.1 bt107.2.2)))) = some r := by rw [if_neg (show ¬ (false = true) by decide)] at H; exact H
    clear H; have H := H1; clear H1; obtain ⟨y103, hy103⟩ : ∃ y_ : List (List Int), y_ = (([l1] : List (List Int))) := ⟨_, rfl⟩; replace H : ((tour_PrintTour.f kj2 a0 y103).bind fun t106 => (if t106.toList = ([] : List UInt8) then (some true) else ((tour_ParseTour.f t106).bind fun bt107 => (entrepotlaw16_TourBack.l0 kj2 l1 t106 (⟨#[]⟩ : ByteArray) 0 bt107.1 bt107.2.1 bt107.2.2)))) = some r := by first | (rw [hy103]; with_reducible exact H) | (have H2_ := (Option.bind_some _ _).symm.trans H; rw [hy103]; with_reducible exact H2_) | (have H2_ := (Option.bind_some _ _).symm.trans H; with_reducible exact H2_) | with_reducible exact H | (rw [hy103]; exact H) | exact H
    have Ny103 := Aside0.mk hy103; clear hy103; replace H := Option.bind_eq_some_iff.mp H; obtain ⟨t106, A110, H⟩ := H; (try dsimp only at H); have A11 := Aside0.mk A110; clear A110
    by_cases c12 : t106.toList = ([] : List UInt8)
    ·rw [if_pos c12] at H; have c12b0 := beq_iff_eq.mpr c12; have c12b1 := bne_eq_false_iff_eq.mpr c12; clear c12; obtain rfl := Option.some.inj H
     go_wp2_with (first | ((with_reducible refine gate_dst (N := 27) rfl ?_); (try (refine gate_guard (by rfl) ?_; dsimp only)); refine Kd.N_lit (Kd.slice 3 (Kd.int .i64)) _ 38 ?hg (N' := 27) ?hd (xs := ([l1] : List (List Int))) (inner := [.slice A1 l1.length c1]) (ok := (fun k_ => (P1_ k_ ∨ w.heap.size ≤ k_))) (okp := (fun k_ => (P1_ k_ ∨ w.heap.size ≤ k_))) ?hr ?hp (fun _ hk => hk) ((show ∀ k_, wc.heap.size ≤ k_ → (fun k_ => (P1_ k_ ∨ w.heap.size ≤ k_)) k_ from fun k_ hk => (.inr (Nat.le_trans (below_size qb) hk))) _ (Nat.le_refl _)) (Below.refl _ _) (Nat.le_refl _) (by simp) ?_; (case hd => rfl); (case hg => rfl); (case hr => first | (go_simp; done) | (go_simp; rfl)); (case hp => exact (Reps.one (show Kd.FK (Kd.slice 3 (Kd.int .i64)) _ _ l1 [.slice A1 l1.length c1] from (Kd.FK_slice_mk (Kd.V_reads' (Kd.V_mono (ok' := (fun k_ => (P1_ k_ ∨ w.heap.size ≤ k_))) (HO_1.out) (fun k_ hk => hk))).2.1 (Kd.V_F (Kd.V_mono (ok' := (fun k_ => (P1_ k_ ∨ w.heap.size ≤ k_))) (HO_1.out) (fun k_ hk => hk))))) (Reps.none _ _))); intro v104 w13 ho14 hb hg_ hnew_; clear hg_ hnew_; (first | rw [← Ny103.out] at ho14 | (simp only [Int.reduceToNat] at ho14; rw [← Ny103.out] at ho14)); have n0_ := Aside0.mk (Kd.V_elder' (qV HO_1.out) (Kd.N_base ho14) hb); have HO105 := Aside0.mk (Kd.N_lower ho14 (below_size qb)); replace HB := cB HB hb; replace HO_1 := n0_; clear n0_; clear hb ho14; obtain ⟨Ao15, co15, eo15⟩ := Kd.N_slice HO105.out; subst eo15) | ((with_reducible refine gate_callee (f := 40) rfl ?_); refine goesL_ (some 29) rfl rfl Tryz.func40 (by kernel_rfl) rfl #[.string a0, .agg #[.slice Ao15 y103.length co15]] rfl qm ?_; (with_reducible refine (tour_PrintTour.calls kj2 a0 _ _ y103 t106 _ ?side1 ?side2 (Tabs.kept HT0.out qb) A11.out).mono ?_); (case side1 => repeat (first | exact (Kd.N_reads' HO105.out).2.2 | (with_reducible refine Kd.C_alloc ?_ _) | (with_reducible refine Kd.C_drewN ?_ _) | (with_reducible refine Kd.C_drew ?_))); (case side2 => exact (Kd.N_reads' HO105.out).2.1); rintro e w16 ⟨rfl, hb⟩; refine ⟨_, rfl, ?_⟩; replace HO_1 := cV HO_1 hb; replace HO105 := cN HO105 hb; replace HB := cB HB hb; (try clear hb); (try clear hb2); (try clear hk); (try clear hi)))
     go_ret
     exact ⟨qe, qb⟩
    ·rw [if_neg c12] at H; have c12b0 := beq_eq_false_iff_ne.mpr c12; have c12b1 := bne_iff_ne.mpr c12; replace H := Option.bind_eq_some_iff.mp H; obtain ⟨⟨t107, t110, t111⟩, A170, H⟩ := H; (try dsimp only at H); have A17 := Aside0.mk A170; clear A170; have H' := Aside0.mk H; clear H
     go_wp2_with (first | ((with_reducible refine gate_dst (N := 27) rfl ?_); (try (refine gate_guard (by rfl) ?_; dsimp only)); refine Kd.N_lit (Kd.slice 3 (Kd.int .i64)) _ 38 ?hg (N' := 27) ?hd (xs := ([l1] : List (List Int))) (inner := [.slice A1 l1.length c1]) (ok := (fun k_ => (P1_ k_ ∨ w.heap.size ≤ k_))) (okp := (fun k_ => (P1_ k_ ∨ w.heap.size ≤ k_))) ?hr ?hp (fun _ hk => hk) ((show ∀ k_, wc.heap.size ≤ k_ → (fun k_ => (P1_ k_ ∨ w.heap.size ≤ k_)) k_ from fun k_ hk => (.inr (Nat.le_trans (below_size qb) hk))) _ (Nat.le_refl _)) (Below.refl _ _) (Nat.le_refl _) (by simp) ?_; (case hd => rfl); (case hg => rfl); (case hr => first | (go_simp; done) | (go_simp; rfl)); (case hp => exact (Reps.one (show Kd.FK (Kd.slice 3 (Kd.int .i64)) _ _ l1 [.slice A1 l1.length c1] from (Kd.FK_slice_mk (Kd.V_reads' (Kd.V_mono (ok' := (fun k_ => (P1_ k_ ∨ w.heap.size ≤ k_))) (HO_1.out) (fun k_ hk => hk))).2.1 (Kd.V_F (Kd.V_mono (ok' := (fun k_ => (P1_ k_ ∨ w.heap.size ≤ k_))) (HO_1.out) (fun k_ hk => hk))))) (Reps.none _ _))); intro v104 w18 ho19 hb hg_ hnew_; clear hg_ hnew_; (first | rw [← Ny103.out] at ho19 | (simp only [Int.reduceToNat] at ho19; rw [← Ny103.out] at ho19)); have n0_ := Aside0.mk (Kd.V_elder' (qV HO_1.out) (Kd.N_base ho19) hb); have HO105 := Aside0.mk (Kd.N_lower ho19 (below_size qb)); replace HB := cB HB hb; replace HO_1 := n0_; clear n0_; clear hb ho19; obtain ⟨Ao20, co20, eo20⟩ := Kd.N_slice HO105.out; subst eo20) | ((with_reducible refine gate_callee (f := 40) rfl ?_); refine goesL_ (some 29) rfl rfl Tryz.func40 (by kernel_rfl) rfl #[.string a0, .agg #[.slice Ao20 y103.length co20]] rfl qm ?_; (with_reducible refine (tour_PrintTour.calls kj2 a0 _ _ y103 t106 _ ?side1 ?side2 (Tabs.kept HT0.out qb) A11.out).mono ?_); (case side1 => repeat (first | exact (Kd.N_reads' HO105.out).2.2 | (with_reducible refine Kd.C_alloc ?_ _) | (with_reducible refine Kd.C_drewN ?_ _) | (with_reducible refine Kd.C_drew ?_))); (case side2 => exact (Kd.N_reads' HO105.out).2.1); rintro e w21 ⟨rfl, hb⟩; refine ⟨_, rfl, ?_⟩; replace HO_1 := cV HO_1 hb; replace HO105 := cN HO105 hb; replace HB := cB HB hb; (try clear hb); (try clear hb2); (try clear hk); (try clear hi)) | ((with_reducible refine gate_callee (f := 34) rfl ?_); refine goesL_ (some 34) rfl rfl Tryz.func34 (by kernel_rfl) rfl #[.string t106] rfl qm ?_; (with_reducible refine (tour_ParseTour.calls t106 t107 t110 t111 _ A17.out).mono ?_); rintro e w22 ⟨v108, rfl, ho0, hb⟩; refine ⟨_, rfl, ?_⟩; have n0_ := Aside0.mk (Kd.V_elder' (qV HO_1.out) (Kd.S_base ho0) hb); have n1_ := Aside0.mk (Kd.N_elder' (qN HO105.out) (Kd.S_base ho0) hb); have HO109 := Aside0.mk (Kd.N_lower (Kd.N_mono (ok' := fun k_ => (P1_ k_ ∨ w.heap.size ≤ k_) ∧ some k_ ≠ (.slice Ao20 y103.length co20 : Value).ownBlock) (Kd.S_N (Kd.S_bound ho0)) (fun k_ hk_ => ⟨(.inr (Nat.le_trans (below_size qb) hk_.2.1)), (Kd.fresh' (Kd.N_lt (qN HO105.out)) k_ hk_.2.1)⟩)) (below_size qb)); replace HB := cB HB hb; replace HO_1 := n0_; replace HO105 := n1_; clear n0_ n1_; (try clear hb); (try clear hb2); (try clear hk); (try clear hi); (try clear ho0)) | ((with_reducible refine gate_dst (N := 6) rfl ?_); (try (refine gate_guard (by rfl) ?_; dsimp only)); refine box_ev (N := 6) (cs := #[.slice none 0 0]) (t := 70) ?_; intro gb112 hg w23 hbox hb; have n0_ := Aside0.mk (Kd.V_below (Kd.V_elderB (qV HO_1.out) gb112 (Nat.le_of_eq hg.symm)) hb); have n1_ := Aside0.mk (Kd.N_below (Kd.N_elderB (qN HO105.out) gb112 (Nat.le_of_eq hg.symm)) hb); have n2_ := Aside0.mk (Kd.N_below (Kd.N_elderB (qN HO109.out) gb112 (Nat.le_of_eq hg.symm)) hb); have BK112 := Aside0.mk (hbox); have GW112 := Aside0.mk ((qg : w.heap.size ≤ gb112)); have GE112 := Aside0.mk ((qg : w.heap.size ≤ gb112)); replace HB := cB HB hb; replace HO_1 := n0_; replace HO105 := n1_; replace HO109 := n2_; clear n0_ n1_ n2_; clear hb hbox hg) | ((with_reducible refine gate_dst (N := 7) rfl ?_); (try (refine gate_guard (by rfl) ?_; dsimp only)); refine box_ev (N := 7) (cs := #[.int .i64 0, .int .i64 0]) (t := 41) ?_; intro gb113 hg w24 hbox hb; have n0_ := Aside0.mk (Kd.V_below (Kd.V_elderB (qV HO_1.out) gb113 (Nat.le_of_eq hg.symm)) hb); have n1_ := Aside0.mk (Kd.N_below (Kd.N_elderB (qN HO105.out) gb113 (Nat.le_of_eq hg.symm)) hb); have n2_ := Aside0.mk (Kd.N_below (Kd.N_elderB (qN HO109.out) gb113 (Nat.le_of_eq hg.symm)) hb); have BK113 := Aside0.mk (hbox); have GW113 := Aside0.mk ((qg : w.heap.size ≤ gb113)); have GE113 := Aside0.mk ((qg : w.heap.size ≤ gb113)); have NB112_113 := Aside0.mk ((by rw [hg]; exact Nat.ne_of_lt (blk_lt (g := gb112) (o := .cells #[.slice none 0 0] 70 (0, 0)) (qk BK112.out)) : gb112 ≠ gb113)); have NB113_112 := Aside0.mk ((by rw [hg]; exact Nat.ne_of_gt (blk_lt (g := gb112) (o := .cells #[.slice none 0 0] 70 (0, 0)) (qk BK112.out)) : gb113 ≠ gb112)); replace BK112 := cK BK112 hb; replace HB := cB HB hb; replace HO_1 := n0_; replace HO105 := n1_; replace HO109 := n2_; clear n0_ n1_ n2_; clear hb hbox hg; obtain ⟨Ao25, co25, eo25⟩ := Kd.N_slice HO109.out; subst eo25; have hnb26 := NB112_113.out; have hnc26 := NB113_112.out; have hcz27_0 : w24.cell? ⟨gb112, 0, none⟩ = some (.slice none 0 0) := (blk_cell BK112.out 0).trans rfl; have hfz27_0 := blk_frozen BK112.out 0; have hcz28_0 : w24.cell? ⟨gb113, 0, none⟩ = some (.int .i64 0) := (blk_cell BK113.out 0).trans rfl; have hcz28_1 : w24.cell? ⟨gb113, 1, none⟩ = some (.int .i64 0) := (blk_cell BK113.out 1).trans rfl; have hfz28_0 := blk_frozen BK113.out 0; have hfz28_1 := blk_frozen BK113.out 1))
     (try simp only [Act.put, List.setIfInBounds_toArray, List.set_cons_zero, List.set_cons_succ])
     go_loopg [8, 9] kj2 (fun kq v8 v9 w' => ∃ (x8_2 : ByteArray) (x9_2 : Int), v8 = .string x8_2 ∧ v9 = .int .i64 x9_2 ∧ Aside0 (entrepotlaw16_TourBack.l0 kq l1 t106 x8_2 x9_2 t107 t110 t111 = some r) ∧ Aside0 (kq ≤ kj2) ∧ Aside0 (Kd.V (Kd.int .i64) 3 w' w.heap.size (fun k_ => (P1_ k_ ∨ w.heap.size ≤ k_) ∧ some k_ ≠ ((.slice Ao25 t107.length co25) : Value).ownBlock ∧ k_ ≠ gb112 ∧ k_ ≠ gb113) (.slice A1 l1.length c1) l1) ∧ Aside0 (Kd.N (Kd.slice 3 (Kd.int .i64)) 38 w' w.heap.size (fun k_ => (P1_ k_ ∨ w.heap.size ≤ k_) ∧ k_ ≠ gb112 ∧ k_ ≠ gb113) (.slice Ao25 t107.length co25) t107) ∧ Aside0 (w'.heap[gb112]? = some (.cells #[(.slice Ao25 t107.length co25)] 70 (0, 0))) ∧ Aside0 (w'.heap[gb113]? = some (.cells #[.int .i64 t110, .int .i64 t111] 41 (0, 0))) ∧ Aside0 (Below w.heap.size w w'))
     case atStart => exact ⟨((⟨#[]⟩ : ByteArray)), (0), qr, qr, H', ⟨Nat.le_refl _⟩, ⟨by refine qV ?_; exact Kd.V_mono (Kd.V_far (p := ⟨gb113, 1, none⟩) (Kd.V_far (p := ⟨gb113, 0, none⟩) (Kd.V_far (p := ⟨gb112, 0, none⟩) (Kd.V_mono (Kd.V_mono HO_1.out (fun k_ hk => (⟨hk, hk.1.2⟩ : _ ∧ k_ ≠ gb112))) (fun k_ hk => (⟨hk, hk.1.2⟩ : _ ∧ k_ ≠ gb113))) (fun _ hk => hk.1.2) (.slice Ao25 t107.length co25)) (fun _ hk => hk.2) (.int .i64 t110)) (fun _ hk => hk.2) (.int .i64 t111)) (fun _ hk => ⟨hk.1.1.1.1.1.1, ⟨hk.1.1.1.1.2, ⟨hk.1.1.1.2, hk.1.1.2⟩⟩⟩)⟩, ⟨by refine qN ?_; exact Kd.N_mono (Kd.N_far (p := ⟨gb113, 1, none⟩) (Kd.N_far (p := ⟨gb113, 0, none⟩) (Kd.N_far (p := ⟨gb112, 0, none⟩) (Kd.N_mono (Kd.N_mono HO109.out (fun k_ hk => (⟨hk, hk.1.2⟩ : _ ∧ k_ ≠ gb112))) (fun k_ hk => (⟨hk, hk.1.2⟩ : _ ∧ k_ ≠ gb113))) (fun _ hk => hk.1.2) (.slice Ao25 t107.length co25)) (fun _ hk => hk.2) (.int .i64 t110)) (fun _ hk => hk.2) (.int .i64 t111)) (fun _ hk => ⟨hk.1.1.1.1.1, ⟨hk.1.1.1.2, hk.1.1.2⟩⟩)⟩, ⟨by refine qk ?_; refine blk_far ?_ NB112_113.out _; refine qk ?_; refine blk_far ?_ NB112_113.out _; refine qk ?_; refine blk_put (cs := #[.slice none 0 0]) ?_ 0 _ rfl; refine qk ?_; exact BK112.out⟩, ⟨by refine qk ?_; refine blk_put (cs := #[.int .i64 t110, .int .i64 0]) ?_ 1 _ rfl; refine qk ?_; refine blk_put (cs := #[.int .i64 0, .int .i64 0]) ?_ 0 _ rfl; refine qk ?_; refine blk_far ?_ NB113_112.out _; refine qk ?_; exact BK113.out⟩, ⟨qb⟩⟩
     case round =>
      clear H'; (try clear c1); (try clear c2); (try clear p2); (try clear c3); (try clear c4); (try clear c4b0); (try clear c4b1); (try clear c5); (try clear c5b0); (try clear c5b1); (try clear c8); (try clear c9); (try clear c12); (try clear c12b0); (try clear c12b1); (try clear c26); (try clear hcz27_0); (try clear hcz28_0); (try clear hcz28_1); (try clear hfz27_0); (try clear hfz28_0); (try clear hfz28_1); (try clear p2); obtain ⟨x8_2, x9_2, rfl, rfl, HA, HK2, HO_1, HO_113000, BK112, BK113, HB⟩ := hrel; cases gk with
      | zero => exact absurd HA.out (by simp [entrepotlaw16_TourBack.l0])
      | succ k2 =>
       have H := HA.out; clear HA; simp only [entrepotlaw16_TourBack.l0] at H
       by_cases c29 : x9_2 < (t106.size : Int)
       ·rw [if_pos c29] at H; have c29b0 := decide_eq_true c29; clear c29
        by_cases c30 : 0 ≤ x9_2
        ·rw [if_pos c30] at H; have c30b0 := eq_true c30; have c30b1 := decide_eq_true c30; clear c30
         by_cases c31 : x9_2 ≤ (wrap64 (x9_2 + 1))
         ·rw [if_pos c31] at H; have c31b0 := eq_true c31; have c31b1 := decide_eq_true c31
          by_cases c32 : (wrap64 (x9_2 + 1)) ≤ (t106.size : Int)
          ·rw [if_pos c32] at H; have c32b0 := eq_true c32; have c32b1 := decide_eq_true c32
           by_cases c33 : x8_2.size + (t106.extract (x9_2 : Int).toNat ((wrap64 (x9_2 + 1)) : Int).toNat).size ≤ 9223372036854775807
           ·rw [if_pos c33] at H; have c33b0 := eq_true c33; have c33b1 := decide_eq_true c33
            try have c33b2 : (9223372036854775807 < x8_2.size + (t106.extract (x9_2 : Int).toNat ((wrap64 (x9_2 + 1)) : Int).toNat).size) = False := eq_false (Nat.not_lt.2 c33)
            by_cases c35 : (bt t106 x9_2) = 10
            ·rw [if_pos c35] at H; have c35b0 := beq_iff_eq.mpr c35; have c35b1 := bne_eq_false_iff_eq.mpr c35; clear c35
             by_cases c36 : (x8_2 ++ (t106.extract (x9_2 : Int).toNat ((wrap64 (x9_2 + 1)) : Int).toNat)).size + 3 ≤ 9223372036854775807
             ·rw [if_pos c36] at H; have c36s : x8_2.size + (t106.extract (x9_2 : Int).toNat ((wrap64 (x9_2 + 1)) : Int).toNat).size + 3 ≤ 9223372036854775807 := by (have z_ := c36); simp only [ByteArray.size_append] at z_; exact z_
              replace c36s := eq_true c36s
              try have c36t := eq_false (Nat.not_lt.2 (of_eq_true c36s))
              have c36b0 := eq_true c36; have c36b1 := decide_eq_true c36
              try have c36b2 : (9223372036854775807 < (x8_2 ++ (t106.extract (x9_2 : Int).toNat ((wrap64 (x9_2 + 1)) : Int).toNat)).size + 3) = False := eq_false (Nat.not_lt.2 c36); (try (have c36u : (9223372036854775807 < x8_2.size + (((wrap64 (x9_2 + 1)) : Int).toNat - (x9_2 : Int).toNat) + 3) = False := eq_false (by have h_ := c36; have h2_ : (wrap64 (x9_2 + 1)) ≤ (t106.size : Int) := of_eq_true (by assumption); simp only [ByteArray.size_append, ByteArray.size_extract] at h_; omega)))
              have H' := Aside0.mk H; clear H; have p34 : 0 ≤ (x9_2 : Int) := of_decide_eq_true qa; have q34 : x9_2 < (t106.size : Int) := of_decide_eq_true qa; have hx34 := bt_at t106 x9_2; replace p34 := eq_true p34; replace q34 := eq_true q34
              go_wp2
              go_roundg k2
              case measure => have := HJ2.out; have := HK2.out; omega
              case rel => exact ⟨((x8_2 ++ (t106.extract (x9_2 : Int).toNat ((wrap64 (x9_2 + 1)) : Int).toNat)) ++ (⟨#[9, 13, 10]⟩ : ByteArray)), (wrap64 (x9_2 + 1)), qr, qr, H', ⟨by have := HJ2.out; have := HK2.out; omega⟩, ⟨qV HO_1.out⟩, ⟨qN HO_113000.out⟩, ⟨qk BK112.out⟩, ⟨qk BK113.out⟩, ⟨qb⟩⟩
             ·rw [if_neg c36] at H
              exact absurd H (by simp)
            ·rw [if_neg c35] at H; have c35b0 := beq_eq_false_iff_ne.mpr c35; have c35b1 := bne_iff_ne.mpr c35; have H' := Aside0.mk H; clear H; have p34 : 0 ≤ (x9_2 : Int) := of_decide_eq_true qa; have q34 : x9_2 < (t106.size : Int) := of_decide_eq_true qa; have hx34 := bt_at t106 x9_2; replace p34 := eq_true p34; replace q34 := eq_true q34
             go_wp2
             go_roundg k2
             case measure => have := HJ2.out; have := HK2.out; omega
             case rel => exact ⟨(x8_2 ++ (t106.extract (x9_2 : Int).toNat ((wrap64 (x9_2 + 1)) : Int).toNat)), (wrap64 (x9_2 + 1)), qr, qr, H', ⟨by have := HJ2.out; have := HK2.out; omega⟩, ⟨qV HO_1.out⟩, ⟨qN HO_113000.out⟩, ⟨qk BK112.out⟩, ⟨qk BK113.out⟩, ⟨qb⟩⟩
           ·rw [if_neg c33] at H
            exact absurd H (by simp)
          ·rw [if_neg c32] at H
           exact absurd H (by simp)
         ·rw [if_neg c31] at H
          exact absurd H (by simp)
        ·rw [if_neg c30] at H
         exact absurd H (by simp)
       ·rw [if_neg c29] at H; have c29b0 := decide_eq_false c29; clear c29; replace H := Option.bind_eq_some_iff.mp H; obtain ⟨⟨t114, t117, t118⟩, A370, H⟩ := H; (try dsimp only at H); have A37 := Aside0.mk A370; clear A370
        by_cases c38 : (t110 == 0 && (t111 == 0)) = true
        ·rw [if_pos c38] at H; have c38b0 : (t110 == 0 && (t111 == 0)) = true := c38; (try (have c38b1 : decide (t110 = 0 && (t111 == 0)) = true := by simpa using c38)); (try (have c38b2 : (t110 == 0 && (t111 == 0)) = true := by simpa using c38)); clear c38
         by_cases c39 : (t117 == 0 && (t118 == 0)) = true
         ·rw [if_pos c39] at H; have c39b0 : (t117 == 0 && (t118 == 0)) = true := c39; (try (have c39b1 : decide (t117 = 0 && (t118 == 0)) = true := by simpa using c39)); (try (have c39b2 : (t117 == 0 && (t118 == 0)) = true := by simpa using c39)); clear c39
          by_cases c40 : (t107.length : Int) = 1
          ·rw [if_pos c40] at H; have c40b0 := beq_iff_eq.mpr c40; have c40b1 := bne_eq_false_iff_eq.mpr c40; clear c40
           by_cases c41 : (t114.length : Int) = 1
           ·rw [if_pos c41] at H; have c41b0 := beq_iff_eq.mpr c41; have c41b1 := bne_eq_false_iff_eq.mpr c41; clear c41
            by_cases c42 : 0 < (t107.length : Int)
            ·rw [if_pos c42] at H; have c42b0 := decide_eq_true c42; have c42b1 : decide (0 < t107.length) = true := decide_eq_true (by omega); clear c42; replace H := Option.bind_eq_some_iff.mp H; obtain ⟨t122, A430, H⟩ := H; (try dsimp only at H); have A43 := Aside0.mk A430; clear A430
             by_cases c44 : t122 = true
             ·subst c44; have H1 : (if 0 < (t114.length : Int) then ((entrepotref07_Ints.f k2 (rd_L14 t114 0) l1).bind fun t124 => (some t124)) else (none)) = some r := by rw [if_pos rfl] at H; exact H
              clear H; have H := H1; clear H1
              by_cases c45 : 0 < (t114.length : Int)
              ·rw [if_pos c45] at H; have c45b0 := decide_eq_true c45; have c45b1 : decide (0 < t114.length) = true := decide_eq_true (by omega); clear c45; replace H := Option.bind_eq_some_iff.mp H; obtain ⟨t124, A460, H⟩ := H; (try dsimp only at H); have A46 := Aside0.mk A460; clear A460; obtain rfl := Option.some.inj H
               go_wp2_with (first | ((with_reducible refine gate_callee (f := 34) rfl ?_); refine goesL_ (some 58) rfl rfl Tryz.func34 (by kernel_rfl) rfl #[.string x8_2] rfl qm ?_; (with_reducible refine (tour_ParseTour.calls x8_2 t114 t117 t118 _ A37.out).mono ?_); rintro e w47 ⟨v115, rfl, ho0, hb⟩; refine ⟨_, rfl, ?_⟩; have n0_ := Aside0.mk (Kd.V_elder' (qV HO_1.out) (Kd.S_base ho0) hb); have n1_ := Aside0.mk (Kd.N_elder' (qN HO_113000.out) (Kd.S_base ho0) hb); have HO116 := Aside0.mk (Kd.N_lower (Kd.N_mono (ok' := fun k_ => (P1_ k_ ∨ w.heap.size ≤ k_) ∧ some k_ ≠ (.slice Ao25 t107.length co25 : Value).ownBlock ∧ k_ ≠ gb112 ∧ k_ ≠ gb113) (Kd.S_N (Kd.S_bound ho0)) (fun k_ hk_ => ⟨(.inr (Nat.le_trans (below_size qb) hk_.2.1)), (Kd.fresh' (Kd.N_lt (qN HO_113000.out)) k_ hk_.2.1), (Kd.freshB (g := gb112) (o := .cells #[.slice Ao25 t107.length co25] 70 (0, 0)) (qk BK112.out) k_ hk_.2.1), (Kd.freshB (g := gb113) (o := .cells #[.int .i64 t110, .int .i64 t111] 41 (0, 0)) (qk BK113.out) k_ hk_.2.1)⟩)) (below_size qb)); replace BK112 := cK BK112 hb; replace BK113 := cK BK113 hb; replace HB := cB HB hb; replace HO_1 := n0_; replace HO_113000 := n1_; clear n0_ n1_; (try clear hb); (try clear hb2); (try clear hk); (try clear hi); (try clear ho0)) | ((with_reducible refine gate_dst (N := 10) rfl ?_); (try (refine gate_guard (by rfl) ?_; dsimp only)); refine box_ev (N := 10) (cs := #[.slice none 0 0]) (t := 70) ?_; intro gb119 hg w48 hbox hb; have n0_ := Aside0.mk (Kd.V_below (Kd.V_elderB (qV HO_1.out) gb119 (Nat.le_of_eq hg.symm)) hb); have n1_ := Aside0.mk (Kd.N_below (Kd.N_elderB (qN HO_113000.out) gb119 (Nat.le_of_eq hg.symm)) hb); have n2_ := Aside0.mk (Kd.N_below (Kd.N_elderB (qN HO116.out) gb119 (Nat.le_of_eq hg.symm)) hb); have BK119 := Aside0.mk (hbox); have GW119 := Aside0.mk ((qg : w.heap.size ≤ gb119)); have GE119 := Aside0.mk ((qg : w.heap.size ≤ gb119)); have NB112_119 := Aside0.mk ((by rw [hg]; exact Nat.ne_of_lt (blk_lt (g := gb112) (o := .cells #[.slice Ao25 t107.length co25] 70 (0, 0)) (qk BK112.out)) : gb112 ≠ gb119)); have NB119_112 := Aside0.mk ((by rw [hg]; exact Nat.ne_of_gt (blk_lt (g := gb112) (o := .cells #[.slice Ao25 t107.length co25] 70 (0, 0)) (qk BK112.out)) : gb119 ≠ gb112)); have NB113_119 := Aside0.mk ((by rw [hg]; exact Nat.ne_of_lt (blk_lt (g := gb113) (o := .cells #[.int .i64 t110, .int .i64 t111] 41 (0, 0)) (qk BK113.out)) : gb113 ≠ gb119)); have NB119_113 := Aside0.mk ((by rw [hg]; exact Nat.ne_of_gt (blk_lt (g := gb113) (o := .cells #[.int .i64 t110, .int .i64 t111] 41 (0, 0)) (qk BK113.out)) : gb119 ≠ gb113)); replace BK112 := cK BK112 hb; replace BK113 := cK BK113 hb; replace HB := cB HB hb; replace HO_1 := n0_; replace HO_113000 := n1_; replace HO116 := n2_; clear n0_ n1_ n2_; clear hb hbox hg) | ((with_reducible refine gate_dst (N := 11) rfl ?_); (try (refine gate_guard (by rfl) ?_; dsimp only)); refine box_ev (N := 11) (cs := #[.int .i64 0, .int .i64 0]) (t := 41) ?_; intro gb120 hg w49 hbox hb; have n0_ := Aside0.mk (Kd.V_below (Kd.V_elderB (qV HO_1.out) gb120 (Nat.le_of_eq hg.symm)) hb); have n1_ := Aside0.mk (Kd.N_below (Kd.N_elderB (qN HO_113000.out) gb120 (Nat.le_of_eq hg.symm)) hb); have n2_ := Aside0.mk (Kd.N_below (Kd.N_elderB (qN HO116.out) gb120 (Nat.le_of_eq hg.symm)) hb); have BK120 := Aside0.mk (hbox); have GW120 := Aside0.mk ((qg : w.heap.size ≤ gb120)); have GE120 := Aside0.mk ((qg : w.heap.size ≤ gb120)); have NB112_120 := Aside0.mk ((by rw [hg]; exact Nat.ne_of_lt (blk_lt (g := gb112) (o := .cells #[.slice Ao25 t107.length co25] 70 (0, 0)) (qk BK112.out)) : gb112 ≠ gb120)); have NB120_112 := Aside0.mk ((by rw [hg]; exact Nat.ne_of_gt (blk_lt (g := gb112) (o := .cells #[.slice Ao25 t107.length co25] 70 (0, 0)) (qk BK112.out)) : gb120 ≠ gb112)); have NB113_120 := Aside0.mk ((by rw [hg]; exact Nat.ne_of_lt (blk_lt (g := gb113) (o := .cells #[.int .i64 t110, .int .i64 t111] 41 (0, 0)) (qk BK113.out)) : gb113 ≠ gb120)); have NB120_113 := Aside0.mk ((by rw [hg]; exact Nat.ne_of_gt (blk_lt (g := gb113) (o := .cells #[.int .i64 t110, .int .i64 t111] 41 (0, 0)) (qk BK113.out)) : gb120 ≠ gb113)); have NB119_120 := Aside0.mk ((by rw [hg]; exact Nat.ne_of_lt (blk_lt (g := gb119) (o := .cells #[.slice none 0 0] 70 (0, 0)) (qk BK119.out)) : gb119 ≠ gb120)); have NB120_119 := Aside0.mk ((by rw [hg]; exact Nat.ne_of_gt (blk_lt (g := gb119) (o := .cells #[.slice none 0 0] 70 (0, 0)) (qk BK119.out)) : gb120 ≠ gb119)); replace BK112 := cK BK112 hb; replace BK113 := cK BK113 hb; replace BK119 := cK BK119 hb; replace HB := cB HB hb; replace HO_1 := n0_; replace HO_113000 := n1_; replace HO116 := n2_; clear n0_ n1_ n2_; clear hb hbox hg; obtain ⟨Ao50, co50, eo50⟩ := Kd.N_slice HO116.out; subst eo50; have hnb51 := NB119_112.out; have hnc51 := NB112_119.out; have hnb52 := NB119_113.out; have hnc52 := NB113_119.out; have hnb53 := NB119_120.out; have hnc53 := NB120_119.out; have hcz54_0 : w49.cell? ⟨gb119, 0, none⟩ = some (.slice none 0 0) := (blk_cell BK119.out 0).trans rfl; have hfz54_0 := blk_frozen BK119.out 0) | ((with_reducible refine gate_store (t := 70) (p := 10) rfl ?_); refine store_ev (t := 70) (p := 10) (w1 := (w49.setCell ⟨gb119, 0, none⟩ (.slice Ao50 t114.length co50))) ?_; intro w55 hw; have n0_ : Aside0 (Kd.V (Kd.int .i64) 3 w55 w.heap.size (fun k_ => (P1_ k_ ∨ w.heap.size ≤ k_) ∧ some k_ ≠ (.slice Ao25 t107.length co25 : Value).ownBlock ∧ some k_ ≠ (.slice Ao50 t114.length co50 : Value).ownBlock ∧ k_ ≠ gb112 ∧ k_ ≠ gb113 ∧ k_ ≠ gb119 ∧ k_ ≠ gb120) (.slice A1 l1.length c1) l1) := ⟨(by rw [hw]; exact (by refine qV ?_; exact Kd.V_mono (Kd.V_far (p := ⟨gb119, 0, none⟩) (Kd.V_mono HO_1.out (fun k_ hk => (⟨hk, hk.1.2⟩ : _ ∧ k_ ≠ gb119))) (fun _ hk => hk.2) (.slice Ao50 t114.length co50)) (fun _ hk => ⟨hk.1.1.1.1.1, ⟨hk.1.1.1.1.2.1, ⟨hk.1.1.1.2, ⟨hk.1.1.1.1.2.2.1, ⟨hk.1.1.1.1.2.2.2, ⟨hk.1.1.2, hk.1.2⟩⟩⟩⟩⟩⟩)))⟩; have n1_ : Aside0 (Kd.N (Kd.slice 3 (Kd.int .i64)) 38 w55 w.heap.size (fun k_ => (P1_ k_ ∨ w.heap.size ≤ k_) ∧ some k_ ≠ (.slice Ao50 t114.length co50 : Value).ownBlock ∧ k_ ≠ gb112 ∧ k_ ≠ gb113 ∧ k_ ≠ gb119 ∧ k_ ≠ gb120) (.slice Ao25 t107.length co25) t107) := ⟨(by rw [hw]; exact (by refine qN ?_; exact Kd.N_mono (Kd.N_far (p := ⟨gb119, 0, none⟩) (Kd.N_mono HO_113000.out (fun k_ hk => (⟨hk, hk.1.2⟩ : _ ∧ k_ ≠ gb119))) (fun _ hk => hk.2) (.slice Ao50 t114.length co50)) (fun _ hk => ⟨hk.1.1.1.1.1, ⟨hk.1.1.1.2, ⟨hk.1.1.1.1.2.1, ⟨hk.1.1.1.1.2.2, ⟨hk.1.1.2, hk.1.2⟩⟩⟩⟩⟩)))⟩; have n2_ : Aside0 (Kd.N (Kd.slice 3 (Kd.int .i64)) 38 w55 w.heap.size (fun k_ => (P1_ k_ ∨ w.heap.size ≤ k_) ∧ some k_ ≠ (.slice Ao25 t107.length co25 : Value).ownBlock ∧ k_ ≠ gb112 ∧ k_ ≠ gb113 ∧ k_ ≠ gb119 ∧ k_ ≠ gb120) (.slice Ao50 t114.length co50) t114) := ⟨(by rw [hw]; exact (by refine qN ?_; exact Kd.N_mono (Kd.N_far (p := ⟨gb119, 0, none⟩) (Kd.N_mono HO116.out (fun k_ hk => (⟨hk, hk.1.2⟩ : _ ∧ k_ ≠ gb119))) (fun _ hk => hk.2) (.slice Ao50 t114.length co50)) (fun _ hk => ⟨hk.1.1.1.1, ⟨hk.1.1.1.2.1, ⟨hk.1.1.1.2.2.1, ⟨hk.1.1.1.2.2.2, ⟨hk.1.1.2, hk.1.2⟩⟩⟩⟩⟩)))⟩; have n3_ : Aside0 (w55.heap[gb112]? = some (.cells #[.slice Ao25 t107.length co25] 70 (0, 0))) := ⟨(by rw [hw]; exact (by refine qk ?_; refine blk_far ?_ NB112_119.out _; refine qk ?_; exact BK112.out))⟩; have n4_ : Aside0 (w55.heap[gb113]? = some (.cells #[.int .i64 t110, .int .i64 t111] 41 (0, 0))) := ⟨(by rw [hw]; exact (by refine qk ?_; refine blk_far ?_ NB113_119.out _; refine qk ?_; exact BK113.out))⟩; have n5_ : Aside0 (w55.heap[gb119]? = some (.cells #[.slice Ao50 t114.length co50] 70 (0, 0))) := ⟨(by rw [hw]; exact (by refine qk ?_; refine blk_put (cs := #[.slice none 0 0]) ?_ 0 _ rfl; refine qk ?_; exact BK119.out))⟩; have n6_ : Aside0 (w55.heap[gb120]? = some (.cells #[.int .i64 0, .int .i64 0] 41 (0, 0))) := ⟨(by rw [hw]; exact (by refine qk ?_; refine blk_far ?_ NB120_119.out _; refine qk ?_; exact BK120.out))⟩; have n7_ : Aside0 (Below w.heap.size w w55) := ⟨(by rw [hw]; exact qb)⟩; clear hw; clear HO_1; clear HO_113000; clear HO116; clear BK112; clear BK113; clear BK119; clear BK120; clear HB; have HO_1 := n0_; have HO_113000 := n1_; have HO116 := n2_; have BK112 := n3_; have BK113 := n4_; have BK119 := n5_; have BK120 := n6_; have HB := n7_; clear n0_ n1_ n2_ n3_ n4_ n5_ n6_ n7_; have hnb56 := NB120_112.out; have hnc56 := NB112_120.out; have hnb57 := NB120_113.out; have hnc57 := NB113_120.out; have hcz58_0 : w55.cell? ⟨gb120, 0, none⟩ = some (.int .i64 0) := (blk_cell BK120.out 0).trans rfl; have hcz58_1 : w55.cell? ⟨gb120, 1, none⟩ = some (.int .i64 0) := (blk_cell BK120.out 1).trans rfl; have hfz58_0 := blk_frozen BK120.out 0; have hfz58_1 := blk_frozen BK120.out 1) | ((with_reducible refine gate_store (t := 41) (p := 11) rfl ?_); refine store_ev (t := 41) (p := 11) (w1 := ((w55.setCell ⟨gb120, 0, none⟩ (.int .i64 t117)).setCell ⟨gb120, 1, none⟩ (.int .i64 t118))) ?_; intro w59 hw; have n0_ : Aside0 (Kd.V (Kd.int .i64) 3 w59 w.heap.size (fun k_ => (P1_ k_ ∨ w.heap.size ≤ k_) ∧ some k_ ≠ (.slice Ao25 t107.length co25 : Value).ownBlock ∧ some k_ ≠ (.slice Ao50 t114.length co50 : Value).ownBlock ∧ k_ ≠ gb112 ∧ k_ ≠ gb113 ∧ k_ ≠ gb119 ∧ k_ ≠ gb120) (.slice A1 l1.length c1) l1) := ⟨(by rw [hw]; exact (by refine qV ?_; exact Kd.V_mono (Kd.V_far (p := ⟨gb120, 1, none⟩) (Kd.V_far (p := ⟨gb120, 0, none⟩) (Kd.V_mono HO_1.out (fun k_ hk => (⟨hk, hk.2.2.2.2.2.2⟩ : _ ∧ k_ ≠ gb120))) (fun _ hk => hk.2) (.int .i64 t117)) (fun _ hk => hk.2) (.int .i64 t118)) (fun _ hk => ⟨hk.1.1, ⟨hk.1.2.1, ⟨hk.1.2.2.1, ⟨hk.1.2.2.2.1, ⟨hk.1.2.2.2.2.1, ⟨hk.1.2.2.2.2.2.1, hk.1.2.2.2.2.2.2⟩⟩⟩⟩⟩⟩)))⟩; have n1_ : Aside0 (Kd.N (Kd.slice 3 (Kd.int .i64)) 38 w59 w.heap.size (fun k_ => (P1_ k_ ∨ w.heap.size ≤ k_) ∧ some k_ ≠ (.slice Ao50 t114.length co50 : Value).ownBlock ∧ k_ ≠ gb112 ∧ k_ ≠ gb113 ∧ k_ ≠ gb119 ∧ k_ ≠ gb120) (.slice Ao25 t107.length co25) t107) := ⟨(by rw [hw]; exact (by refine qN ?_; exact Kd.N_mono (Kd.N_far (p := ⟨gb120, 1, none⟩) (Kd.N_far (p := ⟨gb120, 0, none⟩) (Kd.N_mono HO_113000.out (fun k_ hk => (⟨hk, hk.2.2.2.2.2⟩ : _ ∧ k_ ≠ gb120))) (fun _ hk => hk.2) (.int .i64 t117)) (fun _ hk => hk.2) (.int .i64 t118)) (fun _ hk => ⟨hk.1.1, ⟨hk.1.2.1, ⟨hk.1.2.2.1, ⟨hk.1.2.2.2.1, ⟨hk.1.2.2.2.2.1, hk.1.2.2.2.2.2⟩⟩⟩⟩⟩)))⟩; have n2_ : Aside0 (Kd.N (Kd.slice 3 (Kd.int .i64)) 38 w59 w.heap.size (fun k_ => (P1_ k_ ∨ w.heap.size ≤ k_) ∧ some k_ ≠ (.slice Ao25 t107.length co25 : Value).ownBlock ∧ k_ ≠ gb112 ∧ k_ ≠ gb113 ∧ k_ ≠ gb119 ∧ k_ ≠ gb120) (.slice Ao50 t114.length co50) t114) := ⟨(by rw [hw]; exact (by refine qN ?_; exact Kd.N_mono (Kd.N_far (p := ⟨gb120, 1, none⟩) (Kd.N_far (p := ⟨gb120, 0, none⟩) (Kd.N_mono HO116.out (fun k_ hk => (⟨hk, hk.2.2.2.2.2⟩ : _ ∧ k_ ≠ gb120))) (fun _ hk => hk.2) (.int .i64 t117)) (fun _ hk => hk.2) (.int .i64 t118)) (fun _ hk => ⟨hk.1.1, ⟨hk.1.2.1, ⟨hk.1.2.2.1, ⟨hk.1.2.2.2.1, ⟨hk.1.2.2.2.2.1, hk.1.2.2.2.2.2⟩⟩⟩⟩⟩)))⟩; have n3_ : Aside0 (w59.heap[gb112]? = some (.cells #[.slice Ao25 t107.length co25] 70 (0, 0))) := ⟨(by rw [hw]; exact (by refine qk ?_; refine blk_far ?_ NB112_120.out _; refine qk ?_; refine blk_far ?_ NB112_120.out _; refine qk ?_; exact BK112.out))⟩; have n4_ : Aside0 (w59.heap[gb113]? = some (.cells #[.int .i64 t110, .int .i64 t111] 41 (0, 0))) := ⟨(by rw [hw]; exact (by refine qk ?_; refine blk_far ?_ NB113_120.out _; refine qk ?_; refine blk_far ?_ NB113_120.out _; refine qk ?_; exact BK113.out))⟩; have n5_ : Aside0 (w59.heap[gb119]? = some (.cells #[.slice Ao50 t114.length co50] 70 (0, 0))) := ⟨(by rw [hw]; exact (by refine qk ?_; refine blk_far ?_ NB119_120.out _; refine qk ?_; refine blk_far ?_ NB119_120.out _; refine qk ?_; exact BK119.out))⟩; have n6_ : Aside0 (w59.heap[gb120]? = some (.cells #[.int .i64 t117, .int .i64 t118] 41 (0, 0))) := ⟨(by rw [hw]; exact (by refine qk ?_; refine blk_put (cs := #[.int .i64 t117, .int .i64 0]) ?_ 1 _ rfl; refine qk ?_; refine blk_put (cs := #[.int .i64 0, .int .i64 0]) ?_ 0 _ rfl; refine qk ?_; exact BK120.out))⟩; have n7_ : Aside0 (Below w.heap.size w w59) := ⟨(by rw [hw]; exact qb)⟩; clear hw; clear HO_1; clear HO_113000; clear HO116; clear BK112; clear BK113; clear BK119; clear BK120; clear HB; have HO_1 := n0_; have HO_113000 := n1_; have HO116 := n2_; have BK112 := n3_; have BK113 := n4_; have BK119 := n5_; have BK120 := n6_; have HB := n7_; clear n0_ n1_ n2_ n3_ n4_ n5_ n6_ n7_; have hnb60 := NB113_112.out; have hnc60 := NB112_113.out; have hcz61_0 : w59.cell? ⟨gb113, 0, none⟩ = some (.int .i64 t110) := (blk_cell BK113.out 0).trans rfl; have hcz61_1 : w59.cell? ⟨gb113, 1, none⟩ = some (.int .i64 t111) := (blk_cell BK113.out 1).trans rfl; have hfz61_0 := blk_frozen BK113.out 0; have hfz61_1 := blk_frozen BK113.out 1; have hcz62_0 : w59.cell? ⟨gb120, 0, none⟩ = some (.int .i64 t117) := (blk_cell BK120.out 0).trans rfl; have hcz62_1 : w59.cell? ⟨gb120, 1, none⟩ = some (.int .i64 t118) := (blk_cell BK120.out 1).trans rfl; have hfz62_0 := blk_frozen BK120.out 0; have hfz62_1 := blk_frozen BK120.out 1; have hcz63_0 : w59.cell? ⟨gb112, 0, none⟩ = some (.slice Ao25 t107.length co25) := (blk_cell BK112.out 0).trans rfl; have hfz63_0 := blk_frozen BK112.out 0; have hcz64_0 : w59.cell? ⟨gb119, 0, none⟩ = some (.slice Ao50 t114.length co50) := (blk_cell BK119.out 0).trans rfl; have hfz64_0 := blk_frozen BK119.out 0; have p121 : 0 ≤ (0 : Int) := (by omega); have q121 : 0 < (t107.length : Int) := of_decide_eq_true qa; obtain ⟨ad121, A121_0, c121_0, e121, hx121_0, hl121_0, hi121_0⟩ := at_L14 (Kd.N_reads' HO_113000.out).2.2 0 p121 q121; cases e121; obtain ⟨ce121, hce121, hMe121, hcc121⟩ := Kd.N_get HO_113000.out [] 0 p121 (by first | exact q121 | exact of_decide_eq_true qa | (have e_ := (Kd.N_reads' HO_113000.out).1; omega)); obtain ⟨ua121_0, uc121_0, rfl, ul121_0, ge121_0⟩ := Kd.FK_slice_open hMe121; have hv121_0 := hcc121 0 _ rfl; rw [Nat.add_zero, show ((Kd.slice 3 (Kd.int .i64))).sz = 1 from rfl, Nat.mul_one] at hv121_0; replace hv121_0 := Option.some.inj (hv121_0.symm.trans hx121_0); injection hv121_0 with hva_ hvn_ hvc_; rw [hva_] at ge121_0; rw [hvc_] at ul121_0; have HL121_0 := Aside0.mk (show Kd.V (Kd.int .i64) 3 _ w.heap.size _ _ (rd_L14 t107 0) from Kd.V_mk ul121_0 ge121_0); clear hva_ hvn_ hvc_ ge121_0 ul121_0; clear hcc121 hce121; have qi121 : (0 < t107.length) = True := eq_true (by omega); (try rw [show ((0 : Int)).toNat = 0 from rfl] at hx121_0); (try rw [Addr.add_zero'] at hx121_0); have HR121_0 := Aside0.mk hi121_0; have HC121_0 := Aside0.mk hl121_0; clear hi121_0 hl121_0; (try simp only [Go.IntWalk.toNatUp] at hx121_0); replace p121 := eq_true p121; replace q121 := eq_true q121) | (go_at_call 23; (with_reducible refine (entrepotref07_Ints.calls k2 _ _ (rd_L14 t107 0) _ _ l1 true _ ?side1 ?side2 ?side3 ?side4 A43.out).mono ?_); (case side1 => exact qC (qD HR121_0.out HL121_0.out)); (case side2 => exact HC121_0.out); (case side3 => repeat (first | exact (Kd.V_reads' HO_1.out).2.2 | (with_reducible refine Kd.C_alloc ?_ _) | (with_reducible refine Kd.C_drewN ?_ _) | (with_reducible refine Kd.C_drew ?_))); (case side4 => exact (Kd.V_reads' HO_1.out).2.1); rintro e w' ⟨rfl, ⟨nd, rfl⟩⟩; have p123 : 0 ≤ (0 : Int) := (by omega); have q123 : 0 < (t114.length : Int) := of_decide_eq_true qa; obtain ⟨ad123, A123_0, c123_0, e123, hx123_0, hl123_0, hi123_0⟩ := at_L14 (Kd.N_reads' HO116.out).2.2 0 p123 q123; cases e123; obtain ⟨ce123, hce123, hMe123, hcc123⟩ := Kd.N_get HO116.out [] 0 p123 (by first | exact q123 | exact of_decide_eq_true qa | (have e_ := (Kd.N_reads' HO116.out).1; omega)); obtain ⟨ua123_0, uc123_0, rfl, ul123_0, ge123_0⟩ := Kd.FK_slice_open hMe123; have hv123_0 := hcc123 0 _ rfl; rw [Nat.add_zero, show ((Kd.slice 3 (Kd.int .i64))).sz = 1 from rfl, Nat.mul_one] at hv123_0; replace hv123_0 := Option.some.inj (hv123_0.symm.trans hx123_0); injection hv123_0 with hva_ hvn_ hvc_; rw [hva_] at ge123_0; rw [hvc_] at ul123_0; have HL123_0 := Aside0.mk (show Kd.V (Kd.int .i64) 3 _ w.heap.size _ _ (rd_L14 t114 0) from Kd.V_mk ul123_0 ge123_0); clear hva_ hvn_ hvc_ ge123_0 ul123_0; clear hcc123 hce123; have qi123 : (0 < t114.length) = True := eq_true (by omega); (try rw [show ((0 : Int)).toNat = 0 from rfl] at hx123_0); (try rw [Addr.add_zero'] at hx123_0); have HR123_0 := Aside0.mk hi123_0; have HC123_0 := Aside0.mk hl123_0; clear hi123_0 hl123_0; (try simp only [Go.IntWalk.toNatUp] at hx123_0); replace p123 := eq_true p123; replace q123 := eq_true q123) | (go_at_call 23; (with_reducible refine (entrepotref07_Ints.calls k2 _ _ (rd_L14 t114 0) _ _ l1 t124 _ ?side1 ?side2 ?side3 ?side4 A46.out).mono ?_); (case side1 => exact qC (qD HR123_0.out HL123_0.out)); (case side2 => exact HC123_0.out); (case side3 => repeat (first | exact (Kd.V_reads' HO_1.out).2.2 | (with_reducible refine Kd.C_alloc ?_ _) | (with_reducible refine Kd.C_drewN ?_ _) | (with_reducible refine Kd.C_drew ?_))); (case side4 => exact (Kd.V_reads' HO_1.out).2.1); rintro e w' ⟨rfl, ⟨nd, rfl⟩⟩))
               go_ret
               exact ⟨qe, qb⟩
              ·rw [if_neg c45] at H
               exact absurd H (by simp)
             ·replace c44 := Bool.eq_false_iff.mpr c44; subst c44; have H1 : (none) = some r := by rw [if_neg (show ¬ (false = true) by decide)] at H; exact H
              clear H; have H := H1; clear H1
              exact absurd H (by simp)
            ·rw [if_neg c42] at H
             exact absurd H (by simp)
           ·rw [if_neg c41] at H
            exact absurd H (by simp)
          ·rw [if_neg c40] at H
           exact absurd H (by simp)
         ·rw [if_neg c39] at H
          exact absurd H (by simp)
        ·rw [if_neg c38] at H
         exact absurd H (by simp)
end Go.Proofs.YtadocbfchdendaaGreatDoor.P
namespace Go.Proofs.YtadocbfchdendaaGreatDoor.P
open Go.RowKit
def entrepotlaw16_TourBack.Pure : Prop := ∀ (a0 : ByteArray) (a1 : List (Int)), a0.size ≤ 140737488351232 → (a1.length ≤ maxLen ∧ ∀ v0 ∈ a1, (Lit.int .i64 v0).wf = true) → ∃ k, entrepotlaw16_TourBack.f k a0 a1 = some true
end Go.Proofs.YtadocbfchdendaaGreatDoor.P
namespace Go.Proofs.YtadocbfchdendaaGreatDoor.P
open Go.RowKit Go.Proofs.YtadocbfchdendaaGreatDoorW.PrintWords Go.Proofs.YtadocbfchdendaaGreatDoorW.PrintLast Go.Proofs.YtadocbfchdendaaGreatDoorW.PrintMore
attribute [local go_sem] max2_int min2_int max_two min_two max_three min_three max_four min_four
set_option linter.unusedVariables false
set_option linter.unusedSimpArgs false
end Go.Proofs.YtadocbfchdendaaGreatDoor.P
namespace Go.Proofs.YtadocbfchdendaaGreatDoor.Cu
open Go.RowKit Go.Lib Go.Proofs.YtadocbfchdendaaGreatDoorW.PrintWords Go.Proofs.YtadocbfchdendaaGreatDoorW.PrintLast Go.Proofs.YtadocbfchdendaaGreatDoorW.PrintMore Go.Proofs.YtadocbfchdendaaGreatDoor.P
set_option linter.unusedSimpArgs false
set_option linter.unusedVariables false
structure RZ (w W1 : World) (A : Option Addr) (L : List RRow) : Prop where
 bel : Below w.heap.size w W1
 bp : W1.heap[w.heap.size]? = some (.cells #[.slice none 0 0] 73 (0, 0))
 bd : W1.heap[w.heap.size + 1]? = some (.cells #[.int .i64 0, .int .i64 0] 41 (0, 0))
 rows : Kd.C k36 W1 A L.length L
 sz : w.heap.size + 2 ≤ W1.heap.size
structure RS (W1 : World) (g N : Nat) (W : World) (acc : List (List Int)) : Prop where
 b1 : Below W1.heap.size W1 W
 hg : W1.heap.size ≤ g
 plan : ∃ A c, W.heap[g]? = some (.cells #[.slice A acc.length c] 73 (0, 0)) ∧ Kd.S (Kd.slice 3 (Kd.int .i64)) 38 W W1.heap.size (fun k => k < N) (.slice A acc.length c) acc
theorem RS.lt {W1 W : World} {g N : Nat} {acc : List (List Int)} (h : RS W1 g N W acc) : g < W.heap.size := by
 obtain ⟨A, c, h1, h2⟩ := h.plan
 exact blk_lt h1
theorem RS.step {W1 W W' : World} {g N : Nat} {acc : List (List Int)} (h : RS W1 g N W acc) (hb : Below W.heap.size W W') : RS W1 g N W' acc := by
 obtain ⟨A, c, h1, h2⟩ := h.plan
 exact ⟨h.b1.trans (hb.mono h.b1.size), h.hg, ⟨A, c, blk_below h1 hb, Kd.S_below h2 hb⟩⟩
theorem RS.app {W1 W W' : World} {g N N' : Nat} {acc acc' : List (List Int)} (h : RS W1 g N W acc) {row : Option Nat} (hrow : ∀ k, row = some k → W1.heap.size ≤ k) (hne : some g ≠ row) (hg : W.grownBy W' row) (hb : Below W1.heap.size W1 W') {A' : Option Addr} {c' : Nat}
  (ho : Kd.S (Kd.slice 3 (Kd.int .i64)) 38 W' W1.heap.size (fun k => k < N') (.slice A' acc'.length c') acc') : RS W1 g N' (W'.setCell ⟨g, 0, none⟩ (.slice A' acc'.length c')) acc' := by
 have hlt := h.lt
 obtain ⟨A, c, h1, h2⟩ := h.plan
 have hp := (hg.block g hlt hne).trans h1
 exact ⟨hb.setCell (p := ⟨_, _, none⟩) h.hg _, h.hg, ⟨A', c', blk_put hp 0 _ rfl, Kd.S_set ho hp (by decide) 0 _⟩⟩
theorem RS.cells {w W1 W : World} {A : Option Addr} {L : List RRow} {g N : Nat} {acc : List (List Int)} (hz : RZ w W1 A L) (h : RS W1 g N W acc) :
  W.cell? ⟨w.heap.size, 0, none⟩ = some (.slice none 0 0) ∧ W.frozen? ⟨w.heap.size, 0, none⟩ = false ∧ W.cell? ⟨w.heap.size + 1, 0, none⟩ = some (.int .i64 0) ∧ W.cell? ⟨w.heap.size + 1, 1, none⟩ = some (.int .i64 0) ∧ W.frozen? ⟨w.heap.size + 1, 0, none⟩ = false ∧ W.frozen? ⟨w.heap.size + 1, 1, none⟩ = false := by
 have hp := (h.b1.block _ (by have := hz.sz; omega)).trans hz.bp
 have hd := (h.b1.block _ (by have := hz.sz; omega)).trans hz.bd
 exact ⟨(bc1 hp).1, (bc1 hp).2, (bc2 hd).1, (bc2 hd).2.1, (bc2 hd).2.2.1, (bc2 hd).2.2.2⟩
end Go.Proofs.YtadocbfchdendaaGreatDoor.Cu
namespace Go.Proofs.YtadocbfchdendaaGreatDoor.P
open Go.RowKit Go.Lib Go.Proofs.YtadocbfchdendaaGreatDoorW.PrintWords
end Go.Proofs.YtadocbfchdendaaGreatDoor.P
namespace Go.Proofs.YtadocbfchdendaaGreatDoor.P
open Go.RowKit Go.Proofs.YtadocbfchdendaaGreatDoorW.PrintWords Go.Proofs.YtadocbfchdendaaGreatDoorW.PrintLast Go.Proofs.YtadocbfchdendaaGreatDoorW.PrintMore
attribute [local go_sem] max2_int min2_int max_two min_two max_three min_three max_four min_four
set_option linter.unusedVariables false
set_option linter.unusedSimpArgs false
end Go.Proofs.YtadocbfchdendaaGreatDoor.P
namespace Go.Proofs.YtadocbfchdendaaGreatDoor.Cu
open Go.RowKit Go.Lib Go.Proofs.YtadocbfchdendaaGreatDoorW.PrintWords Go.Proofs.YtadocbfchdendaaGreatDoorW.PrintLast Go.Proofs.YtadocbfchdendaaGreatDoorW.PrintMore Go.Proofs.YtadocbfchdendaaGreatDoor.P
set_option linter.unusedSimpArgs false
set_option linter.unusedVariables false
def keyB (i : Int) : ByteArray := if i = 0 then (⟨#[78, 65, 77, 69]⟩ : ByteArray) else if i = 1 then (⟨#[84, 89, 80, 69]⟩ : ByteArray) else (⟨#[68, 73, 77, 69, 78, 83, 73, 79, 78]⟩ : ByteArray)
structure UZ (w W1 : World) (A : Option Addr) (R : List RRow) (B : Option Addr) (L : List RLn) : Prop where
 bel : Below w.heap.size w W1
 bp : W1.heap[w.heap.size]? = some (.cells #[.slice none 0 0] 73 (0, 0))
 bd : W1.heap[w.heap.size + 1]? = some (.cells #[.int .i64 0, .int .i64 0] 41 (0, 0))
 rows : Kd.C k36 W1 A R.length R
 lines : Kd.C k100 W1 B L.length L
 sz : w.heap.size + 2 ≤ W1.heap.size
theorem UZ.cells {w W1 W : World} {A : Option Addr} {R : List RRow} {B : Option Addr} {L : List RLn} (hz : UZ w W1 A R B L) (h : Below W1.heap.size W1 W) :
  W.cell? ⟨w.heap.size, 0, none⟩ = some (.slice none 0 0) ∧ W.frozen? ⟨w.heap.size, 0, none⟩ = false ∧ W.cell? ⟨w.heap.size + 1, 0, none⟩ = some (.int .i64 0) ∧ W.cell? ⟨w.heap.size + 1, 1, none⟩ = some (.int .i64 0) ∧ W.frozen? ⟨w.heap.size + 1, 0, none⟩ = false ∧ W.frozen? ⟨w.heap.size + 1, 1, none⟩ = false := by
 have hp := (h.block _ (by have := hz.sz; omega)).trans hz.bp
 have hd := (h.block _ (by have := hz.sz; omega)).trans hz.bd
 exact ⟨(bc1 hp).1, (bc1 hp).2, (bc2 hd).1, (bc2 hd).2.1, (bc2 hd).2.2.1, (bc2 hd).2.2.2⟩
end Go.Proofs.YtadocbfchdendaaGreatDoor.Cu
namespace Go.Proofs.YtadocbfchdendaaGreatDoor.P
open Go.RowKit Go.Lib Go.Proofs.YtadocbfchdendaaGreatDoorW.PrintWords
end Go.Proofs.YtadocbfchdendaaGreatDoor.P
namespace Go.Proofs.YtadocbfchdendaaGreatDoor.Cu
open Go.RowKit Go.Lib Go.Proofs.YtadocbfchdendaaGreatDoorW.PrintWords Go.Proofs.YtadocbfchdendaaGreatDoorW.PrintLast Go.Proofs.YtadocbfchdendaaGreatDoorW.PrintMore Go.Proofs.YtadocbfchdendaaGreatDoor.P
set_option linter.unusedSimpArgs false
def trimE (l : List UInt8) (b : Nat) : Int × Int := ((b : Int) - (triL l).length, (b : Int) - (triL l).length + (triR (triL l)).length)
theorem trimE_txt (s : ByteArray) (a b : Nat) (hab : a ≤ b) (hb : b ≤ s.size) : txt s (trimE (seg s a b) b).1 (trimE (seg s a b) b).2 = ⟨(triR (triL (seg s a b))).toArray⟩ := by
 have h1 := seg_len s a b hab hb
 have h2 := triL_len (seg s a b)
 have h3 := triR_len (triL (seg s a b))
 have e1 : (trimE (seg s a b) b).1 = ((b - (triL (seg s a b)).length : Nat) : Int) := by unfold trimE; simp only; omega
 have e2 : (trimE (seg s a b) b).2 = ((b - (triL (seg s a b)).length + (triR (triL (seg s a b))).length : Nat) : Int) := by unfold trimE; simp only; omega
 rw [e1, e2, txt_seg s _ _ (by omega) (by omega)]
 congr 2
 have hL := triL_drop (seg s a b)
 rw [h1, seg_drop] at hL
 have hR := triR_take (triL (seg s a b))
 obtain ⟨T, hT⟩ : ∃ T, triL (seg s a b) = T := ⟨_, rfl⟩
 rw [hT] at hL hR h2 h3 ⊢
 rw [show a + (b - a - T.length) = b - T.length by omega] at hL
 have hlen : T.length ≤ b - a := by omega
 have h4 := seg_take s (b - T.length) b (triR T).length (by omega)
 rw [← hL, ← hR] at h4
 exact h4.symm
theorem Name_eq (v : ByteArray) (hv : v.size < 1000000000) : words_Name.f v = some (allS namB v.data.toList) := by
 unfold words_Name.f words_all_nam.f
 rw [if_pos hv]
 rfl
def keyV (s : ByteArray) (m b : Nat) (key : ByteArray) : ByteArray × Int × Int × Bool :=
 if m < b then (if (trimE (seg s (m + 1) b) b).1 < (trimE (seg s (m + 1) b) b).2 then (key, (trimE (seg s (m + 1) b) b).1, (trimE (seg s (m + 1) b) b).2, true) else (key, (b : Int), (b : Int), true)) else (key, (b : Int), (b : Int), true)
def preC (l : List UInt8) : List UInt8 := l.takeWhile (· != 58)
def keyS (s : ByteArray) (a b : Nat) : ByteArray × Int × Int × Bool :=
 if allS capB (triR (triL (preC (seg s a b)))) = true then keyV s (a + (preC (seg s a b)).length) b ⟨(triR (triL (preC (seg s a b)))).toArray⟩ else (⟨#[]⟩, 0, 0, false)
theorem preC_len (l : List UInt8) : (preC l).length ≤ l.length := (List.takeWhile_prefix _).length_le
theorem preC_take (l : List UInt8) : preC l = l.take (preC l).length := List.prefix_iff_eq_take.1 (List.takeWhile_prefix _)
theorem idx_pre (l : List UInt8) : Lib.indexByte l 58 = if (preC l).length < l.length then ((preC l).length : Int) else -1 := by
 induction l with
 | nil => rfl
 | cons c l ih =>
  unfold Lib.indexByte preC
  rw [List.takeWhile_cons]
  by_cases h : c = 58
  ·subst h; simp
  ·have h2 : (c == 58) = false := by rw [beq_eq_false_iff_ne]; exact h
   have h3 : (c != 58) = true := by rw [bne_iff_ne]; exact h
   have hle := preC_len l
   rw [h2, h3, ih]
   simp only [Bool.false_eq_true, if_false, if_true, List.length_cons]
   unfold preC at hle ⊢
   obtain ⟨P, hP⟩ : ∃ P, l.takeWhile (· != 58) = P := ⟨_, rfl⟩
   rw [hP] at hle ⊢
   by_cases h4 : P.length < l.length
   ·have h5 : ((P.length : Int) == -1) = false := by rw [beq_eq_false_iff_ne]; omega
    rw [if_pos h4, h5, if_neg (show ¬ (false = true) by decide), if_pos (by omega)]
    omega
   ·rw [if_neg h4, show ((-1 : Int) == -1) = true from rfl, if_pos rfl, if_neg (by omega)]
theorem Key_eq (s : ByteArray) (hs : s.size < 1000000000) (a b : Nat) (hab : a ≤ b) (hb : b ≤ s.size) : words_Key.f s a b = some (keyS s a b) := by
 have hp : words_places.f s a b = some true := by
  unfold words_places.f
  rw [if_pos (by omega), if_pos (by omega)]
  simp; omega
 unfold words_Key.f
 rw [hp]
 simp only [Option.bind_some, if_true]
 rw [if_pos (by omega), if_pos (by omega), if_pos (by omega)]
 have hX : s.extract (a : Int).toNat (b : Int).toNat = ⟨(seg s a b).toArray⟩ := by rw [Int.toNat_natCast, Int.toNat_natCast, seg_data]; rfl
 rw [hX]
 have hl := seg_len s a b hab hb
 have hXs : (⟨(seg s a b).toArray⟩ : ByteArray).size = b - a := by show (seg s a b).toArray.size = _; simp [hl]
 have hpl := preC_len (seg s a b)
 have h1 : stringslite_Index.f ⟨(seg s a b).toArray⟩ ⟨#[58]⟩ = some (Lib.indexByte (seg s a b) 58) := by
  unfold stringslite_Index.f
  rw [dif_pos (by rfl)]
  rfl
 have htrim : ∀ l : List UInt8, l.length < 1000000000 → strings_Trim.f ⟨l.toArray⟩ ⟨#[32, 9]⟩ = some ⟨(triR (triL l)).toArray⟩ := fun l hll => by
  unfold strings_Trim.f
  rw [if_pos ⟨by show l.toArray.size ≤ _; simp; omega, by decide, by decide⟩]
  show some (⟨(Lib.trimS l [32, 9]).toArray⟩ : ByteArray) = _
  unfold Lib.trimS
  rw [trimL_eq, trimR_eq, tri_comm]
 have hleft : ∀ l : List UInt8, strings_TrimLeft.f ⟨l.toArray⟩ ⟨#[32, 9]⟩ = some ⟨(triL l).toArray⟩ := fun l => by
  unfold strings_TrimLeft.f
  rw [if_pos ⟨by decide, by decide⟩]
  show some (⟨(Lib.trimLeftS l [32, 9]).toArray⟩ : ByteArray) = _
  rw [trimL_eq]
 have hright : ∀ l : List UInt8, l.length < 1000000000 → strings_TrimRight.f ⟨l.toArray⟩ ⟨#[32, 9]⟩ = some ⟨(triR l).toArray⟩ := fun l hll => by
  unfold strings_TrimRight.f
  rw [if_pos ⟨by show l.toArray.size ≤ _; simp; omega, by decide, by decide⟩]
  show some (⟨(Lib.trimRightS l [32, 9]).toArray⟩ : ByteArray) = _
  rw [trimR_eq]
 have hcap : ∀ l : List UInt8, l.length < 1000000000 → words_all_cap.f ⟨l.toArray⟩ () = some (allS capB l) := fun l hll => by
  unfold words_all_cap.f
  rw [if_pos (by show l.toArray.size < _; simp; omega)]
 have hcut : strings_Cut.f ⟨(seg s a b).toArray⟩ ⟨#[58]⟩ = some (⟨(preC (seg s a b)).toArray⟩, ⟨(seg s (a + (preC (seg s a b)).length + 1) b).toArray⟩, decide ((preC (seg s a b)).length < b - a)) := by
  unfold strings_Cut.f stringslite_Cut.f
  rw [h1, idx_pre]
  simp only [Option.bind_some]
  by_cases h2 : (preC (seg s a b)).length < (seg s a b).length
  ·have e1 : wrap64 (((preC (seg s a b)).length : Int) + ((⟨#[58]⟩ : ByteArray).size : Int)) = (((preC (seg s a b)).length + 1 : Nat) : Int) := by
    rw [show ((⟨#[58]⟩ : ByteArray).size : Int) = 1 from rfl, w64' (by omega) (by omega)]; omega
   rw [if_pos h2, e1, if_pos (by omega), if_pos (by omega), if_pos (by rw [hXs]; omega), if_pos (by omega), if_pos (by rw [hXs]; omega)]
   simp only [Option.bind_some, Int.toNat_natCast]
   rw [seg_data, seg_data, hXs]
   congr 2
   ·congr 2
    rw [List.drop_zero, Nat.sub_zero]
    exact (preC_take _).symm
   ·congr 1
    ·congr 2
     show ((seg s a b).drop _).take _ = _
     rw [seg_drop, List.take_of_length_le (by rw [seg_len s _ _ (by omega) hb]; omega)]
     rfl
    ·rw [hl] at h2; simp [h2]
  ·rw [if_neg h2, if_neg (by omega)]
   simp only [Option.bind_some]
   have h3 : (preC (seg s a b)).length = (seg s a b).length := by omega
   have h4 : preC (seg s a b) = seg s a b := by
    rw [preC_take, h3, List.take_of_length_le (Nat.le_refl _)]
   rw [h4, hl]
   congr 2
   congr 1
   ·congr 1
    have h5 : seg s (a + (b - a) + 1) b = [] := by unfold seg; rw [show b - (a + (b - a) + 1) = 0 by omega, List.take_zero]
    rw [h5]
   ·simp
 rw [hcut]
 simp only [Option.bind_some]
 have hpl2 : (preC (seg s a b)).length < 1000000000 := by omega
 rw [htrim _ hpl2]
 simp only [Option.bind_some]
 have hk1 := triR_len (triL (preC (seg s a b)))
 have hk2 := triL_len (preC (seg s a b))
 rw [hcap _ (by omega)]
 simp only [Option.bind_some]
 unfold keyS keyV
 obtain ⟨m, hm⟩ : ∃ m, a + (preC (seg s a b)).length = m := ⟨_, rfl⟩
 rw [hm]
 by_cases hA : allS capB (triR (triL (preC (seg s a b)))) = true
 ·rw [if_pos hA, if_pos hA, hleft]
  simp only [Option.bind_some]
  rw [show (⟨(triL (seg s (m + 1) b)).toArray⟩ : ByteArray).toList = triL (seg s (m + 1) b) by rw [ByteArray.toList_eq]]
  by_cases hmb : m < b
  ·have hsl := seg_len s (m + 1) b (by omega) hb
   have ht1 := triL_len (seg s (m + 1) b)
   have ht2 := triR_len (triL (seg s (m + 1) b))
   rw [if_pos hmb]
   by_cases h0 : triL (seg s (m + 1) b) = []
   ·rw [if_pos h0]
    unfold trimE
    rw [h0]
    rw [if_neg (by simp [triR])]
   ·have hne := triR_ne _ h0
    have hpos : 0 < (triR (triL (seg s (m + 1) b))).length := List.length_pos_iff.2 hne
    have hz1 : ((⟨(triL (seg s (m + 1) b)).toArray⟩ : ByteArray).size : Int) = ((triL (seg s (m + 1) b)).length : Int) := by show (((triL (seg s (m + 1) b)).toArray.size : Nat) : Int) = _; simp
    have hz2 : ((⟨(triR (triL (seg s (m + 1) b))).toArray⟩ : ByteArray).size : Int) = ((triR (triL (seg s (m + 1) b))).length : Int) := by show (((triR (triL (seg s (m + 1) b))).toArray.size : Nat) : Int) = _; simp
    rw [if_neg h0, hright _ (by omega)]
    simp only [Option.bind_some]
    rw [hz1, hz2, w64' (n := (b : Int) - ((triL (seg s (m + 1) b)).length : Int)) (by omega) (by omega), w64' (by omega) (by omega)]
    rw [if_pos (by unfold trimE; simp only; omega)]
    rfl
  ·have h5 : seg s (m + 1) b = [] := by unfold seg; rw [show b - (m + 1) = 0 by omega, List.take_zero]
   rw [if_neg hmb, h5]
   rfl
 ·rw [if_neg hA, if_neg hA]
end Go.Proofs.YtadocbfchdendaaGreatDoor.Cu
namespace Go.Proofs.YtadocbfchdendaaGreatDoor.Cu
open Go.RowKit Go.Lib Go.Proofs.YtadocbfchdendaaGreatDoorW.PrintWords Go.Proofs.YtadocbfchdendaaGreatDoorW.PrintLast Go.Proofs.YtadocbfchdendaaGreatDoorW.PrintMore Go.Proofs.YtadocbfchdendaaGreatDoor.P Go.Proofs.YtadocbfchdendaaGreatDoor.Sp
set_option linter.unusedSimpArgs false
theorem linesF_sorted (s : List UInt8) (d : Nat) : ∀ a, s.length - a ≤ d → (∀ y ∈ linesF (s.length - a) (s.drop a) a, (a : Int) ≤ y.f0 ∧ y.f0 < y.f2) ∧ List.Pairwise (fun x y : Ln => x.f2 ≤ y.f0) (linesF (s.length - a) (s.drop a) a) := by
 induction d with
 | zero =>
  intro a ha
  rw [show s.length - a = 0 by omega]
  exact ⟨by simp [linesF], by simp [linesF]⟩
 | succ d ih =>
  intro a ha
  by_cases h : a < s.length
  ·obtain ⟨h1, h2, h3⟩ := lineX_next s a h
   have h0 : (lineX (s.drop a) a).f0 = (a : Int) := by unfold lineX; split <;> rfl
   rw [lines_step s a h]
   obtain ⟨i1, i2⟩ := ih (lineX (s.drop a) a).f2.toNat (by omega)
   refine ⟨fun y hy => ?_, List.pairwise_cons.2 ⟨fun y hy => ?_, i2⟩⟩
   ·rcases List.mem_cons.1 hy with rfl | hy
    ·rw [h0]; omega
    ·have := i1 y hy; omega
   ·have := i1 y hy; omega
  ·rw [show s.length - a = 0 by omega]
   exact ⟨by simp [linesF], by simp [linesF]⟩
theorem rowsL_sorted (s : List UInt8) : (∀ y ∈ rowsL s, 0 ≤ y.f0 ∧ y.f0 < y.f2) ∧ List.Pairwise (fun x y : Ln => x.f2 ≤ y.f0) (rowsL s) := by
 obtain ⟨h1, h2⟩ := linesF_sorted s s.length 0 (by omega)
 unfold rowsL linesL
 rw [Nat.sub_zero, List.drop_zero] at h1 h2
 exact ⟨fun y hy => h1 y (List.mem_filter.1 hy).1, List.Pairwise.filter _ h2⟩
theorem filter_drop (L : List Ln) (h0 : ∀ y ∈ L, y.f0 < y.f2) (hp : List.Pairwise (fun x y : Ln => x.f2 ≤ y.f0) L) : ∀ (i : Nat) (x : Ln), L[i]? = some x → L.filter (fun l => decide (x.f2 ≤ l.f0)) = L.drop (i + 1) := by
 induction L with
 | nil => intro i x h; simp at h
 | cons y L ih =>
  intro i x h
  obtain ⟨p1, p2⟩ := List.pairwise_cons.1 hp
  cases i with
  | zero =>
   obtain rfl : y = x := by simpa using h
   have hy := h0 y List.mem_cons_self
   rw [List.filter_cons, if_neg (by simp; omega)]
   exact List.filter_eq_self.2 (fun z hz => by simpa using p1 z hz)
  | succ i =>
   have hx : L[i]? = some x := by simpa using h
   have hxm := List.mem_of_getElem? hx
   have h1 := p1 x hxm
   have hy := h0 y List.mem_cons_self
   have hxx := h0 x (List.mem_cons_of_mem _ hxm)
   rw [List.filter_cons, if_neg (by simp; omega)]
   exact ih (fun z hz => h0 z (List.mem_cons_of_mem _ hz)) p2 i x hx
theorem shR_zero (s : List UInt8) : shR s 0 = (rowsL s).map (rowOf s) := by
 unfold shR
 congr 1
 exact List.filter_eq_self.2 (fun z hz => by simpa using (rowsL_sorted s).1 z hz |>.1)
theorem shR_next (s : List UInt8) (i : Nat) (x : Ln) (hx : (rowsL s)[i]? = some x) : shR s x.f2 = (shR s 0).drop (i + 1) := by
 rw [shR_zero]
 unfold shR
 rw [filter_drop (rowsL s) (fun y hy => ((rowsL_sorted s).1 y hy).2) (rowsL_sorted s).2 i x hx, List.map_drop]
def lkey (s : ByteArray) (x : Ln) : ByteArray × Int × Int × Bool := keyS s x.f0.toNat x.f1.toNat
def lval (s : ByteArray) (x : Ln) : ByteArray := txt s (lkey s x).2.1 (lkey s x).2.2.1
theorem lkey_p (s : ByteArray) (hs : s.size < 1000000000) (x : Ln) (hx : LOk s x) : words_Key.f s x.f0 x.f1 = some (lkey s x) := by
 obtain ⟨h0, h1, h2⟩ := hx
 have := Key_eq s hs x.f0.toNat x.f1.toNat (by omega) (by omega)
 rw [Int.toNat_of_nonneg h0, Int.toNat_of_nonneg (by omega)] at this
 exact this
def dimS (v : ByteArray) : Int := if (intS v.data.toList).2 = 0 then (if (intS v.data.toList).1 < 1 then 0 else if (intS v.data.toList).1 > 400 then 0 else (intS v.data.toList).1) else 0
theorem dim_p (v : ByteArray) (hv : v.size < 1000000000) : tour_dimension.f v = some (dimS v) := by
 unfold tour_dimension.f fixed_Int.f dimS
 rw [if_pos (by omega)]
 simp only [Option.bind_some]
 split
 ·split
  ·rfl
  ·split <;> rfl
 ·rfl
def fitS (i : Int) (v : ByteArray) : Int × Bool := if i = 0 then (0, allS namB v.data.toList) else if i = 1 then (0, v.toList == ([84, 79, 85, 82] : List UInt8)) else (dimS v, decide (0 < dimS v))
def headP (s : ByteArray) (L : List Ln) (i : Int) (k : Int → Told) : Told := match L[i.toNat]? with
 | none => ([], (s.size : Int), 4)
 | some x => if (lkey s x).1.toList = (keyB i).toList then (if (fitS i (lval s x)).2 = true then k (fitS i (lval s x)).1 else ([], (lkey s x).2.1, 141)) else ([], x.f0, 3)
def fin1 (S : List Int × Int × Int) : Told := if S.2.2 = 0 then ([S.1], S.2) else ([], S.2)
def tailP (s : ByteArray) (n : Int) : Told := fin1 (stopsS s n ((shR s.data.toList 0).drop 3))
def tourP (s : ByteArray) : Told := headP s (rowsL s.data.toList) 0 fun _ => headP s (rowsL s.data.toList) 1 fun _ => headP s (rowsL s.data.toList) 2 fun n => tailP s n
theorem lval_size (s : ByteArray) (x : Ln) : (lval s x).size ≤ s.size := txt_size _ _ _
theorem kD_eq (s : ByteArray) (hs : s.size < 1000000000) (x : Ln) (hx : LOk s x) (key : ByteArray) (fits : ByteArray → Option Bool) (b : Bool) (hb : fits (lval s x) = some b) :
  kD s x key fits = some (keyD x.f0 (lkey s x).1 (lkey s x).2.1 key b) := by
 unfold kD
 rw [lkey_p s hs x hx]
 simp only [Option.bind_some]
 rw [Text_eq]
 simp only [Option.bind_some]
 have : fits (txt s (lkey s x).2.1 (lkey s x).2.2.1) = some b := hb
 rw [this]
 rfl
theorem keyD_head (s : ByteArray) (x : Ln) (key : ByteArray) (b : Bool) (k : Told) :
  (if (keyD x.f0 (lkey s x).1 (lkey s x).2.1 key b).2 = 0 then k else ([], keyD x.f0 (lkey s x).1 (lkey s x).2.1 key b)) = (if (lkey s x).1.toList = key.toList then (if b = true then k else ([], (lkey s x).2.1, 141)) else ([], x.f0, 3)) := by
 unfold keyD
 by_cases h : (lkey s x).1.toList = key.toList
 ·rw [if_pos h, if_pos h]
  by_cases hb : b = true
  ·rw [if_pos hb, if_pos hb]; rfl
  ·rw [if_neg hb, if_neg hb]; rfl
 ·rw [if_neg h, if_neg h]; rfl
theorem some_ite {α : Type} {c : Prop} [Decidable c] (a b : α) : (if c then some a else some b) = some (if c then a else b) := by split <;> rfl
theorem parseTour_eq (s : ByteArray) (hs : s.size ≤ 90000) : parseTour s = some (tourP s) := by
 have hs' : s.size < 1000000000 := by omega
 have hok := rowsL_ok s
 unfold parseTour
 rw [if_pos hs]
 unfold cursor_Rows.f
 rw [if_pos hs']
 simp only [Option.bind_some]
 unfold tourP look0 headP
 rw [show ((0 : Int).toNat) = 0 from rfl]
 cases h0 : (rowsL s.data.toList)[0]? with
 | none => rfl
 | some x =>
  simp only
  have hx := hok x (List.mem_of_getElem? h0)
  have hv := lval_size s x
  rw [kD_eq s hs' x hx _ words_Name.f _ (Name_eq (lval s x) (by omega))]
  simp only [Option.bind_some]
  have e0 : ∀ k : Told, (if (fitS 0 (lval s x)).2 = true then k else ([], (lkey s x).2.1, 141)) = (if allS namB (lval s x).data.toList = true then k else ([], (lkey s x).2.1, 141)) := fun k => rfl
  rw [show (if (lkey s x).1.toList = (keyB 0).toList then (if (fitS 0 (lval s x)).2 = true then _ else _) else _) = _ from (keyD_head s x (keyB 0) (allS namB (lval s x).data.toList) _).symm]
  by_cases c0 : (keyD x.f0 (lkey s x).1 (lkey s x).2.1 (keyB 0) (allS namB (lval s x).data.toList)).2 = 0
  ·rw [if_pos c0]
   refine (if_pos c0).trans ?_
   unfold look1
   rw [show ((1 : Int).toNat) = 1 from rfl]
   cases h1 : (rowsL s.data.toList)[1]? with
   | none => rfl
   | some x1 =>
    simp only
    have hx1 := hok x1 (List.mem_of_getElem? h1)
    rw [kD_eq s hs' x1 hx1 _ tour_ParseTour_1.f _ rfl]
    simp only [Option.bind_some]
    rw [show (if (lkey s x1).1.toList = (keyB 1).toList then (if (fitS 1 (lval s x1)).2 = true then _ else _) else _) = _ from (keyD_head s x1 (keyB 1) ((lval s x1).toList == ([84, 79, 85, 82] : List UInt8)) _).symm]
    by_cases c1 : (keyD x1.f0 (lkey s x1).1 (lkey s x1).2.1 (keyB 1) ((lval s x1).toList == ([84, 79, 85, 82] : List UInt8))).2 = 0
    ·rw [if_pos c1]
     refine (if_pos c1).trans ?_
     unfold look2
     rw [show ((2 : Int).toNat) = 2 from rfl]
     cases h2 : (rowsL s.data.toList)[2]? with
     | none => rfl
     | some x2 =>
      simp only
      have hx2 := hok x2 (List.mem_of_getElem? h2)
      have hv2 := lval_size s x2
      rw [lkey_p s hs' x2 hx2]
      simp only [Option.bind_some]
      rw [Text_eq]
      simp only [Option.bind_some]
      rw [show tour_dimension.f (txt s (lkey s x2).2.1 (lkey s x2).2.2.1) = some (dimS (lval s x2)) from dim_p (lval s x2) (by omega)]
      simp only [Option.bind_some]
      rw [show (if (lkey s x2).1.toList = (keyB 2).toList then (if (fitS 2 (lval s x2)).2 = true then _ else _) else _) = _ from (keyD_head s x2 (keyB 2) (decide (0 < dimS (lval s x2))) _).symm]
      by_cases c2 : (keyD x2.f0 (lkey s x2).1 (lkey s x2).2.1 (keyB 2) (decide (0 < dimS (lval s x2)))).2 = 0
      ·rw [if_pos c2]
       refine (if_pos c2).trans ?_
       unfold look3
       rw [h2]
       simp only
       rw [Rows_sheet s hs' x2.f2 100002 (by omega)]
       simp only [Option.bind_some]
       rw [shR_next s.data.toList 2 x2 h2, some_ite]
       rfl
      ·rw [if_neg c2]
       exact if_neg c2
    ·rw [if_neg c1]
     exact if_neg c1
  ·rw [if_neg c0]
   exact if_neg c0
def titD (s : ByteArray) (l : List Row) (t : ByteArray) : Int × Int := match l with
 | [] => ((s.size : Int), 4)
 | x :: _ => if x.f1.length = 1 ∧ (joinW s x.f1 == t.toList) = true then (0, 0) else (x.f0, 3)
theorem tlS_zz (s t : ByteArray) (l : List Row) : tlS s t l (0, 0) = (l.tail, titD s l t) := by
 cases l with
 | nil => rfl
 | cons x l => simp only [tlS, tlD, titD, List.tail_cons, if_true]
theorem titD_some (s : ByteArray) (l : List Row) (t : ByteArray) (x : Row) (y : Wd) (l' : List Row) (hl : l = x :: l') (hy : x.f1 = [y]) : titD s l t = if (txt s y.f0 y.f1).toList = t.toList then (0, 0) else (x.f0, 3) := by
 subst hl
 unfold titD
 simp only
 have h1 : joinW s x.f1 = (txt s y.f0 y.f1).data.toList := by
  unfold joinW; rw [hy]; simp [Lib.join, Lib.joinTail]
 rw [h1, hy, ByteArray.toList_eq (txt s y.f0 y.f1)]
 by_cases h : (txt s y.f0 y.f1).data.toList = t.toList
 ·rw [if_pos h, if_pos ⟨rfl, by rw [beq_iff_eq]; exact h⟩]
 ·rw [if_neg h, if_neg (fun hh => h (by simpa using hh.2))]
end Go.Proofs.YtadocbfchdendaaGreatDoor.Cu
namespace Go.Proofs.YtadocbfchdendaaGreatDoor.Cu
open Go.RowKit Go.Lib Go.Proofs.YtadocbfchdendaaGreatDoorW.PrintWords Go.Proofs.YtadocbfchdendaaGreatDoorW.PrintLast Go.Proofs.YtadocbfchdendaaGreatDoorW.PrintMore Go.Proofs.YtadocbfchdendaaGreatDoor.P
set_option linter.unusedSimpArgs false
end Go.Proofs.YtadocbfchdendaaGreatDoor.Cu
namespace Go.Proofs.YtadocbfchdendaaGreatDoor.Cu
open Go.RowKit Go.Lib Go.Proofs.YtadocbfchdendaaGreatDoorW.PrintWords Go.Proofs.YtadocbfchdendaaGreatDoorW.PrintLast Go.Proofs.YtadocbfchdendaaGreatDoorW.PrintMore Go.Proofs.YtadocbfchdendaaGreatDoor.P Go.Proofs.YtadocbfchdendaaGreatDoor.Sp
set_option linter.unusedSimpArgs false
set_option maxRecDepth 100000 in
theorem shown16 : entrepotlaw16_shown.f 60 = some true := by kernel_rfl
theorem up16 (k : Nat) (hk : 60 ≤ k) : entrepotlaw16_shown.f k = some true := by
  obtain ⟨d, rfl⟩ := Nat.exists_eq_add_of_le hk
  clear hk
  induction d with
  | zero => exact shown16
  | succ d ih => exact entrepotlaw16_shown.mono (60 + d) _ ih
end Go.Proofs.YtadocbfchdendaaGreatDoor.Cu
namespace Go.Proofs.YtadocbfchdendaaGreatDoor.Cu
open Go.RowKit Go.Lib Go.Proofs.YtadocbfchdendaaGreatDoorW.PrintWords Go.Proofs.YtadocbfchdendaaGreatDoor.P
set_option linter.unusedSimpArgs false
set_option linter.unusedVariables false
structure PrSt (w wr : World) (b : Nat) (t rest full : List UInt8) : Prop where
  bel : Below w.heap.size w wr
  bld : Bld wr b b t
  eq : t ++ rest = full
  ge : w.heap.size ≤ b
  lt : b ≤ wr.heap.size
theorem PrSt.step {w wr w' : World} {b : Nat} {t rest full : List UInt8} (h : PrSt w wr b t rest full) (hb : Below wr.heap.size wr w') : PrSt w w' b t rest full :=
  ⟨below_step h.bel hb, h.bld.below hb, h.eq, h.ge, Nat.le_trans h.lt hb.size⟩
theorem PrSt.wrote {w wr w' : World} {b : Nat} {t s rest full : List UInt8} (h : PrSt w wr b t (s ++ rest) full) (hB : Bld w' b b (t ++ s)) (hb : Below b wr w') : PrSt w w' b (t ++ s) rest full :=
  ⟨h.bel.trans (hb.mono h.ge), hB, by rw [← h.eq, List.append_assoc], h.ge, Nat.le_trans h.lt hb.size⟩
theorem PrSt.put {w wr : World} {b : Nat} {t x rest full : List UInt8} (h : PrSt w wr b t (x ++ rest) full) (hz : full.length ≤ 140737488355328) (s : ByteArray) (hs : s.data.toList = x) :
    Calls Tryz.prog 82 #[.pointer (some ⟨b, 0, none⟩), .string s] wr fun e w' => e = .returned (.tuple #[.int .i64 s.size, .nilIface]) ∧ Hid (PrSt w w' b (t ++ x) rest full) := by
  subst hs
  have hl : s.data.toList.length = s.size := rfl
  have he := congrArg List.length h.eq
  simp only [List.length_append] at he
  exact (h.bld.write s (by omega) h.lt).mono fun e w' ⟨h1, h2, h3⟩ => ⟨h1, h.wrote h2 h3⟩
end Go.Proofs.YtadocbfchdendaaGreatDoor.Cu
namespace Go.Proofs.YtadocbfchdendaaGreatDoor.P
open Go.RowKit Go.Lib Go.Proofs.YtadocbfchdendaaGreatDoorW.PrintWords
set_option linter.unusedSimpArgs false
set_option linter.unusedVariables false
end Go.Proofs.YtadocbfchdendaaGreatDoor.P
namespace Go.Proofs.YtadocbfchdendaaGreatDoor.Cu
open Go.RowKit Go.Lib Go.Proofs.YtadocbfchdendaaGreatDoorW.PrintWords Go.Proofs.YtadocbfchdendaaGreatDoorW.PrintLast Go.Proofs.YtadocbfchdendaaGreatDoorW.PrintMore Go.Proofs.YtadocbfchdendaaGreatDoor.P Go.Proofs.YtadocbfchdendaaGreatDoor.Sp
set_option linter.unusedSimpArgs false
theorem rdXI (l : List Int) (i : Nat) (x : Int) (h : l[i]? = some x) : rd l (i : Int) = x := by
  simp [rd, h]
def okT (n : Int) (r : List Int) : Bool := r.all fun v => decide (0 ≤ v) && decide (v < n)
def stT (r : List Int) : List (List UInt8) := r.map fun v => Lib.itoa (v + 1)
def hdT (name : List UInt8) (n : Nat) : List (List UInt8) := [[78, 65, 77, 69, 32, 58, 32] ++ name, [84, 89, 80, 69, 32, 58, 32, 84, 79, 85, 82], [68, 73, 77, 69, 78, 83, 73, 79, 78, 32, 58, 32] ++ Lib.itoa n, [84, 79, 85, 82, 95, 83, 69, 67, 84, 73, 79, 78]]
def ftT : List (List UInt8) := [[45, 49], [69, 79, 70]]
def tourT (name : List UInt8) (r : List Int) : List UInt8 := lnT (hdT name r.length ++ stT r ++ ftT)
def prT (name : ByteArray) (p : List (List Int)) : ByteArray := match p with
  | [r] => if allS namB name.data.toList = true ∧ 1 ≤ r.length ∧ r.length ≤ 400 ∧ okT r.length r = true then ⟨(tourT name.data.toList r).toArray⟩ else ⟨#[]⟩
  | _ => ⟨#[]⟩
theorem ptour_l (r : List Int) (hr : r.length ≤ 400) (d : Nat) : ∀ (i k : Nat) (acc : List (List UInt8)), i + d = r.length → d + 2 < k → acc.length ≤ 10 + i → (∀ x ∈ acc, x.length ≤ 300) →
    tour_PrintTour.l0 k r (acc.map fun x => ⟨x.toArray⟩) r (r.length : Int) i = some (if okT r.length (r.drop i) = true then ⟨(lnT (acc ++ stT (r.drop i) ++ ftT)).toArray⟩ else ⟨#[]⟩) := by
  induction d with
  | zero =>
    intro i k acc hi hk hal hax
    obtain ⟨k, rfl, hk⟩ := succ' hk
    have h0 : r.drop i = [] := List.drop_of_length_le (by omega)
    simp only [tour_PrintTour.l0]
    rw [if_neg (by omega), h0]
    simp only [Option.bind_some]
    rw [if_pos (by rw [List.length_map]; simp; omega)]
    have hm : ((acc.map fun x => (⟨x.toArray⟩ : ByteArray)) ++ [(⟨#[45, 49]⟩ : ByteArray), ⟨#[69, 79, 70]⟩, ⟨#[]⟩]).map (·.data.toList) = (acc ++ ftT) ++ [[]] := by
      rw [List.map_append, List.map_map]
      have : ((fun x : ByteArray => x.data.toList) ∘ fun x : List UInt8 => (⟨x.toArray⟩ : ByteArray)) = id := by funext x; simp
      rw [this, List.map_id]
      simp [ftT]
    have hl : (lnT (acc ++ ftT)).length ≤ 140737488355328 := by
      have := lnT_len (acc ++ ftT) 300 (fun x hx => by
        rcases List.mem_append.1 hx with h | h
        · exact hax x h
        · simp [ftT] at h; rcases h with rfl | rfl <;> simp)
      have h3 : (acc ++ ftT).length ≤ 500 := by simp [ftT]; omega
      have h4 : (acc ++ ftT).length * (300 + 1) ≤ 500 * 301 := Nat.mul_le_mul_right _ h3
      omega
    unfold strings_Join.f
    rw [hm, show (⟨#[10]⟩ : ByteArray).data.toList = [10] from rfl, join_lnT, if_pos ⟨by simp; omega, hl⟩]
    simp [okT, stT]
  | succ d ih =>
    intro i k acc hi hk hal hax
    obtain ⟨k, rfl, hk⟩ := succ' hk
    obtain ⟨v, hv⟩ : ∃ v, r[i]? = some v := ⟨_, List.getElem?_eq_getElem (show i < r.length by omega)⟩
    have e1 : wrap64 ((i : Int) + 1) = ((i + 1 : Nat) : Int) := by rw [w64' (by omega) (by omega)]; omega
    simp only [tour_PrintTour.l0]
    rw [if_pos (by omega), if_pos (by omega), if_pos (by omega), rdXI r i v hv, drop_cons' r i v hv]
    by_cases h0 : v < 0
    · rw [if_pos h0, if_neg (by simp [okT]; intro h; omega)]
    · by_cases h1 : v ≥ (r.length : Int)
      · rw [if_neg h0, if_pos h1, if_neg (by simp [okT]; intro h; omega)]
      · have hil := itoa_length_le (v + 1) (by omega) (by omega)
        have hI : strconv_Itoa.f (wrap64 (v + 1)) = some ⟨(Lib.itoa (v + 1)).toArray⟩ := by
          rw [w64' (n := v + 1) (by omega) (by omega)]
          unfold strconv_Itoa.f
          rw [if_pos ⟨by omega, by omega⟩]
        rw [if_neg h0, if_neg h1, hI]
        simp only [Option.bind_some]
        rw [if_pos (by rw [List.length_map]; omega), e1]
        have := ih (i + 1) k (acc ++ [Lib.itoa (v + 1)]) (by omega) (by omega) (by simp; omega) (fun x hx => by
          rcases List.mem_append.1 hx with h | h
          · exact hax x h
          · obtain rfl : x = _ := by simpa using h
            omega)
        rw [List.map_append] at this
        refine this.trans ?_
        have ho : okT r.length (v :: r.drop (i + 1)) = okT r.length (r.drop (i + 1)) := by
          simp only [okT, List.all_cons]
          rw [show decide (0 ≤ v) = true by simp; omega, show decide (v < (r.length : Int)) = true by simp; omega]
          simp
        rw [ho]
        simp [stT]
theorem itoa_len2 (n : Nat) (h : n ≤ 400) : (Lib.itoa (n : Int)).length ≤ 21 := itoa_length_le n (by omega) (by omega)
theorem ptour_eq (name : ByteArray) (hn : name.size ≤ 100) (p : List (List Int)) (k : Nat) (hk : 500 < k) : tour_PrintTour.f k name p = some (prT name p) := by
  obtain ⟨k, rfl, hk⟩ := succ' hk
  unfold tour_PrintTour.f
  rw [Name_eq name (by omega)]
  simp only [Option.bind_some]
  have hno : ∀ x : Bool, x = true → tour_PrintTour.j0 (k + 1) name x p = some ⟨#[]⟩ := fun x hx => by rw [tour_PrintTour.j0, if_pos hx]
  by_cases h1 : allS namB name.data.toList = true
  · rw [if_pos h1]
    match p with
    | [] => rw [if_neg (by simp)]; exact (hno true rfl).trans rfl
    | _ :: _ :: _ => rw [if_neg (by simp; omega)]; exact (hno true rfl).trans rfl
    | [r] =>
      have e0 : rd_L14 [r] 0 = r := rfl
      rw [if_pos (by simp), if_pos (by simp), e0]
      by_cases h2 : (r.length : Int) < 1
      · rw [if_pos h2]
        refine (hno true rfl).trans ?_
        unfold prT
        simp only
        rw [if_neg (fun h => by omega)]
      · rw [if_neg h2]
        by_cases h3 : (r.length : Int) > 400
        · refine (hno _ (by simpa using h3)).trans ?_
          unfold prT
          simp only
          rw [if_neg (fun h => by omega)]
        · have hil := itoa_len2 r.length (by omega)
          have z1 : (⟨(Lib.itoa (r.length : Int)).toArray⟩ : ByteArray).size = (Lib.itoa (r.length : Int)).length := ba_size _
          rw [show decide ((r.length : Int) > 400) = false by simpa using h3, tour_PrintTour.j0, if_neg (by decide), if_pos (by simp), if_pos (by omega), e0]
          unfold strconv_Itoa.f
          rw [if_pos ⟨by omega, by omega⟩]
          simp only [Option.bind_some]
          rw [if_pos (by rw [z1]; omega)]
          have hl := ptour_l r (by omega) r.length 0 k (hdT name.data.toList r.length) (by omega) (by omega) (by simp [hdT]) (fun x hx => by
            have hns : name.data.toList.length = name.size := rfl
            simp only [hdT, List.mem_cons, List.not_mem_nil, or_false] at hx
            rcases hx with rfl | rfl | rfl | rfl <;> simp <;> omega)
          have hm : (hdT name.data.toList r.length).map (fun x => (⟨x.toArray⟩ : ByteArray)) = [(⟨#[78, 65, 77, 69, 32, 58, 32]⟩ : ByteArray) ++ name, ⟨#[84, 89, 80, 69, 32, 58, 32, 84, 79, 85, 82]⟩, (⟨#[68, 73, 77, 69, 78, 83, 73, 79, 78, 32, 58, 32]⟩ : ByteArray) ++ ⟨(Lib.itoa (r.length : Int)).toArray⟩, ⟨#[84, 79, 85, 82, 95, 83, 69, 67, 84, 73, 79, 78]⟩] := by
            have e1 : (⟨#[78, 65, 77, 69, 32, 58, 32]⟩ : ByteArray) ++ name = ⟨([78, 65, 77, 69, 32, 58, 32] ++ name.data.toList).toArray⟩ := by
              apply ByteArray.ext
              rw [ByteArray.data_append]
              apply Array.ext'
              simp
            have e2 : (⟨#[68, 73, 77, 69, 78, 83, 73, 79, 78, 32, 58, 32]⟩ : ByteArray) ++ ⟨(Lib.itoa (r.length : Int)).toArray⟩ = ⟨([68, 73, 77, 69, 78, 83, 73, 79, 78, 32, 58, 32] ++ Lib.itoa (r.length : Int)).toArray⟩ := by
              apply ByteArray.ext
              rw [ByteArray.data_append]
              apply Array.ext'
              simp
            rw [e1, e2]
            rfl
          rw [hm] at hl
          rw [show (0 : Int) = ((0 : Nat) : Int) from rfl]
          refine hl.trans ?_
          unfold prT
          rw [List.drop_zero]
          simp only
          by_cases h5 : okT r.length r = true
          · rw [if_pos h5, if_pos ⟨h1, by omega, by omega, h5⟩]; rfl
          · rw [if_neg h5, if_neg (fun h => h5 h.2.2.2)]
  · rw [if_neg h1]
    refine (hno true rfl).trans ?_
    unfold prT
    split
    · rw [if_neg (fun h => h1 h.1)]
    · rfl
end Go.Proofs.YtadocbfchdendaaGreatDoor.Cu
namespace Go.Proofs.YtadocbfchdendaaGreatDoor.P
open Go.RowKit Go.Proofs.YtadocbfchdendaaGreatDoorW.PrintWords Go.Proofs.YtadocbfchdendaaGreatDoorW.PrintLast Go.Proofs.YtadocbfchdendaaGreatDoorW.PrintMore
attribute [local go_sem] max2_int min2_int max_two min_two max_three min_three max_four min_four
set_option linter.unusedVariables false
set_option linter.unusedSimpArgs false
end Go.Proofs.YtadocbfchdendaaGreatDoor.P
namespace Go.Proofs.YtadocbfchdendaaGreatDoor.Cu
open Go.RowKit Go.Lib Go.Proofs.YtadocbfchdendaaGreatDoorW.PrintWords Go.Proofs.YtadocbfchdendaaGreatDoorW.PrintLast Go.Proofs.YtadocbfchdendaaGreatDoorW.PrintMore Go.Proofs.YtadocbfchdendaaGreatDoor.P Go.Proofs.YtadocbfchdendaaGreatDoor.Sp
set_option linter.unusedSimpArgs false
def body (x : List UInt8) : List UInt8 := x.take (x.length - cr x)
theorem body_len (x : List UInt8) : (body x).length = x.length - cr x := by unfold body; rw [List.length_take]; omega
theorem body_id (x : List UInt8) (h : x.getLast? ≠ some 13) : body x = x := by
  unfold body cr
  rw [if_neg h, Nat.sub_zero, List.take_length]
def linesV : Nat → List (List UInt8) → List (Nat × List UInt8 × Nat)
  | _, [] => []
  | a, x :: l => (a, body x, a + x.length + 1) :: linesV (a + x.length + 1) l
def lnV (p : Nat × List UInt8 × Nat) : Ln := ⟨(p.1 : Nat), ((p.1 + p.2.1.length : Nat) : Int), (p.2.2 : Nat)⟩
def rowV (p : Nat × List UInt8 × Nat) : Row := ⟨(p.1 : Nat), fieldsG p.2.1 p.1 none⟩
def rowsV (a : Nat) (ls : List (List UInt8)) : List (Nat × List UInt8 × Nat) := (linesV a ls).filter fun p => !p.2.1.all blankC
theorem lineT_app (x r : List UInt8) (h : ∀ c ∈ x, c ≠ 10) : lineT (x ++ 10 :: r) = x := by
  induction x with
  | nil => simp [lineT]
  | cons c x ih =>
    have h1 := ih (fun d hd => h d (List.mem_cons_of_mem _ hd))
    have h2 := h c List.mem_cons_self
    unfold lineT at h1 ⊢
    rw [List.cons_append, List.takeWhile_cons, if_pos (by simpa using h2), h1]
theorem lnT_cons (x : List UInt8) (ls : List (List UInt8)) : lnT (x :: ls) = x ++ 10 :: lnT ls := by simp [lnT]
theorem linesF_lnT (ls : List (List UInt8)) (h : ∀ x ∈ ls, ∀ c ∈ x, c ≠ 10) : ∀ a f, (lnT ls).length ≤ f → linesF f (lnT ls) a = (linesV a ls).map lnV := by
  induction ls with
  | nil => intro a f _; cases f <;> simp [lnT, linesF, linesV]
  | cons x ls ih =>
    intro a f hf
    rw [lnT_cons] at hf ⊢
    have hT := lineT_app x (lnT ls) (h x List.mem_cons_self)
    have hc := cr_le x
    have hb := body_len x
    obtain ⟨f, rfl⟩ : ∃ g, f = g + 1 := ⟨f - 1, by simp at hf; omega⟩
    have hd : (x ++ 10 :: lnT ls).drop (x.length + 1) = lnT ls := by
      rw [List.drop_append, List.drop_of_length_le (by omega), show x.length + 1 - x.length = 1 by omega]
      rfl
    rw [linesF, if_neg (by simp), hT, hd, ih (fun y hy => h y (List.mem_cons_of_mem _ hy)) _ _ (by simp at hf; omega)]
    simp only [linesV, List.map_cons]
    congr 1
    unfold lineX lnV
    rw [hT, if_pos (by simp)]
    simp only [hb]
    congr 1
    omega
def PV (s : ByteArray) (p : Nat × List UInt8 × Nat) : Prop := seg s p.1 (p.1 + p.2.1.length) = p.2.1 ∧ p.1 + p.2.1.length ≤ s.size
theorem linesV_pv (s : ByteArray) (ls : List (List UInt8)) : ∀ pre : List UInt8, s.data.toList = pre ++ lnT ls → ∀ p ∈ linesV pre.length ls, PV s p := by
  have hL : s.data.toList.length = s.size := rfl
  induction ls with
  | nil => intro pre _ p hp; simp [linesV] at hp
  | cons x ls ih =>
    intro pre hs p hp
    rw [lnT_cons] at hs
    rcases List.mem_cons.1 hp with rfl | hp
    · have hb := body_len x
      have hc := cr_le x
      refine ⟨?_, ?_⟩
      · unfold seg
        rw [hs]
        simp only
        rw [List.drop_append, List.drop_of_length_le (Nat.le_refl _), Nat.sub_self, List.drop_zero, List.nil_append, show pre.length + (body x).length - pre.length = (body x).length by omega, List.take_append_of_le_length (by omega)]
        rw [hb]
        rfl
      · rw [← hL, hs]
        simp only [List.length_append, List.length_cons]
        omega
    · refine ih (pre ++ (x ++ [10])) (by rw [hs]; simp) p ?_
      have e : (pre ++ (x ++ [10])).length = pre.length + x.length + 1 := by simp; omega
      rw [e]
      exact hp
theorem blankL_lnV (s : ByteArray) (p : Nat × List UInt8 × Nat) (h : PV s p) : blankL s.data.toList (lnV p) = p.2.1.all blankC := by
  obtain ⟨h1, h2⟩ := h
  unfold blankL lnV
  simp only [Int.toNat_natCast]
  unfold seg at h1
  rw [h1]
theorem rowOf_lnV (s : ByteArray) (p : Nat × List UInt8 × Nat) (h : PV s p) : rowOf s.data.toList (lnV p) = rowV p := by
  obtain ⟨h1, h2⟩ := h
  unfold rowOf lnV rowV
  simp only [Int.toNat_natCast]
  unfold seg at h1
  rw [h1]
theorem rowsV_pv (s : ByteArray) (ls : List (List UInt8)) (hs : s.data.toList = lnT ls) : ∀ p ∈ rowsV 0 ls, PV s p :=
  fun p hp => linesV_pv s ls [] (by rw [hs]; rfl) p (List.mem_filter.1 hp).1
theorem rows_lnT (s : ByteArray) (ls : List (List UInt8)) (h : ∀ x ∈ ls, ∀ c ∈ x, c ≠ 10) (hs : s.data.toList = lnT ls) : rowsL s.data.toList = (rowsV 0 ls).map lnV := by
  have h0 : linesL s.data.toList = (linesV 0 ls).map lnV := by
    unfold linesL
    rw [hs]
    exact linesF_lnT ls h 0 _ (Nat.le_refl _)
  unfold rowsL
  rw [h0, List.filter_map]
  unfold rowsV
  congr 1
  refine List.filter_congr fun p hp => ?_
  show (!blankL s.data.toList (lnV p)) = _
  rw [blankL_lnV s p (linesV_pv s ls [] (by rw [hs]; rfl) p hp)]
theorem shR_lnT (s : ByteArray) (ls : List (List UInt8)) (h : ∀ x ∈ ls, ∀ c ∈ x, c ≠ 10) (hs : s.data.toList = lnT ls) : shR s.data.toList 0 = (rowsV 0 ls).map rowV := by
  unfold shR
  rw [List.filter_eq_self.2 (fun z hz => by simpa using (rowsL_ok s z hz).1), rows_lnT s ls h hs, List.map_map]
  refine List.map_congr_left fun p hp => ?_
  exact rowOf_lnV s p (rowsV_pv s ls hs p hp)
def splitG : List UInt8 → List UInt8 → List (List UInt8)
  | [], cur => if cur = [] then [] else [cur]
  | c :: l, cur => if blankC c = true then (if cur = [] then splitG l [] else cur :: splitG l []) else splitG l (cur ++ [c])
theorem wtx_seg (s : ByteArray) (p q : Nat) (h : p ≤ q) (hq : q ≤ s.size) : wtx s ⟨(p : Nat), (q : Nat)⟩ = seg s p q := by
  unfold wtx
  rw [show ((⟨(p : Nat), (q : Nat)⟩ : Wd)).f0 = (p : Int) from rfl, show ((⟨(p : Nat), (q : Nat)⟩ : Wd)).f1 = (q : Int) from rfl, txt_seg s p q h hq]
theorem seg_ne (s : ByteArray) (p q : Nat) (h : p < q) (hq : q ≤ s.size) : seg s p q ≠ [] := fun he => by
  have := seg_len s p q (by omega) hq
  rw [he] at this
  simp at this
  omega
theorem fieldsG_split (s : ByteArray) (b : Nat) (hb : b ≤ s.size) (d : Nat) : ∀ (a : Nat) (st : Option Nat), a + d = b → (∀ p, st = some p → p < a) →
    (fieldsG (seg s a b) a st).map (wtx s) = splitG (seg s a b) (match st with | none => [] | some p => seg s p a) := by
  induction d with
  | zero =>
    intro a st ha hst
    obtain rfl : a = b := by omega
    rw [seg_nil]
    cases st with
    | none => simp [fieldsG, splitG]
    | some p =>
      have hp := hst p rfl
      simp only [fieldsG, List.map_cons, List.map_nil, splitG]
      rw [wtx_seg s p a (by omega) hb, if_neg (seg_ne s p a hp hb)]
  | succ d ih =>
    intro a st ha hst
    obtain ⟨c, hc⟩ := get_data s a (by omega)
    rw [seg_cons s a b c (by omega) hc]
    by_cases hbl : blankC c = true
    · have hn := ih (a + 1) none (by omega) (fun p h => by cases h)
      cases st with
      | none => rw [fieldsG_none c _ a hbl, hn, splitG, if_pos hbl, if_pos rfl]
      | some p =>
        have hp := hst p rfl
        rw [fieldsG_some c _ a p hbl, List.map_cons, hn, splitG, if_pos hbl, if_neg (seg_ne s p a hp (by omega)), wtx_seg s p a (by omega) (by omega)]
    · have hbf : blankC c = false := Bool.eq_false_iff.2 hbl
      rw [fieldsG_skip c _ a st hbf, ih (a + 1) _ (by omega) (fun p h => by
        obtain rfl := Option.some.inj h
        cases st with
        | none => simp
        | some p => have := hst p rfl; simp; omega), splitG, if_neg hbl]
      cases st with
      | none => simp only [Option.getD_none]; rw [seg_snoc s a a c (Nat.le_refl _) hc, seg_nil]
      | some p => have := hst p rfl; simp only [Option.getD_some]; rw [seg_snoc s p a c (by omega) hc]
theorem rowV_words (s : ByteArray) (p : Nat × List UInt8 × Nat) (h : PV s p) : (rowV p).f1.map (wtx s) = splitG p.2.1 [] := by
  obtain ⟨h1, h2⟩ := h
  have := fieldsG_split s (p.1 + p.2.1.length) h2 p.2.1.length p.1 none rfl (fun p h => by cases h)
  rw [h1] at this
  exact this
theorem splitG_word (w : List UInt8) (hw : ∀ c ∈ w, blankC c = false) : ∀ r cur, splitG (w ++ r) cur = splitG r (cur ++ w) := by
  induction w with
  | nil => intro r cur; simp
  | cons c w ih =>
    intro r cur
    rw [List.cons_append, splitG, if_neg (by rw [hw c List.mem_cons_self]; decide), ih (fun d hd => hw d (List.mem_cons_of_mem _ hd))]
    simp
theorem splitG_one (w : List UInt8) (hw : ∀ c ∈ w, blankC c = false) (h0 : w ≠ []) : splitG w [] = [w] := by
  have := splitG_word w hw [] []
  rw [List.append_nil] at this
  rw [this, splitG, List.nil_append, if_neg h0]
theorem cap_nb (c : UInt8) (h : capB c = true) : blankC c = false ∧ c ≠ 58 := by
  refine ⟨?_, fun h2 => by subst h2; exact absurd h (by decide)⟩
  unfold blankC
  rw [Bool.or_eq_false_iff, beq_eq_false_iff_ne, beq_eq_false_iff_ne]
  exact ⟨fun h2 => by subst h2; exact absurd h (by decide), fun h2 => by subst h2; exact absurd h (by decide)⟩
theorem allS_mem {B : UInt8 → Bool} {l : List UInt8} (h : allS B l = true) : l ≠ [] ∧ l.length ≤ 40 ∧ ∀ c ∈ l, B c = true := by
  unfold allS at h
  simp only [Bool.and_eq_true, Bool.not_eq_true', decide_eq_true_eq, List.all_eq_true] at h
  refine ⟨fun h0 => ?_, h.2.1, h.2.2⟩
  rw [h0] at h
  exact absurd h.1 (by decide)
theorem nam_nb (c : UInt8) (h : namB c = true) : blankC c = false ∧ c ≠ 10 ∧ c ≠ 13 := by
  refine ⟨?_, fun h2 => by subst h2; exact absurd h (by decide), fun h2 => by subst h2; exact absurd h (by decide)⟩
  unfold blankC
  rw [Bool.or_eq_false_iff, beq_eq_false_iff_ne, beq_eq_false_iff_ne]
  exact ⟨fun h2 => by subst h2; exact absurd h (by decide), fun h2 => by subst h2; exact absurd h (by decide)⟩
theorem triL_nb (v : List UInt8) (h : ∀ c ∈ v, blankC c = false) : triL v = v := by
  cases v with
  | nil => rfl
  | cons c v => rw [triL_cons, if_neg (by rw [h c List.mem_cons_self]; decide)]
theorem triR_nb (v : List UInt8) (h : ∀ c ∈ v, blankC c = false) : triR v = v := by
  have := triL_nb v.reverse (fun c hc => h c (List.mem_reverse.1 hc))
  unfold triL at this
  unfold triR
  rw [this, List.reverse_reverse]
theorem keyS_view (s : ByteArray) (p : Nat × List UInt8 × Nat) (h : PV s p) (bl key v : List UInt8) (hb : p.2.1 = bl ++ (key ++ 32 :: 58 :: 32 :: v)) (hbl : bl.all blankC = true) (hk : allS capB key = true) (hv0 : v ≠ []) (hv1 : triL v = v) (hv2 : triR v = v) :
    keyS s p.1 (p.1 + p.2.1.length) = (⟨key.toArray⟩, ((p.1 + p.2.1.length - v.length : Nat) : Int), ((p.1 + p.2.1.length : Nat) : Int), true) ∧ (txt s ((p.1 + p.2.1.length - v.length : Nat) : Int) ((p.1 + p.2.1.length : Nat) : Int)).data.toList = v := by
  obtain ⟨h1, h2⟩ := h
  obtain ⟨k0, k1, k2⟩ := allS_mem hk
  have hlen : p.2.1.length = bl.length + key.length + 3 + v.length := by rw [hb]; simp; omega
  have hvl : 0 < v.length := List.length_pos_iff.2 hv0
  have hp : preC (seg s p.1 (p.1 + p.2.1.length)) = bl ++ (key ++ [32]) := by
    rw [h1, hb]
    unfold preC
    rw [show bl ++ (key ++ 32 :: 58 :: 32 :: v) = (bl ++ (key ++ [32])) ++ 58 :: (32 :: v) by simp, List.takeWhile_append_of_pos, List.takeWhile_cons]
    · simp
    · intro c hc
      rw [bne_iff_ne]
      intro h58
      subst h58
      rcases List.mem_append.1 hc with hc | hc
      · rw [List.all_eq_true] at hbl
        exact absurd (hbl _ hc) (by decide)
      · rcases List.mem_append.1 hc with hc | hc
        · exact (cap_nb _ (k2 _ hc)).2 rfl
        · simp at hc
  have ht : triR (triL (bl ++ (key ++ [32]))) = key := by
    have h3 : ∀ b : List UInt8, b.all blankC = true → triL (b ++ (key ++ [32])) = key ++ [32] := fun b => by
      induction b with
      | nil =>
        intro _
        cases key with
        | nil => exact absurd rfl k0
        | cons c key => rw [List.nil_append, List.cons_append, triL_cons, if_neg (by rw [(cap_nb c (k2 c List.mem_cons_self)).1]; decide)]
      | cons c b ih => intro hb2; rw [List.all_cons, Bool.and_eq_true] at hb2; rw [List.cons_append, triL_cons, if_pos hb2.1, ih hb2.2]
    rw [h3 bl hbl, triR_snoc, if_pos (by decide), triR_nb key (fun c hc => (cap_nb c (k2 c hc)).1)]
  obtain ⟨m, hm⟩ : ∃ m, p.1 + (bl ++ (key ++ [32])).length = m := ⟨_, rfl⟩
  have hm2 : m = p.1 + bl.length + key.length + 1 := by rw [← hm]; simp; omega
  have hsg : seg s (m + 1) (p.1 + p.2.1.length) = 32 :: v := by
    have h4 := seg_drop s p.1 (p.1 + p.2.1.length) (bl.length + key.length + 2)
    rw [show p.1 + (bl.length + key.length + 2) = m + 1 by omega] at h4
    have hz : (bl ++ (key ++ [(32 : UInt8), 58])).length = bl.length + key.length + 2 := by simp; omega
    rw [← h4, h1, hb, show bl ++ (key ++ 32 :: 58 :: 32 :: v) = (bl ++ (key ++ [32, 58])) ++ 32 :: v by simp, List.drop_append, List.drop_of_length_le (by omega), hz, Nat.sub_self]
    rfl
  have hE : trimE (32 :: v) (p.1 + p.2.1.length) = (((p.1 + p.2.1.length - v.length : Nat) : Int), ((p.1 + p.2.1.length : Nat) : Int)) := by
    unfold trimE
    rw [triL_cons, if_pos (by decide), hv1, hv2]
    congr 1 <;> omega
  refine ⟨?_, ?_⟩
  · unfold keyS keyV
    rw [hp, ht, if_pos hk, hm, if_pos (by omega), hsg, hE]
    simp only
    rw [if_pos (by omega)]
  · have h5 := trimE_txt s (m + 1) (p.1 + p.2.1.length) (by omega) h2
    rw [hsg, hE, triL_cons, if_pos (by decide), hv1, hv2] at h5
    simp only at h5
    rw [h5]
theorem itoa_sgn (n : Int) : Lib.itoa n = sgnT (decide (n < 0)) ++ Lib.decDigits n.natAbs := by
  unfold Lib.itoa sgnT
  by_cases h : n < 0
  · rw [if_pos h, if_pos (by simpa using h)]; rfl
  · rw [if_neg h, if_neg (by simpa using h)]
    show Lib.decDigits n.toNat = Lib.decDigits n.natAbs
    rw [show n.toNat = n.natAbs by omega]
theorem int_itoa (n : Int) (h1 : -100000000 ≤ n) (h2 : n ≤ 100000000) : intS (Lib.itoa n) = (n, 0) := by
  have hnd : Lib.nDigits n.natAbs ≤ 12 := nd_bd (k := 11) (by omega)
  rw [itoa_sgn, int_whole _ _ (dec_dig _) (dec_ne _) (by rw [Lib.decDigits_length]; exact hnd), sgn_abs n _ (dv_dec _), if_pos (by unfold fitsB; simp; omega)]
theorem itoa_nb (n : Int) : ∀ c ∈ Lib.itoa n, blankC c = false := fun c hc => (itoa_mem n c hc).1
def okC (c : UInt8) : Prop := c ≠ 10 ∧ c ≠ 13
theorem itoa_okC (n : Int) : ∀ c ∈ Lib.itoa n, okC c := fun c hc => by
  refine ⟨(itoa_mem n c hc).2.1, fun h => ?_⟩
  subst h
  rw [itoa_sgn] at hc
  rcases List.mem_append.1 hc with h | h
  · unfold sgnT at h
    split at h
    · simp at h
    · simp at h
  · exact absurd (dec_dig _ _ h) (by decide)
theorem body_okC (x : List UInt8) (h : ∀ c ∈ x, okC c) : body x = x := body_id x (fun h2 => (h 13 (List.mem_of_getLast? h2)).2 rfl)
theorem rowsV_bodies (ls : List (List UInt8)) (h1 : ∀ x ∈ ls, body x = x) (h2 : ∀ x ∈ ls, x.all blankC = false) : ∀ a, (rowsV a ls).map (fun p => p.2.1) = ls := by
  induction ls with
  | nil => intro a; rfl
  | cons x ls ih =>
    intro a
    have h := ih (fun y hy => h1 y (List.mem_cons_of_mem _ hy)) (fun y hy => h2 y (List.mem_cons_of_mem _ hy)) (a + x.length + 1)
    unfold rowsV at h ⊢
    rw [linesV, List.filter_cons, h1 x List.mem_cons_self, h2 x List.mem_cons_self]
    show x :: List.map _ _ = _
    rw [h]
theorem lkey_lnV (s : ByteArray) (p : Nat × List UInt8 × Nat) (h : PV s p) (key v : List UInt8) (hb : p.2.1 = key ++ 32 :: 58 :: 32 :: v) (hk : allS capB key = true) (hv0 : v ≠ []) (hv : ∀ c ∈ v, blankC c = false) :
    (lkey s (lnV p)).1.toList = key ∧ (lval s (lnV p)).data.toList = v := by
  obtain ⟨h1, h2⟩ := keyS_view s p h [] key v hb rfl hk hv0 (triL_nb v hv) (triR_nb v hv)
  have e : lkey s (lnV p) = keyS s p.1 (p.1 + p.2.1.length) := by unfold lkey lnV; simp only [Int.toNat_natCast]
  unfold lval
  rw [e, h1]
  exact ⟨by rw [ByteArray.toList_eq], h2⟩
theorem headP_ok (s : ByteArray) (L : List Ln) (i : Nat) (k : Int → Told) (x : Ln) (hx : L[i]? = some x) (h1 : (lkey s x).1.toList = (keyB i).toList) (h2 : (fitS i (lval s x)).2 = true) : headP s L i k = k (fitS i (lval s x)).1 := by
  unfold headP
  rw [Int.toNat_natCast, hx]
  simp only
  rw [if_pos h1, if_pos h2]
theorem row_one (s : ByteArray) (p : Nat × List UInt8 × Nat) (h : PV s p) (w : List UInt8) (hw : splitG p.2.1 [] = [w]) : ∃ y, (rowV p).f1 = [y] ∧ wtx s y = w := by
  have h1 := rowV_words s p h
  rw [hw] at h1
  obtain ⟨y, h2, h3⟩ := List.map_eq_singleton_iff.1 h1
  exact ⟨y, h2, h3⟩
theorem titD_ok (s : ByteArray) (p : Nat × List UInt8 × Nat) (h : PV s p) (t : ByteArray) (hw : splitG p.2.1 [] = [t.data.toList]) (l : List Row) : titD s (rowV p :: l) t = (0, 0) := by
  obtain ⟨y, h2, h3⟩ := row_one s p h _ hw
  rw [titD_some s _ t (rowV p) y l rfl h2, if_pos]
  unfold wtx at h3
  rw [ByteArray.toList_eq, ByteArray.toList_eq, h3]
theorem ints_one (s : ByteArray) (f : Int) (y : Wd) (v : Int) (h : intS (wtx s y) = (v, 0)) : intsR s f [y] 1 = ([v], 0, 0) := by
  have h2 : num s y = (v, 0) := h
  unfold intsR eachR eachR
  rw [h2]
  simp
theorem loop_ok (s : ByteArray) (n : Nat) (hn : n ≤ 400) (rest : List Row) (vs : List Int) : ∀ (R : List (Nat × List UInt8 × Nat)) (out : List Int), (∀ p ∈ R, PV s p) → R.map (fun p => p.2.1) = stT vs → out.length + vs.length = n → (∀ v ∈ vs, 0 ≤ v ∧ v < (n : Int)) →
    loopS s n (R.map rowV ++ rest) out = (rest, out ++ vs, 0, 0) := by
  induction vs with
  | nil =>
    intro R out _ hR ho _
    obtain rfl : R = [] := by simpa [stT] using hR
    rw [List.map_nil, List.nil_append, loopS_stop s n _ out (by simp at ho; omega), List.append_nil]
  | cons v vs ih =>
    intro R out hp hR ho hv
    cases R with
    | nil => simp [stT] at hR
    | cons p R =>
      simp only [List.map_cons, stT, List.cons.injEq] at hR
      obtain ⟨hv0, hv1⟩ := hv v List.mem_cons_self
      obtain ⟨y, h2, h3⟩ := row_one s p (hp p List.mem_cons_self) _ (by rw [hR.1]; exact splitG_one _ (itoa_nb _) (itoa_ne _))
      have hI := ints_one s (rowV p).f0 y (v + 1) (by rw [h3]; exact int_itoa _ (by omega) (by omega))
      have hS : stepS s n (rowV p) = .inr v := by
        unfold stepS
        rw [h2, hI]
        simp only [List.getD_cons_zero, if_true]
        rw [if_neg (by omega), Int.add_sub_cancel]
      rw [List.map_cons, List.cons_append, loopS, if_pos (by simp at ho; omega), hS]
      simp only
      rw [ih R (out ++ [v]) (fun q hq => hp q (List.mem_cons_of_mem _ hq)) hR.2 (by simp at ho ⊢; omega) (fun u hu => hv u (List.mem_cons_of_mem _ hu))]
      simp
theorem tour_told (s : ByteArray) (ls : List (List UInt8)) (hs : s.data.toList = lnT ls) (hno : ∀ x ∈ ls, ∀ c ∈ x, c ≠ 10) (name : List UInt8) (r : List Int) (h1 : allS namB name = true) (h2 : 1 ≤ r.length) (h3 : r.length ≤ 400) (h4 : okT r.length r = true)
    (hR : (rowsV 0 ls).map (fun p => p.2.1) = hdT name r.length ++ stT r ++ ftT) : tourP s = ([r], 0, 0) := by
  have hpv := rowsV_pv s ls hs
  have hL := rows_lnT s ls hno hs
  have hS := shR_lnT s ls hno hs
  obtain ⟨RR, hRR⟩ : ∃ RR, rowsV 0 ls = RR := ⟨_, rfl⟩
  rw [hRR] at hpv hL hS hR
  obtain ⟨R1, Z, e1, hR1, hZ⟩ := List.map_eq_append_iff.1 hR
  obtain ⟨H, V, e2, hH, hV⟩ := List.map_eq_append_iff.1 hR1
  have hH' : ∃ p0 p1 p2 p3, H = [p0, p1, p2, p3] := by
    have := congrArg List.length hH
    simp [hdT] at this
    match H, this with
    | [p0, p1, p2, p3], _ => exact ⟨p0, p1, p2, p3, rfl⟩
  have hZ' : ∃ q0 q1, Z = [q0, q1] := by
    have := congrArg List.length hZ
    simp [ftT] at this
    match Z, this with
    | [q0, q1], _ => exact ⟨q0, q1, rfl⟩
  obtain ⟨p0, p1, p2, p3, rfl⟩ := hH'
  obtain ⟨q0, q1, rfl⟩ := hZ'
  subst e2
  subst e1
  simp only [hdT, ftT, List.map_cons, List.map_nil, List.cons.injEq, and_true] at hH hZ
  obtain ⟨g0, g1, g2, g3⟩ := hH
  obtain ⟨z0, z1⟩ := hZ
  obtain ⟨n0, n1, n2⟩ := allS_mem h1
  have hok : ∀ v ∈ r, 0 ≤ v ∧ v < (r.length : Int) := fun v hv => by
    unfold okT at h4
    have := List.all_eq_true.1 h4 v hv
    simpa using this
  obtain ⟨a1, a2⟩ := lkey_lnV s p0 (hpv _ (by simp)) [78, 65, 77, 69] name (by rw [g0]; rfl) (by decide) n0 (fun c hc => (nam_nb c (n2 c hc)).1)
  obtain ⟨b1, b2⟩ := lkey_lnV s p1 (hpv _ (by simp)) [84, 89, 80, 69] [84, 79, 85, 82] (by rw [g1]; rfl) (by decide) (by simp) (by decide)
  obtain ⟨c1, c2⟩ := lkey_lnV s p2 (hpv _ (by simp)) [68, 73, 77, 69, 78, 83, 73, 79, 78] (Lib.itoa r.length) (by rw [g2]; rfl) (by decide) (itoa_ne _) (itoa_nb _)
  have k0 : (keyB ((0 : Nat) : Int)).toList = [78, 65, 77, 69] := by rw [ByteArray.toList_eq]; rfl
  have k1 : (keyB ((1 : Nat) : Int)).toList = [84, 89, 80, 69] := by rw [ByteArray.toList_eq]; rfl
  have k2 : (keyB ((2 : Nat) : Int)).toList = [68, 73, 77, 69, 78, 83, 73, 79, 78] := by rw [ByteArray.toList_eq]; rfl
  have hd : dimS (lval s (lnV p2)) = (r.length : Int) := by
    unfold dimS
    rw [c2, int_itoa _ (by omega) (by omega)]
    simp only [if_true]
    rw [if_neg (by omega), if_neg (by omega)]
  have hf2 : fitS ((2 : Nat) : Int) (lval s (lnV p2)) = ((r.length : Int), true) := by
    unfold fitS
    rw [if_neg (by decide), if_neg (by decide), hd]
    congr 1
    simp; omega
  unfold tourP
  rw [show headP s (rowsL s.data.toList) 0 = headP s (rowsL s.data.toList) ((0 : Nat) : Int) from rfl, headP_ok s _ 0 _ (lnV p0) (by rw [hL]; rfl) (by rw [a1, k0]) (by show allS namB (lval s (lnV p0)).data.toList = true; rw [a2]; exact h1)]
  rw [show headP s (rowsL s.data.toList) 1 = headP s (rowsL s.data.toList) ((1 : Nat) : Int) from rfl, headP_ok s _ 1 _ (lnV p1) (by rw [hL]; rfl) (by rw [b1, k1]) (by show ((lval s (lnV p1)).toList == ([84, 79, 85, 82] : List UInt8)) = true; rw [ByteArray.toList_eq, b2]; rfl)]
  rw [show headP s (rowsL s.data.toList) 2 = headP s (rowsL s.data.toList) ((2 : Nat) : Int) from rfl, headP_ok s _ 2 _ (lnV p2) (by rw [hL]; rfl) (by rw [c1, k2]) (by rw [hf2]), hf2]
  simp only
  have hdrop : (shR s.data.toList 0).drop 3 = rowV p3 :: (V.map rowV ++ [rowV q0, rowV q1]) := by
    rw [hS]
    simp
  unfold tailP stopsS contS
  rw [hdrop, tlS_zz, titD_ok s p3 (hpv _ (by simp)) sectS (by rw [g3]; exact splitG_one _ (by decide) (by simp))]
  simp only [if_true, List.tail_cons]
  rw [loop_ok s r.length h3 _ r V [] (fun p hp => hpv p (by simp [hp])) hV (by simp) hok]
  unfold endS
  simp only [if_true]
  rw [tlS_zz, titD_ok s q0 (hpv _ (by simp)) _ (by rw [z0]; exact splitG_one _ (by decide) (by simp))]
  simp only [List.tail_cons, ne_eq, reduceCtorEq, not_false_eq_true, and_self, if_true, tlS_zz]
  rw [titD_ok s q1 (hpv _ (by simp)) _ (by rw [z1]; exact splitG_one _ (by decide) (by simp))]
  unfold fin1
  simp
end Go.Proofs.YtadocbfchdendaaGreatDoor.Cu
namespace Go.Proofs.YtadocbfchdendaaGreatDoor.Cu
open Go.RowKit Go.Lib Go.Proofs.YtadocbfchdendaaGreatDoorW.PrintWords Go.Proofs.YtadocbfchdendaaGreatDoorW.PrintLast Go.Proofs.YtadocbfchdendaaGreatDoorW.PrintMore Go.Proofs.YtadocbfchdendaaGreatDoor.P Go.Proofs.YtadocbfchdendaaGreatDoor.Sp
set_option linter.unusedSimpArgs false
def dbl (l : List UInt8) : List UInt8 := l.flatMap fun c => if c = 10 then [10, 9, 13, 10] else [c]
theorem dbl_no (x : List UInt8) (h : ∀ c ∈ x, c ≠ 10) : dbl x = x := by
  induction x with
  | nil => rfl
  | cons c x ih =>
    have h1 := ih (fun d hd => h d (List.mem_cons_of_mem _ hd))
    unfold dbl at h1 ⊢
    rw [List.flatMap_cons, h1, if_neg (h c List.mem_cons_self)]
    rfl
theorem dbl_lnT (ls : List (List UInt8)) (h : ∀ x ∈ ls, ∀ c ∈ x, c ≠ 10) : dbl (lnT ls) = lnT (ls.flatMap fun x => [x, [9, 13]]) := by
  induction ls with
  | nil => rfl
  | cons x ls ih =>
    have e : dbl (x ++ 10 :: lnT ls) = dbl x ++ ([10, 9, 13, 10] ++ dbl (lnT ls)) := by simp [dbl]
    rw [lnT_cons, e, dbl_no x (h x List.mem_cons_self), ih (fun y hy => h y (List.mem_cons_of_mem _ hy))]
    simp [lnT]
theorem rowsV_dbl (ls : List (List UInt8)) (h1 : ∀ x ∈ ls, body x = x) (h2 : ∀ x ∈ ls, x.all blankC = false) : ∀ a, (rowsV a (ls.flatMap fun x => [x, [9, 13]])).map (fun p => p.2.1) = ls := by
  induction ls with
  | nil => intro a; rfl
  | cons x ls ih =>
    intro a
    have h := ih (fun y hy => h1 y (List.mem_cons_of_mem _ hy)) (fun y hy => h2 y (List.mem_cons_of_mem _ hy)) (a + x.length + 1 + 2 + 1)
    unfold rowsV at h ⊢
    rw [List.flatMap_cons, List.cons_append, List.cons_append, List.nil_append, linesV, linesV, List.filter_cons, List.filter_cons, h1 x List.mem_cons_self, h2 x List.mem_cons_self]
    show x :: List.map _ _ = _
    have : (List.all (body [9, 13]) blankC) = true := by decide
    rw [this]
    show x :: List.map _ (List.filter _ (linesV (a + x.length + 1 + 2 + 1) _)) = _
    rw [h]
theorem tl_ok (name : List UInt8) (hn : ∀ c ∈ name, okC c) (n : Nat) (r : List Int) : ∀ x ∈ hdT name n ++ stT r ++ ftT, (∀ c ∈ x, okC c) ∧ x.all blankC = false := by
  have hlit : ∀ (a b : List UInt8), (∀ c ∈ a, c ≠ 10 ∧ c ≠ 13) → (∀ c ∈ b, okC c) → ∀ c ∈ a ++ b, okC c := fun a b h1 h2 c hc => by
    rcases List.mem_append.1 hc with h | h
    · exact h1 c h
    · exact h2 c h
  intro x hx
  simp only [hdT, ftT, stT, List.mem_append, List.mem_cons, List.not_mem_nil, or_false, List.mem_map] at hx
  rcases hx with ((rfl | rfl | rfl | rfl) | ⟨v, _, rfl⟩) | rfl | rfl
  · exact ⟨hlit _ _ (by decide) hn, rfl⟩
  · exact ⟨fun c hc => (show ∀ c ∈ ([84, 89, 80, 69, 32, 58, 32, 84, 79, 85, 82] : List UInt8), c ≠ 10 ∧ c ≠ 13 by decide) c hc, rfl⟩
  · exact ⟨hlit _ _ (by decide) (itoa_okC _), rfl⟩
  · exact ⟨fun c hc => (show ∀ c ∈ ([84, 79, 85, 82, 95, 83, 69, 67, 84, 73, 79, 78] : List UInt8), c ≠ 10 ∧ c ≠ 13 by decide) c hc, rfl⟩
  · refine ⟨itoa_okC _, ?_⟩
    have h1 := itoa_nb (v + 1)
    cases hI : Lib.itoa (v + 1) with
    | nil => exact absurd hI (itoa_ne _)
    | cons c t => rw [List.all_cons, h1 c (by rw [hI]; exact List.mem_cons_self)]; rfl
  · exact ⟨fun c hc => (show ∀ c ∈ ([45, 49] : List UInt8), c ≠ 10 ∧ c ≠ 13 by decide) c hc, rfl⟩
  · exact ⟨fun c hc => (show ∀ c ∈ ([69, 79, 70] : List UInt8), c ≠ 10 ∧ c ≠ 13 by decide) c hc, rfl⟩
theorem tl_len (name : List UInt8) (hn : name.length ≤ 40) (n : Nat) (hn2 : n ≤ 400) (r : List Int) (hr : ∀ v ∈ r, 0 ≤ v ∧ v < 400) : ∀ x ∈ hdT name n ++ stT r ++ ftT, x.length ≤ 60 := by
  intro x hx
  simp only [hdT, ftT, stT, List.mem_append, List.mem_cons, List.not_mem_nil, or_false, List.mem_map] at hx
  rcases hx with ((rfl | rfl | rfl | rfl) | ⟨v, hv, rfl⟩) | rfl | rfl
  · simp; omega
  · simp
  · have := itoa_length_le (n : Int) (by omega) (by omega); simp; omega
  · simp
  · have h := hr v hv
    have := itoa_length_le (v + 1) (by omega) (by omega); omega
  · simp
  · simp
theorem extract_one (s : ByteArray) (i : Nat) (c : UInt8) (hc : s.data.toList[i]? = some c) : s.extract i (i + 1) = ⟨#[c]⟩ := by
  rw [seg_data, drop_cons' _ i c hc, show i + 1 - i = 1 by omega]
  rfl
theorem back_l (r : List Int) (hr : r.length ≤ 1000) (s : ByteArray) (hs : s.size ≤ 100000) (d : Nat) : ∀ (i k : Nat) (acc : List UInt8), i + d = s.size → acc.length ≤ 4 * i → d + 2000 < k →
    tour_ParseTour.f ⟨(acc ++ dbl (s.data.toList.drop i)).toArray⟩ = some ([r], 0, 0) → entrepotlaw16_TourBack.l0 k r s ⟨acc.toArray⟩ i [r] 0 0 = some true := by
  induction d with
  | zero =>
    intro i k acc hi ha hk hT
    obtain ⟨k, rfl, hk⟩ := succ' hk
    rw [List.drop_of_length_le (by show s.size ≤ i; omega), show dbl [] = [] from rfl, List.append_nil] at hT
    rw [entrepotlaw16_TourBack.l0, if_neg (by omega), hT]
    have hI := Ints_same r (by omega) k (by omega)
    simp only [Option.bind_some]
    rw [if_pos (by decide), if_pos (by decide), if_pos (by rfl), if_pos (by rfl), if_pos (by simp), show rd_L14 [r] 0 = r from rfl, hI]
    simp
  | succ d ih =>
    intro i k acc hi ha hk hT
    obtain ⟨k, rfl, hk⟩ := succ' hk
    obtain ⟨c, hc⟩ := get_data s i (by omega)
    have e1 : wrap64 ((i : Int) + 1) = ((i + 1 : Nat) : Int) := by rw [w64' (by omega) (by omega)]; omega
    have e2 : s.extract (i : Int).toNat (((i + 1 : Nat)) : Int).toNat = ⟨([c] : List UInt8).toArray⟩ := extract_one s i c hc
    rw [entrepotlaw16_TourBack.l0, e1, e2, if_pos (by omega), if_pos (by omega), if_pos (by omega), if_pos (by omega), ba_app, if_pos (by rw [ba_size, ba_size]; simp; omega), bt_data s i c hc]
    rw [drop_cons' _ i c hc] at hT
    by_cases h10 : c = 10
    · subst h10
      rw [if_pos (by rfl), if_pos (by rw [ba_size]; simp; omega), show (⟨#[9, 13, 10]⟩ : ByteArray) = ⟨([9, 13, 10] : List UInt8).toArray⟩ from rfl, ba_app]
      refine ih (i + 1) k _ (by omega) (by simp; omega) (by omega) ?_
      rw [← hT]
      congr 2
      simp [dbl]
    · have hne : ¬ ((c.toNat : Int) = 10) := fun h => h10 ((nat_eq (n := 10) (by decide)).1 h)
      rw [if_neg hne]
      refine ih (i + 1) k _ (by omega) (by simp; omega) (by omega) ?_
      rw [← hT]
      congr 2
      simp [dbl, h10]
end Go.Proofs.YtadocbfchdendaaGreatDoor.Cu
namespace Go.Proofs.YtadocbfchdendaaGreatDoor.Pure
open Go.RowKit Go.Lib Go.Proofs.YtadocbfchdendaaGreatDoor.P Go.Proofs.YtadocbfchdendaaGreatDoor.Cu
theorem TourBack : entrepotlaw16_TourBack.Pure := by
  intro name r _ _
  refine ⟨1000000, ?_⟩
  obtain ⟨K, hK⟩ : ∃ K, (1000000 : Nat) = K + 1 := ⟨999999, rfl⟩
  rw [hK]
  have hK2 : 900000 < K := by omega
  clear hK
  have hno : entrepotlaw16_TourBack.j0 (K + 1) name r true = some true := by
    rw [entrepotlaw16_TourBack.j0, if_pos rfl, up16 K (by omega)]
    rfl
  unfold entrepotlaw16_TourBack.f
  by_cases h1 : (name.size : Int) > 100
  · rw [if_pos h1]; exact hno
  · rw [if_neg h1]
    by_cases h2 : (r.length : Int) > 450
    · rw [if_pos h2]; exact hno
    · rw [if_neg h2, up16 (K + 1) (by omega)]
      simp only [Option.bind_some, Bool.not_true]
      rw [entrepotlaw16_TourBack.j0, if_neg (by decide), ptour_eq name (by omega) [r] K (by omega)]
      simp only [Option.bind_some]
      unfold prT
      simp only
      by_cases h3 : allS namB name.data.toList = true ∧ 1 ≤ r.length ∧ r.length ≤ 400 ∧ okT r.length r = true
      · rw [if_pos h3]
        obtain ⟨g1, g2, g3, g4⟩ := h3
        obtain ⟨n0, n1, n2⟩ := allS_mem g1
        have hok := tl_ok name.data.toList (fun c hc => (nam_nb c (n2 c hc)).2) r.length r
        have hrv : ∀ v ∈ r, 0 ≤ v ∧ v < 400 := fun v hv => by
          unfold okT at g4
          have := List.all_eq_true.1 g4 v hv
          simp at this
          omega
        have hln := tl_len name.data.toList n1 r.length g3 r hrv
        obtain ⟨LS, hLS⟩ : ∃ LS, hdT name.data.toList r.length ++ stT r ++ ftT = LS := ⟨_, rfl⟩
        have hlen : LS.length ≤ 406 := by rw [← hLS]; simp [hdT, stT, ftT]; omega
        rw [hLS] at hok hln
        have hT : tourT name.data.toList r = lnT LS := by unfold tourT; rw [hLS]
        have hb1 : ∀ x ∈ LS, body x = x := fun x hx => body_okC x (hok x hx).1
        have hb2 : ∀ x ∈ LS, x.all blankC = false := fun x hx => (hok x hx).2
        have hn10 : ∀ x ∈ LS, ∀ c ∈ x, c ≠ 10 := fun x hx c hc => ((hok x hx).1 c hc).1
        have hl1 := lnT_len LS 60 hln
        have hl1' : (lnT LS).length ≤ 406 * 61 := Nat.le_trans hl1 (Nat.mul_le_mul_right _ hlen)
        have p1 : tour_ParseTour.f ⟨(lnT LS).toArray⟩ = some ([r], 0, 0) := by
          show parseTour _ = _
          rw [parseTour_eq _ (by rw [ba_size]; omega), tour_told _ LS rfl hn10 name.data.toList r g1 g2 g3 g4 (by rw [rowsV_bodies LS hb1 hb2 0, hLS])]
        have hn10' : ∀ x ∈ (LS.flatMap fun x => [x, [9, 13]]), ∀ c ∈ x, c ≠ 10 := fun x hx c hc => by
          obtain ⟨y, hy, hxy⟩ := List.mem_flatMap.1 hx
          simp only [List.mem_cons, List.not_mem_nil, or_false] at hxy
          rcases hxy with rfl | rfl
          · exact hn10 _ hy c hc
          · exact (show ∀ c ∈ ([9, 13] : List UInt8), c ≠ 10 by decide) c hc
        have hl2 := lnT_len (LS.flatMap fun x => [x, [9, 13]]) 60 (fun x hx => by
          obtain ⟨y, hy, hxy⟩ := List.mem_flatMap.1 hx
          simp only [List.mem_cons, List.not_mem_nil, or_false] at hxy
          rcases hxy with rfl | rfl
          · exact hln _ hy
          · decide)
        have hl3 : (LS.flatMap fun x => [x, [(9 : UInt8), 13]]).length = 2 * LS.length := by
          clear hl2 hn10' p1 hl1 hl1' hn10 hb2 hb1 hT hlen hok hln hLS
          induction LS with
          | nil => rfl
          | cons x l ih => rw [List.flatMap_cons, List.length_append, ih]; simp; omega
        have hl2' : (lnT (LS.flatMap fun x => [x, [9, 13]])).length ≤ 812 * 61 := Nat.le_trans hl2 (Nat.mul_le_mul_right _ (by omega))
        have p2 : tour_ParseTour.f ⟨([] ++ dbl ((⟨(lnT LS).toArray⟩ : ByteArray).data.toList.drop 0)).toArray⟩ = some ([r], 0, 0) := by
          have e : [] ++ dbl ((⟨(lnT LS).toArray⟩ : ByteArray).data.toList.drop 0) = lnT (LS.flatMap fun x => [x, [9, 13]]) := by
            rw [List.nil_append, List.drop_zero]
            exact dbl_lnT LS hn10
          rw [e]
          show parseTour _ = _
          rw [parseTour_eq _ (by rw [ba_size]; omega), tour_told _ _ rfl hn10' name.data.toList r g1 g2 g3 g4 (by rw [rowsV_dbl LS hb1 hb2 0, hLS])]
        rw [hT, p1, toList_mk, if_neg (by rw [← hLS]; simp [hdT, lnT])]
        simp only [Option.bind_some]
        exact back_l r (by omega) ⟨(lnT LS).toArray⟩ (by rw [ba_size]; omega) _ 0 K [] (Nat.zero_add _) (by simp) (by rw [ba_size]; omega) p2
      · rw [if_neg h3, if_pos (by rw [ByteArray.toList_eq])]
end Go.Proofs.YtadocbfchdendaaGreatDoor.Pure
namespace Go.Proofs.YtadocbfchdendaaGreatDoor.Op
open Go Go.RowKit Go.Proofs.YtadocbfchdendaaGreatDoorW.PrintWords
set_option linter.unusedSimpArgs false
section
variable {H : Type} {enc : TypeId × Value → H} {P : Program} {w : World}
def Opens (enc : TypeId × Value → H) (P : Program) (w : World) {α : Type} (t : TypeId) (d : Kd α) (Q : α → Prop) : Prop :=
  d.sz = P.cellsOf t ∧ ∀ (n : Nat) (cs : List Value) x, DataW.trod enc P w 0 (fun _ => true) true n t cs = some x → ∃ v, d.K w v cs ∧ Q v
theorem opens_int {t : TypeId} {k : IntKind} (ht : P.underlying t = some (.int k)) (hc : P.cellsOf t = 1) : Opens enc P w t (Kd.int k) (fun v => (Lit.int k v).wf = true) := by
  refine ⟨hc.symm, fun n cs x h => ?_⟩
  obtain ⟨v, e, _, hw⟩ := DataW.trod_int ht h
  exact ⟨v, e, hw⟩
theorem add_assoc' (a : Addr) (i j : Nat) : (a.add i).add j = a.add (i + j) := by
  unfold Addr.add
  by_cases h1 : i = 0 <;> by_cases h2 : j = 0 <;> simp [h1, h2, Nat.add_assoc]
theorem exists_list {α : Type} (p : Nat → α → Prop) (n : Nat) (h : ∀ i, i < n → ∃ v, p i v) : ∃ l : List α, l.length = n ∧ ∀ i v, l[i]? = some v → p i v := by
  induction n with
  | zero => exact ⟨[], rfl, fun i v h => by simp at h⟩
  | succ n ih =>
    obtain ⟨l, hl, hp⟩ := ih (fun i hi => h i (by omega))
    obtain ⟨v, hv⟩ := h n (by omega)
    refine ⟨l ++ [v], by simp [hl], fun i u hu => ?_⟩
    by_cases e : i < n
    · rw [List.getElem?_append_left (by omega)] at hu
      exact hp i u hu
    · rw [List.getElem?_append_right (by omega)] at hu
      have e' : i = n := by
        have := (List.getElem?_eq_some_iff.1 hu).1
        simp at this; omega
      subst e'
      rw [hl, Nat.sub_self] at hu
      obtain rfl : v = u := by simpa using hu
      exact hv
theorem opens_slice {α : Type} {t e : TypeId} {d : Kd α} {Q : α → Prop} (ht : P.underlying t = some (.slice e)) (hc : P.cellsOf t = 1) (he : Opens enc P w e d Q) (e' : Nat) :
    Opens enc P w t (Kd.slice e' d) (fun l => l.length ≤ maxLen ∧ ∀ v ∈ l, Q v) := by
  refine ⟨hc.symm, fun n cs x h => ?_⟩
  rcases DataW.trod_slice ht h with ⟨rfl, _⟩ | ⟨a, len, cap, elems, rest, m, _, rfl, _, _, hl, hm, hn, hel, _⟩
  · refine ⟨[], ⟨none, 0, rfl, Nat.le_refl _, ?_⟩, Nat.zero_le _, by simp⟩
    exact ⟨rfl, by simp, fun h0 => absurd h0 (by simp)⟩
  · obtain ⟨l, hll, hp⟩ := exists_list (fun i v => ∃ c, w.cells? 0 (a.add (i * P.cellsOf e)) (P.cellsOf e) = some c ∧ d.K w v c ∧ Q v) len (by
      intro i hi
      have h1 := hel i hi
      obtain ⟨y, hy⟩ : ∃ y, elems[i]? = some y := ⟨_, List.getElem?_eq_getElem (by omega)⟩
      rw [hy] at h1
      obtain ⟨c, h2, h3⟩ := Option.bind_eq_some_iff.1 h1
      obtain ⟨v, h4, h5⟩ := he.2 m c y h3
      exact ⟨v, c, h2, h4, h5⟩)
    subst hll
    have hm' : l.length ≤ maxLen := Nat.le_trans hl hm
    refine ⟨l, ⟨some a, cap, rfl, hl, rfl, (by unfold maxLen at hm'; omega), fun _ => ⟨a, rfl, fun j p hj => ?_⟩⟩, hm', fun v hv => ?_⟩
    · obtain ⟨c, h2, h4, _⟩ := hp j p hj
      refine ⟨c, d.K_len h4, h4, fun i u hu => ?_⟩
      obtain ⟨_, h6, h7⟩ := World.cells?_some h2
      have hi : i < P.cellsOf e := by rw [← h6]; exact (List.getElem?_eq_some_iff.1 hu).1
      have := (h7 i hi).trans hu
      rw [he.1]
      rwa [show (a.add (j * P.cellsOf e)).add i = a.add (j * P.cellsOf e + i) from add_assoc' _ _ _] at this
    · obtain ⟨i, hi⟩ := List.mem_iff_getElem?.1 hv
      obtain ⟨_, _, _, h5⟩ := hp i v hi
      exact h5
theorem arg_slice {α : Type} {t e e' : TypeId} {d : Kd α} {Q : List α → Prop} {r : Reach} {b : Nat} {v : Value} {D : DataW H} {p : List MemPlace} (ht : P.underlying t = some (.slice e)) (ho : Opens enc P w t (Kd.slice e' d) Q)
    (hv : Value.okWide P w r b t v) (h : DataW.Trod enc P w 0 (fun _ => true) true t v D p) : ∃ A l c, v = .slice A l.length c ∧ l.length ≤ c ∧ Kd.C d w A l.length l ∧ Q l := by
  obtain ⟨a, len, cap, rfl⟩ := WideShapes.okWide_slice ht hv
  obtain ⟨n, hn⟩ := h
  obtain ⟨l, ⟨A, c, e1, hl, hC⟩, hQ⟩ := ho.2 n _ _ hn
  simp only [Value.cells] at e1
  have e2 : Value.slice a len cap = Value.slice A l.length c := by simpa using e1
  exact ⟨A, l, c, e2, hl, hC, hQ⟩
end
theorem F_arg {k : IntKind} {W : World} {A : Option Addr} {n : Nat} {xs : List Int} (h : Kd.C (Kd.int k) W A n xs) : Kd.F (Kd.int k) W (fun _ => True) A n xs := fun W' hW => by
  refine ⟨h.1, h.2.1, fun hn => ?_⟩
  obtain ⟨ad, e, hc⟩ := h.2.2 hn
  refine ⟨ad, e, fun j p hj => ?_⟩
  obtain ⟨c, c1, c2, c3⟩ := hc j p hj
  refine ⟨c, c1, c2, fun i u hu => ?_⟩
  have h1 := c3 i u hu
  have h2 := hW (ad.add (j * (Kd.int k).sz + i)).block trivial (World.block_lt_of_cell? _ _ h1)
  unfold World.cell? at h1 ⊢
  rw [h2]
  exact h1
end Go.Proofs.YtadocbfchdendaaGreatDoor.Op
namespace Go.Proofs.YtadocbfchdendaaGreatDoor.lawTourBack
open Go Go.ChangeShapes Go.WideShapes Go.ChangeAt Go.RowKit
open Go.ChangeMaps (open_string shut_string)
open Go.Proofs.YtadocbfchdendaaGreatDoorW.PrintWords Go.Proofs.YtadocbfchdendaaGreatDoor.P
set_option linter.unusedVariables false
set_option linter.unusedSimpArgs false
theorem own : ownKnob Tryz.prog.godebug = none := by kernel_rfl
theorem laidOut : laidOutB Tryz.prog = true := by kernel_rfl
theorem tabs {W : World} (h : laidMetH Tryz.prog [("math/bits.deBruijn32tab", Rows.laid_math_bits_deBruijn32tab), ("math/bits.deBruijn64tab", Rows.laid_math_bits_deBruijn64tab), ("internal/strconv.uint64pow10", Rows.laid_internal_strconv_uint64pow10), ("unicode/utf8.acceptRanges", Rows.laid_unicode_utf8_acceptRanges), ("strconv.ErrRange", Rows.laid_strconv_ErrRange), ("strconv.ErrSyntax", Rows.laid_strconv_ErrSyntax), ("unicode/utf8.first", Rows.laid_unicode_utf8_first)] W) : Tabs W := by
  rw [MakeChecks.laidMetH_plain _ _ _ (by kernel_rfl)] at h
  have h := h.tail
  have h := h.tail
  exact Lib.tabBelow_of_tabIs (Lib.tabIs_of_head (k := .u64) (zs := Lib.pow10Tab) (g := 1) (t := 213) (e := 119) (n := 20) (by kernel_rfl) (by kernel_rfl) Tryz.underlying213 Tryz.underlying119 (by kernel_rfl) (by kernel_rfl) h)
set_option maxRecDepth 100000 in
theorem lifted (os : Os) (started : os.Started) (H : Type) (enc : TypeId × Value → H) :
    ReturnsInHanded {} Tryz.checked os 9 .any (fun w args => (Rows.tourBackSpec.pre enc Tryz.prog Tryz.f9 [] false w args ∧ laidMetH Tryz.prog [("math/bits.deBruijn32tab", Rows.laid_math_bits_deBruijn32tab), ("math/bits.deBruijn64tab", Rows.laid_math_bits_deBruijn64tab), ("internal/strconv.uint64pow10", Rows.laid_internal_strconv_uint64pow10), ("unicode/utf8.acceptRanges", Rows.laid_unicode_utf8_acceptRanges), ("strconv.ErrRange", Rows.laid_strconv_ErrRange), ("strconv.ErrSyntax", Rows.laid_strconv_ErrSyntax), ("unicode/utf8.first", Rows.laid_unicode_utf8_first)] w) ∧ sizedMet enc Tryz.prog Tryz.f9 (OpenSpec.ofChange Rows.tourBackSpec) false w args)
      (Rows.tourBackSpec.post enc Tryz.prog Tryz.f9 false true false false) := by
  refine returnsInHanded_of_change_and (C := Tryz.checked) (X := fun w _ => laidMetH Tryz.prog [("math/bits.deBruijn32tab", Rows.laid_math_bits_deBruijn32tab), ("math/bits.deBruijn64tab", Rows.laid_math_bits_deBruijn64tab), ("internal/strconv.uint64pow10", Rows.laid_internal_strconv_uint64pow10), ("unicode/utf8.acceptRanges", Rows.laid_unicode_utf8_acceptRanges), ("strconv.ErrRange", Rows.laid_strconv_ErrRange), ("strconv.ErrSyntax", Rows.laid_strconv_ErrSyntax), ("unicode/utf8.first", Rows.laid_unicode_utf8_first)] w) (fun _ _ _ hh h => h.of_heap hh) own started (by kernel_rfl) Tryz.func9
    (ChangeSpec.witness_shaped (enc := enc) (C := Tryz.checked) (os := os) (X := fun w _ => laidMetH Tryz.prog [("math/bits.deBruijn32tab", Rows.laid_math_bits_deBruijn32tab), ("math/bits.deBruijn64tab", Rows.laid_math_bits_deBruijn64tab), ("internal/strconv.uint64pow10", Rows.laid_internal_strconv_uint64pow10), ("unicode/utf8.acceptRanges", Rows.laid_unicode_utf8_acceptRanges), ("strconv.ErrRange", Rows.laid_strconv_ErrRange), ("strconv.ErrSyntax", Rows.laid_strconv_ErrSyntax), ("unicode/utf8.first", Rows.laid_unicode_utf8_first)] w) false (World.laidAll Tryz.prog os [("math/bits.deBruijn32tab", Rows.laid_math_bits_deBruijn32tab), ("math/bits.deBruijn64tab", Rows.laid_math_bits_deBruijn64tab), ("internal/strconv.uint64pow10", Rows.laid_internal_strconv_uint64pow10), ("unicode/utf8.acceptRanges", Rows.laid_unicode_utf8_acceptRanges), ("strconv.ErrRange", Rows.laid_strconv_ErrRange), ("strconv.ErrSyntax", Rows.laid_strconv_ErrSyntax), ("unicode/utf8.first", Rows.laid_unicode_utf8_first)]) #[.string ByteArray.empty, .slice none 0 0] 8 (World.laidAll_os _ _ _) (World.shaped_of_ZipB (by kernel_rfl) (by kernel_rfl)) (by kernel_rfl) (by kernel_rfl) (by kernel_rfl) (by rw [MakeChecks.laidMetH_plain _ _ _ (by kernel_rfl)]; exact laidMet_laidAll _ (by kernel_rfl) (by kernel_rfl))) ?_
  intro W base args ds gs before hval0 hW _ hsz0 hL _
  have hsz : (DataW.weightsEach Tryz.prog (Tryz.f9.params.toList ++ Rows.tourBackSpec.plain.varTypes Tryz.prog) (ds ++ gs)).all (· ≤ reachBytes) = true := hsz0
  have hval : ∀ (j : Nat) t v, Tryz.f9.params[j]? = some t → args[j]? = some v → Value.okWide Tryz.prog W .any base t v := hval0
  have hW' := hW
  obtain ⟨p, q, hA0, hV, rfl, hfz, hnd⟩ := hW
  have hA : DataW.TrodAll enc Tryz.prog W 0 (fun _ => true) true Tryz.f9.params.toList args.toList ds p := hA0
  rw [Tryz.params9] at hA hval hsz
  obtain ⟨v0, vs0, d0, ds0, p0, q0, hargs, rfl, rfl, h0, r0⟩ := trodAll_cons hA
  obtain ⟨v1, vs1, d1, ds1, p1, q1, rfl, rfl, rfl, h1, r1⟩ := trodAll_cons r0
  obtain ⟨rfl, rfl, rfl⟩ := trodAll_nil r1
  obtain rfl : args = #[v0, v1] := by cases args; simp_all
  obtain ⟨rfl, rfl⟩ := trodVars_none hV
  have k0 := h0
  have lt0 : ∀ x ∈ p0, x.block < W.heap.size := by obtain ⟨m, hm⟩ := k0; exact DataW.trod_lt m _ _ _ hm
  obtain ⟨a0, rfl, rfl, rfl, y0⟩ := open_string Tryz.underlying9 (hval 0 9 v0 rfl rfl) h0
  have wa0 : a0.size ≤ 140737488351232 := by
    have z := sized_string hsz (j := 0) (t := 9) rfl rfl
    rw [Array.length_toList] at z
    exact z
  have k1 := h1
  have lt1 : ∀ x ∈ p1, x.block < W.heap.size := by obtain ⟨m, hm⟩ := k1; exact DataW.trod_lt m _ _ _ hm
  obtain ⟨A1, a1, c1, rfl, hc1, hr1, wa1⟩ := Op.arg_slice (Q := fun (l : List (Int)) => (l.length ≤ maxLen ∧ ∀ v0 ∈ l, (Lit.int .i64 v0).wf = true)) Tryz.underlying38 ((Op.opens_slice Tryz.underlying38 (by kernel_rfl) (Op.opens_int Tryz.underlying3 (by kernel_rfl)) 3) : Op.Opens enc Tryz.prog W 38 (Kd.slice 3 (Kd.int .i64)) _) (hval 1 38 v1 rfl rfl) h1
  clear hA0 hval0 hsz0 hsz
  obtain ⟨k, hk⟩ := Pure.TourBack a0 a1 wa0 wa1
  refine (P.entrepotlaw16_TourBack.calls k a0 (fun _ => True) A1 c1 a1 true W (Kd.V_mk hc1 (Op.F_arg hr1)) (tabs hL) hk).mono fun e W' hp => ?_
  obtain ⟨he, hb⟩ := hp
  subst he
  have bel : Below W.heap.size W W' := hb
  exact ⟨_, rfl, _, _, _, [], _, [], hW', trodAll_mk1 (shut_bool Tryz.underlying4 _), trodAll_cons_mk (Below.trod laidOut (by kernel_rfl) (of_decide_eq_true (by kernel_rfl)) k0 bel lt0) (trodAll_cons_mk (Below.trod laidOut (by kernel_rfl) (of_decide_eq_true (by kernel_rfl)) k1 bel lt1) trodAll_mk0), rfl, bel.frame _, fun h => by cases h⟩
theorem over : Rows.tourBackRow.holds Tryz.pinned (OpenSpec.ofChange Rows.tourBackSpec) :=
  OpenClaim.holds_of_wide 9 Tryz.f9 rfl rfl rfl rfl rfl rfl rfl ⟨rfl, rfl, rfl, rfl, rfl⟩ rfl rfl rfl rfl rfl (by kernel_rfl) Tryz.func9 (by kernel_rfl)
    (of_decide_eq_true (by kernel_rfl)) (by unfold Func.isWrapper; first | (rw [if_pos (by decide +kernel)]; kernel_rfl) | (rw [if_neg (by decide +kernel)]; exact ⟨rfl, rfl⟩))
    (fun os started H enc _ => lifted os started H enc)
theorem card_holds : Rows.TourBackCardSaid :=
  Claim7.holds_tied_plain_at .later [] [.data, .data, .data, .data, .sentinel, .sentinel, .pinned] true (true, "50ff171a6ebaa1dc44acd7db4d9128ea4c6fd5289ca809cb7593c385ab16d17b") true
    over (fun _ h => by cases h) (by kernel_rfl) (fun _ h => by cases h) tourBack_row_tie rfl ⟨rfl, rfl⟩ (by kernel_rfl) rfl
    (fun f fn hf hfn => by
      obtain rfl : f = 9 := Option.some.inj ((show Tryz.prog.funcNamed "entrepot/entrepotlaw16.TourBack" = some 9 by kernel_rfl).symm.trans hf) |>.symm
      obtain rfl : fn = Tryz.f9 := (Option.some.inj (Tryz.func9.symm.trans hfn)).symm
      exact ⟨by kernel_rfl, fun j t ht => by
        rw [Tryz.params9] at ht
        have hm : t ∈ [9, 38] := by simpa using Array.mem_of_getElem? ht
        have hall : ([9, 38].all fun u => !Tryz.prog.wantsStandIn u) = true := by kernel_rfl
        exact (show Tryz.prog.wantsStandIn t = false by simpa using List.all_eq_true.1 hall t hm)⟩)
    (by kernel_rfl)
#print axioms card_holds
end Go.Proofs.YtadocbfchdendaaGreatDoor.lawTourBack
namespace Go.Proofs.YtadocbfchdendaaGreatDoor
theorem lawTourBack_holds : Rows.TourBackCardSaid := lawTourBack.card_holds
end Go.Proofs.YtadocbfchdendaaGreatDoor
