/- TourEither holds for every input: the law returns true, and its arguments read as they read. Its condition: the library's tables and errors that the row lists lie as the program's text lays them (the card ties this). -/
import Derived.Test.YtadocbfchdendaaGreatDoorMTourEitherA
import Derived.Test.YtadocbfchdendaaGreatDoorMTourEitherB
import Derived.Test.YtadocbfchdendaaGreatDoorMTourEitherC
import Derived.Lib.IndexLaws
import Derived.Lib.ItoaLen
import Derived.Test.YtadocbfchdendaaGreatDoorRows
import Derived.Test.YtadocbfchdendaaGreatDoorCards
import Derived.Test.YtadocbfchdendaaGreatDoorTie
import Derived.WalkKit
import Derived.ProofKit
import Derived.OpenShut
import Derived.ShutString
import Derived.ChangeOld
import Derived.Below
import Derived.SizedLaws
import Derived.LaidMore
import Derived.Lay
import Derived.SevenTiedAt
import Derived.Lib.SmallJoins
import Derived.Stop.LaidErr
import Derived.Lib.LaidTab
import Derived.Carry
import Derived.Stop.Joined
set_option linter.unusedVariables false
set_option linter.unusedSimpArgs false
namespace Go.Proofs.YtadocbfchdendaaGreatDoor.P
open Go.RowKit Go.Proofs.YtadocbfchdendaaGreatDoorW.PrintWords Go.Proofs.YtadocbfchdendaaGreatDoorW.PrintLast Go.Proofs.YtadocbfchdendaaGreatDoorW.PrintMore
attribute [local go_sem] max2_int min2_int max_two min_two max_three min_three max_four min_four
set_option linter.unusedVariables false
set_option linter.unusedSimpArgs false
attribute [local go_sem high] eqA41
def entrepotlaw16_shown.f (k : Nat)  : Option (Bool) := (tour_PrintTour.f k (⟨#[116]⟩ : ByteArray) (([(([1, 0] : List Int))] : List (List Int)))).bind fun t107 => ((tour_ParseTour.f t107).bind fun bt108 => ((tour_ParseRoutes.f (⟨#[82, 111, 117, 116, 101, 32, 35, 49, 58, 32, 51, 32, 49, 10, 82, 111, 117, 116, 101, 32, 50, 32, 58, 10, 67, 111, 115, 116, 32, 50, 48, 10]⟩ : ByteArray)).bind fun bt115 => ((tour_ParseRoutes.f (⟨#[82, 111, 117, 116, 101, 32, 35, 50, 58, 32, 51, 10]⟩ : ByteArray)).bind fun bt123 => (if t107.toList = ([78, 65, 77, 69, 32, 58, 32, 116, 10, 84, 89, 80, 69, 32, 58, 32, 84, 79, 85, 82, 10, 68, 73, 77, 69, 78, 83, 73, 79, 78, 32, 58, 32, 50, 10, 84, 79, 85, 82, 95, 83, 69, 67, 84, 73, 79, 78, 10, 50, 10, 49, 10, 45, 49, 10, 69, 79, 70, 10] : List UInt8) then (if (bt108.1.length : Int) = 1 then (if 0 < (bt108.1.length : Int) then (if ((rd_L14 bt108.1 0).length : Int) = 2 then (if 0 < ((rd_L14 bt108.1 0).length : Int) then (if (rd (rd_L14 bt108.1 0) 0) = 1 then (if (bt108.2.1 == 0 && (bt108.2.2 == 0)) = true then (if (bt115.1.length : Int) = 2 then (if 0 < (bt115.1.length : Int) then (if ((rd_L14 bt115.1 0).length : Int) = 2 then (if bt115.2.1 = 20 then (if (bt115.2.2.1 == 0 && (bt115.2.2.2 == 0)) = true then (some (bt123.2.2.1 == 0 && (bt123.2.2.2 == 3))) else (none)) else (none)) else (none)) else (none)) else (none)) else (none)) else (none)) else (none)) else (none)) else (none)) else (none)) else (none)))))
theorem entrepotlaw16_shown.mono : ∀ k, LeO (entrepotlaw16_shown.f k ) (entrepotlaw16_shown.f (k + 1) ) := by
 intro  k
 unfold entrepotlaw16_shown.f
 repeat' first
   | (with_reducible exact tour_PrintTour.mono _ _ _)
   | (with_reducible exact LeO.refl _)
   | (with_reducible exact LeO.none _)
   | (with_reducible refine LeO.ite ?_ ?_)
   | (with_reducible refine LeO.bind ?_ (fun _ => ?_))
   | exact tour_PrintTour.mono _ _ _
   | exact LeO.none _
   | refine LeO.ite ?_ ?_
   | refine LeO.bind ?_ (fun _ => ?_)
set_option maxHeartbeats 8000000 in
set_option maxRecDepth 100000 in
theorem entrepotlaw16_shown.calls (k : Nat)  (r : Bool) (w : World) (hT : Tabs w) (h : entrepotlaw16_shown.f k  = some r) :
  Calls Tryz.prog 33 #[] w fun e w' => e = .returned (.bool r) ∧ Below w.heap.size w w' := by
 have hu70 := Tryz.underlying70; have hu41 := Tryz.underlying41; have HT0 := Aside0.mk hT; clear hT; have HB := Aside0.mk (Below.refl w.heap.size w); have H : ((tour_PrintTour.f k (⟨#[116]⟩ : ByteArray) (([(([1, 0] : List Int))] : List (List Int)))).bind fun t107 => ((tour_ParseTour.f t107).bind fun bt108 => ((tour_ParseRoutes.f (⟨#[82, 111, 117, 116, 101, 32, 35, 49, 58, 32, 51, 32, 49, 10, 82, 111, 117, 116, 101, 32, 50, 32, 58, 10, 67, 111, 115, 116, 32, 50, 48, 10]⟩ : ByteArray)).bind fun bt115 => ((tour_ParseRoutes.f (⟨#[82, 111, 117, 116, 101, 32, 35, 50, 58, 32, 51, 10]⟩ : ByteArray)).bind fun bt123 => (if t107.toList = ([78, 65, 77, 69, 32, 58, 32, 116, 10, 84, 89, 80, 69, 32, 58, 32, 84, 79, 85, 82, 10, 68, 73, 77, 69, 78, 83, 73, 79, 78, 32, 58, 32, 50, 10, 84, 79, 85, 82, 95, 83, 69, 67, 84, 73, 79, 78, 10, 50, 10, 49, 10, 45, 49, 10, 69, 79, 70, 10] : List UInt8) then (if (bt108.1.length : Int) = 1 then (if 0 < (bt108.1.length : Int) then (if ((rd_L14 bt108.1 0).length : Int) = 2 then (if 0 < ((rd_L14 bt108.1 0).length : Int) then (if (rd (rd_L14 bt108.1 0) 0) = 1 then (if (bt108.2.1 == 0 && (bt108.2.2 == 0)) = true then (if (bt115.1.length : Int) = 2 then (if 0 < (bt115.1.length : Int) then (if ((rd_L14 bt115.1 0).length : Int) = 2 then (if bt115.2.1 = 20 then (if (bt115.2.2.1 == 0 && (bt115.2.2.2 == 0)) = true then (some (bt123.2.2.1 == 0 && (bt123.2.2.2 == 3))) else (none)) else (none)) else (none)) else (none)) else (none)) else (none)) else (none)) else (none)) else (none)) else (none)) else (none)) else (none)))))) = some r := h; clear h; obtain ⟨y101, hy101⟩ : ∃ y_ : List Int, y_ = (([1, 0] : List Int)) := ⟨_, rfl⟩; replace H : ((tour_PrintTour.f k (⟨#[116]⟩ : ByteArray) (([y101] : List (List Int)))).bind fun t107 => ((tour_ParseTour.f t107).bind fun bt108 => ((tour_ParseRoutes.f (⟨#[82, 111, 117, 116, 101, 32, 35, 49, 58, 32, 51, 32, 49, 10, 82, 111, 117, 116, 101, 32, 50, 32, 58, 10, 67, 111, 115, 116, 32, 50, 48, 10]⟩ : ByteArray)).bind fun bt115 => ((tour_ParseRoutes.f (⟨#[82, 111, 117, 116, 101, 32, 35, 50, 58, 32, 51, 10]⟩ : ByteArray)).bind fun bt123 => (if t107.toList = ([78, 65, 77, 69, 32, 58, 32, 116, 10, 84, 89, 80, 69, 32, 58, 32, 84, 79, 85, 82, 10, 68, 73, 77, 69, 78, 83, 73, 79, 78, 32, 58, 32, 50, 10, 84, 79, 85, 82, 95, 83, 69, 67, 84, 73, 79, 78, 10, 50, 10, 49, 10, 45, 49, 10, 69, 79, 70, 10] : List UInt8) then (if (bt108.1.length : Int) = 1 then (if 0 < (bt108.1.length : Int) then (if ((rd_L14 bt108.1 0).length : Int) = 2 then (if 0 < ((rd_L14 bt108.1 0).length : Int) then (if (rd (rd_L14 bt108.1 0) 0) = 1 then (if (bt108.2.1 == 0 && (bt108.2.2 == 0)) = true then (if (bt115.1.length : Int) = 2 then (if 0 < (bt115.1.length : Int) then (if ((rd_L14 bt115.1 0).length : Int) = 2 then (if bt115.2.1 = 20 then (if (bt115.2.2.1 == 0 && (bt115.2.2.2 == 0)) = true then (some (bt123.2.2.1 == 0 && (bt123.2.2.2 == 3))) else (none)) else (none)) else (none)) else (none)) else (none)) else (none)) else (none)) else (none)) else (none)) else (none)) else (none)) else (none)))))) = some r := by first | (rw [hy101]; with_reducible exact H) | (have H2_ := (Option.bind_some _ _).symm.trans H; rw [hy101]; with_reducible exact H2_) | (have H2_ := (Option.bind_some _ _).symm.trans H; with_reducible exact H2_) | with_reducible exact H | (rw [hy101]; exact H) | exact H
 have Ny101 := Aside0.mk hy101; clear hy101; obtain ⟨y104, hy104⟩ : ∃ y_ : List (List Int), y_ = (([y101] : List (List Int))) := ⟨_, rfl⟩; replace H : ((tour_PrintTour.f k (⟨#[116]⟩ : ByteArray) y104).bind fun t107 => ((tour_ParseTour.f t107).bind fun bt108 => ((tour_ParseRoutes.f (⟨#[82, 111, 117, 116, 101, 32, 35, 49, 58, 32, 51, 32, 49, 10, 82, 111, 117, 116, 101, 32, 50, 32, 58, 10, 67, 111, 115, 116, 32, 50, 48, 10]⟩ : ByteArray)).bind fun bt115 => ((tour_ParseRoutes.f (⟨#[82, 111, 117, 116, 101, 32, 35, 50, 58, 32, 51, 10]⟩ : ByteArray)).bind fun bt123 => (if t107.toList = ([78, 65, 77, 69, 32, 58, 32, 116, 10, 84, 89, 80, 69, 32, 58, 32, 84, 79, 85, 82, 10, 68, 73, 77, 69, 78, 83, 73, 79, 78, 32, 58, 32, 50, 10, 84, 79, 85, 82, 95, 83, 69, 67, 84, 73, 79, 78, 10, 50, 10, 49, 10, 45, 49, 10, 69, 79, 70, 10] : List UInt8) then (if (bt108.1.length : Int) = 1 then (if 0 < (bt108.1.length : Int) then (if ((rd_L14 bt108.1 0).length : Int) = 2 then (if 0 < ((rd_L14 bt108.1 0).length : Int) then (if (rd (rd_L14 bt108.1 0) 0) = 1 then (if (bt108.2.1 == 0 && (bt108.2.2 == 0)) = true then (if (bt115.1.length : Int) = 2 then (if 0 < (bt115.1.length : Int) then (if ((rd_L14 bt115.1 0).length : Int) = 2 then (if bt115.2.1 = 20 then (if (bt115.2.2.1 == 0 && (bt115.2.2.2 == 0)) = true then (some (bt123.2.2.1 == 0 && (bt123.2.2.2 == 3))) else (none)) else (none)) else (none)) else (none)) else (none)) else (none)) else (none)) else (none)) else (none)) else (none)) else (none)) else (none)))))) = some r := by first | (rw [hy104]; with_reducible exact H) | (have H2_ := (Option.bind_some _ _).symm.trans H; rw [hy104]; with_reducible exact H2_) | (have H2_ := (Option.bind_some _ _).symm.trans H; with_reducible exact H2_) | with_reducible exact H | (rw [hy104]; exact H) | exact H
 have Ny104 := Aside0.mk hy104; clear hy104; replace H := Option.bind_eq_some_iff.mp H; obtain ⟨t107, A10, H⟩ := H; (try dsimp only at H); have A1 := Aside0.mk A10; clear A10; replace H := Option.bind_eq_some_iff.mp H; obtain ⟨⟨t108, t111, t112⟩, A20, H⟩ := H; (try dsimp only at H); have A2 := Aside0.mk A20; clear A20; replace H := Option.bind_eq_some_iff.mp H; obtain ⟨⟨t115, t118, t119, t120⟩, A30, H⟩ := H; (try dsimp only at H); have A3 := Aside0.mk A30; clear A30; replace H := Option.bind_eq_some_iff.mp H; obtain ⟨⟨t123, t126, t127, t128⟩, A40, H⟩ := H; (try dsimp only at H); have A4 := Aside0.mk A40; clear A40
 by_cases c5 : t107.toList = ([78, 65, 77, 69, 32, 58, 32, 116, 10, 84, 89, 80, 69, 32, 58, 32, 84, 79, 85, 82, 10, 68, 73, 77, 69, 78, 83, 73, 79, 78, 32, 58, 32, 50, 10, 84, 79, 85, 82, 95, 83, 69, 67, 84, 73, 79, 78, 10, 50, 10, 49, 10, 45, 49, 10, 69, 79, 70, 10] : List UInt8)
 ·rw [if_pos c5] at H; have c5b0 := beq_iff_eq.mpr c5; have c5b1 := bne_eq_false_iff_eq.mpr c5; clear c5
  by_cases c6 : (t108.length : Int) = 1
  ·rw [if_pos c6] at H; have c6b0 := beq_iff_eq.mpr c6; have c6b1 := bne_eq_false_iff_eq.mpr c6; clear c6
   by_cases c7 : 0 < (t108.length : Int)
   ·rw [if_pos c7] at H; have c7b0 := decide_eq_true c7; have c7b1 : decide (0 < t108.length) = true := decide_eq_true (by omega); clear c7
    by_cases c8 : ((rd_L14 t108 0).length : Int) = 2
    ·rw [if_pos c8] at H; have c8b0 := beq_iff_eq.mpr c8; have c8b1 := bne_eq_false_iff_eq.mpr c8; clear c8
     by_cases c9 : 0 < ((rd_L14 t108 0).length : Int)
     ·rw [if_pos c9] at H; have c9b0 := decide_eq_true c9; have c9b1 : decide (0 < (rd_L14 t108 0).length) = true := decide_eq_true (by omega); clear c9
      by_cases c10 : (rd (rd_L14 t108 0) 0) = 1
      ·rw [if_pos c10] at H; have c10b0 := beq_iff_eq.mpr c10; have c10b1 := bne_eq_false_iff_eq.mpr c10; clear c10
       by_cases c11 : (t111 == 0 && (t112 == 0)) = true
       ·rw [if_pos c11] at H; have c11b0 : (t111 == 0 && (t112 == 0)) = true := c11; (try (have c11b1 : decide (t111 = 0 && (t112 == 0)) = true := by simpa using c11)); (try (have c11b2 : (t111 == 0 && (t112 == 0)) = true := by simpa using c11)); clear c11
        by_cases c12 : (t115.length : Int) = 2
        ·rw [if_pos c12] at H; have c12b0 := beq_iff_eq.mpr c12; have c12b1 := bne_eq_false_iff_eq.mpr c12; clear c12
         by_cases c13 : 0 < (t115.length : Int)
         ·rw [if_pos c13] at H; have c13b0 := decide_eq_true c13; have c13b1 : decide (0 < t115.length) = true := decide_eq_true (by omega); clear c13
          by_cases c14 : ((rd_L14 t115 0).length : Int) = 2
          ·rw [if_pos c14] at H; have c14b0 := beq_iff_eq.mpr c14; have c14b1 := bne_eq_false_iff_eq.mpr c14; clear c14
           by_cases c15 : t118 = 20
           ·rw [if_pos c15] at H; have c15b0 := beq_iff_eq.mpr c15; have c15b1 := bne_eq_false_iff_eq.mpr c15; clear c15
            by_cases c16 : (t119 == 0 && (t120 == 0)) = true
            ·rw [if_pos c16] at H; have c16b0 : (t119 == 0 && (t120 == 0)) = true := c16; (try (have c16b1 : decide (t119 = 0 && (t120 == 0)) = true := by simpa using c16)); (try (have c16b2 : (t119 == 0 && (t120 == 0)) = true := by simpa using c16)); clear c16; obtain rfl := Option.some.inj H; go_enter Tryz.func33, Tryz.ntmps33
             go_wp2_with (first | ((with_reducible refine gate_dst (N := 10) rfl ?_); (try (refine gate_guard (by rfl) ?_; dsimp only)); refine Kd.R_lit (Kd.int .i64) _ 3 ?hg (N := 10) ?hd (xs := ([1, 0] : List Int)) (inner := [.int .i64 1, .int .i64 0]) (ok := fun _ => True) (okp := fun _ => True) ?hr ?hp (fun _ hk => hk) trivial (Below.refl _ _) (Nat.le_refl _) (by simp) ?_; (case hd => rfl); (case hg => rfl); (case hr => first | (go_simp; done) | (go_simp; rfl)); (case hp => exact (Reps.one (show Kd.M (Kd.int .i64) _ _ _ 1 [.int .i64 1] from rfl) (Reps.one (show Kd.M (Kd.int .i64) _ _ _ 0 [.int .i64 0] from rfl) (Reps.none _ _)))); intro v102 w17 ho18 hb hg_ hnew_; clear hg_ hnew_; (first | rw [← Ny101.out] at ho18 | (simp only [Int.reduceToNat] at ho18; rw [← Ny101.out] at ho18)); have HO103 := Aside0.mk (Kd.R_lower ho18 (below_size qb)); replace HB := cB HB hb; clear hb ho18; obtain ⟨Ao19, co19, eo19⟩ := Kd.R_slice HO103.out; subst eo19) | ((with_reducible refine gate_dst (N := 11) rfl ?_); (try (refine gate_guard (by rfl) ?_; dsimp only)); refine Kd.N_lit (Kd.slice 3 (Kd.int .i64)) _ 38 ?hg (N' := 11) ?hd (xs := ([y101] : List (List Int))) (inner := [.slice Ao19 y101.length co19]) (ok := (fun _ => True)) (okp := (fun _ => True)) ?hr ?hp (fun _ hk => hk) ((show ∀ k_, w17.heap.size ≤ k_ → (fun _ => True) k_ from fun k_ hk => trivial) _ (Nat.le_refl _)) (Below.refl _ _) (Nat.le_refl _) (by simp) ?_; (case hd => rfl); (case hg => rfl); (case hr => first | (go_simp; done) | (go_simp; rfl)); (case hp => exact (Reps.one (show Kd.FK (Kd.slice 3 (Kd.int .i64)) _ _ y101 [.slice Ao19 y101.length co19] from (Kd.FK_slice_mk (Kd.R_reads' (Kd.R_mono (ok' := (fun _ => True)) (HO103.out) (fun k_ hk => trivial))).2.1 (Kd.R_F (Kd.R_mono (ok' := (fun _ => True)) (HO103.out) (fun k_ hk => trivial))))) (Reps.none _ _))); intro v105 w20 ho21 hb hg_ hnew_; clear hg_ hnew_; (first | rw [← Ny104.out] at ho21 | (simp only [Int.reduceToNat] at ho21; rw [← Ny104.out] at ho21)); have HO106 := Aside0.mk (Kd.N_lower ho21 (below_size qb)); replace HB := cB HB hb; clear HO103; clear hb ho21; obtain ⟨Ao22, co22, eo22⟩ := Kd.N_slice HO106.out; subst eo22) | ((with_reducible refine gate_callee (f := 40) rfl ?_); refine goesL_ (some 13) rfl rfl Tryz.func40 (by kernel_rfl) rfl #[.string (⟨#[116]⟩ : ByteArray), .agg #[.slice Ao22 y104.length co22]] rfl qm ?_; (with_reducible refine (tour_PrintTour.calls k (⟨#[116]⟩ : ByteArray) _ _ y104 t107 _ ?side1 ?side2 (Tabs.kept HT0.out qb) A1.out).mono ?_); (case side1 => repeat (first | exact (Kd.N_reads' HO106.out).2.2 | (with_reducible refine Kd.C_alloc ?_ _) | (with_reducible refine Kd.C_drewN ?_ _) | (with_reducible refine Kd.C_drew ?_))); (case side2 => exact (Kd.N_reads' HO106.out).2.1); rintro e w23 ⟨rfl, hb⟩; refine ⟨_, rfl, ?_⟩; replace HO106 := cN HO106 hb; replace HB := cB HB hb; (try clear hb); (try clear hb2); (try clear hk); (try clear hi)) | ((with_reducible refine gate_callee (f := 34) rfl ?_); refine goesL_ (some 16) rfl rfl Tryz.func34 (by kernel_rfl) rfl #[.string t107] rfl qm ?_; (with_reducible refine (tour_ParseTour.calls t107 t108 t111 t112 _ A2.out).mono ?_); rintro e w24 ⟨v109, rfl, ho0, hb⟩; refine ⟨_, rfl, ?_⟩; have n0_ := Aside0.mk (Kd.N_elder' (qN HO106.out) (Kd.S_base ho0) hb); have HO110 := Aside0.mk (Kd.N_lower (Kd.N_mono (ok' := fun k_ => some k_ ≠ (.slice Ao22 y104.length co22 : Value).ownBlock) (Kd.S_N (Kd.S_bound ho0)) (fun k_ hk_ => (Kd.fresh' (Kd.N_lt (qN HO106.out)) k_ hk_.2.1))) (below_size qb)); replace HB := cB HB hb; replace HO106 := n0_; clear n0_; (try clear hb); (try clear hb2); (try clear hk); (try clear hi); (try clear ho0)) | ((with_reducible refine gate_dst (N := 2) rfl ?_); (try (refine gate_guard (by rfl) ?_; dsimp only)); refine box_ev (N := 2) (cs := #[.slice none 0 0]) (t := 70) ?_; intro gb113 hg w25 hbox hb; have n0_ := Aside0.mk (Kd.N_below (Kd.N_elderB (qN HO106.out) gb113 (Nat.le_of_eq hg.symm)) hb); have n1_ := Aside0.mk (Kd.N_below (Kd.N_elderB (qN HO110.out) gb113 (Nat.le_of_eq hg.symm)) hb); have BK113 := Aside0.mk (hbox); have GW113 := Aside0.mk ((qg : w.heap.size ≤ gb113)); have GE113 := Aside0.mk ((qg : w.heap.size ≤ gb113)); replace HB := cB HB hb; replace HO106 := n0_; replace HO110 := n1_; clear n0_ n1_; clear hb hbox hg) | ((with_reducible refine gate_dst (N := 3) rfl ?_); (try (refine gate_guard (by rfl) ?_; dsimp only)); refine box_ev (N := 3) (cs := #[.int .i64 0, .int .i64 0]) (t := 41) ?_; intro gb114 hg w26 hbox hb; have n0_ := Aside0.mk (Kd.N_below (Kd.N_elderB (qN HO106.out) gb114 (Nat.le_of_eq hg.symm)) hb); have n1_ := Aside0.mk (Kd.N_below (Kd.N_elderB (qN HO110.out) gb114 (Nat.le_of_eq hg.symm)) hb); have BK114 := Aside0.mk (hbox); have GW114 := Aside0.mk ((qg : w.heap.size ≤ gb114)); have GE114 := Aside0.mk ((qg : w.heap.size ≤ gb114)); have NB113_114 := Aside0.mk ((by rw [hg]; exact Nat.ne_of_lt (blk_lt (g := gb113) (o := .cells #[.slice none 0 0] 70 (0, 0)) (qk BK113.out)) : gb113 ≠ gb114)); have NB114_113 := Aside0.mk ((by rw [hg]; exact Nat.ne_of_gt (blk_lt (g := gb113) (o := .cells #[.slice none 0 0] 70 (0, 0)) (qk BK113.out)) : gb114 ≠ gb113)); replace BK113 := cK BK113 hb; replace HB := cB HB hb; replace HO106 := n0_; replace HO110 := n1_; clear n0_ n1_; clear hb hbox hg; obtain ⟨Ao27, co27, eo27⟩ := Kd.N_slice HO110.out; subst eo27; have hnb28 := NB113_114.out; have hnc28 := NB114_113.out; have hcz29_0 : w26.cell? ⟨gb113, 0, none⟩ = some (.slice none 0 0) := (blk_cell BK113.out 0).trans rfl; have hfz29_0 := blk_frozen BK113.out 0; have hcz30_0 : w26.cell? ⟨gb114, 0, none⟩ = some (.int .i64 0) := (blk_cell BK114.out 0).trans rfl; have hcz30_1 : w26.cell? ⟨gb114, 1, none⟩ = some (.int .i64 0) := (blk_cell BK114.out 1).trans rfl; have hfz30_0 := blk_frozen BK114.out 0; have hfz30_1 := blk_frozen BK114.out 1) | ((with_reducible refine gate_callee (f := 36) rfl ?_); refine goesL_ (some 20) rfl rfl Tryz.func36 (by kernel_rfl) rfl #[.string (⟨#[82, 111, 117, 116, 101, 32, 35, 49, 58, 32, 51, 32, 49, 10, 82, 111, 117, 116, 101, 32, 50, 32, 58, 10, 67, 111, 115, 116, 32, 50, 48, 10]⟩ : ByteArray)] rfl qm ?_; (with_reducible refine (tour_ParseRoutes.calls (⟨#[82, 111, 117, 116, 101, 32, 35, 49, 58, 32, 51, 32, 49, 10, 82, 111, 117, 116, 101, 32, 50, 32, 58, 10, 67, 111, 115, 116, 32, 50, 48, 10]⟩ : ByteArray) t115 t118 t119 t120 _ (Tabs.kept HT0.out qb) A3.out).mono ?_); rintro e w31 ⟨v116, rfl, ho0, hb⟩; refine ⟨_, rfl, ?_⟩; have n0_ := Aside0.mk (Kd.N_elder' (by refine qN ?_; exact (Kd.N_mono (Kd.N_mono (Kd.N_far (p := ⟨gb114, 1, none⟩) (Kd.N_far (p := ⟨gb114, 0, none⟩) (Kd.N_far (p := ⟨gb113, 0, none⟩) (Kd.N_mono (Kd.N_mono HO106.out (fun k_ hk => (⟨hk, hk.1.2⟩ : _ ∧ k_ ≠ gb113))) (fun k_ hk => (⟨hk, hk.1.2⟩ : _ ∧ k_ ≠ gb114))) (fun _ hk => hk.1.2) (.slice Ao27 t108.length co27)) (fun _ hk => hk.2) (.int .i64 t111)) (fun _ hk => hk.2) (.int .i64 t112)) (fun _ h_ => by first | exact h_.1 | exact ⟨trivial, h_.1⟩)) (fun _ h_ => by first | exact h_.1 | exact ⟨trivial, h_.1⟩))) (Kd.S_base ho0) hb); have n1_ := Aside0.mk (Kd.N_elder' (by refine qN ?_; exact (Kd.N_mono (Kd.N_mono (Kd.N_far (p := ⟨gb114, 1, none⟩) (Kd.N_far (p := ⟨gb114, 0, none⟩) (Kd.N_far (p := ⟨gb113, 0, none⟩) (Kd.N_mono (Kd.N_mono HO110.out (fun k_ hk => (⟨hk, hk.1.2⟩ : _ ∧ k_ ≠ gb113))) (fun k_ hk => (⟨hk, hk.1.2⟩ : _ ∧ k_ ≠ gb114))) (fun _ hk => hk.1.2) (.slice Ao27 t108.length co27)) (fun _ hk => hk.2) (.int .i64 t111)) (fun _ hk => hk.2) (.int .i64 t112)) (fun _ h_ => by first | exact h_.1 | exact ⟨trivial, h_.1⟩)) (fun _ h_ => by first | exact h_.1 | exact ⟨trivial, h_.1⟩))) (Kd.S_base ho0) hb); have HO117 := Aside0.mk (Kd.N_lower (Kd.N_mono (ok' := fun k_ => some k_ ≠ (.slice Ao22 y104.length co22 : Value).ownBlock ∧ some k_ ≠ (.slice Ao27 t108.length co27 : Value).ownBlock ∧ k_ ≠ gb113 ∧ k_ ≠ gb114) (Kd.S_N (Kd.S_bound ho0)) (fun k_ hk_ => ⟨(Kd.fresh' (Kd.N_lt (by refine qN ?_; exact (Kd.N_mono (Kd.N_mono (Kd.N_far (p := ⟨gb114, 1, none⟩) (Kd.N_far (p := ⟨gb114, 0, none⟩) (Kd.N_far (p := ⟨gb113, 0, none⟩) (Kd.N_mono (Kd.N_mono HO106.out (fun k_ hk => (⟨hk, hk.1.2⟩ : _ ∧ k_ ≠ gb113))) (fun k_ hk => (⟨hk, hk.1.2⟩ : _ ∧ k_ ≠ gb114))) (fun _ hk => hk.1.2) (.slice Ao27 t108.length co27)) (fun _ hk => hk.2) (.int .i64 t111)) (fun _ hk => hk.2) (.int .i64 t112)) (fun _ h_ => by first | exact h_.1 | exact ⟨trivial, h_.1⟩)) (fun _ h_ => by first | exact h_.1 | exact ⟨trivial, h_.1⟩)))) k_ hk_.2.1), (Kd.fresh' (Kd.N_lt (by refine qN ?_; exact (Kd.N_mono (Kd.N_mono (Kd.N_far (p := ⟨gb114, 1, none⟩) (Kd.N_far (p := ⟨gb114, 0, none⟩) (Kd.N_far (p := ⟨gb113, 0, none⟩) (Kd.N_mono (Kd.N_mono HO110.out (fun k_ hk => (⟨hk, hk.1.2⟩ : _ ∧ k_ ≠ gb113))) (fun k_ hk => (⟨hk, hk.1.2⟩ : _ ∧ k_ ≠ gb114))) (fun _ hk => hk.1.2) (.slice Ao27 t108.length co27)) (fun _ hk => hk.2) (.int .i64 t111)) (fun _ hk => hk.2) (.int .i64 t112)) (fun _ h_ => by first | exact h_.1 | exact ⟨trivial, h_.1⟩)) (fun _ h_ => by first | exact h_.1 | exact ⟨trivial, h_.1⟩)))) k_ hk_.2.1), (Kd.freshB (g := gb113) (o := .cells #[.slice Ao27 t108.length co27] 70 (0, 0)) (by refine qk ?_; refine blk_far ?_ NB113_114.out _; refine qk ?_; refine blk_far ?_ NB113_114.out _; refine qk ?_; refine blk_put (cs := #[.slice none 0 0]) ?_ 0 _ rfl; refine qk ?_; exact BK113.out) k_ hk_.2.1), (Kd.freshB (g := gb114) (o := .cells #[.int .i64 t111, .int .i64 t112] 41 (0, 0)) (by refine qk ?_; refine blk_put (cs := #[.int .i64 t111, .int .i64 0]) ?_ 1 _ rfl; refine qk ?_; refine blk_put (cs := #[.int .i64 0, .int .i64 0]) ?_ 0 _ rfl; refine qk ?_; refine blk_far ?_ NB114_113.out _; refine qk ?_; exact BK114.out) k_ hk_.2.1)⟩)) (below_size qb)); have n3_ := Aside0.mk (blk_below (g := gb113) (o := .cells #[.slice Ao27 t108.length co27] 70 (0, 0)) (by refine qk ?_; refine blk_far ?_ NB113_114.out _; refine qk ?_; refine blk_far ?_ NB113_114.out _; refine qk ?_; refine blk_put (cs := #[.slice none 0 0]) ?_ 0 _ rfl; refine qk ?_; exact BK113.out) hb); have n4_ := Aside0.mk (blk_below (g := gb114) (o := .cells #[.int .i64 t111, .int .i64 t112] 41 (0, 0)) (by refine qk ?_; refine blk_put (cs := #[.int .i64 t111, .int .i64 0]) ?_ 1 _ rfl; refine qk ?_; refine blk_put (cs := #[.int .i64 0, .int .i64 0]) ?_ 0 _ rfl; refine qk ?_; refine blk_far ?_ NB114_113.out _; refine qk ?_; exact BK114.out) hb); replace HB := cB HB hb; replace HO106 := n0_; replace HO110 := n1_; replace BK113 := n3_; replace BK114 := n4_; clear n0_ n1_ n3_ n4_; (try clear hb); (try clear hb2); (try clear hk); (try clear hi); (try clear ho0)) | ((with_reducible refine gate_dst (N := 4) rfl ?_); (try (refine gate_guard (by rfl) ?_; dsimp only)); refine box_ev (N := 4) (cs := #[.slice none 0 0]) (t := 70) ?_; intro gb121 hg w32 hbox hb; have n0_ := Aside0.mk (Kd.N_below (Kd.N_elderB (qN HO106.out) gb121 (Nat.le_of_eq hg.symm)) hb); have n1_ := Aside0.mk (Kd.N_below (Kd.N_elderB (qN HO110.out) gb121 (Nat.le_of_eq hg.symm)) hb); have n2_ := Aside0.mk (Kd.N_below (Kd.N_elderB (qN HO117.out) gb121 (Nat.le_of_eq hg.symm)) hb); have BK121 := Aside0.mk (hbox); have GW121 := Aside0.mk ((qg : w.heap.size ≤ gb121)); have GE121 := Aside0.mk ((qg : w.heap.size ≤ gb121)); have NB113_121 := Aside0.mk ((by rw [hg]; exact Nat.ne_of_lt (blk_lt (g := gb113) (o := .cells #[.slice Ao27 t108.length co27] 70 (0, 0)) (qk BK113.out)) : gb113 ≠ gb121)); have NB121_113 := Aside0.mk ((by rw [hg]; exact Nat.ne_of_gt (blk_lt (g := gb113) (o := .cells #[.slice Ao27 t108.length co27] 70 (0, 0)) (qk BK113.out)) : gb121 ≠ gb113)); have NB114_121 := Aside0.mk ((by rw [hg]; exact Nat.ne_of_lt (blk_lt (g := gb114) (o := .cells #[.int .i64 t111, .int .i64 t112] 41 (0, 0)) (qk BK114.out)) : gb114 ≠ gb121)); have NB121_114 := Aside0.mk ((by rw [hg]; exact Nat.ne_of_gt (blk_lt (g := gb114) (o := .cells #[.int .i64 t111, .int .i64 t112] 41 (0, 0)) (qk BK114.out)) : gb121 ≠ gb114)); replace BK113 := cK BK113 hb; replace BK114 := cK BK114 hb; replace HB := cB HB hb; replace HO106 := n0_; replace HO110 := n1_; replace HO117 := n2_; clear n0_ n1_ n2_; clear hb hbox hg) | ((with_reducible refine gate_dst (N := 6) rfl ?_); (try (refine gate_guard (by rfl) ?_; dsimp only)); refine box_ev (N := 6) (cs := #[.int .i64 0, .int .i64 0]) (t := 41) ?_; intro gb122 hg w33 hbox hb; have n0_ := Aside0.mk (Kd.N_below (Kd.N_elderB (qN HO106.out) gb122 (Nat.le_of_eq hg.symm)) hb); have n1_ := Aside0.mk (Kd.N_below (Kd.N_elderB (qN HO110.out) gb122 (Nat.le_of_eq hg.symm)) hb); have n2_ := Aside0.mk (Kd.N_below (Kd.N_elderB (qN HO117.out) gb122 (Nat.le_of_eq hg.symm)) hb); have BK122 := Aside0.mk (hbox); have GW122 := Aside0.mk ((qg : w.heap.size ≤ gb122)); have GE122 := Aside0.mk ((qg : w.heap.size ≤ gb122)); have NB113_122 := Aside0.mk ((by rw [hg]; exact Nat.ne_of_lt (blk_lt (g := gb113) (o := .cells #[.slice Ao27 t108.length co27] 70 (0, 0)) (qk BK113.out)) : gb113 ≠ gb122)); have NB122_113 := Aside0.mk ((by rw [hg]; exact Nat.ne_of_gt (blk_lt (g := gb113) (o := .cells #[.slice Ao27 t108.length co27] 70 (0, 0)) (qk BK113.out)) : gb122 ≠ gb113)); have NB114_122 := Aside0.mk ((by rw [hg]; exact Nat.ne_of_lt (blk_lt (g := gb114) (o := .cells #[.int .i64 t111, .int .i64 t112] 41 (0, 0)) (qk BK114.out)) : gb114 ≠ gb122)); have NB122_114 := Aside0.mk ((by rw [hg]; exact Nat.ne_of_gt (blk_lt (g := gb114) (o := .cells #[.int .i64 t111, .int .i64 t112] 41 (0, 0)) (qk BK114.out)) : gb122 ≠ gb114)); have NB121_122 := Aside0.mk ((by rw [hg]; exact Nat.ne_of_lt (blk_lt (g := gb121) (o := .cells #[.slice none 0 0] 70 (0, 0)) (qk BK121.out)) : gb121 ≠ gb122)); have NB122_121 := Aside0.mk ((by rw [hg]; exact Nat.ne_of_gt (blk_lt (g := gb121) (o := .cells #[.slice none 0 0] 70 (0, 0)) (qk BK121.out)) : gb122 ≠ gb121)); replace BK113 := cK BK113 hb; replace BK114 := cK BK114 hb; replace BK121 := cK BK121 hb; replace HB := cB HB hb; replace HO106 := n0_; replace HO110 := n1_; replace HO117 := n2_; clear n0_ n1_ n2_; clear hb hbox hg; obtain ⟨Ao34, co34, eo34⟩ := Kd.N_slice HO117.out; subst eo34; have hnb35 := NB121_113.out; have hnc35 := NB113_121.out; have hnb36 := NB121_114.out; have hnc36 := NB114_121.out; have hnb37 := NB121_122.out; have hnc37 := NB122_121.out; have hcz38_0 : w33.cell? ⟨gb121, 0, none⟩ = some (.slice none 0 0) := (blk_cell BK121.out 0).trans rfl; have hfz38_0 := blk_frozen BK121.out 0; have hnb39 := NB122_113.out; have hnc39 := NB113_122.out; have hnb40 := NB122_114.out; have hnc40 := NB114_122.out; have hcz41_0 : w33.cell? ⟨gb122, 0, none⟩ = some (.int .i64 0) := (blk_cell BK122.out 0).trans rfl; have hcz41_1 : w33.cell? ⟨gb122, 1, none⟩ = some (.int .i64 0) := (blk_cell BK122.out 1).trans rfl; have hfz41_0 := blk_frozen BK122.out 0; have hfz41_1 := blk_frozen BK122.out 1) | ((with_reducible refine gate_callee (f := 36) rfl ?_); refine goesL_ (some 25) rfl rfl Tryz.func36 (by kernel_rfl) rfl #[.string (⟨#[82, 111, 117, 116, 101, 32, 35, 50, 58, 32, 51, 10]⟩ : ByteArray)] rfl qm ?_; (with_reducible refine (tour_ParseRoutes.calls (⟨#[82, 111, 117, 116, 101, 32, 35, 50, 58, 32, 51, 10]⟩ : ByteArray) t123 t126 t127 t128 _ (Tabs.kept HT0.out qb) A4.out).mono ?_); rintro e w42 ⟨v124, rfl, ho0, hb⟩; refine ⟨_, rfl, ?_⟩; have n0_ := Aside0.mk (Kd.N_elder' (by refine qN ?_; exact (Kd.N_mono (Kd.N_mono (Kd.N_far (p := ⟨gb122, 1, none⟩) (Kd.N_far (p := ⟨gb122, 0, none⟩) (Kd.N_far (p := ⟨gb121, 0, none⟩) (Kd.N_mono (Kd.N_mono HO106.out (fun k_ hk => (⟨hk, hk.1.2⟩ : _ ∧ k_ ≠ gb121))) (fun k_ hk => (⟨hk, hk.1.2⟩ : _ ∧ k_ ≠ gb122))) (fun _ hk => hk.1.2) (.slice Ao34 t115.length co34)) (fun _ hk => hk.2) (.int .i64 t119)) (fun _ hk => hk.2) (.int .i64 t120)) (fun _ h_ => by first | exact h_.1 | exact ⟨trivial, h_.1⟩)) (fun _ h_ => by first | exact h_.1 | exact ⟨trivial, h_.1⟩))) (Kd.S_base ho0) hb); have n1_ := Aside0.mk (Kd.N_elder' (by refine qN ?_; exact (Kd.N_mono (Kd.N_mono (Kd.N_far (p := ⟨gb122, 1, none⟩) (Kd.N_far (p := ⟨gb122, 0, none⟩) (Kd.N_far (p := ⟨gb121, 0, none⟩) (Kd.N_mono (Kd.N_mono HO110.out (fun k_ hk => (⟨hk, hk.1.2⟩ : _ ∧ k_ ≠ gb121))) (fun k_ hk => (⟨hk, hk.1.2⟩ : _ ∧ k_ ≠ gb122))) (fun _ hk => hk.1.2) (.slice Ao34 t115.length co34)) (fun _ hk => hk.2) (.int .i64 t119)) (fun _ hk => hk.2) (.int .i64 t120)) (fun _ h_ => by first | exact h_.1 | exact ⟨trivial, h_.1⟩)) (fun _ h_ => by first | exact h_.1 | exact ⟨trivial, h_.1⟩))) (Kd.S_base ho0) hb); have n2_ := Aside0.mk (Kd.N_elder' (by refine qN ?_; exact (Kd.N_mono (Kd.N_mono (Kd.N_far (p := ⟨gb122, 1, none⟩) (Kd.N_far (p := ⟨gb122, 0, none⟩) (Kd.N_far (p := ⟨gb121, 0, none⟩) (Kd.N_mono (Kd.N_mono HO117.out (fun k_ hk => (⟨hk, hk.1.2⟩ : _ ∧ k_ ≠ gb121))) (fun k_ hk => (⟨hk, hk.1.2⟩ : _ ∧ k_ ≠ gb122))) (fun _ hk => hk.1.2) (.slice Ao34 t115.length co34)) (fun _ hk => hk.2) (.int .i64 t119)) (fun _ hk => hk.2) (.int .i64 t120)) (fun _ h_ => by first | exact h_.1 | exact ⟨trivial, h_.1⟩)) (fun _ h_ => by first | exact h_.1 | exact ⟨trivial, h_.1⟩))) (Kd.S_base ho0) hb); have HO125 := Aside0.mk (Kd.N_lower (Kd.N_mono (ok' := fun k_ => some k_ ≠ (.slice Ao22 y104.length co22 : Value).ownBlock ∧ some k_ ≠ (.slice Ao27 t108.length co27 : Value).ownBlock ∧ some k_ ≠ (.slice Ao34 t115.length co34 : Value).ownBlock ∧ k_ ≠ gb113 ∧ k_ ≠ gb114 ∧ k_ ≠ gb121 ∧ k_ ≠ gb122) (Kd.S_N (Kd.S_bound ho0)) (fun k_ hk_ => ⟨(Kd.fresh' (Kd.N_lt (by refine qN ?_; exact (Kd.N_mono (Kd.N_mono (Kd.N_far (p := ⟨gb122, 1, none⟩) (Kd.N_far (p := ⟨gb122, 0, none⟩) (Kd.N_far (p := ⟨gb121, 0, none⟩) (Kd.N_mono (Kd.N_mono HO106.out (fun k_ hk => (⟨hk, hk.1.2⟩ : _ ∧ k_ ≠ gb121))) (fun k_ hk => (⟨hk, hk.1.2⟩ : _ ∧ k_ ≠ gb122))) (fun _ hk => hk.1.2) (.slice Ao34 t115.length co34)) (fun _ hk => hk.2) (.int .i64 t119)) (fun _ hk => hk.2) (.int .i64 t120)) (fun _ h_ => by first | exact h_.1 | exact ⟨trivial, h_.1⟩)) (fun _ h_ => by first | exact h_.1 | exact ⟨trivial, h_.1⟩)))) k_ hk_.2.1), (Kd.fresh' (Kd.N_lt (by refine qN ?_; exact (Kd.N_mono (Kd.N_mono (Kd.N_far (p := ⟨gb122, 1, none⟩) (Kd.N_far (p := ⟨gb122, 0, none⟩) (Kd.N_far (p := ⟨gb121, 0, none⟩) (Kd.N_mono (Kd.N_mono HO110.out (fun k_ hk => (⟨hk, hk.1.2⟩ : _ ∧ k_ ≠ gb121))) (fun k_ hk => (⟨hk, hk.1.2⟩ : _ ∧ k_ ≠ gb122))) (fun _ hk => hk.1.2) (.slice Ao34 t115.length co34)) (fun _ hk => hk.2) (.int .i64 t119)) (fun _ hk => hk.2) (.int .i64 t120)) (fun _ h_ => by first | exact h_.1 | exact ⟨trivial, h_.1⟩)) (fun _ h_ => by first | exact h_.1 | exact ⟨trivial, h_.1⟩)))) k_ hk_.2.1), (Kd.fresh' (Kd.N_lt (by refine qN ?_; exact (Kd.N_mono (Kd.N_mono (Kd.N_far (p := ⟨gb122, 1, none⟩) (Kd.N_far (p := ⟨gb122, 0, none⟩) (Kd.N_far (p := ⟨gb121, 0, none⟩) (Kd.N_mono (Kd.N_mono HO117.out (fun k_ hk => (⟨hk, hk.1.2⟩ : _ ∧ k_ ≠ gb121))) (fun k_ hk => (⟨hk, hk.1.2⟩ : _ ∧ k_ ≠ gb122))) (fun _ hk => hk.1.2) (.slice Ao34 t115.length co34)) (fun _ hk => hk.2) (.int .i64 t119)) (fun _ hk => hk.2) (.int .i64 t120)) (fun _ h_ => by first | exact h_.1 | exact ⟨trivial, h_.1⟩)) (fun _ h_ => by first | exact h_.1 | exact ⟨trivial, h_.1⟩)))) k_ hk_.2.1), (Kd.freshB (g := gb113) (o := .cells #[.slice Ao27 t108.length co27] 70 (0, 0)) (by refine qk ?_; refine blk_far ?_ NB113_122.out _; refine qk ?_; refine blk_far ?_ NB113_122.out _; refine qk ?_; refine blk_far ?_ NB113_121.out _; refine qk ?_; exact BK113.out) k_ hk_.2.1), (Kd.freshB (g := gb114) (o := .cells #[.int .i64 t111, .int .i64 t112] 41 (0, 0)) (by refine qk ?_; refine blk_far ?_ NB114_122.out _; refine qk ?_; refine blk_far ?_ NB114_122.out _; refine qk ?_; refine blk_far ?_ NB114_121.out _; refine qk ?_; exact BK114.out) k_ hk_.2.1), (Kd.freshB (g := gb121) (o := .cells #[.slice Ao34 t115.length co34] 70 (0, 0)) (by refine qk ?_; refine blk_far ?_ NB121_122.out _; refine qk ?_; refine blk_far ?_ NB121_122.out _; refine qk ?_; refine blk_put (cs := #[.slice none 0 0]) ?_ 0 _ rfl; refine qk ?_; exact BK121.out) k_ hk_.2.1), (Kd.freshB (g := gb122) (o := .cells #[.int .i64 t119, .int .i64 t120] 41 (0, 0)) (by refine qk ?_; refine blk_put (cs := #[.int .i64 t119, .int .i64 0]) ?_ 1 _ rfl; refine qk ?_; refine blk_put (cs := #[.int .i64 0, .int .i64 0]) ?_ 0 _ rfl; refine qk ?_; refine blk_far ?_ NB122_121.out _; refine qk ?_; exact BK122.out) k_ hk_.2.1)⟩)) (below_size qb)); have n4_ := Aside0.mk (blk_below (g := gb113) (o := .cells #[.slice Ao27 t108.length co27] 70 (0, 0)) (by refine qk ?_; refine blk_far ?_ NB113_122.out _; refine qk ?_; refine blk_far ?_ NB113_122.out _; refine qk ?_; refine blk_far ?_ NB113_121.out _; refine qk ?_; exact BK113.out) hb); have n5_ := Aside0.mk (blk_below (g := gb114) (o := .cells #[.int .i64 t111, .int .i64 t112] 41 (0, 0)) (by refine qk ?_; refine blk_far ?_ NB114_122.out _; refine qk ?_; refine blk_far ?_ NB114_122.out _; refine qk ?_; refine blk_far ?_ NB114_121.out _; refine qk ?_; exact BK114.out) hb); have n6_ := Aside0.mk (blk_below (g := gb121) (o := .cells #[.slice Ao34 t115.length co34] 70 (0, 0)) (by refine qk ?_; refine blk_far ?_ NB121_122.out _; refine qk ?_; refine blk_far ?_ NB121_122.out _; refine qk ?_; refine blk_put (cs := #[.slice none 0 0]) ?_ 0 _ rfl; refine qk ?_; exact BK121.out) hb); have n7_ := Aside0.mk (blk_below (g := gb122) (o := .cells #[.int .i64 t119, .int .i64 t120] 41 (0, 0)) (by refine qk ?_; refine blk_put (cs := #[.int .i64 t119, .int .i64 0]) ?_ 1 _ rfl; refine qk ?_; refine blk_put (cs := #[.int .i64 0, .int .i64 0]) ?_ 0 _ rfl; refine qk ?_; refine blk_far ?_ NB122_121.out _; refine qk ?_; exact BK122.out) hb); replace HB := cB HB hb; replace HO106 := n0_; replace HO110 := n1_; replace HO117 := n2_; replace BK113 := n4_; replace BK114 := n5_; replace BK121 := n6_; replace BK122 := n7_; clear n0_ n1_ n2_ n4_ n5_ n6_ n7_; (try clear hb); (try clear hb2); (try clear hk); (try clear hi); (try clear ho0)) | ((with_reducible refine gate_dst (N := 7) rfl ?_); (try (refine gate_guard (by rfl) ?_; dsimp only)); refine box_ev (N := 7) (cs := #[.slice none 0 0]) (t := 70) ?_; intro gb129 hg w43 hbox hb; have n0_ := Aside0.mk (Kd.N_below (Kd.N_elderB (qN HO106.out) gb129 (Nat.le_of_eq hg.symm)) hb); have n1_ := Aside0.mk (Kd.N_below (Kd.N_elderB (qN HO110.out) gb129 (Nat.le_of_eq hg.symm)) hb); have n2_ := Aside0.mk (Kd.N_below (Kd.N_elderB (qN HO117.out) gb129 (Nat.le_of_eq hg.symm)) hb); have n3_ := Aside0.mk (Kd.N_below (Kd.N_elderB (qN HO125.out) gb129 (Nat.le_of_eq hg.symm)) hb); have BK129 := Aside0.mk (hbox); have GW129 := Aside0.mk ((qg : w.heap.size ≤ gb129)); have GE129 := Aside0.mk ((qg : w.heap.size ≤ gb129)); have NB113_129 := Aside0.mk ((by rw [hg]; exact Nat.ne_of_lt (blk_lt (g := gb113) (o := .cells #[.slice Ao27 t108.length co27] 70 (0, 0)) (qk BK113.out)) : gb113 ≠ gb129)); have NB129_113 := Aside0.mk ((by rw [hg]; exact Nat.ne_of_gt (blk_lt (g := gb113) (o := .cells #[.slice Ao27 t108.length co27] 70 (0, 0)) (qk BK113.out)) : gb129 ≠ gb113)); have NB114_129 := Aside0.mk ((by rw [hg]; exact Nat.ne_of_lt (blk_lt (g := gb114) (o := .cells #[.int .i64 t111, .int .i64 t112] 41 (0, 0)) (qk BK114.out)) : gb114 ≠ gb129)); have NB129_114 := Aside0.mk ((by rw [hg]; exact Nat.ne_of_gt (blk_lt (g := gb114) (o := .cells #[.int .i64 t111, .int .i64 t112] 41 (0, 0)) (qk BK114.out)) : gb129 ≠ gb114)); have NB121_129 := Aside0.mk ((by rw [hg]; exact Nat.ne_of_lt (blk_lt (g := gb121) (o := .cells #[.slice Ao34 t115.length co34] 70 (0, 0)) (qk BK121.out)) : gb121 ≠ gb129)); have NB129_121 := Aside0.mk ((by rw [hg]; exact Nat.ne_of_gt (blk_lt (g := gb121) (o := .cells #[.slice Ao34 t115.length co34] 70 (0, 0)) (qk BK121.out)) : gb129 ≠ gb121)); have NB122_129 := Aside0.mk ((by rw [hg]; exact Nat.ne_of_lt (blk_lt (g := gb122) (o := .cells #[.int .i64 t119, .int .i64 t120] 41 (0, 0)) (qk BK122.out)) : gb122 ≠ gb129)); have NB129_122 := Aside0.mk ((by rw [hg]; exact Nat.ne_of_gt (blk_lt (g := gb122) (o := .cells #[.int .i64 t119, .int .i64 t120] 41 (0, 0)) (qk BK122.out)) : gb129 ≠ gb122)); replace BK113 := cK BK113 hb; replace BK114 := cK BK114 hb; replace BK121 := cK BK121 hb; replace BK122 := cK BK122 hb; replace HB := cB HB hb; replace HO106 := n0_; replace HO110 := n1_; replace HO117 := n2_; replace HO125 := n3_; clear n0_ n1_ n2_ n3_; clear hb hbox hg) | ((with_reducible refine gate_dst (N := 9) rfl ?_); (try (refine gate_guard (by rfl) ?_; dsimp only)); refine box_ev (N := 9) (cs := #[.int .i64 0, .int .i64 0]) (t := 41) ?_; intro gb130 hg w44 hbox hb; have n0_ := Aside0.mk (Kd.N_below (Kd.N_elderB (qN HO106.out) gb130 (Nat.le_of_eq hg.symm)) hb); have n1_ := Aside0.mk (Kd.N_below (Kd.N_elderB (qN HO110.out) gb130 (Nat.le_of_eq hg.symm)) hb); have n2_ := Aside0.mk (Kd.N_below (Kd.N_elderB (qN HO117.out) gb130 (Nat.le_of_eq hg.symm)) hb); have n3_ := Aside0.mk (Kd.N_below (Kd.N_elderB (qN HO125.out) gb130 (Nat.le_of_eq hg.symm)) hb); have BK130 := Aside0.mk (hbox); have GW130 := Aside0.mk ((qg : w.heap.size ≤ gb130)); have GE130 := Aside0.mk ((qg : w.heap.size ≤ gb130)); have NB113_130 := Aside0.mk ((by rw [hg]; exact Nat.ne_of_lt (blk_lt (g := gb113) (o := .cells #[.slice Ao27 t108.length co27] 70 (0, 0)) (qk BK113.out)) : gb113 ≠ gb130)); have NB130_113 := Aside0.mk ((by rw [hg]; exact Nat.ne_of_gt (blk_lt (g := gb113) (o := .cells #[.slice Ao27 t108.length co27] 70 (0, 0)) (qk BK113.out)) : gb130 ≠ gb113)); have NB114_130 := Aside0.mk ((by rw [hg]; exact Nat.ne_of_lt (blk_lt (g := gb114) (o := .cells #[.int .i64 t111, .int .i64 t112] 41 (0, 0)) (qk BK114.out)) : gb114 ≠ gb130)); have NB130_114 := Aside0.mk ((by rw [hg]; exact Nat.ne_of_gt (blk_lt (g := gb114) (o := .cells #[.int .i64 t111, .int .i64 t112] 41 (0, 0)) (qk BK114.out)) : gb130 ≠ gb114)); have NB121_130 := Aside0.mk ((by rw [hg]; exact Nat.ne_of_lt (blk_lt (g := gb121) (o := .cells #[.slice Ao34 t115.length co34] 70 (0, 0)) (qk BK121.out)) : gb121 ≠ gb130)); have NB130_121 := Aside0.mk ((by rw [hg]; exact Nat.ne_of_gt (blk_lt (g := gb121) (o := .cells #[.slice Ao34 t115.length co34] 70 (0, 0)) (qk BK121.out)) : gb130 ≠ gb121)); have NB122_130 := Aside0.mk ((by rw [hg]; exact Nat.ne_of_lt (blk_lt (g := gb122) (o := .cells #[.int .i64 t119, .int .i64 t120] 41 (0, 0)) (qk BK122.out)) : gb122 ≠ gb130)); have NB130_122 := Aside0.mk ((by rw [hg]; exact Nat.ne_of_gt (blk_lt (g := gb122) (o := .cells #[.int .i64 t119, .int .i64 t120] 41 (0, 0)) (qk BK122.out)) : gb130 ≠ gb122)); have NB129_130 := Aside0.mk ((by rw [hg]; exact Nat.ne_of_lt (blk_lt (g := gb129) (o := .cells #[.slice none 0 0] 70 (0, 0)) (qk BK129.out)) : gb129 ≠ gb130)); have NB130_129 := Aside0.mk ((by rw [hg]; exact Nat.ne_of_gt (blk_lt (g := gb129) (o := .cells #[.slice none 0 0] 70 (0, 0)) (qk BK129.out)) : gb130 ≠ gb129)); replace BK113 := cK BK113 hb; replace BK114 := cK BK114 hb; replace BK121 := cK BK121 hb; replace BK122 := cK BK122 hb; replace BK129 := cK BK129 hb; replace HB := cB HB hb; replace HO106 := n0_; replace HO110 := n1_; replace HO117 := n2_; replace HO125 := n3_; clear n0_ n1_ n2_ n3_; clear hb hbox hg; obtain ⟨Ao45, co45, eo45⟩ := Kd.N_slice HO125.out; subst eo45; have hnb46 := NB129_113.out; have hnc46 := NB113_129.out; have hnb47 := NB129_114.out; have hnc47 := NB114_129.out; have hnb48 := NB129_121.out; have hnc48 := NB121_129.out; have hnb49 := NB129_122.out; have hnc49 := NB122_129.out; have hnb50 := NB129_130.out; have hnc50 := NB130_129.out; have hcz51_0 : w44.cell? ⟨gb129, 0, none⟩ = some (.slice none 0 0) := (blk_cell BK129.out 0).trans rfl; have hfz51_0 := blk_frozen BK129.out 0) | ((with_reducible refine gate_store (t := 70) (p := 7) rfl ?_); refine store_ev (t := 70) (p := 7) (w1 := (w44.setCell ⟨gb129, 0, none⟩ (.slice Ao45 t123.length co45))) ?_; intro w52 hw; have n0_ : Aside0 (Kd.N (Kd.slice 3 (Kd.int .i64)) 38 w52 w.heap.size (fun k_ => some k_ ≠ (.slice Ao27 t108.length co27 : Value).ownBlock ∧ some k_ ≠ (.slice Ao34 t115.length co34 : Value).ownBlock ∧ some k_ ≠ (.slice Ao45 t123.length co45 : Value).ownBlock ∧ k_ ≠ gb113 ∧ k_ ≠ gb114 ∧ k_ ≠ gb121 ∧ k_ ≠ gb122 ∧ k_ ≠ gb129 ∧ k_ ≠ gb130) (.slice Ao22 y104.length co22) y104) := ⟨(by rw [hw]; exact (by refine qN ?_; exact Kd.N_mono (Kd.N_far (p := ⟨gb129, 0, none⟩) (Kd.N_mono HO106.out (fun k_ hk => (⟨hk, hk.1.2⟩ : _ ∧ k_ ≠ gb129))) (fun _ hk => hk.2) (.slice Ao45 t123.length co45)) (fun _ hk => ⟨hk.1.1.1.1.1.1.1.1.1.2, ⟨hk.1.1.1.1.1.1.2, ⟨hk.1.1.1.2, ⟨hk.1.1.1.1.1.1.1.1.2, ⟨hk.1.1.1.1.1.1.1.2, ⟨hk.1.1.1.1.1.2, ⟨hk.1.1.1.1.2, ⟨hk.1.1.2, hk.1.2⟩⟩⟩⟩⟩⟩⟩⟩)))⟩; have n1_ : Aside0 (Kd.N (Kd.slice 3 (Kd.int .i64)) 38 w52 w.heap.size (fun k_ => some k_ ≠ (.slice Ao22 y104.length co22 : Value).ownBlock ∧ some k_ ≠ (.slice Ao34 t115.length co34 : Value).ownBlock ∧ some k_ ≠ (.slice Ao45 t123.length co45 : Value).ownBlock ∧ k_ ≠ gb113 ∧ k_ ≠ gb114 ∧ k_ ≠ gb121 ∧ k_ ≠ gb122 ∧ k_ ≠ gb129 ∧ k_ ≠ gb130) (.slice Ao27 t108.length co27) t108) := ⟨(by rw [hw]; exact (by refine qN ?_; exact Kd.N_mono (Kd.N_far (p := ⟨gb129, 0, none⟩) (Kd.N_mono HO110.out (fun k_ hk => (⟨hk, hk.1.2⟩ : _ ∧ k_ ≠ gb129))) (fun _ hk => hk.2) (.slice Ao45 t123.length co45)) (fun _ hk => ⟨hk.1.1.1.1.1.1.1.1.1, ⟨hk.1.1.1.1.1.1.2, ⟨hk.1.1.1.2, ⟨hk.1.1.1.1.1.1.1.1.2, ⟨hk.1.1.1.1.1.1.1.2, ⟨hk.1.1.1.1.1.2, ⟨hk.1.1.1.1.2, ⟨hk.1.1.2, hk.1.2⟩⟩⟩⟩⟩⟩⟩⟩)))⟩; have n2_ : Aside0 (Kd.N (Kd.slice 3 (Kd.int .i64)) 38 w52 w.heap.size (fun k_ => some k_ ≠ (.slice Ao22 y104.length co22 : Value).ownBlock ∧ some k_ ≠ (.slice Ao27 t108.length co27 : Value).ownBlock ∧ some k_ ≠ (.slice Ao45 t123.length co45 : Value).ownBlock ∧ k_ ≠ gb113 ∧ k_ ≠ gb114 ∧ k_ ≠ gb121 ∧ k_ ≠ gb122 ∧ k_ ≠ gb129 ∧ k_ ≠ gb130) (.slice Ao34 t115.length co34) t115) := ⟨(by rw [hw]; exact (by refine qN ?_; exact Kd.N_mono (Kd.N_far (p := ⟨gb129, 0, none⟩) (Kd.N_mono HO117.out (fun k_ hk => (⟨hk, hk.1.2⟩ : _ ∧ k_ ≠ gb129))) (fun _ hk => hk.2) (.slice Ao45 t123.length co45)) (fun _ hk => ⟨hk.1.1.1.1.1.1.1, ⟨hk.1.1.1.1.1.1.2.1, ⟨hk.1.1.1.2, ⟨hk.1.1.1.1.1.1.2.2.1, ⟨hk.1.1.1.1.1.1.2.2.2, ⟨hk.1.1.1.1.1.2, ⟨hk.1.1.1.1.2, ⟨hk.1.1.2, hk.1.2⟩⟩⟩⟩⟩⟩⟩⟩)))⟩; have n3_ : Aside0 (Kd.N (Kd.slice 3 (Kd.int .i64)) 38 w52 w.heap.size (fun k_ => some k_ ≠ (.slice Ao22 y104.length co22 : Value).ownBlock ∧ some k_ ≠ (.slice Ao27 t108.length co27 : Value).ownBlock ∧ some k_ ≠ (.slice Ao34 t115.length co34 : Value).ownBlock ∧ k_ ≠ gb113 ∧ k_ ≠ gb114 ∧ k_ ≠ gb121 ∧ k_ ≠ gb122 ∧ k_ ≠ gb129 ∧ k_ ≠ gb130) (.slice Ao45 t123.length co45) t123) := ⟨(by rw [hw]; exact (by refine qN ?_; exact Kd.N_mono (Kd.N_far (p := ⟨gb129, 0, none⟩) (Kd.N_mono HO125.out (fun k_ hk => (⟨hk, hk.1.2⟩ : _ ∧ k_ ≠ gb129))) (fun _ hk => hk.2) (.slice Ao45 t123.length co45)) (fun _ hk => ⟨hk.1.1.1.1, ⟨hk.1.1.1.2.1, ⟨hk.1.1.1.2.2.1, ⟨hk.1.1.1.2.2.2.1, ⟨hk.1.1.1.2.2.2.2.1, ⟨hk.1.1.1.2.2.2.2.2.1, ⟨hk.1.1.1.2.2.2.2.2.2, ⟨hk.1.1.2, hk.1.2⟩⟩⟩⟩⟩⟩⟩⟩)))⟩; have n4_ : Aside0 (w52.heap[gb113]? = some (.cells #[.slice Ao27 t108.length co27] 70 (0, 0))) := ⟨(by rw [hw]; exact (by refine qk ?_; refine blk_far ?_ NB113_129.out _; refine qk ?_; exact BK113.out))⟩; have n5_ : Aside0 (w52.heap[gb114]? = some (.cells #[.int .i64 t111, .int .i64 t112] 41 (0, 0))) := ⟨(by rw [hw]; exact (by refine qk ?_; refine blk_far ?_ NB114_129.out _; refine qk ?_; exact BK114.out))⟩; have n6_ : Aside0 (w52.heap[gb121]? = some (.cells #[.slice Ao34 t115.length co34] 70 (0, 0))) := ⟨(by rw [hw]; exact (by refine qk ?_; refine blk_far ?_ NB121_129.out _; refine qk ?_; exact BK121.out))⟩; have n7_ : Aside0 (w52.heap[gb122]? = some (.cells #[.int .i64 t119, .int .i64 t120] 41 (0, 0))) := ⟨(by rw [hw]; exact (by refine qk ?_; refine blk_far ?_ NB122_129.out _; refine qk ?_; exact BK122.out))⟩; have n8_ : Aside0 (w52.heap[gb129]? = some (.cells #[.slice Ao45 t123.length co45] 70 (0, 0))) := ⟨(by rw [hw]; exact (by refine qk ?_; refine blk_put (cs := #[.slice none 0 0]) ?_ 0 _ rfl; refine qk ?_; exact BK129.out))⟩; have n9_ : Aside0 (w52.heap[gb130]? = some (.cells #[.int .i64 0, .int .i64 0] 41 (0, 0))) := ⟨(by rw [hw]; exact (by refine qk ?_; refine blk_far ?_ NB130_129.out _; refine qk ?_; exact BK130.out))⟩; have n10_ : Aside0 (Below w.heap.size w w52) := ⟨(by rw [hw]; exact qb)⟩; clear hw; clear HO106; clear HO110; clear HO117; clear HO125; clear BK113; clear BK114; clear BK121; clear BK122; clear BK129; clear BK130; clear HB; have HO106 := n0_; have HO110 := n1_; have HO117 := n2_; have HO125 := n3_; have BK113 := n4_; have BK114 := n5_; have BK121 := n6_; have BK122 := n7_; have BK129 := n8_; have BK130 := n9_; have HB := n10_; clear n0_ n1_ n2_ n3_ n4_ n5_ n6_ n7_ n8_ n9_ n10_; have hnb53 := NB130_113.out; have hnc53 := NB113_130.out; have hnb54 := NB130_114.out; have hnc54 := NB114_130.out; have hnb55 := NB130_121.out; have hnc55 := NB121_130.out; have hnb56 := NB130_122.out; have hnc56 := NB122_130.out; have hcz57_0 : w52.cell? ⟨gb130, 0, none⟩ = some (.int .i64 0) := (blk_cell BK130.out 0).trans rfl; have hcz57_1 : w52.cell? ⟨gb130, 1, none⟩ = some (.int .i64 0) := (blk_cell BK130.out 1).trans rfl; have hfz57_0 := blk_frozen BK130.out 0; have hfz57_1 := blk_frozen BK130.out 1) | ((with_reducible refine gate_store (t := 41) (p := 9) rfl ?_); refine store_ev (t := 41) (p := 9) (w1 := ((w52.setCell ⟨gb130, 0, none⟩ (.int .i64 t127)).setCell ⟨gb130, 1, none⟩ (.int .i64 t128))) ?_; intro w58 hw; have n0_ : Aside0 (Kd.N (Kd.slice 3 (Kd.int .i64)) 38 w58 w.heap.size (fun k_ => some k_ ≠ (.slice Ao27 t108.length co27 : Value).ownBlock ∧ some k_ ≠ (.slice Ao34 t115.length co34 : Value).ownBlock ∧ some k_ ≠ (.slice Ao45 t123.length co45 : Value).ownBlock ∧ k_ ≠ gb113 ∧ k_ ≠ gb114 ∧ k_ ≠ gb121 ∧ k_ ≠ gb122 ∧ k_ ≠ gb129 ∧ k_ ≠ gb130) (.slice Ao22 y104.length co22) y104) := ⟨(by rw [hw]; exact (by refine qN ?_; exact Kd.N_mono (Kd.N_far (p := ⟨gb130, 1, none⟩) (Kd.N_far (p := ⟨gb130, 0, none⟩) (Kd.N_mono HO106.out (fun k_ hk => (⟨hk, hk.2.2.2.2.2.2.2.2⟩ : _ ∧ k_ ≠ gb130))) (fun _ hk => hk.2) (.int .i64 t127)) (fun _ hk => hk.2) (.int .i64 t128)) (fun _ hk => ⟨hk.1.1, ⟨hk.1.2.1, ⟨hk.1.2.2.1, ⟨hk.1.2.2.2.1, ⟨hk.1.2.2.2.2.1, ⟨hk.1.2.2.2.2.2.1, ⟨hk.1.2.2.2.2.2.2.1, ⟨hk.1.2.2.2.2.2.2.2.1, hk.1.2.2.2.2.2.2.2.2⟩⟩⟩⟩⟩⟩⟩⟩)))⟩; have n1_ : Aside0 (Kd.N (Kd.slice 3 (Kd.int .i64)) 38 w58 w.heap.size (fun k_ => some k_ ≠ (.slice Ao22 y104.length co22 : Value).ownBlock ∧ some k_ ≠ (.slice Ao34 t115.length co34 : Value).ownBlock ∧ some k_ ≠ (.slice Ao45 t123.length co45 : Value).ownBlock ∧ k_ ≠ gb113 ∧ k_ ≠ gb114 ∧ k_ ≠ gb121 ∧ k_ ≠ gb122 ∧ k_ ≠ gb129 ∧ k_ ≠ gb130) (.slice Ao27 t108.length co27) t108) := ⟨(by rw [hw]; exact (by refine qN ?_; exact Kd.N_mono (Kd.N_far (p := ⟨gb130, 1, none⟩) (Kd.N_far (p := ⟨gb130, 0, none⟩) (Kd.N_mono HO110.out (fun k_ hk => (⟨hk, hk.2.2.2.2.2.2.2.2⟩ : _ ∧ k_ ≠ gb130))) (fun _ hk => hk.2) (.int .i64 t127)) (fun _ hk => hk.2) (.int .i64 t128)) (fun _ hk => ⟨hk.1.1, ⟨hk.1.2.1, ⟨hk.1.2.2.1, ⟨hk.1.2.2.2.1, ⟨hk.1.2.2.2.2.1, ⟨hk.1.2.2.2.2.2.1, ⟨hk.1.2.2.2.2.2.2.1, ⟨hk.1.2.2.2.2.2.2.2.1, hk.1.2.2.2.2.2.2.2.2⟩⟩⟩⟩⟩⟩⟩⟩)))⟩; have n2_ : Aside0 (Kd.N (Kd.slice 3 (Kd.int .i64)) 38 w58 w.heap.size (fun k_ => some k_ ≠ (.slice Ao22 y104.length co22 : Value).ownBlock ∧ some k_ ≠ (.slice Ao27 t108.length co27 : Value).ownBlock ∧ some k_ ≠ (.slice Ao45 t123.length co45 : Value).ownBlock ∧ k_ ≠ gb113 ∧ k_ ≠ gb114 ∧ k_ ≠ gb121 ∧ k_ ≠ gb122 ∧ k_ ≠ gb129 ∧ k_ ≠ gb130) (.slice Ao34 t115.length co34) t115) := ⟨(by rw [hw]; exact (by refine qN ?_; exact Kd.N_mono (Kd.N_far (p := ⟨gb130, 1, none⟩) (Kd.N_far (p := ⟨gb130, 0, none⟩) (Kd.N_mono HO117.out (fun k_ hk => (⟨hk, hk.2.2.2.2.2.2.2.2⟩ : _ ∧ k_ ≠ gb130))) (fun _ hk => hk.2) (.int .i64 t127)) (fun _ hk => hk.2) (.int .i64 t128)) (fun _ hk => ⟨hk.1.1, ⟨hk.1.2.1, ⟨hk.1.2.2.1, ⟨hk.1.2.2.2.1, ⟨hk.1.2.2.2.2.1, ⟨hk.1.2.2.2.2.2.1, ⟨hk.1.2.2.2.2.2.2.1, ⟨hk.1.2.2.2.2.2.2.2.1, hk.1.2.2.2.2.2.2.2.2⟩⟩⟩⟩⟩⟩⟩⟩)))⟩; have n3_ : Aside0 (Kd.N (Kd.slice 3 (Kd.int .i64)) 38 w58 w.heap.size (fun k_ => some k_ ≠ (.slice Ao22 y104.length co22 : Value).ownBlock ∧ some k_ ≠ (.slice Ao27 t108.length co27 : Value).ownBlock ∧ some k_ ≠ (.slice Ao34 t115.length co34 : Value).ownBlock ∧ k_ ≠ gb113 ∧ k_ ≠ gb114 ∧ k_ ≠ gb121 ∧ k_ ≠ gb122 ∧ k_ ≠ gb129 ∧ k_ ≠ gb130) (.slice Ao45 t123.length co45) t123) := ⟨(by rw [hw]; exact (by refine qN ?_; exact Kd.N_mono (Kd.N_far (p := ⟨gb130, 1, none⟩) (Kd.N_far (p := ⟨gb130, 0, none⟩) (Kd.N_mono HO125.out (fun k_ hk => (⟨hk, hk.2.2.2.2.2.2.2.2⟩ : _ ∧ k_ ≠ gb130))) (fun _ hk => hk.2) (.int .i64 t127)) (fun _ hk => hk.2) (.int .i64 t128)) (fun _ hk => ⟨hk.1.1, ⟨hk.1.2.1, ⟨hk.1.2.2.1, ⟨hk.1.2.2.2.1, ⟨hk.1.2.2.2.2.1, ⟨hk.1.2.2.2.2.2.1, ⟨hk.1.2.2.2.2.2.2.1, ⟨hk.1.2.2.2.2.2.2.2.1, hk.1.2.2.2.2.2.2.2.2⟩⟩⟩⟩⟩⟩⟩⟩)))⟩; have n4_ : Aside0 (w58.heap[gb113]? = some (.cells #[.slice Ao27 t108.length co27] 70 (0, 0))) := ⟨(by rw [hw]; exact (by refine qk ?_; refine blk_far ?_ NB113_130.out _; refine qk ?_; refine blk_far ?_ NB113_130.out _; refine qk ?_; exact BK113.out))⟩; have n5_ : Aside0 (w58.heap[gb114]? = some (.cells #[.int .i64 t111, .int .i64 t112] 41 (0, 0))) := ⟨(by rw [hw]; exact (by refine qk ?_; refine blk_far ?_ NB114_130.out _; refine qk ?_; refine blk_far ?_ NB114_130.out _; refine qk ?_; exact BK114.out))⟩; have n6_ : Aside0 (w58.heap[gb121]? = some (.cells #[.slice Ao34 t115.length co34] 70 (0, 0))) := ⟨(by rw [hw]; exact (by refine qk ?_; refine blk_far ?_ NB121_130.out _; refine qk ?_; refine blk_far ?_ NB121_130.out _; refine qk ?_; exact BK121.out))⟩; have n7_ : Aside0 (w58.heap[gb122]? = some (.cells #[.int .i64 t119, .int .i64 t120] 41 (0, 0))) := ⟨(by rw [hw]; exact (by refine qk ?_; refine blk_far ?_ NB122_130.out _; refine qk ?_; refine blk_far ?_ NB122_130.out _; refine qk ?_; exact BK122.out))⟩; have n8_ : Aside0 (w58.heap[gb129]? = some (.cells #[.slice Ao45 t123.length co45] 70 (0, 0))) := ⟨(by rw [hw]; exact (by refine qk ?_; refine blk_far ?_ NB129_130.out _; refine qk ?_; refine blk_far ?_ NB129_130.out _; refine qk ?_; exact BK129.out))⟩; have n9_ : Aside0 (w58.heap[gb130]? = some (.cells #[.int .i64 t127, .int .i64 t128] 41 (0, 0))) := ⟨(by rw [hw]; exact (by refine qk ?_; refine blk_put (cs := #[.int .i64 t127, .int .i64 0]) ?_ 1 _ rfl; refine qk ?_; refine blk_put (cs := #[.int .i64 0, .int .i64 0]) ?_ 0 _ rfl; refine qk ?_; exact BK130.out))⟩; have n10_ : Aside0 (Below w.heap.size w w58) := ⟨(by rw [hw]; exact qb)⟩; clear hw; clear HO106; clear HO110; clear HO117; clear HO125; clear BK113; clear BK114; clear BK121; clear BK122; clear BK129; clear BK130; clear HB; have HO106 := n0_; have HO110 := n1_; have HO117 := n2_; have HO125 := n3_; have BK113 := n4_; have BK114 := n5_; have BK121 := n6_; have BK122 := n7_; have BK129 := n8_; have BK130 := n9_; have HB := n10_; clear n0_ n1_ n2_ n3_ n4_ n5_ n6_ n7_ n8_ n9_ n10_; have hcz59_0 : w58.cell? ⟨gb113, 0, none⟩ = some (.slice Ao27 t108.length co27) := (blk_cell BK113.out 0).trans rfl; have hfz59_0 := blk_frozen BK113.out 0; have p131 : 0 ≤ (0 : Int) := (by omega); have q131 : 0 < (t108.length : Int) := of_decide_eq_true qa; obtain ⟨ad131, A131_0, c131_0, e131, hx131_0, hl131_0, hi131_0⟩ := at_L14 (Kd.N_reads' HO110.out).2.2 0 p131 q131; cases e131; obtain ⟨ce131, hce131, hMe131, hcc131⟩ := Kd.N_get HO110.out [] 0 p131 (by first | exact q131 | exact of_decide_eq_true qa | (have e_ := (Kd.N_reads' HO110.out).1; omega)); obtain ⟨ua131_0, uc131_0, rfl, ul131_0, ge131_0⟩ := Kd.FK_slice_open hMe131; have hv131_0 := hcc131 0 _ rfl; rw [Nat.add_zero, show ((Kd.slice 3 (Kd.int .i64))).sz = 1 from rfl, Nat.mul_one] at hv131_0; replace hv131_0 := Option.some.inj (hv131_0.symm.trans hx131_0); injection hv131_0 with hva_ hvn_ hvc_; rw [hva_] at ge131_0; rw [hvc_] at ul131_0; have HL131_0 := Aside0.mk (show Kd.V (Kd.int .i64) 3 _ w.heap.size _ _ (rd_L14 t108 0) from Kd.V_mk ul131_0 ge131_0); clear hva_ hvn_ hvc_ ge131_0 ul131_0; clear hcc131 hce131; have qi131 : (0 < t108.length) = True := eq_true (by omega); (try rw [show ((0 : Int)).toNat = 0 from rfl] at hx131_0); (try rw [Addr.add_zero'] at hx131_0); have HR131_0 := Aside0.mk hi131_0; have HC131_0 := Aside0.mk hl131_0; clear hi131_0 hl131_0; (try simp only [Go.IntWalk.toNatUp] at hx131_0); replace p131 := eq_true p131; replace q131 := eq_true q131; have p132 : 0 ≤ (0 : Int) := (by omega); have q132 : 0 < (t108.length : Int) := of_decide_eq_true qa; obtain ⟨ad132, A132_0, c132_0, e132, hx132_0, hl132_0, hi132_0⟩ := at_L14 (Kd.N_reads' HO110.out).2.2 0 p132 q132; obtain rfl : ad131 = ad132 := (by injection e132); obtain ⟨ce132, hce132, hMe132, hcc132⟩ := Kd.N_get HO110.out [] 0 p132 (by first | exact q132 | exact of_decide_eq_true qa | (have e_ := (Kd.N_reads' HO110.out).1; omega)); obtain ⟨ua132_0, uc132_0, rfl, ul132_0, ge132_0⟩ := Kd.FK_slice_open hMe132; have hv132_0 := hcc132 0 _ rfl; rw [Nat.add_zero, show ((Kd.slice 3 (Kd.int .i64))).sz = 1 from rfl, Nat.mul_one] at hv132_0; replace hv132_0 := Option.some.inj (hv132_0.symm.trans hx132_0); injection hv132_0 with hva_ hvn_ hvc_; rw [hva_] at ge132_0; rw [hvc_] at ul132_0; have HL132_0 := Aside0.mk (show Kd.V (Kd.int .i64) 3 _ w.heap.size _ _ (rd_L14 t108 0) from Kd.V_mk ul132_0 ge132_0); clear hva_ hvn_ hvc_ ge132_0 ul132_0; clear hcc132 hce132; have qi132 : (0 < t108.length) = True := eq_true (by omega); (try rw [show ((0 : Int)).toNat = 0 from rfl] at hx132_0); (try rw [Addr.add_zero'] at hx132_0); have HR132_0 := Aside0.mk hi132_0; have HC132_0 := Aside0.mk hl132_0; clear hi132_0 hl132_0; (try simp only [Go.IntWalk.toNatUp] at hx132_0); replace p132 := eq_true p132; replace q132 := eq_true q132; have ea_ := Option.some.inj (hx131_0.symm.trans hx132_0); injection ea_ with ea_ en_ ec_; subst ea_; subst ec_; clear en_; have p133 : 0 ≤ (0 : Int) := (by omega); have q133 : 0 < ((rd_L14 t108 0).length : Int) := of_decide_eq_true qa; obtain ⟨ad133, e133, hx133_0⟩ := Kd.at_int (qD HR132_0.out HL132_0.out) 0 p133 q133; cases e133; have qi133 : (0 < (rd_L14 t108 0).length) = True := eq_true (by omega); (try rw [show ((0 : Int)).toNat = 0 from rfl] at hx133_0); (try rw [Addr.add_zero'] at hx133_0); (try simp only [Go.IntWalk.toNatUp] at hx133_0); replace p133 := eq_true p133; replace q133 := eq_true q133; have hcz60_0 : w58.cell? ⟨gb114, 0, none⟩ = some (.int .i64 t111) := (blk_cell BK114.out 0).trans rfl; have hcz60_1 : w58.cell? ⟨gb114, 1, none⟩ = some (.int .i64 t112) := (blk_cell BK114.out 1).trans rfl; have hfz60_0 := blk_frozen BK114.out 0; have hfz60_1 := blk_frozen BK114.out 1; have hcz61_0 : w58.cell? ⟨gb121, 0, none⟩ = some (.slice Ao34 t115.length co34) := (blk_cell BK121.out 0).trans rfl; have hfz61_0 := blk_frozen BK121.out 0; have p134 : 0 ≤ (0 : Int) := (by omega); have q134 : 0 < (t115.length : Int) := of_decide_eq_true qa; obtain ⟨ad134, A134_0, c134_0, e134, hx134_0, hl134_0, hi134_0⟩ := at_L14 (Kd.N_reads' HO117.out).2.2 0 p134 q134; cases e134; obtain ⟨ce134, hce134, hMe134, hcc134⟩ := Kd.N_get HO117.out [] 0 p134 (by first | exact q134 | exact of_decide_eq_true qa | (have e_ := (Kd.N_reads' HO117.out).1; omega)); obtain ⟨ua134_0, uc134_0, rfl, ul134_0, ge134_0⟩ := Kd.FK_slice_open hMe134; have hv134_0 := hcc134 0 _ rfl; rw [Nat.add_zero, show ((Kd.slice 3 (Kd.int .i64))).sz = 1 from rfl, Nat.mul_one] at hv134_0; replace hv134_0 := Option.some.inj (hv134_0.symm.trans hx134_0); injection hv134_0 with hva_ hvn_ hvc_; rw [hva_] at ge134_0; rw [hvc_] at ul134_0; have HL134_0 := Aside0.mk (show Kd.V (Kd.int .i64) 3 _ w.heap.size _ _ (rd_L14 t115 0) from Kd.V_mk ul134_0 ge134_0); clear hva_ hvn_ hvc_ ge134_0 ul134_0; clear hcc134 hce134; have qi134 : (0 < t115.length) = True := eq_true (by omega); (try rw [show ((0 : Int)).toNat = 0 from rfl] at hx134_0); (try rw [Addr.add_zero'] at hx134_0); have HR134_0 := Aside0.mk hi134_0; have HC134_0 := Aside0.mk hl134_0; clear hi134_0 hl134_0; (try simp only [Go.IntWalk.toNatUp] at hx134_0); replace p134 := eq_true p134; replace q134 := eq_true q134; have hcz62_0 : w58.cell? ⟨gb122, 0, none⟩ = some (.int .i64 t119) := (blk_cell BK122.out 0).trans rfl; have hcz62_1 : w58.cell? ⟨gb122, 1, none⟩ = some (.int .i64 t120) := (blk_cell BK122.out 1).trans rfl; have hfz62_0 := blk_frozen BK122.out 0; have hfz62_1 := blk_frozen BK122.out 1; have hcz63_0 : w58.cell? ⟨gb130, 0, none⟩ = some (.int .i64 t127) := (blk_cell BK130.out 0).trans rfl; have hcz63_1 : w58.cell? ⟨gb130, 1, none⟩ = some (.int .i64 t128) := (blk_cell BK130.out 1).trans rfl; have hfz63_0 := blk_frozen BK130.out 0; have hfz63_1 := blk_frozen BK130.out 1))
             go_ret
             exact ⟨qe, qb⟩
            ·rw [if_neg c16] at H
             exact absurd H (by simp)
           ·rw [if_neg c15] at H
            exact absurd H (by simp)
          ·rw [if_neg c14] at H
           exact absurd H (by simp)
         ·rw [if_neg c13] at H
          exact absurd H (by simp)
        ·rw [if_neg c12] at H
         exact absurd H (by simp)
       ·rw [if_neg c11] at H
        exact absurd H (by simp)
      ·rw [if_neg c10] at H
       exact absurd H (by simp)
     ·rw [if_neg c9] at H
      exact absurd H (by simp)
    ·rw [if_neg c8] at H
     exact absurd H (by simp)
   ·rw [if_neg c7] at H
    exact absurd H (by simp)
  ·rw [if_neg c6] at H
   exact absurd H (by simp)
 ·rw [if_neg c5] at H
  exact absurd H (by simp)
end Go.Proofs.YtadocbfchdendaaGreatDoor.P
namespace Go.Proofs.YtadocbfchdendaaGreatDoor.P
open Go.RowKit Go.Proofs.YtadocbfchdendaaGreatDoorW.PrintWords Go.Proofs.YtadocbfchdendaaGreatDoorW.PrintLast Go.Proofs.YtadocbfchdendaaGreatDoorW.PrintMore
attribute [local go_sem] max2_int min2_int max_two min_two max_three min_three max_four min_four
set_option linter.unusedVariables false
set_option linter.unusedSimpArgs false
mutual
def entrepotlaw16_TourEither.j0 : Nat → ByteArray → Bool → Option (Bool)
 | 0, _, _ => none
 | k + 1, x0, x16 => if x16 = true then ((entrepotlaw16_shown.f k).bind fun t102 => (some t102)) else ((tour_ParseTour.f x0).bind fun bt103 => ((tour_ParseRoutes.f x0).bind fun bt110 => (if bt103.2.1 < 0 then (entrepotlaw16_TourEither.j1 k bt110.2.1 true bt103.1 bt110.2.2.1 bt110.2.2.2) else (if bt103.2.1 > (x0.size : Int) then (entrepotlaw16_TourEither.j1 k bt110.2.1 true bt103.1 bt110.2.2.1 bt110.2.2.2) else (if bt110.2.2.1 < 0 then (entrepotlaw16_TourEither.j1 k bt110.2.1 true bt103.1 bt110.2.2.1 bt110.2.2.2) else (if bt110.2.2.1 > (x0.size : Int) then (entrepotlaw16_TourEither.j1 k bt110.2.1 true bt103.1 bt110.2.2.1 bt110.2.2.2) else (if bt103.2.2 = 0 then (if bt110.2.2.2 = 0 then (entrepotlaw16_TourEither.j1 k bt110.2.1 ((bt103.1.length : Int) != 1) bt103.1 bt110.2.2.1 bt110.2.2.2) else (if (bt110.1.length : Int) > 0 then (entrepotlaw16_TourEither.j1 k bt110.2.1 true bt103.1 bt110.2.2.1 bt110.2.2.2) else (if bt110.2.1 = 0 then (entrepotlaw16_TourEither.j1 k bt110.2.1 ((bt103.1.length : Int) != 1) bt103.1 bt110.2.2.1 bt110.2.2.2) else (entrepotlaw16_TourEither.j1 k bt110.2.1 true bt103.1 bt110.2.2.1 bt110.2.2.2)))) else (if (bt103.1.length : Int) > 0 then (entrepotlaw16_TourEither.j1 k bt110.2.1 true bt103.1 bt110.2.2.1 bt110.2.2.2) else (if bt110.2.2.2 = 0 then (entrepotlaw16_TourEither.j1 k bt110.2.1 false bt103.1 bt110.2.2.1 bt110.2.2.2) else (if (bt110.1.length : Int) > 0 then (entrepotlaw16_TourEither.j1 k bt110.2.1 true bt103.1 bt110.2.2.1 bt110.2.2.2) else (if bt110.2.1 = 0 then (entrepotlaw16_TourEither.j1 k bt110.2.1 false bt103.1 bt110.2.2.1 bt110.2.2.2) else (entrepotlaw16_TourEither.j1 k bt110.2.1 true bt103.1 bt110.2.2.1 bt110.2.2.2))))))))))))
def entrepotlaw16_TourEither.j1 : Nat → Int → Bool → List (List Int) → Int → Int → Option (Bool)
 | 0, _, _, _, _, _ => none
 | k + 1, x6, x87, x109000, x118000, x118001 => if x87 = true then (none) else (entrepotlaw16_TourEither.l0 k x6 0 x109000 x118000 x118001)
def entrepotlaw16_TourEither.l0 : Nat → Int → Int → List (List Int) → Int → Int → Option (Bool)
 | 0, _, _, _, _, _ => none
 | k + 1, x6, x8, x109000, x118000, x118001 => if x8 < (x109000.length : Int) then (entrepotlaw16_TourEither.l1 k x6 x8 0 x109000 x118000 x118001) else (if x118001 = 0 then (some (decide (x6 ≥ (-100000000)))) else (some true))
def entrepotlaw16_TourEither.l1 : Nat → Int → Int → Int → List (List Int) → Int → Int → Option (Bool)
 | 0, _, _, _, _, _, _ => none
 | k + 1, x6, x8, x9, x109000, x118000, x118001 => if 0 ≤ x8 then (if x8 < (x109000.length : Int) then (if x9 < ((rd_L14 x109000 x8).length : Int) then (if 0 ≤ x9 then (if (rd (rd_L14 x109000 x8) x9) < 0 then (none) else (if (rd (rd_L14 x109000 x8) x9) ≥ ((rd_L14 x109000 x8).length : Int) then (none) else (entrepotlaw16_TourEither.l1 k x6 x8 (wrap64 (x9 + 1)) x109000 x118000 x118001))) else (none)) else (entrepotlaw16_TourEither.l0 k x6 (wrap64 (x8 + 1)) x109000 x118000 x118001)) else (none)) else (none)
end
def entrepotlaw16_TourEither.f (k : Nat) (a0 : ByteArray) : Option (Bool) := if (a0.size : Int) > 1000 then (entrepotlaw16_TourEither.j0 k a0 true) else ((entrepotlaw16_shown.f k).bind fun t101 => (entrepotlaw16_TourEither.j0 k a0 (!t101)))
theorem entrepotlaw16_TourEither.mono_l : ∀ k, (∀ y0 y1, LeO (entrepotlaw16_TourEither.j0 k y0 y1) (entrepotlaw16_TourEither.j0 (k + 1) y0 y1)) ∧ (∀ y0 y1 y2 y3 y4, LeO (entrepotlaw16_TourEither.j1 k y0 y1 y2 y3 y4) (entrepotlaw16_TourEither.j1 (k + 1) y0 y1 y2 y3 y4)) ∧ (∀ y0 y1 y2 y3 y4, LeO (entrepotlaw16_TourEither.l0 k y0 y1 y2 y3 y4) (entrepotlaw16_TourEither.l0 (k + 1) y0 y1 y2 y3 y4)) ∧ (∀ y0 y1 y2 y3 y4 y5, LeO (entrepotlaw16_TourEither.l1 k y0 y1 y2 y3 y4 y5) (entrepotlaw16_TourEither.l1 (k + 1) y0 y1 y2 y3 y4 y5))
 | 0 => ⟨fun _ _ r h => by simp [entrepotlaw16_TourEither.j0] at h, fun _ _ _ _ _ r h => by simp [entrepotlaw16_TourEither.j1] at h, fun _ _ _ _ _ r h => by simp [entrepotlaw16_TourEither.l0] at h, fun _ _ _ _ _ _ r h => by simp [entrepotlaw16_TourEither.l1] at h⟩
 | k + 1 => by
  obtain ⟨ih0, ih1, ih2, ih3⟩ := entrepotlaw16_TourEither.mono_l k; refine ⟨?_, ?_, ?_, ?_⟩
  ·intro y0 y1
   unfold entrepotlaw16_TourEither.j0
   repeat' first
   | (with_reducible exact ih0 _ _)
   | (with_reducible exact ih1 _ _ _ _ _)
   | (with_reducible exact ih2 _ _ _ _ _)
   | (with_reducible exact ih3 _ _ _ _ _ _)
   | (with_reducible exact entrepotlaw16_shown.mono _)
   | (with_reducible exact LeO.refl _)
   | (with_reducible exact LeO.none _)
   | (with_reducible refine LeO.ite ?_ ?_)
   | (with_reducible refine LeO.bind ?_ (fun _ => ?_))
   | exact ih0 _ _
   | exact ih1 _ _ _ _ _
   | exact ih2 _ _ _ _ _
   | exact ih3 _ _ _ _ _ _
   | exact entrepotlaw16_shown.mono _
   | exact LeO.none _
   | refine LeO.ite ?_ ?_
   | refine LeO.bind ?_ (fun _ => ?_)
  ·intro y0 y1 y2 y3 y4
   unfold entrepotlaw16_TourEither.j1
   repeat' first
   | (with_reducible exact ih0 _ _)
   | (with_reducible exact ih1 _ _ _ _ _)
   | (with_reducible exact ih2 _ _ _ _ _)
   | (with_reducible exact ih3 _ _ _ _ _ _)
   | (with_reducible exact entrepotlaw16_shown.mono _)
   | (with_reducible exact LeO.refl _)
   | (with_reducible exact LeO.none _)
   | (with_reducible refine LeO.ite ?_ ?_)
   | (with_reducible refine LeO.bind ?_ (fun _ => ?_))
   | exact ih0 _ _
   | exact ih1 _ _ _ _ _
   | exact ih2 _ _ _ _ _
   | exact ih3 _ _ _ _ _ _
   | exact entrepotlaw16_shown.mono _
   | exact LeO.none _
   | refine LeO.ite ?_ ?_
   | refine LeO.bind ?_ (fun _ => ?_)
  ·intro y0 y1 y2 y3 y4
   unfold entrepotlaw16_TourEither.l0
   repeat' first
   | (with_reducible exact ih0 _ _)
   | (with_reducible exact ih1 _ _ _ _ _)
   | (with_reducible exact ih2 _ _ _ _ _)
   | (with_reducible exact ih3 _ _ _ _ _ _)
   | (with_reducible exact entrepotlaw16_shown.mono _)
   | (with_reducible exact LeO.refl _)
   | (with_reducible exact LeO.none _)
   | (with_reducible refine LeO.ite ?_ ?_)
   | (with_reducible refine LeO.bind ?_ (fun _ => ?_))
   | exact ih0 _ _
   | exact ih1 _ _ _ _ _
   | exact ih2 _ _ _ _ _
   | exact ih3 _ _ _ _ _ _
   | exact entrepotlaw16_shown.mono _
   | exact LeO.none _
   | refine LeO.ite ?_ ?_
   | refine LeO.bind ?_ (fun _ => ?_)
  ·intro y0 y1 y2 y3 y4 y5
   unfold entrepotlaw16_TourEither.l1
   repeat' first
   | (with_reducible exact ih0 _ _)
   | (with_reducible exact ih1 _ _ _ _ _)
   | (with_reducible exact ih2 _ _ _ _ _)
   | (with_reducible exact ih3 _ _ _ _ _ _)
   | (with_reducible exact entrepotlaw16_shown.mono _)
   | (with_reducible exact LeO.refl _)
   | (with_reducible exact LeO.none _)
   | (with_reducible refine LeO.ite ?_ ?_)
   | (with_reducible refine LeO.bind ?_ (fun _ => ?_))
   | exact ih0 _ _
   | exact ih1 _ _ _ _ _
   | exact ih2 _ _ _ _ _
   | exact ih3 _ _ _ _ _ _
   | exact entrepotlaw16_shown.mono _
   | exact LeO.none _
   | refine LeO.ite ?_ ?_
   | refine LeO.bind ?_ (fun _ => ?_)
theorem entrepotlaw16_TourEither.mono : ∀ a0 k, LeO (entrepotlaw16_TourEither.f k a0) (entrepotlaw16_TourEither.f (k + 1) a0) := by
 intro a0 k
 obtain ⟨ih0, ih1, ih2, ih3⟩ := entrepotlaw16_TourEither.mono_l k; unfold entrepotlaw16_TourEither.f
 repeat' first
   | (with_reducible exact ih0 _ _)
   | (with_reducible exact ih1 _ _ _ _ _)
   | (with_reducible exact ih2 _ _ _ _ _)
   | (with_reducible exact ih3 _ _ _ _ _ _)
   | (with_reducible exact entrepotlaw16_shown.mono _)
   | (with_reducible exact LeO.refl _)
   | (with_reducible exact LeO.none _)
   | (with_reducible refine LeO.ite ?_ ?_)
   | (with_reducible refine LeO.bind ?_ (fun _ => ?_))
   | exact ih0 _ _
   | exact ih1 _ _ _ _ _
   | exact ih2 _ _ _ _ _
   | exact ih3 _ _ _ _ _ _
   | exact entrepotlaw16_shown.mono _
   | exact LeO.none _
   | refine LeO.ite ?_ ?_
   | refine LeO.bind ?_ (fun _ => ?_)
set_option maxHeartbeats 8000000 in
set_option maxRecDepth 100000 in
theorem entrepotlaw16_TourEither.calls (k : Nat) (a0 : ByteArray) (r : Bool) (w : World) (hT : Tabs w) (h : entrepotlaw16_TourEither.f k a0 = some r) :
  Calls Tryz.prog 10 #[.string a0] w fun e w' => e = .returned (.bool r) ∧ Below w.heap.size w w' := by
 have hu70 := Tryz.underlying70; have hu41 := Tryz.underlying41; have HT0 := Aside0.mk hT; clear hT; have HB := Aside0.mk (Below.refl w.heap.size w); have H : (if (a0.size : Int) > 1000 then (entrepotlaw16_TourEither.j0 k a0 true) else ((entrepotlaw16_shown.f k).bind fun t101 => (entrepotlaw16_TourEither.j0 k a0 (!t101)))) = some r := h; clear h; have HC2 := Aside0.mk H; clear H; go_enter Tryz.func10, Tryz.ntmps10
 go_upto_region 1 with (fail)
 repeat (go_quiet (fail); go_upto_region 1 with (fail))
 go_cut [16] (fun v16 wc => ∃ (kq : Nat) (x16_1 : Bool), v16 = .bool x16_1 ∧ Aside0 (entrepotlaw16_TourEither.j0 kq a0 x16_1 = some r) ∧ Aside0 (kq ≤ k) ∧ Aside0 (Below w.heap.size w wc))
 case first =>
  have H := HC2.out; clear HC2
  by_cases c3 : (a0.size : Int) > 1000
  ·rw [if_pos c3] at H; have c3b0 := decide_eq_true c3; have c3b1 : decide (1000 < a0.size) = true := decide_eq_true (by omega); clear c3; (first | rw [c3b0] | (simp only [i64_w, i32_w]; rw [c3b0]) | skip); have H' := Aside0.mk H; clear H
   go_wp2
   repeat (go_quiet (fail); try go_wp2)
   go_meet
   case rel => exact ⟨_, (true), qr, H', ⟨by first | omega | exact Nat.le_refl _⟩, ⟨qb⟩⟩
  ·rw [if_neg c3] at H; have c3b0 := decide_eq_false c3; have c3b1 : decide (1000 < a0.size) = false := decide_eq_false (by omega); clear c3; (first | rw [c3b0] | (simp only [i64_w, i32_w]; rw [c3b0]) | skip); replace H := Option.bind_eq_some_iff.mp H; obtain ⟨t101, A40, H⟩ := H; (try dsimp only at H); have A4 := Aside0.mk A40; clear A40; have H' := Aside0.mk H; clear H
   go_wp2_with (first | (go_at_call 33; (with_reducible refine (entrepotlaw16_shown.calls k  t101 _ (Tabs.kept HT0.out qb) A4.out).mono ?_); rintro e w5 ⟨rfl, hb⟩; replace HB := cB HB hb; (try clear hb); (try clear hb2); (try clear hk); (try clear hi)))
   repeat (go_quiet (first | (go_at_call 33; (try simp only [Go.IntWalk.i64_left]); (with_reducible refine (entrepotlaw16_shown.calls k  t101 _ (Tabs.kept HT0.out qb) A4.out).mono ?_); rintro e w5 ⟨rfl, hb⟩; replace HB := cB HB hb; (try clear hb); (try clear hb2); (try clear hk); (try clear hi))); (try simp only [Go.IntWalk.i64_left]); try go_wp2_with (first | (go_at_call 33; (try simp only [Go.IntWalk.i64_left]); (with_reducible refine (entrepotlaw16_shown.calls k  t101 _ (Tabs.kept HT0.out qb) A4.out).mono ?_); rintro e w5 ⟨rfl, hb⟩; replace HB := cB HB hb; (try clear hb); (try clear hb2); (try clear hk); (try clear hi))))
   go_meet
   case rel => exact ⟨_, (!t101), qr, H', ⟨by first | omega | exact Nat.le_refl _⟩, ⟨qb⟩⟩
 case rest =>
  clear HC2; (try clear c1); (try clear p2); (try clear c3); (try clear c3b0); (try clear c3b1); obtain ⟨kq, x16_1, rfl, HA, HJ1, HB⟩ := hcut; cases kq with
  | zero => exact absurd HA.out (by simp [entrepotlaw16_TourEither.j0])
  | succ kj1 =>
   have H := HA.out; clear HA; simp only [entrepotlaw16_TourEither.j0] at H
   by_cases c6 : x16_1 = true
   ·subst c6; have H1 : ((entrepotlaw16_shown.f kj1).bind fun t102 => (some t102)) = some r := by rw [if_pos rfl] at H; exact H
    clear H; have H := H1; clear H1; replace H := Option.bind_eq_some_iff.mp H; obtain ⟨t102, A70, H⟩ := H; (try dsimp only at H); have A7 := Aside0.mk A70; clear A70; obtain rfl := Option.some.inj H
    go_wp2_with (first | (go_at_call 33; (with_reducible refine (entrepotlaw16_shown.calls kj1  t102 _ (Tabs.kept HT0.out qb) A7.out).mono ?_); rintro e w8 ⟨rfl, hb⟩; replace HB := cB HB hb; (try clear hb); (try clear hb2); (try clear hk); (try clear hi)))
    repeat (go_quiet (first | (go_at_call 33; (try simp only [Go.IntWalk.i64_left]); (with_reducible refine (entrepotlaw16_shown.calls kj1  t102 _ (Tabs.kept HT0.out qb) A7.out).mono ?_); rintro e w8 ⟨rfl, hb⟩; replace HB := cB HB hb; (try clear hb); (try clear hb2); (try clear hk); (try clear hi))); (try simp only [Go.IntWalk.i64_left]); try go_wp2_with (first | (go_at_call 33; (try simp only [Go.IntWalk.i64_left]); (with_reducible refine (entrepotlaw16_shown.calls kj1  t102 _ (Tabs.kept HT0.out qb) A7.out).mono ?_); rintro e w8 ⟨rfl, hb⟩; replace HB := cB HB hb; (try clear hb); (try clear hb2); (try clear hk); (try clear hi))))
    go_ret
    exact ⟨qe, qb⟩
   ·replace c6 := Bool.eq_false_iff.mpr c6; subst c6; have H1 : ((tour_ParseTour.f a0).bind fun bt103 => ((tour_ParseRoutes.f a0).bind fun bt110 => (if bt103.2.1 < 0 then (entrepotlaw16_TourEither.j1 kj1 bt110.2.1 true bt103.1 bt110.2.2.1 bt110.2.2.2) else (if bt103.2.1 > (a0.size : Int) then (entrepotlaw16_TourEither.j1 kj1 bt110.2.1 true bt103.1 bt110.2.2.1 bt110.2.2.2) else (if bt110.2.2.1 < 0 then (entrepotlaw16_TourEither.j1 kj1 bt110.2.1 true bt103.1 bt110.2.2.1 bt110.2.2.2) else (if bt110.2.2.1 > (a0.size : Int) then (entrepotlaw16_TourEither.j1 kj1 bt110.2.1 true bt103.1 bt110.2.2.1 bt110.2.2.2) else (if bt103.2.2 = 0 then (if bt110.2.2.2 = 0 then (entrepotlaw16_TourEither.j1 kj1 bt110.2.1 ((bt103.1.length : Int) != 1) bt103.1 bt110.2.2.1 bt110.2.2.2) else (if (bt110.1.length : Int) > 0 then (entrepotlaw16_TourEither.j1 kj1 bt110.2.1 true bt103.1 bt110.2.2.1 bt110.2.2.2) else (if bt110.2.1 = 0 then (entrepotlaw16_TourEither.j1 kj1 bt110.2.1 ((bt103.1.length : Int) != 1) bt103.1 bt110.2.2.1 bt110.2.2.2) else (entrepotlaw16_TourEither.j1 kj1 bt110.2.1 true bt103.1 bt110.2.2.1 bt110.2.2.2)))) else (if (bt103.1.length : Int) > 0 then (entrepotlaw16_TourEither.j1 kj1 bt110.2.1 true bt103.1 bt110.2.2.1 bt110.2.2.2) else (if bt110.2.2.2 = 0 then (entrepotlaw16_TourEither.j1 kj1 bt110.2.1 false bt103.1 bt110.2.2.1 bt110.2.2.2) else (if (bt110.1.length : Int) > 0 then (entrepotlaw16_TourEither.j1 kj1 bt110.2.1 true bt103.1 bt110.2.2.1 bt110.2.2.2) else (if bt110.2.1 = 0 then (entrepotlaw16_TourEither.j1 kj1 bt110.2.1 false bt103.1 bt110.2.2.1 bt110.2.2.2) else (entrepotlaw16_TourEither.j1 kj1 bt110.2.1 true bt103.1 bt110.2.2.1 bt110.2.2.2)))))))))))) = some r := by rw [if_neg (show ¬ (false = true) by decide)] at H; exact H
    clear H; have H := H1; clear H1; replace H := Option.bind_eq_some_iff.mp H; obtain ⟨⟨t103, t106, t107⟩, A90, H⟩ := H; (try dsimp only at H); have A9 := Aside0.mk A90; clear A90; replace H := Option.bind_eq_some_iff.mp H; obtain ⟨⟨t110, t113, t114, t115⟩, A100, H⟩ := H; (try dsimp only at H); have A10 := Aside0.mk A100; clear A100; have HC11 := Aside0.mk H; clear H
    go_upto_region 5 with (first | (go_at_call 34; (with_reducible refine (tour_ParseTour.calls a0 t103 t106 t107 _ A9.out).mono ?_); rintro e w12 ⟨v104, rfl, ho0, hb⟩; have HO105 := Aside0.mk (Kd.S_lower ho0 (below_size qb)); replace HB := cB HB hb; (try clear hb); (try clear hb2); (try clear hk); (try clear hi); (try clear ho0)) | ((with_reducible refine gate_dst (N := 3) rfl ?_); (try (refine gate_guard (by rfl) ?_; dsimp only)); refine box_ev (N := 3) (cs := #[.slice none 0 0]) (t := 70) ?_; intro gb108 hg w13 hbox hb; have BK108 := Aside0.mk (hbox); have GW108 := Aside0.mk ((qg : w.heap.size ≤ gb108)); have GE108 := Aside0.mk ((qg : w.heap.size ≤ gb108)); replace HO105 := cS HO105 hb; replace HB := cB HB hb; clear hb hbox hg) | ((with_reducible refine gate_dst (N := 4) rfl ?_); (try (refine gate_guard (by rfl) ?_; dsimp only)); refine box_ev (N := 4) (cs := #[.int .i64 0, .int .i64 0]) (t := 41) ?_; intro gb109 hg w14 hbox hb; have BK109 := Aside0.mk (hbox); have GW109 := Aside0.mk ((qg : w.heap.size ≤ gb109)); have GE109 := Aside0.mk ((qg : w.heap.size ≤ gb109)); have NB108_109 := Aside0.mk ((by rw [hg]; exact Nat.ne_of_lt (blk_lt (g := gb108) (o := .cells #[.slice none 0 0] 70 (0, 0)) (qk BK108.out)) : gb108 ≠ gb109)); have NB109_108 := Aside0.mk ((by rw [hg]; exact Nat.ne_of_gt (blk_lt (g := gb108) (o := .cells #[.slice none 0 0] 70 (0, 0)) (qk BK108.out)) : gb109 ≠ gb108)); replace HO105 := cS HO105 hb; replace BK108 := cK BK108 hb; replace HB := cB HB hb; clear hb hbox hg; obtain ⟨Ao15, co15, eo15⟩ := Kd.S_slice HO105.out; subst eo15; have hnb16 := NB108_109.out; have hnc16 := NB109_108.out; have hcz17_0 : w14.cell? ⟨gb108, 0, none⟩ = some (.slice none 0 0) := (blk_cell BK108.out 0).trans rfl; have hfz17_0 := blk_frozen BK108.out 0; have hcz18_0 : w14.cell? ⟨gb109, 0, none⟩ = some (.int .i64 0) := (blk_cell BK109.out 0).trans rfl; have hcz18_1 : w14.cell? ⟨gb109, 1, none⟩ = some (.int .i64 0) := (blk_cell BK109.out 1).trans rfl; have hfz18_0 := blk_frozen BK109.out 0; have hfz18_1 := blk_frozen BK109.out 1) | (go_at_call 36; (with_reducible refine (tour_ParseRoutes.calls a0 t110 t113 t114 t115 _ (Tabs.kept HT0.out qb) A10.out).mono ?_); rintro e w19 ⟨v111, rfl, ho0, hb⟩; have n0_ := Aside0.mk (Kd.S_elder' (by refine qS ?_; exact (Kd.S_mono (Kd.S_mono (Kd.S_far (p := ⟨gb109, 1, none⟩) (Kd.S_far (p := ⟨gb109, 0, none⟩) (Kd.S_far (p := ⟨gb108, 0, none⟩) (Kd.S_types (Kd.S_types HO105.out BK108.out (by decide)) BK109.out (by decide)) (fun _ hk => hk.1.2) (.slice Ao15 t103.length co15)) (fun _ hk => hk.2) (.int .i64 t106)) (fun _ hk => hk.2) (.int .i64 t107)) (fun _ h_ => by first | exact h_.1 | exact ⟨trivial, h_.1⟩)) (fun _ h_ => by first | exact h_.1 | exact ⟨trivial, h_.1⟩))) (Kd.S_base ho0) hb); have HO112 := Aside0.mk (Kd.S_lower (Kd.S_new' ho0 (Kd.S_lt (by refine qS ?_; exact (Kd.S_mono (Kd.S_mono (Kd.S_far (p := ⟨gb109, 1, none⟩) (Kd.S_far (p := ⟨gb109, 0, none⟩) (Kd.S_far (p := ⟨gb108, 0, none⟩) (Kd.S_types (Kd.S_types HO105.out BK108.out (by decide)) BK109.out (by decide)) (fun _ hk => hk.1.2) (.slice Ao15 t103.length co15)) (fun _ hk => hk.2) (.int .i64 t106)) (fun _ hk => hk.2) (.int .i64 t107)) (fun _ h_ => by first | exact h_.1 | exact ⟨trivial, h_.1⟩)) (fun _ h_ => by first | exact h_.1 | exact ⟨trivial, h_.1⟩))))) (below_size qb)); have n2_ := Aside0.mk (blk_below (g := gb108) (o := .cells #[.slice Ao15 t103.length co15] 70 (0, 0)) (by refine qk ?_; refine blk_far ?_ NB108_109.out _; refine qk ?_; refine blk_far ?_ NB108_109.out _; refine qk ?_; refine blk_put (cs := #[.slice none 0 0]) ?_ 0 _ rfl; refine qk ?_; exact BK108.out) hb); have n3_ := Aside0.mk (blk_below (g := gb109) (o := .cells #[.int .i64 t106, .int .i64 t107] 41 (0, 0)) (by refine qk ?_; refine blk_put (cs := #[.int .i64 t106, .int .i64 0]) ?_ 1 _ rfl; refine qk ?_; refine blk_put (cs := #[.int .i64 0, .int .i64 0]) ?_ 0 _ rfl; refine qk ?_; refine blk_far ?_ NB109_108.out _; refine qk ?_; exact BK109.out) hb); replace HB := cB HB hb; replace HO105 := n0_; replace BK108 := n2_; replace BK109 := n3_; clear n0_ n2_ n3_; (try clear hb); (try clear hb2); (try clear hk); (try clear hi); (try clear ho0)) | ((with_reducible refine gate_dst (N := 5) rfl ?_); (try (refine gate_guard (by rfl) ?_; dsimp only)); refine box_ev (N := 5) (cs := #[.slice none 0 0]) (t := 70) ?_; intro gb116 hg w20 hbox hb; have BK116 := Aside0.mk (hbox); have GW116 := Aside0.mk ((qg : w.heap.size ≤ gb116)); have GE116 := Aside0.mk ((qg : w.heap.size ≤ gb116)); have NB108_116 := Aside0.mk ((by rw [hg]; exact Nat.ne_of_lt (blk_lt (g := gb108) (o := .cells #[.slice Ao15 t103.length co15] 70 (0, 0)) (qk BK108.out)) : gb108 ≠ gb116)); have NB116_108 := Aside0.mk ((by rw [hg]; exact Nat.ne_of_gt (blk_lt (g := gb108) (o := .cells #[.slice Ao15 t103.length co15] 70 (0, 0)) (qk BK108.out)) : gb116 ≠ gb108)); have NB109_116 := Aside0.mk ((by rw [hg]; exact Nat.ne_of_lt (blk_lt (g := gb109) (o := .cells #[.int .i64 t106, .int .i64 t107] 41 (0, 0)) (qk BK109.out)) : gb109 ≠ gb116)); have NB116_109 := Aside0.mk ((by rw [hg]; exact Nat.ne_of_gt (blk_lt (g := gb109) (o := .cells #[.int .i64 t106, .int .i64 t107] 41 (0, 0)) (qk BK109.out)) : gb116 ≠ gb109)); replace HO105 := cS HO105 hb; replace HO112 := cS HO112 hb; replace BK108 := cK BK108 hb; replace BK109 := cK BK109 hb; replace HB := cB HB hb; clear hb hbox hg) | ((with_reducible refine gate_dst (N := 7) rfl ?_); (try (refine gate_guard (by rfl) ?_; dsimp only)); refine box_ev (N := 7) (cs := #[.int .i64 0, .int .i64 0]) (t := 41) ?_; intro gb117 hg w21 hbox hb; have BK117 := Aside0.mk (hbox); have GW117 := Aside0.mk ((qg : w.heap.size ≤ gb117)); have GE117 := Aside0.mk ((qg : w.heap.size ≤ gb117)); have NB108_117 := Aside0.mk ((by rw [hg]; exact Nat.ne_of_lt (blk_lt (g := gb108) (o := .cells #[.slice Ao15 t103.length co15] 70 (0, 0)) (qk BK108.out)) : gb108 ≠ gb117)); have NB117_108 := Aside0.mk ((by rw [hg]; exact Nat.ne_of_gt (blk_lt (g := gb108) (o := .cells #[.slice Ao15 t103.length co15] 70 (0, 0)) (qk BK108.out)) : gb117 ≠ gb108)); have NB109_117 := Aside0.mk ((by rw [hg]; exact Nat.ne_of_lt (blk_lt (g := gb109) (o := .cells #[.int .i64 t106, .int .i64 t107] 41 (0, 0)) (qk BK109.out)) : gb109 ≠ gb117)); have NB117_109 := Aside0.mk ((by rw [hg]; exact Nat.ne_of_gt (blk_lt (g := gb109) (o := .cells #[.int .i64 t106, .int .i64 t107] 41 (0, 0)) (qk BK109.out)) : gb117 ≠ gb109)); have NB116_117 := Aside0.mk ((by rw [hg]; exact Nat.ne_of_lt (blk_lt (g := gb116) (o := .cells #[.slice none 0 0] 70 (0, 0)) (qk BK116.out)) : gb116 ≠ gb117)); have NB117_116 := Aside0.mk ((by rw [hg]; exact Nat.ne_of_gt (blk_lt (g := gb116) (o := .cells #[.slice none 0 0] 70 (0, 0)) (qk BK116.out)) : gb117 ≠ gb116)); replace HO105 := cS HO105 hb; replace HO112 := cS HO112 hb; replace BK108 := cK BK108 hb; replace BK109 := cK BK109 hb; replace BK116 := cK BK116 hb; replace HB := cB HB hb; clear hb hbox hg; obtain ⟨Ao22, co22, eo22⟩ := Kd.S_slice HO112.out; subst eo22; have hnb23 := NB116_108.out; have hnc23 := NB108_116.out; have hnb24 := NB116_109.out; have hnc24 := NB109_116.out; have hnb25 := NB116_117.out; have hnc25 := NB117_116.out; have hcz26_0 : w21.cell? ⟨gb116, 0, none⟩ = some (.slice none 0 0) := (blk_cell BK116.out 0).trans rfl; have hfz26_0 := blk_frozen BK116.out 0; have hnb27 := NB117_108.out; have hnc27 := NB108_117.out; have hnb28 := NB117_109.out; have hnc28 := NB109_117.out; have hcz29_0 : w21.cell? ⟨gb117, 0, none⟩ = some (.int .i64 0) := (blk_cell BK117.out 0).trans rfl; have hcz29_1 : w21.cell? ⟨gb117, 1, none⟩ = some (.int .i64 0) := (blk_cell BK117.out 1).trans rfl; have hfz29_0 := blk_frozen BK117.out 0; have hfz29_1 := blk_frozen BK117.out 1))
    repeat (go_quiet (first | (go_at_call 34; (try simp only [Go.IntWalk.i64_left]); (with_reducible refine (tour_ParseTour.calls a0 t103 t106 t107 _ A9.out).mono ?_); rintro e w12 ⟨v104, rfl, ho0, hb⟩; have HO105 := Aside0.mk (Kd.S_lower ho0 (below_size qb)); replace HB := cB HB hb; (try clear hb); (try clear hb2); (try clear hk); (try clear hi); (try clear ho0)) | ((with_reducible refine gate_dst (N := 3) rfl ?_); (try (refine gate_guard (by rfl) ?_; dsimp only)); refine box_ev (N := 3) (cs := #[.slice none 0 0]) (t := 70) ?_; intro gb108 hg w13 hbox hb; have BK108 := Aside0.mk (hbox); have GW108 := Aside0.mk ((qg : w.heap.size ≤ gb108)); have GE108 := Aside0.mk ((qg : w.heap.size ≤ gb108)); replace HO105 := cS HO105 hb; replace HB := cB HB hb; clear hb hbox hg) | ((with_reducible refine gate_dst (N := 4) rfl ?_); (try (refine gate_guard (by rfl) ?_; dsimp only)); refine box_ev (N := 4) (cs := #[.int .i64 0, .int .i64 0]) (t := 41) ?_; intro gb109 hg w14 hbox hb; have BK109 := Aside0.mk (hbox); have GW109 := Aside0.mk ((qg : w.heap.size ≤ gb109)); have GE109 := Aside0.mk ((qg : w.heap.size ≤ gb109)); have NB108_109 := Aside0.mk ((by rw [hg]; exact Nat.ne_of_lt (blk_lt (g := gb108) (o := .cells #[.slice none 0 0] 70 (0, 0)) (qk BK108.out)) : gb108 ≠ gb109)); have NB109_108 := Aside0.mk ((by rw [hg]; exact Nat.ne_of_gt (blk_lt (g := gb108) (o := .cells #[.slice none 0 0] 70 (0, 0)) (qk BK108.out)) : gb109 ≠ gb108)); replace HO105 := cS HO105 hb; replace BK108 := cK BK108 hb; replace HB := cB HB hb; clear hb hbox hg; obtain ⟨Ao15, co15, eo15⟩ := Kd.S_slice HO105.out; subst eo15; have hnb16 := NB108_109.out; have hnc16 := NB109_108.out; have hcz17_0 : w14.cell? ⟨gb108, 0, none⟩ = some (.slice none 0 0) := (blk_cell BK108.out 0).trans rfl; have hfz17_0 := blk_frozen BK108.out 0; have hcz18_0 : w14.cell? ⟨gb109, 0, none⟩ = some (.int .i64 0) := (blk_cell BK109.out 0).trans rfl; have hcz18_1 : w14.cell? ⟨gb109, 1, none⟩ = some (.int .i64 0) := (blk_cell BK109.out 1).trans rfl; have hfz18_0 := blk_frozen BK109.out 0; have hfz18_1 := blk_frozen BK109.out 1) | (go_at_call 36; (try simp only [Go.IntWalk.i64_left]); (with_reducible refine (tour_ParseRoutes.calls a0 t110 t113 t114 t115 _ (Tabs.kept HT0.out qb) A10.out).mono ?_); rintro e w19 ⟨v111, rfl, ho0, hb⟩; have n0_ := Aside0.mk (Kd.S_elder' (by refine qS ?_; exact (Kd.S_mono (Kd.S_mono (Kd.S_far (p := ⟨gb109, 1, none⟩) (Kd.S_far (p := ⟨gb109, 0, none⟩) (Kd.S_far (p := ⟨gb108, 0, none⟩) (Kd.S_types (Kd.S_types HO105.out BK108.out (by decide)) BK109.out (by decide)) (fun _ hk => hk.1.2) (.slice Ao15 t103.length co15)) (fun _ hk => hk.2) (.int .i64 t106)) (fun _ hk => hk.2) (.int .i64 t107)) (fun _ h_ => by first | exact h_.1 | exact ⟨trivial, h_.1⟩)) (fun _ h_ => by first | exact h_.1 | exact ⟨trivial, h_.1⟩))) (Kd.S_base ho0) hb); have HO112 := Aside0.mk (Kd.S_lower (Kd.S_new' ho0 (Kd.S_lt (by refine qS ?_; exact (Kd.S_mono (Kd.S_mono (Kd.S_far (p := ⟨gb109, 1, none⟩) (Kd.S_far (p := ⟨gb109, 0, none⟩) (Kd.S_far (p := ⟨gb108, 0, none⟩) (Kd.S_types (Kd.S_types HO105.out BK108.out (by decide)) BK109.out (by decide)) (fun _ hk => hk.1.2) (.slice Ao15 t103.length co15)) (fun _ hk => hk.2) (.int .i64 t106)) (fun _ hk => hk.2) (.int .i64 t107)) (fun _ h_ => by first | exact h_.1 | exact ⟨trivial, h_.1⟩)) (fun _ h_ => by first | exact h_.1 | exact ⟨trivial, h_.1⟩))))) (below_size qb)); have n2_ := Aside0.mk (blk_below (g := gb108) (o := .cells #[.slice Ao15 t103.length co15] 70 (0, 0)) (by refine qk ?_; refine blk_far ?_ NB108_109.out _; refine qk ?_; refine blk_far ?_ NB108_109.out _; refine qk ?_; refine blk_put (cs := #[.slice none 0 0]) ?_ 0 _ rfl; refine qk ?_; exact BK108.out) hb); have n3_ := Aside0.mk (blk_below (g := gb109) (o := .cells #[.int .i64 t106, .int .i64 t107] 41 (0, 0)) (by refine qk ?_; refine blk_put (cs := #[.int .i64 t106, .int .i64 0]) ?_ 1 _ rfl; refine qk ?_; refine blk_put (cs := #[.int .i64 0, .int .i64 0]) ?_ 0 _ rfl; refine qk ?_; refine blk_far ?_ NB109_108.out _; refine qk ?_; exact BK109.out) hb); replace HB := cB HB hb; replace HO105 := n0_; replace BK108 := n2_; replace BK109 := n3_; clear n0_ n2_ n3_; (try clear hb); (try clear hb2); (try clear hk); (try clear hi); (try clear ho0)) | ((with_reducible refine gate_dst (N := 5) rfl ?_); (try (refine gate_guard (by rfl) ?_; dsimp only)); refine box_ev (N := 5) (cs := #[.slice none 0 0]) (t := 70) ?_; intro gb116 hg w20 hbox hb; have BK116 := Aside0.mk (hbox); have GW116 := Aside0.mk ((qg : w.heap.size ≤ gb116)); have GE116 := Aside0.mk ((qg : w.heap.size ≤ gb116)); have NB108_116 := Aside0.mk ((by rw [hg]; exact Nat.ne_of_lt (blk_lt (g := gb108) (o := .cells #[.slice Ao15 t103.length co15] 70 (0, 0)) (qk BK108.out)) : gb108 ≠ gb116)); have NB116_108 := Aside0.mk ((by rw [hg]; exact Nat.ne_of_gt (blk_lt (g := gb108) (o := .cells #[.slice Ao15 t103.length co15] 70 (0, 0)) (qk BK108.out)) : gb116 ≠ gb108)); have NB109_116 := Aside0.mk ((by rw [hg]; exact Nat.ne_of_lt (blk_lt (g := gb109) (o := .cells #[.int .i64 t106, .int .i64 t107] 41 (0, 0)) (qk BK109.out)) : gb109 ≠ gb116)); have NB116_109 := Aside0.mk ((by rw [hg]; exact Nat.ne_of_gt (blk_lt (g := gb109) (o := .cells #[.int .i64 t106, .int .i64 t107] 41 (0, 0)) (qk BK109.out)) : gb116 ≠ gb109)); replace HO105 := cS HO105 hb; replace HO112 := cS HO112 hb; replace BK108 := cK BK108 hb; replace BK109 := cK BK109 hb; replace HB := cB HB hb; clear hb hbox hg) | ((with_reducible refine gate_dst (N := 7) rfl ?_); (try (refine gate_guard (by rfl) ?_; dsimp only)); refine box_ev (N := 7) (cs := #[.int .i64 0, .int .i64 0]) (t := 41) ?_; intro gb117 hg w21 hbox hb; have BK117 := Aside0.mk (hbox); have GW117 := Aside0.mk ((qg : w.heap.size ≤ gb117)); have GE117 := Aside0.mk ((qg : w.heap.size ≤ gb117)); have NB108_117 := Aside0.mk ((by rw [hg]; exact Nat.ne_of_lt (blk_lt (g := gb108) (o := .cells #[.slice Ao15 t103.length co15] 70 (0, 0)) (qk BK108.out)) : gb108 ≠ gb117)); have NB117_108 := Aside0.mk ((by rw [hg]; exact Nat.ne_of_gt (blk_lt (g := gb108) (o := .cells #[.slice Ao15 t103.length co15] 70 (0, 0)) (qk BK108.out)) : gb117 ≠ gb108)); have NB109_117 := Aside0.mk ((by rw [hg]; exact Nat.ne_of_lt (blk_lt (g := gb109) (o := .cells #[.int .i64 t106, .int .i64 t107] 41 (0, 0)) (qk BK109.out)) : gb109 ≠ gb117)); have NB117_109 := Aside0.mk ((by rw [hg]; exact Nat.ne_of_gt (blk_lt (g := gb109) (o := .cells #[.int .i64 t106, .int .i64 t107] 41 (0, 0)) (qk BK109.out)) : gb117 ≠ gb109)); have NB116_117 := Aside0.mk ((by rw [hg]; exact Nat.ne_of_lt (blk_lt (g := gb116) (o := .cells #[.slice none 0 0] 70 (0, 0)) (qk BK116.out)) : gb116 ≠ gb117)); have NB117_116 := Aside0.mk ((by rw [hg]; exact Nat.ne_of_gt (blk_lt (g := gb116) (o := .cells #[.slice none 0 0] 70 (0, 0)) (qk BK116.out)) : gb117 ≠ gb116)); replace HO105 := cS HO105 hb; replace HO112 := cS HO112 hb; replace BK108 := cK BK108 hb; replace BK109 := cK BK109 hb; replace BK116 := cK BK116 hb; replace HB := cB HB hb; clear hb hbox hg; obtain ⟨Ao22, co22, eo22⟩ := Kd.S_slice HO112.out; subst eo22; have hnb23 := NB116_108.out; have hnc23 := NB108_116.out; have hnb24 := NB116_109.out; have hnc24 := NB109_116.out; have hnb25 := NB116_117.out; have hnc25 := NB117_116.out; have hcz26_0 : w21.cell? ⟨gb116, 0, none⟩ = some (.slice none 0 0) := (blk_cell BK116.out 0).trans rfl; have hfz26_0 := blk_frozen BK116.out 0; have hnb27 := NB117_108.out; have hnc27 := NB108_117.out; have hnb28 := NB117_109.out; have hnc28 := NB109_117.out; have hcz29_0 : w21.cell? ⟨gb117, 0, none⟩ = some (.int .i64 0) := (blk_cell BK117.out 0).trans rfl; have hcz29_1 : w21.cell? ⟨gb117, 1, none⟩ = some (.int .i64 0) := (blk_cell BK117.out 1).trans rfl; have hfz29_0 := blk_frozen BK117.out 0; have hfz29_1 := blk_frozen BK117.out 1)); go_upto_region 5 with (first | (go_at_call 34; (try simp only [Go.IntWalk.i64_left]); (with_reducible refine (tour_ParseTour.calls a0 t103 t106 t107 _ A9.out).mono ?_); rintro e w12 ⟨v104, rfl, ho0, hb⟩; have HO105 := Aside0.mk (Kd.S_lower ho0 (below_size qb)); replace HB := cB HB hb; (try clear hb); (try clear hb2); (try clear hk); (try clear hi); (try clear ho0)) | ((with_reducible refine gate_dst (N := 3) rfl ?_); (try (refine gate_guard (by rfl) ?_; dsimp only)); refine box_ev (N := 3) (cs := #[.slice none 0 0]) (t := 70) ?_; intro gb108 hg w13 hbox hb; have BK108 := Aside0.mk (hbox); have GW108 := Aside0.mk ((qg : w.heap.size ≤ gb108)); have GE108 := Aside0.mk ((qg : w.heap.size ≤ gb108)); replace HO105 := cS HO105 hb; replace HB := cB HB hb; clear hb hbox hg) | ((with_reducible refine gate_dst (N := 4) rfl ?_); (try (refine gate_guard (by rfl) ?_; dsimp only)); refine box_ev (N := 4) (cs := #[.int .i64 0, .int .i64 0]) (t := 41) ?_; intro gb109 hg w14 hbox hb; have BK109 := Aside0.mk (hbox); have GW109 := Aside0.mk ((qg : w.heap.size ≤ gb109)); have GE109 := Aside0.mk ((qg : w.heap.size ≤ gb109)); have NB108_109 := Aside0.mk ((by rw [hg]; exact Nat.ne_of_lt (blk_lt (g := gb108) (o := .cells #[.slice none 0 0] 70 (0, 0)) (qk BK108.out)) : gb108 ≠ gb109)); have NB109_108 := Aside0.mk ((by rw [hg]; exact Nat.ne_of_gt (blk_lt (g := gb108) (o := .cells #[.slice none 0 0] 70 (0, 0)) (qk BK108.out)) : gb109 ≠ gb108)); replace HO105 := cS HO105 hb; replace BK108 := cK BK108 hb; replace HB := cB HB hb; clear hb hbox hg; obtain ⟨Ao15, co15, eo15⟩ := Kd.S_slice HO105.out; subst eo15; have hnb16 := NB108_109.out; have hnc16 := NB109_108.out; have hcz17_0 : w14.cell? ⟨gb108, 0, none⟩ = some (.slice none 0 0) := (blk_cell BK108.out 0).trans rfl; have hfz17_0 := blk_frozen BK108.out 0; have hcz18_0 : w14.cell? ⟨gb109, 0, none⟩ = some (.int .i64 0) := (blk_cell BK109.out 0).trans rfl; have hcz18_1 : w14.cell? ⟨gb109, 1, none⟩ = some (.int .i64 0) := (blk_cell BK109.out 1).trans rfl; have hfz18_0 := blk_frozen BK109.out 0; have hfz18_1 := blk_frozen BK109.out 1) | (go_at_call 36; (try simp only [Go.IntWalk.i64_left]); (with_reducible refine (tour_ParseRoutes.calls a0 t110 t113 t114 t115 _ (Tabs.kept HT0.out qb) A10.out).mono ?_); rintro e w19 ⟨v111, rfl, ho0, hb⟩; have n0_ := Aside0.mk (Kd.S_elder' (by refine qS ?_; exact (Kd.S_mono (Kd.S_mono (Kd.S_far (p := ⟨gb109, 1, none⟩) (Kd.S_far (p := ⟨gb109, 0, none⟩) (Kd.S_far (p := ⟨gb108, 0, none⟩) (Kd.S_types (Kd.S_types HO105.out BK108.out (by decide)) BK109.out (by decide)) (fun _ hk => hk.1.2) (.slice Ao15 t103.length co15)) (fun _ hk => hk.2) (.int .i64 t106)) (fun _ hk => hk.2) (.int .i64 t107)) (fun _ h_ => by first | exact h_.1 | exact ⟨trivial, h_.1⟩)) (fun _ h_ => by first | exact h_.1 | exact ⟨trivial, h_.1⟩))) (Kd.S_base ho0) hb); have HO112 := Aside0.mk (Kd.S_lower (Kd.S_new' ho0 (Kd.S_lt (by refine qS ?_; exact (Kd.S_mono (Kd.S_mono (Kd.S_far (p := ⟨gb109, 1, none⟩) (Kd.S_far (p := ⟨gb109, 0, none⟩) (Kd.S_far (p := ⟨gb108, 0, none⟩) (Kd.S_types (Kd.S_types HO105.out BK108.out (by decide)) BK109.out (by decide)) (fun _ hk => hk.1.2) (.slice Ao15 t103.length co15)) (fun _ hk => hk.2) (.int .i64 t106)) (fun _ hk => hk.2) (.int .i64 t107)) (fun _ h_ => by first | exact h_.1 | exact ⟨trivial, h_.1⟩)) (fun _ h_ => by first | exact h_.1 | exact ⟨trivial, h_.1⟩))))) (below_size qb)); have n2_ := Aside0.mk (blk_below (g := gb108) (o := .cells #[.slice Ao15 t103.length co15] 70 (0, 0)) (by refine qk ?_; refine blk_far ?_ NB108_109.out _; refine qk ?_; refine blk_far ?_ NB108_109.out _; refine qk ?_; refine blk_put (cs := #[.slice none 0 0]) ?_ 0 _ rfl; refine qk ?_; exact BK108.out) hb); have n3_ := Aside0.mk (blk_below (g := gb109) (o := .cells #[.int .i64 t106, .int .i64 t107] 41 (0, 0)) (by refine qk ?_; refine blk_put (cs := #[.int .i64 t106, .int .i64 0]) ?_ 1 _ rfl; refine qk ?_; refine blk_put (cs := #[.int .i64 0, .int .i64 0]) ?_ 0 _ rfl; refine qk ?_; refine blk_far ?_ NB109_108.out _; refine qk ?_; exact BK109.out) hb); replace HB := cB HB hb; replace HO105 := n0_; replace BK108 := n2_; replace BK109 := n3_; clear n0_ n2_ n3_; (try clear hb); (try clear hb2); (try clear hk); (try clear hi); (try clear ho0)) | ((with_reducible refine gate_dst (N := 5) rfl ?_); (try (refine gate_guard (by rfl) ?_; dsimp only)); refine box_ev (N := 5) (cs := #[.slice none 0 0]) (t := 70) ?_; intro gb116 hg w20 hbox hb; have BK116 := Aside0.mk (hbox); have GW116 := Aside0.mk ((qg : w.heap.size ≤ gb116)); have GE116 := Aside0.mk ((qg : w.heap.size ≤ gb116)); have NB108_116 := Aside0.mk ((by rw [hg]; exact Nat.ne_of_lt (blk_lt (g := gb108) (o := .cells #[.slice Ao15 t103.length co15] 70 (0, 0)) (qk BK108.out)) : gb108 ≠ gb116)); have NB116_108 := Aside0.mk ((by rw [hg]; exact Nat.ne_of_gt (blk_lt (g := gb108) (o := .cells #[.slice Ao15 t103.length co15] 70 (0, 0)) (qk BK108.out)) : gb116 ≠ gb108)); have NB109_116 := Aside0.mk ((by rw [hg]; exact Nat.ne_of_lt (blk_lt (g := gb109) (o := .cells #[.int .i64 t106, .int .i64 t107] 41 (0, 0)) (qk BK109.out)) : gb109 ≠ gb116)); have NB116_109 := Aside0.mk ((by rw [hg]; exact Nat.ne_of_gt (blk_lt (g := gb109) (o := .cells #[.int .i64 t106, .int .i64 t107] 41 (0, 0)) (qk BK109.out)) : gb116 ≠ gb109)); replace HO105 := cS HO105 hb; replace HO112 := cS HO112 hb; replace BK108 := cK BK108 hb; replace BK109 := cK BK109 hb; replace HB := cB HB hb; clear hb hbox hg) | ((with_reducible refine gate_dst (N := 7) rfl ?_); (try (refine gate_guard (by rfl) ?_; dsimp only)); refine box_ev (N := 7) (cs := #[.int .i64 0, .int .i64 0]) (t := 41) ?_; intro gb117 hg w21 hbox hb; have BK117 := Aside0.mk (hbox); have GW117 := Aside0.mk ((qg : w.heap.size ≤ gb117)); have GE117 := Aside0.mk ((qg : w.heap.size ≤ gb117)); have NB108_117 := Aside0.mk ((by rw [hg]; exact Nat.ne_of_lt (blk_lt (g := gb108) (o := .cells #[.slice Ao15 t103.length co15] 70 (0, 0)) (qk BK108.out)) : gb108 ≠ gb117)); have NB117_108 := Aside0.mk ((by rw [hg]; exact Nat.ne_of_gt (blk_lt (g := gb108) (o := .cells #[.slice Ao15 t103.length co15] 70 (0, 0)) (qk BK108.out)) : gb117 ≠ gb108)); have NB109_117 := Aside0.mk ((by rw [hg]; exact Nat.ne_of_lt (blk_lt (g := gb109) (o := .cells #[.int .i64 t106, .int .i64 t107] 41 (0, 0)) (qk BK109.out)) : gb109 ≠ gb117)); have NB117_109 := Aside0.mk ((by rw [hg]; exact Nat.ne_of_gt (blk_lt (g := gb109) (o := .cells #[.int .i64 t106, .int .i64 t107] 41 (0, 0)) (qk BK109.out)) : gb117 ≠ gb109)); have NB116_117 := Aside0.mk ((by rw [hg]; exact Nat.ne_of_lt (blk_lt (g := gb116) (o := .cells #[.slice none 0 0] 70 (0, 0)) (qk BK116.out)) : gb116 ≠ gb117)); have NB117_116 := Aside0.mk ((by rw [hg]; exact Nat.ne_of_gt (blk_lt (g := gb116) (o := .cells #[.slice none 0 0] 70 (0, 0)) (qk BK116.out)) : gb117 ≠ gb116)); replace HO105 := cS HO105 hb; replace HO112 := cS HO112 hb; replace BK108 := cK BK108 hb; replace BK109 := cK BK109 hb; replace BK116 := cK BK116 hb; replace HB := cB HB hb; clear hb hbox hg; obtain ⟨Ao22, co22, eo22⟩ := Kd.S_slice HO112.out; subst eo22; have hnb23 := NB116_108.out; have hnc23 := NB108_116.out; have hnb24 := NB116_109.out; have hnc24 := NB109_116.out; have hnb25 := NB116_117.out; have hnc25 := NB117_116.out; have hcz26_0 : w21.cell? ⟨gb116, 0, none⟩ = some (.slice none 0 0) := (blk_cell BK116.out 0).trans rfl; have hfz26_0 := blk_frozen BK116.out 0; have hnb27 := NB117_108.out; have hnc27 := NB108_117.out; have hnb28 := NB117_109.out; have hnc28 := NB109_117.out; have hcz29_0 : w21.cell? ⟨gb117, 0, none⟩ = some (.int .i64 0) := (blk_cell BK117.out 0).trans rfl; have hcz29_1 : w21.cell? ⟨gb117, 1, none⟩ = some (.int .i64 0) := (blk_cell BK117.out 1).trans rfl; have hfz29_0 := blk_frozen BK117.out 0; have hfz29_1 := blk_frozen BK117.out 1)))
    (try simp only [Act.put, List.setIfInBounds_toArray, List.set_cons_zero, List.set_cons_succ])
    go_cut [87] (fun v87 wc => ∃ (kq : Nat) (x87_10 : Bool), v87 = .bool x87_10 ∧ Aside0 (entrepotlaw16_TourEither.j1 kq t113 x87_10 t103 t114 t115 = some r) ∧ Aside0 (kq ≤ kj1) ∧ Aside0 (Kd.S (Kd.slice 3 (Kd.int .i64)) 38 wc w.heap.size (fun k_ => some k_ ≠ ((.slice Ao22 t110.length co22) : Value).ownBlock) (.slice Ao15 t103.length co15) t103) ∧ Aside0 (Kd.S (Kd.slice 3 (Kd.int .i64)) 38 wc w.heap.size (fun k_ => some k_ ≠ ((.slice Ao15 t103.length co15) : Value).ownBlock) (.slice Ao22 t110.length co22) t110) ∧ Aside0 (wc.heap[gb108]? = some (.cells #[(.slice Ao15 t103.length co15)] 70 (0, 0))) ∧ Aside0 (wc.heap[gb109]? = some (.cells #[.int .i64 t106, .int .i64 t107] 41 (0, 0))) ∧ Aside0 (wc.heap[gb116]? = some (.cells #[(.slice Ao22 t110.length co22)] 70 (0, 0))) ∧ Aside0 (wc.heap[gb117]? = some (.cells #[.int .i64 t114, .int .i64 t115] 41 (0, 0))) ∧ Aside0 (Below w.heap.size w wc))
    case first =>
     have H := HC11.out; clear HC11
     by_cases c30 : t106 < 0
     ·rw [if_pos c30] at H; have c30b0 := decide_eq_true c30; clear c30; (first | rw [c30b0] | (simp only [i64_w, i32_w]; rw [c30b0]) | skip); have H' := Aside0.mk H; clear H; have hnb31 := NB109_108.out; have hnc31 := NB108_109.out; have hnb32 := NB109_116.out; have hnc32 := NB116_109.out; have hnb33 := NB109_117.out; have hnc33 := NB117_109.out; obtain ⟨hcz34_0, hcz34_1, hfz34_0, hfz34_1⟩ := bc2 BK109.out
      go_wp2
      repeat (go_quiet (fail); try go_wp2)
      go_meet
      case rel => exact ⟨_, (true), qr, H', ⟨by have := HJ1.out; first | omega | exact Nat.le_refl _⟩, ⟨by refine qS ?_; exact Kd.S_mono (Kd.S_far (p := ⟨gb117, 1, none⟩) (Kd.S_far (p := ⟨gb117, 0, none⟩) (Kd.S_far (p := ⟨gb116, 0, none⟩) (Kd.S_types (Kd.S_types HO105.out BK116.out (by decide)) BK117.out (by decide)) (fun _ hk => hk.1.2) (.slice Ao22 t110.length co22)) (fun _ hk => hk.2) (.int .i64 t114)) (fun _ hk => hk.2) (.int .i64 t115)) (fun _ hk => hk.1.1.2)⟩, ⟨by refine qS ?_; exact Kd.S_mono (Kd.S_far (p := ⟨gb117, 1, none⟩) (Kd.S_far (p := ⟨gb117, 0, none⟩) (Kd.S_far (p := ⟨gb116, 0, none⟩) (Kd.S_types (Kd.S_types HO112.out BK116.out (by decide)) BK117.out (by decide)) (fun _ hk => hk.1.2) (.slice Ao22 t110.length co22)) (fun _ hk => hk.2) (.int .i64 t114)) (fun _ hk => hk.2) (.int .i64 t115)) (fun _ hk => hk.1.1.2)⟩, ⟨by refine qk ?_; refine blk_far ?_ NB108_117.out _; refine qk ?_; refine blk_far ?_ NB108_117.out _; refine qk ?_; refine blk_far ?_ NB108_116.out _; refine qk ?_; exact BK108.out⟩, ⟨by refine qk ?_; refine blk_far ?_ NB109_117.out _; refine qk ?_; refine blk_far ?_ NB109_117.out _; refine qk ?_; refine blk_far ?_ NB109_116.out _; refine qk ?_; exact BK109.out⟩, ⟨by refine qk ?_; refine blk_far ?_ NB116_117.out _; refine qk ?_; refine blk_far ?_ NB116_117.out _; refine qk ?_; refine blk_put (cs := #[.slice none 0 0]) ?_ 0 _ rfl; refine qk ?_; exact BK116.out⟩, ⟨by refine qk ?_; refine blk_put (cs := #[.int .i64 t114, .int .i64 0]) ?_ 1 _ rfl; refine qk ?_; refine blk_put (cs := #[.int .i64 0, .int .i64 0]) ?_ 0 _ rfl; refine qk ?_; refine blk_far ?_ NB117_116.out _; refine qk ?_; exact BK117.out⟩, ⟨qb⟩⟩
     ·rw [if_neg c30] at H; have c30b0 := decide_eq_false c30; clear c30; (first | rw [c30b0] | (simp only [i64_w, i32_w]; rw [c30b0]) | skip)
      by_cases c35 : t106 > (a0.size : Int)
      ·rw [if_pos c35] at H; have c35b0 := decide_eq_true c35; clear c35; have H' := Aside0.mk H; clear H; have hnb36 := NB109_108.out; have hnc36 := NB108_109.out; have hnb37 := NB109_116.out; have hnc37 := NB116_109.out; have hnb38 := NB109_117.out; have hnc38 := NB117_109.out; obtain ⟨hcz39_0, hcz39_1, hfz39_0, hfz39_1⟩ := bc2 BK109.out
       go_wp2
       repeat (go_quiet (fail); try go_wp2)
       go_meet
       case rel => exact ⟨_, (true), qr, H', ⟨by have := HJ1.out; first | omega | exact Nat.le_refl _⟩, ⟨by refine qS ?_; exact Kd.S_mono (Kd.S_far (p := ⟨gb117, 1, none⟩) (Kd.S_far (p := ⟨gb117, 0, none⟩) (Kd.S_far (p := ⟨gb116, 0, none⟩) (Kd.S_types (Kd.S_types HO105.out BK116.out (by decide)) BK117.out (by decide)) (fun _ hk => hk.1.2) (.slice Ao22 t110.length co22)) (fun _ hk => hk.2) (.int .i64 t114)) (fun _ hk => hk.2) (.int .i64 t115)) (fun _ hk => hk.1.1.2)⟩, ⟨by refine qS ?_; exact Kd.S_mono (Kd.S_far (p := ⟨gb117, 1, none⟩) (Kd.S_far (p := ⟨gb117, 0, none⟩) (Kd.S_far (p := ⟨gb116, 0, none⟩) (Kd.S_types (Kd.S_types HO112.out BK116.out (by decide)) BK117.out (by decide)) (fun _ hk => hk.1.2) (.slice Ao22 t110.length co22)) (fun _ hk => hk.2) (.int .i64 t114)) (fun _ hk => hk.2) (.int .i64 t115)) (fun _ hk => hk.1.1.2)⟩, ⟨by refine qk ?_; refine blk_far ?_ NB108_117.out _; refine qk ?_; refine blk_far ?_ NB108_117.out _; refine qk ?_; refine blk_far ?_ NB108_116.out _; refine qk ?_; exact BK108.out⟩, ⟨by refine qk ?_; refine blk_far ?_ NB109_117.out _; refine qk ?_; refine blk_far ?_ NB109_117.out _; refine qk ?_; refine blk_far ?_ NB109_116.out _; refine qk ?_; exact BK109.out⟩, ⟨by refine qk ?_; refine blk_far ?_ NB116_117.out _; refine qk ?_; refine blk_far ?_ NB116_117.out _; refine qk ?_; refine blk_put (cs := #[.slice none 0 0]) ?_ 0 _ rfl; refine qk ?_; exact BK116.out⟩, ⟨by refine qk ?_; refine blk_put (cs := #[.int .i64 t114, .int .i64 0]) ?_ 1 _ rfl; refine qk ?_; refine blk_put (cs := #[.int .i64 0, .int .i64 0]) ?_ 0 _ rfl; refine qk ?_; refine blk_far ?_ NB117_116.out _; refine qk ?_; exact BK117.out⟩, ⟨qb⟩⟩
      ·rw [if_neg c35] at H; have c35b0 := decide_eq_false c35; clear c35
       by_cases c40 : t114 < 0
       ·rw [if_pos c40] at H; have c40b0 := decide_eq_true c40; clear c40; have H' := Aside0.mk H; clear H; have hnb41 := NB109_108.out; have hnc41 := NB108_109.out; have hnb42 := NB109_116.out; have hnc42 := NB116_109.out; have hnb43 := NB109_117.out; have hnc43 := NB117_109.out; obtain ⟨hcz44_0, hcz44_1, hfz44_0, hfz44_1⟩ := bc2 BK109.out; have hnb45 := NB117_108.out; have hnc45 := NB108_117.out; have hnb46 := NB117_116.out; have hnc46 := NB116_117.out; obtain ⟨hcz47_0, hcz47_1, hfz47_0, hfz47_1⟩ := bc2 BK117.out
        go_wp2
        repeat (go_quiet (fail); try go_wp2)
        go_meet
        case rel => exact ⟨_, (true), qr, H', ⟨by have := HJ1.out; first | omega | exact Nat.le_refl _⟩, ⟨by refine qS ?_; exact Kd.S_mono (Kd.S_far (p := ⟨gb117, 1, none⟩) (Kd.S_far (p := ⟨gb117, 0, none⟩) (Kd.S_far (p := ⟨gb116, 0, none⟩) (Kd.S_types (Kd.S_types HO105.out BK116.out (by decide)) BK117.out (by decide)) (fun _ hk => hk.1.2) (.slice Ao22 t110.length co22)) (fun _ hk => hk.2) (.int .i64 t114)) (fun _ hk => hk.2) (.int .i64 t115)) (fun _ hk => hk.1.1.2)⟩, ⟨by refine qS ?_; exact Kd.S_mono (Kd.S_far (p := ⟨gb117, 1, none⟩) (Kd.S_far (p := ⟨gb117, 0, none⟩) (Kd.S_far (p := ⟨gb116, 0, none⟩) (Kd.S_types (Kd.S_types HO112.out BK116.out (by decide)) BK117.out (by decide)) (fun _ hk => hk.1.2) (.slice Ao22 t110.length co22)) (fun _ hk => hk.2) (.int .i64 t114)) (fun _ hk => hk.2) (.int .i64 t115)) (fun _ hk => hk.1.1.2)⟩, ⟨by refine qk ?_; refine blk_far ?_ NB108_117.out _; refine qk ?_; refine blk_far ?_ NB108_117.out _; refine qk ?_; refine blk_far ?_ NB108_116.out _; refine qk ?_; exact BK108.out⟩, ⟨by refine qk ?_; refine blk_far ?_ NB109_117.out _; refine qk ?_; refine blk_far ?_ NB109_117.out _; refine qk ?_; refine blk_far ?_ NB109_116.out _; refine qk ?_; exact BK109.out⟩, ⟨by refine qk ?_; refine blk_far ?_ NB116_117.out _; refine qk ?_; refine blk_far ?_ NB116_117.out _; refine qk ?_; refine blk_put (cs := #[.slice none 0 0]) ?_ 0 _ rfl; refine qk ?_; exact BK116.out⟩, ⟨by refine qk ?_; refine blk_put (cs := #[.int .i64 t114, .int .i64 0]) ?_ 1 _ rfl; refine qk ?_; refine blk_put (cs := #[.int .i64 0, .int .i64 0]) ?_ 0 _ rfl; refine qk ?_; refine blk_far ?_ NB117_116.out _; refine qk ?_; exact BK117.out⟩, ⟨qb⟩⟩
       ·rw [if_neg c40] at H; have c40b0 := decide_eq_false c40; clear c40
        by_cases c48 : t114 > (a0.size : Int)
        ·rw [if_pos c48] at H; have c48b0 := decide_eq_true c48; clear c48; have H' := Aside0.mk H; clear H; have hnb49 := NB109_108.out; have hnc49 := NB108_109.out; have hnb50 := NB109_116.out; have hnc50 := NB116_109.out; have hnb51 := NB109_117.out; have hnc51 := NB117_109.out; obtain ⟨hcz52_0, hcz52_1, hfz52_0, hfz52_1⟩ := bc2 BK109.out; have hnb53 := NB117_108.out; have hnc53 := NB108_117.out; have hnb54 := NB117_116.out; have hnc54 := NB116_117.out; obtain ⟨hcz55_0, hcz55_1, hfz55_0, hfz55_1⟩ := bc2 BK117.out
         go_wp2
         repeat (go_quiet (fail); try go_wp2)
         go_meet
         case rel => exact ⟨_, (true), qr, H', ⟨by have := HJ1.out; first | omega | exact Nat.le_refl _⟩, ⟨by refine qS ?_; exact Kd.S_mono (Kd.S_far (p := ⟨gb117, 1, none⟩) (Kd.S_far (p := ⟨gb117, 0, none⟩) (Kd.S_far (p := ⟨gb116, 0, none⟩) (Kd.S_types (Kd.S_types HO105.out BK116.out (by decide)) BK117.out (by decide)) (fun _ hk => hk.1.2) (.slice Ao22 t110.length co22)) (fun _ hk => hk.2) (.int .i64 t114)) (fun _ hk => hk.2) (.int .i64 t115)) (fun _ hk => hk.1.1.2)⟩, ⟨by refine qS ?_; exact Kd.S_mono (Kd.S_far (p := ⟨gb117, 1, none⟩) (Kd.S_far (p := ⟨gb117, 0, none⟩) (Kd.S_far (p := ⟨gb116, 0, none⟩) (Kd.S_types (Kd.S_types HO112.out BK116.out (by decide)) BK117.out (by decide)) (fun _ hk => hk.1.2) (.slice Ao22 t110.length co22)) (fun _ hk => hk.2) (.int .i64 t114)) (fun _ hk => hk.2) (.int .i64 t115)) (fun _ hk => hk.1.1.2)⟩, ⟨by refine qk ?_; refine blk_far ?_ NB108_117.out _; refine qk ?_; refine blk_far ?_ NB108_117.out _; refine qk ?_; refine blk_far ?_ NB108_116.out _; refine qk ?_; exact BK108.out⟩, ⟨by refine qk ?_; refine blk_far ?_ NB109_117.out _; refine qk ?_; refine blk_far ?_ NB109_117.out _; refine qk ?_; refine blk_far ?_ NB109_116.out _; refine qk ?_; exact BK109.out⟩, ⟨by refine qk ?_; refine blk_far ?_ NB116_117.out _; refine qk ?_; refine blk_far ?_ NB116_117.out _; refine qk ?_; refine blk_put (cs := #[.slice none 0 0]) ?_ 0 _ rfl; refine qk ?_; exact BK116.out⟩, ⟨by refine qk ?_; refine blk_put (cs := #[.int .i64 t114, .int .i64 0]) ?_ 1 _ rfl; refine qk ?_; refine blk_put (cs := #[.int .i64 0, .int .i64 0]) ?_ 0 _ rfl; refine qk ?_; refine blk_far ?_ NB117_116.out _; refine qk ?_; exact BK117.out⟩, ⟨qb⟩⟩
        ·rw [if_neg c48] at H; have c48b0 := decide_eq_false c48; clear c48
         by_cases c56 : t107 = 0
         ·rw [if_pos c56] at H; have c56b0 := beq_iff_eq.mpr c56; have c56b1 := bne_eq_false_iff_eq.mpr c56; clear c56
          by_cases c57 : t115 = 0
          ·rw [if_pos c57] at H; have c57b0 := beq_iff_eq.mpr c57; have c57b1 := bne_eq_false_iff_eq.mpr c57; clear c57; have H' := Aside0.mk H; clear H; have hnb58 := NB109_108.out; have hnc58 := NB108_109.out; have hnb59 := NB109_116.out; have hnc59 := NB116_109.out; have hnb60 := NB109_117.out; have hnc60 := NB117_109.out; obtain ⟨hcz61_0, hcz61_1, hfz61_0, hfz61_1⟩ := bc2 BK109.out; have hnb62 := NB117_108.out; have hnc62 := NB108_117.out; have hnb63 := NB117_116.out; have hnc63 := NB116_117.out; obtain ⟨hcz64_0, hcz64_1, hfz64_0, hfz64_1⟩ := bc2 BK117.out; have hnb65 := NB108_116.out; have hnc65 := NB116_108.out; obtain ⟨hcz66_0, hfz66_0⟩ := bc1 BK108.out
           go_wp2
           repeat (go_quiet (fail); try go_wp2)
           go_meet
           case rel => exact ⟨_, (((t103.length : Int) != 1)), qr, H', ⟨by have := HJ1.out; first | omega | exact Nat.le_refl _⟩, ⟨by refine qS ?_; exact Kd.S_mono (Kd.S_far (p := ⟨gb117, 1, none⟩) (Kd.S_far (p := ⟨gb117, 0, none⟩) (Kd.S_far (p := ⟨gb116, 0, none⟩) (Kd.S_types (Kd.S_types HO105.out BK116.out (by decide)) BK117.out (by decide)) (fun _ hk => hk.1.2) (.slice Ao22 t110.length co22)) (fun _ hk => hk.2) (.int .i64 t114)) (fun _ hk => hk.2) (.int .i64 t115)) (fun _ hk => hk.1.1.2)⟩, ⟨by refine qS ?_; exact Kd.S_mono (Kd.S_far (p := ⟨gb117, 1, none⟩) (Kd.S_far (p := ⟨gb117, 0, none⟩) (Kd.S_far (p := ⟨gb116, 0, none⟩) (Kd.S_types (Kd.S_types HO112.out BK116.out (by decide)) BK117.out (by decide)) (fun _ hk => hk.1.2) (.slice Ao22 t110.length co22)) (fun _ hk => hk.2) (.int .i64 t114)) (fun _ hk => hk.2) (.int .i64 t115)) (fun _ hk => hk.1.1.2)⟩, ⟨by refine qk ?_; refine blk_far ?_ NB108_117.out _; refine qk ?_; refine blk_far ?_ NB108_117.out _; refine qk ?_; refine blk_far ?_ NB108_116.out _; refine qk ?_; exact BK108.out⟩, ⟨by refine qk ?_; refine blk_far ?_ NB109_117.out _; refine qk ?_; refine blk_far ?_ NB109_117.out _; refine qk ?_; refine blk_far ?_ NB109_116.out _; refine qk ?_; exact BK109.out⟩, ⟨by refine qk ?_; refine blk_far ?_ NB116_117.out _; refine qk ?_; refine blk_far ?_ NB116_117.out _; refine qk ?_; refine blk_put (cs := #[.slice none 0 0]) ?_ 0 _ rfl; refine qk ?_; exact BK116.out⟩, ⟨by refine qk ?_; refine blk_put (cs := #[.int .i64 t114, .int .i64 0]) ?_ 1 _ rfl; refine qk ?_; refine blk_put (cs := #[.int .i64 0, .int .i64 0]) ?_ 0 _ rfl; refine qk ?_; refine blk_far ?_ NB117_116.out _; refine qk ?_; exact BK117.out⟩, ⟨qb⟩⟩
          ·rw [if_neg c57] at H; have c57b0 := beq_eq_false_iff_ne.mpr c57; have c57b1 := bne_iff_ne.mpr c57
           by_cases c67 : (t110.length : Int) > 0
           ·rw [if_pos c67] at H; have c67b0 := decide_eq_true c67; have c67b1 : decide (0 < t110.length) = true := decide_eq_true (by omega); clear c67; have H' := Aside0.mk H; clear H; have hnb68 := NB109_108.out; have hnc68 := NB108_109.out; have hnb69 := NB109_116.out; have hnc69 := NB116_109.out; have hnb70 := NB109_117.out; have hnc70 := NB117_109.out; obtain ⟨hcz71_0, hcz71_1, hfz71_0, hfz71_1⟩ := bc2 BK109.out; have hnb72 := NB117_108.out; have hnc72 := NB108_117.out; have hnb73 := NB117_116.out; have hnc73 := NB116_117.out; obtain ⟨hcz74_0, hcz74_1, hfz74_0, hfz74_1⟩ := bc2 BK117.out; have hnb75 := NB116_108.out; have hnc75 := NB108_116.out; obtain ⟨hcz76_0, hfz76_0⟩ := bc1 BK116.out
            go_wp2
            repeat (go_quiet (fail); try go_wp2)
            go_meet
            case rel => exact ⟨_, (true), qr, H', ⟨by have := HJ1.out; first | omega | exact Nat.le_refl _⟩, ⟨by refine qS ?_; exact Kd.S_mono (Kd.S_far (p := ⟨gb117, 1, none⟩) (Kd.S_far (p := ⟨gb117, 0, none⟩) (Kd.S_far (p := ⟨gb116, 0, none⟩) (Kd.S_types (Kd.S_types HO105.out BK116.out (by decide)) BK117.out (by decide)) (fun _ hk => hk.1.2) (.slice Ao22 t110.length co22)) (fun _ hk => hk.2) (.int .i64 t114)) (fun _ hk => hk.2) (.int .i64 t115)) (fun _ hk => hk.1.1.2)⟩, ⟨by refine qS ?_; exact Kd.S_mono (Kd.S_far (p := ⟨gb117, 1, none⟩) (Kd.S_far (p := ⟨gb117, 0, none⟩) (Kd.S_far (p := ⟨gb116, 0, none⟩) (Kd.S_types (Kd.S_types HO112.out BK116.out (by decide)) BK117.out (by decide)) (fun _ hk => hk.1.2) (.slice Ao22 t110.length co22)) (fun _ hk => hk.2) (.int .i64 t114)) (fun _ hk => hk.2) (.int .i64 t115)) (fun _ hk => hk.1.1.2)⟩, ⟨by refine qk ?_; refine blk_far ?_ NB108_117.out _; refine qk ?_; refine blk_far ?_ NB108_117.out _; refine qk ?_; refine blk_far ?_ NB108_116.out _; refine qk ?_; exact BK108.out⟩, ⟨by refine qk ?_; refine blk_far ?_ NB109_117.out _; refine qk ?_; refine blk_far ?_ NB109_117.out _; refine qk ?_; refine blk_far ?_ NB109_116.out _; refine qk ?_; exact BK109.out⟩, ⟨by refine qk ?_; refine blk_far ?_ NB116_117.out _; refine qk ?_; refine blk_far ?_ NB116_117.out _; refine qk ?_; refine blk_put (cs := #[.slice none 0 0]) ?_ 0 _ rfl; refine qk ?_; exact BK116.out⟩, ⟨by refine qk ?_; refine blk_put (cs := #[.int .i64 t114, .int .i64 0]) ?_ 1 _ rfl; refine qk ?_; refine blk_put (cs := #[.int .i64 0, .int .i64 0]) ?_ 0 _ rfl; refine qk ?_; refine blk_far ?_ NB117_116.out _; refine qk ?_; exact BK117.out⟩, ⟨qb⟩⟩
           ·rw [if_neg c67] at H; have c67b0 := decide_eq_false c67; have c67b1 : decide (0 < t110.length) = false := decide_eq_false (by omega); clear c67
            by_cases c77 : t113 = 0
            ·rw [if_pos c77] at H; have c77b0 := beq_iff_eq.mpr c77; have c77b1 := bne_eq_false_iff_eq.mpr c77; clear c77; have H' := Aside0.mk H; clear H; have hnb78 := NB109_108.out; have hnc78 := NB108_109.out; have hnb79 := NB109_116.out; have hnc79 := NB116_109.out; have hnb80 := NB109_117.out; have hnc80 := NB117_109.out; obtain ⟨hcz81_0, hcz81_1, hfz81_0, hfz81_1⟩ := bc2 BK109.out; have hnb82 := NB117_108.out; have hnc82 := NB108_117.out; have hnb83 := NB117_116.out; have hnc83 := NB116_117.out; obtain ⟨hcz84_0, hcz84_1, hfz84_0, hfz84_1⟩ := bc2 BK117.out; have hnb85 := NB116_108.out; have hnc85 := NB108_116.out; obtain ⟨hcz86_0, hfz86_0⟩ := bc1 BK116.out; obtain ⟨hcz87_0, hfz87_0⟩ := bc1 BK108.out
             go_wp2
             repeat (go_quiet (fail); try go_wp2)
             go_meet
             case rel => exact ⟨_, (((t103.length : Int) != 1)), qr, H', ⟨by have := HJ1.out; first | omega | exact Nat.le_refl _⟩, ⟨by refine qS ?_; exact Kd.S_mono (Kd.S_far (p := ⟨gb117, 1, none⟩) (Kd.S_far (p := ⟨gb117, 0, none⟩) (Kd.S_far (p := ⟨gb116, 0, none⟩) (Kd.S_types (Kd.S_types HO105.out BK116.out (by decide)) BK117.out (by decide)) (fun _ hk => hk.1.2) (.slice Ao22 t110.length co22)) (fun _ hk => hk.2) (.int .i64 t114)) (fun _ hk => hk.2) (.int .i64 t115)) (fun _ hk => hk.1.1.2)⟩, ⟨by refine qS ?_; exact Kd.S_mono (Kd.S_far (p := ⟨gb117, 1, none⟩) (Kd.S_far (p := ⟨gb117, 0, none⟩) (Kd.S_far (p := ⟨gb116, 0, none⟩) (Kd.S_types (Kd.S_types HO112.out BK116.out (by decide)) BK117.out (by decide)) (fun _ hk => hk.1.2) (.slice Ao22 t110.length co22)) (fun _ hk => hk.2) (.int .i64 t114)) (fun _ hk => hk.2) (.int .i64 t115)) (fun _ hk => hk.1.1.2)⟩, ⟨by refine qk ?_; refine blk_far ?_ NB108_117.out _; refine qk ?_; refine blk_far ?_ NB108_117.out _; refine qk ?_; refine blk_far ?_ NB108_116.out _; refine qk ?_; exact BK108.out⟩, ⟨by refine qk ?_; refine blk_far ?_ NB109_117.out _; refine qk ?_; refine blk_far ?_ NB109_117.out _; refine qk ?_; refine blk_far ?_ NB109_116.out _; refine qk ?_; exact BK109.out⟩, ⟨by refine qk ?_; refine blk_far ?_ NB116_117.out _; refine qk ?_; refine blk_far ?_ NB116_117.out _; refine qk ?_; refine blk_put (cs := #[.slice none 0 0]) ?_ 0 _ rfl; refine qk ?_; exact BK116.out⟩, ⟨by refine qk ?_; refine blk_put (cs := #[.int .i64 t114, .int .i64 0]) ?_ 1 _ rfl; refine qk ?_; refine blk_put (cs := #[.int .i64 0, .int .i64 0]) ?_ 0 _ rfl; refine qk ?_; refine blk_far ?_ NB117_116.out _; refine qk ?_; exact BK117.out⟩, ⟨qb⟩⟩
            ·rw [if_neg c77] at H; have c77b0 := beq_eq_false_iff_ne.mpr c77; have c77b1 := bne_iff_ne.mpr c77; have H' := Aside0.mk H; clear H; have hnb88 := NB109_108.out; have hnc88 := NB108_109.out; have hnb89 := NB109_116.out; have hnc89 := NB116_109.out; have hnb90 := NB109_117.out; have hnc90 := NB117_109.out; obtain ⟨hcz91_0, hcz91_1, hfz91_0, hfz91_1⟩ := bc2 BK109.out; have hnb92 := NB117_108.out; have hnc92 := NB108_117.out; have hnb93 := NB117_116.out; have hnc93 := NB116_117.out; obtain ⟨hcz94_0, hcz94_1, hfz94_0, hfz94_1⟩ := bc2 BK117.out; have hnb95 := NB116_108.out; have hnc95 := NB108_116.out; obtain ⟨hcz96_0, hfz96_0⟩ := bc1 BK116.out
             go_wp2
             repeat (go_quiet (fail); try go_wp2)
             go_meet
             case rel => exact ⟨_, (true), qr, H', ⟨by have := HJ1.out; first | omega | exact Nat.le_refl _⟩, ⟨by refine qS ?_; exact Kd.S_mono (Kd.S_far (p := ⟨gb117, 1, none⟩) (Kd.S_far (p := ⟨gb117, 0, none⟩) (Kd.S_far (p := ⟨gb116, 0, none⟩) (Kd.S_types (Kd.S_types HO105.out BK116.out (by decide)) BK117.out (by decide)) (fun _ hk => hk.1.2) (.slice Ao22 t110.length co22)) (fun _ hk => hk.2) (.int .i64 t114)) (fun _ hk => hk.2) (.int .i64 t115)) (fun _ hk => hk.1.1.2)⟩, ⟨by refine qS ?_; exact Kd.S_mono (Kd.S_far (p := ⟨gb117, 1, none⟩) (Kd.S_far (p := ⟨gb117, 0, none⟩) (Kd.S_far (p := ⟨gb116, 0, none⟩) (Kd.S_types (Kd.S_types HO112.out BK116.out (by decide)) BK117.out (by decide)) (fun _ hk => hk.1.2) (.slice Ao22 t110.length co22)) (fun _ hk => hk.2) (.int .i64 t114)) (fun _ hk => hk.2) (.int .i64 t115)) (fun _ hk => hk.1.1.2)⟩, ⟨by refine qk ?_; refine blk_far ?_ NB108_117.out _; refine qk ?_; refine blk_far ?_ NB108_117.out _; refine qk ?_; refine blk_far ?_ NB108_116.out _; refine qk ?_; exact BK108.out⟩, ⟨by refine qk ?_; refine blk_far ?_ NB109_117.out _; refine qk ?_; refine blk_far ?_ NB109_117.out _; refine qk ?_; refine blk_far ?_ NB109_116.out _; refine qk ?_; exact BK109.out⟩, ⟨by refine qk ?_; refine blk_far ?_ NB116_117.out _; refine qk ?_; refine blk_far ?_ NB116_117.out _; refine qk ?_; refine blk_put (cs := #[.slice none 0 0]) ?_ 0 _ rfl; refine qk ?_; exact BK116.out⟩, ⟨by refine qk ?_; refine blk_put (cs := #[.int .i64 t114, .int .i64 0]) ?_ 1 _ rfl; refine qk ?_; refine blk_put (cs := #[.int .i64 0, .int .i64 0]) ?_ 0 _ rfl; refine qk ?_; refine blk_far ?_ NB117_116.out _; refine qk ?_; exact BK117.out⟩, ⟨qb⟩⟩
         ·rw [if_neg c56] at H; have c56b0 := beq_eq_false_iff_ne.mpr c56; have c56b1 := bne_iff_ne.mpr c56
          by_cases c97 : (t103.length : Int) > 0
          ·rw [if_pos c97] at H; have c97b0 := decide_eq_true c97; have c97b1 : decide (0 < t103.length) = true := decide_eq_true (by omega); clear c97; have H' := Aside0.mk H; clear H; have hnb98 := NB109_108.out; have hnc98 := NB108_109.out; have hnb99 := NB109_116.out; have hnc99 := NB116_109.out; have hnb100 := NB109_117.out; have hnc100 := NB117_109.out; obtain ⟨hcz101_0, hcz101_1, hfz101_0, hfz101_1⟩ := bc2 BK109.out; have hnb102 := NB117_108.out; have hnc102 := NB108_117.out; have hnb103 := NB117_116.out; have hnc103 := NB116_117.out; obtain ⟨hcz104_0, hcz104_1, hfz104_0, hfz104_1⟩ := bc2 BK117.out; have hnb105 := NB108_116.out; have hnc105 := NB116_108.out; obtain ⟨hcz106_0, hfz106_0⟩ := bc1 BK108.out
           go_wp2
           repeat (go_quiet (fail); try go_wp2)
           go_meet
           case rel => exact ⟨_, (true), qr, H', ⟨by have := HJ1.out; first | omega | exact Nat.le_refl _⟩, ⟨by refine qS ?_; exact Kd.S_mono (Kd.S_far (p := ⟨gb117, 1, none⟩) (Kd.S_far (p := ⟨gb117, 0, none⟩) (Kd.S_far (p := ⟨gb116, 0, none⟩) (Kd.S_types (Kd.S_types HO105.out BK116.out (by decide)) BK117.out (by decide)) (fun _ hk => hk.1.2) (.slice Ao22 t110.length co22)) (fun _ hk => hk.2) (.int .i64 t114)) (fun _ hk => hk.2) (.int .i64 t115)) (fun _ hk => hk.1.1.2)⟩, ⟨by refine qS ?_; exact Kd.S_mono (Kd.S_far (p := ⟨gb117, 1, none⟩) (Kd.S_far (p := ⟨gb117, 0, none⟩) (Kd.S_far (p := ⟨gb116, 0, none⟩) (Kd.S_types (Kd.S_types HO112.out BK116.out (by decide)) BK117.out (by decide)) (fun _ hk => hk.1.2) (.slice Ao22 t110.length co22)) (fun _ hk => hk.2) (.int .i64 t114)) (fun _ hk => hk.2) (.int .i64 t115)) (fun _ hk => hk.1.1.2)⟩, ⟨by refine qk ?_; refine blk_far ?_ NB108_117.out _; refine qk ?_; refine blk_far ?_ NB108_117.out _; refine qk ?_; refine blk_far ?_ NB108_116.out _; refine qk ?_; exact BK108.out⟩, ⟨by refine qk ?_; refine blk_far ?_ NB109_117.out _; refine qk ?_; refine blk_far ?_ NB109_117.out _; refine qk ?_; refine blk_far ?_ NB109_116.out _; refine qk ?_; exact BK109.out⟩, ⟨by refine qk ?_; refine blk_far ?_ NB116_117.out _; refine qk ?_; refine blk_far ?_ NB116_117.out _; refine qk ?_; refine blk_put (cs := #[.slice none 0 0]) ?_ 0 _ rfl; refine qk ?_; exact BK116.out⟩, ⟨by refine qk ?_; refine blk_put (cs := #[.int .i64 t114, .int .i64 0]) ?_ 1 _ rfl; refine qk ?_; refine blk_put (cs := #[.int .i64 0, .int .i64 0]) ?_ 0 _ rfl; refine qk ?_; refine blk_far ?_ NB117_116.out _; refine qk ?_; exact BK117.out⟩, ⟨qb⟩⟩
          ·rw [if_neg c97] at H; have c97b0 := decide_eq_false c97; have c97b1 : decide (0 < t103.length) = false := decide_eq_false (by omega); clear c97
           by_cases c107 : t115 = 0
           ·rw [if_pos c107] at H; have c107b0 := beq_iff_eq.mpr c107; have c107b1 := bne_eq_false_iff_eq.mpr c107; clear c107; have H' := Aside0.mk H; clear H; have hnb108 := NB109_108.out; have hnc108 := NB108_109.out; have hnb109 := NB109_116.out; have hnc109 := NB116_109.out; have hnb110 := NB109_117.out; have hnc110 := NB117_109.out; obtain ⟨hcz111_0, hcz111_1, hfz111_0, hfz111_1⟩ := bc2 BK109.out; have hnb112 := NB117_108.out; have hnc112 := NB108_117.out; have hnb113 := NB117_116.out; have hnc113 := NB116_117.out; obtain ⟨hcz114_0, hcz114_1, hfz114_0, hfz114_1⟩ := bc2 BK117.out; have hnb115 := NB108_116.out; have hnc115 := NB116_108.out; obtain ⟨hcz116_0, hfz116_0⟩ := bc1 BK108.out
            go_wp2
            repeat (go_quiet (fail); try go_wp2)
            go_meet
            case rel => exact ⟨_, (false), qr, H', ⟨by have := HJ1.out; first | omega | exact Nat.le_refl _⟩, ⟨by refine qS ?_; exact Kd.S_mono (Kd.S_far (p := ⟨gb117, 1, none⟩) (Kd.S_far (p := ⟨gb117, 0, none⟩) (Kd.S_far (p := ⟨gb116, 0, none⟩) (Kd.S_types (Kd.S_types HO105.out BK116.out (by decide)) BK117.out (by decide)) (fun _ hk => hk.1.2) (.slice Ao22 t110.length co22)) (fun _ hk => hk.2) (.int .i64 t114)) (fun _ hk => hk.2) (.int .i64 t115)) (fun _ hk => hk.1.1.2)⟩, ⟨by refine qS ?_; exact Kd.S_mono (Kd.S_far (p := ⟨gb117, 1, none⟩) (Kd.S_far (p := ⟨gb117, 0, none⟩) (Kd.S_far (p := ⟨gb116, 0, none⟩) (Kd.S_types (Kd.S_types HO112.out BK116.out (by decide)) BK117.out (by decide)) (fun _ hk => hk.1.2) (.slice Ao22 t110.length co22)) (fun _ hk => hk.2) (.int .i64 t114)) (fun _ hk => hk.2) (.int .i64 t115)) (fun _ hk => hk.1.1.2)⟩, ⟨by refine qk ?_; refine blk_far ?_ NB108_117.out _; refine qk ?_; refine blk_far ?_ NB108_117.out _; refine qk ?_; refine blk_far ?_ NB108_116.out _; refine qk ?_; exact BK108.out⟩, ⟨by refine qk ?_; refine blk_far ?_ NB109_117.out _; refine qk ?_; refine blk_far ?_ NB109_117.out _; refine qk ?_; refine blk_far ?_ NB109_116.out _; refine qk ?_; exact BK109.out⟩, ⟨by refine qk ?_; refine blk_far ?_ NB116_117.out _; refine qk ?_; refine blk_far ?_ NB116_117.out _; refine qk ?_; refine blk_put (cs := #[.slice none 0 0]) ?_ 0 _ rfl; refine qk ?_; exact BK116.out⟩, ⟨by refine qk ?_; refine blk_put (cs := #[.int .i64 t114, .int .i64 0]) ?_ 1 _ rfl; refine qk ?_; refine blk_put (cs := #[.int .i64 0, .int .i64 0]) ?_ 0 _ rfl; refine qk ?_; refine blk_far ?_ NB117_116.out _; refine qk ?_; exact BK117.out⟩, ⟨qb⟩⟩
           ·rw [if_neg c107] at H; have c107b0 := beq_eq_false_iff_ne.mpr c107; have c107b1 := bne_iff_ne.mpr c107
            by_cases c117 : (t110.length : Int) > 0
            ·rw [if_pos c117] at H; have c117b0 := decide_eq_true c117; have c117b1 : decide (0 < t110.length) = true := decide_eq_true (by omega); clear c117; have H' := Aside0.mk H; clear H; have hnb118 := NB109_108.out; have hnc118 := NB108_109.out; have hnb119 := NB109_116.out; have hnc119 := NB116_109.out; have hnb120 := NB109_117.out; have hnc120 := NB117_109.out; obtain ⟨hcz121_0, hcz121_1, hfz121_0, hfz121_1⟩ := bc2 BK109.out; have hnb122 := NB117_108.out; have hnc122 := NB108_117.out; have hnb123 := NB117_116.out; have hnc123 := NB116_117.out; obtain ⟨hcz124_0, hcz124_1, hfz124_0, hfz124_1⟩ := bc2 BK117.out; have hnb125 := NB108_116.out; have hnc125 := NB116_108.out; obtain ⟨hcz126_0, hfz126_0⟩ := bc1 BK108.out; obtain ⟨hcz127_0, hfz127_0⟩ := bc1 BK116.out
             go_wp2
             repeat (go_quiet (fail); try go_wp2)
             go_meet
             case rel => exact ⟨_, (true), qr, H', ⟨by have := HJ1.out; first | omega | exact Nat.le_refl _⟩, ⟨by refine qS ?_; exact Kd.S_mono (Kd.S_far (p := ⟨gb117, 1, none⟩) (Kd.S_far (p := ⟨gb117, 0, none⟩) (Kd.S_far (p := ⟨gb116, 0, none⟩) (Kd.S_types (Kd.S_types HO105.out BK116.out (by decide)) BK117.out (by decide)) (fun _ hk => hk.1.2) (.slice Ao22 t110.length co22)) (fun _ hk => hk.2) (.int .i64 t114)) (fun _ hk => hk.2) (.int .i64 t115)) (fun _ hk => hk.1.1.2)⟩, ⟨by refine qS ?_; exact Kd.S_mono (Kd.S_far (p := ⟨gb117, 1, none⟩) (Kd.S_far (p := ⟨gb117, 0, none⟩) (Kd.S_far (p := ⟨gb116, 0, none⟩) (Kd.S_types (Kd.S_types HO112.out BK116.out (by decide)) BK117.out (by decide)) (fun _ hk => hk.1.2) (.slice Ao22 t110.length co22)) (fun _ hk => hk.2) (.int .i64 t114)) (fun _ hk => hk.2) (.int .i64 t115)) (fun _ hk => hk.1.1.2)⟩, ⟨by refine qk ?_; refine blk_far ?_ NB108_117.out _; refine qk ?_; refine blk_far ?_ NB108_117.out _; refine qk ?_; refine blk_far ?_ NB108_116.out _; refine qk ?_; exact BK108.out⟩, ⟨by refine qk ?_; refine blk_far ?_ NB109_117.out _; refine qk ?_; refine blk_far ?_ NB109_117.out _; refine qk ?_; refine blk_far ?_ NB109_116.out _; refine qk ?_; exact BK109.out⟩, ⟨by refine qk ?_; refine blk_far ?_ NB116_117.out _; refine qk ?_; refine blk_far ?_ NB116_117.out _; refine qk ?_; refine blk_put (cs := #[.slice none 0 0]) ?_ 0 _ rfl; refine qk ?_; exact BK116.out⟩, ⟨by refine qk ?_; refine blk_put (cs := #[.int .i64 t114, .int .i64 0]) ?_ 1 _ rfl; refine qk ?_; refine blk_put (cs := #[.int .i64 0, .int .i64 0]) ?_ 0 _ rfl; refine qk ?_; refine blk_far ?_ NB117_116.out _; refine qk ?_; exact BK117.out⟩, ⟨qb⟩⟩
            ·rw [if_neg c117] at H; have c117b0 := decide_eq_false c117; have c117b1 : decide (0 < t110.length) = false := decide_eq_false (by omega); clear c117
             by_cases c128 : t113 = 0
             ·rw [if_pos c128] at H; have c128b0 := beq_iff_eq.mpr c128; have c128b1 := bne_eq_false_iff_eq.mpr c128; clear c128; have H' := Aside0.mk H; clear H; have hnb129 := NB109_108.out; have hnc129 := NB108_109.out; have hnb130 := NB109_116.out; have hnc130 := NB116_109.out; have hnb131 := NB109_117.out; have hnc131 := NB117_109.out; obtain ⟨hcz132_0, hcz132_1, hfz132_0, hfz132_1⟩ := bc2 BK109.out; have hnb133 := NB117_108.out; have hnc133 := NB108_117.out; have hnb134 := NB117_116.out; have hnc134 := NB116_117.out; obtain ⟨hcz135_0, hcz135_1, hfz135_0, hfz135_1⟩ := bc2 BK117.out; have hnb136 := NB108_116.out; have hnc136 := NB116_108.out; obtain ⟨hcz137_0, hfz137_0⟩ := bc1 BK108.out; obtain ⟨hcz138_0, hfz138_0⟩ := bc1 BK116.out
              go_wp2
              repeat (go_quiet (fail); try go_wp2)
              go_meet
              case rel => exact ⟨_, (false), qr, H', ⟨by have := HJ1.out; first | omega | exact Nat.le_refl _⟩, ⟨by refine qS ?_; exact Kd.S_mono (Kd.S_far (p := ⟨gb117, 1, none⟩) (Kd.S_far (p := ⟨gb117, 0, none⟩) (Kd.S_far (p := ⟨gb116, 0, none⟩) (Kd.S_types (Kd.S_types HO105.out BK116.out (by decide)) BK117.out (by decide)) (fun _ hk => hk.1.2) (.slice Ao22 t110.length co22)) (fun _ hk => hk.2) (.int .i64 t114)) (fun _ hk => hk.2) (.int .i64 t115)) (fun _ hk => hk.1.1.2)⟩, ⟨by refine qS ?_; exact Kd.S_mono (Kd.S_far (p := ⟨gb117, 1, none⟩) (Kd.S_far (p := ⟨gb117, 0, none⟩) (Kd.S_far (p := ⟨gb116, 0, none⟩) (Kd.S_types (Kd.S_types HO112.out BK116.out (by decide)) BK117.out (by decide)) (fun _ hk => hk.1.2) (.slice Ao22 t110.length co22)) (fun _ hk => hk.2) (.int .i64 t114)) (fun _ hk => hk.2) (.int .i64 t115)) (fun _ hk => hk.1.1.2)⟩, ⟨by refine qk ?_; refine blk_far ?_ NB108_117.out _; refine qk ?_; refine blk_far ?_ NB108_117.out _; refine qk ?_; refine blk_far ?_ NB108_116.out _; refine qk ?_; exact BK108.out⟩, ⟨by refine qk ?_; refine blk_far ?_ NB109_117.out _; refine qk ?_; refine blk_far ?_ NB109_117.out _; refine qk ?_; refine blk_far ?_ NB109_116.out _; refine qk ?_; exact BK109.out⟩, ⟨by refine qk ?_; refine blk_far ?_ NB116_117.out _; refine qk ?_; refine blk_far ?_ NB116_117.out _; refine qk ?_; refine blk_put (cs := #[.slice none 0 0]) ?_ 0 _ rfl; refine qk ?_; exact BK116.out⟩, ⟨by refine qk ?_; refine blk_put (cs := #[.int .i64 t114, .int .i64 0]) ?_ 1 _ rfl; refine qk ?_; refine blk_put (cs := #[.int .i64 0, .int .i64 0]) ?_ 0 _ rfl; refine qk ?_; refine blk_far ?_ NB117_116.out _; refine qk ?_; exact BK117.out⟩, ⟨qb⟩⟩
             ·rw [if_neg c128] at H; have c128b0 := beq_eq_false_iff_ne.mpr c128; have c128b1 := bne_iff_ne.mpr c128; have H' := Aside0.mk H; clear H; have hnb139 := NB109_108.out; have hnc139 := NB108_109.out; have hnb140 := NB109_116.out; have hnc140 := NB116_109.out; have hnb141 := NB109_117.out; have hnc141 := NB117_109.out; obtain ⟨hcz142_0, hcz142_1, hfz142_0, hfz142_1⟩ := bc2 BK109.out; have hnb143 := NB117_108.out; have hnc143 := NB108_117.out; have hnb144 := NB117_116.out; have hnc144 := NB116_117.out; obtain ⟨hcz145_0, hcz145_1, hfz145_0, hfz145_1⟩ := bc2 BK117.out; have hnb146 := NB108_116.out; have hnc146 := NB116_108.out; obtain ⟨hcz147_0, hfz147_0⟩ := bc1 BK108.out; obtain ⟨hcz148_0, hfz148_0⟩ := bc1 BK116.out
              go_wp2
              repeat (go_quiet (fail); try go_wp2)
              go_meet
              case rel => exact ⟨_, (true), qr, H', ⟨by have := HJ1.out; first | omega | exact Nat.le_refl _⟩, ⟨by refine qS ?_; exact Kd.S_mono (Kd.S_far (p := ⟨gb117, 1, none⟩) (Kd.S_far (p := ⟨gb117, 0, none⟩) (Kd.S_far (p := ⟨gb116, 0, none⟩) (Kd.S_types (Kd.S_types HO105.out BK116.out (by decide)) BK117.out (by decide)) (fun _ hk => hk.1.2) (.slice Ao22 t110.length co22)) (fun _ hk => hk.2) (.int .i64 t114)) (fun _ hk => hk.2) (.int .i64 t115)) (fun _ hk => hk.1.1.2)⟩, ⟨by refine qS ?_; exact Kd.S_mono (Kd.S_far (p := ⟨gb117, 1, none⟩) (Kd.S_far (p := ⟨gb117, 0, none⟩) (Kd.S_far (p := ⟨gb116, 0, none⟩) (Kd.S_types (Kd.S_types HO112.out BK116.out (by decide)) BK117.out (by decide)) (fun _ hk => hk.1.2) (.slice Ao22 t110.length co22)) (fun _ hk => hk.2) (.int .i64 t114)) (fun _ hk => hk.2) (.int .i64 t115)) (fun _ hk => hk.1.1.2)⟩, ⟨by refine qk ?_; refine blk_far ?_ NB108_117.out _; refine qk ?_; refine blk_far ?_ NB108_117.out _; refine qk ?_; refine blk_far ?_ NB108_116.out _; refine qk ?_; exact BK108.out⟩, ⟨by refine qk ?_; refine blk_far ?_ NB109_117.out _; refine qk ?_; refine blk_far ?_ NB109_117.out _; refine qk ?_; refine blk_far ?_ NB109_116.out _; refine qk ?_; exact BK109.out⟩, ⟨by refine qk ?_; refine blk_far ?_ NB116_117.out _; refine qk ?_; refine blk_far ?_ NB116_117.out _; refine qk ?_; refine blk_put (cs := #[.slice none 0 0]) ?_ 0 _ rfl; refine qk ?_; exact BK116.out⟩, ⟨by refine qk ?_; refine blk_put (cs := #[.int .i64 t114, .int .i64 0]) ?_ 1 _ rfl; refine qk ?_; refine blk_put (cs := #[.int .i64 0, .int .i64 0]) ?_ 0 _ rfl; refine qk ?_; refine blk_far ?_ NB117_116.out _; refine qk ?_; exact BK117.out⟩, ⟨qb⟩⟩
    case rest =>
     clear HC11; (try clear c1); (try clear c2); (try clear p2); (try clear c3); (try clear c3b0); (try clear c3b1); (try clear c4); (try clear c5); (try clear c6); (try clear c7); (try clear c8); (try clear c9); (try clear c10); (try clear c11); (try clear c12); (try clear c13); (try clear c14); (try clear c16); (try clear c23); (try clear c24); (try clear c25); (try clear c27); (try clear c28); (try clear c30); (try clear c30b0); (try clear c31); (try clear c32); (try clear c33); (try clear c35); (try clear c35b0); (try clear c36); (try clear c37); (try clear c38); (try clear c40); (try clear c40b0); (try clear c41); (try clear c42); (try clear c43); (try clear c45); (try clear c46); (try clear c48); (try clear c48b0); (try clear c49); (try clear c50); (try clear c51); (try clear c53); (try clear c54); (try clear c56); (try clear c56b0); (try clear c56b1); (try clear c57); (try clear c57b0); (try clear c57b1); (try clear c58); (try clear c59); (try clear c60); (try clear c62); (try clear c63); (try clear c65); (try clear c67); (try clear c67b0); (try clear c67b1); (try clear c68); (try clear c69); (try clear c70); (try clear c72); (try clear c73); (try clear c75); (try clear c77); (try clear c77b0); (try clear c77b1); (try clear c78); (try clear c79); (try clear c80); (try clear c82); (try clear c83); (try clear c85); (try clear c88); (try clear c89); (try clear c90); (try clear c92); (try clear c93); (try clear c95); (try clear c97); (try clear c97b0); (try clear c97b1); (try clear c98); (try clear c99); (try clear c100); (try clear c102); (try clear c103); (try clear c105); (try clear c107); (try clear c107b0); (try clear c107b1); (try clear c108); (try clear c109); (try clear c110); (try clear c112); (try clear c113); (try clear c115); (try clear c117); (try clear c117b0); (try clear c117b1); (try clear c118); (try clear c119); (try clear c120); (try clear c122); (try clear c123); (try clear c125); (try clear c128); (try clear c128b0); (try clear c128b1); (try clear c129); (try clear c130); (try clear c131); (try clear c133); (try clear c134); (try clear c136); (try clear c139); (try clear c140); (try clear c141); (try clear c143); (try clear c144); (try clear c146); (try clear hcz101_0); (try clear hcz101_1); (try clear hcz104_0); (try clear hcz104_1); (try clear hcz106_0); (try clear hcz111_0); (try clear hcz111_1); (try clear hcz114_0); (try clear hcz114_1); (try clear hcz116_0); (try clear hcz121_0); (try clear hcz121_1); (try clear hcz124_0); (try clear hcz124_1); (try clear hcz126_0); (try clear hcz127_0); (try clear hcz132_0); (try clear hcz132_1); (try clear hcz135_0); (try clear hcz135_1); (try clear hcz137_0); (try clear hcz138_0); (try clear hcz142_0); (try clear hcz142_1); (try clear hcz145_0); (try clear hcz145_1); (try clear hcz147_0); (try clear hcz148_0); (try clear hcz17_0); (try clear hcz18_0); (try clear hcz18_1); (try clear hcz26_0); (try clear hcz29_0); (try clear hcz29_1); (try clear hcz34_0); (try clear hcz34_1); (try clear hcz39_0)
     (try clear hcz39_1); (try clear hcz44_0); (try clear hcz44_1); (try clear hcz47_0); (try clear hcz47_1); (try clear hcz52_0); (try clear hcz52_1); (try clear hcz55_0); (try clear hcz55_1); (try clear hcz61_0); (try clear hcz61_1); (try clear hcz64_0); (try clear hcz64_1); (try clear hcz66_0); (try clear hcz71_0); (try clear hcz71_1); (try clear hcz74_0); (try clear hcz74_1); (try clear hcz76_0); (try clear hcz81_0); (try clear hcz81_1); (try clear hcz84_0); (try clear hcz84_1); (try clear hcz86_0); (try clear hcz87_0); (try clear hcz91_0); (try clear hcz91_1); (try clear hcz94_0); (try clear hcz94_1); (try clear hcz96_0); (try clear hfz101_0); (try clear hfz101_1); (try clear hfz104_0); (try clear hfz104_1); (try clear hfz106_0); (try clear hfz111_0); (try clear hfz111_1); (try clear hfz114_0); (try clear hfz114_1); (try clear hfz116_0); (try clear hfz121_0); (try clear hfz121_1); (try clear hfz124_0); (try clear hfz124_1); (try clear hfz126_0); (try clear hfz127_0); (try clear hfz132_0); (try clear hfz132_1); (try clear hfz135_0); (try clear hfz135_1); (try clear hfz137_0); (try clear hfz138_0); (try clear hfz142_0); (try clear hfz142_1); (try clear hfz145_0); (try clear hfz145_1); (try clear hfz147_0); (try clear hfz148_0); (try clear hfz17_0); (try clear hfz18_0); (try clear hfz18_1); (try clear hfz26_0); (try clear hfz29_0); (try clear hfz29_1); (try clear hfz34_0); (try clear hfz34_1); (try clear hfz39_0); (try clear hfz39_1); (try clear hfz44_0); (try clear hfz44_1); (try clear hfz47_0); (try clear hfz47_1); (try clear hfz52_0); (try clear hfz52_1); (try clear hfz55_0); (try clear hfz55_1); (try clear hfz61_0); (try clear hfz61_1); (try clear hfz64_0); (try clear hfz64_1); (try clear hfz66_0); (try clear hfz71_0); (try clear hfz71_1); (try clear hfz74_0); (try clear hfz74_1); (try clear hfz76_0); (try clear hfz81_0); (try clear hfz81_1); (try clear hfz84_0); (try clear hfz84_1); (try clear hfz86_0); (try clear hfz87_0); (try clear hfz91_0); (try clear hfz91_1); (try clear hfz94_0); (try clear hfz94_1); (try clear hfz96_0); (try clear p2); obtain ⟨kq, x87_10, rfl, HA, HJ10, HO_109000, HO_117000, BK108, BK109, BK116, BK117, HB⟩ := hcut; cases kq with
     | zero => exact absurd HA.out (by simp [entrepotlaw16_TourEither.j1])
     | succ kj10 =>
      have H := HA.out; clear HA; simp only [entrepotlaw16_TourEither.j1] at H
      by_cases c149 : x87_10 = true
      ·subst c149; have H1 : (none) = some r := by rw [if_pos rfl] at H; exact H
       clear H; have H := H1; clear H1
       exact absurd H (by simp)
      ·replace c149 := Bool.eq_false_iff.mpr c149; subst c149; have H1 : (entrepotlaw16_TourEither.l0 kj10 t113 0 t103 t114 t115) = some r := by rw [if_neg (show ¬ (false = true) by decide)] at H; exact H
       clear H; have H := H1; clear H1; have H' := Aside0.mk H; clear H
       go_wp2
       repeat (go_quiet (fail); try go_wp2)
       (try simp only [Act.put, List.setIfInBounds_toArray, List.set_cons_zero, List.set_cons_succ])
       go_loopg [8] kj10 (fun kq v8 w' => ∃ (x8_3 : Int), v8 = .int .i64 x8_3 ∧ Aside0 (entrepotlaw16_TourEither.l0 kq t113 x8_3 t103 t114 t115 = some r) ∧ Aside0 (kq ≤ kj10) ∧ Aside0 (Kd.S (Kd.slice 3 (Kd.int .i64)) 38 w' w.heap.size (fun k_ => some k_ ≠ ((.slice Ao22 t110.length co22) : Value).ownBlock) (.slice Ao15 t103.length co15) t103) ∧ Aside0 (Kd.S (Kd.slice 3 (Kd.int .i64)) 38 w' w.heap.size (fun k_ => some k_ ≠ ((.slice Ao15 t103.length co15) : Value).ownBlock) (.slice Ao22 t110.length co22) t110) ∧ Aside0 (w'.heap[gb108]? = some (.cells #[(.slice Ao15 t103.length co15)] 70 (0, 0))) ∧ Aside0 (w'.heap[gb109]? = some (.cells #[.int .i64 t106, .int .i64 t107] 41 (0, 0))) ∧ Aside0 (w'.heap[gb116]? = some (.cells #[(.slice Ao22 t110.length co22)] 70 (0, 0))) ∧ Aside0 (w'.heap[gb117]? = some (.cells #[.int .i64 t114, .int .i64 t115] 41 (0, 0))) ∧ Aside0 (Below w.heap.size w w'))
       case atStart => exact ⟨(0), qr, H', ⟨Nat.le_refl _⟩, ⟨qS HO_109000.out⟩, ⟨qS HO_117000.out⟩, ⟨qk BK108.out⟩, ⟨qk BK109.out⟩, ⟨qk BK116.out⟩, ⟨qk BK117.out⟩, ⟨qb⟩⟩
       case round =>
        clear H'; (try clear c1); (try clear c2); (try clear p2); (try clear c3); (try clear c3b0); (try clear c3b1); (try clear c4); (try clear c5); (try clear c6); (try clear c7); (try clear c8); (try clear c9); (try clear c10); (try clear c11); (try clear c12); (try clear c13); (try clear c14); (try clear c16); (try clear c23); (try clear c24); (try clear c25); (try clear c27); (try clear c28); (try clear c30); (try clear c30b0); (try clear c31); (try clear c32); (try clear c33); (try clear c35); (try clear c35b0); (try clear c36); (try clear c37); (try clear c38); (try clear c40); (try clear c40b0); (try clear c41); (try clear c42); (try clear c43); (try clear c45); (try clear c46); (try clear c48); (try clear c48b0); (try clear c49); (try clear c50); (try clear c51); (try clear c53); (try clear c54); (try clear c56); (try clear c56b0); (try clear c56b1); (try clear c57); (try clear c57b0); (try clear c57b1); (try clear c58); (try clear c59); (try clear c60); (try clear c62); (try clear c63); (try clear c65); (try clear c67); (try clear c67b0); (try clear c67b1); (try clear c68); (try clear c69); (try clear c70); (try clear c72); (try clear c73); (try clear c75); (try clear c77); (try clear c77b0); (try clear c77b1); (try clear c78); (try clear c79); (try clear c80); (try clear c82); (try clear c83); (try clear c85); (try clear c88); (try clear c89); (try clear c90); (try clear c92); (try clear c93); (try clear c95); (try clear c97); (try clear c97b0); (try clear c97b1); (try clear c98); (try clear c99); (try clear c100); (try clear c102); (try clear c103); (try clear c105); (try clear c107); (try clear c107b0); (try clear c107b1); (try clear c108); (try clear c109); (try clear c110); (try clear c112); (try clear c113); (try clear c115); (try clear c117); (try clear c117b0); (try clear c117b1); (try clear c118); (try clear c119); (try clear c120); (try clear c122); (try clear c123); (try clear c125); (try clear c128); (try clear c128b0); (try clear c128b1); (try clear c129); (try clear c130); (try clear c131); (try clear c133); (try clear c134); (try clear c136); (try clear c139); (try clear c140); (try clear c141); (try clear c143); (try clear c144); (try clear c146); (try clear c149); (try clear hcz101_0); (try clear hcz101_1); (try clear hcz104_0); (try clear hcz104_1); (try clear hcz106_0); (try clear hcz111_0); (try clear hcz111_1); (try clear hcz114_0); (try clear hcz114_1); (try clear hcz116_0); (try clear hcz121_0); (try clear hcz121_1); (try clear hcz124_0); (try clear hcz124_1); (try clear hcz126_0); (try clear hcz127_0); (try clear hcz132_0); (try clear hcz132_1); (try clear hcz135_0); (try clear hcz135_1); (try clear hcz137_0); (try clear hcz138_0); (try clear hcz142_0); (try clear hcz142_1); (try clear hcz145_0); (try clear hcz145_1); (try clear hcz147_0); (try clear hcz148_0); (try clear hcz17_0); (try clear hcz18_0); (try clear hcz18_1); (try clear hcz26_0); (try clear hcz29_0); (try clear hcz29_1); (try clear hcz34_0); (try clear hcz34_1)
        (try clear hcz39_0); (try clear hcz39_1); (try clear hcz44_0); (try clear hcz44_1); (try clear hcz47_0); (try clear hcz47_1); (try clear hcz52_0); (try clear hcz52_1); (try clear hcz55_0); (try clear hcz55_1); (try clear hcz61_0); (try clear hcz61_1); (try clear hcz64_0); (try clear hcz64_1); (try clear hcz66_0); (try clear hcz71_0); (try clear hcz71_1); (try clear hcz74_0); (try clear hcz74_1); (try clear hcz76_0); (try clear hcz81_0); (try clear hcz81_1); (try clear hcz84_0); (try clear hcz84_1); (try clear hcz86_0); (try clear hcz87_0); (try clear hcz91_0); (try clear hcz91_1); (try clear hcz94_0); (try clear hcz94_1); (try clear hcz96_0); (try clear hfz101_0); (try clear hfz101_1); (try clear hfz104_0); (try clear hfz104_1); (try clear hfz106_0); (try clear hfz111_0); (try clear hfz111_1); (try clear hfz114_0); (try clear hfz114_1); (try clear hfz116_0); (try clear hfz121_0); (try clear hfz121_1); (try clear hfz124_0); (try clear hfz124_1); (try clear hfz126_0); (try clear hfz127_0); (try clear hfz132_0); (try clear hfz132_1); (try clear hfz135_0); (try clear hfz135_1); (try clear hfz137_0); (try clear hfz138_0); (try clear hfz142_0); (try clear hfz142_1); (try clear hfz145_0); (try clear hfz145_1); (try clear hfz147_0); (try clear hfz148_0); (try clear hfz17_0); (try clear hfz18_0); (try clear hfz18_1); (try clear hfz26_0); (try clear hfz29_0); (try clear hfz29_1); (try clear hfz34_0); (try clear hfz34_1); (try clear hfz39_0); (try clear hfz39_1); (try clear hfz44_0); (try clear hfz44_1); (try clear hfz47_0); (try clear hfz47_1); (try clear hfz52_0); (try clear hfz52_1); (try clear hfz55_0); (try clear hfz55_1); (try clear hfz61_0); (try clear hfz61_1); (try clear hfz64_0); (try clear hfz64_1); (try clear hfz66_0); (try clear hfz71_0); (try clear hfz71_1); (try clear hfz74_0); (try clear hfz74_1); (try clear hfz76_0); (try clear hfz81_0); (try clear hfz81_1); (try clear hfz84_0); (try clear hfz84_1); (try clear hfz86_0); (try clear hfz87_0); (try clear hfz91_0); (try clear hfz91_1); (try clear hfz94_0); (try clear hfz94_1); (try clear hfz96_0); (try clear p2); obtain ⟨x8_3, rfl, HA, HK3, HO_109000, HO_117000, BK108, BK109, BK116, BK117, HB⟩ := hrel; cases gk with
        | zero => exact absurd HA.out (by simp [entrepotlaw16_TourEither.l0])
        | succ k3 =>
         have H := HA.out; clear HA; simp only [entrepotlaw16_TourEither.l0] at H
         by_cases c150 : x8_3 < (t103.length : Int)
         ·rw [if_pos c150] at H; have c150b0 := decide_eq_true c150; clear c150; have H' := Aside0.mk H; clear H; have hnb151 := NB108_109.out; have hnc151 := NB109_108.out; have hnb152 := NB108_116.out; have hnc152 := NB116_108.out; have hnb153 := NB108_117.out; have hnc153 := NB117_108.out; obtain ⟨hcz154_0, hfz154_0⟩ := bc1 BK108.out
          go_wp2
          repeat (go_quiet (fail); try go_wp2)
          (try simp only [Act.put, List.setIfInBounds_toArray, List.set_cons_zero, List.set_cons_succ])
          go_loopg [9] k3 (fun kq v9 w' => ∃ (x9_4 : Int), v9 = .int .i64 x9_4 ∧ Aside0 (entrepotlaw16_TourEither.l1 kq t113 x8_3 x9_4 t103 t114 t115 = some r) ∧ Aside0 (kq ≤ k3) ∧ Aside0 (Kd.S (Kd.slice 3 (Kd.int .i64)) 38 w' w.heap.size (fun k_ => some k_ ≠ ((.slice Ao22 t110.length co22) : Value).ownBlock) (.slice Ao15 t103.length co15) t103) ∧ Aside0 (Kd.S (Kd.slice 3 (Kd.int .i64)) 38 w' w.heap.size (fun k_ => some k_ ≠ ((.slice Ao15 t103.length co15) : Value).ownBlock) (.slice Ao22 t110.length co22) t110) ∧ Aside0 (w'.heap[gb108]? = some (.cells #[(.slice Ao15 t103.length co15)] 70 (0, 0))) ∧ Aside0 (w'.heap[gb109]? = some (.cells #[.int .i64 t106, .int .i64 t107] 41 (0, 0))) ∧ Aside0 (w'.heap[gb116]? = some (.cells #[(.slice Ao22 t110.length co22)] 70 (0, 0))) ∧ Aside0 (w'.heap[gb117]? = some (.cells #[.int .i64 t114, .int .i64 t115] 41 (0, 0))) ∧ Aside0 (Below w.heap.size w w'))
          case atStart => exact ⟨(0), qr, H', ⟨Nat.le_refl _⟩, ⟨qS HO_109000.out⟩, ⟨qS HO_117000.out⟩, ⟨qk BK108.out⟩, ⟨qk BK109.out⟩, ⟨qk BK116.out⟩, ⟨qk BK117.out⟩, ⟨qb⟩⟩
          case round =>
           clear H'; (try clear c1); (try clear c2); (try clear p2); (try clear c3); (try clear c3b0); (try clear c3b1); (try clear c4); (try clear c5); (try clear c6); (try clear c7); (try clear c8); (try clear c9); (try clear c10); (try clear c11); (try clear c12); (try clear c13); (try clear c14); (try clear c15); (try clear c16); (try clear c23); (try clear c24); (try clear c25); (try clear c27); (try clear c28); (try clear c30); (try clear c30b0); (try clear c31); (try clear c32); (try clear c33); (try clear c35); (try clear c35b0); (try clear c36); (try clear c37); (try clear c38); (try clear c40); (try clear c40b0); (try clear c41); (try clear c42); (try clear c43); (try clear c45); (try clear c46); (try clear c48); (try clear c48b0); (try clear c49); (try clear c50); (try clear c51); (try clear c53); (try clear c54); (try clear c56); (try clear c56b0); (try clear c56b1); (try clear c57); (try clear c57b0); (try clear c57b1); (try clear c58); (try clear c59); (try clear c60); (try clear c62); (try clear c63); (try clear c65); (try clear c67); (try clear c67b0); (try clear c67b1); (try clear c68); (try clear c69); (try clear c70); (try clear c72); (try clear c73); (try clear c75); (try clear c77); (try clear c77b0); (try clear c77b1); (try clear c78); (try clear c79); (try clear c80); (try clear c82); (try clear c83); (try clear c85); (try clear c88); (try clear c89); (try clear c90); (try clear c92); (try clear c93); (try clear c95); (try clear c97); (try clear c97b0); (try clear c97b1); (try clear c98); (try clear c99); (try clear c100); (try clear c102); (try clear c103); (try clear c105); (try clear c107); (try clear c107b0); (try clear c107b1); (try clear c108); (try clear c109); (try clear c110); (try clear c112); (try clear c113); (try clear c115); (try clear c117); (try clear c117b0); (try clear c117b1); (try clear c118); (try clear c119); (try clear c120); (try clear c122); (try clear c123); (try clear c125); (try clear c128); (try clear c128b0); (try clear c128b1); (try clear c129); (try clear c130); (try clear c131); (try clear c133); (try clear c134); (try clear c136); (try clear c139); (try clear c140); (try clear c141); (try clear c143); (try clear c144); (try clear c146); (try clear c149); (try clear c150); (try clear c150b0); (try clear c151); (try clear c152); (try clear c153); (try clear hcz101_0); (try clear hcz101_1); (try clear hcz104_0); (try clear hcz104_1); (try clear hcz106_0); (try clear hcz111_0); (try clear hcz111_1); (try clear hcz114_0); (try clear hcz114_1); (try clear hcz116_0); (try clear hcz121_0); (try clear hcz121_1); (try clear hcz124_0); (try clear hcz124_1); (try clear hcz126_0); (try clear hcz127_0); (try clear hcz132_0); (try clear hcz132_1); (try clear hcz135_0); (try clear hcz135_1); (try clear hcz137_0); (try clear hcz138_0); (try clear hcz142_0); (try clear hcz142_1); (try clear hcz145_0); (try clear hcz145_1); (try clear hcz147_0); (try clear hcz148_0); (try clear hcz154_0); (try clear hcz17_0)
           (try clear hcz18_0); (try clear hcz18_1); (try clear hcz26_0); (try clear hcz29_0); (try clear hcz29_1); (try clear hcz34_0); (try clear hcz34_1); (try clear hcz39_0); (try clear hcz39_1); (try clear hcz44_0); (try clear hcz44_1); (try clear hcz47_0); (try clear hcz47_1); (try clear hcz52_0); (try clear hcz52_1); (try clear hcz55_0); (try clear hcz55_1); (try clear hcz61_0); (try clear hcz61_1); (try clear hcz64_0); (try clear hcz64_1); (try clear hcz66_0); (try clear hcz71_0); (try clear hcz71_1); (try clear hcz74_0); (try clear hcz74_1); (try clear hcz76_0); (try clear hcz81_0); (try clear hcz81_1); (try clear hcz84_0); (try clear hcz84_1); (try clear hcz86_0); (try clear hcz87_0); (try clear hcz91_0); (try clear hcz91_1); (try clear hcz94_0); (try clear hcz94_1); (try clear hcz96_0); (try clear hfz101_0); (try clear hfz101_1); (try clear hfz104_0); (try clear hfz104_1); (try clear hfz106_0); (try clear hfz111_0); (try clear hfz111_1); (try clear hfz114_0); (try clear hfz114_1); (try clear hfz116_0); (try clear hfz121_0); (try clear hfz121_1); (try clear hfz124_0); (try clear hfz124_1); (try clear hfz126_0); (try clear hfz127_0); (try clear hfz132_0); (try clear hfz132_1); (try clear hfz135_0); (try clear hfz135_1); (try clear hfz137_0); (try clear hfz138_0); (try clear hfz142_0); (try clear hfz142_1); (try clear hfz145_0); (try clear hfz145_1); (try clear hfz147_0); (try clear hfz148_0); (try clear hfz154_0); (try clear hfz17_0); (try clear hfz18_0); (try clear hfz18_1); (try clear hfz26_0); (try clear hfz29_0); (try clear hfz29_1); (try clear hfz34_0); (try clear hfz34_1); (try clear hfz39_0); (try clear hfz39_1); (try clear hfz44_0); (try clear hfz44_1); (try clear hfz47_0); (try clear hfz47_1); (try clear hfz52_0); (try clear hfz52_1); (try clear hfz55_0); (try clear hfz55_1); (try clear hfz61_0); (try clear hfz61_1); (try clear hfz64_0); (try clear hfz64_1); (try clear hfz66_0); (try clear hfz71_0); (try clear hfz71_1); (try clear hfz74_0); (try clear hfz74_1); (try clear hfz76_0); (try clear hfz81_0); (try clear hfz81_1); (try clear hfz84_0); (try clear hfz84_1); (try clear hfz86_0); (try clear hfz87_0); (try clear hfz91_0); (try clear hfz91_1); (try clear hfz94_0); (try clear hfz94_1); (try clear hfz96_0); (try clear p2); obtain ⟨x9_4, rfl, HA, HK4, HO_109000, HO_117000, BK108, BK109, BK116, BK117, HB⟩ := hrel; cases gk with
           | zero => exact absurd HA.out (by simp [entrepotlaw16_TourEither.l1])
           | succ k4 =>
            have H := HA.out; clear HA; simp only [entrepotlaw16_TourEither.l1] at H
            by_cases c155 : 0 ≤ x8_3
            ·rw [if_pos c155] at H; have c155b0 := decide_eq_true c155; clear c155
             by_cases c156 : x8_3 < (t103.length : Int)
             ·rw [if_pos c156] at H; have c156b0 := decide_eq_true c156; clear c156
              by_cases c157 : x9_4 < ((rd_L14 t103 x8_3).length : Int)
              ·rw [if_pos c157] at H; have c157b0 := decide_eq_true c157; clear c157
               by_cases c158 : 0 ≤ x9_4
               ·rw [if_pos c158] at H; have c158b0 := decide_eq_true c158; clear c158
                by_cases c159 : (rd (rd_L14 t103 x8_3) x9_4) < 0
                ·rw [if_pos c159] at H
                 exact absurd H (by simp)
                ·rw [if_neg c159] at H; have c159b0 := decide_eq_false c159; clear c159
                 by_cases c160 : (rd (rd_L14 t103 x8_3) x9_4) ≥ ((rd_L14 t103 x8_3).length : Int)
                 ·rw [if_pos c160] at H
                  exact absurd H (by simp)
                 ·rw [if_neg c160] at H; have c160b0 := decide_eq_false c160; clear c160; have H' := Aside0.mk H; clear H; have hnb161 := NB108_109.out; have hnc161 := NB109_108.out; have hnb162 := NB108_116.out; have hnc162 := NB116_108.out; have hnb163 := NB108_117.out; have hnc163 := NB117_108.out; obtain ⟨hcz164_0, hfz164_0⟩ := bc1 BK108.out; have p118 : 0 ≤ (x8_3 : Int) := of_decide_eq_true qa; have q118 : x8_3 < (t103.length : Int) := of_decide_eq_true qa; obtain ⟨ad118, A118_0, c118_0, e118, hx118_0, hl118_0, hi118_0⟩ := at_L14 (Kd.S_reads' HO_109000.out).2.2 x8_3 p118 q118; cases e118; obtain ⟨ce118, hce118, hMe118, hcc118⟩ := Kd.S_get HO_109000.out [] x8_3 p118 (by first | exact q118 | exact of_decide_eq_true qa | (have e_ := (Kd.S_reads' HO_109000.out).1; omega)); obtain ⟨ve118_0, rfl, ge118_0⟩ := hMe118; have hv118_0 := hcc118 0 _ rfl; rw [Nat.add_zero, show ((Kd.slice 3 (Kd.int .i64))).sz = 1 from rfl, Nat.mul_one] at hv118_0; replace hv118_0 := Option.some.inj (hv118_0.symm.trans hx118_0); rw [hv118_0] at ge118_0; have HL118_0 := Aside0.mk (show Kd.R (Kd.int .i64) 3 _ _ _ _ (rd_L14 t103 x8_3) from ge118_0); clear hv118_0 ge118_0; clear hcc118 hce118; have HR118_0 := Aside0.mk hi118_0; have HC118_0 := Aside0.mk hl118_0; clear hi118_0 hl118_0; (try simp only [Go.IntWalk.toNatUp] at hx118_0); replace p118 := eq_true p118; replace q118 := eq_true q118; have p119 : 0 ≤ (x8_3 : Int) := of_decide_eq_true qa; have q119 : x8_3 < (t103.length : Int) := of_decide_eq_true qa; obtain ⟨ad119, A119_0, c119_0, e119, hx119_0, hl119_0, hi119_0⟩ := at_L14 (Kd.S_reads' HO_109000.out).2.2 x8_3 p119 q119; obtain rfl : ad118 = ad119 := (by injection e119); obtain ⟨ce119, hce119, hMe119, hcc119⟩ := Kd.S_get HO_109000.out [] x8_3 p119 (by first | exact q119 | exact of_decide_eq_true qa | (have e_ := (Kd.S_reads' HO_109000.out).1; omega)); obtain ⟨ve119_0, rfl, ge119_0⟩ := hMe119; have hv119_0 := hcc119 0 _ rfl; rw [Nat.add_zero, show ((Kd.slice 3 (Kd.int .i64))).sz = 1 from rfl, Nat.mul_one] at hv119_0; replace hv119_0 := Option.some.inj (hv119_0.symm.trans hx119_0); rw [hv119_0] at ge119_0; have HL119_0 := Aside0.mk (show Kd.R (Kd.int .i64) 3 _ _ _ _ (rd_L14 t103 x8_3) from ge119_0); clear hv119_0 ge119_0; clear hcc119 hce119; have HR119_0 := Aside0.mk hi119_0; have HC119_0 := Aside0.mk hl119_0; clear hi119_0 hl119_0; (try simp only [Go.IntWalk.toNatUp] at hx119_0); replace p119 := eq_true p119; replace q119 := eq_true q119; have ea_ := Option.some.inj (hx118_0.symm.trans hx119_0); injection ea_ with ea_ en_ ec_
                  subst ea_; subst ec_; clear en_; have p120 : 0 ≤ (x9_4 : Int) := of_decide_eq_true qa; have q120 : x9_4 < ((rd_L14 t103 x8_3).length : Int) := of_decide_eq_true qa; obtain ⟨ad120, e120, hx120_0⟩ := Kd.at_int (qD HR119_0.out HL119_0.out) x9_4 p120 q120; cases e120; (try simp only [Go.IntWalk.toNatUp] at hx120_0); replace p120 := eq_true p120; replace q120 := eq_true q120; have p121 : 0 ≤ (x8_3 : Int) := of_decide_eq_true qa; have q121 : x8_3 < (t103.length : Int) := of_decide_eq_true qa; obtain ⟨ad121, A121_0, c121_0, e121, hx121_0, hl121_0, hi121_0⟩ := at_L14 (Kd.S_reads' HO_109000.out).2.2 x8_3 p121 q121; obtain rfl : ad118 = ad121 := (by injection e121); obtain ⟨ce121, hce121, hMe121, hcc121⟩ := Kd.S_get HO_109000.out [] x8_3 p121 (by first | exact q121 | exact of_decide_eq_true qa | (have e_ := (Kd.S_reads' HO_109000.out).1; omega)); obtain ⟨ve121_0, rfl, ge121_0⟩ := hMe121; have hv121_0 := hcc121 0 _ rfl; rw [Nat.add_zero, show ((Kd.slice 3 (Kd.int .i64))).sz = 1 from rfl, Nat.mul_one] at hv121_0; replace hv121_0 := Option.some.inj (hv121_0.symm.trans hx121_0); rw [hv121_0] at ge121_0; have HL121_0 := Aside0.mk (show Kd.R (Kd.int .i64) 3 _ _ _ _ (rd_L14 t103 x8_3) from ge121_0); clear hv121_0 ge121_0; clear hcc121 hce121; have HR121_0 := Aside0.mk hi121_0; have HC121_0 := Aside0.mk hl121_0; clear hi121_0 hl121_0; (try simp only [Go.IntWalk.toNatUp] at hx121_0); replace p121 := eq_true p121; replace q121 := eq_true q121; have ea_ := Option.some.inj (hx118_0.symm.trans hx121_0); injection ea_ with ea_ en_ ec_
                  subst ea_; subst ec_; clear en_; have p122 : 0 ≤ (x9_4 : Int) := of_decide_eq_true qa; have q122 : x9_4 < ((rd_L14 t103 x8_3).length : Int) := of_decide_eq_true qa; obtain ⟨ad122, e122, hx122_0⟩ := Kd.at_int (qD HR121_0.out HL121_0.out) x9_4 p122 q122; cases e122; (try simp only [Go.IntWalk.toNatUp] at hx122_0); replace p122 := eq_true p122; replace q122 := eq_true q122; have p123 : 0 ≤ (x8_3 : Int) := of_decide_eq_true qa; have q123 : x8_3 < (t103.length : Int) := of_decide_eq_true qa; obtain ⟨ad123, A123_0, c123_0, e123, hx123_0, hl123_0, hi123_0⟩ := at_L14 (Kd.S_reads' HO_109000.out).2.2 x8_3 p123 q123; obtain rfl : ad118 = ad123 := (by injection e123); obtain ⟨ce123, hce123, hMe123, hcc123⟩ := Kd.S_get HO_109000.out [] x8_3 p123 (by first | exact q123 | exact of_decide_eq_true qa | (have e_ := (Kd.S_reads' HO_109000.out).1; omega)); obtain ⟨ve123_0, rfl, ge123_0⟩ := hMe123; have hv123_0 := hcc123 0 _ rfl; rw [Nat.add_zero, show ((Kd.slice 3 (Kd.int .i64))).sz = 1 from rfl, Nat.mul_one] at hv123_0; replace hv123_0 := Option.some.inj (hv123_0.symm.trans hx123_0); rw [hv123_0] at ge123_0; have HL123_0 := Aside0.mk (show Kd.R (Kd.int .i64) 3 _ _ _ _ (rd_L14 t103 x8_3) from ge123_0); clear hv123_0 ge123_0; clear hcc123 hce123; have HR123_0 := Aside0.mk hi123_0; have HC123_0 := Aside0.mk hl123_0; clear hi123_0 hl123_0; (try simp only [Go.IntWalk.toNatUp] at hx123_0); replace p123 := eq_true p123; replace q123 := eq_true q123; have ea_ := Option.some.inj (hx118_0.symm.trans hx123_0); injection ea_ with ea_ en_ ec_
                  subst ea_; subst ec_; clear en_
                  go_wp2
                  repeat (go_quiet (fail); try go_wp2)
                  go_roundg k4
                  case measure => have := HJ1.out; have := HJ10.out; have := HK3.out; have := HK4.out; omega
                  case rel => exact ⟨(wrap64 (x9_4 + 1)), qr, H', ⟨by have := HJ1.out; have := HJ10.out; have := HK3.out; have := HK4.out; omega⟩, ⟨qS HO_109000.out⟩, ⟨qS HO_117000.out⟩, ⟨qk BK108.out⟩, ⟨qk BK109.out⟩, ⟨qk BK116.out⟩, ⟨qk BK117.out⟩, ⟨qb⟩⟩
               ·rw [if_neg c158] at H
                exact absurd H (by simp)
              ·rw [if_neg c157] at H; have c157b0 := decide_eq_false c157; clear c157; have H' := Aside0.mk H; clear H; have hnb165 := NB108_109.out; have hnc165 := NB109_108.out; have hnb166 := NB108_116.out; have hnc166 := NB116_108.out; have hnb167 := NB108_117.out; have hnc167 := NB117_108.out; obtain ⟨hcz168_0, hfz168_0⟩ := bc1 BK108.out; have p118 : 0 ≤ (x8_3 : Int) := of_decide_eq_true qa; have q118 : x8_3 < (t103.length : Int) := of_decide_eq_true qa; obtain ⟨ad118, A118_0, c118_0, e118, hx118_0, hl118_0, hi118_0⟩ := at_L14 (Kd.S_reads' HO_109000.out).2.2 x8_3 p118 q118; cases e118; obtain ⟨ce118, hce118, hMe118, hcc118⟩ := Kd.S_get HO_109000.out [] x8_3 p118 (by first | exact q118 | exact of_decide_eq_true qa | (have e_ := (Kd.S_reads' HO_109000.out).1; omega)); obtain ⟨ve118_0, rfl, ge118_0⟩ := hMe118; have hv118_0 := hcc118 0 _ rfl; rw [Nat.add_zero, show ((Kd.slice 3 (Kd.int .i64))).sz = 1 from rfl, Nat.mul_one] at hv118_0; replace hv118_0 := Option.some.inj (hv118_0.symm.trans hx118_0); rw [hv118_0] at ge118_0; have HL118_0 := Aside0.mk (show Kd.R (Kd.int .i64) 3 _ _ _ _ (rd_L14 t103 x8_3) from ge118_0); clear hv118_0 ge118_0; clear hcc118 hce118; have HR118_0 := Aside0.mk hi118_0; have HC118_0 := Aside0.mk hl118_0; clear hi118_0 hl118_0; (try simp only [Go.IntWalk.toNatUp] at hx118_0); replace p118 := eq_true p118; replace q118 := eq_true q118
               go_wp2
               repeat (go_quiet (fail); try go_wp2)
               go_roundg k4
               case measure => have := HJ1.out; have := HJ10.out; have := HK3.out; have := HK4.out; omega
               case rel => exact ⟨(wrap64 (x8_3 + 1)), qr, H', ⟨by have := HJ1.out; have := HJ10.out; have := HK3.out; have := HK4.out; omega⟩, ⟨qS HO_109000.out⟩, ⟨qS HO_117000.out⟩, ⟨qk BK108.out⟩, ⟨qk BK109.out⟩, ⟨qk BK116.out⟩, ⟨qk BK117.out⟩, ⟨qb⟩⟩
             ·rw [if_neg c156] at H
              exact absurd H (by simp)
            ·rw [if_neg c155] at H
             exact absurd H (by simp)
         ·rw [if_neg c150] at H; have c150b0 := decide_eq_false c150; clear c150
          by_cases c169 : t115 = 0
          ·rw [if_pos c169] at H; have c169b0 := beq_iff_eq.mpr c169; have c169b1 := bne_eq_false_iff_eq.mpr c169; clear c169; obtain rfl := Option.some.inj H; have hnb170 := NB108_109.out; have hnc170 := NB109_108.out; have hnb171 := NB108_116.out; have hnc171 := NB116_108.out; have hnb172 := NB108_117.out; have hnc172 := NB117_108.out; obtain ⟨hcz173_0, hfz173_0⟩ := bc1 BK108.out; have hnb174 := NB117_109.out; have hnc174 := NB109_117.out; have hnb175 := NB117_116.out; have hnc175 := NB116_117.out; obtain ⟨hcz176_0, hcz176_1, hfz176_0, hfz176_1⟩ := bc2 BK117.out
           go_wp2
           repeat (go_quiet (fail); try go_wp2)
           go_ret
           exact ⟨qe, qb⟩
          ·rw [if_neg c169] at H; have c169b0 := beq_eq_false_iff_ne.mpr c169; have c169b1 := bne_iff_ne.mpr c169; obtain rfl := Option.some.inj H; have hnb177 := NB108_109.out; have hnc177 := NB109_108.out; have hnb178 := NB108_116.out; have hnc178 := NB116_108.out; have hnb179 := NB108_117.out; have hnc179 := NB117_108.out; obtain ⟨hcz180_0, hfz180_0⟩ := bc1 BK108.out; have hnb181 := NB117_109.out; have hnc181 := NB109_117.out; have hnb182 := NB117_116.out; have hnc182 := NB116_117.out; obtain ⟨hcz183_0, hcz183_1, hfz183_0, hfz183_1⟩ := bc2 BK117.out
           go_wp2
           repeat (go_quiet (fail); try go_wp2)
           go_ret
           exact ⟨qe, qb⟩
end Go.Proofs.YtadocbfchdendaaGreatDoor.P
namespace Go.Proofs.YtadocbfchdendaaGreatDoor.P
open Go.RowKit
def entrepotlaw16_TourEither.Pure : Prop := ∀ (a0 : ByteArray), a0.size ≤ 140737488351232 → ∃ k, entrepotlaw16_TourEither.f k a0 = some true
end Go.Proofs.YtadocbfchdendaaGreatDoor.P
namespace Go.Proofs.YtadocbfchdendaaGreatDoor.P
open Go.RowKit Go.Proofs.YtadocbfchdendaaGreatDoorW.PrintWords Go.Proofs.YtadocbfchdendaaGreatDoorW.PrintLast Go.Proofs.YtadocbfchdendaaGreatDoorW.PrintMore
attribute [local go_sem] max2_int min2_int max_two min_two max_three min_three max_four min_four
set_option linter.unusedVariables false
set_option linter.unusedSimpArgs false
end Go.Proofs.YtadocbfchdendaaGreatDoor.P
namespace Go.Proofs.YtadocbfchdendaaGreatDoor.Cu
open Go.RowKit Go.Lib Go.Proofs.YtadocbfchdendaaGreatDoorW.PrintWords Go.Proofs.YtadocbfchdendaaGreatDoorW.PrintLast Go.Proofs.YtadocbfchdendaaGreatDoorW.PrintMore Go.Proofs.YtadocbfchdendaaGreatDoor.P
set_option linter.unusedSimpArgs false
set_option linter.unusedVariables false
structure RZ (w W1 : World) (A : Option Addr) (L : List RRow) : Prop where
 bel : Below w.heap.size w W1
 bp : W1.heap[w.heap.size]? = some (.cells #[.slice none 0 0] 73 (0, 0))
 bd : W1.heap[w.heap.size + 1]? = some (.cells #[.int .i64 0, .int .i64 0] 41 (0, 0))
 rows : Kd.C k36 W1 A L.length L
 sz : w.heap.size + 2 ≤ W1.heap.size
structure RS (W1 : World) (g N : Nat) (W : World) (acc : List (List Int)) : Prop where
 b1 : Below W1.heap.size W1 W
 hg : W1.heap.size ≤ g
 plan : ∃ A c, W.heap[g]? = some (.cells #[.slice A acc.length c] 73 (0, 0)) ∧ Kd.S (Kd.slice 3 (Kd.int .i64)) 38 W W1.heap.size (fun k => k < N) (.slice A acc.length c) acc
theorem RS.lt {W1 W : World} {g N : Nat} {acc : List (List Int)} (h : RS W1 g N W acc) : g < W.heap.size := by
 obtain ⟨A, c, h1, h2⟩ := h.plan
 exact blk_lt h1
theorem RS.step {W1 W W' : World} {g N : Nat} {acc : List (List Int)} (h : RS W1 g N W acc) (hb : Below W.heap.size W W') : RS W1 g N W' acc := by
 obtain ⟨A, c, h1, h2⟩ := h.plan
 exact ⟨h.b1.trans (hb.mono h.b1.size), h.hg, ⟨A, c, blk_below h1 hb, Kd.S_below h2 hb⟩⟩
theorem RS.app {W1 W W' : World} {g N N' : Nat} {acc acc' : List (List Int)} (h : RS W1 g N W acc) {row : Option Nat} (hrow : ∀ k, row = some k → W1.heap.size ≤ k) (hne : some g ≠ row) (hg : W.grownBy W' row) (hb : Below W1.heap.size W1 W') {A' : Option Addr} {c' : Nat}
  (ho : Kd.S (Kd.slice 3 (Kd.int .i64)) 38 W' W1.heap.size (fun k => k < N') (.slice A' acc'.length c') acc') : RS W1 g N' (W'.setCell ⟨g, 0, none⟩ (.slice A' acc'.length c')) acc' := by
 have hlt := h.lt
 obtain ⟨A, c, h1, h2⟩ := h.plan
 have hp := (hg.block g hlt hne).trans h1
 exact ⟨hb.setCell (p := ⟨_, _, none⟩) h.hg _, h.hg, ⟨A', c', blk_put hp 0 _ rfl, Kd.S_set ho hp (by decide) 0 _⟩⟩
theorem RS.cells {w W1 W : World} {A : Option Addr} {L : List RRow} {g N : Nat} {acc : List (List Int)} (hz : RZ w W1 A L) (h : RS W1 g N W acc) :
  W.cell? ⟨w.heap.size, 0, none⟩ = some (.slice none 0 0) ∧ W.frozen? ⟨w.heap.size, 0, none⟩ = false ∧ W.cell? ⟨w.heap.size + 1, 0, none⟩ = some (.int .i64 0) ∧ W.cell? ⟨w.heap.size + 1, 1, none⟩ = some (.int .i64 0) ∧ W.frozen? ⟨w.heap.size + 1, 0, none⟩ = false ∧ W.frozen? ⟨w.heap.size + 1, 1, none⟩ = false := by
 have hp := (h.b1.block _ (by have := hz.sz; omega)).trans hz.bp
 have hd := (h.b1.block _ (by have := hz.sz; omega)).trans hz.bd
 exact ⟨(bc1 hp).1, (bc1 hp).2, (bc2 hd).1, (bc2 hd).2.1, (bc2 hd).2.2.1, (bc2 hd).2.2.2⟩
end Go.Proofs.YtadocbfchdendaaGreatDoor.Cu
namespace Go.Proofs.YtadocbfchdendaaGreatDoor.P
open Go.RowKit Go.Lib Go.Proofs.YtadocbfchdendaaGreatDoorW.PrintWords
end Go.Proofs.YtadocbfchdendaaGreatDoor.P
namespace Go.Proofs.YtadocbfchdendaaGreatDoor.P
open Go.RowKit Go.Proofs.YtadocbfchdendaaGreatDoorW.PrintWords Go.Proofs.YtadocbfchdendaaGreatDoorW.PrintLast Go.Proofs.YtadocbfchdendaaGreatDoorW.PrintMore
attribute [local go_sem] max2_int min2_int max_two min_two max_three min_three max_four min_four
set_option linter.unusedVariables false
set_option linter.unusedSimpArgs false
end Go.Proofs.YtadocbfchdendaaGreatDoor.P
namespace Go.Proofs.YtadocbfchdendaaGreatDoor.Cu
open Go.RowKit Go.Lib Go.Proofs.YtadocbfchdendaaGreatDoorW.PrintWords Go.Proofs.YtadocbfchdendaaGreatDoorW.PrintLast Go.Proofs.YtadocbfchdendaaGreatDoorW.PrintMore Go.Proofs.YtadocbfchdendaaGreatDoor.P
set_option linter.unusedSimpArgs false
set_option linter.unusedVariables false
def keyB (i : Int) : ByteArray := if i = 0 then (⟨#[78, 65, 77, 69]⟩ : ByteArray) else if i = 1 then (⟨#[84, 89, 80, 69]⟩ : ByteArray) else (⟨#[68, 73, 77, 69, 78, 83, 73, 79, 78]⟩ : ByteArray)
structure UZ (w W1 : World) (A : Option Addr) (R : List RRow) (B : Option Addr) (L : List RLn) : Prop where
 bel : Below w.heap.size w W1
 bp : W1.heap[w.heap.size]? = some (.cells #[.slice none 0 0] 73 (0, 0))
 bd : W1.heap[w.heap.size + 1]? = some (.cells #[.int .i64 0, .int .i64 0] 41 (0, 0))
 rows : Kd.C k36 W1 A R.length R
 lines : Kd.C k100 W1 B L.length L
 sz : w.heap.size + 2 ≤ W1.heap.size
theorem UZ.cells {w W1 W : World} {A : Option Addr} {R : List RRow} {B : Option Addr} {L : List RLn} (hz : UZ w W1 A R B L) (h : Below W1.heap.size W1 W) :
  W.cell? ⟨w.heap.size, 0, none⟩ = some (.slice none 0 0) ∧ W.frozen? ⟨w.heap.size, 0, none⟩ = false ∧ W.cell? ⟨w.heap.size + 1, 0, none⟩ = some (.int .i64 0) ∧ W.cell? ⟨w.heap.size + 1, 1, none⟩ = some (.int .i64 0) ∧ W.frozen? ⟨w.heap.size + 1, 0, none⟩ = false ∧ W.frozen? ⟨w.heap.size + 1, 1, none⟩ = false := by
 have hp := (h.block _ (by have := hz.sz; omega)).trans hz.bp
 have hd := (h.block _ (by have := hz.sz; omega)).trans hz.bd
 exact ⟨(bc1 hp).1, (bc1 hp).2, (bc2 hd).1, (bc2 hd).2.1, (bc2 hd).2.2.1, (bc2 hd).2.2.2⟩
end Go.Proofs.YtadocbfchdendaaGreatDoor.Cu
namespace Go.Proofs.YtadocbfchdendaaGreatDoor.P
open Go.RowKit Go.Lib Go.Proofs.YtadocbfchdendaaGreatDoorW.PrintWords
end Go.Proofs.YtadocbfchdendaaGreatDoor.P
namespace Go.Proofs.YtadocbfchdendaaGreatDoor.Cu
open Go.RowKit Go.Lib Go.Proofs.YtadocbfchdendaaGreatDoorW.PrintWords Go.Proofs.YtadocbfchdendaaGreatDoorW.PrintLast Go.Proofs.YtadocbfchdendaaGreatDoorW.PrintMore Go.Proofs.YtadocbfchdendaaGreatDoor.P
set_option linter.unusedSimpArgs false
def triL (l : List UInt8) : List UInt8 := l.dropWhile blankC
def triR (l : List UInt8) : List UInt8 := (l.reverse.dropWhile blankC).reverse
theorem bl_eq : (fun b : UInt8 => ([32, 9] : List UInt8).contains b) = blankC := by
 funext b
 rw [Bool.eq_iff_iff]
 simp [blankC, or_comm]
theorem trimL_eq (l : List UInt8) : Lib.trimLeftS l [32, 9] = triL l := by unfold Lib.trimLeftS triL; rw [bl_eq]
theorem trimR_eq (l : List UInt8) : Lib.trimRightS l [32, 9] = triR l := by unfold Lib.trimRightS triR; rw [bl_eq]
theorem triR_cons (c : UInt8) (l : List UInt8) : triR (c :: l) = if triR l = [] then (if blankC c = true then [] else [c]) else c :: triR l := by
 unfold triR
 rw [List.reverse_cons, List.dropWhile_append]
 cases h : l.reverse.dropWhile blankC with
 | nil => by_cases hc : blankC c = true <;> simp [hc]
 | cons a t => simp
theorem triL_cons (c : UInt8) (l : List UInt8) : triL (c :: l) = if blankC c = true then triL l else c :: l := by
 unfold triL
 rw [List.dropWhile_cons]
theorem tri_comm (l : List UInt8) : triL (triR l) = triR (triL l) := by
 induction l with
 | nil => rfl
 | cons c l ih =>
  by_cases hc : blankC c = true
  ·rw [triL_cons, if_pos hc, triR_cons]
   by_cases h : triR l = []
   ·rw [if_pos h, if_pos hc, ← ih, h]
   ·rw [if_neg h, triL_cons, if_pos hc, ih]
  ·rw [triL_cons, if_neg hc, triR_cons]
   by_cases h : triR l = []
   ·rw [if_pos h, if_neg hc]
    unfold triL
    rw [List.dropWhile_cons, if_neg hc]
   ·rw [if_neg h, triL_cons, if_neg hc]
theorem triL_len (l : List UInt8) : (triL l).length ≤ l.length := (List.dropWhile_suffix blankC).length_le
theorem triR_len (l : List UInt8) : (triR l).length ≤ l.length := by
 unfold triR
 rw [List.length_reverse]
 have := (List.dropWhile_suffix blankC (l := l.reverse)).length_le
 simpa using this
theorem triR_ne (l : List UInt8) (h : triL l ≠ []) : triR (triL l) ≠ [] := by
 cases hl : triL l with
 | nil => exact absurd hl h
 | cons c t =>
  have hc : blankC c = false := by
   have := List.head?_dropWhile_not blankC l
   unfold triL at hl
   rw [hl] at this
   simpa using this
  rw [triR_cons]
  by_cases h2 : triR t = []
  ·rw [if_pos h2, if_neg (by simp [hc])]; simp
  ·rw [if_neg h2]; simp
def seg (s : ByteArray) (a b : Nat) : List UInt8 := (s.data.toList.drop a).take (b - a)
theorem seg_len (s : ByteArray) (a b : Nat) (hab : a ≤ b) (hb : b ≤ s.size) : (seg s a b).length = b - a := by
 unfold seg
 rw [List.length_take, List.length_drop]
 have : s.data.toList.length = s.size := rfl
 omega
theorem seg_nil (s : ByteArray) (a : Nat) : seg s a a = [] := by unfold seg; rw [Nat.sub_self, List.take_zero]
theorem seg_cons (s : ByteArray) (a b : Nat) (c : UInt8) (hab : a < b) (hc : s.data.toList[a]? = some c) : seg s a b = c :: seg s (a + 1) b := by
 unfold seg
 rw [drop_cons' _ a c hc, show b - a = (b - (a + 1)) + 1 by omega, List.take_succ_cons]
theorem seg_snoc (s : ByteArray) (a b : Nat) (c : UInt8) (hab : a ≤ b) (hc : s.data.toList[b]? = some c) : seg s a (b + 1) = seg s a b ++ [c] := by
 unfold seg
 rw [show b + 1 - a = (b - a) + 1 by omega, List.take_add_one, List.getElem?_drop, show a + (b - a) = b by omega, hc]
 rfl
theorem seg_drop (s : ByteArray) (a b n : Nat) : (seg s a b).drop n = seg s (a + n) b := by
 unfold seg
 rw [List.drop_take, List.drop_drop, Nat.sub_add_eq]
theorem txt_seg (s : ByteArray) (a b : Nat) (hab : a ≤ b) (hb : b ≤ s.size) : txt s a b = ⟨(seg s a b).toArray⟩ := by
 unfold txt
 rw [if_pos (by omega), seg_data]
 rfl
def trimE (l : List UInt8) (b : Nat) : Int × Int := ((b : Int) - (triL l).length, (b : Int) - (triL l).length + (triR (triL l)).length)
theorem Name_eq (v : ByteArray) (hv : v.size < 1000000000) : words_Name.f v = some (allS namB v.data.toList) := by
 unfold words_Name.f words_all_nam.f
 rw [if_pos hv]
 rfl
def keyV (s : ByteArray) (m b : Nat) (key : ByteArray) : ByteArray × Int × Int × Bool :=
 if m < b then (if (trimE (seg s (m + 1) b) b).1 < (trimE (seg s (m + 1) b) b).2 then (key, (trimE (seg s (m + 1) b) b).1, (trimE (seg s (m + 1) b) b).2, true) else (key, (b : Int), (b : Int), true)) else (key, (b : Int), (b : Int), true)
def preC (l : List UInt8) : List UInt8 := l.takeWhile (· != 58)
def keyS (s : ByteArray) (a b : Nat) : ByteArray × Int × Int × Bool :=
 if allS capB (triR (triL (preC (seg s a b)))) = true then keyV s (a + (preC (seg s a b)).length) b ⟨(triR (triL (preC (seg s a b)))).toArray⟩ else (⟨#[]⟩, 0, 0, false)
theorem preC_len (l : List UInt8) : (preC l).length ≤ l.length := (List.takeWhile_prefix _).length_le
theorem preC_take (l : List UInt8) : preC l = l.take (preC l).length := List.prefix_iff_eq_take.1 (List.takeWhile_prefix _)
theorem idx_pre (l : List UInt8) : Lib.indexByte l 58 = if (preC l).length < l.length then ((preC l).length : Int) else -1 := by
 induction l with
 | nil => rfl
 | cons c l ih =>
  unfold Lib.indexByte preC
  rw [List.takeWhile_cons]
  by_cases h : c = 58
  ·subst h; simp
  ·have h2 : (c == 58) = false := by rw [beq_eq_false_iff_ne]; exact h
   have h3 : (c != 58) = true := by rw [bne_iff_ne]; exact h
   have hle := preC_len l
   rw [h2, h3, ih]
   simp only [Bool.false_eq_true, if_false, if_true, List.length_cons]
   unfold preC at hle ⊢
   obtain ⟨P, hP⟩ : ∃ P, l.takeWhile (· != 58) = P := ⟨_, rfl⟩
   rw [hP] at hle ⊢
   by_cases h4 : P.length < l.length
   ·have h5 : ((P.length : Int) == -1) = false := by rw [beq_eq_false_iff_ne]; omega
    rw [if_pos h4, h5, if_neg (show ¬ (false = true) by decide), if_pos (by omega)]
    omega
   ·rw [if_neg h4, show ((-1 : Int) == -1) = true from rfl, if_pos rfl, if_neg (by omega)]
theorem Key_eq (s : ByteArray) (hs : s.size < 1000000000) (a b : Nat) (hab : a ≤ b) (hb : b ≤ s.size) : words_Key.f s a b = some (keyS s a b) := by
 have hp : words_places.f s a b = some true := by
  unfold words_places.f
  rw [if_pos (by omega), if_pos (by omega)]
  simp; omega
 unfold words_Key.f
 rw [hp]
 simp only [Option.bind_some, if_true]
 rw [if_pos (by omega), if_pos (by omega), if_pos (by omega)]
 have hX : s.extract (a : Int).toNat (b : Int).toNat = ⟨(seg s a b).toArray⟩ := by rw [Int.toNat_natCast, Int.toNat_natCast, seg_data]; rfl
 rw [hX]
 have hl := seg_len s a b hab hb
 have hXs : (⟨(seg s a b).toArray⟩ : ByteArray).size = b - a := by show (seg s a b).toArray.size = _; simp [hl]
 have hpl := preC_len (seg s a b)
 have h1 : stringslite_Index.f ⟨(seg s a b).toArray⟩ ⟨#[58]⟩ = some (Lib.indexByte (seg s a b) 58) := by
  unfold stringslite_Index.f
  rw [dif_pos (by rfl)]
  rfl
 have htrim : ∀ l : List UInt8, l.length < 1000000000 → strings_Trim.f ⟨l.toArray⟩ ⟨#[32, 9]⟩ = some ⟨(triR (triL l)).toArray⟩ := fun l hll => by
  unfold strings_Trim.f
  rw [if_pos ⟨by show l.toArray.size ≤ _; simp; omega, by decide, by decide⟩]
  show some (⟨(Lib.trimS l [32, 9]).toArray⟩ : ByteArray) = _
  unfold Lib.trimS
  rw [trimL_eq, trimR_eq, tri_comm]
 have hleft : ∀ l : List UInt8, strings_TrimLeft.f ⟨l.toArray⟩ ⟨#[32, 9]⟩ = some ⟨(triL l).toArray⟩ := fun l => by
  unfold strings_TrimLeft.f
  rw [if_pos ⟨by decide, by decide⟩]
  show some (⟨(Lib.trimLeftS l [32, 9]).toArray⟩ : ByteArray) = _
  rw [trimL_eq]
 have hright : ∀ l : List UInt8, l.length < 1000000000 → strings_TrimRight.f ⟨l.toArray⟩ ⟨#[32, 9]⟩ = some ⟨(triR l).toArray⟩ := fun l hll => by
  unfold strings_TrimRight.f
  rw [if_pos ⟨by show l.toArray.size ≤ _; simp; omega, by decide, by decide⟩]
  show some (⟨(Lib.trimRightS l [32, 9]).toArray⟩ : ByteArray) = _
  rw [trimR_eq]
 have hcap : ∀ l : List UInt8, l.length < 1000000000 → words_all_cap.f ⟨l.toArray⟩ () = some (allS capB l) := fun l hll => by
  unfold words_all_cap.f
  rw [if_pos (by show l.toArray.size < _; simp; omega)]
 have hcut : strings_Cut.f ⟨(seg s a b).toArray⟩ ⟨#[58]⟩ = some (⟨(preC (seg s a b)).toArray⟩, ⟨(seg s (a + (preC (seg s a b)).length + 1) b).toArray⟩, decide ((preC (seg s a b)).length < b - a)) := by
  unfold strings_Cut.f stringslite_Cut.f
  rw [h1, idx_pre]
  simp only [Option.bind_some]
  by_cases h2 : (preC (seg s a b)).length < (seg s a b).length
  ·have e1 : wrap64 (((preC (seg s a b)).length : Int) + ((⟨#[58]⟩ : ByteArray).size : Int)) = (((preC (seg s a b)).length + 1 : Nat) : Int) := by
    rw [show ((⟨#[58]⟩ : ByteArray).size : Int) = 1 from rfl, w64' (by omega) (by omega)]; omega
   rw [if_pos h2, e1, if_pos (by omega), if_pos (by omega), if_pos (by rw [hXs]; omega), if_pos (by omega), if_pos (by rw [hXs]; omega)]
   simp only [Option.bind_some, Int.toNat_natCast]
   rw [seg_data, seg_data, hXs]
   congr 2
   ·congr 2
    rw [List.drop_zero, Nat.sub_zero]
    exact (preC_take _).symm
   ·congr 1
    ·congr 2
     show ((seg s a b).drop _).take _ = _
     rw [seg_drop, List.take_of_length_le (by rw [seg_len s _ _ (by omega) hb]; omega)]
     rfl
    ·rw [hl] at h2; simp [h2]
  ·rw [if_neg h2, if_neg (by omega)]
   simp only [Option.bind_some]
   have h3 : (preC (seg s a b)).length = (seg s a b).length := by omega
   have h4 : preC (seg s a b) = seg s a b := by
    rw [preC_take, h3, List.take_of_length_le (Nat.le_refl _)]
   rw [h4, hl]
   congr 2
   congr 1
   ·congr 1
    have h5 : seg s (a + (b - a) + 1) b = [] := by unfold seg; rw [show b - (a + (b - a) + 1) = 0 by omega, List.take_zero]
    rw [h5]
   ·simp
 rw [hcut]
 simp only [Option.bind_some]
 have hpl2 : (preC (seg s a b)).length < 1000000000 := by omega
 rw [htrim _ hpl2]
 simp only [Option.bind_some]
 have hk1 := triR_len (triL (preC (seg s a b)))
 have hk2 := triL_len (preC (seg s a b))
 rw [hcap _ (by omega)]
 simp only [Option.bind_some]
 unfold keyS keyV
 obtain ⟨m, hm⟩ : ∃ m, a + (preC (seg s a b)).length = m := ⟨_, rfl⟩
 rw [hm]
 by_cases hA : allS capB (triR (triL (preC (seg s a b)))) = true
 ·rw [if_pos hA, if_pos hA, hleft]
  simp only [Option.bind_some]
  rw [show (⟨(triL (seg s (m + 1) b)).toArray⟩ : ByteArray).toList = triL (seg s (m + 1) b) by rw [ByteArray.toList_eq]]
  by_cases hmb : m < b
  ·have hsl := seg_len s (m + 1) b (by omega) hb
   have ht1 := triL_len (seg s (m + 1) b)
   have ht2 := triR_len (triL (seg s (m + 1) b))
   rw [if_pos hmb]
   by_cases h0 : triL (seg s (m + 1) b) = []
   ·rw [if_pos h0]
    unfold trimE
    rw [h0]
    rw [if_neg (by simp [triR])]
   ·have hne := triR_ne _ h0
    have hpos : 0 < (triR (triL (seg s (m + 1) b))).length := List.length_pos_iff.2 hne
    have hz1 : ((⟨(triL (seg s (m + 1) b)).toArray⟩ : ByteArray).size : Int) = ((triL (seg s (m + 1) b)).length : Int) := by show (((triL (seg s (m + 1) b)).toArray.size : Nat) : Int) = _; simp
    have hz2 : ((⟨(triR (triL (seg s (m + 1) b))).toArray⟩ : ByteArray).size : Int) = ((triR (triL (seg s (m + 1) b))).length : Int) := by show (((triR (triL (seg s (m + 1) b))).toArray.size : Nat) : Int) = _; simp
    rw [if_neg h0, hright _ (by omega)]
    simp only [Option.bind_some]
    rw [hz1, hz2, w64' (n := (b : Int) - ((triL (seg s (m + 1) b)).length : Int)) (by omega) (by omega), w64' (by omega) (by omega)]
    rw [if_pos (by unfold trimE; simp only; omega)]
    rfl
  ·have h5 : seg s (m + 1) b = [] := by unfold seg; rw [show b - (m + 1) = 0 by omega, List.take_zero]
   rw [if_neg hmb, h5]
   rfl
 ·rw [if_neg hA, if_neg hA]
end Go.Proofs.YtadocbfchdendaaGreatDoor.Cu
namespace Go.Proofs.YtadocbfchdendaaGreatDoor.Cu
open Go.RowKit Go.Lib Go.Proofs.YtadocbfchdendaaGreatDoorW.PrintWords Go.Proofs.YtadocbfchdendaaGreatDoorW.PrintLast Go.Proofs.YtadocbfchdendaaGreatDoorW.PrintMore Go.Proofs.YtadocbfchdendaaGreatDoor.P Go.Proofs.YtadocbfchdendaaGreatDoor.Sp
set_option linter.unusedSimpArgs false
theorem linesF_sorted (s : List UInt8) (d : Nat) : ∀ a, s.length - a ≤ d → (∀ y ∈ linesF (s.length - a) (s.drop a) a, (a : Int) ≤ y.f0 ∧ y.f0 < y.f2) ∧ List.Pairwise (fun x y : Ln => x.f2 ≤ y.f0) (linesF (s.length - a) (s.drop a) a) := by
 induction d with
 | zero =>
  intro a ha
  rw [show s.length - a = 0 by omega]
  exact ⟨by simp [linesF], by simp [linesF]⟩
 | succ d ih =>
  intro a ha
  by_cases h : a < s.length
  ·obtain ⟨h1, h2, h3⟩ := lineX_next s a h
   have h0 : (lineX (s.drop a) a).f0 = (a : Int) := by unfold lineX; split <;> rfl
   rw [lines_step s a h]
   obtain ⟨i1, i2⟩ := ih (lineX (s.drop a) a).f2.toNat (by omega)
   refine ⟨fun y hy => ?_, List.pairwise_cons.2 ⟨fun y hy => ?_, i2⟩⟩
   ·rcases List.mem_cons.1 hy with rfl | hy
    ·rw [h0]; omega
    ·have := i1 y hy; omega
   ·have := i1 y hy; omega
  ·rw [show s.length - a = 0 by omega]
   exact ⟨by simp [linesF], by simp [linesF]⟩
theorem rowsL_sorted (s : List UInt8) : (∀ y ∈ rowsL s, 0 ≤ y.f0 ∧ y.f0 < y.f2) ∧ List.Pairwise (fun x y : Ln => x.f2 ≤ y.f0) (rowsL s) := by
 obtain ⟨h1, h2⟩ := linesF_sorted s s.length 0 (by omega)
 unfold rowsL linesL
 rw [Nat.sub_zero, List.drop_zero] at h1 h2
 exact ⟨fun y hy => h1 y (List.mem_filter.1 hy).1, List.Pairwise.filter _ h2⟩
theorem filter_drop (L : List Ln) (h0 : ∀ y ∈ L, y.f0 < y.f2) (hp : List.Pairwise (fun x y : Ln => x.f2 ≤ y.f0) L) : ∀ (i : Nat) (x : Ln), L[i]? = some x → L.filter (fun l => decide (x.f2 ≤ l.f0)) = L.drop (i + 1) := by
 induction L with
 | nil => intro i x h; simp at h
 | cons y L ih =>
  intro i x h
  obtain ⟨p1, p2⟩ := List.pairwise_cons.1 hp
  cases i with
  | zero =>
   obtain rfl : y = x := by simpa using h
   have hy := h0 y List.mem_cons_self
   rw [List.filter_cons, if_neg (by simp; omega)]
   exact List.filter_eq_self.2 (fun z hz => by simpa using p1 z hz)
  | succ i =>
   have hx : L[i]? = some x := by simpa using h
   have hxm := List.mem_of_getElem? hx
   have h1 := p1 x hxm
   have hy := h0 y List.mem_cons_self
   have hxx := h0 x (List.mem_cons_of_mem _ hxm)
   rw [List.filter_cons, if_neg (by simp; omega)]
   exact ih (fun z hz => h0 z (List.mem_cons_of_mem _ hz)) p2 i x hx
theorem shR_zero (s : List UInt8) : shR s 0 = (rowsL s).map (rowOf s) := by
 unfold shR
 congr 1
 exact List.filter_eq_self.2 (fun z hz => by simpa using (rowsL_sorted s).1 z hz |>.1)
theorem shR_next (s : List UInt8) (i : Nat) (x : Ln) (hx : (rowsL s)[i]? = some x) : shR s x.f2 = (shR s 0).drop (i + 1) := by
 rw [shR_zero]
 unfold shR
 rw [filter_drop (rowsL s) (fun y hy => ((rowsL_sorted s).1 y hy).2) (rowsL_sorted s).2 i x hx, List.map_drop]
def lkey (s : ByteArray) (x : Ln) : ByteArray × Int × Int × Bool := keyS s x.f0.toNat x.f1.toNat
def lval (s : ByteArray) (x : Ln) : ByteArray := txt s (lkey s x).2.1 (lkey s x).2.2.1
theorem lkey_p (s : ByteArray) (hs : s.size < 1000000000) (x : Ln) (hx : LOk s x) : words_Key.f s x.f0 x.f1 = some (lkey s x) := by
 obtain ⟨h0, h1, h2⟩ := hx
 have := Key_eq s hs x.f0.toNat x.f1.toNat (by omega) (by omega)
 rw [Int.toNat_of_nonneg h0, Int.toNat_of_nonneg (by omega)] at this
 exact this
def dimS (v : ByteArray) : Int := if (intS v.data.toList).2 = 0 then (if (intS v.data.toList).1 < 1 then 0 else if (intS v.data.toList).1 > 400 then 0 else (intS v.data.toList).1) else 0
theorem dim_p (v : ByteArray) (hv : v.size < 1000000000) : tour_dimension.f v = some (dimS v) := by
 unfold tour_dimension.f fixed_Int.f dimS
 rw [if_pos (by omega)]
 simp only [Option.bind_some]
 split
 ·split
  ·rfl
  ·split <;> rfl
 ·rfl
def fitS (i : Int) (v : ByteArray) : Int × Bool := if i = 0 then (0, allS namB v.data.toList) else if i = 1 then (0, v.toList == ([84, 79, 85, 82] : List UInt8)) else (dimS v, decide (0 < dimS v))
def headP (s : ByteArray) (L : List Ln) (i : Int) (k : Int → Told) : Told := match L[i.toNat]? with
 | none => ([], (s.size : Int), 4)
 | some x => if (lkey s x).1.toList = (keyB i).toList then (if (fitS i (lval s x)).2 = true then k (fitS i (lval s x)).1 else ([], (lkey s x).2.1, 141)) else ([], x.f0, 3)
def fin1 (S : List Int × Int × Int) : Told := if S.2.2 = 0 then ([S.1], S.2) else ([], S.2)
def tailP (s : ByteArray) (n : Int) : Told := fin1 (stopsS s n ((shR s.data.toList 0).drop 3))
def tourP (s : ByteArray) : Told := headP s (rowsL s.data.toList) 0 fun _ => headP s (rowsL s.data.toList) 1 fun _ => headP s (rowsL s.data.toList) 2 fun n => tailP s n
theorem lval_size (s : ByteArray) (x : Ln) : (lval s x).size ≤ s.size := txt_size _ _ _
theorem kD_eq (s : ByteArray) (hs : s.size < 1000000000) (x : Ln) (hx : LOk s x) (key : ByteArray) (fits : ByteArray → Option Bool) (b : Bool) (hb : fits (lval s x) = some b) :
  kD s x key fits = some (keyD x.f0 (lkey s x).1 (lkey s x).2.1 key b) := by
 unfold kD
 rw [lkey_p s hs x hx]
 simp only [Option.bind_some]
 rw [Text_eq]
 simp only [Option.bind_some]
 have : fits (txt s (lkey s x).2.1 (lkey s x).2.2.1) = some b := hb
 rw [this]
 rfl
theorem keyD_head (s : ByteArray) (x : Ln) (key : ByteArray) (b : Bool) (k : Told) :
  (if (keyD x.f0 (lkey s x).1 (lkey s x).2.1 key b).2 = 0 then k else ([], keyD x.f0 (lkey s x).1 (lkey s x).2.1 key b)) = (if (lkey s x).1.toList = key.toList then (if b = true then k else ([], (lkey s x).2.1, 141)) else ([], x.f0, 3)) := by
 unfold keyD
 by_cases h : (lkey s x).1.toList = key.toList
 ·rw [if_pos h, if_pos h]
  by_cases hb : b = true
  ·rw [if_pos hb, if_pos hb]; rfl
  ·rw [if_neg hb, if_neg hb]; rfl
 ·rw [if_neg h, if_neg h]; rfl
theorem some_ite {α : Type} {c : Prop} [Decidable c] (a b : α) : (if c then some a else some b) = some (if c then a else b) := by split <;> rfl
theorem parseTour_eq (s : ByteArray) (hs : s.size ≤ 90000) : parseTour s = some (tourP s) := by
 have hs' : s.size < 1000000000 := by omega
 have hok := rowsL_ok s
 unfold parseTour
 rw [if_pos hs]
 unfold cursor_Rows.f
 rw [if_pos hs']
 simp only [Option.bind_some]
 unfold tourP look0 headP
 rw [show ((0 : Int).toNat) = 0 from rfl]
 cases h0 : (rowsL s.data.toList)[0]? with
 | none => rfl
 | some x =>
  simp only
  have hx := hok x (List.mem_of_getElem? h0)
  have hv := lval_size s x
  rw [kD_eq s hs' x hx _ words_Name.f _ (Name_eq (lval s x) (by omega))]
  simp only [Option.bind_some]
  have e0 : ∀ k : Told, (if (fitS 0 (lval s x)).2 = true then k else ([], (lkey s x).2.1, 141)) = (if allS namB (lval s x).data.toList = true then k else ([], (lkey s x).2.1, 141)) := fun k => rfl
  rw [show (if (lkey s x).1.toList = (keyB 0).toList then (if (fitS 0 (lval s x)).2 = true then _ else _) else _) = _ from (keyD_head s x (keyB 0) (allS namB (lval s x).data.toList) _).symm]
  by_cases c0 : (keyD x.f0 (lkey s x).1 (lkey s x).2.1 (keyB 0) (allS namB (lval s x).data.toList)).2 = 0
  ·rw [if_pos c0]
   refine (if_pos c0).trans ?_
   unfold look1
   rw [show ((1 : Int).toNat) = 1 from rfl]
   cases h1 : (rowsL s.data.toList)[1]? with
   | none => rfl
   | some x1 =>
    simp only
    have hx1 := hok x1 (List.mem_of_getElem? h1)
    rw [kD_eq s hs' x1 hx1 _ tour_ParseTour_1.f _ rfl]
    simp only [Option.bind_some]
    rw [show (if (lkey s x1).1.toList = (keyB 1).toList then (if (fitS 1 (lval s x1)).2 = true then _ else _) else _) = _ from (keyD_head s x1 (keyB 1) ((lval s x1).toList == ([84, 79, 85, 82] : List UInt8)) _).symm]
    by_cases c1 : (keyD x1.f0 (lkey s x1).1 (lkey s x1).2.1 (keyB 1) ((lval s x1).toList == ([84, 79, 85, 82] : List UInt8))).2 = 0
    ·rw [if_pos c1]
     refine (if_pos c1).trans ?_
     unfold look2
     rw [show ((2 : Int).toNat) = 2 from rfl]
     cases h2 : (rowsL s.data.toList)[2]? with
     | none => rfl
     | some x2 =>
      simp only
      have hx2 := hok x2 (List.mem_of_getElem? h2)
      have hv2 := lval_size s x2
      rw [lkey_p s hs' x2 hx2]
      simp only [Option.bind_some]
      rw [Text_eq]
      simp only [Option.bind_some]
      rw [show tour_dimension.f (txt s (lkey s x2).2.1 (lkey s x2).2.2.1) = some (dimS (lval s x2)) from dim_p (lval s x2) (by omega)]
      simp only [Option.bind_some]
      rw [show (if (lkey s x2).1.toList = (keyB 2).toList then (if (fitS 2 (lval s x2)).2 = true then _ else _) else _) = _ from (keyD_head s x2 (keyB 2) (decide (0 < dimS (lval s x2))) _).symm]
      by_cases c2 : (keyD x2.f0 (lkey s x2).1 (lkey s x2).2.1 (keyB 2) (decide (0 < dimS (lval s x2)))).2 = 0
      ·rw [if_pos c2]
       refine (if_pos c2).trans ?_
       unfold look3
       rw [h2]
       simp only
       rw [Rows_sheet s hs' x2.f2 100002 (by omega)]
       simp only [Option.bind_some]
       rw [shR_next s.data.toList 2 x2 h2, some_ite]
       rfl
      ·rw [if_neg c2]
       exact if_neg c2
    ·rw [if_neg c1]
     exact if_neg c1
  ·rw [if_neg c0]
   exact if_neg c0
def titD (s : ByteArray) (l : List Row) (t : ByteArray) : Int × Int := match l with
 | [] => ((s.size : Int), 4)
 | x :: _ => if x.f1.length = 1 ∧ (joinW s x.f1 == t.toList) = true then (0, 0) else (x.f0, 3)
theorem tlS_zz (s t : ByteArray) (l : List Row) : tlS s t l (0, 0) = (l.tail, titD s l t) := by
 cases l with
 | nil => rfl
 | cons x l => simp only [tlS, tlD, titD, List.tail_cons, if_true]
def finP (s : ByteArray) (r : List Row × List Int × Int × Int) : Told := fin1 (endS s r)
theorem finP_err (s : ByteArray) (l : List Row) (out : List Int) (d : Int × Int) (h : d.2 ≠ 0) : finP s (l, out, d) = ([], d) := by
 unfold finP endS fin1
 simp only [h, false_and, if_false]
theorem fieldsG_words (s : ByteArray) (b : Nat) (hb : b ≤ s.size) (d : Nat) : ∀ (a : Nat) (st : Option Nat), a + d = b → (∀ p, st = some p → p < a ∧ ∀ c ∈ seg s p a, blankC c = false) →
  ∀ x ∈ fieldsG (seg s a b) a st, ∃ p q : Nat, x = ⟨p, q⟩ ∧ p < q ∧ q ≤ b ∧ ∀ c ∈ seg s p q, blankC c = false := by
 induction d with
 | zero =>
  intro a st ha hst x hx
  obtain rfl : a = b := by omega
  rw [seg_nil] at hx
  cases st with
  | none => simp [fieldsG] at hx
  | some p =>
   obtain ⟨h1, h2⟩ := hst p rfl
   simp only [fieldsG, List.mem_singleton] at hx
   exact ⟨p, a, hx, h1, Nat.le_refl _, h2⟩
 | succ d ih =>
  intro a st ha hst x hx
  obtain ⟨c, hc⟩ := get_data s a (by omega)
  rw [seg_cons s a b c (by omega) hc] at hx
  by_cases hbl : blankC c = true
  ·cases st with
   | none =>
    rw [fieldsG_none c _ a hbl] at hx
    exact ih (a + 1) none (by omega) (fun p h => by cases h) x hx
   | some p =>
    rw [fieldsG_some c _ a p hbl] at hx
    obtain ⟨h1, h2⟩ := hst p rfl
    rcases List.mem_cons.1 hx with rfl | hx
    ·exact ⟨p, a, rfl, h1, by omega, h2⟩
    ·exact ih (a + 1) none (by omega) (fun p h => by cases h) x hx
  ·have hbf : blankC c = false := Bool.eq_false_iff.2 hbl
   rw [fieldsG_skip c _ a st hbf] at hx
   refine ih (a + 1) _ (by omega) (fun p h => ?_) x hx
   obtain rfl := Option.some.inj h
   cases st with
   | none =>
    refine ⟨by simp, fun c' hc' => ?_⟩
    rw [Option.getD_none, seg_snoc s a a c (Nat.le_refl _) hc, seg_nil] at hc'
    obtain rfl : c' = c := by simpa using hc'
    exact hbf
   | some p =>
    obtain ⟨h1, h2⟩ := hst p rfl
    refine ⟨by simp; omega, fun c' hc' => ?_⟩
    rw [Option.getD_some, seg_snoc s p a c (by omega) hc] at hc'
    rcases List.mem_append.1 hc' with h | h
    ·exact h2 c' h
    ·obtain rfl : c' = c := by simpa using h
     exact hbf
theorem fieldsG_ne (l : List UInt8) : ∀ (a : Nat) (st : Option Nat), fieldsG l a st = [] → st = none ∧ l.all blankC = true := by
 induction l with
 | nil =>
  intro a st h
  cases st with
  | none => exact ⟨rfl, rfl⟩
  | some p => simp [fieldsG] at h
 | cons c l ih =>
  intro a st h
  by_cases hb : blankC c = true
  ·cases st with
   | none =>
    rw [fieldsG_none c _ a hb] at h
    exact ⟨rfl, by rw [List.all_cons, hb, (ih _ _ h).2]; rfl⟩
   | some p => rw [fieldsG_some c _ a p hb] at h; cases h
  ·rw [fieldsG_skip c _ a st (Bool.eq_false_iff.2 hb)] at h
   exact absurd (ih _ _ h).1 (by simp)
def WOk (s : ByteArray) (y : Wd) : Prop := ∃ p q : Nat, y = ⟨p, q⟩ ∧ p < q ∧ q ≤ s.size ∧ ∀ c ∈ seg s p q, blankC c = false
theorem rows_ok (s : ByteArray) : ∀ x ∈ shR s.data.toList 0, x.f1 ≠ [] ∧ (∀ y ∈ x.f1, WOk s y) ∧ 0 ≤ x.f0 ∧ x.f0 ≤ (s.size : Int) := by
 intro x hx
 rw [shR_zero] at hx
 obtain ⟨l, hl, rfl⟩ := List.mem_map.1 hx
 obtain ⟨h0, h1, h2⟩ := rowsL_ok s l hl
 have hnb : blankL s.data.toList l = false := by
  have := (List.mem_filter.1 hl).2
  simpa using this
 refine ⟨fun he => ?_, fun y hy => ?_, h0, by show l.f0 ≤ _; omega⟩
 ·have := (fieldsG_ne _ _ _ he).2
  unfold blankL at hnb
  rw [this] at hnb
  cases hnb
 ·obtain ⟨p, q, h3, h4, h5, h6⟩ := fieldsG_words s l.f1.toNat (by omega) (l.f1.toNat - l.f0.toNat) l.f0.toNat none (by omega) (fun p h => by cases h) y hy
  exact ⟨p, q, h3, h4, by omega, h6⟩
def wtx (s : ByteArray) (y : Wd) : List UInt8 := (txt s y.f0 y.f1).data.toList
theorem wtx_ok (s : ByteArray) (y : Wd) (h : WOk s y) : wtx s y ≠ [] ∧ ∀ c ∈ wtx s y, blankC c = false := by
 obtain ⟨p, q, rfl, h1, h2, h3⟩ := h
 have e : wtx s ⟨p, q⟩ = seg s p q := by
  unfold wtx
  rw [show ((⟨p, q⟩ : Wd)).f0 = (p : Int) from rfl, show ((⟨p, q⟩ : Wd)).f1 = (q : Int) from rfl, txt_seg s p q (by omega) h2]
 rw [e]
 refine ⟨fun he => ?_, h3⟩
 have := seg_len s p q (by omega) h2
 rw [he] at this
 simp at this
 omega
theorem split32 (a : List UInt8) : ∀ (a' b b' : List UInt8), a ++ 32 :: b = a' ++ 32 :: b' → (∀ c ∈ a, c ≠ 32) → (∀ c ∈ a', c ≠ 32) → a = a' ∧ b = b' := by
 induction a with
 | nil =>
  intro a' b b' h h1 h2
  cases a' with
  | nil => exact ⟨rfl, by simpa using h⟩
  | cons c t =>
   simp only [List.nil_append, List.cons_append, List.cons.injEq] at h
   exact absurd h.1.symm (h2 c List.mem_cons_self)
 | cons c a ih =>
  intro a' b b' h h1 h2
  cases a' with
  | nil =>
   simp only [List.nil_append, List.cons_append, List.cons.injEq] at h
   exact absurd h.1 (h1 c List.mem_cons_self)
  | cons c' t =>
   simp only [List.cons_append, List.cons.injEq] at h
   obtain ⟨e1, e2⟩ := ih t b b' h.2 (fun x hx => h1 x (List.mem_cons_of_mem _ hx)) (fun x hx => h2 x (List.mem_cons_of_mem _ hx))
   exact ⟨by rw [h.1, e1], e2⟩
theorem decDigits_mem (u : Nat) : ∀ c ∈ decDigits u, ∃ d, d < 10 ∧ c = UInt8.ofNat (48 + d) := by
 induction u using Nat.strongRecOn with
 | _ u ih =>
  intro c hc
  rw [decDigits] at hc
  by_cases h : u < 10
  ·rw [dif_pos h] at hc
   exact ⟨u, h, by simpa using hc⟩
  ·rw [dif_neg h] at hc
   rcases List.mem_append.1 hc with h1 | h1
   ·exact ih (u / 10) (by omega) c h1
   ·exact ⟨u % 10, by omega, by simpa using h1⟩
theorem itoa_mem (n : Int) : ∀ c ∈ Lib.itoa n, blankC c = false ∧ c ≠ 10 ∧ c ≠ 35 ∧ c ≠ 58 := by
 intro c hc
 have hd : ∀ u : Nat, c ∈ decDigits u → blankC c = false ∧ c ≠ 10 ∧ c ≠ 35 ∧ c ≠ 58 := fun u hu => by
  obtain ⟨d, h1, rfl⟩ := decDigits_mem u c hu
  have : ∀ d : Fin 10, blankC (UInt8.ofNat (48 + d.val)) = false ∧ UInt8.ofNat (48 + d.val) ≠ 10 ∧ UInt8.ofNat (48 + d.val) ≠ 35 ∧ UInt8.ofNat (48 + d.val) ≠ 58 := by decide
  exact this ⟨d, h1⟩
 unfold Lib.itoa at hc
 split at hc
 ·rcases List.mem_cons.1 hc with rfl | h
  ·exact ⟨by decide, by decide, by decide, by decide⟩
  ·exact hd _ h
 ·exact hd _ hc
theorem nb32 {c : UInt8} (h : blankC c = false) : c ≠ 32 := fun he => by rw [he] at h; cases h
abbrev routeL : List UInt8 := [82, 111, 117, 116, 101]
def begS (s : ByteArray) (ws : List Wd) (k : Int) : Int := match ws with
 | x :: y :: r => if wtx s x = routeL then (if wtx s y = 35 :: (Lib.itoa k ++ [58]) then 2 else if wtx s y = Lib.itoa k then (match r with | z :: _ => if wtx s z = [58] then 3 else 0 | [] => 0) else 0) else 0
 | _ => 0
theorem toList_mk (l : List UInt8) : (⟨l.toArray⟩ : ByteArray).toList = l := by rw [ByteArray.toList_eq]
theorem ba_app (a b : List UInt8) : (⟨a.toArray⟩ : ByteArray) ++ ⟨b.toArray⟩ = ⟨(a ++ b).toArray⟩ := by
 apply ByteArray.ext
 rw [ByteArray.data_append]
 simp
theorem ba_size (a : List UInt8) : (⟨a.toArray⟩ : ByteArray).size = a.length := by show a.toArray.size = _; simp
theorem joinW2 (s : ByteArray) (x y : Wd) : joinW s [x, y] = wtx s x ++ 32 :: wtx s y := by
 unfold joinW wtx
 simp [Lib.join, Lib.joinTail]
theorem joinW3 (s : ByteArray) (x y z : Wd) : joinW s [x, y, z] = wtx s x ++ 32 :: (wtx s y ++ 32 :: wtx s z) := by
 unfold joinW wtx
 simp [Lib.join, Lib.joinTail]
theorem begins_p (s : ByteArray) (hs : s.size ≤ 90000) (f0 : Int) (ws : List Wd) (hl : ws.length ≤ 100000) (hw : ∀ y ∈ ws, WOk s y) (k : Int) (hk0 : 0 ≤ k) (hk : k ≤ 1000000) : tour_begins.f 200000 s f0 ws k = some (begS s ws k) := by
 have hil := itoa_length_le k (by omega) (by omega)
 have hI : strconv_Itoa.f k = some ⟨(Lib.itoa k).toArray⟩ := by unfold strconv_Itoa.f; rw [if_pos ⟨by omega, by omega⟩]
 have hnb : ∀ y ∈ ws, ∀ c ∈ wtx s y, c ≠ 32 := fun y hy c hc => nb32 ((wtx_ok s y (hw y hy)).2 c hc)
 have hni : ∀ c ∈ Lib.itoa k, c ≠ 32 := fun c hc => nb32 (itoa_mem k c hc).1
 have hnr : ∀ c ∈ routeL, c ≠ 32 := by decide
 have e1 : ((⟨#[82, 111, 117, 116, 101, 32, 35]⟩ : ByteArray) ++ ⟨(Lib.itoa k).toArray⟩) ++ (⟨#[58]⟩ : ByteArray) = ⟨(routeL ++ 32 :: (35 :: (Lib.itoa k ++ [58]))).toArray⟩ := by
  rw [show (⟨#[82, 111, 117, 116, 101, 32, 35]⟩ : ByteArray) = ⟨([82, 111, 117, 116, 101, 32, 35] : List UInt8).toArray⟩ from rfl, show (⟨#[58]⟩ : ByteArray) = ⟨([58] : List UInt8).toArray⟩ from rfl, ba_app, ba_app]
  rfl
 have e2 : ((⟨#[82, 111, 117, 116, 101, 32]⟩ : ByteArray) ++ ⟨(Lib.itoa k).toArray⟩) ++ (⟨#[32, 58]⟩ : ByteArray) = ⟨(routeL ++ 32 :: (Lib.itoa k ++ 32 :: [58])).toArray⟩ := by
  rw [show (⟨#[82, 111, 117, 116, 101, 32]⟩ : ByteArray) = ⟨([82, 111, 117, 116, 101, 32] : List UInt8).toArray⟩ from rfl, show (⟨#[32, 58]⟩ : ByteArray) = ⟨([32, 58] : List UInt8).toArray⟩ from rfl, ba_app, ba_app]
  rfl
 unfold tour_begins.f
 rw [hI]
 simp only [Option.bind_some]
 have z1 : (⟨(Lib.itoa k).toArray⟩ : ByteArray).size = (Lib.itoa k).length := ba_size _
 rw [if_pos (by rw [z1]; omega), if_pos (by rw [show (⟨#[82, 111, 117, 116, 101, 32, 35]⟩ : ByteArray) = ⟨([82, 111, 117, 116, 101, 32, 35] : List UInt8).toArray⟩ from rfl, ba_app, ba_size]; simp; omega),
  if_pos (by rw [z1]; omega), if_pos (by rw [show (⟨#[82, 111, 117, 116, 101, 32]⟩ : ByteArray) = ⟨([82, 111, 117, 116, 101, 32] : List UInt8).toArray⟩ from rfl, ba_app, ba_size]; simp; omega), e1, e2]
 have w2 : wrap64 ((0 : Int) + 2) = 2 := by rw [w64' (by decide) (by decide)]; rfl
 have w1 : wrap64 ((0 : Int) + 1) = 1 := by rw [w64' (by decide) (by decide)]; rfl
 have w3 : wrap64 ((1 : Int) + 2) = 3 := by rw [w64' (by decide) (by decide)]; rfl
 have w4 : wrap64 ((1 : Int) + 1) = 2 := by rw [w64' (by decide) (by decide)]; rfl
 obtain ⟨B1, hB1⟩ : ∃ B : ByteArray, B = ⟨(routeL ++ 32 :: (35 :: (Lib.itoa k ++ [58]))).toArray⟩ := ⟨_, rfl⟩
 obtain ⟨B2, hB2⟩ : ∃ B : ByteArray, B = ⟨(routeL ++ 32 :: (Lib.itoa k ++ 32 :: [58])).toArray⟩ := ⟨_, rfl⟩
 rw [← hB1, ← hB2]
 have t1 : B1.toList = routeL ++ 32 :: (35 :: (Lib.itoa k ++ [58])) := by rw [hB1, toList_mk]
 have t2 : B2.toList = routeL ++ 32 :: (Lib.itoa k ++ 32 :: [58]) := by rw [hB2, toList_mk]
 clear e1 e2 hB1 hB2
 obtain ⟨K, hK⟩ : ∃ K, (200000 : Nat) = K + 3 := ⟨199997, rfl⟩
 rw [hK]
 have hK2 : 100 < K := by omega
 clear hK
 have r0 : rdOf ByteArray.empty [B1, B2] 0 = B1 := rfl
 have r1 : rdOf ByteArray.empty [B1, B2] 1 = B2 := rfl
 simp only [tour_begins.l0, List.length_cons, List.length_nil, w1, w2, w3, w4, r0, r1]
 rw [if_pos (by decide), if_pos (by decide), if_pos (by decide)]
 match ws, hl, hw, hnb with
 | [], _, _, _ =>
  rw [if_neg (by simp), if_pos (by decide), if_pos (by decide), if_pos (by decide), if_neg (by simp), if_neg (by decide)]
  rfl
 | [x], _, _, _ =>
  rw [if_neg (by simp), if_pos (by decide), if_pos (by decide), if_pos (by decide), if_neg (by simp), if_neg (by decide)]
  rfl
 | [x, y], _, hw, hnb =>
  rw [if_pos (by simp), if_pos (by decide), if_pos (by simp), show ((2 : Int).toNat) = 2 from rfl, show [x, y].take 2 = [x, y] from rfl]
  rw [Title_eq s (by omega) 0 [x, y] (by simp) B1 _ (by simp; omega), joinW2, t1]
  simp only [Option.bind_some]
  have hx := hnb x (by simp)
  unfold begS
  simp only
  by_cases h1 : wtx s x = routeL ∧ wtx s y = 35 :: (Lib.itoa k ++ [58])
  ·rw [if_pos (by rw [beq_iff_eq, h1.1, h1.2]), if_pos h1.1, if_pos h1.2]
  ·have h2 : ¬ ((wtx s x ++ 32 :: wtx s y == routeL ++ 32 :: (35 :: (Lib.itoa k ++ [58]))) = true) := fun h => h1 (split32 _ _ _ _ (by simpa using h) hx hnr)
   rw [if_neg h2, if_pos (by decide), if_pos (by decide), if_pos (by decide), if_neg (by simp), if_neg (by decide)]
   by_cases h3 : wtx s x = routeL
   ·rw [if_pos h3, if_neg (fun h => h1 ⟨h3, h⟩)]
    split <;> rfl
   ·rw [if_neg h3]
 | x :: y :: z :: r, hl, hw, hnb =>
  have hx := hnb x (by simp)
  have hy := hnb y (by simp)
  rw [if_pos (by simp; omega), if_pos (by decide), if_pos (by simp; omega), show ((2 : Int).toNat) = 2 from rfl, show (x :: y :: z :: r).take 2 = [x, y] from rfl]
  rw [Title_eq s (by omega) 0 [x, y] (by simp) B1 _ (by simp; omega), joinW2, t1]
  simp only [Option.bind_some]
  unfold begS
  simp only
  by_cases h1 : wtx s x = routeL ∧ wtx s y = 35 :: (Lib.itoa k ++ [58])
  ·rw [if_pos (by rw [beq_iff_eq, h1.1, h1.2]), if_pos h1.1, if_pos h1.2]
  ·have h2 : ¬ ((wtx s x ++ 32 :: wtx s y == routeL ++ 32 :: (35 :: (Lib.itoa k ++ [58]))) = true) := fun h => h1 (split32 _ _ _ _ (by simpa using h) hx hnr)
   rw [if_neg h2, if_pos (by decide), if_pos (by decide), if_pos (by decide), if_pos (by simp; omega), if_pos (by decide), if_pos (by simp; omega), show ((3 : Int).toNat) = 3 from rfl, show (x :: y :: z :: r).take 3 = [x, y, z] from rfl]
   rw [Title_eq s (by omega) 0 [x, y, z] (by simp) B2 _ (by simp; omega), joinW3, t2]
   simp only [Option.bind_some]
   by_cases h3 : wtx s x = routeL
   ·rw [if_pos h3, if_neg (show ¬ wtx s y = 35 :: (Lib.itoa k ++ [58]) from fun h => h1 ⟨h3, h⟩)]
    by_cases h4 : wtx s y = Lib.itoa k
    ·rw [if_pos h4]
     by_cases h5 : wtx s z = [58]
     ·rw [if_pos (by rw [beq_iff_eq, h3, h4, h5]), if_pos h5]
     ·rw [if_neg (fun h => h5 (split32 _ _ _ _ (split32 _ _ _ _ (by simpa using h) hx hnr).2 hy hni).2), if_neg (by decide), if_neg h5]
    ·rw [if_neg (fun h => h4 (split32 _ _ _ _ (split32 _ _ _ _ (by simpa using h) hx hnr).2 hy hni).1), if_neg (by decide), if_neg h4]
   ·rw [if_neg (fun h => h3 (split32 _ _ _ _ (by simpa using h) hx hnr).1), if_neg (by decide), if_neg h3]
def intsP (s : ByteArray) (x : Row) (f : Int) (k : List Int → RTold) : RTold := if (intsR s x.f0 (x.f1.drop f.toNat) ((x.f1.length : Int) - f)).2.2 = 0 then k (intsR s x.f0 (x.f1.drop f.toNat) ((x.f1.length : Int) - f)).1 else ([], 0, (intsR s x.f0 (x.f1.drop f.toNat) ((x.f1.length : Int) - f)).2)
def lastP (l : List Row) (acc : List (List Int)) (c : Int) : RTold := match l with
  | z :: _ => ([], 0, z.f0, 4)
  | [] => (acc, c, 0, 0)
def costP (s : ByteArray) (x : Row) (l : List Row) (acc : List (List Int)) : RTold := match x.f1 with
 | [_, z] => if (num s z).2 = 0 then lastP l acc (num s z).1 else ([], 0, z.f0, (num s z).2)
 | _ => ([], 0, x.f0, 3)
def routesP (s : ByteArray) : List Row → Int → List (List Int) → RTold
 | [], _, acc => (acc, -1, 0, 0)
 | x :: l, i, acc => if (x.f1.head?.map (wtx s)) = some costL then costP s x l acc
   else if begS s x.f1 (i + 1) = 0 then ([], 0, x.f0, 3) else intsP s x (begS s x.f1 (i + 1)) fun r => routesP s l (i + 1) (acc ++ [r])
theorem begS_le (s : ByteArray) (ws : List Wd) (k : Int) : 0 ≤ begS s ws k ∧ begS s ws k ≤ (ws.length : Int) := by
 unfold begS
 split
 ·rename_i x y r
  split
  ·split
   ·simp; omega
   ·split
    ·cases r with
     | nil => simp
     | cons z r => simp only; split <;> simp <;> omega
    ·simp; omega
  ·simp; omega
 ·simp
theorem eachR_ok (s : ByteArray) (ws : List Wd) : ∀ (acc : List Int), (eachR s ws acc).2.2 = 0 → (eachR s ws acc).2.1 = 0 ∧ (eachR s ws acc).1.length = acc.length + ws.length := by
 induction ws with
 | nil => intro acc h; simp [eachR]
 | cons w ws ih =>
  intro acc h
  unfold eachR at h ⊢
  by_cases h0 : (num s w).2 = 0
  ·rw [if_pos h0] at h ⊢
   obtain ⟨h1, h2⟩ := ih _ h
   exact ⟨h1, by rw [h2]; simp; omega⟩
  ·rw [if_neg h0] at h
   exact absurd h h0
theorem intsR_ok2 (s : ByteArray) (f : Int) (ws : List Wd) (n : Int) (h : (intsR s f ws n).2.2 = 0) : (intsR s f ws n).2.1 = 0 ∧ (intsR s f ws n).1.length = ws.length := by
 unfold intsR at h ⊢
 split at h
 ·rename_i hn
  rw [if_pos hn]
  obtain ⟨h1, h2⟩ := eachR_ok s ws [] h
  exact ⟨h1, by rw [h2]; simp⟩
 ·cases h
theorem routes_p (s : ByteArray) (hs : s.size ≤ 90000) (l : List Row) : ∀ (i : Int) (acc : List (List Int)), 0 ≤ i → i + (l.length : Int) ≤ 100000 → (∀ x ∈ l, x.f1 ≠ [] ∧ (∀ y ∈ x.f1, WOk s y) ∧ x.f1.length ≤ 100000) →
  routesS s l i acc = some (routesP s l i acc) := by
 induction l with
 | nil => intro i acc _ _ _; rfl
 | cons x l ih =>
  intro i acc hi hil hw
  obtain ⟨hne, hwk, hxl⟩ := hw x List.mem_cons_self
  have hil2 : i + 1 + (l.length : Int) ≤ 100000 := by simp at hil; omega
  rw [routesS, routesP]
  cases hxw : x.f1 with
  | nil => exact absurd hxw hne
  | cons y ys =>
   simp only
   rw [← hxw, begins_p s hs x.f0 x.f1 hxl hwk (i + 1) (by omega) (by omega)]
   simp only [Option.bind_some]
   rw [Text_eq]
   simp only [Option.bind_some]
   have hh : x.f1.head?.map (wtx s) = some (wtx s y) := by rw [hxw]; rfl
   have ht : (txt s y.f0 y.f1).toList = wtx s y := by unfold wtx; rw [ByteArray.toList_eq]
   rw [hh]
   by_cases hc : wtx s y = costL
   ·rw [if_pos (show some (wtx s y) = some costL by rw [hc])]
    unfold fromS
    rw [ht, if_pos hc]
    unfold costP
    by_cases h2 : x.f1.length = 2
    ·obtain ⟨z, rfl⟩ : ∃ z, ys = [z] := by
      rw [hxw] at h2
      exact List.length_eq_one_iff.1 (by simpa using h2)
     rw [if_pos h2, if_neg (by decide)]
     unfold intsS
     rw [if_pos ⟨by decide, by omega⟩, show ((1 : Int).toNat) = 1 from rfl]
     rw [SInts_eq s (by omega) x.f0 (x.f1.drop 1) (by rw [List.length_drop]; omega) _ 200000 (by rw [List.length_drop]; omega)]
     simp only [Option.bind_some]
     have hI : intsR s x.f0 (x.f1.drop 1) ((x.f1.length : Int) - 1) = (if (num s z).2 = 0 then ([(num s z).1], 0, 0) else ([], z.f0, (num s z).2)) := by
      rw [hxw]
      unfold intsR
      rw [if_pos (by simp)]
      show eachR s [z] [] = _
      unfold eachR
      split <;> rfl
     rw [hI, hxw]
     simp only
     by_cases h0 : (num s z).2 = 0
     ·rw [if_pos h0, if_pos h0]
      simp only [if_true]
      rw [if_pos hc]
      unfold lastS lastP
      cases l <;> rfl
     ·rw [if_neg h0, if_neg h0]
      simp only
      rw [if_neg h0]
    ·rw [if_neg h2, if_pos rfl]
     rw [hxw] at h2 ⊢
     cases ys with
     | nil => rfl
     | cons z zs =>
      cases zs with
      | nil => exact absurd rfl h2
      | cons _ _ => rfl
   ·have hb := begS_le s x.f1 (i + 1)
    rw [if_neg (show ¬ some (wtx s y) = some costL from fun h => hc (Option.some.inj h))]
    unfold fromS
    rw [ht, if_neg hc]
    by_cases h0 : begS s x.f1 (i + 1) = 0
    ·rw [if_pos h0, if_pos h0]
    ·rw [if_neg h0, if_neg h0]
     unfold intsS intsP
     rw [if_pos ⟨hb.1, hb.2⟩, SInts_eq s (by omega) x.f0 (x.f1.drop (begS s x.f1 (i + 1)).toNat) (by rw [List.length_drop]; omega) _ 200000 (by rw [List.length_drop]; omega)]
     simp only [Option.bind_some]
     by_cases h1 : (intsR s x.f0 (x.f1.drop (begS s x.f1 (i + 1)).toNat) ((x.f1.length : Int) - begS s x.f1 (i + 1))).2.2 = 0
     ·rw [if_pos h1, if_pos h1, if_pos (intsR_ok2 _ _ _ _ h1).1, if_neg hc, ih (i + 1) _ (by omega) hil2 (fun z hz => hw z (List.mem_cons_of_mem _ hz))]
     ·rw [if_neg h1, if_neg h1]
def routesF (s : ByteArray) : RTold := routesP s (shR s.data.toList 0) 0 []
theorem rows_all (s : ByteArray) (hs : s.size ≤ 90000) : ∀ x ∈ shR s.data.toList 0, x.f1 ≠ [] ∧ (∀ y ∈ x.f1, WOk s y) ∧ x.f1.length ≤ 100000 := fun x hx => by
 have h1 := rows_ok s x hx
 have h2 := shR_words s.data.toList 0 x hx
 have hL : s.data.toList.length = s.size := rfl
 exact ⟨h1.1, h1.2.1, by omega⟩
theorem parseRoutes_eq (s : ByteArray) (hs : s.size ≤ 90000) : parseRoutes s = some (routesF s) := by
 have hL : s.data.toList.length = s.size := rfl
 have h1 := shR_len s.data.toList 0
 unfold parseRoutes routesF
 rw [if_pos hs, Rows_sheet s (by omega) 0 100002 (by omega)]
 simp only [Option.bind_some]
 rw [if_pos (by omega)]
 exact routes_p s hs _ 0 [] (by decide) (by omega) (rows_all s hs)
set_option maxRecDepth 100000 in
theorem shown16 : entrepotlaw16_shown.f 60 = some true := by kernel_rfl
theorem up16 (k : Nat) (hk : 60 ≤ k) : entrepotlaw16_shown.f k = some true := by
  obtain ⟨d, rfl⟩ := Nat.exists_eq_add_of_le hk
  clear hk
  induction d with
  | zero => exact shown16
  | succ d ih => exact entrepotlaw16_shown.mono (60 + d) _ ih
theorem int_bd (l : List UInt8) (h : (intS l).2 = 0) : -100000000 ≤ (intS l).1 ∧ (intS l).1 ≤ 100000000 := by
 unfold intS at h ⊢
 split
 ·rename_i h1; rw [if_pos h1] at h; cases h
 ·rename_i h1
  rw [if_neg h1] at h
  split
  ·rename_i h2; rw [if_pos h2] at h; cases h
  ·rename_i h2
   rw [if_neg h2] at h
   split
   ·rename_i h3
    unfold fitsB at h3
    simpa using h3
   ·rename_i h3; rw [if_neg h3] at h; cases h
def Pl (s : ByteArray) (a : Int) : Prop := 0 ≤ a ∧ a ≤ (s.size : Int)
theorem keyS_at (s : ByteArray) (a b : Nat) (hab : a ≤ b) (hb : b ≤ s.size) : Pl s (keyS s a b).2.1 := by
 unfold keyS Pl
 split
 ·unfold keyV
  split
  ·rename_i hmb
   split
   ·unfold trimE
    have h1 := triL_len (seg s (a + (preC (seg s a b)).length + 1) b)
    rw [seg_len s _ _ (by omega) hb] at h1
    simp only
    omega
   ·simp only; omega
  ·simp only; omega
 ·simp
def TGood (s : ByteArray) (T : Told) : Prop := Pl s T.2.1 ∧ (T.2.2 ≠ 0 → T.1 = []) ∧ (T.2.2 = 0 → ∃ r, T.1 = [r] ∧ ∀ v ∈ r, 0 ≤ v ∧ v < (r.length : Int))
theorem TGood.err (s : ByteArray) (a c : Int) (h : Pl s a) (hc : c ≠ 0) : TGood s ([], a, c) := ⟨h, fun _ => rfl, fun h0 => absurd h0 hc⟩
theorem headP_good (s : ByteArray) (i : Int) (k : Int → Told) (hk : ∀ n, (i = 2 → 1 ≤ n) → TGood s (k n)) : TGood s (headP s (rowsL s.data.toList) i k) := by
 unfold headP
 split
 ·exact TGood.err s _ _ ⟨by omega, by omega⟩ (by decide)
 ·rename_i x hx
  obtain ⟨h0, h1, h2⟩ := rowsL_ok s x (List.mem_of_getElem? hx)
  split
  ·split
   ·rename_i hf
    refine hk _ (fun hi => ?_)
    subst hi
    have : 0 < dimS (lval s x) := by simpa [fitS] using hf
    show 1 ≤ dimS (lval s x)
    omega
   ·exact TGood.err s _ _ (keyS_at s _ _ (by omega) (by omega)) (by decide)
  ·exact TGood.err s _ _ ⟨h0, by omega⟩ (by decide)
def LPl (s : ByteArray) (l : List Row) : Prop := ∀ x ∈ l, Pl s x.f0 ∧ ∀ y ∈ x.f1, Pl s y.f0
theorem rows_pl (s : ByteArray) : LPl s (shR s.data.toList 0) := fun x hx => by
 obtain ⟨_, h2, h3, h4⟩ := rows_ok s x hx
 exact ⟨⟨h3, h4⟩, fun y hy => by obtain ⟨p, q, rfl, h5, h6, _⟩ := h2 y hy; exact ⟨by simp, by simp; omega⟩⟩
theorem titD_pl (s : ByteArray) (l : List Row) (t : ByteArray) (h : LPl s l) : Pl s (titD s l t).1 := by
 unfold titD
 split
 ·exact ⟨by simp, by simp⟩
 ·split
  ·exact ⟨by simp, by simp⟩
  ·exact (h _ List.mem_cons_self).1
theorem eachR_pl (s : ByteArray) (ws : List Wd) (h : ∀ y ∈ ws, Pl s y.f0) : ∀ acc, Pl s (eachR s ws acc).2.1 := by
 induction ws with
 | nil => intro acc; exact ⟨by simp [eachR], by simp [eachR]⟩
 | cons w ws ih =>
  intro acc
  unfold eachR
  split
  ·exact ih (fun y hy => h y (List.mem_cons_of_mem _ hy)) _
  ·exact h w List.mem_cons_self
theorem intsR_pl (s : ByteArray) (f : Int) (ws : List Wd) (n : Int) (hf : Pl s f) (h : ∀ y ∈ ws, Pl s y.f0) : Pl s (intsR s f ws n).2.1 := by
 unfold intsR
 split
 ·exact eachR_pl s ws h []
 ·exact hf
theorem loopS_good (s : ByteArray) (n : Int) (l : List Row) : ∀ (out : List Int), LPl s l → (∀ v ∈ out, 0 ≤ v ∧ v < n) →
  Pl s (loopS s n l out).2.2.1 ∧ (∀ v ∈ (loopS s n l out).2.1, 0 ≤ v ∧ v < n) ∧ ((loopS s n l out).2.2.2 = 0 → n ≤ ((loopS s n l out).2.1.length : Int)) ∧ LPl s (loopS s n l out).1 := by
 have hz : Pl s 0 := ⟨by simp, by simp⟩
 induction l with
 | nil =>
  intro out hl ho
  unfold loopS
  split
  ·exact ⟨⟨by simp, by simp⟩, ho, fun h => (by cases h), hl⟩
  ·rename_i h; exact ⟨hz, ho, fun _ => by simp only; omega, hl⟩
 | cons x l ih =>
  intro out hl ho
  have hl2 : LPl s l := fun z hz => hl z (List.mem_cons_of_mem _ hz)
  unfold loopS
  split
  ·unfold stepS
   have hx := hl x List.mem_cons_self
   by_cases h0 : (intsR s x.f0 x.f1 1).2.2 = 0
   ·rw [if_pos h0]
    obtain ⟨h1, v, y, h2, h3⟩ := intsR_ok h0
    rw [h2, h3]
    simp only [List.getD_cons_zero]
    by_cases hv : v < 1 ∨ n < v
    ·rw [if_pos hv]
     exact ⟨hx.2 y (by rw [h3]; simp), ho, fun h => (by cases h), hl2⟩
    ·rw [if_neg hv]
     refine ih (out ++ [v - 1]) hl2 (fun u hu => ?_)
     rcases List.mem_append.1 hu with h | h
     ·exact ho u h
     ·obtain rfl : u = v - 1 := by simpa using h
      omega
   ·rw [if_neg h0]
    exact ⟨intsR_pl s _ _ _ hx.1 hx.2, ho, fun h => absurd h h0, hl2⟩
  ·rename_i h; exact ⟨hz, ho, fun _ => by simp only; omega, hl⟩
theorem endS_good (s : ByteArray) (n : Int) (l : List Row) (out : List Int) (d : Int × Int) (hl : LPl s l) (hd : Pl s d.1) (ho : ∀ v ∈ out, 0 ≤ v ∧ v < n) (hn : d.2 = 0 → n ≤ (out.length : Int)) :
  TGood s (fin1 (endS s (l, out, d))) := by
 by_cases h0 : d.2 = 0
 ·have hsuf : ∀ k : List Row, LPl s k → LPl s k.tail := fun k hk z hz => hk z (List.mem_of_mem_tail hz)
  have key : ∀ D : Int × Int, Pl s D.1 → endS s (l, out, d) = (out, D) → TGood s (fin1 (endS s (l, out, d))) := fun D hD he => by
   rw [he]
   unfold fin1
   simp only
   by_cases h2 : D.2 = 0
   ·rw [if_pos h2]
    exact ⟨hD, fun h => absurd h2 h, fun _ => ⟨out, rfl, fun v hv => by have := ho v hv; have := hn h0; omega⟩⟩
   ·rw [if_neg h2]
    exact TGood.err s _ _ hD h2
  have hfin : ∀ (r : List Row × Int × Int), LPl s r.1 → Pl s r.2.1 → Pl s (if r.2.2 = 0 then (match r.1 with | [] => r.2 | x :: _ => (x.f0, 4)) else r.2).1 := fun r h1 h2 => by
   split
   ·obtain ⟨k, D⟩ := r
    cases k with
    | nil => exact h2
    | cons x k => exact (h1 x List.mem_cons_self).1
   ·exact h2
  have htl : ∀ (t : ByteArray) (k : List Row) (D : Int × Int), LPl s k → Pl s D.1 → LPl s (tlS s t k D).1 ∧ Pl s (tlS s t k D).2.1 := fun t k D hk hD => by
   cases k with
   | nil => unfold tlS noRow; refine ⟨fun z hz => by simp at hz, ?_⟩; simp only; split; exact ⟨by simp, by simp⟩; exact hD
   | cons x k =>
    unfold tlS tlD
    refine ⟨fun z hz => hk z (List.mem_cons_of_mem _ hz), ?_⟩
    simp only
    split
    ·split
     ·exact hD
     ·exact (hk x List.mem_cons_self).1
    ·exact hD
  have h1 := htl ⟨#[45, 49]⟩ l d hl hd
  refine key _ (hfin _ ?_ ?_) (by unfold endS; rfl)
  ·simp only [h0, if_true]
   split
   ·exact (htl _ _ _ h1.1 h1.2).1
   ·exact h1.1
  ·simp only [h0, if_true]
   split
   ·exact (htl _ _ _ h1.1 h1.2).2
   ·exact h1.2
 ·have := finP_err s l out d h0
  unfold finP at this
  rw [this]
  exact TGood.err s _ _ hd h0
theorem tourP_good (s : ByteArray) : TGood s (tourP s) := by
 unfold tourP
 refine headP_good s 0 _ fun _ _ => headP_good s 1 _ fun _ _ => headP_good s 2 _ fun n hn => ?_
 have hq : LPl s ((shR s.data.toList 0).drop 3) := fun x hx => rows_pl s x (List.mem_of_mem_drop hx)
 unfold tailP stopsS contS
 rw [tlS_zz]
 simp only
 by_cases h0 : (titD s ((shR s.data.toList 0).drop 3) sectS).2 = 0
 ·rw [if_pos h0]
  obtain ⟨g1, g2, g3, g4⟩ := loopS_good s n ((shR s.data.toList 0).drop 3).tail [] (fun x hx => hq x (List.mem_of_mem_tail hx)) (by simp)
  exact endS_good s n _ _ _ g4 g1 g2 g3
 ·rw [if_neg h0]
  exact endS_good s n _ _ _ (fun x hx => hq x (List.mem_of_mem_tail hx)) (titD_pl s _ _ hq) (by simp) (fun h => absurd h h0)
def RGood (s : ByteArray) (T : RTold) : Prop := Pl s T.2.2.1 ∧ (T.2.2.2 ≠ 0 → T.1 = [] ∧ T.2.1 = 0) ∧ (T.2.2.2 = 0 → -100000000 ≤ T.2.1)
theorem RGood.err (s : ByteArray) (a c : Int) (h : Pl s a) (hc : c ≠ 0) : RGood s ([], 0, a, c) := ⟨h, fun _ => ⟨rfl, rfl⟩, fun h0 => absurd h0 hc⟩
theorem routesP_good (s : ByteArray) (l : List Row) : ∀ (i : Int) (acc : List (List Int)), LPl s l → RGood s (routesP s l i acc) := by
 have hz : Pl s 0 := ⟨by simp, by simp⟩
 induction l with
 | nil => intro i acc _; exact ⟨hz, fun h => absurd rfl h, fun _ => by simp [routesP]⟩
 | cons x l ih =>
  intro i acc hl
  have hl2 : LPl s l := fun z hz => hl z (List.mem_cons_of_mem _ hz)
  have hx := hl x List.mem_cons_self
  rw [routesP]
  split
  ·unfold costP
   split
   ·rename_i y z hf
    split
    ·rename_i h0
     unfold lastP
     cases l with
     | nil => exact ⟨hz, fun h => absurd rfl h, fun _ => (int_bd _ h0).1⟩
     | cons z2 l => exact RGood.err s _ _ (hl2 z2 List.mem_cons_self).1 (by decide)
    ·rename_i h0
     exact RGood.err s _ _ (hx.2 z (by rw [hf]; simp)) h0
   ·exact RGood.err s _ _ hx.1 (by decide)
  ·split
   ·exact RGood.err s _ _ hx.1 (by decide)
   ·unfold intsP
    split
    ·exact ih _ _ hl2
    ·rename_i h0
     exact RGood.err s _ _ (intsR_pl s _ _ _ hx.1 (fun y hy => hx.2 y (List.mem_of_mem_drop hy))) h0
theorem routesF_good (s : ByteArray) : RGood s (routesF s) := routesP_good s _ 0 [] (rows_pl s)
end Go.Proofs.YtadocbfchdendaaGreatDoor.Cu
namespace Go.Proofs.YtadocbfchdendaaGreatDoor.Cu
open Go.RowKit Go.Lib Go.Proofs.YtadocbfchdendaaGreatDoorW.PrintWords Go.Proofs.YtadocbfchdendaaGreatDoorW.PrintLast Go.Proofs.YtadocbfchdendaaGreatDoorW.PrintMore Go.Proofs.YtadocbfchdendaaGreatDoor.P Go.Proofs.YtadocbfchdendaaGreatDoor.Sp
set_option linter.unusedSimpArgs false
theorem rdI (l : List Int) (i : Nat) (x : Int) (h : l[i]? = some x) : rd l (i : Int) = x := by
  simp [rd, h]
theorem either_end (k : Nat) (m a c : Int) (r : List Int) (hm : c = 0 → -100000000 ≤ m) : entrepotlaw16_TourEither.l0 (k + 1) m 1 [r] a c = some true := by
  simp only [entrepotlaw16_TourEither.l0]
  rw [if_neg (by simp)]
  split
  · rename_i h; simp; exact hm h
  · rfl
theorem either_in (m a c : Int) (r : List Int) (hr : ∀ v ∈ r, 0 ≤ v ∧ v < (r.length : Int)) (hl : r.length ≤ 200000) (hm : c = 0 → -100000000 ≤ m) (d : Nat) : ∀ (i k : Nat), i + d = r.length → d + 10 < k →
    entrepotlaw16_TourEither.l1 k m 0 i [r] a c = some true := by
  induction d with
  | zero =>
    intro i k hi hk
    obtain ⟨k, rfl, hk⟩ := succ' hk
    obtain ⟨k, rfl, hk⟩ := succ' (show 5 < k by omega)
    have e1 : wrap64 ((0 : Int) + 1) = 1 := by rw [w64' (by decide) (by decide)]; rfl
    have e0 : rd_L14 [r] 0 = r := rfl
    rw [entrepotlaw16_TourEither.l1, if_pos (by decide), if_pos (by simp), e0, if_neg (by omega), e1]
    exact either_end k m a c r hm
  | succ d ih =>
    intro i k hi hk
    obtain ⟨k, rfl, hk⟩ := succ' hk
    obtain ⟨v, hv⟩ : ∃ v, r[i]? = some v := ⟨_, List.getElem?_eq_getElem (show i < r.length by omega)⟩
    have h1 := hr v (List.mem_of_getElem? hv)
    have e1 : wrap64 ((i : Int) + 1) = ((i + 1 : Nat) : Int) := by rw [w64' (by omega) (by omega)]; omega
    have e0 : rd_L14 [r] 0 = r := rfl
    rw [entrepotlaw16_TourEither.l1, if_pos (by decide), if_pos (by simp), e0, if_pos (by omega), if_pos (by omega), rdI r i v hv, if_neg (by omega), if_neg (by omega), e1]
    exact ih (i + 1) k (by omega) (by omega)
theorem tourP_len (s : ByteArray) (hs : s.size ≤ 90000) : ∀ r ∈ (tourP s).1, r.length ≤ 200000 := by
  have hh : ∀ (L : List Ln) (i : Int) (k : Int → Told), (∀ n, ∀ r ∈ (k n).1, r.length ≤ 200000) → ∀ r ∈ (headP s L i k).1, r.length ≤ 200000 := fun L i k hk => by
    unfold headP
    split
    · simp
    · split
      · split
        · exact hk _
        · simp
      · simp
  unfold tourP
  refine hh _ _ _ fun _ => hh _ _ _ fun _ => hh _ _ _ fun n => ?_
  unfold tailP fin1
  have hl : ∀ (l : List Row) (out : List Int), (loopS s n l out).2.1.length ≤ out.length + l.length := fun l => by
    induction l with
    | nil => intro out; unfold loopS; split <;> simp
    | cons x l ih =>
      intro out
      unfold loopS
      split
      · cases stepS s n x with
        | inl e => simp
        | inr v => have := ih (out ++ [v]); simp at this ⊢; omega
      · simp
  split
  · intro r hr
    obtain rfl : r = _ := by simpa using hr
    unfold stopsS endS contS
    simp only
    have hL : s.data.toList.length = s.size := rfl
    have h1 := shR_len s.data.toList 0
    split
    · have := hl (tlS s sectS (List.drop 3 (shR s.data.toList 0)) (0, 0)).1 []
      have h2 := (title_len s sectS (List.drop 3 (shR s.data.toList 0)) (0, 0)).1
      simp at this h2
      omega
    · simp
  · simp
end Go.Proofs.YtadocbfchdendaaGreatDoor.Cu
namespace Go.Proofs.YtadocbfchdendaaGreatDoor.Pure
open Go.RowKit Go.Proofs.YtadocbfchdendaaGreatDoor.P Go.Proofs.YtadocbfchdendaaGreatDoor.Cu
theorem TourEither : entrepotlaw16_TourEither.Pure := by
  intro s _
  refine ⟨1000000, ?_⟩
  obtain ⟨K, hK⟩ : ∃ K, (1000000 : Nat) = K + 1 := ⟨999999, rfl⟩
  rw [hK]
  have hK2 : 900000 < K := by omega
  clear hK
  unfold entrepotlaw16_TourEither.f
  split
  · simp only [entrepotlaw16_TourEither.j0, if_true]
    rw [up16 K (by omega)]
    rfl
  · rename_i h1
    rw [up16 (K + 1) (by omega)]
    simp only [Option.bind_some, Bool.not_true]
    rw [entrepotlaw16_TourEither.j0, if_neg (by decide), show tour_ParseTour.f s = some (tourP s) from parseTour_eq s (by omega), show tour_ParseRoutes.f s = some (routesF s) from parseRoutes_eq s (by omega)]
    simp only [Option.bind_some]
    obtain ⟨⟨p0, p1⟩, p2, p3⟩ := tourP_good s
    obtain ⟨⟨q0, q1⟩, q2, q3⟩ := routesF_good s
    have hlen := tourP_len s (by omega)
    obtain ⟨⟨P, d1, d2⟩, hP⟩ : ∃ T, tourP s = T := ⟨_, rfl⟩
    obtain ⟨⟨Q, m, e1, e2⟩, hQ⟩ : ∃ T, routesF s = T := ⟨_, rfl⟩
    rw [hP] at p0 p1 p2 p3 hlen ⊢
    rw [hQ] at q0 q1 q2 q3 ⊢
    simp only at p0 p1 p2 p3 q0 q1 q2 q3 hlen ⊢
    rw [if_neg (by omega), if_neg (by omega), if_neg (by omega), if_neg (by omega)]
    obtain ⟨K, rfl, hK⟩ := succ' hK2
    obtain ⟨K, rfl, hK⟩ := succ' (show 800000 < K by omega)
    by_cases hd : d2 = 0
    · obtain ⟨r, rfl, hr⟩ := p3 hd
      have hgo : entrepotlaw16_TourEither.j1 (K + 1 + 1) m false [r] e1 e2 = some true := by
        rw [entrepotlaw16_TourEither.j1, if_neg (by decide), entrepotlaw16_TourEither.l0, if_pos (by simp)]
        exact either_in m e1 e2 r hr (hlen r (by simp)) q3 r.length 0 K (by omega) (by have := hlen r (by simp); omega)
      rw [if_pos hd]
      by_cases he : e2 = 0
      · rw [if_pos he]
        exact hgo
      · obtain ⟨h2, h3⟩ := q2 he
        rw [if_neg he, if_neg (by rw [h2]; simp), if_pos h3]
        exact hgo
    · obtain rfl := p2 hd
      have hgo : entrepotlaw16_TourEither.j1 (K + 1 + 1) m false [] e1 e2 = some true := by
        rw [entrepotlaw16_TourEither.j1, if_neg (by decide), entrepotlaw16_TourEither.l0, if_neg (by simp)]
        split
        · rename_i h; simp; exact q3 h
        · rfl
      rw [if_neg hd, if_neg (by simp)]
      by_cases he : e2 = 0
      · rw [if_pos he]
        exact hgo
      · obtain ⟨h2, h3⟩ := q2 he
        rw [if_neg he, if_neg (by rw [h2]; simp), if_pos h3]
        exact hgo
end Go.Proofs.YtadocbfchdendaaGreatDoor.Pure
namespace Go.Proofs.YtadocbfchdendaaGreatDoor.lawTourEither
open Go Go.ChangeShapes Go.WideShapes Go.ChangeAt Go.RowKit
open Go.ChangeMaps (open_string shut_string)
set_option linter.unusedVariables false
set_option linter.unusedSimpArgs false
theorem own : ownKnob Tryz.prog.godebug = none := by kernel_rfl
theorem laidOut : laidOutB Tryz.prog = true := by kernel_rfl
theorem tabs {W : World} (h : laidMetH Tryz.prog [("math/bits.deBruijn32tab", Rows.laid_math_bits_deBruijn32tab), ("math/bits.deBruijn64tab", Rows.laid_math_bits_deBruijn64tab), ("internal/strconv.uint64pow10", Rows.laid_internal_strconv_uint64pow10), ("unicode/utf8.acceptRanges", Rows.laid_unicode_utf8_acceptRanges), ("strconv.ErrRange", Rows.laid_strconv_ErrRange), ("strconv.ErrSyntax", Rows.laid_strconv_ErrSyntax), ("unicode/utf8.first", Rows.laid_unicode_utf8_first)] W) : Tabs W := by
  rw [MakeChecks.laidMetH_plain _ _ _ (by kernel_rfl)] at h
  have h := h.tail
  have h := h.tail
  exact Lib.tabBelow_of_tabIs (Lib.tabIs_of_head (k := .u64) (zs := Lib.pow10Tab) (g := 1) (t := 213) (e := 119) (n := 20) (by kernel_rfl) (by kernel_rfl) Tryz.underlying213 Tryz.underlying119 (by kernel_rfl) (by kernel_rfl) h)
set_option maxRecDepth 100000 in
theorem lifted (os : Os) (started : os.Started) (H : Type) (enc : TypeId × Value → H) :
    ReturnsInHanded {} Tryz.checked os 10 .any (fun w args => (Rows.tourEitherSpec.pre enc Tryz.prog Tryz.f10 [] false w args ∧ laidMetH Tryz.prog [("math/bits.deBruijn32tab", Rows.laid_math_bits_deBruijn32tab), ("math/bits.deBruijn64tab", Rows.laid_math_bits_deBruijn64tab), ("internal/strconv.uint64pow10", Rows.laid_internal_strconv_uint64pow10), ("unicode/utf8.acceptRanges", Rows.laid_unicode_utf8_acceptRanges), ("strconv.ErrRange", Rows.laid_strconv_ErrRange), ("strconv.ErrSyntax", Rows.laid_strconv_ErrSyntax), ("unicode/utf8.first", Rows.laid_unicode_utf8_first)] w) ∧ sizedMet enc Tryz.prog Tryz.f10 (OpenSpec.ofChange Rows.tourEitherSpec) false w args)
      (Rows.tourEitherSpec.post enc Tryz.prog Tryz.f10 false true false false) := by
  refine returnsInHanded_of_change_and (C := Tryz.checked) (X := fun w _ => laidMetH Tryz.prog [("math/bits.deBruijn32tab", Rows.laid_math_bits_deBruijn32tab), ("math/bits.deBruijn64tab", Rows.laid_math_bits_deBruijn64tab), ("internal/strconv.uint64pow10", Rows.laid_internal_strconv_uint64pow10), ("unicode/utf8.acceptRanges", Rows.laid_unicode_utf8_acceptRanges), ("strconv.ErrRange", Rows.laid_strconv_ErrRange), ("strconv.ErrSyntax", Rows.laid_strconv_ErrSyntax), ("unicode/utf8.first", Rows.laid_unicode_utf8_first)] w) (fun _ _ _ hh h => h.of_heap hh) own started (by kernel_rfl) Tryz.func10
    (ChangeSpec.witness_shaped (enc := enc) (C := Tryz.checked) (os := os) (X := fun w _ => laidMetH Tryz.prog [("math/bits.deBruijn32tab", Rows.laid_math_bits_deBruijn32tab), ("math/bits.deBruijn64tab", Rows.laid_math_bits_deBruijn64tab), ("internal/strconv.uint64pow10", Rows.laid_internal_strconv_uint64pow10), ("unicode/utf8.acceptRanges", Rows.laid_unicode_utf8_acceptRanges), ("strconv.ErrRange", Rows.laid_strconv_ErrRange), ("strconv.ErrSyntax", Rows.laid_strconv_ErrSyntax), ("unicode/utf8.first", Rows.laid_unicode_utf8_first)] w) false (World.laidAll Tryz.prog os [("math/bits.deBruijn32tab", Rows.laid_math_bits_deBruijn32tab), ("math/bits.deBruijn64tab", Rows.laid_math_bits_deBruijn64tab), ("internal/strconv.uint64pow10", Rows.laid_internal_strconv_uint64pow10), ("unicode/utf8.acceptRanges", Rows.laid_unicode_utf8_acceptRanges), ("strconv.ErrRange", Rows.laid_strconv_ErrRange), ("strconv.ErrSyntax", Rows.laid_strconv_ErrSyntax), ("unicode/utf8.first", Rows.laid_unicode_utf8_first)]) #[.string ByteArray.empty] 8 (World.laidAll_os _ _ _) (World.shaped_of_ZipB (by kernel_rfl) (by kernel_rfl)) (by kernel_rfl) (by kernel_rfl) (by kernel_rfl) (by rw [MakeChecks.laidMetH_plain _ _ _ (by kernel_rfl)]; exact laidMet_laidAll _ (by kernel_rfl) (by kernel_rfl))) ?_
  intro W base args ds gs before hval0 hW _ hsz0 hL _
  have hsz : (DataW.weightsEach Tryz.prog (Tryz.f10.params.toList ++ Rows.tourEitherSpec.plain.varTypes Tryz.prog) (ds ++ gs)).all (· ≤ reachBytes) = true := hsz0
  have hval : ∀ (j : Nat) t v, Tryz.f10.params[j]? = some t → args[j]? = some v → Value.okWide Tryz.prog W .any base t v := hval0
  have hW' := hW
  obtain ⟨p, q, hA0, hV, rfl, hfz, hnd⟩ := hW
  have hA : DataW.TrodAll enc Tryz.prog W 0 (fun _ => true) true Tryz.f10.params.toList args.toList ds p := hA0
  rw [Tryz.params10] at hA hval hsz
  obtain ⟨v0, vs0, d0, ds0, p0, q0, hargs, rfl, rfl, h0, r0⟩ := trodAll_cons hA
  obtain ⟨rfl, rfl, rfl⟩ := trodAll_nil r0
  obtain rfl : args = #[v0] := by cases args; simp_all
  obtain ⟨rfl, rfl⟩ := trodVars_none hV
  have k0 := h0
  have lt0 : ∀ x ∈ p0, x.block < W.heap.size := by obtain ⟨m, hm⟩ := k0; exact DataW.trod_lt m _ _ _ hm
  obtain ⟨a0, rfl, rfl, rfl, y0⟩ := open_string Tryz.underlying9 (hval 0 9 v0 rfl rfl) h0
  have wa0 : a0.size ≤ 140737488351232 := by
    have z := sized_string hsz (j := 0) (t := 9) rfl rfl
    rw [Array.length_toList] at z
    exact z
  clear hA0 hval0 hsz0 hsz
  obtain ⟨k, hk⟩ := Pure.TourEither a0 wa0
  refine (P.entrepotlaw16_TourEither.calls k a0 true W (tabs hL) hk).mono fun e W' hp => ?_
  obtain ⟨he, hb⟩ := hp
  subst he
  have bel : Below W.heap.size W W' := hb
  exact ⟨_, rfl, _, _, _, [], _, [], hW', trodAll_mk1 (shut_bool Tryz.underlying4 _), trodAll_cons_mk (Below.trod laidOut (by kernel_rfl) (of_decide_eq_true (by kernel_rfl)) k0 bel lt0) trodAll_mk0, rfl, bel.frame _, fun h => by cases h⟩
theorem over : Rows.tourEitherRow.holds Tryz.pinned (OpenSpec.ofChange Rows.tourEitherSpec) :=
  OpenClaim.holds_of_wide 10 Tryz.f10 rfl rfl rfl rfl rfl rfl rfl ⟨rfl, rfl, rfl, rfl, rfl⟩ rfl rfl rfl rfl rfl (by kernel_rfl) Tryz.func10 (by kernel_rfl)
    (of_decide_eq_true (by kernel_rfl)) (by unfold Func.isWrapper; first | (rw [if_pos (by decide +kernel)]; kernel_rfl) | (rw [if_neg (by decide +kernel)]; exact ⟨rfl, rfl⟩))
    (fun os started H enc _ => lifted os started H enc)
theorem card_holds : Rows.TourEitherCardSaid :=
  Claim7.holds_tied_plain_at .later [] [.data, .data, .data, .data, .sentinel, .sentinel, .pinned] true (true, "50ff171a6ebaa1dc44acd7db4d9128ea4c6fd5289ca809cb7593c385ab16d17b") true
    over (fun _ h => by cases h) (by kernel_rfl) (fun _ h => by cases h) tourEither_row_tie rfl ⟨rfl, rfl⟩ (by kernel_rfl) rfl
    (fun f fn hf hfn => by
      obtain rfl : f = 10 := Option.some.inj ((show Tryz.prog.funcNamed "entrepot/entrepotlaw16.TourEither" = some 10 by kernel_rfl).symm.trans hf) |>.symm
      obtain rfl : fn = Tryz.f10 := (Option.some.inj (Tryz.func10.symm.trans hfn)).symm
      exact ⟨by kernel_rfl, fun j t ht => by
        rw [Tryz.params10] at ht
        have hm : t ∈ [9] := by simpa using Array.mem_of_getElem? ht
        have hall : ([9].all fun u => !Tryz.prog.wantsStandIn u) = true := by kernel_rfl
        exact (show Tryz.prog.wantsStandIn t = false by simpa using List.all_eq_true.1 hall t hm)⟩)
    (by kernel_rfl)
#print axioms card_holds
end Go.Proofs.YtadocbfchdendaaGreatDoor.lawTourEither
namespace Go.Proofs.YtadocbfchdendaaGreatDoor
theorem lawTourEither_holds : Rows.TourEitherCardSaid := lawTourEither.card_holds
end Go.Proofs.YtadocbfchdendaaGreatDoor
