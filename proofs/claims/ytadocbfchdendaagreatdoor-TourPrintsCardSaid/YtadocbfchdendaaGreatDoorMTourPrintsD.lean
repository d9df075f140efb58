/- Part 4 of the proof of TourPrints: contracts of functions, and the words that they use. -/
import Derived.Test.YtadocbfchdendaaGreatDoorMTourPrintsA
import Derived.Test.YtadocbfchdendaaGreatDoorMTourPrintsB
import Derived.Test.YtadocbfchdendaaGreatDoorMTourPrintsC
import Derived.Deep.LoopGhost
import Derived.Lib.ItoaLen
import Derived.Lib.IndexLaws
set_option linter.unusedVariables false
set_option linter.unusedSimpArgs false
namespace Go.Proofs.YtadocbfchdendaaGreatDoor.P
open Go.RowKit Go.Proofs.YtadocbfchdendaaGreatDoorW.PrintWords Go.Proofs.YtadocbfchdendaaGreatDoorW.PrintLast Go.Proofs.YtadocbfchdendaaGreatDoorW.PrintMore
attribute [local go_sem] max2_int min2_int max_two min_two max_three min_three max_four min_four
set_option linter.unusedVariables false
set_option linter.unusedSimpArgs false
attribute [local go_sem high] eqA41
def entrepotlaw16_shown.f (k : Nat)  : Option (Bool) := (tour_PrintTour.f k (⟨#[116]⟩ : ByteArray) (([(([1, 0] : List Int))] : List (List Int)))).bind fun t107 => ((tour_ParseTour.f t107).bind fun bt108 => ((tour_ParseRoutes.f (⟨#[82, 111, 117, 116, 101, 32, 35, 49, 58, 32, 51, 32, 49, 10, 82, 111, 117, 116, 101, 32, 50, 32, 58, 10, 67, 111, 115, 116, 32, 50, 48, 10]⟩ : ByteArray)).bind fun bt115 => ((tour_ParseRoutes.f (⟨#[82, 111, 117, 116, 101, 32, 35, 50, 58, 32, 51, 10]⟩ : ByteArray)).bind fun bt123 => (if t107.toList = ([78, 65, 77, 69, 32, 58, 32, 116, 10, 84, 89, 80, 69, 32, 58, 32, 84, 79, 85, 82, 10, 68, 73, 77, 69, 78, 83, 73, 79, 78, 32, 58, 32, 50, 10, 84, 79, 85, 82, 95, 83, 69, 67, 84, 73, 79, 78, 10, 50, 10, 49, 10, 45, 49, 10, 69, 79, 70, 10] : List UInt8) then (if (bt108.1.length : Int) = 1 then (if 0 < (bt108.1.length : Int) then (if ((rd_L14 bt108.1 0).length : Int) = 2 then (if 0 < ((rd_L14 bt108.1 0).length : Int) then (if (rd (rd_L14 bt108.1 0) 0) = 1 then (if (bt108.2.1 == 0 && (bt108.2.2 == 0)) = true then (if (bt115.1.length : Int) = 2 then (if 0 < (bt115.1.length : Int) then (if ((rd_L14 bt115.1 0).length : Int) = 2 then (if bt115.2.1 = 20 then (if (bt115.2.2.1 == 0 && (bt115.2.2.2 == 0)) = true then (some (bt123.2.2.1 == 0 && (bt123.2.2.2 == 3))) else (none)) else (none)) else (none)) else (none)) else (none)) else (none)) else (none)) else (none)) else (none)) else (none)) else (none)) else (none)))))
theorem entrepotlaw16_shown.mono : ∀ k, LeO (entrepotlaw16_shown.f k ) (entrepotlaw16_shown.f (k + 1) ) := by
 intro  k
 unfold entrepotlaw16_shown.f
 repeat' first
   | (with_reducible exact tour_PrintTour.mono _ _ _)
   | (with_reducible exact LeO.refl _)
   | (with_reducible exact LeO.none _)
   | (with_reducible refine LeO.ite ?_ ?_)
   | (with_reducible refine LeO.bind ?_ (fun _ => ?_))
   | exact tour_PrintTour.mono _ _ _
   | exact LeO.none _
   | refine LeO.ite ?_ ?_
   | refine LeO.bind ?_ (fun _ => ?_)
set_option maxHeartbeats 8000000 in
set_option maxRecDepth 100000 in
theorem entrepotlaw16_shown.calls (k : Nat)  (r : Bool) (w : World) (hT : Tabs w) (h : entrepotlaw16_shown.f k  = some r) :
  Calls Tryz.prog 33 #[] w fun e w' => e = .returned (.bool r) ∧ Below w.heap.size w w' := by
 have hu70 := Tryz.underlying70; have hu41 := Tryz.underlying41; have HT0 := Aside0.mk hT; clear hT; have HB := Aside0.mk (Below.refl w.heap.size w); have H : ((tour_PrintTour.f k (⟨#[116]⟩ : ByteArray) (([(([1, 0] : List Int))] : List (List Int)))).bind fun t107 => ((tour_ParseTour.f t107).bind fun bt108 => ((tour_ParseRoutes.f (⟨#[82, 111, 117, 116, 101, 32, 35, 49, 58, 32, 51, 32, 49, 10, 82, 111, 117, 116, 101, 32, 50, 32, 58, 10, 67, 111, 115, 116, 32, 50, 48, 10]⟩ : ByteArray)).bind fun bt115 => ((tour_ParseRoutes.f (⟨#[82, 111, 117, 116, 101, 32, 35, 50, 58, 32, 51, 10]⟩ : ByteArray)).bind fun bt123 => (if t107.toList = ([78, 65, 77, 69, 32, 58, 32, 116, 10, 84, 89, 80, 69, 32, 58, 32, 84, 79, 85, 82, 10, 68, 73, 77, 69, 78, 83, 73, 79, 78, 32, 58, 32, 50, 10, 84, 79, 85, 82, 95, 83, 69, 67, 84, 73, 79, 78, 10, 50, 10, 49, 10, 45, 49, 10, 69, 79, 70, 10] : List UInt8) then (if (bt108.1.length : Int) = 1 then (if 0 < (bt108.1.length : Int) then (if ((rd_L14 bt108.1 0).length : Int) = 2 then (if 0 < ((rd_L14 bt108.1 0).length : Int) then (if (rd (rd_L14 bt108.1 0) 0) = 1 then (if (bt108.2.1 == 0 && (bt108.2.2 == 0)) = true then (if (bt115.1.length : Int) = 2 then (if 0 < (bt115.1.length : Int) then (if ((rd_L14 bt115.1 0).length : Int) = 2 then (if bt115.2.1 = 20 then (if (bt115.2.2.1 == 0 && (bt115.2.2.2 == 0)) = true then (some (bt123.2.2.1 == 0 && (bt123.2.2.2 == 3))) else (none)) else (none)) else (none)) else (none)) else (none)) else (none)) else (none)) else (none)) else (none)) else (none)) else (none)) else (none)))))) = some r := h; clear h; obtain ⟨y101, hy101⟩ : ∃ y_ : List Int, y_ = (([1, 0] : List Int)) := ⟨_, rfl⟩; replace H : ((tour_PrintTour.f k (⟨#[116]⟩ : ByteArray) (([y101] : List (List Int)))).bind fun t107 => ((tour_ParseTour.f t107).bind fun bt108 => ((tour_ParseRoutes.f (⟨#[82, 111, 117, 116, 101, 32, 35, 49, 58, 32, 51, 32, 49, 10, 82, 111, 117, 116, 101, 32, 50, 32, 58, 10, 67, 111, 115, 116, 32, 50, 48, 10]⟩ : ByteArray)).bind fun bt115 => ((tour_ParseRoutes.f (⟨#[82, 111, 117, 116, 101, 32, 35, 50, 58, 32, 51, 10]⟩ : ByteArray)).bind fun bt123 => (if t107.toList = ([78, 65, 77, 69, 32, 58, 32, 116, 10, 84, 89, 80, 69, 32, 58, 32, 84, 79, 85, 82, 10, 68, 73, 77, 69, 78, 83, 73, 79, 78, 32, 58, 32, 50, 10, 84, 79, 85, 82, 95, 83, 69, 67, 84, 73, 79, 78, 10, 50, 10, 49, 10, 45, 49, 10, 69, 79, 70, 10] : List UInt8) then (if (bt108.1.length : Int) = 1 then (if 0 < (bt108.1.length : Int) then (if ((rd_L14 bt108.1 0).length : Int) = 2 then (if 0 < ((rd_L14 bt108.1 0).length : Int) then (if (rd (rd_L14 bt108.1 0) 0) = 1 then (if (bt108.2.1 == 0 && (bt108.2.2 == 0)) = true then (if (bt115.1.length : Int) = 2 then (if 0 < (bt115.1.length : Int) then (if ((rd_L14 bt115.1 0).length : Int) = 2 then (if bt115.2.1 = 20 then (if (bt115.2.2.1 == 0 && (bt115.2.2.2 == 0)) = true then (some (bt123.2.2.1 == 0 && (bt123.2.2.2 == 3))) else (none)) else (none)) else (none)) else (none)) else (none)) else (none)) else (none)) else (none)) else (none)) else (none)) else (none)) else (none)))))) = some r := by first | (rw [hy101]; with_reducible exact H) | (have H2_ := (Option.bind_some _ _).symm.trans H; rw [hy101]; with_reducible exact H2_) | (have H2_ := (Option.bind_some _ _).symm.trans H; with_reducible exact H2_) | with_reducible exact H | (rw [hy101]; exact H) | exact H
 have Ny101 := Aside0.mk hy101; clear hy101; obtain ⟨y104, hy104⟩ : ∃ y_ : List (List Int), y_ = (([y101] : List (List Int))) := ⟨_, rfl⟩; replace H : ((tour_PrintTour.f k (⟨#[116]⟩ : ByteArray) y104).bind fun t107 => ((tour_ParseTour.f t107).bind fun bt108 => ((tour_ParseRoutes.f (⟨#[82, 111, 117, 116, 101, 32, 35, 49, 58, 32, 51, 32, 49, 10, 82, 111, 117, 116, 101, 32, 50, 32, 58, 10, 67, 111, 115, 116, 32, 50, 48, 10]⟩ : ByteArray)).bind fun bt115 => ((tour_ParseRoutes.f (⟨#[82, 111, 117, 116, 101, 32, 35, 50, 58, 32, 51, 10]⟩ : ByteArray)).bind fun bt123 => (if t107.toList = ([78, 65, 77, 69, 32, 58, 32, 116, 10, 84, 89, 80, 69, 32, 58, 32, 84, 79, 85, 82, 10, 68, 73, 77, 69, 78, 83, 73, 79, 78, 32, 58, 32, 50, 10, 84, 79, 85, 82, 95, 83, 69, 67, 84, 73, 79, 78, 10, 50, 10, 49, 10, 45, 49, 10, 69, 79, 70, 10] : List UInt8) then (if (bt108.1.length : Int) = 1 then (if 0 < (bt108.1.length : Int) then (if ((rd_L14 bt108.1 0).length : Int) = 2 then (if 0 < ((rd_L14 bt108.1 0).length : Int) then (if (rd (rd_L14 bt108.1 0) 0) = 1 then (if (bt108.2.1 == 0 && (bt108.2.2 == 0)) = true then (if (bt115.1.length : Int) = 2 then (if 0 < (bt115.1.length : Int) then (if ((rd_L14 bt115.1 0).length : Int) = 2 then (if bt115.2.1 = 20 then (if (bt115.2.2.1 == 0 && (bt115.2.2.2 == 0)) = true then (some (bt123.2.2.1 == 0 && (bt123.2.2.2 == 3))) else (none)) else (none)) else (none)) else (none)) else (none)) else (none)) else (none)) else (none)) else (none)) else (none)) else (none)) else (none)))))) = some r := by first | (rw [hy104]; with_reducible exact H) | (have H2_ := (Option.bind_some _ _).symm.trans H; rw [hy104]; with_reducible exact H2_) | (have H2_ := (Option.bind_some _ _).symm.trans H; with_reducible exact H2_) | with_reducible exact H | (rw [hy104]; exact H) | exact H
 have Ny104 := Aside0.mk hy104; clear hy104; replace H := Option.bind_eq_some_iff.mp H; obtain ⟨t107, A10, H⟩ := H; (try dsimp only at H); have A1 := Aside0.mk A10; clear A10; replace H := Option.bind_eq_some_iff.mp H; obtain ⟨⟨t108, t111, t112⟩, A20, H⟩ := H; (try dsimp only at H); have A2 := Aside0.mk A20; clear A20; replace H := Option.bind_eq_some_iff.mp H; obtain ⟨⟨t115, t118, t119, t120⟩, A30, H⟩ := H; (try dsimp only at H); have A3 := Aside0.mk A30; clear A30; replace H := Option.bind_eq_some_iff.mp H; obtain ⟨⟨t123, t126, t127, t128⟩, A40, H⟩ := H; (try dsimp only at H); have A4 := Aside0.mk A40; clear A40
 by_cases c5 : t107.toList = ([78, 65, 77, 69, 32, 58, 32, 116, 10, 84, 89, 80, 69, 32, 58, 32, 84, 79, 85, 82, 10, 68, 73, 77, 69, 78, 83, 73, 79, 78, 32, 58, 32, 50, 10, 84, 79, 85, 82, 95, 83, 69, 67, 84, 73, 79, 78, 10, 50, 10, 49, 10, 45, 49, 10, 69, 79, 70, 10] : List UInt8)
 ·rw [if_pos c5] at H; have c5b0 := beq_iff_eq.mpr c5; have c5b1 := bne_eq_false_iff_eq.mpr c5; clear c5
  by_cases c6 : (t108.length : Int) = 1
  ·rw [if_pos c6] at H; have c6b0 := beq_iff_eq.mpr c6; have c6b1 := bne_eq_false_iff_eq.mpr c6; clear c6
   by_cases c7 : 0 < (t108.length : Int)
   ·rw [if_pos c7] at H; have c7b0 := decide_eq_true c7; have c7b1 : decide (0 < t108.length) = true := decide_eq_true (by omega); clear c7
    by_cases c8 : ((rd_L14 t108 0).length : Int) = 2
    ·rw [if_pos c8] at H; have c8b0 := beq_iff_eq.mpr c8; have c8b1 := bne_eq_false_iff_eq.mpr c8; clear c8
     by_cases c9 : 0 < ((rd_L14 t108 0).length : Int)
     ·rw [if_pos c9] at H; have c9b0 := decide_eq_true c9; have c9b1 : decide (0 < (rd_L14 t108 0).length) = true := decide_eq_true (by omega); clear c9
      by_cases c10 : (rd (rd_L14 t108 0) 0) = 1
      ·rw [if_pos c10] at H; have c10b0 := beq_iff_eq.mpr c10; have c10b1 := bne_eq_false_iff_eq.mpr c10; clear c10
       by_cases c11 : (t111 == 0 && (t112 == 0)) = true
       ·rw [if_pos c11] at H; have c11b0 : (t111 == 0 && (t112 == 0)) = true := c11; (try (have c11b1 : decide (t111 = 0 && (t112 == 0)) = true := by simpa using c11)); (try (have c11b2 : (t111 == 0 && (t112 == 0)) = true := by simpa using c11)); clear c11
        by_cases c12 : (t115.length : Int) = 2
        ·rw [if_pos c12] at H; have c12b0 := beq_iff_eq.mpr c12; have c12b1 := bne_eq_false_iff_eq.mpr c12; clear c12
         by_cases c13 : 0 < (t115.length : Int)
         ·rw [if_pos c13] at H; have c13b0 := decide_eq_true c13; have c13b1 : decide (0 < t115.length) = true := decide_eq_true (by omega); clear c13
          by_cases c14 : ((rd_L14 t115 0).length : Int) = 2
          ·rw [if_pos c14] at H; have c14b0 := beq_iff_eq.mpr c14; have c14b1 := bne_eq_false_iff_eq.mpr c14; clear c14
           by_cases c15 : t118 = 20
           ·rw [if_pos c15] at H; have c15b0 := beq_iff_eq.mpr c15; have c15b1 := bne_eq_false_iff_eq.mpr c15; clear c15
            by_cases c16 : (t119 == 0 && (t120 == 0)) = true
            ·rw [if_pos c16] at H; have c16b0 : (t119 == 0 && (t120 == 0)) = true := c16; (try (have c16b1 : decide (t119 = 0 && (t120 == 0)) = true := by simpa using c16)); (try (have c16b2 : (t119 == 0 && (t120 == 0)) = true := by simpa using c16)); clear c16; obtain rfl := Option.some.inj H; go_enter Tryz.func33, Tryz.ntmps33
             go_wp2_with (first | ((with_reducible refine gate_dst (N := 10) rfl ?_); (try (refine gate_guard (by rfl) ?_; dsimp only)); refine Kd.R_lit (Kd.int .i64) _ 3 ?hg (N := 10) ?hd (xs := ([1, 0] : List Int)) (inner := [.int .i64 1, .int .i64 0]) (ok := fun _ => True) (okp := fun _ => True) ?hr ?hp (fun _ hk => hk) trivial (Below.refl _ _) (Nat.le_refl _) (by simp) ?_; (case hd => rfl); (case hg => rfl); (case hr => first | (go_simp; done) | (go_simp; rfl)); (case hp => exact (Reps.one (show Kd.M (Kd.int .i64) _ _ _ 1 [.int .i64 1] from rfl) (Reps.one (show Kd.M (Kd.int .i64) _ _ _ 0 [.int .i64 0] from rfl) (Reps.none _ _)))); intro v102 w17 ho18 hb hg_ hnew_; clear hg_ hnew_; (first | rw [← Ny101.out] at ho18 | (simp only [Int.reduceToNat] at ho18; rw [← Ny101.out] at ho18)); have HO103 := Aside0.mk (Kd.R_lower ho18 (below_size qb)); replace HB := cB HB hb; clear hb ho18; obtain ⟨Ao19, co19, eo19⟩ := Kd.R_slice HO103.out; subst eo19) | ((with_reducible refine gate_dst (N := 11) rfl ?_); (try (refine gate_guard (by rfl) ?_; dsimp only)); refine Kd.N_lit (Kd.slice 3 (Kd.int .i64)) _ 38 ?hg (N' := 11) ?hd (xs := ([y101] : List (List Int))) (inner := [.slice Ao19 y101.length co19]) (ok := (fun _ => True)) (okp := (fun _ => True)) ?hr ?hp (fun _ hk => hk) ((show ∀ k_, w17.heap.size ≤ k_ → (fun _ => True) k_ from fun k_ hk => trivial) _ (Nat.le_refl _)) (Below.refl _ _) (Nat.le_refl _) (by simp) ?_; (case hd => rfl); (case hg => rfl); (case hr => first | (go_simp; done) | (go_simp; rfl)); (case hp => exact (Reps.one (show Kd.FK (Kd.slice 3 (Kd.int .i64)) _ _ y101 [.slice Ao19 y101.length co19] from (Kd.FK_slice_mk (Kd.R_reads' (Kd.R_mono (ok' := (fun _ => True)) (HO103.out) (fun k_ hk => trivial))).2.1 (Kd.R_F (Kd.R_mono (ok' := (fun _ => True)) (HO103.out) (fun k_ hk => trivial))))) (Reps.none _ _))); intro v105 w20 ho21 hb hg_ hnew_; clear hg_ hnew_; (first | rw [← Ny104.out] at ho21 | (simp only [Int.reduceToNat] at ho21; rw [← Ny104.out] at ho21)); have HO106 := Aside0.mk (Kd.N_lower ho21 (below_size qb)); replace HB := cB HB hb; clear HO103; clear hb ho21; obtain ⟨Ao22, co22, eo22⟩ := Kd.N_slice HO106.out; subst eo22) | ((with_reducible refine gate_callee (f := 40) rfl ?_); refine goesL_ (some 13) rfl rfl Tryz.func40 (by kernel_rfl) rfl #[.string (⟨#[116]⟩ : ByteArray), .agg #[.slice Ao22 y104.length co22]] rfl qm ?_; (with_reducible refine (tour_PrintTour.calls k (⟨#[116]⟩ : ByteArray) _ _ y104 t107 _ ?side1 ?side2 (Tabs.kept HT0.out qb) A1.out).mono ?_); (case side1 => repeat (first | exact (Kd.N_reads' HO106.out).2.2 | (with_reducible refine Kd.C_alloc ?_ _) | (with_reducible refine Kd.C_drewN ?_ _) | (with_reducible refine Kd.C_drew ?_))); (case side2 => exact (Kd.N_reads' HO106.out).2.1); rintro e w23 ⟨rfl, hb⟩; refine ⟨_, rfl, ?_⟩; replace HO106 := cN HO106 hb; replace HB := cB HB hb; (try clear hb); (try clear hb2); (try clear hk); (try clear hi)) | ((with_reducible refine gate_callee (f := 34) rfl ?_); refine goesL_ (some 16) rfl rfl Tryz.func34 (by kernel_rfl) rfl #[.string t107] rfl qm ?_; (with_reducible refine (tour_ParseTour.calls t107 t108 t111 t112 _ A2.out).mono ?_); rintro e w24 ⟨v109, rfl, ho0, hb⟩; refine ⟨_, rfl, ?_⟩; have n0_ := Aside0.mk (Kd.N_elder' (qN HO106.out) (Kd.S_base ho0) hb); have HO110 := Aside0.mk (Kd.N_lower (Kd.N_mono (ok' := fun k_ => some k_ ≠ (.slice Ao22 y104.length co22 : Value).ownBlock) (Kd.S_N (Kd.S_bound ho0)) (fun k_ hk_ => (Kd.fresh' (Kd.N_lt (qN HO106.out)) k_ hk_.2.1))) (below_size qb)); replace HB := cB HB hb; replace HO106 := n0_; clear n0_; (try clear hb); (try clear hb2); (try clear hk); (try clear hi); (try clear ho0)) | ((with_reducible refine gate_dst (N := 2) rfl ?_); (try (refine gate_guard (by rfl) ?_; dsimp only)); refine box_ev (N := 2) (cs := #[.slice none 0 0]) (t := 70) ?_; intro gb113 hg w25 hbox hb; have n0_ := Aside0.mk (Kd.N_below (Kd.N_elderB (qN HO106.out) gb113 (Nat.le_of_eq hg.symm)) hb); have n1_ := Aside0.mk (Kd.N_below (Kd.N_elderB (qN HO110.out) gb113 (Nat.le_of_eq hg.symm)) hb); have BK113 := Aside0.mk (hbox); have GW113 := Aside0.mk ((qg : w.heap.size ≤ gb113)); have GE113 := Aside0.mk ((qg : w.heap.size ≤ gb113)); replace HB := cB HB hb; replace HO106 := n0_; replace HO110 := n1_; clear n0_ n1_; clear hb hbox hg) | ((with_reducible refine gate_dst (N := 3) rfl ?_); (try (refine gate_guard (by rfl) ?_; dsimp only)); refine box_ev (N := 3) (cs := #[.int .i64 0, .int .i64 0]) (t := 41) ?_; intro gb114 hg w26 hbox hb; have n0_ := Aside0.mk (Kd.N_below (Kd.N_elderB (qN HO106.out) gb114 (Nat.le_of_eq hg.symm)) hb); have n1_ := Aside0.mk (Kd.N_below (Kd.N_elderB (qN HO110.out) gb114 (Nat.le_of_eq hg.symm)) hb); have BK114 := Aside0.mk (hbox); have GW114 := Aside0.mk ((qg : w.heap.size ≤ gb114)); have GE114 := Aside0.mk ((qg : w.heap.size ≤ gb114)); have NB113_114 := Aside0.mk ((by rw [hg]; exact Nat.ne_of_lt (blk_lt (g := gb113) (o := .cells #[.slice none 0 0] 70 (0, 0)) (qk BK113.out)) : gb113 ≠ gb114)); have NB114_113 := Aside0.mk ((by rw [hg]; exact Nat.ne_of_gt (blk_lt (g := gb113) (o := .cells #[.slice none 0 0] 70 (0, 0)) (qk BK113.out)) : gb114 ≠ gb113)); replace BK113 := cK BK113 hb; replace HB := cB HB hb; replace HO106 := n0_; replace HO110 := n1_; clear n0_ n1_; clear hb hbox hg; obtain ⟨Ao27, co27, eo27⟩ := Kd.N_slice HO110.out; subst eo27; have hnb28 := NB113_114.out; have hnc28 := NB114_113.out; have hcz29_0 : w26.cell? ⟨gb113, 0, none⟩ = some (.slice none 0 0) := (blk_cell BK113.out 0).trans rfl; have hfz29_0 := blk_frozen BK113.out 0; have hcz30_0 : w26.cell? ⟨gb114, 0, none⟩ = some (.int .i64 0) := (blk_cell BK114.out 0).trans rfl; have hcz30_1 : w26.cell? ⟨gb114, 1, none⟩ = some (.int .i64 0) := (blk_cell BK114.out 1).trans rfl; have hfz30_0 := blk_frozen BK114.out 0; have hfz30_1 := blk_frozen BK114.out 1) | ((with_reducible refine gate_callee (f := 36) rfl ?_); refine goesL_ (some 20) rfl rfl Tryz.func36 (by kernel_rfl) rfl #[.string (⟨#[82, 111, 117, 116, 101, 32, 35, 49, 58, 32, 51, 32, 49, 10, 82, 111, 117, 116, 101, 32, 50, 32, 58, 10, 67, 111, 115, 116, 32, 50, 48, 10]⟩ : ByteArray)] rfl qm ?_; (with_reducible refine (tour_ParseRoutes.calls (⟨#[82, 111, 117, 116, 101, 32, 35, 49, 58, 32, 51, 32, 49, 10, 82, 111, 117, 116, 101, 32, 50, 32, 58, 10, 67, 111, 115, 116, 32, 50, 48, 10]⟩ : ByteArray) t115 t118 t119 t120 _ (Tabs.kept HT0.out qb) A3.out).mono ?_); rintro e w31 ⟨v116, rfl, ho0, hb⟩; refine ⟨_, rfl, ?_⟩; have n0_ := Aside0.mk (Kd.N_elder' (by refine qN ?_; exact (Kd.N_mono (Kd.N_mono (Kd.N_far (p := ⟨gb114, 1, none⟩) (Kd.N_far (p := ⟨gb114, 0, none⟩) (Kd.N_far (p := ⟨gb113, 0, none⟩) (Kd.N_mono (Kd.N_mono HO106.out (fun k_ hk => (⟨hk, hk.1.2⟩ : _ ∧ k_ ≠ gb113))) (fun k_ hk => (⟨hk, hk.1.2⟩ : _ ∧ k_ ≠ gb114))) (fun _ hk => hk.1.2) (.slice Ao27 t108.length co27)) (fun _ hk => hk.2) (.int .i64 t111)) (fun _ hk => hk.2) (.int .i64 t112)) (fun _ h_ => by first | exact h_.1 | exact ⟨trivial, h_.1⟩)) (fun _ h_ => by first | exact h_.1 | exact ⟨trivial, h_.1⟩))) (Kd.S_base ho0) hb); have n1_ := Aside0.mk (Kd.N_elder' (by refine qN ?_; exact (Kd.N_mono (Kd.N_mono (Kd.N_far (p := ⟨gb114, 1, none⟩) (Kd.N_far (p := ⟨gb114, 0, none⟩) (Kd.N_far (p := ⟨gb113, 0, none⟩) (Kd.N_mono (Kd.N_mono HO110.out (fun k_ hk => (⟨hk, hk.1.2⟩ : _ ∧ k_ ≠ gb113))) (fun k_ hk => (⟨hk, hk.1.2⟩ : _ ∧ k_ ≠ gb114))) (fun _ hk => hk.1.2) (.slice Ao27 t108.length co27)) (fun _ hk => hk.2) (.int .i64 t111)) (fun _ hk => hk.2) (.int .i64 t112)) (fun _ h_ => by first | exact h_.1 | exact ⟨trivial, h_.1⟩)) (fun _ h_ => by first | exact h_.1 | exact ⟨trivial, h_.1⟩))) (Kd.S_base ho0) hb); have HO117 := Aside0.mk (Kd.N_lower (Kd.N_mono (ok' := fun k_ => some k_ ≠ (.slice Ao22 y104.length co22 : Value).ownBlock ∧ some k_ ≠ (.slice Ao27 t108.length co27 : Value).ownBlock ∧ k_ ≠ gb113 ∧ k_ ≠ gb114) (Kd.S_N (Kd.S_bound ho0)) (fun k_ hk_ => ⟨(Kd.fresh' (Kd.N_lt (by refine qN ?_; exact (Kd.N_mono (Kd.N_mono (Kd.N_far (p := ⟨gb114, 1, none⟩) (Kd.N_far (p := ⟨gb114, 0, none⟩) (Kd.N_far (p := ⟨gb113, 0, none⟩) (Kd.N_mono (Kd.N_mono HO106.out (fun k_ hk => (⟨hk, hk.1.2⟩ : _ ∧ k_ ≠ gb113))) (fun k_ hk => (⟨hk, hk.1.2⟩ : _ ∧ k_ ≠ gb114))) (fun _ hk => hk.1.2) (.slice Ao27 t108.length co27)) (fun _ hk => hk.2) (.int .i64 t111)) (fun _ hk => hk.2) (.int .i64 t112)) (fun _ h_ => by first | exact h_.1 | exact ⟨trivial, h_.1⟩)) (fun _ h_ => by first | exact h_.1 | exact ⟨trivial, h_.1⟩)))) k_ hk_.2.1), (Kd.fresh' (Kd.N_lt (by refine qN ?_; exact (Kd.N_mono (Kd.N_mono (Kd.N_far (p := ⟨gb114, 1, none⟩) (Kd.N_far (p := ⟨gb114, 0, none⟩) (Kd.N_far (p := ⟨gb113, 0, none⟩) (Kd.N_mono (Kd.N_mono HO110.out (fun k_ hk => (⟨hk, hk.1.2⟩ : _ ∧ k_ ≠ gb113))) (fun k_ hk => (⟨hk, hk.1.2⟩ : _ ∧ k_ ≠ gb114))) (fun _ hk => hk.1.2) (.slice Ao27 t108.length co27)) (fun _ hk => hk.2) (.int .i64 t111)) (fun _ hk => hk.2) (.int .i64 t112)) (fun _ h_ => by first | exact h_.1 | exact ⟨trivial, h_.1⟩)) (fun _ h_ => by first | exact h_.1 | exact ⟨trivial, h_.1⟩)))) k_ hk_.2.1), (Kd.freshB (g := gb113) (o := .cells #[.slice Ao27 t108.length co27] 70 (0, 0)) (by refine qk ?_; refine blk_far ?_ NB113_114.out _; refine qk ?_; refine blk_far ?_ NB113_114.out _; refine qk ?_; refine blk_put (cs := #[.slice none 0 0]) ?_ 0 _ rfl; refine qk ?_; exact BK113.out) k_ hk_.2.1), (Kd.freshB (g := gb114) (o := .cells #[.int .i64 t111, .int .i64 t112] 41 (0, 0)) (by refine qk ?_; refine blk_put (cs := #[.int .i64 t111, .int .i64 0]) ?_ 1 _ rfl; refine qk ?_; refine blk_put (cs := #[.int .i64 0, .int .i64 0]) ?_ 0 _ rfl; refine qk ?_; refine blk_far ?_ NB114_113.out _; refine qk ?_; exact BK114.out) k_ hk_.2.1)⟩)) (below_size qb)); have n3_ := Aside0.mk (blk_below (g := gb113) (o := .cells #[.slice Ao27 t108.length co27] 70 (0, 0)) (by refine qk ?_; refine blk_far ?_ NB113_114.out _; refine qk ?_; refine blk_far ?_ NB113_114.out _; refine qk ?_; refine blk_put (cs := #[.slice none 0 0]) ?_ 0 _ rfl; refine qk ?_; exact BK113.out) hb); have n4_ := Aside0.mk (blk_below (g := gb114) (o := .cells #[.int .i64 t111, .int .i64 t112] 41 (0, 0)) (by refine qk ?_; refine blk_put (cs := #[.int .i64 t111, .int .i64 0]) ?_ 1 _ rfl; refine qk ?_; refine blk_put (cs := #[.int .i64 0, .int .i64 0]) ?_ 0 _ rfl; refine qk ?_; refine blk_far ?_ NB114_113.out _; refine qk ?_; exact BK114.out) hb); replace HB := cB HB hb; replace HO106 := n0_; replace HO110 := n1_; replace BK113 := n3_; replace BK114 := n4_; clear n0_ n1_ n3_ n4_; (try clear hb); (try clear hb2); (try clear hk); (try clear hi); (try clear ho0)) | ((with_reducible refine gate_dst (N := 4) rfl ?_); (try (refine gate_guard (by rfl) ?_; dsimp only)); refine box_ev (N := 4) (cs := #[.slice none 0 0]) (t := 70) ?_; intro gb121 hg w32 hbox hb; have n0_ := Aside0.mk (Kd.N_below (Kd.N_elderB (qN HO106.out) gb121 (Nat.le_of_eq hg.symm)) hb); have n1_ := Aside0.mk (Kd.N_below (Kd.N_elderB (qN HO110.out) gb121 (Nat.le_of_eq hg.symm)) hb); have n2_ := Aside0.mk (Kd.N_below (Kd.N_elderB (qN HO117.out) gb121 (Nat.le_of_eq hg.symm)) hb); have BK121 := Aside0.mk (hbox); have GW121 := Aside0.mk ((qg : w.heap.size ≤ gb121)); have GE121 := Aside0.mk ((qg : w.heap.size ≤ gb121)); have NB113_121 := Aside0.mk ((by rw [hg]; exact Nat.ne_of_lt (blk_lt (g := gb113) (o := .cells #[.slice Ao27 t108.length co27] 70 (0, 0)) (qk BK113.out)) : gb113 ≠ gb121)); have NB121_113 := Aside0.mk ((by rw [hg]; exact Nat.ne_of_gt (blk_lt (g := gb113) (o := .cells #[.slice Ao27 t108.length co27] 70 (0, 0)) (qk BK113.out)) : gb121 ≠ gb113)); have NB114_121 := Aside0.mk ((by rw [hg]; exact Nat.ne_of_lt (blk_lt (g := gb114) (o := .cells #[.int .i64 t111, .int .i64 t112] 41 (0, 0)) (qk BK114.out)) : gb114 ≠ gb121)); have NB121_114 := Aside0.mk ((by rw [hg]; exact Nat.ne_of_gt (blk_lt (g := gb114) (o := .cells #[.int .i64 t111, .int .i64 t112] 41 (0, 0)) (qk BK114.out)) : gb121 ≠ gb114)); replace BK113 := cK BK113 hb; replace BK114 := cK BK114 hb; replace HB := cB HB hb; replace HO106 := n0_; replace HO110 := n1_; replace HO117 := n2_; clear n0_ n1_ n2_; clear hb hbox hg) | ((with_reducible refine gate_dst (N := 6) rfl ?_); (try (refine gate_guard (by rfl) ?_; dsimp only)); refine box_ev (N := 6) (cs := #[.int .i64 0, .int .i64 0]) (t := 41) ?_; intro gb122 hg w33 hbox hb; have n0_ := Aside0.mk (Kd.N_below (Kd.N_elderB (qN HO106.out) gb122 (Nat.le_of_eq hg.symm)) hb); have n1_ := Aside0.mk (Kd.N_below (Kd.N_elderB (qN HO110.out) gb122 (Nat.le_of_eq hg.symm)) hb); have n2_ := Aside0.mk (Kd.N_below (Kd.N_elderB (qN HO117.out) gb122 (Nat.le_of_eq hg.symm)) hb); have BK122 := Aside0.mk (hbox); have GW122 := Aside0.mk ((qg : w.heap.size ≤ gb122)); have GE122 := Aside0.mk ((qg : w.heap.size ≤ gb122)); have NB113_122 := Aside0.mk ((by rw [hg]; exact Nat.ne_of_lt (blk_lt (g := gb113) (o := .cells #[.slice Ao27 t108.length co27] 70 (0, 0)) (qk BK113.out)) : gb113 ≠ gb122)); have NB122_113 := Aside0.mk ((by rw [hg]; exact Nat.ne_of_gt (blk_lt (g := gb113) (o := .cells #[.slice Ao27 t108.length co27] 70 (0, 0)) (qk BK113.out)) : gb122 ≠ gb113)); have NB114_122 := Aside0.mk ((by rw [hg]; exact Nat.ne_of_lt (blk_lt (g := gb114) (o := .cells #[.int .i64 t111, .int .i64 t112] 41 (0, 0)) (qk BK114.out)) : gb114 ≠ gb122)); have NB122_114 := Aside0.mk ((by rw [hg]; exact Nat.ne_of_gt (blk_lt (g := gb114) (o := .cells #[.int .i64 t111, .int .i64 t112] 41 (0, 0)) (qk BK114.out)) : gb122 ≠ gb114)); have NB121_122 := Aside0.mk ((by rw [hg]; exact Nat.ne_of_lt (blk_lt (g := gb121) (o := .cells #[.slice none 0 0] 70 (0, 0)) (qk BK121.out)) : gb121 ≠ gb122)); have NB122_121 := Aside0.mk ((by rw [hg]; exact Nat.ne_of_gt (blk_lt (g := gb121) (o := .cells #[.slice none 0 0] 70 (0, 0)) (qk BK121.out)) : gb122 ≠ gb121)); replace BK113 := cK BK113 hb; replace BK114 := cK BK114 hb; replace BK121 := cK BK121 hb; replace HB := cB HB hb; replace HO106 := n0_; replace HO110 := n1_; replace HO117 := n2_; clear n0_ n1_ n2_; clear hb hbox hg; obtain ⟨Ao34, co34, eo34⟩ := Kd.N_slice HO117.out; subst eo34; have hnb35 := NB121_113.out; have hnc35 := NB113_121.out; have hnb36 := NB121_114.out; have hnc36 := NB114_121.out; have hnb37 := NB121_122.out; have hnc37 := NB122_121.out; have hcz38_0 : w33.cell? ⟨gb121, 0, none⟩ = some (.slice none 0 0) := (blk_cell BK121.out 0).trans rfl; have hfz38_0 := blk_frozen BK121.out 0; have hnb39 := NB122_113.out; have hnc39 := NB113_122.out; have hnb40 := NB122_114.out; have hnc40 := NB114_122.out; have hcz41_0 : w33.cell? ⟨gb122, 0, none⟩ = some (.int .i64 0) := (blk_cell BK122.out 0).trans rfl; have hcz41_1 : w33.cell? ⟨gb122, 1, none⟩ = some (.int .i64 0) := (blk_cell BK122.out 1).trans rfl; have hfz41_0 := blk_frozen BK122.out 0; have hfz41_1 := blk_frozen BK122.out 1) | ((with_reducible refine gate_callee (f := 36) rfl ?_); refine goesL_ (some 25) rfl rfl Tryz.func36 (by kernel_rfl) rfl #[.string (⟨#[82, 111, 117, 116, 101, 32, 35, 50, 58, 32, 51, 10]⟩ : ByteArray)] rfl qm ?_; (with_reducible refine (tour_ParseRoutes.calls (⟨#[82, 111, 117, 116, 101, 32, 35, 50, 58, 32, 51, 10]⟩ : ByteArray) t123 t126 t127 t128 _ (Tabs.kept HT0.out qb) A4.out).mono ?_); rintro e w42 ⟨v124, rfl, ho0, hb⟩; refine ⟨_, rfl, ?_⟩; have n0_ := Aside0.mk (Kd.N_elder' (by refine qN ?_; exact (Kd.N_mono (Kd.N_mono (Kd.N_far (p := ⟨gb122, 1, none⟩) (Kd.N_far (p := ⟨gb122, 0, none⟩) (Kd.N_far (p := ⟨gb121, 0, none⟩) (Kd.N_mono (Kd.N_mono HO106.out (fun k_ hk => (⟨hk, hk.1.2⟩ : _ ∧ k_ ≠ gb121))) (fun k_ hk => (⟨hk, hk.1.2⟩ : _ ∧ k_ ≠ gb122))) (fun _ hk => hk.1.2) (.slice Ao34 t115.length co34)) (fun _ hk => hk.2) (.int .i64 t119)) (fun _ hk => hk.2) (.int .i64 t120)) (fun _ h_ => by first | exact h_.1 | exact ⟨trivial, h_.1⟩)) (fun _ h_ => by first | exact h_.1 | exact ⟨trivial, h_.1⟩))) (Kd.S_base ho0) hb); have n1_ := Aside0.mk (Kd.N_elder' (by refine qN ?_; exact (Kd.N_mono (Kd.N_mono (Kd.N_far (p := ⟨gb122, 1, none⟩) (Kd.N_far (p := ⟨gb122, 0, none⟩) (Kd.N_far (p := ⟨gb121, 0, none⟩) (Kd.N_mono (Kd.N_mono HO110.out (fun k_ hk => (⟨hk, hk.1.2⟩ : _ ∧ k_ ≠ gb121))) (fun k_ hk => (⟨hk, hk.1.2⟩ : _ ∧ k_ ≠ gb122))) (fun _ hk => hk.1.2) (.slice Ao34 t115.length co34)) (fun _ hk => hk.2) (.int .i64 t119)) (fun _ hk => hk.2) (.int .i64 t120)) (fun _ h_ => by first | exact h_.1 | exact ⟨trivial, h_.1⟩)) (fun _ h_ => by first | exact h_.1 | exact ⟨trivial, h_.1⟩))) (Kd.S_base ho0) hb); have n2_ := Aside0.mk (Kd.N_elder' (by refine qN ?_; exact (Kd.N_mono (Kd.N_mono (Kd.N_far (p := ⟨gb122, 1, none⟩) (Kd.N_far (p := ⟨gb122, 0, none⟩) (Kd.N_far (p := ⟨gb121, 0, none⟩) (Kd.N_mono (Kd.N_mono HO117.out (fun k_ hk => (⟨hk, hk.1.2⟩ : _ ∧ k_ ≠ gb121))) (fun k_ hk => (⟨hk, hk.1.2⟩ : _ ∧ k_ ≠ gb122))) (fun _ hk => hk.1.2) (.slice Ao34 t115.length co34)) (fun _ hk => hk.2) (.int .i64 t119)) (fun _ hk => hk.2) (.int .i64 t120)) (fun _ h_ => by first | exact h_.1 | exact ⟨trivial, h_.1⟩)) (fun _ h_ => by first | exact h_.1 | exact ⟨trivial, h_.1⟩))) (Kd.S_base ho0) hb); have HO125 := Aside0.mk (Kd.N_lower (Kd.N_mono (ok' := fun k_ => some k_ ≠ (.slice Ao22 y104.length co22 : Value).ownBlock ∧ some k_ ≠ (.slice Ao27 t108.length co27 : Value).ownBlock ∧ some k_ ≠ (.slice Ao34 t115.length co34 : Value).ownBlock ∧ k_ ≠ gb113 ∧ k_ ≠ gb114 ∧ k_ ≠ gb121 ∧ k_ ≠ gb122) (Kd.S_N (Kd.S_bound ho0)) (fun k_ hk_ => ⟨(Kd.fresh' (Kd.N_lt (by refine qN ?_; exact (Kd.N_mono (Kd.N_mono (Kd.N_far (p := ⟨gb122, 1, none⟩) (Kd.N_far (p := ⟨gb122, 0, none⟩) (Kd.N_far (p := ⟨gb121, 0, none⟩) (Kd.N_mono (Kd.N_mono HO106.out (fun k_ hk => (⟨hk, hk.1.2⟩ : _ ∧ k_ ≠ gb121))) (fun k_ hk => (⟨hk, hk.1.2⟩ : _ ∧ k_ ≠ gb122))) (fun _ hk => hk.1.2) (.slice Ao34 t115.length co34)) (fun _ hk => hk.2) (.int .i64 t119)) (fun _ hk => hk.2) (.int .i64 t120)) (fun _ h_ => by first | exact h_.1 | exact ⟨trivial, h_.1⟩)) (fun _ h_ => by first | exact h_.1 | exact ⟨trivial, h_.1⟩)))) k_ hk_.2.1), (Kd.fresh' (Kd.N_lt (by refine qN ?_; exact (Kd.N_mono (Kd.N_mono (Kd.N_far (p := ⟨gb122, 1, none⟩) (Kd.N_far (p := ⟨gb122, 0, none⟩) (Kd.N_far (p := ⟨gb121, 0, none⟩) (Kd.N_mono (Kd.N_mono HO110.out (fun k_ hk => (⟨hk, hk.1.2⟩ : _ ∧ k_ ≠ gb121))) (fun k_ hk => (⟨hk, hk.1.2⟩ : _ ∧ k_ ≠ gb122))) (fun _ hk => hk.1.2) (.slice Ao34 t115.length co34)) (fun _ hk => hk.2) (.int .i64 t119)) (fun _ hk => hk.2) (.int .i64 t120)) (fun _ h_ => by first | exact h_.1 | exact ⟨trivial, h_.1⟩)) (fun _ h_ => by first | exact h_.1 | exact ⟨trivial, h_.1⟩)))) k_ hk_.2.1), (Kd.fresh' (Kd.N_lt (by refine qN ?_; exact (Kd.N_mono (Kd.N_mono (Kd.N_far (p := ⟨gb122, 1, none⟩) (Kd.N_far (p := ⟨gb122, 0, none⟩) (Kd.N_far (p := ⟨gb121, 0, none⟩) (Kd.N_mono (Kd.N_mono HO117.out (fun k_ hk => (⟨hk, hk.1.2⟩ : _ ∧ k_ ≠ gb121))) (fun k_ hk => (⟨hk, hk.1.2⟩ : _ ∧ k_ ≠ gb122))) (fun _ hk => hk.1.2) (.slice Ao34 t115.length co34)) (fun _ hk => hk.2) (.int .i64 t119)) (fun _ hk => hk.2) (.int .i64 t120)) (fun _ h_ => by first | exact h_.1 | exact ⟨trivial, h_.1⟩)) (fun _ h_ => by first | exact h_.1 | exact ⟨trivial, h_.1⟩)))) k_ hk_.2.1), (Kd.freshB (g := gb113) (o := .cells #[.slice Ao27 t108.length co27] 70 (0, 0)) (by refine qk ?_; refine blk_far ?_ NB113_122.out _; refine qk ?_; refine blk_far ?_ NB113_122.out _; refine qk ?_; refine blk_far ?_ NB113_121.out _; refine qk ?_; exact BK113.out) k_ hk_.2.1), (Kd.freshB (g := gb114) (o := .cells #[.int .i64 t111, .int .i64 t112] 41 (0, 0)) (by refine qk ?_; refine blk_far ?_ NB114_122.out _; refine qk ?_; refine blk_far ?_ NB114_122.out _; refine qk ?_; refine blk_far ?_ NB114_121.out _; refine qk ?_; exact BK114.out) k_ hk_.2.1), (Kd.freshB (g := gb121) (o := .cells #[.slice Ao34 t115.length co34] 70 (0, 0)) (by refine qk ?_; refine blk_far ?_ NB121_122.out _; refine qk ?_; refine blk_far ?_ NB121_122.out _; refine qk ?_; refine blk_put (cs := #[.slice none 0 0]) ?_ 0 _ rfl; refine qk ?_; exact BK121.out) k_ hk_.2.1), (Kd.freshB (g := gb122) (o := .cells #[.int .i64 t119, .int .i64 t120] 41 (0, 0)) (by refine qk ?_; refine blk_put (cs := #[.int .i64 t119, .int .i64 0]) ?_ 1 _ rfl; refine qk ?_; refine blk_put (cs := #[.int .i64 0, .int .i64 0]) ?_ 0 _ rfl; refine qk ?_; refine blk_far ?_ NB122_121.out _; refine qk ?_; exact BK122.out) k_ hk_.2.1)⟩)) (below_size qb)); have n4_ := Aside0.mk (blk_below (g := gb113) (o := .cells #[.slice Ao27 t108.length co27] 70 (0, 0)) (by refine qk ?_; refine blk_far ?_ NB113_122.out _; refine qk ?_; refine blk_far ?_ NB113_122.out _; refine qk ?_; refine blk_far ?_ NB113_121.out _; refine qk ?_; exact BK113.out) hb); have n5_ := Aside0.mk (blk_below (g := gb114) (o := .cells #[.int .i64 t111, .int .i64 t112] 41 (0, 0)) (by refine qk ?_; refine blk_far ?_ NB114_122.out _; refine qk ?_; refine blk_far ?_ NB114_122.out _; refine qk ?_; refine blk_far ?_ NB114_121.out _; refine qk ?_; exact BK114.out) hb); have n6_ := Aside0.mk (blk_below (g := gb121) (o := .cells #[.slice Ao34 t115.length co34] 70 (0, 0)) (by refine qk ?_; refine blk_far ?_ NB121_122.out _; refine qk ?_; refine blk_far ?_ NB121_122.out _; refine qk ?_; refine blk_put (cs := #[.slice none 0 0]) ?_ 0 _ rfl; refine qk ?_; exact BK121.out) hb); have n7_ := Aside0.mk (blk_below (g := gb122) (o := .cells #[.int .i64 t119, .int .i64 t120] 41 (0, 0)) (by refine qk ?_; refine blk_put (cs := #[.int .i64 t119, .int .i64 0]) ?_ 1 _ rfl; refine qk ?_; refine blk_put (cs := #[.int .i64 0, .int .i64 0]) ?_ 0 _ rfl; refine qk ?_; refine blk_far ?_ NB122_121.out _; refine qk ?_; exact BK122.out) hb); replace HB := cB HB hb; replace HO106 := n0_; replace HO110 := n1_; replace HO117 := n2_; replace BK113 := n4_; replace BK114 := n5_; replace BK121 := n6_; replace BK122 := n7_; clear n0_ n1_ n2_ n4_ n5_ n6_ n7_; (try clear hb); (try clear hb2); (try clear hk); (try clear hi); (try clear ho0)) | ((with_reducible refine gate_dst (N := 7) rfl ?_); (try (refine gate_guard (by rfl) ?_; dsimp only)); refine box_ev (N := 7) (cs := #[.slice none 0 0]) (t := 70) ?_; intro gb129 hg w43 hbox hb; have n0_ := Aside0.mk (Kd.N_below (Kd.N_elderB (qN HO106.out) gb129 (Nat.le_of_eq hg.symm)) hb); have n1_ := Aside0.mk (Kd.N_below (Kd.N_elderB (qN HO110.out) gb129 (Nat.le_of_eq hg.symm)) hb); have n2_ := Aside0.mk (Kd.N_below (Kd.N_elderB (qN HO117.out) gb129 (Nat.le_of_eq hg.symm)) hb); have n3_ := Aside0.mk (Kd.N_below (Kd.N_elderB (qN HO125.out) gb129 (Nat.le_of_eq hg.symm)) hb); have BK129 := Aside0.mk (hbox); have GW129 := Aside0.mk ((qg : w.heap.size ≤ gb129)); have GE129 := Aside0.mk ((qg : w.heap.size ≤ gb129)); have NB113_129 := Aside0.mk ((by rw [hg]; exact Nat.ne_of_lt (blk_lt (g := gb113) (o := .cells #[.slice Ao27 t108.length co27] 70 (0, 0)) (qk BK113.out)) : gb113 ≠ gb129)); have NB129_113 := Aside0.mk ((by rw [hg]; exact Nat.ne_of_gt (blk_lt (g := gb113) (o := .cells #[.slice Ao27 t108.length co27] 70 (0, 0)) (qk BK113.out)) : gb129 ≠ gb113)); have NB114_129 := Aside0.mk ((by rw [hg]; exact Nat.ne_of_lt (blk_lt (g := gb114) (o := .cells #[.int .i64 t111, .int .i64 t112] 41 (0, 0)) (qk BK114.out)) : gb114 ≠ gb129)); have NB129_114 := Aside0.mk ((by rw [hg]; exact Nat.ne_of_gt (blk_lt (g := gb114) (o := .cells #[.int .i64 t111, .int .i64 t112] 41 (0, 0)) (qk BK114.out)) : gb129 ≠ gb114)); have NB121_129 := Aside0.mk ((by rw [hg]; exact Nat.ne_of_lt (blk_lt (g := gb121) (o := .cells #[.slice Ao34 t115.length co34] 70 (0, 0)) (qk BK121.out)) : gb121 ≠ gb129)); have NB129_121 := Aside0.mk ((by rw [hg]; exact Nat.ne_of_gt (blk_lt (g := gb121) (o := .cells #[.slice Ao34 t115.length co34] 70 (0, 0)) (qk BK121.out)) : gb129 ≠ gb121)); have NB122_129 := Aside0.mk ((by rw [hg]; exact Nat.ne_of_lt (blk_lt (g := gb122) (o := .cells #[.int .i64 t119, .int .i64 t120] 41 (0, 0)) (qk BK122.out)) : gb122 ≠ gb129)); have NB129_122 := Aside0.mk ((by rw [hg]; exact Nat.ne_of_gt (blk_lt (g := gb122) (o := .cells #[.int .i64 t119, .int .i64 t120] 41 (0, 0)) (qk BK122.out)) : gb129 ≠ gb122)); replace BK113 := cK BK113 hb; replace BK114 := cK BK114 hb; replace BK121 := cK BK121 hb; replace BK122 := cK BK122 hb; replace HB := cB HB hb; replace HO106 := n0_; replace HO110 := n1_; replace HO117 := n2_; replace HO125 := n3_; clear n0_ n1_ n2_ n3_; clear hb hbox hg) | ((with_reducible refine gate_dst (N := 9) rfl ?_); (try (refine gate_guard (by rfl) ?_; dsimp only)); refine box_ev (N := 9) (cs := #[.int .i64 0, .int .i64 0]) (t := 41) ?_; intro gb130 hg w44 hbox hb; have n0_ := Aside0.mk (Kd.N_below (Kd.N_elderB (qN HO106.out) gb130 (Nat.le_of_eq hg.symm)) hb); have n1_ := Aside0.mk (Kd.N_below (Kd.N_elderB (qN HO110.out) gb130 (Nat.le_of_eq hg.symm)) hb); have n2_ := Aside0.mk (Kd.N_below (Kd.N_elderB (qN HO117.out) gb130 (Nat.le_of_eq hg.symm)) hb); have n3_ := Aside0.mk (Kd.N_below (Kd.N_elderB (qN HO125.out) gb130 (Nat.le_of_eq hg.symm)) hb); have BK130 := Aside0.mk (hbox); have GW130 := Aside0.mk ((qg : w.heap.size ≤ gb130)); have GE130 := Aside0.mk ((qg : w.heap.size ≤ gb130)); have NB113_130 := Aside0.mk ((by rw [hg]; exact Nat.ne_of_lt (blk_lt (g := gb113) (o := .cells #[.slice Ao27 t108.length co27] 70 (0, 0)) (qk BK113.out)) : gb113 ≠ gb130)); have NB130_113 := Aside0.mk ((by rw [hg]; exact Nat.ne_of_gt (blk_lt (g := gb113) (o := .cells #[.slice Ao27 t108.length co27] 70 (0, 0)) (qk BK113.out)) : gb130 ≠ gb113)); have NB114_130 := Aside0.mk ((by rw [hg]; exact Nat.ne_of_lt (blk_lt (g := gb114) (o := .cells #[.int .i64 t111, .int .i64 t112] 41 (0, 0)) (qk BK114.out)) : gb114 ≠ gb130)); have NB130_114 := Aside0.mk ((by rw [hg]; exact Nat.ne_of_gt (blk_lt (g := gb114) (o := .cells #[.int .i64 t111, .int .i64 t112] 41 (0, 0)) (qk BK114.out)) : gb130 ≠ gb114)); have NB121_130 := Aside0.mk ((by rw [hg]; exact Nat.ne_of_lt (blk_lt (g := gb121) (o := .cells #[.slice Ao34 t115.length co34] 70 (0, 0)) (qk BK121.out)) : gb121 ≠ gb130)); have NB130_121 := Aside0.mk ((by rw [hg]; exact Nat.ne_of_gt (blk_lt (g := gb121) (o := .cells #[.slice Ao34 t115.length co34] 70 (0, 0)) (qk BK121.out)) : gb130 ≠ gb121)); have NB122_130 := Aside0.mk ((by rw [hg]; exact Nat.ne_of_lt (blk_lt (g := gb122) (o := .cells #[.int .i64 t119, .int .i64 t120] 41 (0, 0)) (qk BK122.out)) : gb122 ≠ gb130)); have NB130_122 := Aside0.mk ((by rw [hg]; exact Nat.ne_of_gt (blk_lt (g := gb122) (o := .cells #[.int .i64 t119, .int .i64 t120] 41 (0, 0)) (qk BK122.out)) : gb130 ≠ gb122)); have NB129_130 := Aside0.mk ((by rw [hg]; exact Nat.ne_of_lt (blk_lt (g := gb129) (o := .cells #[.slice none 0 0] 70 (0, 0)) (qk BK129.out)) : gb129 ≠ gb130)); have NB130_129 := Aside0.mk ((by rw [hg]; exact Nat.ne_of_gt (blk_lt (g := gb129) (o := .cells #[.slice none 0 0] 70 (0, 0)) (qk BK129.out)) : gb130 ≠ gb129)); replace BK113 := cK BK113 hb; replace BK114 := cK BK114 hb; replace BK121 := cK BK121 hb; replace BK122 := cK BK122 hb; replace BK129 := cK BK129 hb; replace HB := cB HB hb; replace HO106 := n0_; replace HO110 := n1_; replace HO117 := n2_; replace HO125 := n3_; clear n0_ n1_ n2_ n3_; clear hb hbox hg; obtain ⟨Ao45, co45, eo45⟩ := Kd.N_slice HO125.out; subst eo45; have hnb46 := NB129_113.out; have hnc46 := NB113_129.out; have hnb47 := NB129_114.out; have hnc47 := NB114_129.out; have hnb48 := NB129_121.out; have hnc48 := NB121_129.out; have hnb49 := NB129_122.out; have hnc49 := NB122_129.out; have hnb50 := NB129_130.out; have hnc50 := NB130_129.out; have hcz51_0 : w44.cell? ⟨gb129, 0, none⟩ = some (.slice none 0 0) := (blk_cell BK129.out 0).trans rfl; have hfz51_0 := blk_frozen BK129.out 0) | ((with_reducible refine gate_store (t := 70) (p := 7) rfl ?_); refine store_ev (t := 70) (p := 7) (w1 := (w44.setCell ⟨gb129, 0, none⟩ (.slice Ao45 t123.length co45))) ?_; intro w52 hw; have n0_ : Aside0 (Kd.N (Kd.slice 3 (Kd.int .i64)) 38 w52 w.heap.size (fun k_ => some k_ ≠ (.slice Ao27 t108.length co27 : Value).ownBlock ∧ some k_ ≠ (.slice Ao34 t115.length co34 : Value).ownBlock ∧ some k_ ≠ (.slice Ao45 t123.length co45 : Value).ownBlock ∧ k_ ≠ gb113 ∧ k_ ≠ gb114 ∧ k_ ≠ gb121 ∧ k_ ≠ gb122 ∧ k_ ≠ gb129 ∧ k_ ≠ gb130) (.slice Ao22 y104.length co22) y104) := ⟨(by rw [hw]; exact (by refine qN ?_; exact Kd.N_mono (Kd.N_far (p := ⟨gb129, 0, none⟩) (Kd.N_mono HO106.out (fun k_ hk => (⟨hk, hk.1.2⟩ : _ ∧ k_ ≠ gb129))) (fun _ hk => hk.2) (.slice Ao45 t123.length co45)) (fun _ hk => ⟨hk.1.1.1.1.1.1.1.1.1.2, ⟨hk.1.1.1.1.1.1.2, ⟨hk.1.1.1.2, ⟨hk.1.1.1.1.1.1.1.1.2, ⟨hk.1.1.1.1.1.1.1.2, ⟨hk.1.1.1.1.1.2, ⟨hk.1.1.1.1.2, ⟨hk.1.1.2, hk.1.2⟩⟩⟩⟩⟩⟩⟩⟩)))⟩; have n1_ : Aside0 (Kd.N (Kd.slice 3 (Kd.int .i64)) 38 w52 w.heap.size (fun k_ => some k_ ≠ (.slice Ao22 y104.length co22 : Value).ownBlock ∧ some k_ ≠ (.slice Ao34 t115.length co34 : Value).ownBlock ∧ some k_ ≠ (.slice Ao45 t123.length co45 : Value).ownBlock ∧ k_ ≠ gb113 ∧ k_ ≠ gb114 ∧ k_ ≠ gb121 ∧ k_ ≠ gb122 ∧ k_ ≠ gb129 ∧ k_ ≠ gb130) (.slice Ao27 t108.length co27) t108) := ⟨(by rw [hw]; exact (by refine qN ?_; exact Kd.N_mono (Kd.N_far (p := ⟨gb129, 0, none⟩) (Kd.N_mono HO110.out (fun k_ hk => (⟨hk, hk.1.2⟩ : _ ∧ k_ ≠ gb129))) (fun _ hk => hk.2) (.slice Ao45 t123.length co45)) (fun _ hk => ⟨hk.1.1.1.1.1.1.1.1.1, ⟨hk.1.1.1.1.1.1.2, ⟨hk.1.1.1.2, ⟨hk.1.1.1.1.1.1.1.1.2, ⟨hk.1.1.1.1.1.1.1.2, ⟨hk.1.1.1.1.1.2, ⟨hk.1.1.1.1.2, ⟨hk.1.1.2, hk.1.2⟩⟩⟩⟩⟩⟩⟩⟩)))⟩; have n2_ : Aside0 (Kd.N (Kd.slice 3 (Kd.int .i64)) 38 w52 w.heap.size (fun k_ => some k_ ≠ (.slice Ao22 y104.length co22 : Value).ownBlock ∧ some k_ ≠ (.slice Ao27 t108.length co27 : Value).ownBlock ∧ some k_ ≠ (.slice Ao45 t123.length co45 : Value).ownBlock ∧ k_ ≠ gb113 ∧ k_ ≠ gb114 ∧ k_ ≠ gb121 ∧ k_ ≠ gb122 ∧ k_ ≠ gb129 ∧ k_ ≠ gb130) (.slice Ao34 t115.length co34) t115) := ⟨(by rw [hw]; exact (by refine qN ?_; exact Kd.N_mono (Kd.N_far (p := ⟨gb129, 0, none⟩) (Kd.N_mono HO117.out (fun k_ hk => (⟨hk, hk.1.2⟩ : _ ∧ k_ ≠ gb129))) (fun _ hk => hk.2) (.slice Ao45 t123.length co45)) (fun _ hk => ⟨hk.1.1.1.1.1.1.1, ⟨hk.1.1.1.1.1.1.2.1, ⟨hk.1.1.1.2, ⟨hk.1.1.1.1.1.1.2.2.1, ⟨hk.1.1.1.1.1.1.2.2.2, ⟨hk.1.1.1.1.1.2, ⟨hk.1.1.1.1.2, ⟨hk.1.1.2, hk.1.2⟩⟩⟩⟩⟩⟩⟩⟩)))⟩; have n3_ : Aside0 (Kd.N (Kd.slice 3 (Kd.int .i64)) 38 w52 w.heap.size (fun k_ => some k_ ≠ (.slice Ao22 y104.length co22 : Value).ownBlock ∧ some k_ ≠ (.slice Ao27 t108.length co27 : Value).ownBlock ∧ some k_ ≠ (.slice Ao34 t115.length co34 : Value).ownBlock ∧ k_ ≠ gb113 ∧ k_ ≠ gb114 ∧ k_ ≠ gb121 ∧ k_ ≠ gb122 ∧ k_ ≠ gb129 ∧ k_ ≠ gb130) (.slice Ao45 t123.length co45) t123) := ⟨(by rw [hw]; exact (by refine qN ?_; exact Kd.N_mono (Kd.N_far (p := ⟨gb129, 0, none⟩) (Kd.N_mono HO125.out (fun k_ hk => (⟨hk, hk.1.2⟩ : _ ∧ k_ ≠ gb129))) (fun _ hk => hk.2) (.slice Ao45 t123.length co45)) (fun _ hk => ⟨hk.1.1.1.1, ⟨hk.1.1.1.2.1, ⟨hk.1.1.1.2.2.1, ⟨hk.1.1.1.2.2.2.1, ⟨hk.1.1.1.2.2.2.2.1, ⟨hk.1.1.1.2.2.2.2.2.1, ⟨hk.1.1.1.2.2.2.2.2.2, ⟨hk.1.1.2, hk.1.2⟩⟩⟩⟩⟩⟩⟩⟩)))⟩; have n4_ : Aside0 (w52.heap[gb113]? = some (.cells #[.slice Ao27 t108.length co27] 70 (0, 0))) := ⟨(by rw [hw]; exact (by refine qk ?_; refine blk_far ?_ NB113_129.out _; refine qk ?_; exact BK113.out))⟩; have n5_ : Aside0 (w52.heap[gb114]? = some (.cells #[.int .i64 t111, .int .i64 t112] 41 (0, 0))) := ⟨(by rw [hw]; exact (by refine qk ?_; refine blk_far ?_ NB114_129.out _; refine qk ?_; exact BK114.out))⟩; have n6_ : Aside0 (w52.heap[gb121]? = some (.cells #[.slice Ao34 t115.length co34] 70 (0, 0))) := ⟨(by rw [hw]; exact (by refine qk ?_; refine blk_far ?_ NB121_129.out _; refine qk ?_; exact BK121.out))⟩; have n7_ : Aside0 (w52.heap[gb122]? = some (.cells #[.int .i64 t119, .int .i64 t120] 41 (0, 0))) := ⟨(by rw [hw]; exact (by refine qk ?_; refine blk_far ?_ NB122_129.out _; refine qk ?_; exact BK122.out))⟩; have n8_ : Aside0 (w52.heap[gb129]? = some (.cells #[.slice Ao45 t123.length co45] 70 (0, 0))) := ⟨(by rw [hw]; exact (by refine qk ?_; refine blk_put (cs := #[.slice none 0 0]) ?_ 0 _ rfl; refine qk ?_; exact BK129.out))⟩; have n9_ : Aside0 (w52.heap[gb130]? = some (.cells #[.int .i64 0, .int .i64 0] 41 (0, 0))) := ⟨(by rw [hw]; exact (by refine qk ?_; refine blk_far ?_ NB130_129.out _; refine qk ?_; exact BK130.out))⟩; have n10_ : Aside0 (Below w.heap.size w w52) := ⟨(by rw [hw]; exact qb)⟩; clear hw; clear HO106; clear HO110; clear HO117; clear HO125; clear BK113; clear BK114; clear BK121; clear BK122; clear BK129; clear BK130; clear HB; have HO106 := n0_; have HO110 := n1_; have HO117 := n2_; have HO125 := n3_; have BK113 := n4_; have BK114 := n5_; have BK121 := n6_; have BK122 := n7_; have BK129 := n8_; have BK130 := n9_; have HB := n10_; clear n0_ n1_ n2_ n3_ n4_ n5_ n6_ n7_ n8_ n9_ n10_; have hnb53 := NB130_113.out; have hnc53 := NB113_130.out; have hnb54 := NB130_114.out; have hnc54 := NB114_130.out; have hnb55 := NB130_121.out; have hnc55 := NB121_130.out; have hnb56 := NB130_122.out; have hnc56 := NB122_130.out; have hcz57_0 : w52.cell? ⟨gb130, 0, none⟩ = some (.int .i64 0) := (blk_cell BK130.out 0).trans rfl; have hcz57_1 : w52.cell? ⟨gb130, 1, none⟩ = some (.int .i64 0) := (blk_cell BK130.out 1).trans rfl; have hfz57_0 := blk_frozen BK130.out 0; have hfz57_1 := blk_frozen BK130.out 1) | ((with_reducible refine gate_store (t := 41) (p := 9) rfl ?_); refine store_ev (t := 41) (p := 9) (w1 := ((w52.setCell ⟨gb130, 0, none⟩ (.int .i64 t127)).setCell ⟨gb130, 1, none⟩ (.int .i64 t128))) ?_; intro w58 hw; have n0_ : Aside0 (Kd.N (Kd.slice 3 (Kd.int .i64)) 38 w58 w.heap.size (fun k_ => some k_ ≠ (.slice Ao27 t108.length co27 : Value).ownBlock ∧ some k_ ≠ (.slice Ao34 t115.length co34 : Value).ownBlock ∧ some k_ ≠ (.slice Ao45 t123.length co45 : Value).ownBlock ∧ k_ ≠ gb113 ∧ k_ ≠ gb114 ∧ k_ ≠ gb121 ∧ k_ ≠ gb122 ∧ k_ ≠ gb129 ∧ k_ ≠ gb130) (.slice Ao22 y104.length co22) y104) := ⟨(by rw [hw]; exact (by refine qN ?_; exact Kd.N_mono (Kd.N_far (p := ⟨gb130, 1, none⟩) (Kd.N_far (p := ⟨gb130, 0, none⟩) (Kd.N_mono HO106.out (fun k_ hk => (⟨hk, hk.2.2.2.2.2.2.2.2⟩ : _ ∧ k_ ≠ gb130))) (fun _ hk => hk.2) (.int .i64 t127)) (fun _ hk => hk.2) (.int .i64 t128)) (fun _ hk => ⟨hk.1.1, ⟨hk.1.2.1, ⟨hk.1.2.2.1, ⟨hk.1.2.2.2.1, ⟨hk.1.2.2.2.2.1, ⟨hk.1.2.2.2.2.2.1, ⟨hk.1.2.2.2.2.2.2.1, ⟨hk.1.2.2.2.2.2.2.2.1, hk.1.2.2.2.2.2.2.2.2⟩⟩⟩⟩⟩⟩⟩⟩)))⟩; have n1_ : Aside0 (Kd.N (Kd.slice 3 (Kd.int .i64)) 38 w58 w.heap.size (fun k_ => some k_ ≠ (.slice Ao22 y104.length co22 : Value).ownBlock ∧ some k_ ≠ (.slice Ao34 t115.length co34 : Value).ownBlock ∧ some k_ ≠ (.slice Ao45 t123.length co45 : Value).ownBlock ∧ k_ ≠ gb113 ∧ k_ ≠ gb114 ∧ k_ ≠ gb121 ∧ k_ ≠ gb122 ∧ k_ ≠ gb129 ∧ k_ ≠ gb130) (.slice Ao27 t108.length co27) t108) := ⟨(by rw [hw]; exact (by refine qN ?_; exact Kd.N_mono (Kd.N_far (p := ⟨gb130, 1, none⟩) (Kd.N_far (p := ⟨gb130, 0, none⟩) (Kd.N_mono HO110.out (fun k_ hk => (⟨hk, hk.2.2.2.2.2.2.2.2⟩ : _ ∧ k_ ≠ gb130))) (fun _ hk => hk.2) (.int .i64 t127)) (fun _ hk => hk.2) (.int .i64 t128)) (fun _ hk => ⟨hk.1.1, ⟨hk.1.2.1, ⟨hk.1.2.2.1, ⟨hk.1.2.2.2.1, ⟨hk.1.2.2.2.2.1, ⟨hk.1.2.2.2.2.2.1, ⟨hk.1.2.2.2.2.2.2.1, ⟨hk.1.2.2.2.2.2.2.2.1, hk.1.2.2.2.2.2.2.2.2⟩⟩⟩⟩⟩⟩⟩⟩)))⟩; have n2_ : Aside0 (Kd.N (Kd.slice 3 (Kd.int .i64)) 38 w58 w.heap.size (fun k_ => some k_ ≠ (.slice Ao22 y104.length co22 : Value).ownBlock ∧ some k_ ≠ (.slice Ao27 t108.length co27 : Value).ownBlock ∧ some k_ ≠ (.slice Ao45 t123.length co45 : Value).ownBlock ∧ k_ ≠ gb113 ∧ k_ ≠ gb114 ∧ k_ ≠ gb121 ∧ k_ ≠ gb122 ∧ k_ ≠ gb129 ∧ k_ ≠ gb130) (.slice Ao34 t115.length co34) t115) := ⟨(by rw [hw]; exact (by refine qN ?_; exact Kd.N_mono (Kd.N_far (p := ⟨gb130, 1, none⟩) (Kd.N_far (p := ⟨gb130, 0, none⟩) (Kd.N_mono HO117.out (fun k_ hk => (⟨hk, hk.2.2.2.2.2.2.2.2⟩ : _ ∧ k_ ≠ gb130))) (fun _ hk => hk.2) (.int .i64 t127)) (fun _ hk => hk.2) (.int .i64 t128)) (fun _ hk => ⟨hk.1.1, ⟨hk.1.2.1, ⟨hk.1.2.2.1, ⟨hk.1.2.2.2.1, ⟨hk.1.2.2.2.2.1, ⟨hk.1.2.2.2.2.2.1, ⟨hk.1.2.2.2.2.2.2.1, ⟨hk.1.2.2.2.2.2.2.2.1, hk.1.2.2.2.2.2.2.2.2⟩⟩⟩⟩⟩⟩⟩⟩)))⟩; have n3_ : Aside0 (Kd.N (Kd.slice 3 (Kd.int .i64)) 38 w58 w.heap.size (fun k_ => some k_ ≠ (.slice Ao22 y104.length co22 : Value).ownBlock ∧ some k_ ≠ (.slice Ao27 t108.length co27 : Value).ownBlock ∧ some k_ ≠ (.slice Ao34 t115.length co34 : Value).ownBlock ∧ k_ ≠ gb113 ∧ k_ ≠ gb114 ∧ k_ ≠ gb121 ∧ k_ ≠ gb122 ∧ k_ ≠ gb129 ∧ k_ ≠ gb130) (.slice Ao45 t123.length co45) t123) := ⟨(by rw [hw]; exact (by refine qN ?_; exact Kd.N_mono (Kd.N_far (p := ⟨gb130, 1, none⟩) (Kd.N_far (p := ⟨gb130, 0, none⟩) (Kd.N_mono HO125.out (fun k_ hk => (⟨hk, hk.2.2.2.2.2.2.2.2⟩ : _ ∧ k_ ≠ gb130))) (fun _ hk => hk.2) (.int .i64 t127)) (fun _ hk => hk.2) (.int .i64 t128)) (fun _ hk => ⟨hk.1.1, ⟨hk.1.2.1, ⟨hk.1.2.2.1, ⟨hk.1.2.2.2.1, ⟨hk.1.2.2.2.2.1, ⟨hk.1.2.2.2.2.2.1, ⟨hk.1.2.2.2.2.2.2.1, ⟨hk.1.2.2.2.2.2.2.2.1, hk.1.2.2.2.2.2.2.2.2⟩⟩⟩⟩⟩⟩⟩⟩)))⟩; have n4_ : Aside0 (w58.heap[gb113]? = some (.cells #[.slice Ao27 t108.length co27] 70 (0, 0))) := ⟨(by rw [hw]; exact (by refine qk ?_; refine blk_far ?_ NB113_130.out _; refine qk ?_; refine blk_far ?_ NB113_130.out _; refine qk ?_; exact BK113.out))⟩; have n5_ : Aside0 (w58.heap[gb114]? = some (.cells #[.int .i64 t111, .int .i64 t112] 41 (0, 0))) := ⟨(by rw [hw]; exact (by refine qk ?_; refine blk_far ?_ NB114_130.out _; refine qk ?_; refine blk_far ?_ NB114_130.out _; refine qk ?_; exact BK114.out))⟩; have n6_ : Aside0 (w58.heap[gb121]? = some (.cells #[.slice Ao34 t115.length co34] 70 (0, 0))) := ⟨(by rw [hw]; exact (by refine qk ?_; refine blk_far ?_ NB121_130.out _; refine qk ?_; refine blk_far ?_ NB121_130.out _; refine qk ?_; exact BK121.out))⟩; have n7_ : Aside0 (w58.heap[gb122]? = some (.cells #[.int .i64 t119, .int .i64 t120] 41 (0, 0))) := ⟨(by rw [hw]; exact (by refine qk ?_; refine blk_far ?_ NB122_130.out _; refine qk ?_; refine blk_far ?_ NB122_130.out _; refine qk ?_; exact BK122.out))⟩; have n8_ : Aside0 (w58.heap[gb129]? = some (.cells #[.slice Ao45 t123.length co45] 70 (0, 0))) := ⟨(by rw [hw]; exact (by refine qk ?_; refine blk_far ?_ NB129_130.out _; refine qk ?_; refine blk_far ?_ NB129_130.out _; refine qk ?_; exact BK129.out))⟩; have n9_ : Aside0 (w58.heap[gb130]? = some (.cells #[.int .i64 t127, .int .i64 t128] 41 (0, 0))) := ⟨(by rw [hw]; exact (by refine qk ?_; refine blk_put (cs := #[.int .i64 t127, .int .i64 0]) ?_ 1 _ rfl; refine qk ?_; refine blk_put (cs := #[.int .i64 0, .int .i64 0]) ?_ 0 _ rfl; refine qk ?_; exact BK130.out))⟩; have n10_ : Aside0 (Below w.heap.size w w58) := ⟨(by rw [hw]; exact qb)⟩; clear hw; clear HO106; clear HO110; clear HO117; clear HO125; clear BK113; clear BK114; clear BK121; clear BK122; clear BK129; clear BK130; clear HB; have HO106 := n0_; have HO110 := n1_; have HO117 := n2_; have HO125 := n3_; have BK113 := n4_; have BK114 := n5_; have BK121 := n6_; have BK122 := n7_; have BK129 := n8_; have BK130 := n9_; have HB := n10_; clear n0_ n1_ n2_ n3_ n4_ n5_ n6_ n7_ n8_ n9_ n10_; have hcz59_0 : w58.cell? ⟨gb113, 0, none⟩ = some (.slice Ao27 t108.length co27) := (blk_cell BK113.out 0).trans rfl; have hfz59_0 := blk_frozen BK113.out 0; have p131 : 0 ≤ (0 : Int) := (by omega); have q131 : 0 < (t108.length : Int) := of_decide_eq_true qa; obtain ⟨ad131, A131_0, c131_0, e131, hx131_0, hl131_0, hi131_0⟩ := at_L14 (Kd.N_reads' HO110.out).2.2 0 p131 q131; cases e131; obtain ⟨ce131, hce131, hMe131, hcc131⟩ := Kd.N_get HO110.out [] 0 p131 (by first | exact q131 | exact of_decide_eq_true qa | (have e_ := (Kd.N_reads' HO110.out).1; omega)); obtain ⟨ua131_0, uc131_0, rfl, ul131_0, ge131_0⟩ := Kd.FK_slice_open hMe131; have hv131_0 := hcc131 0 _ rfl; rw [Nat.add_zero, show ((Kd.slice 3 (Kd.int .i64))).sz = 1 from rfl, Nat.mul_one] at hv131_0; replace hv131_0 := Option.some.inj (hv131_0.symm.trans hx131_0); injection hv131_0 with hva_ hvn_ hvc_; rw [hva_] at ge131_0; rw [hvc_] at ul131_0; have HL131_0 := Aside0.mk (show Kd.V (Kd.int .i64) 3 _ w.heap.size _ _ (rd_L14 t108 0) from Kd.V_mk ul131_0 ge131_0); clear hva_ hvn_ hvc_ ge131_0 ul131_0; clear hcc131 hce131; have qi131 : (0 < t108.length) = True := eq_true (by omega); (try rw [show ((0 : Int)).toNat = 0 from rfl] at hx131_0); (try rw [Addr.add_zero'] at hx131_0); have HR131_0 := Aside0.mk hi131_0; have HC131_0 := Aside0.mk hl131_0; clear hi131_0 hl131_0; (try simp only [Go.IntWalk.toNatUp] at hx131_0); replace p131 := eq_true p131; replace q131 := eq_true q131; have p132 : 0 ≤ (0 : Int) := (by omega); have q132 : 0 < (t108.length : Int) := of_decide_eq_true qa; obtain ⟨ad132, A132_0, c132_0, e132, hx132_0, hl132_0, hi132_0⟩ := at_L14 (Kd.N_reads' HO110.out).2.2 0 p132 q132; obtain rfl : ad131 = ad132 := (by injection e132); obtain ⟨ce132, hce132, hMe132, hcc132⟩ := Kd.N_get HO110.out [] 0 p132 (by first | exact q132 | exact of_decide_eq_true qa | (have e_ := (Kd.N_reads' HO110.out).1; omega)); obtain ⟨ua132_0, uc132_0, rfl, ul132_0, ge132_0⟩ := Kd.FK_slice_open hMe132; have hv132_0 := hcc132 0 _ rfl; rw [Nat.add_zero, show ((Kd.slice 3 (Kd.int .i64))).sz = 1 from rfl, Nat.mul_one] at hv132_0; replace hv132_0 := Option.some.inj (hv132_0.symm.trans hx132_0); injection hv132_0 with hva_ hvn_ hvc_; rw [hva_] at ge132_0; rw [hvc_] at ul132_0; have HL132_0 := Aside0.mk (show Kd.V (Kd.int .i64) 3 _ w.heap.size _ _ (rd_L14 t108 0) from Kd.V_mk ul132_0 ge132_0); clear hva_ hvn_ hvc_ ge132_0 ul132_0; clear hcc132 hce132; have qi132 : (0 < t108.length) = True := eq_true (by omega); (try rw [show ((0 : Int)).toNat = 0 from rfl] at hx132_0); (try rw [Addr.add_zero'] at hx132_0); have HR132_0 := Aside0.mk hi132_0; have HC132_0 := Aside0.mk hl132_0; clear hi132_0 hl132_0; (try simp only [Go.IntWalk.toNatUp] at hx132_0); replace p132 := eq_true p132; replace q132 := eq_true q132; have ea_ := Option.some.inj (hx131_0.symm.trans hx132_0); injection ea_ with ea_ en_ ec_; subst ea_; subst ec_; clear en_; have p133 : 0 ≤ (0 : Int) := (by omega); have q133 : 0 < ((rd_L14 t108 0).length : Int) := of_decide_eq_true qa; obtain ⟨ad133, e133, hx133_0⟩ := Kd.at_int (qD HR132_0.out HL132_0.out) 0 p133 q133; cases e133; have qi133 : (0 < (rd_L14 t108 0).length) = True := eq_true (by omega); (try rw [show ((0 : Int)).toNat = 0 from rfl] at hx133_0); (try rw [Addr.add_zero'] at hx133_0); (try simp only [Go.IntWalk.toNatUp] at hx133_0); replace p133 := eq_true p133; replace q133 := eq_true q133; have hcz60_0 : w58.cell? ⟨gb114, 0, none⟩ = some (.int .i64 t111) := (blk_cell BK114.out 0).trans rfl; have hcz60_1 : w58.cell? ⟨gb114, 1, none⟩ = some (.int .i64 t112) := (blk_cell BK114.out 1).trans rfl; have hfz60_0 := blk_frozen BK114.out 0; have hfz60_1 := blk_frozen BK114.out 1; have hcz61_0 : w58.cell? ⟨gb121, 0, none⟩ = some (.slice Ao34 t115.length co34) := (blk_cell BK121.out 0).trans rfl; have hfz61_0 := blk_frozen BK121.out 0; have p134 : 0 ≤ (0 : Int) := (by omega); have q134 : 0 < (t115.length : Int) := of_decide_eq_true qa; obtain ⟨ad134, A134_0, c134_0, e134, hx134_0, hl134_0, hi134_0⟩ := at_L14 (Kd.N_reads' HO117.out).2.2 0 p134 q134; cases e134; obtain ⟨ce134, hce134, hMe134, hcc134⟩ := Kd.N_get HO117.out [] 0 p134 (by first | exact q134 | exact of_decide_eq_true qa | (have e_ := (Kd.N_reads' HO117.out).1; omega)); obtain ⟨ua134_0, uc134_0, rfl, ul134_0, ge134_0⟩ := Kd.FK_slice_open hMe134; have hv134_0 := hcc134 0 _ rfl; rw [Nat.add_zero, show ((Kd.slice 3 (Kd.int .i64))).sz = 1 from rfl, Nat.mul_one] at hv134_0; replace hv134_0 := Option.some.inj (hv134_0.symm.trans hx134_0); injection hv134_0 with hva_ hvn_ hvc_; rw [hva_] at ge134_0; rw [hvc_] at ul134_0; have HL134_0 := Aside0.mk (show Kd.V (Kd.int .i64) 3 _ w.heap.size _ _ (rd_L14 t115 0) from Kd.V_mk ul134_0 ge134_0); clear hva_ hvn_ hvc_ ge134_0 ul134_0; clear hcc134 hce134; have qi134 : (0 < t115.length) = True := eq_true (by omega); (try rw [show ((0 : Int)).toNat = 0 from rfl] at hx134_0); (try rw [Addr.add_zero'] at hx134_0); have HR134_0 := Aside0.mk hi134_0; have HC134_0 := Aside0.mk hl134_0; clear hi134_0 hl134_0; (try simp only [Go.IntWalk.toNatUp] at hx134_0); replace p134 := eq_true p134; replace q134 := eq_true q134; have hcz62_0 : w58.cell? ⟨gb122, 0, none⟩ = some (.int .i64 t119) := (blk_cell BK122.out 0).trans rfl; have hcz62_1 : w58.cell? ⟨gb122, 1, none⟩ = some (.int .i64 t120) := (blk_cell BK122.out 1).trans rfl; have hfz62_0 := blk_frozen BK122.out 0; have hfz62_1 := blk_frozen BK122.out 1; have hcz63_0 : w58.cell? ⟨gb130, 0, none⟩ = some (.int .i64 t127) := (blk_cell BK130.out 0).trans rfl; have hcz63_1 : w58.cell? ⟨gb130, 1, none⟩ = some (.int .i64 t128) := (blk_cell BK130.out 1).trans rfl; have hfz63_0 := blk_frozen BK130.out 0; have hfz63_1 := blk_frozen BK130.out 1))
             go_ret
             exact ⟨qe, qb⟩
            ·rw [if_neg c16] at H
             exact absurd H (by simp)
           ·rw [if_neg c15] at H
            exact absurd H (by simp)
          ·rw [if_neg c14] at H
           exact absurd H (by simp)
         ·rw [if_neg c13] at H
          exact absurd H (by simp)
        ·rw [if_neg c12] at H
         exact absurd H (by simp)
       ·rw [if_neg c11] at H
        exact absurd H (by simp)
      ·rw [if_neg c10] at H
       exact absurd H (by simp)
     ·rw [if_neg c9] at H
      exact absurd H (by simp)
    ·rw [if_neg c8] at H
     exact absurd H (by simp)
   ·rw [if_neg c7] at H
    exact absurd H (by simp)
  ·rw [if_neg c6] at H
   exact absurd H (by simp)
 ·rw [if_neg c5] at H
  exact absurd H (by simp)
end Go.Proofs.YtadocbfchdendaaGreatDoor.P
namespace Go.Proofs.YtadocbfchdendaaGreatDoor.P
open Go.RowKit Go.Proofs.YtadocbfchdendaaGreatDoorW.PrintWords Go.Proofs.YtadocbfchdendaaGreatDoorW.PrintLast Go.Proofs.YtadocbfchdendaaGreatDoorW.PrintMore
attribute [local go_sem] max2_int min2_int max_two min_two max_three min_three max_four min_four
set_option linter.unusedVariables false
set_option linter.unusedSimpArgs false
def entrepotlaw16_its.f (l0_0 : List (List Int)) : Option ((List (List Int))) := some l0_0
set_option maxHeartbeats 8000000 in
set_option maxRecDepth 100000 in
theorem entrepotlaw16_its.calls (P0_0_ : Nat → Prop) (A0_0 : Option Addr) (c0_0 : Nat) (l0_0 : List (List Int)) (r : List (List Int)) (w : World) (hs0_0 : Kd.V (Kd.slice 3 (Kd.int .i64)) 38 w w.heap.size (fun k_ => P0_0_ k_) (.slice A0_0 l0_0.length c0_0) l0_0) (h : entrepotlaw16_its.f l0_0 = some r) :
  Calls Tryz.prog 39 #[.agg #[.slice A0_0 l0_0.length c0_0]] w fun e w' => ∃ v0_ : Value, e = .returned (.agg #[v0_]) ∧ Kd.V (Kd.slice 3 (Kd.int .i64)) 38 w' w.heap.size (fun k_ => (P0_0_ k_ ∨ w.heap.size ≤ k_)) v0_ r ∧ Below w.heap.size w w' := by
 have hu70 := Tryz.underlying70; have hu73 := Tryz.underlying73; have HO0_0 := Aside0.mk (show Kd.V (Kd.slice 3 (Kd.int .i64)) 38 w w.heap.size (fun k_ => (P0_0_ k_ ∨ w.heap.size ≤ k_)) (.slice A0_0 l0_0.length c0_0) l0_0 from Kd.V_mono hs0_0 (fun k_ hk => .inl hk)); have HB := Aside0.mk (Below.refl w.heap.size w); have H : (some l0_0) = some r := h; clear h; obtain rfl := Option.some.inj H; go_enter Tryz.func39, Tryz.ntmps39
 go_wp2_with (first | ((with_reducible refine gate_dst (N := 1) rfl ?_); refine box_ev (N := 1) (cs := #[.slice A0_0 l0_0.length c0_0]) (t := 70) ?_; intro gb101 hg w2 hbox hb; have n0_ := Aside0.mk (Kd.V_below (Kd.V_elderB (qV HO0_0.out) gb101 (Nat.le_of_eq hg.symm)) hb); have BK101 := Aside0.mk (hbox); have GW101 := Aside0.mk ((qg : w.heap.size ≤ gb101)); have GE101 := Aside0.mk ((qg : w.heap.size ≤ gb101)); replace HB := cB HB hb; replace HO0_0 := n0_; clear n0_; clear hb hbox hg) | ((with_reducible refine gate_dst (N := 2) rfl ?_); refine box_ev (N := 2) (cs := #[.slice none 0 0]) (t := 73) ?_; intro gb102 hg w3 hbox hb; have n0_ := Aside0.mk (Kd.V_below (Kd.V_elderB (qV HO0_0.out) gb102 (Nat.le_of_eq hg.symm)) hb); have BK102 := Aside0.mk (hbox); have GW102 := Aside0.mk ((qg : w.heap.size ≤ gb102)); have GE102 := Aside0.mk ((qg : w.heap.size ≤ gb102)); have NB101_102 := Aside0.mk ((by rw [hg]; exact Nat.ne_of_lt (blk_lt (g := gb101) (o := .cells #[.slice A0_0 l0_0.length c0_0] 70 (0, 0)) (qk BK101.out)) : gb101 ≠ gb102)); have NB102_101 := Aside0.mk ((by rw [hg]; exact Nat.ne_of_gt (blk_lt (g := gb101) (o := .cells #[.slice A0_0 l0_0.length c0_0] 70 (0, 0)) (qk BK101.out)) : gb102 ≠ gb101)); replace BK101 := cK BK101 hb; replace HB := cB HB hb; replace HO0_0 := n0_; clear n0_; clear hb hbox hg; have hnb4 := NB101_102.out; have hnc4 := NB102_101.out; have hcz5_0 : w3.cell? ⟨gb101, 0, none⟩ = some (.slice A0_0 l0_0.length c0_0) := (blk_cell BK101.out 0).trans rfl; have hfz5_0 := blk_frozen BK101.out 0; have hcz6_0 : w3.cell? ⟨gb102, 0, none⟩ = some (.slice none 0 0) := (blk_cell BK102.out 0).trans rfl; have hfz6_0 := blk_frozen BK102.out 0))
 refine bodyPost_ret (results_cell_row rfl _ _ gb102 73 #[.slice A0_0 l0_0.length c0_0] (0, 0) _ rfl (by refine qk ?_; refine blk_put (cs := #[.slice none 0 0]) ?_ 0 _ rfl; refine qk ?_; exact BK102.out) Tryz.underlying73 rfl (by kernel_rfl)) rfl ?_
 exact ⟨_, qe, by refine qV ?_; exact Kd.V_mono (Kd.V_far (p := ⟨gb102, 0, none⟩) (Kd.V_mono HO0_0.out (fun k_ hk => (⟨hk, hk.2⟩ : _ ∧ k_ ≠ gb102))) (fun _ hk => hk.2) (.slice A0_0 l0_0.length c0_0)) (fun _ hk => hk.1.1.1), qb⟩
mutual
def entrepotlaw16_long.l0 : Nat → Int → Int → List (List Int) → Option (Bool)
 | 0, _, _, _ => none
 | k + 1, x3, x4, x102000 => if x4 < (x102000.length : Int) then (entrepotlaw16_long.j1 k x3 x4 (decide (x4 < 70)) x102000) else (entrepotlaw16_long.j1 k x3 x4 false x102000)
def entrepotlaw16_long.j1 : Nat → Int → Int → Bool → List (List Int) → Option (Bool)
 | 0, _, _, _, _ => none
 | k + 1, x3, x4, x13, x102000 => if x13 = true then (if 0 ≤ x4 then (if x4 < (x102000.length : Int) then (if ((rd_L14 x102000 x4).length : Int) > 450 then (some true) else (entrepotlaw16_long.l0 k (wrap64 (x3 + ((rd_L14 x102000 x4).length : Int))) (wrap64 (x4 + 1)) x102000)) else (none)) else (none)) else (if (x102000.length : Int) > 60 then (some true) else (some (decide (x3 > 450))))
end
def entrepotlaw16_long.f (k : Nat) (l0_0 : List (List Int)) : Option (Bool) := entrepotlaw16_long.l0 k 0 0 l0_0
theorem entrepotlaw16_long.mono_l : ∀ k, (∀ y0 y1 y2, LeO (entrepotlaw16_long.l0 k y0 y1 y2) (entrepotlaw16_long.l0 (k + 1) y0 y1 y2)) ∧ (∀ y0 y1 y2 y3, LeO (entrepotlaw16_long.j1 k y0 y1 y2 y3) (entrepotlaw16_long.j1 (k + 1) y0 y1 y2 y3))
 | 0 => ⟨fun _ _ _ r h => by simp [entrepotlaw16_long.l0] at h, fun _ _ _ _ r h => by simp [entrepotlaw16_long.j1] at h⟩
 | k + 1 => by
  obtain ⟨ih0, ih1⟩ := entrepotlaw16_long.mono_l k; refine ⟨?_, ?_⟩
  ·intro y0 y1 y2
   unfold entrepotlaw16_long.l0
   repeat' first
   | (with_reducible exact ih0 _ _ _)
   | (with_reducible exact ih1 _ _ _ _)
   | (with_reducible exact LeO.refl _)
   | (with_reducible exact LeO.none _)
   | (with_reducible refine LeO.ite ?_ ?_)
   | (with_reducible refine LeO.bind ?_ (fun _ => ?_))
   | exact ih0 _ _ _
   | exact ih1 _ _ _ _
   | exact LeO.none _
   | refine LeO.ite ?_ ?_
   | refine LeO.bind ?_ (fun _ => ?_)
  ·intro y0 y1 y2 y3
   unfold entrepotlaw16_long.j1
   repeat' first
   | (with_reducible exact ih0 _ _ _)
   | (with_reducible exact ih1 _ _ _ _)
   | (with_reducible exact LeO.refl _)
   | (with_reducible exact LeO.none _)
   | (with_reducible refine LeO.ite ?_ ?_)
   | (with_reducible refine LeO.bind ?_ (fun _ => ?_))
   | exact ih0 _ _ _
   | exact ih1 _ _ _ _
   | exact LeO.none _
   | refine LeO.ite ?_ ?_
   | refine LeO.bind ?_ (fun _ => ?_)
theorem entrepotlaw16_long.mono : ∀ a0 k, LeO (entrepotlaw16_long.f k a0) (entrepotlaw16_long.f (k + 1) a0) := by
 intro a0 k
 obtain ⟨ih0, ih1⟩ := entrepotlaw16_long.mono_l k; unfold entrepotlaw16_long.f
 repeat' first
   | (with_reducible exact ih0 _ _ _)
   | (with_reducible exact ih1 _ _ _ _)
   | (with_reducible exact LeO.refl _)
   | (with_reducible exact LeO.none _)
   | (with_reducible refine LeO.ite ?_ ?_)
   | (with_reducible refine LeO.bind ?_ (fun _ => ?_))
   | exact ih0 _ _ _
   | exact ih1 _ _ _ _
   | exact LeO.none _
   | refine LeO.ite ?_ ?_
   | refine LeO.bind ?_ (fun _ => ?_)
set_option maxHeartbeats 8000000 in
set_option maxRecDepth 100000 in
theorem entrepotlaw16_long.calls (k : Nat) (A0_0 : Option Addr) (c0_0 : Nat) (l0_0 : List (List Int)) (r : Bool) (w : World) (hr0_0 : Kd.C (Kd.slice 3 (Kd.int .i64)) w A0_0 l0_0.length l0_0) (hc0_0 : l0_0.length ≤ c0_0) (h : entrepotlaw16_long.f k l0_0 = some r) :
  Calls Tryz.prog 41 #[.agg #[.slice A0_0 l0_0.length c0_0]] w fun e w' => e = .returned (.bool r) ∧ Below w.heap.size w w' := by
 have hu70 := Tryz.underlying70; have HR0_0 := Aside0.mk hr0_0; have HC0_0 := Aside0.mk hc0_0; clear hr0_0 hc0_0; have HB := Aside0.mk (Below.refl w.heap.size w); have H : (entrepotlaw16_long.l0 k 0 0 l0_0) = some r := h; clear h; have H' := Aside0.mk H; clear H; go_enter Tryz.func41, Tryz.ntmps41
 go_wp2_with (first | ((with_reducible refine gate_dst (N := 1) rfl ?_); refine box_ev (N := 1) (cs := #[.slice A0_0 l0_0.length c0_0]) (t := 70) ?_; intro gb101 hg w2 hbox hb; have BK101 := Aside0.mk (hbox); have GW101 := Aside0.mk ((qg : w.heap.size ≤ gb101)); have GE101 := Aside0.mk ((qg : w.heap.size ≤ gb101)); replace HB := cB HB hb; clear hb hbox hg))
 (try simp only [Act.put, List.setIfInBounds_toArray, List.set_cons_zero, List.set_cons_succ])
 go_loopg [3, 4] k (fun kq v3 v4 w' => ∃ (x3_1 : Int) (x4_1 : Int), v3 = .int .i64 x3_1 ∧ v4 = .int .i64 x4_1 ∧ Aside0 (entrepotlaw16_long.l0 kq x3_1 x4_1 l0_0 = some r) ∧ Aside0 (kq ≤ k) ∧ Aside0 (w'.heap[gb101]? = some (.cells #[(.slice A0_0 l0_0.length c0_0)] 70 (0, 0))) ∧ Aside0 (Below w.heap.size w w'))
 case atStart => exact ⟨(0), (0), qr, qr, H', ⟨Nat.le_refl _⟩, ⟨qk BK101.out⟩, ⟨qb⟩⟩
 case round =>
  clear H'; (try clear p2); obtain ⟨x3_1, x4_1, rfl, rfl, HA, HK1, BK101, HB⟩ := hrel; cases gk with
  | zero => exact absurd HA.out (by simp [entrepotlaw16_long.l0])
  | succ k1 =>
   have H := HA.out; clear HA; simp only [entrepotlaw16_long.l0] at H; have HC3 := Aside0.mk H; clear H
   go_upto_region 3 with (fail)
   go_cut [13] (fun v13 wc => ∃ (kq : Nat) (x13_2 : Bool), v13 = .bool x13_2 ∧ Aside0 (entrepotlaw16_long.j1 kq x3_1 x4_1 x13_2 l0_0 = some r) ∧ Aside0 (kq ≤ k1) ∧ Aside0 (wc.heap[gb101]? = some (.cells #[(.slice A0_0 l0_0.length c0_0)] 70 (0, 0))) ∧ Aside0 (Below w.heap.size w wc))
   case first =>
    have H := HC3.out; clear HC3
    by_cases c4 : x4_1 < (l0_0.length : Int)
    ·rw [if_pos c4] at H; have c4b0 := decide_eq_true c4; clear c4; (first | rw [c4b0] | (simp only [i64_w, i32_w]; rw [c4b0]) | skip); have H' := Aside0.mk H; clear H; obtain ⟨hcz5_0, hfz5_0⟩ := bc1 BK101.out
     go_wp2
     go_meet
     case rel => exact ⟨_, (decide (x4_1 < 70)), qr, H', ⟨by have := HK1.out; first | omega | exact Nat.le_refl _⟩, ⟨qk BK101.out⟩, ⟨qb⟩⟩
    ·rw [if_neg c4] at H; have c4b0 := decide_eq_false c4; clear c4; (first | rw [c4b0] | (simp only [i64_w, i32_w]; rw [c4b0]) | skip); have H' := Aside0.mk H; clear H; obtain ⟨hcz6_0, hfz6_0⟩ := bc1 BK101.out
     go_wp2
     go_meet
     case rel => exact ⟨_, (false), qr, H', ⟨by have := HK1.out; first | omega | exact Nat.le_refl _⟩, ⟨qk BK101.out⟩, ⟨qb⟩⟩
   case rest =>
    clear HC3; (try clear p2); (try clear c4); (try clear c4b0); (try clear hcz5_0); (try clear hcz6_0); (try clear hfz5_0); (try clear hfz6_0); (try clear p2); obtain ⟨kq, x13_2, rfl, HA, HJ2, BK101, HB⟩ := hcut; cases kq with
    | zero => exact absurd HA.out (by simp [entrepotlaw16_long.j1])
    | succ kj2 =>
     have H := HA.out; clear HA; simp only [entrepotlaw16_long.j1] at H
     by_cases c7 : x13_2 = true
     ·subst c7; have H1 : (if 0 ≤ x4_1 then (if x4_1 < (l0_0.length : Int) then (if ((rd_L14 l0_0 x4_1).length : Int) > 450 then (some true) else (entrepotlaw16_long.l0 kj2 (wrap64 (x3_1 + ((rd_L14 l0_0 x4_1).length : Int))) (wrap64 (x4_1 + 1)) l0_0)) else (none)) else (none)) = some r := by rw [if_pos rfl] at H; exact H
      clear H; have H := H1; clear H1
      by_cases c8 : 0 ≤ x4_1
      ·rw [if_pos c8] at H; have c8b0 := decide_eq_true c8; clear c8
       by_cases c9 : x4_1 < (l0_0.length : Int)
       ·rw [if_pos c9] at H; have c9b0 := decide_eq_true c9; clear c9
        by_cases c10 : ((rd_L14 l0_0 x4_1).length : Int) > 450
        ·rw [if_pos c10] at H; have c10b0 := decide_eq_true c10; have c10b1 : decide (450 < (rd_L14 l0_0 x4_1).length) = true := decide_eq_true (by omega); clear c10; obtain rfl := Option.some.inj H; obtain ⟨hcz11_0, hfz11_0⟩ := bc1 BK101.out; have p102 : 0 ≤ (x4_1 : Int) := of_decide_eq_true qa; have q102 : x4_1 < (l0_0.length : Int) := of_decide_eq_true qa; obtain ⟨ad102, A102_0, c102_0, e102, hx102_0, hl102_0, hi102_0⟩ := at_L14 HR0_0.out x4_1 p102 q102; cases e102; replace hx102_0 := (HB.out.cell (World.block_lt_of_cell? w _ hx102_0)).trans hx102_0; have HR102_0 := Aside0.mk hi102_0; have HC102_0 := Aside0.mk hl102_0; clear hi102_0 hl102_0; (try simp only [Go.IntWalk.toNatUp] at hx102_0); replace p102 := eq_true p102; replace q102 := eq_true q102
         go_wp2
         go_ret
         exact ⟨qe, qb⟩
        ·rw [if_neg c10] at H; have c10b0 := decide_eq_false c10; have c10b1 : decide (450 < (rd_L14 l0_0 x4_1).length) = false := decide_eq_false (by omega); clear c10; have H' := Aside0.mk H; clear H; obtain ⟨hcz12_0, hfz12_0⟩ := bc1 BK101.out; have p102 : 0 ≤ (x4_1 : Int) := of_decide_eq_true qa; have q102 : x4_1 < (l0_0.length : Int) := of_decide_eq_true qa; obtain ⟨ad102, A102_0, c102_0, e102, hx102_0, hl102_0, hi102_0⟩ := at_L14 HR0_0.out x4_1 p102 q102; cases e102; replace hx102_0 := (HB.out.cell (World.block_lt_of_cell? w _ hx102_0)).trans hx102_0; have HR102_0 := Aside0.mk hi102_0; have HC102_0 := Aside0.mk hl102_0; clear hi102_0 hl102_0; (try simp only [Go.IntWalk.toNatUp] at hx102_0); replace p102 := eq_true p102; replace q102 := eq_true q102; have p103 : 0 ≤ (x4_1 : Int) := of_decide_eq_true qa; have q103 : x4_1 < (l0_0.length : Int) := of_decide_eq_true qa; obtain ⟨ad103, A103_0, c103_0, e103, hx103_0, hl103_0, hi103_0⟩ := at_L14 HR0_0.out x4_1 p103 q103; obtain rfl : ad102 = ad103 := (by injection e103); replace hx103_0 := (HB.out.cell (World.block_lt_of_cell? w _ hx103_0)).trans hx103_0; have HR103_0 := Aside0.mk hi103_0; have HC103_0 := Aside0.mk hl103_0; clear hi103_0 hl103_0; (try simp only [Go.IntWalk.toNatUp] at hx103_0); replace p103 := eq_true p103; replace q103 := eq_true q103; have ea_ := Option.some.inj (hx102_0.symm.trans hx103_0); injection ea_ with ea_ en_ ec_
         subst ea_; subst ec_; clear en_
         go_wp2
         go_roundg kj2
         case measure => have := HK1.out; have := HJ2.out; omega
         case rel => exact ⟨(wrap64 (x3_1 + ((rd_L14 l0_0 x4_1).length : Int))), (wrap64 (x4_1 + 1)), qr, qr, H', ⟨by have := HK1.out; have := HJ2.out; omega⟩, ⟨qk BK101.out⟩, ⟨qb⟩⟩
       ·rw [if_neg c9] at H
        exact absurd H (by simp)
      ·rw [if_neg c8] at H
       exact absurd H (by simp)
     ·replace c7 := Bool.eq_false_iff.mpr c7; subst c7; have H1 : (if (l0_0.length : Int) > 60 then (some true) else (some (decide (x3_1 > 450)))) = some r := by rw [if_neg (show ¬ (false = true) by decide)] at H; exact H
      clear H; have H := H1; clear H1
      by_cases c13 : (l0_0.length : Int) > 60
      ·rw [if_pos c13] at H; have c13b0 := decide_eq_true c13; have c13b1 : decide (60 < l0_0.length) = true := decide_eq_true (by omega); clear c13; obtain rfl := Option.some.inj H; obtain ⟨hcz14_0, hfz14_0⟩ := bc1 BK101.out
       go_wp2
       go_ret
       exact ⟨qe, qb⟩
      ·rw [if_neg c13] at H; have c13b0 := decide_eq_false c13; have c13b1 : decide (60 < l0_0.length) = false := decide_eq_false (by omega); clear c13; obtain rfl := Option.some.inj H; obtain ⟨hcz15_0, hfz15_0⟩ := bc1 BK101.out
       go_wp2
       go_ret
       exact ⟨qe, qb⟩
def entrepotref04_digits.l0 : Nat → Int → ByteArray → Option (ByteArray)
 | 0, _, _ => none
 | k + 1, x0, x3 => if x0 > 0 then ((some (([(48 + ((Int.tmod x0 10) % 256)) % 256] : List Int) : List Int)).bind fun y101 => (if (strOfNums y101).size + x3.size ≤ 9223372036854775807 then (entrepotref04_digits.l0 k (IntKind.u64.wrap (Int.tdiv x0 10)) ((strOfNums y101) ++ x3)) else (none))) else (if x3.toList = ([] : List UInt8) then ((some (([(48 + ((Int.tmod x0 10) % 256)) % 256] : List Int) : List Int)).bind fun y104 => (if (strOfNums y104).size + x3.size ≤ 9223372036854775807 then (entrepotref04_digits.l0 k (IntKind.u64.wrap (Int.tdiv x0 10)) ((strOfNums y104) ++ x3)) else (none))) else (some x3))
def entrepotref04_digits.f (k : Nat) (a0 : Int) : Option (ByteArray) := entrepotref04_digits.l0 k a0 (⟨#[]⟩ : ByteArray)
theorem entrepotref04_digits.mono_l : ∀ k, (∀ y0 y1, LeO (entrepotref04_digits.l0 k y0 y1) (entrepotref04_digits.l0 (k + 1) y0 y1))
 | 0 => fun _ _ r h => by simp [entrepotref04_digits.l0] at h
 | k + 1 => by
  have ih0 := entrepotref04_digits.mono_l k
  ·intro y0 y1
   unfold entrepotref04_digits.l0
   repeat' first
   | (with_reducible exact ih0 _ _)
   | (with_reducible exact LeO.refl _)
   | (with_reducible exact LeO.none _)
   | (with_reducible refine LeO.ite ?_ ?_)
   | (with_reducible refine LeO.bind ?_ (fun _ => ?_))
   | exact ih0 _ _
   | exact LeO.none _
   | refine LeO.ite ?_ ?_
   | refine LeO.bind ?_ (fun _ => ?_)
theorem entrepotref04_digits.mono : ∀ a0 k, LeO (entrepotref04_digits.f k a0) (entrepotref04_digits.f (k + 1) a0) := by
 intro a0 k
 have ih0 := entrepotref04_digits.mono_l k; unfold entrepotref04_digits.f
 repeat' first
   | (with_reducible exact ih0 _ _)
   | (with_reducible exact LeO.refl _)
   | (with_reducible exact LeO.none _)
   | (with_reducible refine LeO.ite ?_ ?_)
   | (with_reducible refine LeO.bind ?_ (fun _ => ?_))
   | exact ih0 _ _
   | exact LeO.none _
   | refine LeO.ite ?_ ?_
   | refine LeO.bind ?_ (fun _ => ?_)
set_option maxHeartbeats 8000000 in
set_option maxRecDepth 100000 in
theorem entrepotref04_digits.calls (k : Nat) (a0 : Int) (r : ByteArray) (w : World) (h : entrepotref04_digits.f k a0 = some r) :
  Calls Tryz.prog 62 #[.int .u64 a0] w fun e w' => e = .returned (.string r) ∧ Below w.heap.size w w' := by
 have HB := Aside0.mk (Below.refl w.heap.size w); have H : (entrepotref04_digits.l0 k a0 (⟨#[]⟩ : ByteArray)) = some r := h; clear h; have H' := Aside0.mk H; clear H; go_enter Tryz.func62, Tryz.ntmps62
 go_wp2
 (try simp only [Act.put, List.setIfInBounds_toArray, List.set_cons_zero, List.set_cons_succ])
 go_loopg [0, 3] k (fun kq v0 v3 w' => ∃ (x0_1 : Int) (x3_1 : ByteArray), v0 = .int .u64 x0_1 ∧ v3 = .string x3_1 ∧ Aside0 (entrepotref04_digits.l0 kq x0_1 x3_1 = some r) ∧ Aside0 (kq ≤ k) ∧ Aside0 (Below w.heap.size w w'))
 case atStart => exact ⟨(a0), ((⟨#[]⟩ : ByteArray)), qr, qr, H', ⟨Nat.le_refl _⟩, ⟨qb⟩⟩
 case round =>
  clear H'; obtain ⟨x0_1, x3_1, rfl, rfl, HA, HK1, HB⟩ := hrel; cases gk with
  | zero => exact absurd HA.out (by simp [entrepotref04_digits.l0])
  | succ k1 =>
   have H := HA.out; clear HA; simp only [entrepotref04_digits.l0] at H
   by_cases c2 : x0_1 > 0
   ·rw [if_pos c2] at H; have c2b0 := decide_eq_true c2; clear c2; obtain ⟨y101, hy101⟩ : ∃ y_ : List Int, y_ = (([(48 + ((Int.tmod x0_1 10) % 256)) % 256] : List Int)) := ⟨_, rfl⟩; replace H : (if (strOfNums y101).size + x3_1.size ≤ 9223372036854775807 then (entrepotref04_digits.l0 k1 (IntKind.u64.wrap (Int.tdiv x0_1 10)) ((strOfNums y101) ++ x3_1)) else (none)) = some r := by first | (rw [hy101]; with_reducible exact H) | (have H2_ := (Option.bind_some _ _).symm.trans H; rw [hy101]; with_reducible exact H2_) | (have H2_ := (Option.bind_some _ _).symm.trans H; with_reducible exact H2_) | with_reducible exact H | (rw [hy101]; exact H) | exact H
    have Ny101 := Aside0.mk hy101; clear hy101
    by_cases c3 : (strOfNums y101).size + x3_1.size ≤ 9223372036854775807
    ·rw [if_pos c3] at H; have c3b0 := eq_true c3; have c3b1 := decide_eq_true c3
     try have c3b2 : (9223372036854775807 < (strOfNums y101).size + x3_1.size) = False := eq_false (Nat.not_lt.2 c3)
     have H' := Aside0.mk H; clear H
     go_wp2_with (first | ((with_reducible refine gate_dst (N := 14) rfl ?_); refine Kd.R_lit (Kd.int .u8) _ 5 ?hg (N := 14) ?hd (xs := ([(48 + ((Int.tmod x0_1 10) % 256)) % 256] : List Int)) (inner := [.int .u8 ((48 + ((Int.tmod x0_1 10) % 256)) % 256)]) (ok := fun _ => True) (okp := fun _ => True) ?hr ?hp (fun _ hk => hk) trivial (Below.refl _ _) (Nat.le_refl _) (by simp) ?_; (case hd => rfl); (case hg => rfl); (case hr => first | (go_simp; done) | (go_simp; rfl)); (case hp => exact (Reps.one (show Kd.M (Kd.int .u8) _ _ _ ((48 + ((Int.tmod x0_1 10) % 256)) % 256) [.int .u8 ((48 + ((Int.tmod x0_1 10) % 256)) % 256)] from rfl) (Reps.none _ _))); intro v102 w4 ho5 hb hg_ hnew_; clear hg_ hnew_; (first | rw [← Ny101.out] at ho5 | (simp only [Int.reduceToNat] at ho5; rw [← Ny101.out] at ho5)); have HO103 := Aside0.mk (Kd.R_lower ho5 (below_size qb)); replace HB := cB HB hb; clear hb ho5; have hcv6 := own_string (P := Tryz.prog) Tryz.underlying139 Tryz.underlying5 Tryz.underlying9 (Kd.own_of_R HO103.out)))
     go_roundg k1
     case measure => have := HK1.out; omega
     case rel => exact ⟨(IntKind.u64.wrap (Int.tdiv x0_1 10)), ((strOfNums y101) ++ x3_1), qr, qr, H', ⟨by have := HK1.out; omega⟩, ⟨qb⟩⟩
    ·rw [if_neg c3] at H
     exact absurd H (by simp)
   ·rw [if_neg c2] at H; have c2b0 := decide_eq_false c2; clear c2
    by_cases c7 : x3_1.toList = ([] : List UInt8)
    ·rw [if_pos c7] at H; have c7b0 := beq_iff_eq.mpr c7; have c7b1 := bne_eq_false_iff_eq.mpr c7; clear c7; obtain ⟨y104, hy104⟩ : ∃ y_ : List Int, y_ = (([(48 + ((Int.tmod x0_1 10) % 256)) % 256] : List Int)) := ⟨_, rfl⟩; replace H : (if (strOfNums y104).size + x3_1.size ≤ 9223372036854775807 then (entrepotref04_digits.l0 k1 (IntKind.u64.wrap (Int.tdiv x0_1 10)) ((strOfNums y104) ++ x3_1)) else (none)) = some r := by first | (rw [hy104]; with_reducible exact H) | (have H2_ := (Option.bind_some _ _).symm.trans H; rw [hy104]; with_reducible exact H2_) | (have H2_ := (Option.bind_some _ _).symm.trans H; with_reducible exact H2_) | with_reducible exact H | (rw [hy104]; exact H) | exact H
     have Ny104 := Aside0.mk hy104; clear hy104
     by_cases c8 : (strOfNums y104).size + x3_1.size ≤ 9223372036854775807
     ·rw [if_pos c8] at H; have c8b0 := eq_true c8; have c8b1 := decide_eq_true c8
      try have c8b2 : (9223372036854775807 < (strOfNums y104).size + x3_1.size) = False := eq_false (Nat.not_lt.2 c8)
      have H' := Aside0.mk H; clear H
      go_wp2_with (first | ((with_reducible refine gate_dst (N := 14) rfl ?_); refine Kd.R_lit (Kd.int .u8) _ 5 ?hg (N := 14) ?hd (xs := ([(48 + ((Int.tmod x0_1 10) % 256)) % 256] : List Int)) (inner := [.int .u8 ((48 + ((Int.tmod x0_1 10) % 256)) % 256)]) (ok := fun _ => True) (okp := fun _ => True) ?hr ?hp (fun _ hk => hk) trivial (Below.refl _ _) (Nat.le_refl _) (by simp) ?_; (case hd => rfl); (case hg => rfl); (case hr => first | (go_simp; done) | (go_simp; rfl)); (case hp => exact (Reps.one (show Kd.M (Kd.int .u8) _ _ _ ((48 + ((Int.tmod x0_1 10) % 256)) % 256) [.int .u8 ((48 + ((Int.tmod x0_1 10) % 256)) % 256)] from rfl) (Reps.none _ _))); intro v105 w9 ho10 hb hg_ hnew_; clear hg_ hnew_; (first | rw [← Ny104.out] at ho10 | (simp only [Int.reduceToNat] at ho10; rw [← Ny104.out] at ho10)); have HO106 := Aside0.mk (Kd.R_lower ho10 (below_size qb)); replace HB := cB HB hb; clear hb ho10; have hcv11 := own_string (P := Tryz.prog) Tryz.underlying139 Tryz.underlying5 Tryz.underlying9 (Kd.own_of_R HO106.out)))
      go_roundg k1
      case measure => have := HK1.out; omega
      case rel => exact ⟨(IntKind.u64.wrap (Int.tdiv x0_1 10)), ((strOfNums y104) ++ x3_1), qr, qr, H', ⟨by have := HK1.out; omega⟩, ⟨qb⟩⟩
     ·rw [if_neg c8] at H
      exact absurd H (by simp)
    ·rw [if_neg c7] at H; have c7b0 := beq_eq_false_iff_ne.mpr c7; have c7b1 := bne_iff_ne.mpr c7; obtain rfl := Option.some.inj H
     go_wp2
     go_ret
     exact ⟨qe, qb⟩
def entrepotref04_Num.f (k : Nat) (a0 : Int) : Option (ByteArray) := if a0 ≥ 0 then ((entrepotref04_digits.f k (IntKind.u64.wrap (a0))).bind fun t101 => (some t101)) else ((entrepotref04_digits.f k (IntKind.u64.wrap ((IntKind.u64.wrap (wrap64 (-(wrap64 (a0 + 1))))) + 1))).bind fun t102 => (if 1 + t102.size ≤ 9223372036854775807 then (some ((⟨#[45]⟩ : ByteArray) ++ t102)) else (none)))
theorem entrepotref04_Num.mono : ∀ a0 k, LeO (entrepotref04_Num.f k a0) (entrepotref04_Num.f (k + 1) a0) := by
 intro a0 k
 unfold entrepotref04_Num.f
 repeat' first
   | (with_reducible exact entrepotref04_digits.mono _ _)
   | (with_reducible exact LeO.refl _)
   | (with_reducible exact LeO.none _)
   | (with_reducible refine LeO.ite ?_ ?_)
   | (with_reducible refine LeO.bind ?_ (fun _ => ?_))
   | exact entrepotref04_digits.mono _ _
   | exact LeO.none _
   | refine LeO.ite ?_ ?_
   | refine LeO.bind ?_ (fun _ => ?_)
set_option maxHeartbeats 8000000 in
set_option maxRecDepth 100000 in
theorem entrepotref04_Num.calls (k : Nat) (a0 : Int) (r : ByteArray) (w : World) (h : entrepotref04_Num.f k a0 = some r) :
  Calls Tryz.prog 27 #[.int .i64 a0] w fun e w' => e = .returned (.string r) ∧ Below w.heap.size w w' := by
 have HB := Aside0.mk (Below.refl w.heap.size w); have H : (if a0 ≥ 0 then ((entrepotref04_digits.f k (IntKind.u64.wrap (a0))).bind fun t101 => (some t101)) else ((entrepotref04_digits.f k (IntKind.u64.wrap ((IntKind.u64.wrap (wrap64 (-(wrap64 (a0 + 1))))) + 1))).bind fun t102 => (if 1 + t102.size ≤ 9223372036854775807 then (some ((⟨#[45]⟩ : ByteArray) ++ t102)) else (none)))) = some r := h; clear h
 by_cases c2 : a0 ≥ 0
 ·rw [if_pos c2] at H; have c2b0 := decide_eq_true c2; clear c2; replace H := Option.bind_eq_some_iff.mp H; obtain ⟨t101, A30, H⟩ := H; (try dsimp only at H); have A3 := Aside0.mk A30; clear A30; obtain rfl := Option.some.inj H; go_enter Tryz.func27, Tryz.ntmps27
  go_wp2_with (first | ((with_reducible refine gate_callee (f := 62) rfl ?_); refine goesL_ (some 7) rfl rfl Tryz.func62 (by kernel_rfl) rfl #[.int .u64 (IntKind.u64.wrap (a0))] rfl qm ?_; (with_reducible refine (entrepotref04_digits.calls k (IntKind.u64.wrap (a0)) t101 _ A3.out).mono ?_); rintro e w4 ⟨rfl, hb⟩; refine ⟨_, rfl, ?_⟩; replace HB := cB HB hb; (try clear hb); (try clear hb2); (try clear hk); (try clear hi)))
  go_ret
  exact ⟨qe, qb⟩
 ·rw [if_neg c2] at H; have c2b0 := decide_eq_false c2; clear c2; replace H := Option.bind_eq_some_iff.mp H; obtain ⟨t102, A50, H⟩ := H; (try dsimp only at H); have A5 := Aside0.mk A50; clear A50
  by_cases c6 : 1 + t102.size ≤ 9223372036854775807
  ·rw [if_pos c6] at H; have c6b0 := eq_true c6; have c6b1 := decide_eq_true c6
   try have c6b2 : (9223372036854775807 < 1 + t102.size) = False := eq_false (Nat.not_lt.2 c6)
   obtain rfl := Option.some.inj H; go_enter Tryz.func27, Tryz.ntmps27
   go_wp2_with (first | ((with_reducible refine gate_callee (f := 62) rfl ?_); refine goesL_ (some 13) rfl rfl Tryz.func62 (by kernel_rfl) rfl #[.int .u64 (IntKind.u64.wrap ((IntKind.u64.wrap (wrap64 (-(wrap64 (a0 + 1))))) + 1))] rfl qm ?_; (with_reducible refine (entrepotref04_digits.calls k (IntKind.u64.wrap ((IntKind.u64.wrap (wrap64 (-(wrap64 (a0 + 1))))) + 1)) t102 _ A5.out).mono ?_); rintro e w7 ⟨rfl, hb⟩; refine ⟨_, rfl, ?_⟩; replace HB := cB HB hb; (try clear hb); (try clear hb2); (try clear hk); (try clear hi)))
   go_ret
   exact ⟨qe, qb⟩
  ·rw [if_neg c6] at H
   exact absurd H (by simp)
def entrepotref03_Name.l0 : Nat → ByteArray → Int → Option (Bool)
 | 0, _, _ => none
 | k + 1, x0, x3 => if x3 < (x0.size : Int) then (if 0 ≤ x3 then (if (bt x0 x3) < 65 then (if (bt x0 x3) < 97 then (if (bt x0 x3) < 48 then (if (bt x0 x3) = 46 then (entrepotref03_Name.l0 k x0 (wrap64 (x3 + 1))) else (if (bt x0 x3) = 95 then (entrepotref03_Name.l0 k x0 (wrap64 (x3 + 1))) else (if (bt x0 x3) = 45 then (entrepotref03_Name.l0 k x0 (wrap64 (x3 + 1))) else (some false)))) else (if (bt x0 x3) > 57 then (if (bt x0 x3) = 46 then (entrepotref03_Name.l0 k x0 (wrap64 (x3 + 1))) else (if (bt x0 x3) = 95 then (entrepotref03_Name.l0 k x0 (wrap64 (x3 + 1))) else (if (bt x0 x3) = 45 then (entrepotref03_Name.l0 k x0 (wrap64 (x3 + 1))) else (some false)))) else (entrepotref03_Name.l0 k x0 (wrap64 (x3 + 1))))) else (if (bt x0 x3) > 122 then (if (bt x0 x3) < 48 then (if (bt x0 x3) = 46 then (entrepotref03_Name.l0 k x0 (wrap64 (x3 + 1))) else (if (bt x0 x3) = 95 then (entrepotref03_Name.l0 k x0 (wrap64 (x3 + 1))) else (if (bt x0 x3) = 45 then (entrepotref03_Name.l0 k x0 (wrap64 (x3 + 1))) else (some false)))) else (if (bt x0 x3) > 57 then (if (bt x0 x3) = 46 then (entrepotref03_Name.l0 k x0 (wrap64 (x3 + 1))) else (if (bt x0 x3) = 95 then (entrepotref03_Name.l0 k x0 (wrap64 (x3 + 1))) else (if (bt x0 x3) = 45 then (entrepotref03_Name.l0 k x0 (wrap64 (x3 + 1))) else (some false)))) else (entrepotref03_Name.l0 k x0 (wrap64 (x3 + 1))))) else (entrepotref03_Name.l0 k x0 (wrap64 (x3 + 1))))) else (if (bt x0 x3) > 90 then (if (bt x0 x3) < 97 then (if (bt x0 x3) < 48 then (if (bt x0 x3) = 46 then (entrepotref03_Name.l0 k x0 (wrap64 (x3 + 1))) else (if (bt x0 x3) = 95 then (entrepotref03_Name.l0 k x0 (wrap64 (x3 + 1))) else (if (bt x0 x3) = 45 then (entrepotref03_Name.l0 k x0 (wrap64 (x3 + 1))) else (some false)))) else (if (bt x0 x3) > 57 then (if (bt x0 x3) = 46 then (entrepotref03_Name.l0 k x0 (wrap64 (x3 + 1))) else (if (bt x0 x3) = 95 then (entrepotref03_Name.l0 k x0 (wrap64 (x3 + 1))) else (if (bt x0 x3) = 45 then (entrepotref03_Name.l0 k x0 (wrap64 (x3 + 1))) else (some false)))) else (entrepotref03_Name.l0 k x0 (wrap64 (x3 + 1))))) else (if (bt x0 x3) > 122 then (if (bt x0 x3) < 48 then (if (bt x0 x3) = 46 then (entrepotref03_Name.l0 k x0 (wrap64 (x3 + 1))) else (if (bt x0 x3) = 95 then (entrepotref03_Name.l0 k x0 (wrap64 (x3 + 1))) else (if (bt x0 x3) = 45 then (entrepotref03_Name.l0 k x0 (wrap64 (x3 + 1))) else (some false)))) else (if (bt x0 x3) > 57 then (if (bt x0 x3) = 46 then (entrepotref03_Name.l0 k x0 (wrap64 (x3 + 1))) else (if (bt x0 x3) = 95 then (entrepotref03_Name.l0 k x0 (wrap64 (x3 + 1))) else (if (bt x0 x3) = 45 then (entrepotref03_Name.l0 k x0 (wrap64 (x3 + 1))) else (some false)))) else (entrepotref03_Name.l0 k x0 (wrap64 (x3 + 1))))) else (entrepotref03_Name.l0 k x0 (wrap64 (x3 + 1))))) else (entrepotref03_Name.l0 k x0 (wrap64 (x3 + 1))))) else (none)) else (if (x0.size : Int) ≥ 1 then (some (decide ((x0.size : Int) ≤ 40))) else (some false))
def entrepotref03_Name.f (k : Nat) (a0 : ByteArray) : Option (Bool) := entrepotref03_Name.l0 k a0 0
theorem entrepotref03_Name.mono_l : ∀ k, (∀ y0 y1, LeO (entrepotref03_Name.l0 k y0 y1) (entrepotref03_Name.l0 (k + 1) y0 y1))
 | 0 => fun _ _ r h => by simp [entrepotref03_Name.l0] at h
 | k + 1 => by
  have ih0 := entrepotref03_Name.mono_l k
  ·intro y0 y1
   unfold entrepotref03_Name.l0
   repeat' first
   | (with_reducible exact ih0 _ _)
   | (with_reducible exact LeO.refl _)
   | (with_reducible exact LeO.none _)
   | (with_reducible refine LeO.ite ?_ ?_)
   | (with_reducible refine LeO.bind ?_ (fun _ => ?_))
   | exact ih0 _ _
   | exact LeO.none _
   | refine LeO.ite ?_ ?_
   | refine LeO.bind ?_ (fun _ => ?_)
theorem entrepotref03_Name.mono : ∀ a0 k, LeO (entrepotref03_Name.f k a0) (entrepotref03_Name.f (k + 1) a0) := by
 intro a0 k
 have ih0 := entrepotref03_Name.mono_l k; unfold entrepotref03_Name.f
 repeat' first
   | (with_reducible exact ih0 _ _)
   | (with_reducible exact LeO.refl _)
   | (with_reducible exact LeO.none _)
   | (with_reducible refine LeO.ite ?_ ?_)
   | (with_reducible refine LeO.bind ?_ (fun _ => ?_))
   | exact ih0 _ _
   | exact LeO.none _
   | refine LeO.ite ?_ ?_
   | refine LeO.bind ?_ (fun _ => ?_)
set_option maxHeartbeats 8000000 in
set_option maxRecDepth 100000 in
theorem entrepotref03_Name.calls (k : Nat) (a0 : ByteArray) (r : Bool) (w : World) (h : entrepotref03_Name.f k a0 = some r) :
  Calls Tryz.prog 81 #[.string a0] w fun e w' => e = .returned (.bool r) ∧ Drawn0 w w' := by
 have H : (entrepotref03_Name.l0 k a0 0) = some r := h; clear h; have H' := Aside0.mk H; clear H; go_enter Tryz.func81, Tryz.ntmps81
 go_wp2
 (try simp only [Act.put, List.setIfInBounds_toArray, List.set_cons_zero, List.set_cons_succ])
 go_loopg [3] k (fun kq v3 w' => ∃ (x3_1 : Int), v3 = .int .i64 x3_1 ∧ Aside0 (entrepotref03_Name.l0 kq a0 x3_1 = some r) ∧ Aside0 (kq ≤ k) ∧ Drawn0 w w')
 case atStart => exact ⟨(0), qr, H', ⟨Nat.le_refl _⟩, qd⟩
 case round =>
  clear H'; obtain ⟨x3_1, rfl, HA, HK1, ⟨m1, rfl⟩⟩ := hrel; cases gk with
  | zero => exact absurd HA.out (by simp [entrepotref03_Name.l0])
  | succ k1 =>
   have H := HA.out; clear HA; simp only [entrepotref03_Name.l0] at H
   by_cases c2 : x3_1 < (a0.size : Int)
   ·rw [if_pos c2] at H; have c2b0 := decide_eq_true c2; clear c2
    by_cases c3 : 0 ≤ x3_1
    ·rw [if_pos c3] at H; have c3b0 := decide_eq_true c3; clear c3
     by_cases c5 : (bt a0 x3_1) < 65
     ·rw [if_pos c5] at H; have c5b0 := decide_eq_true c5; clear c5
      by_cases c6 : (bt a0 x3_1) < 97
      ·rw [if_pos c6] at H; have c6b0 := decide_eq_true c6; clear c6
       by_cases c7 : (bt a0 x3_1) < 48
       ·rw [if_pos c7] at H; have c7b0 := decide_eq_true c7; clear c7
        by_cases c8 : (bt a0 x3_1) = 46
        ·rw [if_pos c8] at H; have c8b0 := beq_iff_eq.mpr c8; have c8b1 := bne_eq_false_iff_eq.mpr c8; clear c8; have H' := Aside0.mk H; clear H; have p4 : 0 ≤ (x3_1 : Int) := of_decide_eq_true qa; have q4 : x3_1 < (a0.size : Int) := of_decide_eq_true qa; have hx4 := bt_at a0 x3_1; replace p4 := eq_true p4; replace q4 := eq_true q4
         go_wp2
         go_roundg k1
         case measure => have := HK1.out; omega
         case rel => exact ⟨(wrap64 (x3_1 + 1)), qr, H', ⟨by have := HK1.out; omega⟩, qd⟩
        ·rw [if_neg c8] at H; have c8b0 := beq_eq_false_iff_ne.mpr c8; have c8b1 := bne_iff_ne.mpr c8
         by_cases c9 : (bt a0 x3_1) = 95
         ·rw [if_pos c9] at H; have c9b0 := beq_iff_eq.mpr c9; have c9b1 := bne_eq_false_iff_eq.mpr c9; clear c9; have H' := Aside0.mk H; clear H; have p4 : 0 ≤ (x3_1 : Int) := of_decide_eq_true qa; have q4 : x3_1 < (a0.size : Int) := of_decide_eq_true qa; have hx4 := bt_at a0 x3_1; replace p4 := eq_true p4; replace q4 := eq_true q4
          go_wp2
          go_roundg k1
          case measure => have := HK1.out; omega
          case rel => exact ⟨(wrap64 (x3_1 + 1)), qr, H', ⟨by have := HK1.out; omega⟩, qd⟩
         ·rw [if_neg c9] at H; have c9b0 := beq_eq_false_iff_ne.mpr c9; have c9b1 := bne_iff_ne.mpr c9
          by_cases c10 : (bt a0 x3_1) = 45
          ·rw [if_pos c10] at H; have c10b0 := beq_iff_eq.mpr c10; have c10b1 := bne_eq_false_iff_eq.mpr c10; clear c10; have H' := Aside0.mk H; clear H; have p4 : 0 ≤ (x3_1 : Int) := of_decide_eq_true qa; have q4 : x3_1 < (a0.size : Int) := of_decide_eq_true qa; have hx4 := bt_at a0 x3_1; replace p4 := eq_true p4; replace q4 := eq_true q4
           go_wp2
           go_roundg k1
           case measure => have := HK1.out; omega
           case rel => exact ⟨(wrap64 (x3_1 + 1)), qr, H', ⟨by have := HK1.out; omega⟩, qd⟩
          ·rw [if_neg c10] at H; have c10b0 := beq_eq_false_iff_ne.mpr c10; have c10b1 := bne_iff_ne.mpr c10; obtain rfl := Option.some.inj H; have p4 : 0 ≤ (x3_1 : Int) := of_decide_eq_true qa; have q4 : x3_1 < (a0.size : Int) := of_decide_eq_true qa; have hx4 := bt_at a0 x3_1; replace p4 := eq_true p4; replace q4 := eq_true q4
           go_wp2
           go_ret
           exact ⟨qr, qd⟩
       ·rw [if_neg c7] at H; have c7b0 := decide_eq_false c7; clear c7
        by_cases c11 : (bt a0 x3_1) > 57
        ·rw [if_pos c11] at H; have c11b0 := decide_eq_true c11; clear c11
         by_cases c12 : (bt a0 x3_1) = 46
         ·rw [if_pos c12] at H; have c12b0 := beq_iff_eq.mpr c12; have c12b1 := bne_eq_false_iff_eq.mpr c12; clear c12; have H' := Aside0.mk H; clear H; have p4 : 0 ≤ (x3_1 : Int) := of_decide_eq_true qa; have q4 : x3_1 < (a0.size : Int) := of_decide_eq_true qa; have hx4 := bt_at a0 x3_1; replace p4 := eq_true p4; replace q4 := eq_true q4
          go_wp2
          go_roundg k1
          case measure => have := HK1.out; omega
          case rel => exact ⟨(wrap64 (x3_1 + 1)), qr, H', ⟨by have := HK1.out; omega⟩, qd⟩
         ·rw [if_neg c12] at H; have c12b0 := beq_eq_false_iff_ne.mpr c12; have c12b1 := bne_iff_ne.mpr c12
          by_cases c13 : (bt a0 x3_1) = 95
          ·rw [if_pos c13] at H; have c13b0 := beq_iff_eq.mpr c13; have c13b1 := bne_eq_false_iff_eq.mpr c13; clear c13; have H' := Aside0.mk H; clear H; have p4 : 0 ≤ (x3_1 : Int) := of_decide_eq_true qa; have q4 : x3_1 < (a0.size : Int) := of_decide_eq_true qa; have hx4 := bt_at a0 x3_1; replace p4 := eq_true p4; replace q4 := eq_true q4
           go_wp2
           go_roundg k1
           case measure => have := HK1.out; omega
           case rel => exact ⟨(wrap64 (x3_1 + 1)), qr, H', ⟨by have := HK1.out; omega⟩, qd⟩
          ·rw [if_neg c13] at H; have c13b0 := beq_eq_false_iff_ne.mpr c13; have c13b1 := bne_iff_ne.mpr c13
           by_cases c14 : (bt a0 x3_1) = 45
           ·rw [if_pos c14] at H; have c14b0 := beq_iff_eq.mpr c14; have c14b1 := bne_eq_false_iff_eq.mpr c14; clear c14; have H' := Aside0.mk H; clear H; have p4 : 0 ≤ (x3_1 : Int) := of_decide_eq_true qa; have q4 : x3_1 < (a0.size : Int) := of_decide_eq_true qa; have hx4 := bt_at a0 x3_1; replace p4 := eq_true p4; replace q4 := eq_true q4
            go_wp2
            go_roundg k1
            case measure => have := HK1.out; omega
            case rel => exact ⟨(wrap64 (x3_1 + 1)), qr, H', ⟨by have := HK1.out; omega⟩, qd⟩
           ·rw [if_neg c14] at H; have c14b0 := beq_eq_false_iff_ne.mpr c14; have c14b1 := bne_iff_ne.mpr c14; obtain rfl := Option.some.inj H; have p4 : 0 ≤ (x3_1 : Int) := of_decide_eq_true qa; have q4 : x3_1 < (a0.size : Int) := of_decide_eq_true qa; have hx4 := bt_at a0 x3_1; replace p4 := eq_true p4; replace q4 := eq_true q4
            go_wp2
            go_ret
            exact ⟨qr, qd⟩
        ·rw [if_neg c11] at H; have c11b0 := decide_eq_false c11; clear c11; have H' := Aside0.mk H; clear H; have p4 : 0 ≤ (x3_1 : Int) := of_decide_eq_true qa; have q4 : x3_1 < (a0.size : Int) := of_decide_eq_true qa; have hx4 := bt_at a0 x3_1; replace p4 := eq_true p4; replace q4 := eq_true q4
         go_wp2
         go_roundg k1
         case measure => have := HK1.out; omega
         case rel => exact ⟨(wrap64 (x3_1 + 1)), qr, H', ⟨by have := HK1.out; omega⟩, qd⟩
      ·rw [if_neg c6] at H; have c6b0 := decide_eq_false c6; clear c6
       by_cases c15 : (bt a0 x3_1) > 122
       ·rw [if_pos c15] at H; have c15b0 := decide_eq_true c15; clear c15
        by_cases c16 : (bt a0 x3_1) < 48
        ·rw [if_pos c16] at H; have c16b0 := decide_eq_true c16; clear c16
         by_cases c17 : (bt a0 x3_1) = 46
         ·rw [if_pos c17] at H; have c17b0 := beq_iff_eq.mpr c17; have c17b1 := bne_eq_false_iff_eq.mpr c17; clear c17; have H' := Aside0.mk H; clear H; have p4 : 0 ≤ (x3_1 : Int) := of_decide_eq_true qa; have q4 : x3_1 < (a0.size : Int) := of_decide_eq_true qa; have hx4 := bt_at a0 x3_1; replace p4 := eq_true p4; replace q4 := eq_true q4
          go_wp2
          go_roundg k1
          case measure => have := HK1.out; omega
          case rel => exact ⟨(wrap64 (x3_1 + 1)), qr, H', ⟨by have := HK1.out; omega⟩, qd⟩
         ·rw [if_neg c17] at H; have c17b0 := beq_eq_false_iff_ne.mpr c17; have c17b1 := bne_iff_ne.mpr c17
          by_cases c18 : (bt a0 x3_1) = 95
          ·rw [if_pos c18] at H; have c18b0 := beq_iff_eq.mpr c18; have c18b1 := bne_eq_false_iff_eq.mpr c18; clear c18; have H' := Aside0.mk H; clear H; have p4 : 0 ≤ (x3_1 : Int) := of_decide_eq_true qa; have q4 : x3_1 < (a0.size : Int) := of_decide_eq_true qa; have hx4 := bt_at a0 x3_1; replace p4 := eq_true p4; replace q4 := eq_true q4
           go_wp2
           go_roundg k1
           case measure => have := HK1.out; omega
           case rel => exact ⟨(wrap64 (x3_1 + 1)), qr, H', ⟨by have := HK1.out; omega⟩, qd⟩
          ·rw [if_neg c18] at H; have c18b0 := beq_eq_false_iff_ne.mpr c18; have c18b1 := bne_iff_ne.mpr c18
           by_cases c19 : (bt a0 x3_1) = 45
           ·rw [if_pos c19] at H; have c19b0 := beq_iff_eq.mpr c19; have c19b1 := bne_eq_false_iff_eq.mpr c19; clear c19; have H' := Aside0.mk H; clear H; have p4 : 0 ≤ (x3_1 : Int) := of_decide_eq_true qa; have q4 : x3_1 < (a0.size : Int) := of_decide_eq_true qa; have hx4 := bt_at a0 x3_1; replace p4 := eq_true p4; replace q4 := eq_true q4
            go_wp2
            go_roundg k1
            case measure => have := HK1.out; omega
            case rel => exact ⟨(wrap64 (x3_1 + 1)), qr, H', ⟨by have := HK1.out; omega⟩, qd⟩
           ·rw [if_neg c19] at H; have c19b0 := beq_eq_false_iff_ne.mpr c19; have c19b1 := bne_iff_ne.mpr c19; obtain rfl := Option.some.inj H; have p4 : 0 ≤ (x3_1 : Int) := of_decide_eq_true qa; have q4 : x3_1 < (a0.size : Int) := of_decide_eq_true qa; have hx4 := bt_at a0 x3_1; replace p4 := eq_true p4; replace q4 := eq_true q4
            go_wp2
            go_ret
            exact ⟨qr, qd⟩
        ·rw [if_neg c16] at H; have c16b0 := decide_eq_false c16; clear c16
         by_cases c20 : (bt a0 x3_1) > 57
         ·rw [if_pos c20] at H; have c20b0 := decide_eq_true c20; clear c20
          by_cases c21 : (bt a0 x3_1) = 46
          ·rw [if_pos c21] at H; have c21b0 := beq_iff_eq.mpr c21; have c21b1 := bne_eq_false_iff_eq.mpr c21; clear c21; have H' := Aside0.mk H; clear H; have p4 : 0 ≤ (x3_1 : Int) := of_decide_eq_true qa; have q4 : x3_1 < (a0.size : Int) := of_decide_eq_true qa; have hx4 := bt_at a0 x3_1; replace p4 := eq_true p4; replace q4 := eq_true q4
           go_wp2
           go_roundg k1
           case measure => have := HK1.out; omega
           case rel => exact ⟨(wrap64 (x3_1 + 1)), qr, H', ⟨by have := HK1.out; omega⟩, qd⟩
          ·rw [if_neg c21] at H; have c21b0 := beq_eq_false_iff_ne.mpr c21; have c21b1 := bne_iff_ne.mpr c21
           by_cases c22 : (bt a0 x3_1) = 95
           ·rw [if_pos c22] at H; have c22b0 := beq_iff_eq.mpr c22; have c22b1 := bne_eq_false_iff_eq.mpr c22; clear c22; have H' := Aside0.mk H; clear H; have p4 : 0 ≤ (x3_1 : Int) := of_decide_eq_true qa; have q4 : x3_1 < (a0.size : Int) := of_decide_eq_true qa; have hx4 := bt_at a0 x3_1; replace p4 := eq_true p4; replace q4 := eq_true q4
            go_wp2
            go_roundg k1
            case measure => have := HK1.out; omega
            case rel => exact ⟨(wrap64 (x3_1 + 1)), qr, H', ⟨by have := HK1.out; omega⟩, qd⟩
           ·rw [if_neg c22] at H; have c22b0 := beq_eq_false_iff_ne.mpr c22; have c22b1 := bne_iff_ne.mpr c22
            by_cases c23 : (bt a0 x3_1) = 45
            ·rw [if_pos c23] at H; have c23b0 := beq_iff_eq.mpr c23; have c23b1 := bne_eq_false_iff_eq.mpr c23; clear c23; have H' := Aside0.mk H; clear H; have p4 : 0 ≤ (x3_1 : Int) := of_decide_eq_true qa; have q4 : x3_1 < (a0.size : Int) := of_decide_eq_true qa; have hx4 := bt_at a0 x3_1; replace p4 := eq_true p4; replace q4 := eq_true q4
             go_wp2
             go_roundg k1
             case measure => have := HK1.out; omega
             case rel => exact ⟨(wrap64 (x3_1 + 1)), qr, H', ⟨by have := HK1.out; omega⟩, qd⟩
            ·rw [if_neg c23] at H; have c23b0 := beq_eq_false_iff_ne.mpr c23; have c23b1 := bne_iff_ne.mpr c23; obtain rfl := Option.some.inj H; have p4 : 0 ≤ (x3_1 : Int) := of_decide_eq_true qa; have q4 : x3_1 < (a0.size : Int) := of_decide_eq_true qa; have hx4 := bt_at a0 x3_1; replace p4 := eq_true p4; replace q4 := eq_true q4
             go_wp2
             go_ret
             exact ⟨qr, qd⟩
         ·rw [if_neg c20] at H; have c20b0 := decide_eq_false c20; clear c20; have H' := Aside0.mk H; clear H; have p4 : 0 ≤ (x3_1 : Int) := of_decide_eq_true qa; have q4 : x3_1 < (a0.size : Int) := of_decide_eq_true qa; have hx4 := bt_at a0 x3_1; replace p4 := eq_true p4; replace q4 := eq_true q4
          go_wp2
          go_roundg k1
          case measure => have := HK1.out; omega
          case rel => exact ⟨(wrap64 (x3_1 + 1)), qr, H', ⟨by have := HK1.out; omega⟩, qd⟩
       ·rw [if_neg c15] at H; have c15b0 := decide_eq_false c15; clear c15; have H' := Aside0.mk H; clear H; have p4 : 0 ≤ (x3_1 : Int) := of_decide_eq_true qa; have q4 : x3_1 < (a0.size : Int) := of_decide_eq_true qa; have hx4 := bt_at a0 x3_1; replace p4 := eq_true p4; replace q4 := eq_true q4
        go_wp2
        go_roundg k1
        case measure => have := HK1.out; omega
        case rel => exact ⟨(wrap64 (x3_1 + 1)), qr, H', ⟨by have := HK1.out; omega⟩, qd⟩
     ·rw [if_neg c5] at H; have c5b0 := decide_eq_false c5; clear c5
      by_cases c24 : (bt a0 x3_1) > 90
      ·rw [if_pos c24] at H; have c24b0 := decide_eq_true c24; clear c24
       by_cases c25 : (bt a0 x3_1) < 97
       ·rw [if_pos c25] at H; have c25b0 := decide_eq_true c25; clear c25
        by_cases c26 : (bt a0 x3_1) < 48
        ·rw [if_pos c26] at H; have c26b0 := decide_eq_true c26; clear c26
         by_cases c27 : (bt a0 x3_1) = 46
         ·rw [if_pos c27] at H; have c27b0 := beq_iff_eq.mpr c27; have c27b1 := bne_eq_false_iff_eq.mpr c27; clear c27; have H' := Aside0.mk H; clear H; have p4 : 0 ≤ (x3_1 : Int) := of_decide_eq_true qa; have q4 : x3_1 < (a0.size : Int) := of_decide_eq_true qa; have hx4 := bt_at a0 x3_1; replace p4 := eq_true p4; replace q4 := eq_true q4
          go_wp2
          go_roundg k1
          case measure => have := HK1.out; omega
          case rel => exact ⟨(wrap64 (x3_1 + 1)), qr, H', ⟨by have := HK1.out; omega⟩, qd⟩
         ·rw [if_neg c27] at H; have c27b0 := beq_eq_false_iff_ne.mpr c27; have c27b1 := bne_iff_ne.mpr c27
          by_cases c28 : (bt a0 x3_1) = 95
          ·rw [if_pos c28] at H; have c28b0 := beq_iff_eq.mpr c28; have c28b1 := bne_eq_false_iff_eq.mpr c28; clear c28; have H' := Aside0.mk H; clear H; have p4 : 0 ≤ (x3_1 : Int) := of_decide_eq_true qa; have q4 : x3_1 < (a0.size : Int) := of_decide_eq_true qa; have hx4 := bt_at a0 x3_1; replace p4 := eq_true p4; replace q4 := eq_true q4
           go_wp2
           go_roundg k1
           case measure => have := HK1.out; omega
           case rel => exact ⟨(wrap64 (x3_1 + 1)), qr, H', ⟨by have := HK1.out; omega⟩, qd⟩
          ·rw [if_neg c28] at H; have c28b0 := beq_eq_false_iff_ne.mpr c28; have c28b1 := bne_iff_ne.mpr c28
           by_cases c29 : (bt a0 x3_1) = 45
           ·rw [if_pos c29] at H; have c29b0 := beq_iff_eq.mpr c29; have c29b1 := bne_eq_false_iff_eq.mpr c29; clear c29; have H' := Aside0.mk H; clear H; have p4 : 0 ≤ (x3_1 : Int) := of_decide_eq_true qa; have q4 : x3_1 < (a0.size : Int) := of_decide_eq_true qa; have hx4 := bt_at a0 x3_1; replace p4 := eq_true p4; replace q4 := eq_true q4
            go_wp2
            go_roundg k1
            case measure => have := HK1.out; omega
            case rel => exact ⟨(wrap64 (x3_1 + 1)), qr, H', ⟨by have := HK1.out; omega⟩, qd⟩
           ·rw [if_neg c29] at H; have c29b0 := beq_eq_false_iff_ne.mpr c29; have c29b1 := bne_iff_ne.mpr c29; obtain rfl := Option.some.inj H; have p4 : 0 ≤ (x3_1 : Int) := of_decide_eq_true qa; have q4 : x3_1 < (a0.size : Int) := of_decide_eq_true qa; have hx4 := bt_at a0 x3_1; replace p4 := eq_true p4; replace q4 := eq_true q4
            go_wp2
            go_ret
            exact ⟨qr, qd⟩
        ·rw [if_neg c26] at H; have c26b0 := decide_eq_false c26; clear c26
         by_cases c30 : (bt a0 x3_1) > 57
         ·rw [if_pos c30] at H; have c30b0 := decide_eq_true c30; clear c30
          by_cases c31 : (bt a0 x3_1) = 46
          ·rw [if_pos c31] at H; have c31b0 := beq_iff_eq.mpr c31; have c31b1 := bne_eq_false_iff_eq.mpr c31; clear c31; have H' := Aside0.mk H; clear H; have p4 : 0 ≤ (x3_1 : Int) := of_decide_eq_true qa; have q4 : x3_1 < (a0.size : Int) := of_decide_eq_true qa; have hx4 := bt_at a0 x3_1; replace p4 := eq_true p4; replace q4 := eq_true q4
           go_wp2
           go_roundg k1
           case measure => have := HK1.out; omega
           case rel => exact ⟨(wrap64 (x3_1 + 1)), qr, H', ⟨by have := HK1.out; omega⟩, qd⟩
          ·rw [if_neg c31] at H; have c31b0 := beq_eq_false_iff_ne.mpr c31; have c31b1 := bne_iff_ne.mpr c31
           by_cases c32 : (bt a0 x3_1) = 95
           ·rw [if_pos c32] at H; have c32b0 := beq_iff_eq.mpr c32; have c32b1 := bne_eq_false_iff_eq.mpr c32; clear c32; have H' := Aside0.mk H; clear H; have p4 : 0 ≤ (x3_1 : Int) := of_decide_eq_true qa; have q4 : x3_1 < (a0.size : Int) := of_decide_eq_true qa; have hx4 := bt_at a0 x3_1; replace p4 := eq_true p4; replace q4 := eq_true q4
            go_wp2
            go_roundg k1
            case measure => have := HK1.out; omega
            case rel => exact ⟨(wrap64 (x3_1 + 1)), qr, H', ⟨by have := HK1.out; omega⟩, qd⟩
           ·rw [if_neg c32] at H; have c32b0 := beq_eq_false_iff_ne.mpr c32; have c32b1 := bne_iff_ne.mpr c32
            by_cases c33 : (bt a0 x3_1) = 45
            ·rw [if_pos c33] at H; have c33b0 := beq_iff_eq.mpr c33; have c33b1 := bne_eq_false_iff_eq.mpr c33; clear c33; have H' := Aside0.mk H; clear H; have p4 : 0 ≤ (x3_1 : Int) := of_decide_eq_true qa; have q4 : x3_1 < (a0.size : Int) := of_decide_eq_true qa; have hx4 := bt_at a0 x3_1; replace p4 := eq_true p4; replace q4 := eq_true q4
             go_wp2
             go_roundg k1
             case measure => have := HK1.out; omega
             case rel => exact ⟨(wrap64 (x3_1 + 1)), qr, H', ⟨by have := HK1.out; omega⟩, qd⟩
            ·rw [if_neg c33] at H; have c33b0 := beq_eq_false_iff_ne.mpr c33; have c33b1 := bne_iff_ne.mpr c33; obtain rfl := Option.some.inj H; have p4 : 0 ≤ (x3_1 : Int) := of_decide_eq_true qa; have q4 : x3_1 < (a0.size : Int) := of_decide_eq_true qa; have hx4 := bt_at a0 x3_1; replace p4 := eq_true p4; replace q4 := eq_true q4
             go_wp2
             go_ret
             exact ⟨qr, qd⟩
         ·rw [if_neg c30] at H; have c30b0 := decide_eq_false c30; clear c30; have H' := Aside0.mk H; clear H; have p4 : 0 ≤ (x3_1 : Int) := of_decide_eq_true qa; have q4 : x3_1 < (a0.size : Int) := of_decide_eq_true qa; have hx4 := bt_at a0 x3_1; replace p4 := eq_true p4; replace q4 := eq_true q4
          go_wp2
          go_roundg k1
          case measure => have := HK1.out; omega
          case rel => exact ⟨(wrap64 (x3_1 + 1)), qr, H', ⟨by have := HK1.out; omega⟩, qd⟩
       ·rw [if_neg c25] at H; have c25b0 := decide_eq_false c25; clear c25
        by_cases c34 : (bt a0 x3_1) > 122
        ·rw [if_pos c34] at H; have c34b0 := decide_eq_true c34; clear c34
         by_cases c35 : (bt a0 x3_1) < 48
         ·rw [if_pos c35] at H; have c35b0 := decide_eq_true c35; clear c35
          by_cases c36 : (bt a0 x3_1) = 46
          ·rw [if_pos c36] at H; have c36b0 := beq_iff_eq.mpr c36; have c36b1 := bne_eq_false_iff_eq.mpr c36; clear c36; have H' := Aside0.mk H; clear H; have p4 : 0 ≤ (x3_1 : Int) := of_decide_eq_true qa; have q4 : x3_1 < (a0.size : Int) := of_decide_eq_true qa; have hx4 := bt_at a0 x3_1; replace p4 := eq_true p4; replace q4 := eq_true q4
           go_wp2
           go_roundg k1
           case measure => have := HK1.out; omega
           case rel => exact ⟨(wrap64 (x3_1 + 1)), qr, H', ⟨by have := HK1.out; omega⟩, qd⟩
          ·rw [if_neg c36] at H; have c36b0 := beq_eq_false_iff_ne.mpr c36; have c36b1 := bne_iff_ne.mpr c36
           by_cases c37 : (bt a0 x3_1) = 95
           ·rw [if_pos c37] at H; have c37b0 := beq_iff_eq.mpr c37; have c37b1 := bne_eq_false_iff_eq.mpr c37; clear c37; have H' := Aside0.mk H; clear H; have p4 : 0 ≤ (x3_1 : Int) := of_decide_eq_true qa; have q4 : x3_1 < (a0.size : Int) := of_decide_eq_true qa; have hx4 := bt_at a0 x3_1; replace p4 := eq_true p4; replace q4 := eq_true q4
            go_wp2
            go_roundg k1
            case measure => have := HK1.out; omega
            case rel => exact ⟨(wrap64 (x3_1 + 1)), qr, H', ⟨by have := HK1.out; omega⟩, qd⟩
           ·rw [if_neg c37] at H; have c37b0 := beq_eq_false_iff_ne.mpr c37; have c37b1 := bne_iff_ne.mpr c37
            by_cases c38 : (bt a0 x3_1) = 45
            ·rw [if_pos c38] at H; have c38b0 := beq_iff_eq.mpr c38; have c38b1 := bne_eq_false_iff_eq.mpr c38; clear c38; have H' := Aside0.mk H; clear H; have p4 : 0 ≤ (x3_1 : Int) := of_decide_eq_true qa; have q4 : x3_1 < (a0.size : Int) := of_decide_eq_true qa; have hx4 := bt_at a0 x3_1; replace p4 := eq_true p4; replace q4 := eq_true q4
             go_wp2
             go_roundg k1
             case measure => have := HK1.out; omega
             case rel => exact ⟨(wrap64 (x3_1 + 1)), qr, H', ⟨by have := HK1.out; omega⟩, qd⟩
            ·rw [if_neg c38] at H; have c38b0 := beq_eq_false_iff_ne.mpr c38; have c38b1 := bne_iff_ne.mpr c38; obtain rfl := Option.some.inj H; have p4 : 0 ≤ (x3_1 : Int) := of_decide_eq_true qa; have q4 : x3_1 < (a0.size : Int) := of_decide_eq_true qa; have hx4 := bt_at a0 x3_1; replace p4 := eq_true p4; replace q4 := eq_true q4
             go_wp2
             go_ret
             exact ⟨qr, qd⟩
         ·rw [if_neg c35] at H; have c35b0 := decide_eq_false c35; clear c35
          by_cases c39 : (bt a0 x3_1) > 57
          ·rw [if_pos c39] at H; have c39b0 := decide_eq_true c39; clear c39
           by_cases c40 : (bt a0 x3_1) = 46
           ·rw [if_pos c40] at H; have c40b0 := beq_iff_eq.mpr c40; have c40b1 := bne_eq_false_iff_eq.mpr c40; clear c40; have H' := Aside0.mk H; clear H; have p4 : 0 ≤ (x3_1 : Int) := of_decide_eq_true qa; have q4 : x3_1 < (a0.size : Int) := of_decide_eq_true qa; have hx4 := bt_at a0 x3_1; replace p4 := eq_true p4; replace q4 := eq_true q4
            go_wp2
            go_roundg k1
            case measure => have := HK1.out; omega
            case rel => exact ⟨(wrap64 (x3_1 + 1)), qr, H', ⟨by have := HK1.out; omega⟩, qd⟩
           ·rw [if_neg c40] at H; have c40b0 := beq_eq_false_iff_ne.mpr c40; have c40b1 := bne_iff_ne.mpr c40
            by_cases c41 : (bt a0 x3_1) = 95
            ·rw [if_pos c41] at H; have c41b0 := beq_iff_eq.mpr c41; have c41b1 := bne_eq_false_iff_eq.mpr c41; clear c41; have H' := Aside0.mk H; clear H; have p4 : 0 ≤ (x3_1 : Int) := of_decide_eq_true qa; have q4 : x3_1 < (a0.size : Int) := of_decide_eq_true qa; have hx4 := bt_at a0 x3_1; replace p4 := eq_true p4; replace q4 := eq_true q4
             go_wp2
             go_roundg k1
             case measure => have := HK1.out; omega
             case rel => exact ⟨(wrap64 (x3_1 + 1)), qr, H', ⟨by have := HK1.out; omega⟩, qd⟩
            ·rw [if_neg c41] at H; have c41b0 := beq_eq_false_iff_ne.mpr c41; have c41b1 := bne_iff_ne.mpr c41
             by_cases c42 : (bt a0 x3_1) = 45
             ·rw [if_pos c42] at H; have c42b0 := beq_iff_eq.mpr c42; have c42b1 := bne_eq_false_iff_eq.mpr c42; clear c42; have H' := Aside0.mk H; clear H; have p4 : 0 ≤ (x3_1 : Int) := of_decide_eq_true qa; have q4 : x3_1 < (a0.size : Int) := of_decide_eq_true qa; have hx4 := bt_at a0 x3_1; replace p4 := eq_true p4; replace q4 := eq_true q4
              go_wp2
              go_roundg k1
              case measure => have := HK1.out; omega
              case rel => exact ⟨(wrap64 (x3_1 + 1)), qr, H', ⟨by have := HK1.out; omega⟩, qd⟩
             ·rw [if_neg c42] at H; have c42b0 := beq_eq_false_iff_ne.mpr c42; have c42b1 := bne_iff_ne.mpr c42; obtain rfl := Option.some.inj H; have p4 : 0 ≤ (x3_1 : Int) := of_decide_eq_true qa; have q4 : x3_1 < (a0.size : Int) := of_decide_eq_true qa; have hx4 := bt_at a0 x3_1; replace p4 := eq_true p4; replace q4 := eq_true q4
              go_wp2
              go_ret
              exact ⟨qr, qd⟩
          ·rw [if_neg c39] at H; have c39b0 := decide_eq_false c39; clear c39; have H' := Aside0.mk H; clear H; have p4 : 0 ≤ (x3_1 : Int) := of_decide_eq_true qa; have q4 : x3_1 < (a0.size : Int) := of_decide_eq_true qa; have hx4 := bt_at a0 x3_1; replace p4 := eq_true p4; replace q4 := eq_true q4
           go_wp2
           go_roundg k1
           case measure => have := HK1.out; omega
           case rel => exact ⟨(wrap64 (x3_1 + 1)), qr, H', ⟨by have := HK1.out; omega⟩, qd⟩
        ·rw [if_neg c34] at H; have c34b0 := decide_eq_false c34; clear c34; have H' := Aside0.mk H; clear H; have p4 : 0 ≤ (x3_1 : Int) := of_decide_eq_true qa; have q4 : x3_1 < (a0.size : Int) := of_decide_eq_true qa; have hx4 := bt_at a0 x3_1; replace p4 := eq_true p4; replace q4 := eq_true q4
         go_wp2
         go_roundg k1
         case measure => have := HK1.out; omega
         case rel => exact ⟨(wrap64 (x3_1 + 1)), qr, H', ⟨by have := HK1.out; omega⟩, qd⟩
      ·rw [if_neg c24] at H; have c24b0 := decide_eq_false c24; clear c24; have H' := Aside0.mk H; clear H; have p4 : 0 ≤ (x3_1 : Int) := of_decide_eq_true qa; have q4 : x3_1 < (a0.size : Int) := of_decide_eq_true qa; have hx4 := bt_at a0 x3_1; replace p4 := eq_true p4; replace q4 := eq_true q4
       go_wp2
       go_roundg k1
       case measure => have := HK1.out; omega
       case rel => exact ⟨(wrap64 (x3_1 + 1)), qr, H', ⟨by have := HK1.out; omega⟩, qd⟩
    ·rw [if_neg c3] at H
     exact absurd H (by simp)
   ·rw [if_neg c2] at H; have c2b0 := decide_eq_false c2; clear c2
    by_cases c43 : (a0.size : Int) ≥ 1
    ·rw [if_pos c43] at H; have c43b0 := decide_eq_true c43; have c43b1 : decide (1 ≤ a0.size) = true := decide_eq_true (by omega); clear c43; obtain rfl := Option.some.inj H
     go_wp2
     go_ret
     exact ⟨qr, qd⟩
    ·rw [if_neg c43] at H; have c43b0 := decide_eq_false c43; have c43b1 : decide (1 ≤ a0.size) = false := decide_eq_false (by omega); clear c43; obtain rfl := Option.some.inj H
     go_wp2
     go_ret
     exact ⟨qr, qd⟩
mutual
def entrepotref16_PrintTour.j0 : Nat → ByteArray → Bool → List (List Int) → Option (ByteArray)
 | 0, _, _, _ => none
 | k + 1, x0, x32, x102000 => if x32 = true then (some (⟨#[]⟩ : ByteArray)) else (if 0 < (x102000.length : Int) then (if 7 + x0.size ≤ 9223372036854775807 then (if ((⟨#[78, 65, 77, 69, 32, 58, 32]⟩ : ByteArray) ++ x0).size + 25 ≤ 9223372036854775807 then ((entrepotref04_Num.f k ((rd_L14 x102000 0).length : Int)).bind fun t106 => (if (((⟨#[78, 65, 77, 69, 32, 58, 32]⟩ : ByteArray) ++ x0) ++ (⟨#[10, 84, 89, 80, 69, 32, 58, 32, 84, 79, 85, 82, 10, 68, 73, 77, 69, 78, 83, 73, 79, 78, 32, 58, 32]⟩ : ByteArray)).size + t106.size ≤ 9223372036854775807 then (if ((((⟨#[78, 65, 77, 69, 32, 58, 32]⟩ : ByteArray) ++ x0) ++ (⟨#[10, 84, 89, 80, 69, 32, 58, 32, 84, 79, 85, 82, 10, 68, 73, 77, 69, 78, 83, 73, 79, 78, 32, 58, 32]⟩ : ByteArray)) ++ t106).size + 14 ≤ 9223372036854775807 then (entrepotref16_PrintTour.l0 k (rd_L14 x102000 0) (((((⟨#[78, 65, 77, 69, 32, 58, 32]⟩ : ByteArray) ++ x0) ++ (⟨#[10, 84, 89, 80, 69, 32, 58, 32, 84, 79, 85, 82, 10, 68, 73, 77, 69, 78, 83, 73, 79, 78, 32, 58, 32]⟩ : ByteArray)) ++ t106) ++ (⟨#[10, 84, 79, 85, 82, 95, 83, 69, 67, 84, 73, 79, 78, 10]⟩ : ByteArray)) 0) else (none)) else (none))) else (none)) else (none)) else (none))
def entrepotref16_PrintTour.l0 : Nat → List Int → ByteArray → Int → Option (ByteArray)
 | 0, _, _, _ => none
 | k + 1, x5, x6, x7 => if x7 < (x5.length : Int) then (if 0 ≤ x7 then (if (rd x5 x7) < 0 then (some (⟨#[]⟩ : ByteArray)) else (if (rd x5 x7) ≥ (x5.length : Int) then (some (⟨#[]⟩ : ByteArray)) else ((entrepotref04_Num.f k (wrap64 ((rd x5 x7) + 1))).bind fun t110 => (if x6.size + t110.size ≤ 9223372036854775807 then (if (x6 ++ t110).size + 1 ≤ 9223372036854775807 then (entrepotref16_PrintTour.l0 k x5 ((x6 ++ t110) ++ (⟨#[10]⟩ : ByteArray)) (wrap64 (x7 + 1))) else (none)) else (none))))) else (none)) else (if x6.size + 7 ≤ 9223372036854775807 then (some (x6 ++ (⟨#[45, 49, 10, 69, 79, 70, 10]⟩ : ByteArray))) else (none))
end
def entrepotref16_PrintTour.f (k : Nat) (a0 : ByteArray) (l1_0 : List (List Int)) : Option (ByteArray) := (entrepotref03_Name.f k a0).bind fun t102 => (if t102 = true then (if (l1_0.length : Int) = 1 then (if 0 < (l1_0.length : Int) then (if ((rd_L14 l1_0 0).length : Int) < 1 then (entrepotref16_PrintTour.j0 k a0 true l1_0) else (entrepotref16_PrintTour.j0 k a0 (decide (((rd_L14 l1_0 0).length : Int) > 400)) l1_0)) else (none)) else (entrepotref16_PrintTour.j0 k a0 true l1_0)) else (entrepotref16_PrintTour.j0 k a0 true l1_0))
theorem entrepotref16_PrintTour.mono_l : ∀ k, (∀ y0 y1 y2, LeO (entrepotref16_PrintTour.j0 k y0 y1 y2) (entrepotref16_PrintTour.j0 (k + 1) y0 y1 y2)) ∧ (∀ y0 y1 y2, LeO (entrepotref16_PrintTour.l0 k y0 y1 y2) (entrepotref16_PrintTour.l0 (k + 1) y0 y1 y2))
 | 0 => ⟨fun _ _ _ r h => by simp [entrepotref16_PrintTour.j0] at h, fun _ _ _ r h => by simp [entrepotref16_PrintTour.l0] at h⟩
 | k + 1 => by
  obtain ⟨ih0, ih1⟩ := entrepotref16_PrintTour.mono_l k; refine ⟨?_, ?_⟩
  ·intro y0 y1 y2
   unfold entrepotref16_PrintTour.j0
   repeat' first
   | (with_reducible exact ih0 _ _ _)
   | (with_reducible exact ih1 _ _ _)
   | (with_reducible exact entrepotref03_Name.mono _ _)
   | (with_reducible exact entrepotref04_Num.mono _ _)
   | (with_reducible exact LeO.refl _)
   | (with_reducible exact LeO.none _)
   | (with_reducible refine LeO.ite ?_ ?_)
   | (with_reducible refine LeO.bind ?_ (fun _ => ?_))
   | exact ih0 _ _ _
   | exact ih1 _ _ _
   | exact entrepotref03_Name.mono _ _
   | exact entrepotref04_Num.mono _ _
   | exact LeO.none _
   | refine LeO.ite ?_ ?_
   | refine LeO.bind ?_ (fun _ => ?_)
  ·intro y0 y1 y2
   unfold entrepotref16_PrintTour.l0
   repeat' first
   | (with_reducible exact ih0 _ _ _)
   | (with_reducible exact ih1 _ _ _)
   | (with_reducible exact entrepotref03_Name.mono _ _)
   | (with_reducible exact entrepotref04_Num.mono _ _)
   | (with_reducible exact LeO.refl _)
   | (with_reducible exact LeO.none _)
   | (with_reducible refine LeO.ite ?_ ?_)
   | (with_reducible refine LeO.bind ?_ (fun _ => ?_))
   | exact ih0 _ _ _
   | exact ih1 _ _ _
   | exact entrepotref03_Name.mono _ _
   | exact entrepotref04_Num.mono _ _
   | exact LeO.none _
   | refine LeO.ite ?_ ?_
   | refine LeO.bind ?_ (fun _ => ?_)
theorem entrepotref16_PrintTour.mono : ∀ a0 a1 k, LeO (entrepotref16_PrintTour.f k a0 a1) (entrepotref16_PrintTour.f (k + 1) a0 a1) := by
 intro a0 a1 k
 obtain ⟨ih0, ih1⟩ := entrepotref16_PrintTour.mono_l k; unfold entrepotref16_PrintTour.f
 repeat' first
   | (with_reducible exact ih0 _ _ _)
   | (with_reducible exact ih1 _ _ _)
   | (with_reducible exact entrepotref03_Name.mono _ _)
   | (with_reducible exact entrepotref04_Num.mono _ _)
   | (with_reducible exact LeO.refl _)
   | (with_reducible exact LeO.none _)
   | (with_reducible refine LeO.ite ?_ ?_)
   | (with_reducible refine LeO.bind ?_ (fun _ => ?_))
   | exact ih0 _ _ _
   | exact ih1 _ _ _
   | exact entrepotref03_Name.mono _ _
   | exact entrepotref04_Num.mono _ _
   | exact LeO.none _
   | refine LeO.ite ?_ ?_
   | refine LeO.bind ?_ (fun _ => ?_)
set_option maxHeartbeats 8000000 in
set_option maxRecDepth 100000 in
theorem entrepotref16_PrintTour.calls (k : Nat) (a0 : ByteArray) (A1_0 : Option Addr) (c1_0 : Nat) (l1_0 : List (List Int)) (r : ByteArray) (w : World) (hr1_0 : Kd.C (Kd.slice 3 (Kd.int .i64)) w A1_0 l1_0.length l1_0) (hc1_0 : l1_0.length ≤ c1_0) (h : entrepotref16_PrintTour.f k a0 l1_0 = some r) :
  Calls Tryz.prog 42 #[.string a0, .agg #[.slice A1_0 l1_0.length c1_0]] w fun e w' => e = .returned (.string r) ∧ Below w.heap.size w w' := by
 have hu73 := Tryz.underlying73; have HR1_0 := Aside0.mk hr1_0; have HC1_0 := Aside0.mk hc1_0; clear hr1_0 hc1_0; have HB := Aside0.mk (Below.refl w.heap.size w); have H : ((entrepotref03_Name.f k a0).bind fun t102 => (if t102 = true then (if (l1_0.length : Int) = 1 then (if 0 < (l1_0.length : Int) then (if ((rd_L14 l1_0 0).length : Int) < 1 then (entrepotref16_PrintTour.j0 k a0 true l1_0) else (entrepotref16_PrintTour.j0 k a0 (decide (((rd_L14 l1_0 0).length : Int) > 400)) l1_0)) else (none)) else (entrepotref16_PrintTour.j0 k a0 true l1_0)) else (entrepotref16_PrintTour.j0 k a0 true l1_0))) = some r := h; clear h; have HC3 := Aside0.mk H; clear H; go_enter Tryz.func42, Tryz.ntmps42
 go_upto_region 1 with (first | ((with_reducible refine gate_dst (N := 3) rfl ?_); (try (refine gate_guard (by rfl) ?_; dsimp only)); refine box_ev (N := 3) (cs := #[.slice A1_0 l1_0.length c1_0]) (t := 73) ?_; intro gb101 hg w4 hbox hb; have BK101 := Aside0.mk (hbox); have GW101 := Aside0.mk ((qg : w.heap.size ≤ gb101)); have GE101 := Aside0.mk ((qg : w.heap.size ≤ gb101)); replace HB := cB HB hb; clear hb hbox hg))
 (try simp only [Act.put, List.setIfInBounds_toArray, List.set_cons_zero, List.set_cons_succ])
 go_cut [32] (fun v32 wc => ∃ (kq : Nat) (x32_2 : Bool), v32 = .bool x32_2 ∧ Aside0 (entrepotref16_PrintTour.j0 kq a0 x32_2 l1_0 = some r) ∧ Aside0 (kq ≤ k) ∧ Aside0 (wc.heap[gb101]? = some (.cells #[(.slice A1_0 l1_0.length c1_0)] 73 (0, 0))) ∧ Aside0 (Below w.heap.size w wc))
 case first =>
  have H := HC3.out; clear HC3; replace H := Option.bind_eq_some_iff.mp H; obtain ⟨t102, A50, H⟩ := H; (try dsimp only at H); have A5 := Aside0.mk A50; clear A50
  by_cases c6 : t102 = true
  ·subst c6; have H1 : (if (l1_0.length : Int) = 1 then (if 0 < (l1_0.length : Int) then (if ((rd_L14 l1_0 0).length : Int) < 1 then (entrepotref16_PrintTour.j0 k a0 true l1_0) else (entrepotref16_PrintTour.j0 k a0 (decide (((rd_L14 l1_0 0).length : Int) > 400)) l1_0)) else (none)) else (entrepotref16_PrintTour.j0 k a0 true l1_0)) = some r := by rw [if_pos rfl] at H; exact H
   clear H; have H := H1; clear H1
   by_cases c7 : (l1_0.length : Int) = 1
   ·rw [if_pos c7] at H; have c7b0 := beq_iff_eq.mpr c7; have c7b1 := bne_eq_false_iff_eq.mpr c7; clear c7; (first | rw [c7b0] | (simp only [i64_w, i32_w]; rw [c7b0]) | skip)
    by_cases c8 : 0 < (l1_0.length : Int)
    ·rw [if_pos c8] at H; have c8b0 := decide_eq_true c8; have c8b1 : decide (0 < l1_0.length) = true := decide_eq_true (by omega); clear c8
     by_cases c9 : ((rd_L14 l1_0 0).length : Int) < 1
     ·rw [if_pos c9] at H; have c9b0 := decide_eq_true c9; have c9b1 : decide ((rd_L14 l1_0 0).length < 1) = true := decide_eq_true (by omega); clear c9; have H' := Aside0.mk H; clear H
      go_wp2_with (first | ((with_reducible refine gate_callee (f := 81) rfl ?_); refine goesL_ (some 9) rfl rfl Tryz.func81 (by kernel_rfl) rfl #[.string a0] rfl qm ?_; (with_reducible refine (entrepotref03_Name.calls k a0 true _ A5.out).mono ?_); rintro e w' ⟨rfl, ⟨nd, rfl⟩⟩; refine ⟨_, rfl, ?_⟩; have hcz10_0 : w4.cell? ⟨gb101, 0, none⟩ = some (.slice A1_0 l1_0.length c1_0) := (blk_cell BK101.out 0).trans rfl; have hfz10_0 := blk_frozen BK101.out 0; have p103 : 0 ≤ (0 : Int) := (by omega); have q103 : 0 < (l1_0.length : Int) := of_decide_eq_true qa; obtain ⟨ad103, A103_0, c103_0, e103, hx103_0, hl103_0, hi103_0⟩ := at_L14 HR1_0.out 0 p103 q103; cases e103; have qi103 : (0 < l1_0.length) = True := eq_true (by omega); (try rw [show ((0 : Int)).toNat = 0 from rfl] at hx103_0); (try rw [Addr.add_zero'] at hx103_0); replace hx103_0 := (HB.out.cell (World.block_lt_of_cell? w _ hx103_0)).trans hx103_0; have HR103_0 := Aside0.mk hi103_0; have HC103_0 := Aside0.mk hl103_0; clear hi103_0 hl103_0; (try simp only [Go.IntWalk.toNatUp] at hx103_0); replace p103 := eq_true p103; replace q103 := eq_true q103))
      go_meet
      case rel => exact ⟨_, (true), qr, H', ⟨by first | omega | exact Nat.le_refl _⟩, ⟨qk BK101.out⟩, ⟨qb⟩⟩
     ·rw [if_neg c9] at H; have c9b0 := decide_eq_false c9; have c9b1 : decide ((rd_L14 l1_0 0).length < 1) = false := decide_eq_false (by omega); clear c9; have H' := Aside0.mk H; clear H
      go_wp2_with (first | ((with_reducible refine gate_callee (f := 81) rfl ?_); refine goesL_ (some 9) rfl rfl Tryz.func81 (by kernel_rfl) rfl #[.string a0] rfl qm ?_; (with_reducible refine (entrepotref03_Name.calls k a0 true _ A5.out).mono ?_); rintro e w' ⟨rfl, ⟨nd, rfl⟩⟩; refine ⟨_, rfl, ?_⟩; have hcz11_0 : w4.cell? ⟨gb101, 0, none⟩ = some (.slice A1_0 l1_0.length c1_0) := (blk_cell BK101.out 0).trans rfl; have hfz11_0 := blk_frozen BK101.out 0; have p103 : 0 ≤ (0 : Int) := (by omega); have q103 : 0 < (l1_0.length : Int) := of_decide_eq_true qa; obtain ⟨ad103, A103_0, c103_0, e103, hx103_0, hl103_0, hi103_0⟩ := at_L14 HR1_0.out 0 p103 q103; cases e103; have qi103 : (0 < l1_0.length) = True := eq_true (by omega); (try rw [show ((0 : Int)).toNat = 0 from rfl] at hx103_0); (try rw [Addr.add_zero'] at hx103_0); replace hx103_0 := (HB.out.cell (World.block_lt_of_cell? w _ hx103_0)).trans hx103_0; have HR103_0 := Aside0.mk hi103_0; have HC103_0 := Aside0.mk hl103_0; clear hi103_0 hl103_0; (try simp only [Go.IntWalk.toNatUp] at hx103_0); replace p103 := eq_true p103; replace q103 := eq_true q103; have p104 : 0 ≤ (0 : Int) := (by omega); have q104 : 0 < (l1_0.length : Int) := of_decide_eq_true qa; obtain ⟨ad104, A104_0, c104_0, e104, hx104_0, hl104_0, hi104_0⟩ := at_L14 HR1_0.out 0 p104 q104; obtain rfl : ad103 = ad104 := (by injection e104); have qi104 : (0 < l1_0.length) = True := eq_true (by omega); (try rw [show ((0 : Int)).toNat = 0 from rfl] at hx104_0); (try rw [Addr.add_zero'] at hx104_0); replace hx104_0 := (HB.out.cell (World.block_lt_of_cell? w _ hx104_0)).trans hx104_0; have HR104_0 := Aside0.mk hi104_0; have HC104_0 := Aside0.mk hl104_0; clear hi104_0 hl104_0; (try simp only [Go.IntWalk.toNatUp] at hx104_0); replace p104 := eq_true p104; replace q104 := eq_true q104; have ea_ := Option.some.inj (hx103_0.symm.trans hx104_0); injection ea_ with ea_ en_ ec_; subst ea_; subst ec_; clear en_))
      go_meet
      case rel => exact ⟨_, (decide (((rd_L14 l1_0 0).length : Int) > 400)), qr, H', ⟨by first | omega | exact Nat.le_refl _⟩, ⟨qk BK101.out⟩, ⟨qb⟩⟩
    ·rw [if_neg c8] at H
     exact absurd H (by simp)
   ·rw [if_neg c7] at H; have c7b0 := beq_eq_false_iff_ne.mpr c7; have c7b1 := bne_iff_ne.mpr c7; (first | rw [c7b0] | (simp only [i64_w, i32_w]; rw [c7b0]) | skip); have H' := Aside0.mk H; clear H
    go_wp2_with (first | ((with_reducible refine gate_callee (f := 81) rfl ?_); refine goesL_ (some 9) rfl rfl Tryz.func81 (by kernel_rfl) rfl #[.string a0] rfl qm ?_; (with_reducible refine (entrepotref03_Name.calls k a0 true _ A5.out).mono ?_); rintro e w' ⟨rfl, ⟨nd, rfl⟩⟩; refine ⟨_, rfl, ?_⟩; have hcz12_0 : w4.cell? ⟨gb101, 0, none⟩ = some (.slice A1_0 l1_0.length c1_0) := (blk_cell BK101.out 0).trans rfl; have hfz12_0 := blk_frozen BK101.out 0))
    go_meet
    case rel => exact ⟨_, (true), qr, H', ⟨by first | omega | exact Nat.le_refl _⟩, ⟨qk BK101.out⟩, ⟨qb⟩⟩
  ·replace c6 := Bool.eq_false_iff.mpr c6; subst c6; have H1 : (entrepotref16_PrintTour.j0 k a0 true l1_0) = some r := by rw [if_neg (show ¬ (false = true) by decide)] at H; exact H
   clear H; have H := H1; clear H1; have H' := Aside0.mk H; clear H
   go_wp2_with (first | ((with_reducible refine gate_callee (f := 81) rfl ?_); refine goesL_ (some 9) rfl rfl Tryz.func81 (by kernel_rfl) rfl #[.string a0] rfl qm ?_; (with_reducible refine (entrepotref03_Name.calls k a0 false _ A5.out).mono ?_); rintro e w' ⟨rfl, ⟨nd, rfl⟩⟩; refine ⟨_, rfl, ?_⟩))
   go_meet
   case rel => exact ⟨_, (true), qr, H', ⟨by first | omega | exact Nat.le_refl _⟩, ⟨qk BK101.out⟩, ⟨qb⟩⟩
 case rest =>
  clear HC3; (try clear c1); (try clear p1); (try clear q1); (try clear hx1); (try clear qi1); (try clear p2); (try clear c4); (try clear c6); (try clear c7); (try clear c7b0); (try clear c7b1); (try clear c8); (try clear c8b0); (try clear c8b1); (try clear c9); (try clear c9b0); (try clear c9b1); (try clear c10); (try clear p10); (try clear q10); (try clear hx10); (try clear qi10); (try clear hcz10_0); (try clear hcz11_0); (try clear hcz12_0); (try clear hfz10_0); (try clear hfz11_0); (try clear hfz12_0); (try clear hx103_0); (try clear hx104_0); (try clear p103); (try clear p104); (try clear q103); (try clear q104); obtain ⟨kq, x32_2, rfl, HA, HJ2, BK101, HB⟩ := hcut; cases kq with
  | zero => exact absurd HA.out (by simp [entrepotref16_PrintTour.j0])
  | succ kj2 =>
   have H := HA.out; clear HA; simp only [entrepotref16_PrintTour.j0] at H
   by_cases c13 : x32_2 = true
   ·subst c13; have H1 : (some (⟨#[]⟩ : ByteArray)) = some r := by rw [if_pos rfl] at H; exact H
    clear H; have H := H1; clear H1; obtain rfl := Option.some.inj H
    go_wp2
    go_ret
    exact ⟨qe, qb⟩
   ·replace c13 := Bool.eq_false_iff.mpr c13; subst c13; have H1 : (if 0 < (l1_0.length : Int) then (if 7 + a0.size ≤ 9223372036854775807 then (if ((⟨#[78, 65, 77, 69, 32, 58, 32]⟩ : ByteArray) ++ a0).size + 25 ≤ 9223372036854775807 then ((entrepotref04_Num.f kj2 ((rd_L14 l1_0 0).length : Int)).bind fun t106 => (if (((⟨#[78, 65, 77, 69, 32, 58, 32]⟩ : ByteArray) ++ a0) ++ (⟨#[10, 84, 89, 80, 69, 32, 58, 32, 84, 79, 85, 82, 10, 68, 73, 77, 69, 78, 83, 73, 79, 78, 32, 58, 32]⟩ : ByteArray)).size + t106.size ≤ 9223372036854775807 then (if ((((⟨#[78, 65, 77, 69, 32, 58, 32]⟩ : ByteArray) ++ a0) ++ (⟨#[10, 84, 89, 80, 69, 32, 58, 32, 84, 79, 85, 82, 10, 68, 73, 77, 69, 78, 83, 73, 79, 78, 32, 58, 32]⟩ : ByteArray)) ++ t106).size + 14 ≤ 9223372036854775807 then (entrepotref16_PrintTour.l0 kj2 (rd_L14 l1_0 0) (((((⟨#[78, 65, 77, 69, 32, 58, 32]⟩ : ByteArray) ++ a0) ++ (⟨#[10, 84, 89, 80, 69, 32, 58, 32, 84, 79, 85, 82, 10, 68, 73, 77, 69, 78, 83, 73, 79, 78, 32, 58, 32]⟩ : ByteArray)) ++ t106) ++ (⟨#[10, 84, 79, 85, 82, 95, 83, 69, 67, 84, 73, 79, 78, 10]⟩ : ByteArray)) 0) else (none)) else (none))) else (none)) else (none)) else (none)) = some r := by rw [if_neg (show ¬ (false = true) by decide)] at H; exact H
    clear H; have H := H1; clear H1
    by_cases c14 : 0 < (l1_0.length : Int)
    ·rw [if_pos c14] at H; have c14b0 := decide_eq_true c14; have c14b1 : decide (0 < l1_0.length) = true := decide_eq_true (by omega); clear c14
     by_cases c15 : 7 + a0.size ≤ 9223372036854775807
     ·rw [if_pos c15] at H; have c15b0 := eq_true c15; have c15b1 := decide_eq_true c15
      try have c15b2 : (9223372036854775807 < 7 + a0.size) = False := eq_false (Nat.not_lt.2 c15)
      by_cases c16 : ((⟨#[78, 65, 77, 69, 32, 58, 32]⟩ : ByteArray) ++ a0).size + 25 ≤ 9223372036854775807
      ·rw [if_pos c16] at H; have c16s : 7 + a0.size + 25 ≤ 9223372036854775807 := by (have z_ := c16); simp only [ByteArray.size_append] at z_; exact z_
       replace c16s := eq_true c16s
       try have c16t := eq_false (Nat.not_lt.2 (of_eq_true c16s))
       have c16b0 := eq_true c16; have c16b1 := decide_eq_true c16
       try have c16b2 : (9223372036854775807 < ((⟨#[78, 65, 77, 69, 32, 58, 32]⟩ : ByteArray) ++ a0).size + 25) = False := eq_false (Nat.not_lt.2 c16)
       replace H := Option.bind_eq_some_iff.mp H; obtain ⟨t106, A170, H⟩ := H; (try dsimp only at H); have A17 := Aside0.mk A170; clear A170
       by_cases c18 : (((⟨#[78, 65, 77, 69, 32, 58, 32]⟩ : ByteArray) ++ a0) ++ (⟨#[10, 84, 89, 80, 69, 32, 58, 32, 84, 79, 85, 82, 10, 68, 73, 77, 69, 78, 83, 73, 79, 78, 32, 58, 32]⟩ : ByteArray)).size + t106.size ≤ 9223372036854775807
       ·rw [if_pos c18] at H; have c18s : 7 + a0.size + 25 + t106.size ≤ 9223372036854775807 := by (have z_ := c18); simp only [ByteArray.size_append] at z_; exact z_
        replace c18s := eq_true c18s
        try have c18t := eq_false (Nat.not_lt.2 (of_eq_true c18s))
        have c18b0 := eq_true c18; have c18b1 := decide_eq_true c18
        try have c18b2 : (9223372036854775807 < (((⟨#[78, 65, 77, 69, 32, 58, 32]⟩ : ByteArray) ++ a0) ++ (⟨#[10, 84, 89, 80, 69, 32, 58, 32, 84, 79, 85, 82, 10, 68, 73, 77, 69, 78, 83, 73, 79, 78, 32, 58, 32]⟩ : ByteArray)).size + t106.size) = False := eq_false (Nat.not_lt.2 c18)
        by_cases c19 : ((((⟨#[78, 65, 77, 69, 32, 58, 32]⟩ : ByteArray) ++ a0) ++ (⟨#[10, 84, 89, 80, 69, 32, 58, 32, 84, 79, 85, 82, 10, 68, 73, 77, 69, 78, 83, 73, 79, 78, 32, 58, 32]⟩ : ByteArray)) ++ t106).size + 14 ≤ 9223372036854775807
        ·rw [if_pos c19] at H; have c19s : 7 + a0.size + 25 + t106.size + 14 ≤ 9223372036854775807 := by (have z_ := c19); simp only [ByteArray.size_append] at z_; exact z_
         replace c19s := eq_true c19s
         try have c19t := eq_false (Nat.not_lt.2 (of_eq_true c19s))
         have c19b0 := eq_true c19; have c19b1 := decide_eq_true c19
         try have c19b2 : (9223372036854775807 < ((((⟨#[78, 65, 77, 69, 32, 58, 32]⟩ : ByteArray) ++ a0) ++ (⟨#[10, 84, 89, 80, 69, 32, 58, 32, 84, 79, 85, 82, 10, 68, 73, 77, 69, 78, 83, 73, 79, 78, 32, 58, 32]⟩ : ByteArray)) ++ t106).size + 14) = False := eq_false (Nat.not_lt.2 c19)
         have H' := Aside0.mk H; clear H; obtain ⟨hcz20_0, hfz20_0⟩ := bc1 BK101.out; have p105 : 0 ≤ (0 : Int) := (by omega); have q105 : 0 < (l1_0.length : Int) := of_decide_eq_true qa; obtain ⟨ad105, A105_0, c105_0, e105, hx105_0, hl105_0, hi105_0⟩ := at_L14 HR1_0.out 0 p105 q105; cases e105; have qi105 : (0 < l1_0.length) = True := eq_true (by omega); (try rw [show ((0 : Int)).toNat = 0 from rfl] at hx105_0); (try rw [Addr.add_zero'] at hx105_0); replace hx105_0 := (HB.out.cell (World.block_lt_of_cell? w _ hx105_0)).trans hx105_0; have HR105_0 := Aside0.mk hi105_0; have HC105_0 := Aside0.mk hl105_0; clear hi105_0 hl105_0; (try simp only [Go.IntWalk.toNatUp] at hx105_0); replace p105 := eq_true p105; replace q105 := eq_true q105
         go_wp2_with (first | ((with_reducible refine gate_callee (f := 27) rfl ?_); refine goesL_ (some 42) rfl rfl Tryz.func27 (by kernel_rfl) rfl #[.int .i64 ((rd_L14 l1_0 0).length : Int)] rfl qm ?_; (with_reducible refine (entrepotref04_Num.calls kj2 ((rd_L14 l1_0 0).length : Int) t106 _ A17.out).mono ?_); rintro e w21 ⟨rfl, hb⟩; refine ⟨_, rfl, ?_⟩; replace BK101 := cK BK101 hb; replace HB := cB HB hb; (try clear hb); (try clear hb2); (try clear hk); (try clear hi)))
         (try simp only [Act.put, List.setIfInBounds_toArray, List.set_cons_zero, List.set_cons_succ])
         go_loopg [6, 7] kj2 (fun kq v6 v7 w' => ∃ (x6_2 : ByteArray) (x7_2 : Int), v6 = .string x6_2 ∧ v7 = .int .i64 x7_2 ∧ Aside0 (entrepotref16_PrintTour.l0 kq (rd_L14 l1_0 0) x6_2 x7_2 = some r) ∧ Aside0 (kq ≤ kj2) ∧ Aside0 (w'.heap[gb101]? = some (.cells #[(.slice (some ad105) l1_0.length c1_0)] 73 (0, 0))) ∧ Aside0 (Below w.heap.size w w'))
         case atStart => exact ⟨(((((⟨#[78, 65, 77, 69, 32, 58, 32]⟩ : ByteArray) ++ a0) ++ (⟨#[10, 84, 89, 80, 69, 32, 58, 32, 84, 79, 85, 82, 10, 68, 73, 77, 69, 78, 83, 73, 79, 78, 32, 58, 32]⟩ : ByteArray)) ++ t106) ++ (⟨#[10, 84, 79, 85, 82, 95, 83, 69, 67, 84, 73, 79, 78, 10]⟩ : ByteArray)), (0), qr, qr, H', ⟨Nat.le_refl _⟩, ⟨qk BK101.out⟩, ⟨qb⟩⟩
         case round =>
          clear H'; (try clear c1); (try clear p1); (try clear q1); (try clear hx1); (try clear qi1); (try clear c2); (try clear p2); (try clear c4); (try clear c6); (try clear c7); (try clear c7b0); (try clear c7b1); (try clear c8); (try clear c8b0); (try clear c8b1); (try clear c9); (try clear c9b0); (try clear c9b1); (try clear c10); (try clear p10); (try clear q10); (try clear hx10); (try clear qi10); (try clear c13); (try clear c14); (try clear c14b0); (try clear c14b1); (try clear c15); (try clear c15b0); (try clear c15b1); (try clear c15b2); (try clear c16); (try clear c16b0); (try clear c16b1); (try clear c16b2); (try clear c18); (try clear c18b0); (try clear c18b1); (try clear c18b2); (try clear c19); (try clear c19b0); (try clear c19b1); (try clear c19b2); (try clear hcz10_0); (try clear hcz11_0); (try clear hcz12_0); (try clear hcz20_0); (try clear hfz10_0); (try clear hfz11_0); (try clear hfz12_0); (try clear hfz20_0); (try clear hx103_0); (try clear hx104_0); (try clear hx105_0); (try clear p1); (try clear p10); (try clear p103); (try clear p104); (try clear p105); (try clear p2); (try clear q1); (try clear q10); (try clear q103); (try clear q104); (try clear q105); obtain ⟨x6_2, x7_2, rfl, rfl, HA, HK2, BK101, HB⟩ := hrel; cases gk with
          | zero => exact absurd HA.out (by simp [entrepotref16_PrintTour.l0])
          | succ k2 =>
           have H := HA.out; clear HA; simp only [entrepotref16_PrintTour.l0] at H
           by_cases c22 : x7_2 < ((rd_L14 l1_0 0).length : Int)
           ·rw [if_pos c22] at H; have c22b0 := decide_eq_true c22; clear c22
            by_cases c23 : 0 ≤ x7_2
            ·rw [if_pos c23] at H; have c23b0 := decide_eq_true c23; clear c23
             by_cases c24 : (rd (rd_L14 l1_0 0) x7_2) < 0
             ·rw [if_pos c24] at H; have c24b0 := decide_eq_true c24; clear c24; obtain rfl := Option.some.inj H; have p107 : 0 ≤ (x7_2 : Int) := of_decide_eq_true qa; have q107 : x7_2 < ((rd_L14 l1_0 0).length : Int) := of_decide_eq_true qa; obtain ⟨ad107, e107, hx107_0⟩ := Kd.at_int HR105_0.out x7_2 p107 q107; cases e107; replace hx107_0 := (HB.out.cell (World.block_lt_of_cell? w _ hx107_0)).trans hx107_0; (try simp only [Go.IntWalk.toNatUp] at hx107_0); replace p107 := eq_true p107; replace q107 := eq_true q107
              go_wp2
              go_ret
              exact ⟨qe, qb⟩
             ·rw [if_neg c24] at H; have c24b0 := decide_eq_false c24; clear c24
              by_cases c25 : (rd (rd_L14 l1_0 0) x7_2) ≥ ((rd_L14 l1_0 0).length : Int)
              ·rw [if_pos c25] at H; have c25b0 := decide_eq_true c25; clear c25; obtain rfl := Option.some.inj H; have p107 : 0 ≤ (x7_2 : Int) := of_decide_eq_true qa; have q107 : x7_2 < ((rd_L14 l1_0 0).length : Int) := of_decide_eq_true qa; obtain ⟨ad107, e107, hx107_0⟩ := Kd.at_int HR105_0.out x7_2 p107 q107; cases e107; replace hx107_0 := (HB.out.cell (World.block_lt_of_cell? w _ hx107_0)).trans hx107_0; (try simp only [Go.IntWalk.toNatUp] at hx107_0); replace p107 := eq_true p107; replace q107 := eq_true q107; have p108 : 0 ≤ (x7_2 : Int) := of_decide_eq_true qa; have q108 : x7_2 < ((rd_L14 l1_0 0).length : Int) := of_decide_eq_true qa; obtain ⟨ad108, e108, hx108_0⟩ := Kd.at_int HR105_0.out x7_2 p108 q108; obtain rfl : ad107 = ad108 := (by injection e108); replace hx108_0 := (HB.out.cell (World.block_lt_of_cell? w _ hx108_0)).trans hx108_0; (try simp only [Go.IntWalk.toNatUp] at hx108_0); replace p108 := eq_true p108; replace q108 := eq_true q108
               go_wp2
               go_ret
               exact ⟨qe, qb⟩
              ·rw [if_neg c25] at H; have c25b0 := decide_eq_false c25; clear c25; replace H := Option.bind_eq_some_iff.mp H; obtain ⟨t110, A260, H⟩ := H; (try dsimp only at H); have A26 := Aside0.mk A260; clear A260
               by_cases c27 : x6_2.size + t110.size ≤ 9223372036854775807
               ·rw [if_pos c27] at H; have c27b0 := eq_true c27; have c27b1 := decide_eq_true c27
                try have c27b2 : (9223372036854775807 < x6_2.size + t110.size) = False := eq_false (Nat.not_lt.2 c27)
                by_cases c28 : (x6_2 ++ t110).size + 1 ≤ 9223372036854775807
                ·rw [if_pos c28] at H; have c28s : x6_2.size + t110.size + 1 ≤ 9223372036854775807 := by (have z_ := c28); simp only [ByteArray.size_append] at z_; exact z_
                 replace c28s := eq_true c28s
                 try have c28t := eq_false (Nat.not_lt.2 (of_eq_true c28s))
                 have c28b0 := eq_true c28; have c28b1 := decide_eq_true c28
                 try have c28b2 : (9223372036854775807 < (x6_2 ++ t110).size + 1) = False := eq_false (Nat.not_lt.2 c28)
                 have H' := Aside0.mk H; clear H; have p107 : 0 ≤ (x7_2 : Int) := of_decide_eq_true qa; have q107 : x7_2 < ((rd_L14 l1_0 0).length : Int) := of_decide_eq_true qa; obtain ⟨ad107, e107, hx107_0⟩ := Kd.at_int HR105_0.out x7_2 p107 q107; cases e107; replace hx107_0 := (HB.out.cell (World.block_lt_of_cell? w _ hx107_0)).trans hx107_0; (try simp only [Go.IntWalk.toNatUp] at hx107_0); replace p107 := eq_true p107; replace q107 := eq_true q107; have p108 : 0 ≤ (x7_2 : Int) := of_decide_eq_true qa; have q108 : x7_2 < ((rd_L14 l1_0 0).length : Int) := of_decide_eq_true qa; obtain ⟨ad108, e108, hx108_0⟩ := Kd.at_int HR105_0.out x7_2 p108 q108; obtain rfl : ad107 = ad108 := (by injection e108); replace hx108_0 := (HB.out.cell (World.block_lt_of_cell? w _ hx108_0)).trans hx108_0; (try simp only [Go.IntWalk.toNatUp] at hx108_0); replace p108 := eq_true p108; replace q108 := eq_true q108; have p109 : 0 ≤ (x7_2 : Int) := of_decide_eq_true qa; have q109 : x7_2 < ((rd_L14 l1_0 0).length : Int) := of_decide_eq_true qa; obtain ⟨ad109, e109, hx109_0⟩ := Kd.at_int HR105_0.out x7_2 p109 q109; obtain rfl : ad107 = ad109 := (by injection e109); replace hx109_0 := (HB.out.cell (World.block_lt_of_cell? w _ hx109_0)).trans hx109_0; (try simp only [Go.IntWalk.toNatUp] at hx109_0); replace p109 := eq_true p109; replace q109 := eq_true q109
                 go_wp2_with (first | ((with_reducible refine gate_callee (f := 27) rfl ?_); refine goesL_ (some 71) rfl rfl Tryz.func27 (by kernel_rfl) rfl #[.int .i64 (wrap64 ((rd (rd_L14 l1_0 0) x7_2) + 1))] rfl qm ?_; (with_reducible refine (entrepotref04_Num.calls k2 (wrap64 ((rd (rd_L14 l1_0 0) x7_2) + 1)) t110 _ A26.out).mono ?_); rintro e w29 ⟨rfl, hb⟩; refine ⟨_, rfl, ?_⟩; replace BK101 := cK BK101 hb; replace HB := cB HB hb; (try clear hb); (try clear hb2); (try clear hk); (try clear hi)))
                 go_roundg k2
                 case measure => have := HJ2.out; have := HK2.out; omega
                 case rel => exact ⟨((x6_2 ++ t110) ++ (⟨#[10]⟩ : ByteArray)), (wrap64 (x7_2 + 1)), qr, qr, H', ⟨by have := HJ2.out; have := HK2.out; omega⟩, ⟨qk BK101.out⟩, ⟨qb⟩⟩
                ·rw [if_neg c28] at H
                 exact absurd H (by simp)
               ·rw [if_neg c27] at H
                exact absurd H (by simp)
            ·rw [if_neg c23] at H
             exact absurd H (by simp)
           ·rw [if_neg c22] at H; have c22b0 := decide_eq_false c22; clear c22
            by_cases c30 : x6_2.size + 7 ≤ 9223372036854775807
            ·rw [if_pos c30] at H; have c30b0 := eq_true c30; have c30b1 := decide_eq_true c30
             try have c30b2 : (9223372036854775807 < x6_2.size + 7) = False := eq_false (Nat.not_lt.2 c30)
             obtain rfl := Option.some.inj H
             go_wp2
             go_ret
             exact ⟨qe, qb⟩
            ·rw [if_neg c30] at H
             exact absurd H (by simp)
        ·rw [if_neg c19] at H
         exact absurd H (by simp)
       ·rw [if_neg c18] at H
        exact absurd H (by simp)
      ·rw [if_neg c16] at H
       exact absurd H (by simp)
     ·rw [if_neg c15] at H
      exact absurd H (by simp)
    ·rw [if_neg c14] at H
     exact absurd H (by simp)
mutual
def entrepotlaw16_small.l0 : Nat → Int → List (List Int) → Option (Bool)
 | 0, _, _ => none
 | k + 1, x3, x102000 => if x3 < (x102000.length : Int) then (entrepotlaw16_small.l1 k x3 0 x102000) else (some true)
def entrepotlaw16_small.l1 : Nat → Int → Int → List (List Int) → Option (Bool)
 | 0, _, _, _ => none
 | k + 1, x3, x4, x102000 => if 0 ≤ x3 then (if x3 < (x102000.length : Int) then (if x4 < ((rd_L14 x102000 x3).length : Int) then (if 0 ≤ x4 then (if (rd (rd_L14 x102000 x3) x4) < (-100000000) then (some false) else (if (rd (rd_L14 x102000 x3) x4) > 100000000 then (some false) else (entrepotlaw16_small.l1 k x3 (wrap64 (x4 + 1)) x102000))) else (none)) else (entrepotlaw16_small.l0 k (wrap64 (x3 + 1)) x102000)) else (none)) else (none)
end
def entrepotlaw16_small.f (k : Nat) (l0_0 : List (List Int)) : Option (Bool) := entrepotlaw16_small.l0 k 0 l0_0
theorem entrepotlaw16_small.mono_l : ∀ k, (∀ y0 y1, LeO (entrepotlaw16_small.l0 k y0 y1) (entrepotlaw16_small.l0 (k + 1) y0 y1)) ∧ (∀ y0 y1 y2, LeO (entrepotlaw16_small.l1 k y0 y1 y2) (entrepotlaw16_small.l1 (k + 1) y0 y1 y2))
 | 0 => ⟨fun _ _ r h => by simp [entrepotlaw16_small.l0] at h, fun _ _ _ r h => by simp [entrepotlaw16_small.l1] at h⟩
 | k + 1 => by
  obtain ⟨ih0, ih1⟩ := entrepotlaw16_small.mono_l k; refine ⟨?_, ?_⟩
  ·intro y0 y1
   unfold entrepotlaw16_small.l0
   repeat' first
   | (with_reducible exact ih0 _ _)
   | (with_reducible exact ih1 _ _ _)
   | (with_reducible exact LeO.refl _)
   | (with_reducible exact LeO.none _)
   | (with_reducible refine LeO.ite ?_ ?_)
   | (with_reducible refine LeO.bind ?_ (fun _ => ?_))
   | exact ih0 _ _
   | exact ih1 _ _ _
   | exact LeO.none _
   | refine LeO.ite ?_ ?_
   | refine LeO.bind ?_ (fun _ => ?_)
  ·intro y0 y1 y2
   unfold entrepotlaw16_small.l1
   repeat' first
   | (with_reducible exact ih0 _ _)
   | (with_reducible exact ih1 _ _ _)
   | (with_reducible exact LeO.refl _)
   | (with_reducible exact LeO.none _)
   | (with_reducible refine LeO.ite ?_ ?_)
   | (with_reducible refine LeO.bind ?_ (fun _ => ?_))
   | exact ih0 _ _
   | exact ih1 _ _ _
   | exact LeO.none _
   | refine LeO.ite ?_ ?_
   | refine LeO.bind ?_ (fun _ => ?_)
theorem entrepotlaw16_small.mono : ∀ a0 k, LeO (entrepotlaw16_small.f k a0) (entrepotlaw16_small.f (k + 1) a0) := by
 intro a0 k
 obtain ⟨ih0, ih1⟩ := entrepotlaw16_small.mono_l k; unfold entrepotlaw16_small.f
 repeat' first
   | (with_reducible exact ih0 _ _)
   | (with_reducible exact ih1 _ _ _)
   | (with_reducible exact LeO.refl _)
   | (with_reducible exact LeO.none _)
   | (with_reducible refine LeO.ite ?_ ?_)
   | (with_reducible refine LeO.bind ?_ (fun _ => ?_))
   | exact ih0 _ _
   | exact ih1 _ _ _
   | exact LeO.none _
   | refine LeO.ite ?_ ?_
   | refine LeO.bind ?_ (fun _ => ?_)
set_option maxHeartbeats 8000000 in
set_option maxRecDepth 100000 in
theorem entrepotlaw16_small.calls (k : Nat) (A0_0 : Option Addr) (c0_0 : Nat) (l0_0 : List (List Int)) (r : Bool) (w : World) (hr0_0 : Kd.C (Kd.slice 3 (Kd.int .i64)) w A0_0 l0_0.length l0_0) (hc0_0 : l0_0.length ≤ c0_0) (h : entrepotlaw16_small.f k l0_0 = some r) :
  Calls Tryz.prog 43 #[.agg #[.slice A0_0 l0_0.length c0_0]] w fun e w' => e = .returned (.bool r) ∧ Below w.heap.size w w' := by
 have hu70 := Tryz.underlying70; have HR0_0 := Aside0.mk hr0_0; have HC0_0 := Aside0.mk hc0_0; clear hr0_0 hc0_0; have HB := Aside0.mk (Below.refl w.heap.size w); have H : (entrepotlaw16_small.l0 k 0 l0_0) = some r := h; clear h; have H' := Aside0.mk H; clear H; go_enter Tryz.func43, Tryz.ntmps43
 go_wp2_with (first | ((with_reducible refine gate_dst (N := 1) rfl ?_); refine box_ev (N := 1) (cs := #[.slice A0_0 l0_0.length c0_0]) (t := 70) ?_; intro gb101 hg w2 hbox hb; have BK101 := Aside0.mk (hbox); have GW101 := Aside0.mk ((qg : w.heap.size ≤ gb101)); have GE101 := Aside0.mk ((qg : w.heap.size ≤ gb101)); replace HB := cB HB hb; clear hb hbox hg))
 (try simp only [Act.put, List.setIfInBounds_toArray, List.set_cons_zero, List.set_cons_succ])
 go_loopg [3] k (fun kq v3 w' => ∃ (x3_1 : Int), v3 = .int .i64 x3_1 ∧ Aside0 (entrepotlaw16_small.l0 kq x3_1 l0_0 = some r) ∧ Aside0 (kq ≤ k) ∧ Aside0 (w'.heap[gb101]? = some (.cells #[(.slice A0_0 l0_0.length c0_0)] 70 (0, 0))) ∧ Aside0 (Below w.heap.size w w'))
 case atStart => exact ⟨(0), qr, H', ⟨Nat.le_refl _⟩, ⟨qk BK101.out⟩, ⟨qb⟩⟩
 case round =>
  clear H'; (try clear p2); obtain ⟨x3_1, rfl, HA, HK1, BK101, HB⟩ := hrel; cases gk with
  | zero => exact absurd HA.out (by simp [entrepotlaw16_small.l0])
  | succ k1 =>
   have H := HA.out; clear HA; simp only [entrepotlaw16_small.l0] at H
   by_cases c3 : x3_1 < (l0_0.length : Int)
   ·rw [if_pos c3] at H; have c3b0 := decide_eq_true c3; clear c3; have H' := Aside0.mk H; clear H; obtain ⟨hcz4_0, hfz4_0⟩ := bc1 BK101.out
    go_wp2
    (try simp only [Act.put, List.setIfInBounds_toArray, List.set_cons_zero, List.set_cons_succ])
    go_loopg [4] k1 (fun kq v4 w' => ∃ (x4_2 : Int), v4 = .int .i64 x4_2 ∧ Aside0 (entrepotlaw16_small.l1 kq x3_1 x4_2 l0_0 = some r) ∧ Aside0 (kq ≤ k1) ∧ Aside0 (w'.heap[gb101]? = some (.cells #[(.slice A0_0 l0_0.length c0_0)] 70 (0, 0))) ∧ Aside0 (Below w.heap.size w w'))
    case atStart => exact ⟨(0), qr, H', ⟨Nat.le_refl _⟩, ⟨qk BK101.out⟩, ⟨qb⟩⟩
    case round =>
     clear H'; (try clear p2); (try clear c3); (try clear c3b0); (try clear c4); (try clear hcz4_0); (try clear hfz4_0); (try clear p2); obtain ⟨x4_2, rfl, HA, HK2, BK101, HB⟩ := hrel; cases gk with
     | zero => exact absurd HA.out (by simp [entrepotlaw16_small.l1])
     | succ k2 =>
      have H := HA.out; clear HA; simp only [entrepotlaw16_small.l1] at H
      by_cases c5 : 0 ≤ x3_1
      ·rw [if_pos c5] at H; have c5b0 := decide_eq_true c5; clear c5
       by_cases c6 : x3_1 < (l0_0.length : Int)
       ·rw [if_pos c6] at H; have c6b0 := decide_eq_true c6; clear c6
        by_cases c7 : x4_2 < ((rd_L14 l0_0 x3_1).length : Int)
        ·rw [if_pos c7] at H; have c7b0 := decide_eq_true c7; clear c7
         by_cases c8 : 0 ≤ x4_2
         ·rw [if_pos c8] at H; have c8b0 := decide_eq_true c8; clear c8
          by_cases c9 : (rd (rd_L14 l0_0 x3_1) x4_2) < (-100000000)
          ·rw [if_pos c9] at H; have c9b0 := decide_eq_true c9; clear c9; obtain rfl := Option.some.inj H; obtain ⟨hcz10_0, hfz10_0⟩ := bc1 BK101.out; have p102 : 0 ≤ (x3_1 : Int) := of_decide_eq_true qa; have q102 : x3_1 < (l0_0.length : Int) := of_decide_eq_true qa; obtain ⟨ad102, A102_0, c102_0, e102, hx102_0, hl102_0, hi102_0⟩ := at_L14 HR0_0.out x3_1 p102 q102; cases e102; replace hx102_0 := (HB.out.cell (World.block_lt_of_cell? w _ hx102_0)).trans hx102_0; have HR102_0 := Aside0.mk hi102_0; have HC102_0 := Aside0.mk hl102_0; clear hi102_0 hl102_0; (try simp only [Go.IntWalk.toNatUp] at hx102_0); replace p102 := eq_true p102; replace q102 := eq_true q102; have p103 : 0 ≤ (x3_1 : Int) := of_decide_eq_true qa; have q103 : x3_1 < (l0_0.length : Int) := of_decide_eq_true qa; obtain ⟨ad103, A103_0, c103_0, e103, hx103_0, hl103_0, hi103_0⟩ := at_L14 HR0_0.out x3_1 p103 q103; obtain rfl : ad102 = ad103 := (by injection e103); replace hx103_0 := (HB.out.cell (World.block_lt_of_cell? w _ hx103_0)).trans hx103_0; have HR103_0 := Aside0.mk hi103_0; have HC103_0 := Aside0.mk hl103_0; clear hi103_0 hl103_0; (try simp only [Go.IntWalk.toNatUp] at hx103_0); replace p103 := eq_true p103; replace q103 := eq_true q103; have ea_ := Option.some.inj (hx102_0.symm.trans hx103_0); injection ea_ with ea_ en_ ec_
           subst ea_; subst ec_; clear en_; have p104 : 0 ≤ (x4_2 : Int) := of_decide_eq_true qa; have q104 : x4_2 < ((rd_L14 l0_0 x3_1).length : Int) := of_decide_eq_true qa; obtain ⟨ad104, e104, hx104_0⟩ := Kd.at_int HR103_0.out x4_2 p104 q104; cases e104; replace hx104_0 := (HB.out.cell (World.block_lt_of_cell? w _ hx104_0)).trans hx104_0; (try simp only [Go.IntWalk.toNatUp] at hx104_0); replace p104 := eq_true p104; replace q104 := eq_true q104
           go_wp2
           go_ret
           exact ⟨qe, qb⟩
          ·rw [if_neg c9] at H; have c9b0 := decide_eq_false c9; clear c9
           by_cases c11 : (rd (rd_L14 l0_0 x3_1) x4_2) > 100000000
           ·rw [if_pos c11] at H; have c11b0 := decide_eq_true c11; clear c11; obtain rfl := Option.some.inj H; obtain ⟨hcz12_0, hfz12_0⟩ := bc1 BK101.out; have p102 : 0 ≤ (x3_1 : Int) := of_decide_eq_true qa; have q102 : x3_1 < (l0_0.length : Int) := of_decide_eq_true qa; obtain ⟨ad102, A102_0, c102_0, e102, hx102_0, hl102_0, hi102_0⟩ := at_L14 HR0_0.out x3_1 p102 q102; cases e102; replace hx102_0 := (HB.out.cell (World.block_lt_of_cell? w _ hx102_0)).trans hx102_0; have HR102_0 := Aside0.mk hi102_0; have HC102_0 := Aside0.mk hl102_0; clear hi102_0 hl102_0; (try simp only [Go.IntWalk.toNatUp] at hx102_0); replace p102 := eq_true p102; replace q102 := eq_true q102; have p103 : 0 ≤ (x3_1 : Int) := of_decide_eq_true qa; have q103 : x3_1 < (l0_0.length : Int) := of_decide_eq_true qa; obtain ⟨ad103, A103_0, c103_0, e103, hx103_0, hl103_0, hi103_0⟩ := at_L14 HR0_0.out x3_1 p103 q103; obtain rfl : ad102 = ad103 := (by injection e103); replace hx103_0 := (HB.out.cell (World.block_lt_of_cell? w _ hx103_0)).trans hx103_0; have HR103_0 := Aside0.mk hi103_0; have HC103_0 := Aside0.mk hl103_0; clear hi103_0 hl103_0; (try simp only [Go.IntWalk.toNatUp] at hx103_0); replace p103 := eq_true p103; replace q103 := eq_true q103; have ea_ := Option.some.inj (hx102_0.symm.trans hx103_0); injection ea_ with ea_ en_ ec_
            subst ea_; subst ec_; clear en_; have p104 : 0 ≤ (x4_2 : Int) := of_decide_eq_true qa; have q104 : x4_2 < ((rd_L14 l0_0 x3_1).length : Int) := of_decide_eq_true qa; obtain ⟨ad104, e104, hx104_0⟩ := Kd.at_int HR103_0.out x4_2 p104 q104; cases e104; replace hx104_0 := (HB.out.cell (World.block_lt_of_cell? w _ hx104_0)).trans hx104_0; (try simp only [Go.IntWalk.toNatUp] at hx104_0); replace p104 := eq_true p104; replace q104 := eq_true q104; have p105 : 0 ≤ (x3_1 : Int) := of_decide_eq_true qa; have q105 : x3_1 < (l0_0.length : Int) := of_decide_eq_true qa; obtain ⟨ad105, A105_0, c105_0, e105, hx105_0, hl105_0, hi105_0⟩ := at_L14 HR0_0.out x3_1 p105 q105; obtain rfl : ad102 = ad105 := (by injection e105); replace hx105_0 := (HB.out.cell (World.block_lt_of_cell? w _ hx105_0)).trans hx105_0; have HR105_0 := Aside0.mk hi105_0; have HC105_0 := Aside0.mk hl105_0; clear hi105_0 hl105_0; (try simp only [Go.IntWalk.toNatUp] at hx105_0); replace p105 := eq_true p105; replace q105 := eq_true q105; have ea_ := Option.some.inj (hx102_0.symm.trans hx105_0); injection ea_ with ea_ en_ ec_
            subst ea_; subst ec_; clear en_; have p106 : 0 ≤ (x4_2 : Int) := of_decide_eq_true qa; have q106 : x4_2 < ((rd_L14 l0_0 x3_1).length : Int) := of_decide_eq_true qa; obtain ⟨ad106, e106, hx106_0⟩ := Kd.at_int HR105_0.out x4_2 p106 q106; cases e106; replace hx106_0 := (HB.out.cell (World.block_lt_of_cell? w _ hx106_0)).trans hx106_0; (try simp only [Go.IntWalk.toNatUp] at hx106_0); replace p106 := eq_true p106; replace q106 := eq_true q106
            go_wp2
            go_ret
            exact ⟨qe, qb⟩
           ·rw [if_neg c11] at H; have c11b0 := decide_eq_false c11; clear c11; have H' := Aside0.mk H; clear H; obtain ⟨hcz13_0, hfz13_0⟩ := bc1 BK101.out; have p102 : 0 ≤ (x3_1 : Int) := of_decide_eq_true qa; have q102 : x3_1 < (l0_0.length : Int) := of_decide_eq_true qa; obtain ⟨ad102, A102_0, c102_0, e102, hx102_0, hl102_0, hi102_0⟩ := at_L14 HR0_0.out x3_1 p102 q102; cases e102; replace hx102_0 := (HB.out.cell (World.block_lt_of_cell? w _ hx102_0)).trans hx102_0; have HR102_0 := Aside0.mk hi102_0; have HC102_0 := Aside0.mk hl102_0; clear hi102_0 hl102_0; (try simp only [Go.IntWalk.toNatUp] at hx102_0); replace p102 := eq_true p102; replace q102 := eq_true q102; have p103 : 0 ≤ (x3_1 : Int) := of_decide_eq_true qa; have q103 : x3_1 < (l0_0.length : Int) := of_decide_eq_true qa; obtain ⟨ad103, A103_0, c103_0, e103, hx103_0, hl103_0, hi103_0⟩ := at_L14 HR0_0.out x3_1 p103 q103; obtain rfl : ad102 = ad103 := (by injection e103); replace hx103_0 := (HB.out.cell (World.block_lt_of_cell? w _ hx103_0)).trans hx103_0; have HR103_0 := Aside0.mk hi103_0; have HC103_0 := Aside0.mk hl103_0; clear hi103_0 hl103_0; (try simp only [Go.IntWalk.toNatUp] at hx103_0); replace p103 := eq_true p103; replace q103 := eq_true q103; have ea_ := Option.some.inj (hx102_0.symm.trans hx103_0); injection ea_ with ea_ en_ ec_
            subst ea_; subst ec_; clear en_; have p104 : 0 ≤ (x4_2 : Int) := of_decide_eq_true qa; have q104 : x4_2 < ((rd_L14 l0_0 x3_1).length : Int) := of_decide_eq_true qa; obtain ⟨ad104, e104, hx104_0⟩ := Kd.at_int HR103_0.out x4_2 p104 q104; cases e104; replace hx104_0 := (HB.out.cell (World.block_lt_of_cell? w _ hx104_0)).trans hx104_0; (try simp only [Go.IntWalk.toNatUp] at hx104_0); replace p104 := eq_true p104; replace q104 := eq_true q104; have p105 : 0 ≤ (x3_1 : Int) := of_decide_eq_true qa; have q105 : x3_1 < (l0_0.length : Int) := of_decide_eq_true qa; obtain ⟨ad105, A105_0, c105_0, e105, hx105_0, hl105_0, hi105_0⟩ := at_L14 HR0_0.out x3_1 p105 q105; obtain rfl : ad102 = ad105 := (by injection e105); replace hx105_0 := (HB.out.cell (World.block_lt_of_cell? w _ hx105_0)).trans hx105_0; have HR105_0 := Aside0.mk hi105_0; have HC105_0 := Aside0.mk hl105_0; clear hi105_0 hl105_0; (try simp only [Go.IntWalk.toNatUp] at hx105_0); replace p105 := eq_true p105; replace q105 := eq_true q105; have ea_ := Option.some.inj (hx102_0.symm.trans hx105_0); injection ea_ with ea_ en_ ec_
            subst ea_; subst ec_; clear en_; have p106 : 0 ≤ (x4_2 : Int) := of_decide_eq_true qa; have q106 : x4_2 < ((rd_L14 l0_0 x3_1).length : Int) := of_decide_eq_true qa; obtain ⟨ad106, e106, hx106_0⟩ := Kd.at_int HR105_0.out x4_2 p106 q106; cases e106; replace hx106_0 := (HB.out.cell (World.block_lt_of_cell? w _ hx106_0)).trans hx106_0; (try simp only [Go.IntWalk.toNatUp] at hx106_0); replace p106 := eq_true p106; replace q106 := eq_true q106
            go_wp2
            go_roundg k2
            case measure => have := HK1.out; have := HK2.out; omega
            case rel => exact ⟨(wrap64 (x4_2 + 1)), qr, H', ⟨by have := HK1.out; have := HK2.out; omega⟩, ⟨qk BK101.out⟩, ⟨qb⟩⟩
         ·rw [if_neg c8] at H
          exact absurd H (by simp)
        ·rw [if_neg c7] at H; have c7b0 := decide_eq_false c7; clear c7; have H' := Aside0.mk H; clear H; obtain ⟨hcz14_0, hfz14_0⟩ := bc1 BK101.out; have p102 : 0 ≤ (x3_1 : Int) := of_decide_eq_true qa; have q102 : x3_1 < (l0_0.length : Int) := of_decide_eq_true qa; obtain ⟨ad102, A102_0, c102_0, e102, hx102_0, hl102_0, hi102_0⟩ := at_L14 HR0_0.out x3_1 p102 q102; cases e102; replace hx102_0 := (HB.out.cell (World.block_lt_of_cell? w _ hx102_0)).trans hx102_0; have HR102_0 := Aside0.mk hi102_0; have HC102_0 := Aside0.mk hl102_0; clear hi102_0 hl102_0; (try simp only [Go.IntWalk.toNatUp] at hx102_0); replace p102 := eq_true p102; replace q102 := eq_true q102
         go_wp2
         go_roundg k2
         case measure => have := HK1.out; have := HK2.out; omega
         case rel => exact ⟨(wrap64 (x3_1 + 1)), qr, H', ⟨by have := HK1.out; have := HK2.out; omega⟩, ⟨qk BK101.out⟩, ⟨qb⟩⟩
       ·rw [if_neg c6] at H
        exact absurd H (by simp)
      ·rw [if_neg c5] at H
       exact absurd H (by simp)
   ·rw [if_neg c3] at H; have c3b0 := decide_eq_false c3; clear c3; obtain rfl := Option.some.inj H; obtain ⟨hcz15_0, hfz15_0⟩ := bc1 BK101.out
    go_wp2
    go_ret
    exact ⟨qe, qb⟩
mutual
def entrepotref16_PrintRoutes.l0 : Nat → Int → Bool → ByteArray → Int → List (List Int) → Option (ByteArray)
 | 0, _, _, _, _, _ => none
 | k + 1, x1, x2, x7, x8, x102000 => if x8 < (x102000.length : Int) then (if x2 = true then (if x7.size + 7 ≤ 9223372036854775807 then ((entrepotref04_Num.f k (wrap64 (x8 + 1))).bind fun t103 => (if (x7 ++ (⟨#[82, 111, 117, 116, 101, 32, 35]⟩ : ByteArray)).size + t103.size ≤ 9223372036854775807 then (if ((x7 ++ (⟨#[82, 111, 117, 116, 101, 32, 35]⟩ : ByteArray)) ++ t103).size + 1 ≤ 9223372036854775807 then (entrepotref16_PrintRoutes.j1 k x1 x2 (((x7 ++ (⟨#[82, 111, 117, 116, 101, 32, 35]⟩ : ByteArray)) ++ t103) ++ (⟨#[58]⟩ : ByteArray)) x8 x102000) else (none)) else (none))) else (none)) else (if x7.size + 6 ≤ 9223372036854775807 then ((entrepotref04_Num.f k (wrap64 (x8 + 1))).bind fun t104 => (if (x7 ++ (⟨#[82, 111, 117, 116, 101, 32]⟩ : ByteArray)).size + t104.size ≤ 9223372036854775807 then (if ((x7 ++ (⟨#[82, 111, 117, 116, 101, 32]⟩ : ByteArray)) ++ t104).size + 2 ≤ 9223372036854775807 then (entrepotref16_PrintRoutes.j1 k x1 x2 (((x7 ++ (⟨#[82, 111, 117, 116, 101, 32]⟩ : ByteArray)) ++ t104) ++ (⟨#[32, 58]⟩ : ByteArray)) x8 x102000) else (none)) else (none))) else (none))) else (if x1 ≥ 0 then (if x7.size + 5 ≤ 9223372036854775807 then ((entrepotref04_Num.f k x1).bind fun t102 => (if (x7 ++ (⟨#[67, 111, 115, 116, 32]⟩ : ByteArray)).size + t102.size ≤ 9223372036854775807 then (if ((x7 ++ (⟨#[67, 111, 115, 116, 32]⟩ : ByteArray)) ++ t102).size + 1 ≤ 9223372036854775807 then (some (((x7 ++ (⟨#[67, 111, 115, 116, 32]⟩ : ByteArray)) ++ t102) ++ (⟨#[10]⟩ : ByteArray))) else (none)) else (none))) else (none)) else (some x7))
def entrepotref16_PrintRoutes.j1 : Nat → Int → Bool → ByteArray → Int → List (List Int) → Option (ByteArray)
 | 0, _, _, _, _, _ => none
 | k + 1, x1, x2, x7, x8, x102000 => entrepotref16_PrintRoutes.l1 k x1 x2 x7 x8 0 x102000
def entrepotref16_PrintRoutes.l1 : Nat → Int → Bool → ByteArray → Int → Int → List (List Int) → Option (ByteArray)
 | 0, _, _, _, _, _, _ => none
 | k + 1, x1, x2, x7, x8, x9, x102000 => if 0 ≤ x8 then (if x8 < (x102000.length : Int) then (if x9 < ((rd_L14 x102000 x8).length : Int) then (if x7.size + 1 ≤ 9223372036854775807 then (if 0 ≤ x9 then ((entrepotref04_Num.f k (rd (rd_L14 x102000 x8) x9)).bind fun t108 => (if (x7 ++ (⟨#[32]⟩ : ByteArray)).size + t108.size ≤ 9223372036854775807 then (entrepotref16_PrintRoutes.l1 k x1 x2 ((x7 ++ (⟨#[32]⟩ : ByteArray)) ++ t108) x8 (wrap64 (x9 + 1)) x102000) else (none))) else (none)) else (none)) else (if x7.size + 1 ≤ 9223372036854775807 then (entrepotref16_PrintRoutes.l0 k x1 x2 (x7 ++ (⟨#[10]⟩ : ByteArray)) (wrap64 (x8 + 1)) x102000) else (none))) else (none)) else (none)
end
def entrepotref16_PrintRoutes.f (k : Nat) (l0_0 : List (List Int)) (a1 : Int) (a2 : Bool) : Option (ByteArray) := entrepotref16_PrintRoutes.l0 k a1 a2 (⟨#[]⟩ : ByteArray) 0 l0_0
theorem entrepotref16_PrintRoutes.mono_l : ∀ k, (∀ y0 y1 y2 y3 y4, LeO (entrepotref16_PrintRoutes.l0 k y0 y1 y2 y3 y4) (entrepotref16_PrintRoutes.l0 (k + 1) y0 y1 y2 y3 y4)) ∧ (∀ y0 y1 y2 y3 y4, LeO (entrepotref16_PrintRoutes.j1 k y0 y1 y2 y3 y4) (entrepotref16_PrintRoutes.j1 (k + 1) y0 y1 y2 y3 y4)) ∧ (∀ y0 y1 y2 y3 y4 y5, LeO (entrepotref16_PrintRoutes.l1 k y0 y1 y2 y3 y4 y5) (entrepotref16_PrintRoutes.l1 (k + 1) y0 y1 y2 y3 y4 y5))
 | 0 => ⟨fun _ _ _ _ _ r h => by simp [entrepotref16_PrintRoutes.l0] at h, fun _ _ _ _ _ r h => by simp [entrepotref16_PrintRoutes.j1] at h, fun _ _ _ _ _ _ r h => by simp [entrepotref16_PrintRoutes.l1] at h⟩
 | k + 1 => by
  obtain ⟨ih0, ih1, ih2⟩ := entrepotref16_PrintRoutes.mono_l k; refine ⟨?_, ?_, ?_⟩
  ·intro y0 y1 y2 y3 y4
   unfold entrepotref16_PrintRoutes.l0
   repeat' first
   | (with_reducible exact ih0 _ _ _ _ _)
   | (with_reducible exact ih1 _ _ _ _ _)
   | (with_reducible exact ih2 _ _ _ _ _ _)
   | (with_reducible exact entrepotref04_Num.mono _ _)
   | (with_reducible exact LeO.refl _)
   | (with_reducible exact LeO.none _)
   | (with_reducible refine LeO.ite ?_ ?_)
   | (with_reducible refine LeO.bind ?_ (fun _ => ?_))
   | exact ih0 _ _ _ _ _
   | exact ih1 _ _ _ _ _
   | exact ih2 _ _ _ _ _ _
   | exact entrepotref04_Num.mono _ _
   | exact LeO.none _
   | refine LeO.ite ?_ ?_
   | refine LeO.bind ?_ (fun _ => ?_)
  ·intro y0 y1 y2 y3 y4
   unfold entrepotref16_PrintRoutes.j1
   repeat' first
   | (with_reducible exact ih0 _ _ _ _ _)
   | (with_reducible exact ih1 _ _ _ _ _)
   | (with_reducible exact ih2 _ _ _ _ _ _)
   | (with_reducible exact entrepotref04_Num.mono _ _)
   | (with_reducible exact LeO.refl _)
   | (with_reducible exact LeO.none _)
   | (with_reducible refine LeO.ite ?_ ?_)
   | (with_reducible refine LeO.bind ?_ (fun _ => ?_))
   | exact ih0 _ _ _ _ _
   | exact ih1 _ _ _ _ _
   | exact ih2 _ _ _ _ _ _
   | exact entrepotref04_Num.mono _ _
   | exact LeO.none _
   | refine LeO.ite ?_ ?_
   | refine LeO.bind ?_ (fun _ => ?_)
  ·intro y0 y1 y2 y3 y4 y5
   unfold entrepotref16_PrintRoutes.l1
   repeat' first
   | (with_reducible exact ih0 _ _ _ _ _)
   | (with_reducible exact ih1 _ _ _ _ _)
   | (with_reducible exact ih2 _ _ _ _ _ _)
   | (with_reducible exact entrepotref04_Num.mono _ _)
   | (with_reducible exact LeO.refl _)
   | (with_reducible exact LeO.none _)
   | (with_reducible refine LeO.ite ?_ ?_)
   | (with_reducible refine LeO.bind ?_ (fun _ => ?_))
   | exact ih0 _ _ _ _ _
   | exact ih1 _ _ _ _ _
   | exact ih2 _ _ _ _ _ _
   | exact entrepotref04_Num.mono _ _
   | exact LeO.none _
   | refine LeO.ite ?_ ?_
   | refine LeO.bind ?_ (fun _ => ?_)
theorem entrepotref16_PrintRoutes.mono : ∀ a0 a1 a2 k, LeO (entrepotref16_PrintRoutes.f k a0 a1 a2) (entrepotref16_PrintRoutes.f (k + 1) a0 a1 a2) := by
 intro a0 a1 a2 k
 obtain ⟨ih0, ih1, ih2⟩ := entrepotref16_PrintRoutes.mono_l k; unfold entrepotref16_PrintRoutes.f
 repeat' first
   | (with_reducible exact ih0 _ _ _ _ _)
   | (with_reducible exact ih1 _ _ _ _ _)
   | (with_reducible exact ih2 _ _ _ _ _ _)
   | (with_reducible exact entrepotref04_Num.mono _ _)
   | (with_reducible exact LeO.refl _)
   | (with_reducible exact LeO.none _)
   | (with_reducible refine LeO.ite ?_ ?_)
   | (with_reducible refine LeO.bind ?_ (fun _ => ?_))
   | exact ih0 _ _ _ _ _
   | exact ih1 _ _ _ _ _
   | exact ih2 _ _ _ _ _ _
   | exact entrepotref04_Num.mono _ _
   | exact LeO.none _
   | refine LeO.ite ?_ ?_
   | refine LeO.bind ?_ (fun _ => ?_)
set_option maxHeartbeats 8000000 in
set_option maxRecDepth 100000 in
theorem entrepotref16_PrintRoutes.calls (k : Nat) (A0_0 : Option Addr) (c0_0 : Nat) (l0_0 : List (List Int)) (a1 : Int) (a2 : Bool) (r : ByteArray) (w : World) (hr0_0 : Kd.C (Kd.slice 3 (Kd.int .i64)) w A0_0 l0_0.length l0_0) (hc0_0 : l0_0.length ≤ c0_0) (h : entrepotref16_PrintRoutes.f k l0_0 a1 a2 = some r) :
  Calls Tryz.prog 45 #[.agg #[.slice A0_0 l0_0.length c0_0], .int .i64 a1, .bool a2] w fun e w' => e = .returned (.string r) ∧ Below w.heap.size w w' := by
 have hu73 := Tryz.underlying73; have HR0_0 := Aside0.mk hr0_0; have HC0_0 := Aside0.mk hc0_0; clear hr0_0 hc0_0; have HB := Aside0.mk (Below.refl w.heap.size w); have H : (entrepotref16_PrintRoutes.l0 k a1 a2 (⟨#[]⟩ : ByteArray) 0 l0_0) = some r := h; clear h; have H' := Aside0.mk H; clear H; go_enter Tryz.func45, Tryz.ntmps45
 go_wp2_with (first | ((with_reducible refine gate_dst (N := 3) rfl ?_); refine box_ev (N := 3) (cs := #[.slice A0_0 l0_0.length c0_0]) (t := 73) ?_; intro gb101 hg w4 hbox hb; have BK101 := Aside0.mk (hbox); have GW101 := Aside0.mk ((qg : w.heap.size ≤ gb101)); have GE101 := Aside0.mk ((qg : w.heap.size ≤ gb101)); replace HB := cB HB hb; clear hb hbox hg))
 (try simp only [Act.put, List.setIfInBounds_toArray, List.set_cons_zero, List.set_cons_succ])
 go_loopg [7, 8] k (fun kq v7 v8 w' => ∃ (x7_1 : ByteArray) (x8_1 : Int), v7 = .string x7_1 ∧ v8 = .int .i64 x8_1 ∧ Aside0 (entrepotref16_PrintRoutes.l0 kq a1 a2 x7_1 x8_1 l0_0 = some r) ∧ Aside0 (kq ≤ k) ∧ Aside0 (w'.heap[gb101]? = some (.cells #[(.slice A0_0 l0_0.length c0_0)] 73 (0, 0))) ∧ Aside0 (Below w.heap.size w w'))
 case atStart => exact ⟨((⟨#[]⟩ : ByteArray)), (0), qr, qr, H', ⟨Nat.le_refl _⟩, ⟨qk BK101.out⟩, ⟨qb⟩⟩
 case round =>
  clear H'; (try clear p2); (try clear c4); obtain ⟨x7_1, x8_1, rfl, rfl, HA, HK1, BK101, HB⟩ := hrel; cases gk with
  | zero => exact absurd HA.out (by simp [entrepotref16_PrintRoutes.l0])
  | succ k1 =>
   have H := HA.out; clear HA; simp only [entrepotref16_PrintRoutes.l0] at H
   by_cases c5 : x8_1 < (l0_0.length : Int)
   ·rw [if_pos c5] at H; have c5b0 := decide_eq_true c5; clear c5; have HC6 := Aside0.mk H; clear H; obtain ⟨hcz7_0, hfz7_0⟩ := bc1 BK101.out
    go_upto_if 17 with (fail)
    go_cut [7] (fun v7 wc => ∃ (kq : Nat) (x7_5 : ByteArray), v7 = .string x7_5 ∧ Aside0 (entrepotref16_PrintRoutes.j1 kq a1 a2 x7_5 x8_1 l0_0 = some r) ∧ Aside0 (kq ≤ k1) ∧ Aside0 (wc.heap[gb101]? = some (.cells #[(.slice A0_0 l0_0.length c0_0)] 73 (0, 0))) ∧ Aside0 (Below w.heap.size w wc))
    case first =>
     have H := HC6.out; clear HC6
     by_cases c8 : a2 = true
     ·subst c8; have H1 : (if x7_1.size + 7 ≤ 9223372036854775807 then ((entrepotref04_Num.f k1 (wrap64 (x8_1 + 1))).bind fun t103 => (if (x7_1 ++ (⟨#[82, 111, 117, 116, 101, 32, 35]⟩ : ByteArray)).size + t103.size ≤ 9223372036854775807 then (if ((x7_1 ++ (⟨#[82, 111, 117, 116, 101, 32, 35]⟩ : ByteArray)) ++ t103).size + 1 ≤ 9223372036854775807 then (entrepotref16_PrintRoutes.j1 k1 a1 true (((x7_1 ++ (⟨#[82, 111, 117, 116, 101, 32, 35]⟩ : ByteArray)) ++ t103) ++ (⟨#[58]⟩ : ByteArray)) x8_1 l0_0) else (none)) else (none))) else (none)) = some r := by rw [if_pos rfl] at H; exact H
      clear H; have H := H1; clear H1
      by_cases c9 : x7_1.size + 7 ≤ 9223372036854775807
      ·rw [if_pos c9] at H; have c9b0 := eq_true c9; have c9b1 := decide_eq_true c9
       try have c9b2 : (9223372036854775807 < x7_1.size + 7) = False := eq_false (Nat.not_lt.2 c9)
       replace H := Option.bind_eq_some_iff.mp H; obtain ⟨t103, A100, H⟩ := H; (try dsimp only at H); have A10 := Aside0.mk A100; clear A100
       by_cases c11 : (x7_1 ++ (⟨#[82, 111, 117, 116, 101, 32, 35]⟩ : ByteArray)).size + t103.size ≤ 9223372036854775807
       ·rw [if_pos c11] at H; have c11s : x7_1.size + 7 + t103.size ≤ 9223372036854775807 := by (have z_ := c11); simp only [ByteArray.size_append] at z_; exact z_
        replace c11s := eq_true c11s
        try have c11t := eq_false (Nat.not_lt.2 (of_eq_true c11s))
        have c11b0 := eq_true c11; have c11b1 := decide_eq_true c11
        try have c11b2 : (9223372036854775807 < (x7_1 ++ (⟨#[82, 111, 117, 116, 101, 32, 35]⟩ : ByteArray)).size + t103.size) = False := eq_false (Nat.not_lt.2 c11)
        by_cases c12 : ((x7_1 ++ (⟨#[82, 111, 117, 116, 101, 32, 35]⟩ : ByteArray)) ++ t103).size + 1 ≤ 9223372036854775807
        ·rw [if_pos c12] at H; have c12s : x7_1.size + 7 + t103.size + 1 ≤ 9223372036854775807 := by (have z_ := c12); simp only [ByteArray.size_append] at z_; exact z_
         replace c12s := eq_true c12s
         try have c12t := eq_false (Nat.not_lt.2 (of_eq_true c12s))
         have c12b0 := eq_true c12; have c12b1 := decide_eq_true c12
         try have c12b2 : (9223372036854775807 < ((x7_1 ++ (⟨#[82, 111, 117, 116, 101, 32, 35]⟩ : ByteArray)) ++ t103).size + 1) = False := eq_false (Nat.not_lt.2 c12)
         have H' := Aside0.mk H; clear H
         go_wp2_with (first | ((with_reducible refine gate_callee (f := 27) rfl ?_); refine goesL_ (some 22) rfl rfl Tryz.func27 (by kernel_rfl) rfl #[.int .i64 (wrap64 (x8_1 + 1))] rfl qm ?_; (with_reducible refine (entrepotref04_Num.calls k1 (wrap64 (x8_1 + 1)) t103 _ A10.out).mono ?_); rintro e w13 ⟨rfl, hb⟩; refine ⟨_, rfl, ?_⟩; replace BK101 := cK BK101 hb; replace HB := cB HB hb; (try clear hb); (try clear hb2); (try clear hk); (try clear hi)))
         go_meet
         case rel => exact ⟨_, (((x7_1 ++ (⟨#[82, 111, 117, 116, 101, 32, 35]⟩ : ByteArray)) ++ t103) ++ (⟨#[58]⟩ : ByteArray)), qr, H', ⟨by have := HK1.out; first | omega | exact Nat.le_refl _⟩, ⟨qk BK101.out⟩, ⟨qb⟩⟩
        ·rw [if_neg c12] at H
         exact absurd H (by simp)
       ·rw [if_neg c11] at H
        exact absurd H (by simp)
      ·rw [if_neg c9] at H
       exact absurd H (by simp)
     ·replace c8 := Bool.eq_false_iff.mpr c8; subst c8; have H1 : (if x7_1.size + 6 ≤ 9223372036854775807 then ((entrepotref04_Num.f k1 (wrap64 (x8_1 + 1))).bind fun t104 => (if (x7_1 ++ (⟨#[82, 111, 117, 116, 101, 32]⟩ : ByteArray)).size + t104.size ≤ 9223372036854775807 then (if ((x7_1 ++ (⟨#[82, 111, 117, 116, 101, 32]⟩ : ByteArray)) ++ t104).size + 2 ≤ 9223372036854775807 then (entrepotref16_PrintRoutes.j1 k1 a1 false (((x7_1 ++ (⟨#[82, 111, 117, 116, 101, 32]⟩ : ByteArray)) ++ t104) ++ (⟨#[32, 58]⟩ : ByteArray)) x8_1 l0_0) else (none)) else (none))) else (none)) = some r := by rw [if_neg (show ¬ (false = true) by decide)] at H; exact H
      clear H; have H := H1; clear H1
      by_cases c14 : x7_1.size + 6 ≤ 9223372036854775807
      ·rw [if_pos c14] at H; have c14b0 := eq_true c14; have c14b1 := decide_eq_true c14
       try have c14b2 : (9223372036854775807 < x7_1.size + 6) = False := eq_false (Nat.not_lt.2 c14)
       replace H := Option.bind_eq_some_iff.mp H; obtain ⟨t104, A150, H⟩ := H; (try dsimp only at H); have A15 := Aside0.mk A150; clear A150
       by_cases c16 : (x7_1 ++ (⟨#[82, 111, 117, 116, 101, 32]⟩ : ByteArray)).size + t104.size ≤ 9223372036854775807
       ·rw [if_pos c16] at H; have c16s : x7_1.size + 6 + t104.size ≤ 9223372036854775807 := by (have z_ := c16); simp only [ByteArray.size_append] at z_; exact z_
        replace c16s := eq_true c16s
        try have c16t := eq_false (Nat.not_lt.2 (of_eq_true c16s))
        have c16b0 := eq_true c16; have c16b1 := decide_eq_true c16
        try have c16b2 : (9223372036854775807 < (x7_1 ++ (⟨#[82, 111, 117, 116, 101, 32]⟩ : ByteArray)).size + t104.size) = False := eq_false (Nat.not_lt.2 c16)
        by_cases c17 : ((x7_1 ++ (⟨#[82, 111, 117, 116, 101, 32]⟩ : ByteArray)) ++ t104).size + 2 ≤ 9223372036854775807
        ·rw [if_pos c17] at H; have c17s : x7_1.size + 6 + t104.size + 2 ≤ 9223372036854775807 := by (have z_ := c17); simp only [ByteArray.size_append] at z_; exact z_
         replace c17s := eq_true c17s
         try have c17t := eq_false (Nat.not_lt.2 (of_eq_true c17s))
         have c17b0 := eq_true c17; have c17b1 := decide_eq_true c17
         try have c17b2 : (9223372036854775807 < ((x7_1 ++ (⟨#[82, 111, 117, 116, 101, 32]⟩ : ByteArray)) ++ t104).size + 2) = False := eq_false (Nat.not_lt.2 c17)
         have H' := Aside0.mk H; clear H
         go_wp2_with (first | ((with_reducible refine gate_callee (f := 27) rfl ?_); refine goesL_ (some 29) rfl rfl Tryz.func27 (by kernel_rfl) rfl #[.int .i64 (wrap64 (x8_1 + 1))] rfl qm ?_; (with_reducible refine (entrepotref04_Num.calls k1 (wrap64 (x8_1 + 1)) t104 _ A15.out).mono ?_); rintro e w18 ⟨rfl, hb⟩; refine ⟨_, rfl, ?_⟩; replace BK101 := cK BK101 hb; replace HB := cB HB hb; (try clear hb); (try clear hb2); (try clear hk); (try clear hi)))
         go_meet
         case rel => exact ⟨_, (((x7_1 ++ (⟨#[82, 111, 117, 116, 101, 32]⟩ : ByteArray)) ++ t104) ++ (⟨#[32, 58]⟩ : ByteArray)), qr, H', ⟨by have := HK1.out; first | omega | exact Nat.le_refl _⟩, ⟨qk BK101.out⟩, ⟨qb⟩⟩
        ·rw [if_neg c17] at H
         exact absurd H (by simp)
       ·rw [if_neg c16] at H
        exact absurd H (by simp)
      ·rw [if_neg c14] at H
       exact absurd H (by simp)
    case rest =>
     clear HC6; (try clear c1); (try clear c2); (try clear p2); (try clear c4); (try clear c5); (try clear c5b0); (try clear p6); (try clear c8); (try clear c9); (try clear c9b0); (try clear c9b1); (try clear c9b2); (try clear c11); (try clear c11b0); (try clear c11b1); (try clear c11b2); (try clear c12); (try clear c12b0); (try clear c12b1); (try clear c12b2); (try clear c14); (try clear c14b0); (try clear c14b1); (try clear c14b2); (try clear c16); (try clear c16b0); (try clear c16b1); (try clear c16b2); (try clear c17); (try clear c17b0); (try clear c17b1); (try clear c17b2); (try clear hcz7_0); (try clear hfz7_0); (try clear p2); obtain ⟨kq, x7_5, rfl, HA, HJ5, BK101, HB⟩ := hcut; cases kq with
     | zero => exact absurd HA.out (by simp [entrepotref16_PrintRoutes.j1])
     | succ kj5 =>
      have H := HA.out; clear HA; simp only [entrepotref16_PrintRoutes.j1] at H; have H' := Aside0.mk H; clear H
      go_wp2
      (try simp only [Act.put, List.setIfInBounds_toArray, List.set_cons_zero, List.set_cons_succ])
      go_loopg [7, 9] kj5 (fun kq v7 v9 w' => ∃ (x7_3 : ByteArray) (x9_3 : Int), v7 = .string x7_3 ∧ v9 = .int .i64 x9_3 ∧ Aside0 (entrepotref16_PrintRoutes.l1 kq a1 a2 x7_3 x8_1 x9_3 l0_0 = some r) ∧ Aside0 (kq ≤ kj5) ∧ Aside0 (w'.heap[gb101]? = some (.cells #[(.slice A0_0 l0_0.length c0_0)] 73 (0, 0))) ∧ Aside0 (Below w.heap.size w w'))
      case atStart => exact ⟨(x7_5), (0), qr, qr, H', ⟨Nat.le_refl _⟩, ⟨qk BK101.out⟩, ⟨qb⟩⟩
      case round =>
       clear H'; (try clear c1); (try clear c2); (try clear p2); (try clear c4); (try clear c5); (try clear c5b0); (try clear p6); (try clear c8); (try clear c9); (try clear c9b0); (try clear c9b1); (try clear c9b2); (try clear c11); (try clear c11b0); (try clear c11b1); (try clear c11b2); (try clear c12); (try clear c12b0); (try clear c12b1); (try clear c12b2); (try clear c14); (try clear c14b0); (try clear c14b1); (try clear c14b2); (try clear c16); (try clear c16b0); (try clear c16b1); (try clear c16b2); (try clear c17); (try clear c17b0); (try clear c17b1); (try clear c17b2); (try clear hcz7_0); (try clear hfz7_0); (try clear p2); (try clear p6); obtain ⟨x7_3, x9_3, rfl, rfl, HA, HK3, BK101, HB⟩ := hrel; cases gk with
       | zero => exact absurd HA.out (by simp [entrepotref16_PrintRoutes.l1])
       | succ k3 =>
        have H := HA.out; clear HA; simp only [entrepotref16_PrintRoutes.l1] at H
        by_cases c19 : 0 ≤ x8_1
        ·rw [if_pos c19] at H; have c19b0 := decide_eq_true c19; clear c19
         by_cases c20 : x8_1 < (l0_0.length : Int)
         ·rw [if_pos c20] at H; have c20b0 := decide_eq_true c20; clear c20
          by_cases c21 : x9_3 < ((rd_L14 l0_0 x8_1).length : Int)
          ·rw [if_pos c21] at H; have c21b0 := decide_eq_true c21; clear c21
           by_cases c22 : x7_3.size + 1 ≤ 9223372036854775807
           ·rw [if_pos c22] at H; have c22b0 := eq_true c22; have c22b1 := decide_eq_true c22
            try have c22b2 : (9223372036854775807 < x7_3.size + 1) = False := eq_false (Nat.not_lt.2 c22)
            by_cases c23 : 0 ≤ x9_3
            ·rw [if_pos c23] at H; have c23b0 := decide_eq_true c23; clear c23; replace H := Option.bind_eq_some_iff.mp H; obtain ⟨t108, A240, H⟩ := H; (try dsimp only at H); have A24 := Aside0.mk A240; clear A240
             by_cases c25 : (x7_3 ++ (⟨#[32]⟩ : ByteArray)).size + t108.size ≤ 9223372036854775807
             ·rw [if_pos c25] at H; have c25s : x7_3.size + 1 + t108.size ≤ 9223372036854775807 := by (have z_ := c25); simp only [ByteArray.size_append] at z_; exact z_
              replace c25s := eq_true c25s
              try have c25t := eq_false (Nat.not_lt.2 (of_eq_true c25s))
              have c25b0 := eq_true c25; have c25b1 := decide_eq_true c25
              try have c25b2 : (9223372036854775807 < (x7_3 ++ (⟨#[32]⟩ : ByteArray)).size + t108.size) = False := eq_false (Nat.not_lt.2 c25)
              have H' := Aside0.mk H; clear H; obtain ⟨hcz26_0, hfz26_0⟩ := bc1 BK101.out; have p105 : 0 ≤ (x8_1 : Int) := of_decide_eq_true qa; have q105 : x8_1 < (l0_0.length : Int) := of_decide_eq_true qa; obtain ⟨ad105, A105_0, c105_0, e105, hx105_0, hl105_0, hi105_0⟩ := at_L14 HR0_0.out x8_1 p105 q105; cases e105; replace hx105_0 := (HB.out.cell (World.block_lt_of_cell? w _ hx105_0)).trans hx105_0; have HR105_0 := Aside0.mk hi105_0; have HC105_0 := Aside0.mk hl105_0; clear hi105_0 hl105_0; (try simp only [Go.IntWalk.toNatUp] at hx105_0); replace p105 := eq_true p105; replace q105 := eq_true q105; have p106 : 0 ≤ (x8_1 : Int) := of_decide_eq_true qa; have q106 : x8_1 < (l0_0.length : Int) := of_decide_eq_true qa; obtain ⟨ad106, A106_0, c106_0, e106, hx106_0, hl106_0, hi106_0⟩ := at_L14 HR0_0.out x8_1 p106 q106; obtain rfl : ad105 = ad106 := (by injection e106); replace hx106_0 := (HB.out.cell (World.block_lt_of_cell? w _ hx106_0)).trans hx106_0; have HR106_0 := Aside0.mk hi106_0; have HC106_0 := Aside0.mk hl106_0; clear hi106_0 hl106_0; (try simp only [Go.IntWalk.toNatUp] at hx106_0); replace p106 := eq_true p106; replace q106 := eq_true q106; have ea_ := Option.some.inj (hx105_0.symm.trans hx106_0); injection ea_ with ea_ en_ ec_
              subst ea_; subst ec_; clear en_; have p107 : 0 ≤ (x9_3 : Int) := of_decide_eq_true qa; have q107 : x9_3 < ((rd_L14 l0_0 x8_1).length : Int) := of_decide_eq_true qa; obtain ⟨ad107, e107, hx107_0⟩ := Kd.at_int HR106_0.out x9_3 p107 q107; cases e107; replace hx107_0 := (HB.out.cell (World.block_lt_of_cell? w _ hx107_0)).trans hx107_0; (try simp only [Go.IntWalk.toNatUp] at hx107_0); replace p107 := eq_true p107; replace q107 := eq_true q107
              go_wp2_with (first | ((with_reducible refine gate_callee (f := 27) rfl ?_); refine goesL_ (some 52) rfl rfl Tryz.func27 (by kernel_rfl) rfl #[.int .i64 (rd (rd_L14 l0_0 x8_1) x9_3)] rfl qm ?_; (with_reducible refine (entrepotref04_Num.calls k3 (rd (rd_L14 l0_0 x8_1) x9_3) t108 _ A24.out).mono ?_); rintro e w27 ⟨rfl, hb⟩; refine ⟨_, rfl, ?_⟩; replace BK101 := cK BK101 hb; replace HB := cB HB hb; (try clear hb); (try clear hb2); (try clear hk); (try clear hi)))
              go_roundg k3
              case measure => have := HK1.out; have := HJ5.out; have := HK3.out; omega
              case rel => exact ⟨((x7_3 ++ (⟨#[32]⟩ : ByteArray)) ++ t108), (wrap64 (x9_3 + 1)), qr, qr, H', ⟨by have := HK1.out; have := HJ5.out; have := HK3.out; omega⟩, ⟨qk BK101.out⟩, ⟨qb⟩⟩
             ·rw [if_neg c25] at H
              exact absurd H (by simp)
            ·rw [if_neg c23] at H
             exact absurd H (by simp)
           ·rw [if_neg c22] at H
            exact absurd H (by simp)
          ·rw [if_neg c21] at H; have c21b0 := decide_eq_false c21; clear c21
           by_cases c28 : x7_3.size + 1 ≤ 9223372036854775807
           ·rw [if_pos c28] at H; have c28b0 := eq_true c28; have c28b1 := decide_eq_true c28
            try have c28b2 : (9223372036854775807 < x7_3.size + 1) = False := eq_false (Nat.not_lt.2 c28)
            have H' := Aside0.mk H; clear H; obtain ⟨hcz29_0, hfz29_0⟩ := bc1 BK101.out; have p105 : 0 ≤ (x8_1 : Int) := of_decide_eq_true qa; have q105 : x8_1 < (l0_0.length : Int) := of_decide_eq_true qa; obtain ⟨ad105, A105_0, c105_0, e105, hx105_0, hl105_0, hi105_0⟩ := at_L14 HR0_0.out x8_1 p105 q105; cases e105; replace hx105_0 := (HB.out.cell (World.block_lt_of_cell? w _ hx105_0)).trans hx105_0; have HR105_0 := Aside0.mk hi105_0; have HC105_0 := Aside0.mk hl105_0; clear hi105_0 hl105_0; (try simp only [Go.IntWalk.toNatUp] at hx105_0); replace p105 := eq_true p105; replace q105 := eq_true q105
            go_wp2
            go_roundg k3
            case measure => have := HK1.out; have := HJ5.out; have := HK3.out; omega
            case rel => exact ⟨(x7_3 ++ (⟨#[10]⟩ : ByteArray)), (wrap64 (x8_1 + 1)), qr, qr, H', ⟨by have := HK1.out; have := HJ5.out; have := HK3.out; omega⟩, ⟨qk BK101.out⟩, ⟨qb⟩⟩
           ·rw [if_neg c28] at H
            exact absurd H (by simp)
         ·rw [if_neg c20] at H
          exact absurd H (by simp)
        ·rw [if_neg c19] at H
         exact absurd H (by simp)
   ·rw [if_neg c5] at H; have c5b0 := decide_eq_false c5; clear c5
    by_cases c30 : a1 ≥ 0
    ·rw [if_pos c30] at H; have c30b0 := decide_eq_true c30; clear c30
     by_cases c31 : x7_1.size + 5 ≤ 9223372036854775807
     ·rw [if_pos c31] at H; have c31b0 := eq_true c31; have c31b1 := decide_eq_true c31
      try have c31b2 : (9223372036854775807 < x7_1.size + 5) = False := eq_false (Nat.not_lt.2 c31)
      replace H := Option.bind_eq_some_iff.mp H; obtain ⟨t102, A320, H⟩ := H; (try dsimp only at H); have A32 := Aside0.mk A320; clear A320
      by_cases c33 : (x7_1 ++ (⟨#[67, 111, 115, 116, 32]⟩ : ByteArray)).size + t102.size ≤ 9223372036854775807
      ·rw [if_pos c33] at H; have c33s : x7_1.size + 5 + t102.size ≤ 9223372036854775807 := by (have z_ := c33); simp only [ByteArray.size_append] at z_; exact z_
       replace c33s := eq_true c33s
       try have c33t := eq_false (Nat.not_lt.2 (of_eq_true c33s))
       have c33b0 := eq_true c33; have c33b1 := decide_eq_true c33
       try have c33b2 : (9223372036854775807 < (x7_1 ++ (⟨#[67, 111, 115, 116, 32]⟩ : ByteArray)).size + t102.size) = False := eq_false (Nat.not_lt.2 c33)
       by_cases c34 : ((x7_1 ++ (⟨#[67, 111, 115, 116, 32]⟩ : ByteArray)) ++ t102).size + 1 ≤ 9223372036854775807
       ·rw [if_pos c34] at H; have c34s : x7_1.size + 5 + t102.size + 1 ≤ 9223372036854775807 := by (have z_ := c34); simp only [ByteArray.size_append] at z_; exact z_
        replace c34s := eq_true c34s
        try have c34t := eq_false (Nat.not_lt.2 (of_eq_true c34s))
        have c34b0 := eq_true c34; have c34b1 := decide_eq_true c34
        try have c34b2 : (9223372036854775807 < ((x7_1 ++ (⟨#[67, 111, 115, 116, 32]⟩ : ByteArray)) ++ t102).size + 1) = False := eq_false (Nat.not_lt.2 c34)
        obtain rfl := Option.some.inj H; obtain ⟨hcz35_0, hfz35_0⟩ := bc1 BK101.out
        go_wp2_with (first | ((with_reducible refine gate_callee (f := 27) rfl ?_); refine goesL_ (some 61) rfl rfl Tryz.func27 (by kernel_rfl) rfl #[.int .i64 a1] rfl qm ?_; (with_reducible refine (entrepotref04_Num.calls k1 a1 t102 _ A32.out).mono ?_); rintro e w36 ⟨rfl, hb⟩; refine ⟨_, rfl, ?_⟩; replace BK101 := cK BK101 hb; replace HB := cB HB hb; (try clear hb); (try clear hb2); (try clear hk); (try clear hi)))
        go_ret
        exact ⟨qe, qb⟩
       ·rw [if_neg c34] at H
        exact absurd H (by simp)
      ·rw [if_neg c33] at H
       exact absurd H (by simp)
     ·rw [if_neg c31] at H
      exact absurd H (by simp)
    ·rw [if_neg c30] at H; have c30b0 := decide_eq_false c30; clear c30; obtain rfl := Option.some.inj H; obtain ⟨hcz37_0, hfz37_0⟩ := bc1 BK101.out
     go_wp2
     go_ret
     exact ⟨qe, qb⟩
end Go.Proofs.YtadocbfchdendaaGreatDoor.P
namespace Go.Proofs.YtadocbfchdendaaGreatDoor.Cu
open Go.RowKit Go.Lib Go.Proofs.YtadocbfchdendaaGreatDoorW.PrintWords Go.Proofs.YtadocbfchdendaaGreatDoor.P
set_option linter.unusedSimpArgs false
set_option linter.unusedVariables false
def stopsT (r : List Int) : List UInt8 := r.flatMap fun n => 32 :: Lib.itoa n
def headT (hash : Bool) (i : Nat) : List UInt8 := if hash = true then [82, 111, 117, 116, 101, 32, 35] ++ (Lib.itoa ((i : Int) + 1) ++ [58]) else [82, 111, 117, 116, 101, 32] ++ (Lib.itoa ((i : Int) + 1) ++ [32, 58])
def routesT (hash : Bool) : List (List Int) → Nat → List UInt8
  | [], _ => []
  | r :: rs, i => headT hash i ++ (stopsT r ++ (10 :: routesT hash rs (i + 1)))
def costT (cost : Int) : List UInt8 := if cost ≥ 0 then [67, 111, 115, 116, 32] ++ (Lib.itoa cost ++ [10]) else []
def prS (l : List (List Int)) (cost : Int) (hash : Bool) : List UInt8 := routesT hash l 0 ++ costT cost
theorem drop_at {α : Type} (L : List α) (i : Nat) (x : α) (hx : L[i]? = some x) : L.drop i = x :: L.drop (i + 1) := by
  have hi := (List.getElem?_eq_some_iff.1 hx).1
  rw [List.drop_eq_getElem_cons hi]
  congr 1
  exact Option.some.inj ((List.getElem?_eq_getElem hi).symm.trans hx)
structure PrSt (w wr : World) (b : Nat) (t rest full : List UInt8) : Prop where
  bel : Below w.heap.size w wr
  bld : Bld wr b b t
  eq : t ++ rest = full
  ge : w.heap.size ≤ b
  lt : b ≤ wr.heap.size
theorem PrSt.step {w wr w' : World} {b : Nat} {t rest full : List UInt8} (h : PrSt w wr b t rest full) (hb : Below wr.heap.size wr w') : PrSt w w' b t rest full :=
  ⟨below_step h.bel hb, h.bld.below hb, h.eq, h.ge, Nat.le_trans h.lt hb.size⟩
theorem PrSt.wrote {w wr w' : World} {b : Nat} {t s rest full : List UInt8} (h : PrSt w wr b t (s ++ rest) full) (hB : Bld w' b b (t ++ s)) (hb : Below b wr w') : PrSt w w' b (t ++ s) rest full :=
  ⟨h.bel.trans (hb.mono h.ge), hB, by rw [← h.eq, List.append_assoc], h.ge, Nat.le_trans h.lt hb.size⟩
theorem PrSt.put {w wr : World} {b : Nat} {t x rest full : List UInt8} (h : PrSt w wr b t (x ++ rest) full) (hz : full.length ≤ 140737488355328) (s : ByteArray) (hs : s.data.toList = x) :
    Calls Tryz.prog 82 #[.pointer (some ⟨b, 0, none⟩), .string s] wr fun e w' => e = .returned (.tuple #[.int .i64 s.size, .nilIface]) ∧ Hid (PrSt w w' b (t ++ x) rest full) := by
  subst hs
  have hl : s.data.toList.length = s.size := rfl
  have he := congrArg List.length h.eq
  simp only [List.length_append] at he
  exact (h.bld.write s (by omega) h.lt).mono fun e w' ⟨h1, h2, h3⟩ => ⟨h1, h.wrote h2 h3⟩
theorem stopsT_nil : stopsT [] = [] := rfl
theorem routesT_nil (hash : Bool) (i : Nat) : routesT hash [] i = [] := rfl
theorem stopsT_at (r : List Int) (k : Nat) (n : Int) (h : r[k]? = some n) (R : List UInt8) : stopsT (r.drop k) ++ R = (32 :: Lib.itoa n) ++ (stopsT (r.drop (k + 1)) ++ R) := by
  rw [drop_at r k n h]
  simp [stopsT]
set_option maxRecDepth 100000 in
set_option maxHeartbeats 4000000 in
theorem PrintRoutes_calls (A : Option Addr) (c : Nat) (l : List (List Int)) (cost : Int) (hash : Bool) (w : World) (hT : Tabs w) (hC : Kd.C (Kd.slice 3 (Kd.int .i64)) w A l.length l) (hc : l.length ≤ c)
    (hr : ∀ r ∈ l, ∀ n ∈ r, -9223372036854775808 ≤ n ∧ n ≤ 9223372036854775807) (hcost : -9223372036854775808 ≤ cost ∧ cost ≤ 9223372036854775807) (hlen : l.length < 1000000000) (hsz : (prS l cost hash).length ≤ 140737488355328) :
    Calls Tryz.prog 44 #[.agg #[.slice A l.length c], .int .i64 cost, .bool hash] w fun e w' => e = .returned (.string ⟨(prS l cost hash).toArray⟩) ∧ Below w.heap.size w w' := by
  have HT := Lib.hid hT
  have HC := Lib.hid hC
  have HR := Lib.hid hr
  have HZ := Lib.hid hsz
  obtain ⟨full, hf⟩ : ∃ full, prS l cost hash = full := ⟨_, rfl⟩
  have HF := Lib.hid hf
  rw [hf] at HZ ⊢
  clear hT hC hr hsz hf
  go_enter Tryz.func44, Tryz.ntmps44
  go_wp2_with fail
  go_loopg [16] (l.length + 1) (fun n v16 wr => ∃ (i : Nat) (t : List UInt8), v16 = .int .i64 (i : Int) ∧ i ≤ l.length ∧ l.length + 1 - i ≤ n ∧ Hid (PrSt w wr (w.heap.size + 1) t (routesT hash (l.drop i) i ++ costT cost) full))
  case atStart =>
    refine ⟨0, [], rfl, by omega, by omega, ?_⟩
    have hb := Bld.new (w.alloc (.cells #[.slice A l.length c] 70))
    exact ⟨((Below.refl _ w).alloc (Nat.le_refl _) _).alloc (by simp) _, by simpa using hb, by rw [← HF.out, List.nil_append, List.drop_zero, prS], by omega, by simp⟩
  case round =>
    obtain ⟨i, t, rfl, hi, hn, HS⟩ := hrel
    by_cases hlt : i < l.length
    · obtain ⟨r, hr⟩ : ∃ r, l[i]? = some r := ⟨_, List.getElem?_eq_getElem hlt⟩
      obtain ⟨ad, A1, c1, rfl, hx, hl1, hC1⟩ := row_at HC.out i r hr
      have hx' := pw_cell_below HS.out.bel hx
      have HC1 := Lib.hid hC1
      have hrr := HR.out r (List.mem_of_getElem? hr)
      have HRR := Lib.hid hrr
      have HR0 := Lib.hid hr
      have e1 : wrap64 ((i : Int) + 1) = (i : Int) + 1 := by unfold wrap64; omega
      have hIt : strconv_Itoa.f ((i : Int) + 1) = some ⟨(Lib.itoa ((i : Int) + 1)).toArray⟩ := by unfold strconv_Itoa.f; rw [if_pos (by omega)]
      have hln := Lib.itoa_length_le ((i : Int) + 1) (by omega) (by omega)
      obtain ⟨R1, hR1⟩ : ∃ R1, routesT hash (l.drop (i + 1)) (i + 1) ++ costT cost = R1 := ⟨_, rfl⟩
      have H0 : Hid (PrSt w wr (w.heap.size + 1) t (headT hash i ++ (stopsT (r.drop 0) ++ ([10] ++ R1))) full) := by
        have := HS.out
        rw [drop_at l i r hr] at this
        refine ⟨this.bel, this.bld, ?_, this.ge, this.lt⟩
        rw [← this.eq, ← hR1]
        simp [routesT]
      have HR1 := Lib.hid hR1
      clear hx hC1 hrr hr HS hR1
      cases hash
      all_goals
        go_wp2_with (first
          | (go_at_call 80; refine (strconv_Itoa.calls _ _ _ (Tabs.kept HT.out H0.out.bel) hIt).mono ?_; rintro e W1 ⟨rfl, hb1⟩; have H1 := Lib.hid (H0.out.step hb1); clear H0 hb1 hIt hx')
          | (go_at_call 82; refine (H1.out.put HZ.out _ ?hs).mono ?_; (case hs => simp [headT]); rintro e W2 ⟨rfl, H2⟩; clear H1))
        go_loopg [35] (r.length + 1) (fun n v35 wr => ∃ (k : Nat) (t : List UInt8), v35 = .int .i64 (k : Int) ∧ k ≤ r.length ∧ r.length + 1 - k ≤ n ∧ Hid (PrSt w wr (w.heap.size + 1) t (stopsT (r.drop k) ++ ([10] ++ R1)) full))
        case atStart => exact ⟨0, _, rfl, by omega, by omega, H2⟩
        case round =>
          obtain ⟨k, t, rfl, hk, hn2, H3⟩ := hrel
          by_cases hlt2 : k < r.length
          · obtain ⟨n, hr⟩ : ∃ n, r[k]? = some n := ⟨_, List.getElem?_eq_getElem hlt2⟩
            obtain ⟨ad1, rfl, hx⟩ := int_at HC1.out k n hr
            have hx' := pw_cell_below H3.out.bel hx
            have hnn := HRR.out n (List.mem_of_getElem? hr)
            have hIt : strconv_Itoa.f n = some ⟨(Lib.itoa n).toArray⟩ := by unfold strconv_Itoa.f; rw [if_pos hnn]
            have hln2 := Lib.itoa_length_le n hnn.1 hnn.2
            have e2 := wrap_up hlt2 (C_len HC1.out)
            have H4 := H3
            rw [stopsT_at r k n hr] at H4
            clear hx hr
            go_wp2_with (first
              | (go_at_call 80; refine (strconv_Itoa.calls _ _ _ (Tabs.kept HT.out H4.out.bel) hIt).mono ?_; rintro e W1 ⟨rfl, hb1⟩; have H1 := Lib.hid (H4.out.step hb1); clear H4 H3 hb1 hIt hx')
              | (go_at_call 82; refine (H1.out.put HZ.out _ ?hs).mono ?_; (case hs => simp); rintro e W2 ⟨rfl, H2⟩; clear H1))
            go_roundg (r.length - k)
            case measure => exact meas_up hn2 hlt2
            case rel => exact ⟨k + 1, _, by rw [e2]; rfl, hlt2, left_up, H2⟩
          · have hk' : k = r.length := by omega
            have H4 := H3
            rw [hk', List.drop_of_length_le (Nat.le_refl _), stopsT_nil, List.nil_append] at H4
            have H5 := H4
            clear hk' H4 H3
            go_wp2_with (go_at_call 82; refine (H5.out.put HZ.out _ ?hs).mono ?_; (case hs => simp); rintro e W2 ⟨rfl, H6⟩; clear H5)
            go_roundg (l.length - i)
            case measure => omega
            case rel => exact ⟨i + 1, _, by go_num, by omega, by omega, by rw [HR1.out]; exact H6⟩
    · have hi' : i = l.length := by omega
      have H4 := HS
      rw [hi', List.drop_of_length_le (Nat.le_refl _), routesT_nil, List.nil_append] at H4
      have H5 := H4
      clear hi' H4 HS
      by_cases hc0 : cost ≥ 0
      · have hIt : strconv_Itoa.f cost = some ⟨(Lib.itoa cost).toArray⟩ := by unfold strconv_Itoa.f; rw [if_pos hcost]
        have hln := Lib.itoa_length_le cost hcost.1 hcost.2
        have H6 : Hid (PrSt w wr (w.heap.size + 1) t (([67, 111, 115, 116, 32] ++ (Lib.itoa cost ++ [10])) ++ []) full) := by
          have := H5.out
          unfold costT at this
          rw [if_pos hc0] at this
          rw [List.append_nil]
          exact this
        have hc1 : (0 : Int) ≤ cost := hc0
        clear H5
        go_wp2_with (first
          | (go_at_call 80; refine (strconv_Itoa.calls _ _ _ (Tabs.kept HT.out H6.out.bel) hIt).mono ?_; rintro e W1 ⟨rfl, hb1⟩; have H7 := Lib.hid (H6.out.step hb1); clear H6 hb1 hIt)
          | (go_at_call 82; refine (H7.out.put HZ.out _ ?hs).mono ?_; (case hs => simp); rintro e W2 ⟨rfl, H8⟩; clear H7)
          | (go_at_call 83; refine (H8.out.bld.text H8.out.lt).mono ?_; rintro e W3 ⟨rfl, hb3⟩))
        go_ret
        refine ⟨?_, H8.out.bel.trans (hb3.mono H8.out.ge)⟩
        have := H8.out.eq
        rw [List.append_nil] at this
        rw [← this]
        rfl
      · have H6 : Hid (PrSt w wr (w.heap.size + 1) t [] full) := by
          have := H5.out
          unfold costT at this
          rw [if_neg hc0] at this
          exact this
        have hc1 : ¬ (0 : Int) ≤ cost := hc0
        clear H5
        go_wp2_with (go_at_call 83; refine (H6.out.bld.text H6.out.lt).mono ?_; rintro e W3 ⟨rfl, hb3⟩)
        go_ret
        refine ⟨?_, H6.out.bel.trans (hb3.mono H6.out.ge)⟩
        have := H6.out.eq
        rw [List.append_nil] at this
        rw [← this]
        rfl
end Go.Proofs.YtadocbfchdendaaGreatDoor.Cu
namespace Go.Proofs.YtadocbfchdendaaGreatDoor.P
open Go.RowKit Go.Lib Go.Proofs.YtadocbfchdendaaGreatDoorW.PrintWords
set_option linter.unusedSimpArgs false
set_option linter.unusedVariables false
def tour_PrintRoutes.ok (l : List (List Int)) (cost : Int) (hash : Bool) : Bool :=
  l.all (fun r => r.all fun n => decide (-9223372036854775808 ≤ n) && decide (n ≤ 9223372036854775807)) && (decide (-9223372036854775808 ≤ cost) && (decide (cost ≤ 9223372036854775807) && (decide (l.length < 1000000000) && decide ((Cu.prS l cost hash).length ≤ 140737488355328))))
def tour_PrintRoutes.f (l : List (List Int)) (cost : Int) (hash : Bool) : Option ByteArray := if tour_PrintRoutes.ok l cost hash = true then some ⟨(Cu.prS l cost hash).toArray⟩ else none
theorem tour_PrintRoutes.calls (A0_0 : Option Addr) (c0_0 : Nat) (l0_0 : List (List Int)) (a1 : Int) (a2 : Bool) (r : ByteArray) (w : World) (hr0_0 : Kd.C (Kd.slice 3 (Kd.int .i64)) w A0_0 l0_0.length l0_0) (hc0_0 : l0_0.length ≤ c0_0) (hT : Tabs w) (h : tour_PrintRoutes.f l0_0 a1 a2 = some r) :
    Calls Tryz.prog 44 #[.agg #[.slice A0_0 l0_0.length c0_0], .int .i64 a1, .bool a2] w fun e w' => e = .returned (.string r) ∧ Below w.heap.size w w' := by
  unfold tour_PrintRoutes.f at h
  split at h
  · rename_i hb
    obtain rfl := Option.some.inj h
    unfold tour_PrintRoutes.ok at hb
    simp only [Bool.and_eq_true, List.all_eq_true, decide_eq_true_eq] at hb
    exact Cu.PrintRoutes_calls A0_0 c0_0 l0_0 a1 a2 w hT hr0_0 hc0_0 hb.1 ⟨hb.2.1, hb.2.2.1⟩ hb.2.2.2.1 hb.2.2.2.2
  · cases h
end Go.Proofs.YtadocbfchdendaaGreatDoor.P
namespace Go.Proofs.YtadocbfchdendaaGreatDoor.P
open Go.RowKit Go.Proofs.YtadocbfchdendaaGreatDoorW.PrintWords Go.Proofs.YtadocbfchdendaaGreatDoorW.PrintLast Go.Proofs.YtadocbfchdendaaGreatDoorW.PrintMore
attribute [local go_sem] max2_int min2_int max_two min_two max_three min_three max_four min_four
set_option linter.unusedVariables false
set_option linter.unusedSimpArgs false
mutual
def entrepotlaw16_TourPrints.j0 : Nat → ByteArray → Int → Bool → Bool → List (List Int) → Option (Bool)
 | 0, _, _, _, _, _ => none
 | k + 1, x0, x2, x3, x19, x102000 => if x19 = true then ((entrepotlaw16_shown.f k).bind fun t104 => (some t104)) else ((tour_PrintTour.f k x0 x102000).bind fun t105 => ((entrepotlaw16_its.f x102000).bind fun t106 => ((entrepotref16_PrintTour.f k x0 t106).bind fun t109 => (if t105.toList = t109.toList then ((entrepotlaw16_small.f k x102000).bind fun t110 => (if t110 = true then (if x2 < (-1) then (entrepotlaw16_TourPrints.j1 k x2 x3 true x102000) else (entrepotlaw16_TourPrints.j1 k x2 x3 (decide (x2 > 100000000)) x102000)) else (entrepotlaw16_TourPrints.j1 k x2 x3 true x102000))) else (none)))))
def entrepotlaw16_TourPrints.j1 : Nat → Int → Bool → Bool → List (List Int) → Option (Bool)
 | 0, _, _, _, _ => none
 | k + 1, x2, x3, x39, x102000 => if x39 = true then (some true) else ((tour_PrintRoutes.f x102000 x2 x3).bind fun t111 => ((entrepotlaw16_its.f x102000).bind fun t112 => ((entrepotref16_PrintRoutes.f k t112 x2 x3).bind fun t115 => (some (t111.toList == t115.toList)))))
end
def entrepotlaw16_TourPrints.f (k : Nat) (a0 : ByteArray) (l1_0 : List (List Int)) (a2 : Int) (a3 : Bool) : Option (Bool) := if (a0.size : Int) > 100 then (entrepotlaw16_TourPrints.j0 k a0 a2 a3 true l1_0) else ((entrepotlaw16_long.f k l1_0).bind fun t102 => (if t102 = true then (entrepotlaw16_TourPrints.j0 k a0 a2 a3 true l1_0) else ((entrepotlaw16_shown.f k).bind fun t103 => (entrepotlaw16_TourPrints.j0 k a0 a2 a3 (!t103) l1_0))))
theorem entrepotlaw16_TourPrints.mono_l : ∀ k, (∀ y0 y1 y2 y3 y4, LeO (entrepotlaw16_TourPrints.j0 k y0 y1 y2 y3 y4) (entrepotlaw16_TourPrints.j0 (k + 1) y0 y1 y2 y3 y4)) ∧ (∀ y0 y1 y2 y3, LeO (entrepotlaw16_TourPrints.j1 k y0 y1 y2 y3) (entrepotlaw16_TourPrints.j1 (k + 1) y0 y1 y2 y3))
 | 0 => ⟨fun _ _ _ _ _ r h => by simp [entrepotlaw16_TourPrints.j0] at h, fun _ _ _ _ r h => by simp [entrepotlaw16_TourPrints.j1] at h⟩
 | k + 1 => by
  obtain ⟨ih0, ih1⟩ := entrepotlaw16_TourPrints.mono_l k; refine ⟨?_, ?_⟩
  ·intro y0 y1 y2 y3 y4
   unfold entrepotlaw16_TourPrints.j0
   repeat' first
   | (with_reducible exact ih0 _ _ _ _ _)
   | (with_reducible exact ih1 _ _ _ _)
   | (with_reducible exact entrepotlaw16_long.mono _ _)
   | (with_reducible exact entrepotlaw16_shown.mono _)
   | (with_reducible exact entrepotlaw16_small.mono _ _)
   | (with_reducible exact entrepotref16_PrintRoutes.mono _ _ _ _)
   | (with_reducible exact entrepotref16_PrintTour.mono _ _ _)
   | (with_reducible exact tour_PrintTour.mono _ _ _)
   | (with_reducible exact LeO.refl _)
   | (with_reducible exact LeO.none _)
   | (with_reducible refine LeO.ite ?_ ?_)
   | (with_reducible refine LeO.bind ?_ (fun _ => ?_))
   | exact ih0 _ _ _ _ _
   | exact ih1 _ _ _ _
   | exact entrepotlaw16_long.mono _ _
   | exact entrepotlaw16_shown.mono _
   | exact entrepotlaw16_small.mono _ _
   | exact entrepotref16_PrintRoutes.mono _ _ _ _
   | exact entrepotref16_PrintTour.mono _ _ _
   | exact tour_PrintTour.mono _ _ _
   | exact LeO.none _
   | refine LeO.ite ?_ ?_
   | refine LeO.bind ?_ (fun _ => ?_)
  ·intro y0 y1 y2 y3
   unfold entrepotlaw16_TourPrints.j1
   repeat' first
   | (with_reducible exact ih0 _ _ _ _ _)
   | (with_reducible exact ih1 _ _ _ _)
   | (with_reducible exact entrepotlaw16_long.mono _ _)
   | (with_reducible exact entrepotlaw16_shown.mono _)
   | (with_reducible exact entrepotlaw16_small.mono _ _)
   | (with_reducible exact entrepotref16_PrintRoutes.mono _ _ _ _)
   | (with_reducible exact entrepotref16_PrintTour.mono _ _ _)
   | (with_reducible exact tour_PrintTour.mono _ _ _)
   | (with_reducible exact LeO.refl _)
   | (with_reducible exact LeO.none _)
   | (with_reducible refine LeO.ite ?_ ?_)
   | (with_reducible refine LeO.bind ?_ (fun _ => ?_))
   | exact ih0 _ _ _ _ _
   | exact ih1 _ _ _ _
   | exact entrepotlaw16_long.mono _ _
   | exact entrepotlaw16_shown.mono _
   | exact entrepotlaw16_small.mono _ _
   | exact entrepotref16_PrintRoutes.mono _ _ _ _
   | exact entrepotref16_PrintTour.mono _ _ _
   | exact tour_PrintTour.mono _ _ _
   | exact LeO.none _
   | refine LeO.ite ?_ ?_
   | refine LeO.bind ?_ (fun _ => ?_)
theorem entrepotlaw16_TourPrints.mono : ∀ a0 a1 a2 a3 k, LeO (entrepotlaw16_TourPrints.f k a0 a1 a2 a3) (entrepotlaw16_TourPrints.f (k + 1) a0 a1 a2 a3) := by
 intro a0 a1 a2 a3 k
 obtain ⟨ih0, ih1⟩ := entrepotlaw16_TourPrints.mono_l k; unfold entrepotlaw16_TourPrints.f
 repeat' first
   | (with_reducible exact ih0 _ _ _ _ _)
   | (with_reducible exact ih1 _ _ _ _)
   | (with_reducible exact entrepotlaw16_long.mono _ _)
   | (with_reducible exact entrepotlaw16_shown.mono _)
   | (with_reducible exact entrepotlaw16_small.mono _ _)
   | (with_reducible exact entrepotref16_PrintRoutes.mono _ _ _ _)
   | (with_reducible exact entrepotref16_PrintTour.mono _ _ _)
   | (with_reducible exact tour_PrintTour.mono _ _ _)
   | (with_reducible exact LeO.refl _)
   | (with_reducible exact LeO.none _)
   | (with_reducible refine LeO.ite ?_ ?_)
   | (with_reducible refine LeO.bind ?_ (fun _ => ?_))
   | exact ih0 _ _ _ _ _
   | exact ih1 _ _ _ _
   | exact entrepotlaw16_long.mono _ _
   | exact entrepotlaw16_shown.mono _
   | exact entrepotlaw16_small.mono _ _
   | exact entrepotref16_PrintRoutes.mono _ _ _ _
   | exact entrepotref16_PrintTour.mono _ _ _
   | exact tour_PrintTour.mono _ _ _
   | exact LeO.none _
   | refine LeO.ite ?_ ?_
   | refine LeO.bind ?_ (fun _ => ?_)
def entrepotlaw16_TourPrints.T3 : Bool × List (List Nat × List Nat) := (true, [([], []), ([], []), ([0, 1], [0, 1]), ([], []), ([], []), ([4, 2], [4]), ([3, 5, 5], [3, 5]), ([2, 6], [2, 6])])
def entrepotlaw16_TourPrints.B3 : List Nat := [0, 0, 3, 0, 0, 23, 63, 127]
theorem entrepotlaw16_TourPrints.tab3 : rtab .any (opsOf Tryz.f11 3) = entrepotlaw16_TourPrints.T3 := by kernel_rfl
theorem entrepotlaw16_TourPrints.bits3 : waitsOk entrepotlaw16_TourPrints.T3.2 entrepotlaw16_TourPrints.B3 = true := by kernel_rfl
def entrepotlaw16_TourPrints.T7 : Bool × List (List Nat × List Nat) := (true, [([], []), ([], []), ([], []), ([0, 1, 2], [0, 1, 2]), ([], []), ([4, 3], [4]), ([], []), ([], []), ([5, 6, 7, 5], [5, 6, 7]), ([3, 8], [3, 8]), ([9, 8, 0, 1, 2, 3, 4, 5, 6, 7, 8, 9], [9])])
def entrepotlaw16_TourPrints.B7 : List Nat := [0, 0, 0, 7, 0, 31, 0, 0, 255, 511, 1023]
theorem entrepotlaw16_TourPrints.tab7 : rtab .any (opsOf Tryz.f11 7) = entrepotlaw16_TourPrints.T7 := by kernel_rfl
theorem entrepotlaw16_TourPrints.bits7 : waitsOk entrepotlaw16_TourPrints.T7.2 entrepotlaw16_TourPrints.B7 = true := by kernel_rfl
set_option maxHeartbeats 8000000 in
set_option maxRecDepth 100000 in
theorem entrepotlaw16_TourPrints.calls (k : Nat) (a0 : ByteArray) (A1_0 : Option Addr) (c1_0 : Nat) (l1_0 : List (List Int)) (a2 : Int) (a3 : Bool) (r : Bool) (w : World) (hr1_0 : Kd.C (Kd.slice 3 (Kd.int .i64)) w A1_0 l1_0.length l1_0) (hc1_0 : l1_0.length ≤ c1_0) (hT : Tabs w) (h : entrepotlaw16_TourPrints.f k a0 l1_0 a2 a3 = some r) :
  Calls Tryz.prog 11 #[.string a0, .agg #[.slice A1_0 l1_0.length c1_0], .int .i64 a2, .bool a3] w fun e w' => e = .returned (.bool r) ∧ Below w.heap.size w w' := by
 have hu70 := Tryz.underlying70; have HT0 := Aside0.mk hT; clear hT; have HR1_0 := Aside0.mk hr1_0; have HC1_0 := Aside0.mk hc1_0; clear hr1_0 hc1_0; have HB := Aside0.mk (Below.refl w.heap.size w); have H : (if (a0.size : Int) > 100 then (entrepotlaw16_TourPrints.j0 k a0 a2 a3 true l1_0) else ((entrepotlaw16_long.f k l1_0).bind fun t102 => (if t102 = true then (entrepotlaw16_TourPrints.j0 k a0 a2 a3 true l1_0) else ((entrepotlaw16_shown.f k).bind fun t103 => (entrepotlaw16_TourPrints.j0 k a0 a2 a3 (!t103) l1_0))))) = some r := h; clear h; have HC5 := Aside0.mk H; clear H; go_enter Tryz.func11, Tryz.ntmps11
 go_upto_region 1 with (first | ((with_reducible refine gate_dst (N := 5) rfl ?_); refine box_ev (N := 5) (cs := #[.slice A1_0 l1_0.length c1_0]) (t := 70) ?_; intro gb101 hg w6 hbox hb; have BK101 := Aside0.mk (hbox); have GW101 := Aside0.mk ((qg : w.heap.size ≤ gb101)); have GE101 := Aside0.mk ((qg : w.heap.size ≤ gb101)); replace HB := cB HB hb; clear hb hbox hg))
 (try simp only [Act.put, List.setIfInBounds_toArray, List.set_cons_zero, List.set_cons_succ])
 go_cut [19] (fun v19 wc => ∃ (kq : Nat) (x19_4 : Bool), v19 = .bool x19_4 ∧ Aside0 (entrepotlaw16_TourPrints.j0 kq a0 a2 a3 x19_4 l1_0 = some r) ∧ Aside0 (kq ≤ k) ∧ Aside0 (wc.heap[gb101]? = some (.cells #[(.slice A1_0 l1_0.length c1_0)] 70 (0, 0))) ∧ Aside0 (Below w.heap.size w wc))
 case first =>
  have H := HC5.out; clear HC5
  by_cases c7 : (a0.size : Int) > 100
  ·rw [if_pos c7] at H; have c7b0 := decide_eq_true c7; have c7b1 : decide (100 < a0.size) = true := decide_eq_true (by omega); clear c7; (first | rw [c7b0] | (simp only [i64_w, i32_w]; rw [c7b0]) | skip); have H' := Aside0.mk H; clear H
   go_wp2
   go_meet
   case rel => exact ⟨_, (true), qr, H', ⟨by first | omega | exact Nat.le_refl _⟩, ⟨qk BK101.out⟩, ⟨qb⟩⟩
  ·rw [if_neg c7] at H; have c7b0 := decide_eq_false c7; have c7b1 : decide (100 < a0.size) = false := decide_eq_false (by omega); clear c7; (first | rw [c7b0] | (simp only [i64_w, i32_w]; rw [c7b0]) | skip); replace H := Option.bind_eq_some_iff.mp H; obtain ⟨t102, A80, H⟩ := H; (try dsimp only at H); have A8 := Aside0.mk A80; clear A80
   by_cases c9 : t102 = true
   ·subst c9; have H1 : (entrepotlaw16_TourPrints.j0 k a0 a2 a3 true l1_0) = some r := by rw [if_pos rfl] at H; exact H
    clear H; have H := H1; clear H1; have H' := Aside0.mk H; clear H; obtain ⟨hcz10_0, hfz10_0⟩ := bc1 BK101.out
    go_wp2_with (first | (go_at_call 41; (with_reducible refine (entrepotlaw16_long.calls k _ _ l1_0 true _ ?side1 ?side2 A8.out).mono ?_); (case side1 => exact qC (Kd.C_below HR1_0.out HB.out)); (case side2 => exact HC1_0.out); rintro e w11 ⟨rfl, hb⟩; replace BK101 := cK BK101 hb; replace HB := cB HB hb; (try clear hb); (try clear hb2); (try clear hk); (try clear hi)))
    go_meet
    case rel => exact ⟨_, (true), qr, H', ⟨by first | omega | exact Nat.le_refl _⟩, ⟨qk BK101.out⟩, ⟨qb⟩⟩
   ·replace c9 := Bool.eq_false_iff.mpr c9; subst c9; have H1 : ((entrepotlaw16_shown.f k).bind fun t103 => (entrepotlaw16_TourPrints.j0 k a0 a2 a3 (!t103) l1_0)) = some r := by rw [if_neg (show ¬ (false = true) by decide)] at H; exact H
    clear H; have H := H1; clear H1; replace H := Option.bind_eq_some_iff.mp H; obtain ⟨t103, A120, H⟩ := H; (try dsimp only at H); have A12 := Aside0.mk A120; clear A120; have H' := Aside0.mk H; clear H; obtain ⟨hcz13_0, hfz13_0⟩ := bc1 BK101.out
    go_wp2_with (first | (go_at_call 41; (with_reducible refine (entrepotlaw16_long.calls k _ _ l1_0 false _ ?side1 ?side2 A8.out).mono ?_); (case side1 => exact qC (Kd.C_below HR1_0.out HB.out)); (case side2 => exact HC1_0.out); rintro e w14 ⟨rfl, hb⟩; replace BK101 := cK BK101 hb; replace HB := cB HB hb; (try clear hb); (try clear hb2); (try clear hk); (try clear hi)) | (go_at_call 33; (with_reducible refine (entrepotlaw16_shown.calls k  t103 _ (Tabs.kept HT0.out qb) A12.out).mono ?_); rintro e w15 ⟨rfl, hb⟩; replace BK101 := cK BK101 hb; replace HB := cB HB hb; (try clear hb); (try clear hb2); (try clear hk); (try clear hi)))
    go_meet
    case rel => exact ⟨_, (!t103), qr, H', ⟨by first | omega | exact Nat.le_refl _⟩, ⟨qk BK101.out⟩, ⟨qb⟩⟩
 case rest =>
  clear HC5; (try clear c1); (try clear p2); (try clear c7); (try clear c7b0); (try clear c7b1); (try clear c9); (try clear c11); (try clear hcz10_0); (try clear hcz13_0); (try clear hfz10_0); (try clear hfz13_0); obtain ⟨kq, x19_4, rfl, HA, HJ4, BK101, HB⟩ := hcut; cases kq with
  | zero => exact absurd HA.out (by simp [entrepotlaw16_TourPrints.j0])
  | succ kj4 =>
   have H := HA.out; clear HA; simp only [entrepotlaw16_TourPrints.j0] at H
   by_cases c16 : x19_4 = true
   ·subst c16; have H1 : ((entrepotlaw16_shown.f kj4).bind fun t104 => (some t104)) = some r := by rw [if_pos rfl] at H; exact H
    clear H; have H := H1; clear H1; replace H := Option.bind_eq_some_iff.mp H; obtain ⟨t104, A170, H⟩ := H; (try dsimp only at H); have A17 := Aside0.mk A170; clear A170; obtain rfl := Option.some.inj H
    go_wp2_with (first | ((with_reducible refine gate_callee (f := 33) rfl ?_); refine goesL_ (some 20) rfl rfl Tryz.func33 (by kernel_rfl) rfl #[] rfl qm ?_; (with_reducible refine (entrepotlaw16_shown.calls kj4  t104 _ (Tabs.kept HT0.out qb) A17.out).mono ?_); rintro e w18 ⟨rfl, hb⟩; refine ⟨_, rfl, ?_⟩; replace BK101 := cK BK101 hb; replace HB := cB HB hb; (try clear hb); (try clear hb2); (try clear hk); (try clear hi)))
    go_ret
    exact ⟨qe, qb⟩
   ·replace c16 := Bool.eq_false_iff.mpr c16; subst c16; have H1 : ((tour_PrintTour.f kj4 a0 l1_0).bind fun t105 => ((entrepotlaw16_its.f l1_0).bind fun t106 => ((entrepotref16_PrintTour.f kj4 a0 t106).bind fun t109 => (if t105.toList = t109.toList then ((entrepotlaw16_small.f kj4 l1_0).bind fun t110 => (if t110 = true then (if a2 < (-1) then (entrepotlaw16_TourPrints.j1 kj4 a2 a3 true l1_0) else (entrepotlaw16_TourPrints.j1 kj4 a2 a3 (decide (a2 > 100000000)) l1_0)) else (entrepotlaw16_TourPrints.j1 kj4 a2 a3 true l1_0))) else (none))))) = some r := by rw [if_neg (show ¬ (false = true) by decide)] at H; exact H
    clear H; have H := H1; clear H1; replace H := Option.bind_eq_some_iff.mp H; obtain ⟨t105, A190, H⟩ := H; (try dsimp only at H); have A19 := Aside0.mk A190; clear A190; replace H := Option.bind_eq_some_iff.mp H; obtain ⟨t106, A200, H⟩ := H; (try dsimp only at H); have A20 := Aside0.mk A200; clear A200; replace H := Option.bind_eq_some_iff.mp H; obtain ⟨t109, A210, H⟩ := H; (try dsimp only at H); have A21 := Aside0.mk A210; clear A210
    by_cases c22 : t105.toList = t109.toList
    ·rw [if_pos c22] at H; have c22b0 := beq_iff_eq.mpr c22; have c22b1 := bne_eq_false_iff_eq.mpr c22; clear c22; have HC23 := Aside0.mk H; clear H
     try go_wp2
     have n0_ := Aside0.mk (blk_drew BK101.out); have n1_ := Aside0.mk (below_drew1 HB.out); clear BK101; clear HB; have BK101 := n0_; have HB := n1_; clear n0_ n1_; refine start_ (n := 8) (S := fun w' => w'.cell? ⟨gb101, 0, none⟩ = some (.slice A1_0 l1_0.length c1_0)) (ds := []) #[false, false, false, false, false, false, false, false] (by kernel_rfl) rfl rfl ((blk_cell BK101.out 0).trans rfl) (fun hHeld => ?_); refine with_tabW entrepotlaw16_TourPrints.tab3 entrepotlaw16_TourPrints.bits3 (fun HT_ HW_ => ?_); generalize wc.drew = w24 at BK101 HB hHeld ⊢; refine pure_ (i := 0) (N := some 21) (v := ?_) (a' := ?_) #[true, false, false, false, false, false, false, false] rfl rfl (any_of HT_.out (by kernel_rfl)) (fun _ _ _ h => h) (Or.inl ⟨by rfl, ?_⟩) ?_ ?_
     rotate_left
     ·intro w'
      go_simp
      with_reducible rfl
     rotate_left
     ·simp only [Act.put, List.setIfInBounds_toArray, List.set_cons_zero, List.set_cons_succ, i64_w, i32_w]
      rfl
     refine pure_ (i := 3) (N := some 24) (v := ?_) (a' := ?_) #[true, false, false, true, false, false, false, false] rfl rfl (any_of HT_.out (by kernel_rfl)) (fun _ _ _ h => h) (Or.inl ⟨by rfl, ?_⟩) ?_ ?_
     rotate_left
     ·intro w'
      go_simp
      with_reducible rfl
     rotate_left
     ·simp only [Act.put, List.setIfInBounds_toArray, List.set_cons_zero, List.set_cons_succ, i64_w, i32_w]
      rfl
     refine take_ (i := 1) (N := some 22) (v := ?_) (a' := ?_) #[true, true, false, true, false, false, false, false] rfl rfl (take_ofW HT_.out HW_.out (by kernel_rfl)) (fun _ _ _ h => h) (Or.inl ⟨by rfl, ?_⟩) hHeld ?_ ?_
     rotate_left
     ·intro w' s0
      go_simp
      with_reducible rfl
     rotate_left
     ·simp only [Act.put, List.setIfInBounds_toArray, List.set_cons_zero, List.set_cons_succ, i64_w, i32_w]
      rfl
     refine take_ (i := 4) (N := some 25) (v := ?_) (a' := ?_) #[true, true, false, true, true, false, false, false] rfl rfl (take_ofW HT_.out HW_.out (by kernel_rfl)) (fun _ _ _ h => h) (Or.inl ⟨by rfl, ?_⟩) hHeld ?_ ?_
     rotate_left
     ·intro w' s0
      go_simp
      with_reducible rfl
     rotate_left
     ·simp only [Act.put, List.setIfInBounds_toArray, List.set_cons_zero, List.set_cons_succ, i64_w, i32_w]
      rfl
     refine one_ (i := 2) (N := some 23) #[true, true, true, true, true, false, false, false] rfl rfl (one_of HT_.out (by kernel_rfl)) (by decide) (fun K hK => ?_); refine goes_ Tryz.func40 (by kernel_rfl) rfl #[.string a0, .agg #[.slice A1_0 l1_0.length c1_0]] (by rfl) rfl rfl qm ?_
     with_reducible refine (tour_PrintTour.calls kj4 a0 _ _ l1_0 t105 _ ?side1 ?side2 (Tabs.kept HT0.out qb) A19.out).mono ?_
     (case side1 => exact qC (Kd.C_below HR1_0.out HB.out))
     (case side2 => exact HC1_0.out)
     rintro e w25 ⟨rfl, hb⟩
     refine ⟨_, rfl, ?_⟩; have n0_ := Aside0.mk (blk_below (g := gb101) (o := .cells #[.slice A1_0 l1_0.length c1_0] 70 (0, 0)) (qk BK101.out) hb); have n1_ := Aside0.mk (below_step qb hb); clear BK101; clear HB; have BK101 := n0_; have HB := n1_; clear n0_ n1_; (try clear hb); (try clear hb2); (try clear hk); (try clear hi); refine hK.out _ _ ((blk_cell BK101.out 0).trans rfl) (fun hHeld => ?_); clear hK K; refine norm_ (a' := ?_) ?_ ?_
     rotate_left
     ·show Act.put _ (some 23) _ = _
      simp only [Act.put, List.setIfInBounds_toArray, List.set_cons_zero, List.set_cons_succ, i64_w, i32_w]
      rfl
     refine one_ (i := 5) (N := some 26) #[true, true, true, true, true, true, false, false] rfl rfl (one_of HT_.out (by kernel_rfl)) (by decide) (fun K hK => ?_); refine goes_ Tryz.func39 (by kernel_rfl) rfl #[.agg #[.slice A1_0 l1_0.length c1_0]] (by rfl) rfl rfl qm ?_
     with_reducible refine (entrepotlaw16_its.calls (fun k_ => k_ < w.heap.size) _ _ l1_0 t106 _ ?side1 A20.out).mono ?_
     (case side1 => exact Kd.V_mk HC1_0.out (Kd.F_below (Kd.C_F (Kd.heap_slice 3 (Kd.heap_int .i64)) HR1_0.out) qb))
     rintro e w26 ⟨v107, rfl, ho0, hb⟩
     refine ⟨_, rfl, ?_⟩; have n0_ := Aside0.mk (Kd.V_lower (Kd.V_mono (ok' := fun k_ => k_ ≠ gb101) ho0 (fun k_ hk_ => Or.elim hk_ (fun hs_ => fun e_ => Nat.not_le.2 hs_ (by rw [e_]; exact GW101.out)) (fun hn_ => (Kd.freshB (g := gb101) (o := .cells #[.slice A1_0 l1_0.length c1_0] 70 (0, 0)) (qk BK101.out) k_ hn_)))) (below_size qb)); have n1_ := Aside0.mk (blk_below (g := gb101) (o := .cells #[.slice A1_0 l1_0.length c1_0] 70 (0, 0)) (qk BK101.out) hb); have n2_ := Aside0.mk (below_step qb hb); clear BK101; clear HB; have HO108 := n0_; have BK101 := n1_; have HB := n2_; clear n0_ n1_ n2_; (try clear hb); (try clear hb2); (try clear hk); (try clear hi); (try clear ho0); obtain ⟨Ao27, co27, eo27⟩ := Kd.V_slice HO108.out; (first | subst eo27 | (injection eo27 with f1_ f2_ f3_; have f4_ := f1_.symm; have f5_ := f3_.symm; clear f1_ f2_ f3_; subst f4_; subst f5_)); refine hK.out _ _ ((blk_cell BK101.out 0).trans rfl) (fun hHeld => ?_); clear hK K; refine norm_ (a' := ?_) ?_ ?_
     rotate_left
     ·show Act.put _ (some 26) _ = _
      simp only [Act.put, List.setIfInBounds_toArray, List.set_cons_zero, List.set_cons_succ, i64_w, i32_w]
      rfl
     refine one_ (i := 6) (N := some 27) #[true, true, true, true, true, true, true, false] rfl rfl (one_of HT_.out (by kernel_rfl)) (by decide) (fun K hK => ?_); refine goes_ Tryz.func42 (by kernel_rfl) rfl #[.string a0, .agg #[.slice Ao27 t106.length co27]] (by rfl) rfl rfl qm ?_
     with_reducible refine (entrepotref16_PrintTour.calls kj4 a0 _ _ t106 t109 _ ?side1 ?side2 A21.out).mono ?_
     (case side1 => repeat (first | exact (Kd.V_reads' HO108.out).2.2 | (with_reducible refine Kd.C_alloc ?_ _) | (with_reducible refine Kd.C_drewN ?_ _) | (with_reducible refine Kd.C_drew ?_)))
     (case side2 => exact (Kd.V_reads' HO108.out).2.1)
     rintro e w28 ⟨rfl, hb⟩
     refine ⟨_, rfl, ?_⟩; have n0_ := Aside0.mk (Kd.V_below (qV HO108.out) hb); have n1_ := Aside0.mk (blk_below (g := gb101) (o := .cells #[.slice A1_0 l1_0.length c1_0] 70 (0, 0)) (qk BK101.out) hb); have n2_ := Aside0.mk (below_step qb hb); clear HO108; clear BK101; clear HB; have HO108 := n0_; have BK101 := n1_; have HB := n2_; clear n0_ n1_ n2_; (try clear hb); (try clear hb2); (try clear hk); (try clear hi); refine hK.out _ _ ((blk_cell BK101.out 0).trans rfl) (fun hHeld => ?_); clear hK K; refine norm_ (a' := ?_) ?_ ?_
     rotate_left
     ·show Act.put _ (some 27) _ = _
      simp only [Act.put, List.setIfInBounds_toArray, List.set_cons_zero, List.set_cons_succ, i64_w, i32_w]
      rfl
     refine pure_ (i := 7) (N := some 28) (v := ?_) (a' := ?_) #[true, true, true, true, true, true, true, true] rfl rfl (any_of HT_.out (by kernel_rfl)) (fun _ _ _ h => h) (Or.inl ⟨by rfl, ?_⟩) ?_ ?_
     rotate_left
     ·intro w'
      go_simp
      with_reducible rfl
     rotate_left
     ·simp only [Act.put, List.setIfInBounds_toArray, List.set_cons_zero, List.set_cons_succ, i64_w, i32_w]
      rfl
     refine done_ (done_of HT_.out (by kernel_rfl)) ?_
     go_upto_region 5 with (fail)
     go_cut [39] (fun v39 wc => ∃ (kq : Nat) (x39_22 : Bool), v39 = .bool x39_22 ∧ Aside0 (entrepotlaw16_TourPrints.j1 kq a2 a3 x39_22 l1_0 = some r) ∧ Aside0 (kq ≤ kj4) ∧ Aside0 (wc.heap[gb101]? = some (.cells #[(.slice A1_0 l1_0.length c1_0)] 70 (0, 0))) ∧ Aside0 (Below w.heap.size w wc))
     case first =>
      have H := HC23.out; clear HC23; replace H := Option.bind_eq_some_iff.mp H; obtain ⟨t110, A290, H⟩ := H; (try dsimp only at H); have A29 := Aside0.mk A290; clear A290
      by_cases c30 : t110 = true
      ·subst c30; have H1 : (if a2 < (-1) then (entrepotlaw16_TourPrints.j1 kj4 a2 a3 true l1_0) else (entrepotlaw16_TourPrints.j1 kj4 a2 a3 (decide (a2 > 100000000)) l1_0)) = some r := by rw [if_pos rfl] at H; exact H
       clear H; have H := H1; clear H1
       by_cases c31 : a2 < (-1)
       ·rw [if_pos c31] at H; have c31b0 := decide_eq_true c31; clear c31; (first | rw [c31b0] | (simp only [i64_w, i32_w]; rw [c31b0]) | skip); have H' := Aside0.mk H; clear H; obtain ⟨hcz32_0, hfz32_0⟩ := bc1 BK101.out
        go_wp2_with (first | ((with_reducible refine gate_callee (f := 43) rfl ?_); refine goesL_ (some 30) rfl rfl Tryz.func43 (by kernel_rfl) rfl #[.agg #[.slice A1_0 l1_0.length c1_0]] rfl qm ?_; (with_reducible refine (entrepotlaw16_small.calls kj4 _ _ l1_0 true _ ?side1 ?side2 A29.out).mono ?_); (case side1 => exact qC (Kd.C_below HR1_0.out HB.out)); (case side2 => exact HC1_0.out); rintro e w33 ⟨rfl, hb⟩; refine ⟨_, rfl, ?_⟩; replace HO108 := cV HO108 hb; replace BK101 := cK BK101 hb; replace HB := cB HB hb; (try clear hb); (try clear hb2); (try clear hk); (try clear hi)))
        go_meet
        case rel => exact ⟨_, (true), qr, H', ⟨by have := HJ4.out; first | omega | exact Nat.le_refl _⟩, ⟨qk BK101.out⟩, ⟨qb⟩⟩
       ·rw [if_neg c31] at H; have c31b0 := decide_eq_false c31; clear c31; (first | rw [c31b0] | (simp only [i64_w, i32_w]; rw [c31b0]) | skip); have H' := Aside0.mk H; clear H; obtain ⟨hcz34_0, hfz34_0⟩ := bc1 BK101.out
        go_wp2_with (first | ((with_reducible refine gate_callee (f := 43) rfl ?_); refine goesL_ (some 30) rfl rfl Tryz.func43 (by kernel_rfl) rfl #[.agg #[.slice A1_0 l1_0.length c1_0]] rfl qm ?_; (with_reducible refine (entrepotlaw16_small.calls kj4 _ _ l1_0 true _ ?side1 ?side2 A29.out).mono ?_); (case side1 => exact qC (Kd.C_below HR1_0.out HB.out)); (case side2 => exact HC1_0.out); rintro e w35 ⟨rfl, hb⟩; refine ⟨_, rfl, ?_⟩; replace HO108 := cV HO108 hb; replace BK101 := cK BK101 hb; replace HB := cB HB hb; (try clear hb); (try clear hb2); (try clear hk); (try clear hi)))
        go_meet
        case rel => exact ⟨_, (decide (a2 > 100000000)), qr, H', ⟨by have := HJ4.out; first | omega | exact Nat.le_refl _⟩, ⟨qk BK101.out⟩, ⟨qb⟩⟩
      ·replace c30 := Bool.eq_false_iff.mpr c30; subst c30; have H1 : (entrepotlaw16_TourPrints.j1 kj4 a2 a3 true l1_0) = some r := by rw [if_neg (show ¬ (false = true) by decide)] at H; exact H
       clear H; have H := H1; clear H1; have H' := Aside0.mk H; clear H; obtain ⟨hcz36_0, hfz36_0⟩ := bc1 BK101.out
       go_wp2_with (first | ((with_reducible refine gate_callee (f := 43) rfl ?_); refine goesL_ (some 30) rfl rfl Tryz.func43 (by kernel_rfl) rfl #[.agg #[.slice A1_0 l1_0.length c1_0]] rfl qm ?_; (with_reducible refine (entrepotlaw16_small.calls kj4 _ _ l1_0 false _ ?side1 ?side2 A29.out).mono ?_); (case side1 => exact qC (Kd.C_below HR1_0.out HB.out)); (case side2 => exact HC1_0.out); rintro e w37 ⟨rfl, hb⟩; refine ⟨_, rfl, ?_⟩; replace HO108 := cV HO108 hb; replace BK101 := cK BK101 hb; replace HB := cB HB hb; (try clear hb); (try clear hb2); (try clear hk); (try clear hi)))
       go_meet
       case rel => exact ⟨_, (true), qr, H', ⟨by have := HJ4.out; first | omega | exact Nat.le_refl _⟩, ⟨qk BK101.out⟩, ⟨qb⟩⟩
     case rest =>
      clear HC23; (try clear c1); (try clear c2); (try clear p2); (try clear c3); (try clear c4); (try clear c7); (try clear c7b0); (try clear c7b1); (try clear c9); (try clear c11); (try clear c16); (try clear c22); (try clear c22b0); (try clear c22b1); (try clear c30); (try clear c31); (try clear c31b0); (try clear c33); (try clear hcz10_0); (try clear hcz13_0); (try clear hcz32_0); (try clear hcz34_0); (try clear hcz36_0); (try clear hfz10_0); (try clear hfz13_0); (try clear hfz32_0); (try clear hfz34_0); (try clear hfz36_0); (try clear p2); obtain ⟨kq, x39_22, rfl, HA, HJ22, BK101, HB⟩ := hcut; cases kq with
      | zero => exact absurd HA.out (by simp [entrepotlaw16_TourPrints.j1])
      | succ kj22 =>
       have H := HA.out; clear HA; simp only [entrepotlaw16_TourPrints.j1] at H
       by_cases c38 : x39_22 = true
       ·subst c38; have H1 : (some true) = some r := by rw [if_pos rfl] at H; exact H
        clear H; have H := H1; clear H1; obtain rfl := Option.some.inj H
        go_wp2
        go_ret
        exact ⟨qe, qb⟩
       ·replace c38 := Bool.eq_false_iff.mpr c38; subst c38; have H1 : ((tour_PrintRoutes.f l1_0 a2 a3).bind fun t111 => ((entrepotlaw16_its.f l1_0).bind fun t112 => ((entrepotref16_PrintRoutes.f kj22 t112 a2 a3).bind fun t115 => (some (t111.toList == t115.toList))))) = some r := by rw [if_neg (show ¬ (false = true) by decide)] at H; exact H
        clear H; have H := H1; clear H1; replace H := Option.bind_eq_some_iff.mp H; obtain ⟨t111, A390, H⟩ := H; (try dsimp only at H); have A39 := Aside0.mk A390; clear A390; replace H := Option.bind_eq_some_iff.mp H; obtain ⟨t112, A400, H⟩ := H; (try dsimp only at H); have A40 := Aside0.mk A400; clear A400; replace H := Option.bind_eq_some_iff.mp H; obtain ⟨t115, A410, H⟩ := H; (try dsimp only at H); have A41 := Aside0.mk A410; clear A410; obtain rfl := Option.some.inj H
        try go_wp2
        have n0_ := Aside0.mk (blk_drew BK101.out); have n1_ := Aside0.mk (below_drew1 HB.out); clear BK101; clear HB; have BK101 := n0_; have HB := n1_; clear n0_ n1_; refine start_ (n := 11) (S := fun w' => w'.cell? ⟨gb101, 0, none⟩ = some (.slice A1_0 l1_0.length c1_0)) (ds := []) #[false, false, false, false, false, false, false, false, false, false, false] (by kernel_rfl) rfl rfl ((blk_cell BK101.out 0).trans rfl) (fun hHeld => ?_); refine with_tabW entrepotlaw16_TourPrints.tab7 entrepotlaw16_TourPrints.bits7 (fun HT_ HW_ => ?_); generalize wc.drew = w42 at BK101 HB hHeld ⊢; refine pure_ (i := 1) (N := some 41) (v := ?_) (a' := ?_) #[false, true, false, false, false, false, false, false, false, false, false] rfl rfl (any_of HT_.out (by kernel_rfl)) (fun _ _ _ h => h) (Or.inl ⟨by rfl, ?_⟩) ?_ ?_
        rotate_left
        ·intro w'
         go_simp
         with_reducible rfl
        rotate_left
        ·simp only [Act.put, List.setIfInBounds_toArray, List.set_cons_zero, List.set_cons_succ, i64_w, i32_w]
         rfl
        refine pure_ (i := 2) (N := some 42) (v := ?_) (a' := ?_) #[false, true, true, false, false, false, false, false, false, false, false] rfl rfl (any_of HT_.out (by kernel_rfl)) (fun _ _ _ h => h) (Or.inl ⟨by rfl, ?_⟩) ?_ ?_
        rotate_left
        ·intro w'
         go_simp
         with_reducible rfl
        rotate_left
        ·simp only [Act.put, List.setIfInBounds_toArray, List.set_cons_zero, List.set_cons_succ, i64_w, i32_w]
         rfl
        refine pure_ (i := 6) (N := some 46) (v := ?_) (a' := ?_) #[false, true, true, false, false, false, true, false, false, false, false] rfl rfl (any_of HT_.out (by kernel_rfl)) (fun _ _ _ h => h) (Or.inl ⟨by rfl, ?_⟩) ?_ ?_
        rotate_left
        ·intro w'
         go_simp
         with_reducible rfl
        rotate_left
        ·simp only [Act.put, List.setIfInBounds_toArray, List.set_cons_zero, List.set_cons_succ, i64_w, i32_w]
         rfl
        refine pure_ (i := 7) (N := some 47) (v := ?_) (a' := ?_) #[false, true, true, false, false, false, true, true, false, false, false] rfl rfl (any_of HT_.out (by kernel_rfl)) (fun _ _ _ h => h) (Or.inl ⟨by rfl, ?_⟩) ?_ ?_
        rotate_left
        ·intro w'
         go_simp
         with_reducible rfl
        rotate_left
        ·simp only [Act.put, List.setIfInBounds_toArray, List.set_cons_zero, List.set_cons_succ, i64_w, i32_w]
         rfl
        refine take_ (i := 0) (N := some 40) (v := ?_) (a' := ?_) #[true, true, true, false, false, false, true, true, false, false, false] rfl rfl (take_ofW HT_.out HW_.out (by kernel_rfl)) (fun _ _ _ h => h) (Or.inl ⟨by rfl, ?_⟩) hHeld ?_ ?_
        rotate_left
        ·intro w' s0
         go_simp
         with_reducible rfl
        rotate_left
        ·simp only [Act.put, List.setIfInBounds_toArray, List.set_cons_zero, List.set_cons_succ, i64_w, i32_w]
         rfl
        refine take_ (i := 4) (N := some 44) (v := ?_) (a' := ?_) #[true, true, true, false, true, false, true, true, false, false, false] rfl rfl (take_ofW HT_.out HW_.out (by kernel_rfl)) (fun _ _ _ h => h) (Or.inl ⟨by rfl, ?_⟩) hHeld ?_ ?_
        rotate_left
        ·intro w' s0
         go_simp
         with_reducible rfl
        rotate_left
        ·simp only [Act.put, List.setIfInBounds_toArray, List.set_cons_zero, List.set_cons_succ, i64_w, i32_w]
         rfl
        refine one_ (i := 3) (N := some 43) #[true, true, true, true, true, false, true, true, false, false, false] rfl rfl (one_of HT_.out (by kernel_rfl)) (by decide) (fun K hK => ?_); refine goes_ Tryz.func44 (by kernel_rfl) rfl #[.agg #[.slice A1_0 l1_0.length c1_0], .int .i64 a2, .bool a3] (by rfl) rfl rfl qm ?_
        with_reducible refine (tour_PrintRoutes.calls _ _ l1_0 a2 a3 t111 _ ?side1 ?side2 (Tabs.kept HT0.out qb) A39.out).mono ?_
        (case side1 => exact qC (Kd.C_below HR1_0.out HB.out))
        (case side2 => exact HC1_0.out)
        rintro e w43 ⟨rfl, hb⟩
        refine ⟨_, rfl, ?_⟩; have n0_ := Aside0.mk (blk_below (g := gb101) (o := .cells #[.slice A1_0 l1_0.length c1_0] 70 (0, 0)) (qk BK101.out) hb); have n1_ := Aside0.mk (below_step qb hb); clear BK101; clear HB; have BK101 := n0_; have HB := n1_; clear n0_ n1_; (try clear hb); (try clear hb2); (try clear hk); (try clear hi); refine hK.out _ _ ((blk_cell BK101.out 0).trans rfl) (fun hHeld => ?_); clear hK K; refine norm_ (a' := ?_) ?_ ?_
        rotate_left
        ·show Act.put _ (some 43) _ = _
         simp only [Act.put, List.setIfInBounds_toArray, List.set_cons_zero, List.set_cons_succ, i64_w, i32_w]
         rfl
        refine one_ (i := 5) (N := some 45) #[true, true, true, true, true, true, true, true, false, false, false] rfl rfl (one_of HT_.out (by kernel_rfl)) (by decide) (fun K hK => ?_); refine goes_ Tryz.func39 (by kernel_rfl) rfl #[.agg #[.slice A1_0 l1_0.length c1_0]] (by rfl) rfl rfl qm ?_
        with_reducible refine (entrepotlaw16_its.calls (fun k_ => k_ < w.heap.size) _ _ l1_0 t112 _ ?side1 A40.out).mono ?_
        (case side1 => exact Kd.V_mk HC1_0.out (Kd.F_below (Kd.C_F (Kd.heap_slice 3 (Kd.heap_int .i64)) HR1_0.out) qb))
        rintro e w44 ⟨v113, rfl, ho0, hb⟩
        refine ⟨_, rfl, ?_⟩; have n0_ := Aside0.mk (Kd.V_lower (Kd.V_mono (ok' := fun k_ => k_ ≠ gb101) ho0 (fun k_ hk_ => Or.elim hk_ (fun hs_ => fun e_ => Nat.not_le.2 hs_ (by rw [e_]; exact GW101.out)) (fun hn_ => (Kd.freshB (g := gb101) (o := .cells #[.slice A1_0 l1_0.length c1_0] 70 (0, 0)) (qk BK101.out) k_ hn_)))) (below_size qb)); have n1_ := Aside0.mk (blk_below (g := gb101) (o := .cells #[.slice A1_0 l1_0.length c1_0] 70 (0, 0)) (qk BK101.out) hb); have n2_ := Aside0.mk (below_step qb hb); clear BK101; clear HB; have HO114 := n0_; have BK101 := n1_; have HB := n2_; clear n0_ n1_ n2_; (try clear hb); (try clear hb2); (try clear hk); (try clear hi); (try clear ho0); obtain ⟨Ao45, co45, eo45⟩ := Kd.V_slice HO114.out; (first | subst eo45 | (injection eo45 with f1_ f2_ f3_; have f4_ := f1_.symm; have f5_ := f3_.symm; clear f1_ f2_ f3_; subst f4_; subst f5_)); refine hK.out _ _ ((blk_cell BK101.out 0).trans rfl) (fun hHeld => ?_); clear hK K; refine norm_ (a' := ?_) ?_ ?_
        rotate_left
        ·show Act.put _ (some 45) _ = _
         simp only [Act.put, List.setIfInBounds_toArray, List.set_cons_zero, List.set_cons_succ, i64_w, i32_w]
         rfl
        refine one_ (i := 8) (N := some 48) #[true, true, true, true, true, true, true, true, true, false, false] rfl rfl (one_of HT_.out (by kernel_rfl)) (by decide) (fun K hK => ?_); refine goes_ Tryz.func45 (by kernel_rfl) rfl #[.agg #[.slice Ao45 t112.length co45], .int .i64 a2, .bool a3] (by rfl) rfl rfl qm ?_
        with_reducible refine (entrepotref16_PrintRoutes.calls kj22 _ _ t112 a2 a3 t115 _ ?side1 ?side2 A41.out).mono ?_
        (case side1 => repeat (first | exact (Kd.V_reads' HO114.out).2.2 | (with_reducible refine Kd.C_alloc ?_ _) | (with_reducible refine Kd.C_drewN ?_ _) | (with_reducible refine Kd.C_drew ?_)))
        (case side2 => exact (Kd.V_reads' HO114.out).2.1)
        rintro e w46 ⟨rfl, hb⟩
        refine ⟨_, rfl, ?_⟩; have n0_ := Aside0.mk (Kd.V_below (qV HO114.out) hb); have n1_ := Aside0.mk (blk_below (g := gb101) (o := .cells #[.slice A1_0 l1_0.length c1_0] 70 (0, 0)) (qk BK101.out) hb); have n2_ := Aside0.mk (below_step qb hb); clear HO114; clear BK101; clear HB; have HO114 := n0_; have BK101 := n1_; have HB := n2_; clear n0_ n1_ n2_; (try clear hb); (try clear hb2); (try clear hk); (try clear hi); refine hK.out _ _ ((blk_cell BK101.out 0).trans rfl) (fun hHeld => ?_); clear hK K; refine norm_ (a' := ?_) ?_ ?_
        rotate_left
        ·show Act.put _ (some 48) _ = _
         simp only [Act.put, List.setIfInBounds_toArray, List.set_cons_zero, List.set_cons_succ, i64_w, i32_w]
         rfl
        refine pure_ (i := 9) (N := some 49) (v := ?_) (a' := ?_) #[true, true, true, true, true, true, true, true, true, true, false] rfl rfl (any_of HT_.out (by kernel_rfl)) (fun _ _ _ h => h) (Or.inl ⟨by rfl, ?_⟩) ?_ ?_
        rotate_left
        ·intro w'
         go_simp
         with_reducible rfl
        rotate_left
        ·simp only [Act.put, List.setIfInBounds_toArray, List.set_cons_zero, List.set_cons_succ, i64_w, i32_w]
         rfl
        refine pure_ (i := 10) (N := some 8) (v := ?_) (a' := ?_) #[true, true, true, true, true, true, true, true, true, true, true] rfl rfl (any_of HT_.out (by kernel_rfl)) (fun _ _ _ h => h) (Or.inl ⟨by rfl, ?_⟩) ?_ ?_
        rotate_left
        ·intro w'
         go_simp
         with_reducible rfl
        rotate_left
        ·simp only [Act.put, List.setIfInBounds_toArray, List.set_cons_zero, List.set_cons_succ, i64_w, i32_w]
         rfl
        refine done_ (done_of HT_.out (by kernel_rfl)) ?_
        try go_wp2
        go_ret
        exact ⟨qe, qb⟩
    ·rw [if_neg c22] at H
     exact absurd H (by simp)
end Go.Proofs.YtadocbfchdendaaGreatDoor.P
namespace Go.Proofs.YtadocbfchdendaaGreatDoor.P
open Go.RowKit
def entrepotlaw16_TourPrints.Pure : Prop := ∀ (a0 : ByteArray) (a1_0 : List (List (Int))) (a2 : Int) (a3 : Bool), a0.size ≤ 140737488351232 → (a1_0.length ≤ maxLen ∧ ∀ v0 ∈ a1_0, (v0.length ≤ maxLen ∧ ∀ v1 ∈ v0, (Lit.int .i64 v1).wf = true)) → (Lit.int .i64 a2).wf = true → ∃ k, entrepotlaw16_TourPrints.f k a0 a1_0 a2 a3 = some true
end Go.Proofs.YtadocbfchdendaaGreatDoor.P
namespace Go.Proofs.YtadocbfchdendaaGreatDoor.P
open Go.RowKit Go.Proofs.YtadocbfchdendaaGreatDoorW.PrintWords Go.Proofs.YtadocbfchdendaaGreatDoorW.PrintLast Go.Proofs.YtadocbfchdendaaGreatDoorW.PrintMore
attribute [local go_sem] max2_int min2_int max_two min_two max_three min_three max_four min_four
set_option linter.unusedVariables false
set_option linter.unusedSimpArgs false
end Go.Proofs.YtadocbfchdendaaGreatDoor.P
namespace Go.Proofs.YtadocbfchdendaaGreatDoor.Cu
open Go.RowKit Go.Lib Go.Proofs.YtadocbfchdendaaGreatDoorW.PrintWords Go.Proofs.YtadocbfchdendaaGreatDoorW.PrintLast Go.Proofs.YtadocbfchdendaaGreatDoorW.PrintMore Go.Proofs.YtadocbfchdendaaGreatDoor.P
set_option linter.unusedSimpArgs false
set_option linter.unusedVariables false
structure RZ (w W1 : World) (A : Option Addr) (L : List RRow) : Prop where
 bel : Below w.heap.size w W1
 bp : W1.heap[w.heap.size]? = some (.cells #[.slice none 0 0] 73 (0, 0))
 bd : W1.heap[w.heap.size + 1]? = some (.cells #[.int .i64 0, .int .i64 0] 41 (0, 0))
 rows : Kd.C k36 W1 A L.length L
 sz : w.heap.size + 2 ≤ W1.heap.size
structure RS (W1 : World) (g N : Nat) (W : World) (acc : List (List Int)) : Prop where
 b1 : Below W1.heap.size W1 W
 hg : W1.heap.size ≤ g
 plan : ∃ A c, W.heap[g]? = some (.cells #[.slice A acc.length c] 73 (0, 0)) ∧ Kd.S (Kd.slice 3 (Kd.int .i64)) 38 W W1.heap.size (fun k => k < N) (.slice A acc.length c) acc
theorem RS.lt {W1 W : World} {g N : Nat} {acc : List (List Int)} (h : RS W1 g N W acc) : g < W.heap.size := by
 obtain ⟨A, c, h1, h2⟩ := h.plan
 exact blk_lt h1
theorem RS.step {W1 W W' : World} {g N : Nat} {acc : List (List Int)} (h : RS W1 g N W acc) (hb : Below W.heap.size W W') : RS W1 g N W' acc := by
 obtain ⟨A, c, h1, h2⟩ := h.plan
 exact ⟨h.b1.trans (hb.mono h.b1.size), h.hg, ⟨A, c, blk_below h1 hb, Kd.S_below h2 hb⟩⟩
theorem RS.app {W1 W W' : World} {g N N' : Nat} {acc acc' : List (List Int)} (h : RS W1 g N W acc) {row : Option Nat} (hrow : ∀ k, row = some k → W1.heap.size ≤ k) (hne : some g ≠ row) (hg : W.grownBy W' row) (hb : Below W1.heap.size W1 W') {A' : Option Addr} {c' : Nat}
  (ho : Kd.S (Kd.slice 3 (Kd.int .i64)) 38 W' W1.heap.size (fun k => k < N') (.slice A' acc'.length c') acc') : RS W1 g N' (W'.setCell ⟨g, 0, none⟩ (.slice A' acc'.length c')) acc' := by
 have hlt := h.lt
 obtain ⟨A, c, h1, h2⟩ := h.plan
 have hp := (hg.block g hlt hne).trans h1
 exact ⟨hb.setCell (p := ⟨_, _, none⟩) h.hg _, h.hg, ⟨A', c', blk_put hp 0 _ rfl, Kd.S_set ho hp (by decide) 0 _⟩⟩
theorem RS.cells {w W1 W : World} {A : Option Addr} {L : List RRow} {g N : Nat} {acc : List (List Int)} (hz : RZ w W1 A L) (h : RS W1 g N W acc) :
  W.cell? ⟨w.heap.size, 0, none⟩ = some (.slice none 0 0) ∧ W.frozen? ⟨w.heap.size, 0, none⟩ = false ∧ W.cell? ⟨w.heap.size + 1, 0, none⟩ = some (.int .i64 0) ∧ W.cell? ⟨w.heap.size + 1, 1, none⟩ = some (.int .i64 0) ∧ W.frozen? ⟨w.heap.size + 1, 0, none⟩ = false ∧ W.frozen? ⟨w.heap.size + 1, 1, none⟩ = false := by
 have hp := (h.b1.block _ (by have := hz.sz; omega)).trans hz.bp
 have hd := (h.b1.block _ (by have := hz.sz; omega)).trans hz.bd
 exact ⟨(bc1 hp).1, (bc1 hp).2, (bc2 hd).1, (bc2 hd).2.1, (bc2 hd).2.2.1, (bc2 hd).2.2.2⟩
end Go.Proofs.YtadocbfchdendaaGreatDoor.Cu
namespace Go.Proofs.YtadocbfchdendaaGreatDoor.P
open Go.RowKit Go.Lib Go.Proofs.YtadocbfchdendaaGreatDoorW.PrintWords
end Go.Proofs.YtadocbfchdendaaGreatDoor.P
namespace Go.Proofs.YtadocbfchdendaaGreatDoor.P
open Go.RowKit Go.Proofs.YtadocbfchdendaaGreatDoorW.PrintWords Go.Proofs.YtadocbfchdendaaGreatDoorW.PrintLast Go.Proofs.YtadocbfchdendaaGreatDoorW.PrintMore
attribute [local go_sem] max2_int min2_int max_two min_two max_three min_three max_four min_four
set_option linter.unusedVariables false
set_option linter.unusedSimpArgs false
end Go.Proofs.YtadocbfchdendaaGreatDoor.P
namespace Go.Proofs.YtadocbfchdendaaGreatDoor.Cu
open Go.RowKit Go.Lib Go.Proofs.YtadocbfchdendaaGreatDoorW.PrintWords Go.Proofs.YtadocbfchdendaaGreatDoorW.PrintLast Go.Proofs.YtadocbfchdendaaGreatDoorW.PrintMore Go.Proofs.YtadocbfchdendaaGreatDoor.P
set_option linter.unusedSimpArgs false
set_option linter.unusedVariables false
structure UZ (w W1 : World) (A : Option Addr) (R : List RRow) (B : Option Addr) (L : List RLn) : Prop where
 bel : Below w.heap.size w W1
 bp : W1.heap[w.heap.size]? = some (.cells #[.slice none 0 0] 73 (0, 0))
 bd : W1.heap[w.heap.size + 1]? = some (.cells #[.int .i64 0, .int .i64 0] 41 (0, 0))
 rows : Kd.C k36 W1 A R.length R
 lines : Kd.C k100 W1 B L.length L
 sz : w.heap.size + 2 ≤ W1.heap.size
theorem UZ.cells {w W1 W : World} {A : Option Addr} {R : List RRow} {B : Option Addr} {L : List RLn} (hz : UZ w W1 A R B L) (h : Below W1.heap.size W1 W) :
  W.cell? ⟨w.heap.size, 0, none⟩ = some (.slice none 0 0) ∧ W.frozen? ⟨w.heap.size, 0, none⟩ = false ∧ W.cell? ⟨w.heap.size + 1, 0, none⟩ = some (.int .i64 0) ∧ W.cell? ⟨w.heap.size + 1, 1, none⟩ = some (.int .i64 0) ∧ W.frozen? ⟨w.heap.size + 1, 0, none⟩ = false ∧ W.frozen? ⟨w.heap.size + 1, 1, none⟩ = false := by
 have hp := (h.block _ (by have := hz.sz; omega)).trans hz.bp
 have hd := (h.block _ (by have := hz.sz; omega)).trans hz.bd
 exact ⟨(bc1 hp).1, (bc1 hp).2, (bc2 hd).1, (bc2 hd).2.1, (bc2 hd).2.2.1, (bc2 hd).2.2.2⟩
end Go.Proofs.YtadocbfchdendaaGreatDoor.Cu
namespace Go.Proofs.YtadocbfchdendaaGreatDoor.P
open Go.RowKit Go.Lib Go.Proofs.YtadocbfchdendaaGreatDoorW.PrintWords
end Go.Proofs.YtadocbfchdendaaGreatDoor.P
namespace Go.Proofs.YtadocbfchdendaaGreatDoor.Cu
open Go.RowKit Go.Lib Go.Proofs.YtadocbfchdendaaGreatDoorW.PrintWords Go.Proofs.YtadocbfchdendaaGreatDoorW.PrintLast Go.Proofs.YtadocbfchdendaaGreatDoorW.PrintMore Go.Proofs.YtadocbfchdendaaGreatDoor.P
set_option linter.unusedSimpArgs false
theorem cap_iff (c : UInt8) : capB c = true ↔ (65 ≤ c.toNat ∧ c.toNat ≤ 90) ∨ (48 ≤ c.toNat ∧ c.toNat ≤ 57) ∨ c.toNat = 95 := by
 have h : c = 95 ↔ c.toNat = 95 := ⟨fun h => by rw [h]; rfl, fun h => UInt8.toNat_inj.1 (by rw [h]; rfl)⟩
 unfold capB
 simp only [Bool.or_eq_true, Bool.and_eq_true, decide_eq_true_eq, beq_iff_eq, h]
theorem nam_iff (c : UInt8) : namB c = true ↔ ((65 ≤ c.toNat ∧ c.toNat ≤ 90) ∨ (48 ≤ c.toNat ∧ c.toNat ≤ 57) ∨ c.toNat = 95) ∨ (97 ≤ c.toNat ∧ c.toNat ≤ 122) ∨ c.toNat = 46 ∨ c.toNat = 45 := by
 have h : c = 46 ↔ c.toNat = 46 := ⟨fun h => by rw [h]; rfl, fun h => UInt8.toNat_inj.1 (by rw [h]; rfl)⟩
 have h2 : c = 45 ↔ c.toNat = 45 := ⟨fun h => by rw [h]; rfl, fun h => UInt8.toNat_inj.1 (by rw [h]; rfl)⟩
 unfold namB
 simp only [Bool.or_eq_true, cap_iff, Bool.and_eq_true, decide_eq_true_eq, beq_iff_eq, h, h2]
set_option maxHeartbeats 4000000 in
theorem rname_l (v : ByteArray) (hv : v.size < 1000000000) (d : Nat) : ∀ (i k : Nat), i + d = v.size → d < k → entrepotref03_Name.l0 k v i = some ((v.data.toList.drop i).all namB && (decide (1 ≤ v.size) && decide (v.size ≤ 40))) := by
 induction d with
 | zero =>
  intro i k hi hk
  obtain ⟨k, rfl, hk⟩ := succ' hk
  have h0 : v.data.toList.drop i = [] := List.drop_of_length_le (by show v.size ≤ i; omega)
  simp only [entrepotref03_Name.l0]
  rw [if_neg (by omega), h0]
  by_cases h1 : 1 ≤ v.size
  ·rw [if_pos (by omega)]
   simp [h1]
   omega
  ·rw [if_neg (by omega)]
   simp [h1]
 | succ d ih =>
  intro i k hi hk
  obtain ⟨k, rfl, hk⟩ := succ' hk
  obtain ⟨c, hc⟩ := get_data v i (by omega)
  have e1 : wrap64 ((i : Int) + 1) = ((i + 1 : Nat) : Int) := by rw [w64' (by omega) (by omega)]; omega
  have hn := nam_iff c
  have hr := ih (i + 1) k (by omega) (by omega)
  rw [drop_cons' _ i c hc, List.all_cons, entrepotref03_Name.l0, if_pos (by omega), if_pos (by omega), bt_data v i c hc, e1, hr]
  by_cases hb : namB c = true
  ·rw [hb, Bool.true_and]
   have h3 := hn.1 hb
   repeat' split
   all_goals first | rfl | (exfalso; omega)
  ·have h3 : ¬ _ := fun h => hb (hn.2 h)
   rw [Bool.eq_false_iff.2 hb, Bool.false_and, Bool.false_and]
   repeat' split
   all_goals first | rfl | (exfalso; omega)
theorem RName_eq (v : ByteArray) (hv : v.size < 1000000000) (k : Nat) (hk : v.size < k) : entrepotref03_Name.f k v = some (allS namB v.data.toList) := by
 unfold entrepotref03_Name.f
 have h0 := rname_l v hv v.size 0 k (by omega) hk
 rw [List.drop_zero] at h0
 rw [show (0 : Int) = ((0 : Nat) : Int) from rfl, h0]
 congr 1
 unfold allS
 have hl : v.data.toList.length = v.size := rfl
 rw [hl]
 cases h : v.data.toList with
 | nil => rw [h] at hl; simp at hl; simp [← hl]
 | cons c t =>
  have h1 : 1 ≤ v.size := by rw [← hl, h]; simp
  simp [h1, Bool.and_comm]
theorem Name_eq (v : ByteArray) (hv : v.size < 1000000000) : words_Name.f v = some (allS namB v.data.toList) := by
 unfold words_Name.f words_all_nam.f
 rw [if_pos hv]
 rfl
end Go.Proofs.YtadocbfchdendaaGreatDoor.Cu
namespace Go.Proofs.YtadocbfchdendaaGreatDoor.Cu
open Go.RowKit Go.Lib Go.Proofs.YtadocbfchdendaaGreatDoorW.PrintWords Go.Proofs.YtadocbfchdendaaGreatDoorW.PrintLast Go.Proofs.YtadocbfchdendaaGreatDoorW.PrintMore Go.Proofs.YtadocbfchdendaaGreatDoor.P Go.Proofs.YtadocbfchdendaaGreatDoor.Sp
set_option linter.unusedSimpArgs false
end Go.Proofs.YtadocbfchdendaaGreatDoor.Cu
namespace Go.Proofs.YtadocbfchdendaaGreatDoor.Cu
open Go.RowKit Go.Lib Go.Proofs.YtadocbfchdendaaGreatDoorW.PrintWords Go.Proofs.YtadocbfchdendaaGreatDoorW.PrintLast Go.Proofs.YtadocbfchdendaaGreatDoorW.PrintMore Go.Proofs.YtadocbfchdendaaGreatDoor.P
set_option linter.unusedSimpArgs false
theorem digits_l (d : Nat) : ∀ (x k : Nat) (acc : List UInt8), 0 < x → x < 10 ^ d → d + 2 < k → acc.length + d < 1000 → d ≤ 18 → entrepotref04_digits.l0 k x ⟨acc.toArray⟩ = some ⟨(decDigits x ++ acc).toArray⟩ := by
  induction d with
  | zero => intro x k acc h0 h1; simp at h1; omega
  | succ d ih =>
    intro x k acc h0 h1 hk ha hd
    obtain ⟨k, rfl, hk⟩ := succ' hk
    have hx18 : x < 10 ^ 19 := Nat.lt_of_lt_of_le h1 (Nat.pow_le_pow_right (by decide) (by omega))
    have e1 : IntKind.u64.wrap (Int.tdiv (x : Int) 10) = ((x / 10 : Nat) : Int) := by
      rw [Int.tdiv_eq_ediv_of_nonneg (by omega)]
      have : ((x : Int) / 10) = ((x / 10 : Nat) : Int) := by omega
      rw [this]
      show ((x / 10 : Nat) : Int) % (2 ^ 64) = _
      omega
    have e2 : (48 + ((Int.tmod (x : Int) 10) % 256)) % 256 = ((48 + x % 10 : Nat) : Int) := by
      rw [Int.tmod_eq_emod_of_nonneg (by omega)]
      omega
    have hc0 : ∀ m : Nat, strOfNums [(m : Int)] = ⟨#[UInt8.ofNat m]⟩ := fun m => by simp [strOfNums]
    have hc := hc0 (48 + x % 10)
    have hap : (⟨#[UInt8.ofNat (48 + x % 10)]⟩ : ByteArray) ++ ⟨acc.toArray⟩ = ⟨(UInt8.ofNat (48 + x % 10) :: acc).toArray⟩ := by
      apply ByteArray.ext
      rw [ByteArray.data_append]
      simp
    have hsz : (⟨acc.toArray⟩ : ByteArray).size = acc.length := by show acc.toArray.size = _; simp
    simp only [entrepotref04_digits.l0]
    rw [if_pos (by omega)]
    simp only [Option.bind_some]
    rw [e2, hc, if_pos (by rw [hsz]; show 1 + acc.length ≤ _; omega), hap, e1]
    by_cases h10 : x < 10
    · rw [show x / 10 = 0 by omega, decDigits, dif_pos h10]
      obtain ⟨k, rfl, hk⟩ := succ' (show 0 < k by omega)
      simp only [entrepotref04_digits.l0]
      rw [if_neg (by omega), if_neg (by rw [ByteArray.toList_eq]; simp), show x % 10 = x by omega]
      rfl
    · rw [ih (x / 10) k _ (by omega) (by rw [Nat.pow_succ] at h1; omega) (by omega) (by simp; omega) (by omega)]
      conv => rhs; rw [decDigits, dif_neg h10]
      rw [List.append_assoc]
      rfl
theorem digits_zero (k : Nat) (hk : 5 ≤ k) : entrepotref04_digits.f k 0 = some ⟨(decDigits 0).toArray⟩ := by
  obtain ⟨d, rfl⟩ := Nat.exists_eq_add_of_le hk
  clear hk
  rw [decDigits, dif_pos (by decide)]
  induction d with
  | zero => kernel_rfl
  | succ d ih => exact entrepotref04_digits.mono 0 (5 + d) _ ih
theorem digits_eq (x k : Nat) (hx : x < 10 ^ 18) (hk : 30 < k) : entrepotref04_digits.f k x = some ⟨(decDigits x).toArray⟩ := by
  unfold entrepotref04_digits.f
  by_cases h0 : 0 < x
  · have := digits_l 18 x k [] h0 hx (by omega) (by decide) (by decide)
    rw [List.append_nil] at this
    exact this
  · obtain rfl : x = 0 := by omega
    have := digits_zero k (by omega)
    unfold entrepotref04_digits.f at this
    exact this
theorem Num_eq (n : Int) (h1 : -1000000000 ≤ n) (h2 : n ≤ 1000000000) (k : Nat) (hk : 30 < k) : entrepotref04_Num.f k n = some ⟨(Lib.itoa n).toArray⟩ := by
  unfold entrepotref04_Num.f Lib.itoa
  by_cases h0 : n ≥ 0
  · have e : IntKind.u64.wrap n = ((n.toNat : Nat) : Int) := by show n % (2 ^ 64) = _; omega
    rw [if_pos h0, if_neg (by omega), e, digits_eq _ k (by omega) hk]
    rfl
  · have e : IntKind.u64.wrap ((IntKind.u64.wrap (wrap64 (-(wrap64 (n + 1))))) + 1) = ((n.natAbs : Nat) : Int) := by
      rw [w64' (n := n + 1) (by omega) (by omega), w64' (by omega) (by omega)]
      have e3 : IntKind.u64.wrap (-(n + 1)) = -(n + 1) := by show (-(n + 1)) % (2 ^ 64) = _; omega
      rw [e3]
      show (-(n + 1) + 1) % (2 ^ 64) = _
      omega
    rw [if_neg h0, if_pos (by omega), e, digits_eq _ k (by omega) hk]
    simp only [Option.bind_some]
    have hl : (⟨(decDigits n.natAbs).toArray⟩ : ByteArray).size ≤ 1000 := by
      show (decDigits n.natAbs).toArray.size ≤ _
      have := itoa_length_le n (by omega) (by omega)
      unfold Lib.itoa at this
      rw [if_pos (by omega)] at this
      simp at this ⊢
      omega
    rw [if_pos (by omega)]
    congr 1
end Go.Proofs.YtadocbfchdendaaGreatDoor.Cu
namespace Go.Proofs.YtadocbfchdendaaGreatDoor.Cu
open Go.RowKit Go.Lib Go.Proofs.YtadocbfchdendaaGreatDoorW.PrintWords Go.Proofs.YtadocbfchdendaaGreatDoorW.PrintLast Go.Proofs.YtadocbfchdendaaGreatDoorW.PrintMore Go.Proofs.YtadocbfchdendaaGreatDoor.P Go.Proofs.YtadocbfchdendaaGreatDoor.Sp
set_option linter.unusedSimpArgs false
set_option maxRecDepth 100000 in
theorem shown16 : entrepotlaw16_shown.f 60 = some true := by kernel_rfl
theorem up16 (k : Nat) (hk : 60 ≤ k) : entrepotlaw16_shown.f k = some true := by
  obtain ⟨d, rfl⟩ := Nat.exists_eq_add_of_le hk
  clear hk
  induction d with
  | zero => exact shown16
  | succ d ih => exact entrepotlaw16_shown.mono (60 + d) _ ih
theorem rdX14 (l : List (List Int)) (i : Nat) (x : List Int) (h : l[i]? = some x) : rd_L14 l (i : Int) = x := by
  simp [rd_L14, h]
theorem rdXI (l : List Int) (i : Nat) (x : Int) (h : l[i]? = some x) : rd l (i : Int) = x := by
  simp [rd, h]
def okT (n : Int) (r : List Int) : Bool := r.all fun v => decide (0 ≤ v) && decide (v < n)
def stT (r : List Int) : List (List UInt8) := r.map fun v => Lib.itoa (v + 1)
def hdT (name : List UInt8) (n : Nat) : List (List UInt8) := [[78, 65, 77, 69, 32, 58, 32] ++ name, [84, 89, 80, 69, 32, 58, 32, 84, 79, 85, 82], [68, 73, 77, 69, 78, 83, 73, 79, 78, 32, 58, 32] ++ Lib.itoa n, [84, 79, 85, 82, 95, 83, 69, 67, 84, 73, 79, 78]]
def ftT : List (List UInt8) := [[45, 49], [69, 79, 70]]
def tourT (name : List UInt8) (r : List Int) : List UInt8 := lnT (hdT name r.length ++ stT r ++ ftT)
def prT (name : ByteArray) (p : List (List Int)) : ByteArray := match p with
  | [r] => if allS namB name.data.toList = true ∧ 1 ≤ r.length ∧ r.length ≤ 400 ∧ okT r.length r = true then ⟨(tourT name.data.toList r).toArray⟩ else ⟨#[]⟩
  | _ => ⟨#[]⟩
theorem ptour_l (r : List Int) (hr : r.length ≤ 400) (d : Nat) : ∀ (i k : Nat) (acc : List (List UInt8)), i + d = r.length → d + 2 < k → acc.length ≤ 10 + i → (∀ x ∈ acc, x.length ≤ 300) →
    tour_PrintTour.l0 k r (acc.map fun x => ⟨x.toArray⟩) r (r.length : Int) i = some (if okT r.length (r.drop i) = true then ⟨(lnT (acc ++ stT (r.drop i) ++ ftT)).toArray⟩ else ⟨#[]⟩) := by
  induction d with
  | zero =>
    intro i k acc hi hk hal hax
    obtain ⟨k, rfl, hk⟩ := succ' hk
    have h0 : r.drop i = [] := List.drop_of_length_le (by omega)
    simp only [tour_PrintTour.l0]
    rw [if_neg (by omega), h0]
    simp only [Option.bind_some]
    rw [if_pos (by rw [List.length_map]; simp; omega)]
    have hm : ((acc.map fun x => (⟨x.toArray⟩ : ByteArray)) ++ [(⟨#[45, 49]⟩ : ByteArray), ⟨#[69, 79, 70]⟩, ⟨#[]⟩]).map (·.data.toList) = (acc ++ ftT) ++ [[]] := by
      rw [List.map_append, List.map_map]
      have : ((fun x : ByteArray => x.data.toList) ∘ fun x : List UInt8 => (⟨x.toArray⟩ : ByteArray)) = id := by funext x; simp
      rw [this, List.map_id]
      simp [ftT]
    have hl : (lnT (acc ++ ftT)).length ≤ 140737488355328 := by
      have := lnT_len (acc ++ ftT) 300 (fun x hx => by
        rcases List.mem_append.1 hx with h | h
        · exact hax x h
        · simp [ftT] at h; rcases h with rfl | rfl <;> simp)
      have h3 : (acc ++ ftT).length ≤ 500 := by simp [ftT]; omega
      have h4 : (acc ++ ftT).length * (300 + 1) ≤ 500 * 301 := Nat.mul_le_mul_right _ h3
      omega
    unfold strings_Join.f
    rw [hm, show (⟨#[10]⟩ : ByteArray).data.toList = [10] from rfl, join_lnT, if_pos ⟨by simp; omega, hl⟩]
    simp [okT, stT]
  | succ d ih =>
    intro i k acc hi hk hal hax
    obtain ⟨k, rfl, hk⟩ := succ' hk
    obtain ⟨v, hv⟩ : ∃ v, r[i]? = some v := ⟨_, List.getElem?_eq_getElem (show i < r.length by omega)⟩
    have e1 : wrap64 ((i : Int) + 1) = ((i + 1 : Nat) : Int) := by rw [w64' (by omega) (by omega)]; omega
    simp only [tour_PrintTour.l0]
    rw [if_pos (by omega), if_pos (by omega), if_pos (by omega), rdXI r i v hv, drop_cons' r i v hv]
    by_cases h0 : v < 0
    · rw [if_pos h0, if_neg (by simp [okT]; intro h; omega)]
    · by_cases h1 : v ≥ (r.length : Int)
      · rw [if_neg h0, if_pos h1, if_neg (by simp [okT]; intro h; omega)]
      · have hil := itoa_length_le (v + 1) (by omega) (by omega)
        have hI : strconv_Itoa.f (wrap64 (v + 1)) = some ⟨(Lib.itoa (v + 1)).toArray⟩ := by
          rw [w64' (n := v + 1) (by omega) (by omega)]
          unfold strconv_Itoa.f
          rw [if_pos ⟨by omega, by omega⟩]
        rw [if_neg h0, if_neg h1, hI]
        simp only [Option.bind_some]
        rw [if_pos (by rw [List.length_map]; omega), e1]
        have := ih (i + 1) k (acc ++ [Lib.itoa (v + 1)]) (by omega) (by omega) (by simp; omega) (fun x hx => by
          rcases List.mem_append.1 hx with h | h
          · exact hax x h
          · obtain rfl : x = _ := by simpa using h
            omega)
        rw [List.map_append] at this
        refine this.trans ?_
        have ho : okT r.length (v :: r.drop (i + 1)) = okT r.length (r.drop (i + 1)) := by
          simp only [okT, List.all_cons]
          rw [show decide (0 ≤ v) = true by simp; omega, show decide (v < (r.length : Int)) = true by simp; omega]
          simp
        rw [ho]
        simp [stT]
theorem itoa_len2 (n : Nat) (h : n ≤ 400) : (Lib.itoa (n : Int)).length ≤ 21 := itoa_length_le n (by omega) (by omega)
theorem ptour_eq (name : ByteArray) (hn : name.size ≤ 100) (p : List (List Int)) (k : Nat) (hk : 500 < k) : tour_PrintTour.f k name p = some (prT name p) := by
  obtain ⟨k, rfl, hk⟩ := succ' hk
  unfold tour_PrintTour.f
  rw [Name_eq name (by omega)]
  simp only [Option.bind_some]
  have hno : ∀ x : Bool, x = true → tour_PrintTour.j0 (k + 1) name x p = some ⟨#[]⟩ := fun x hx => by rw [tour_PrintTour.j0, if_pos hx]
  by_cases h1 : allS namB name.data.toList = true
  · rw [if_pos h1]
    match p with
    | [] => rw [if_neg (by simp)]; exact (hno true rfl).trans rfl
    | _ :: _ :: _ => rw [if_neg (by simp; omega)]; exact (hno true rfl).trans rfl
    | [r] =>
      have e0 : rd_L14 [r] 0 = r := rfl
      rw [if_pos (by simp), if_pos (by simp), e0]
      by_cases h2 : (r.length : Int) < 1
      · rw [if_pos h2]
        refine (hno true rfl).trans ?_
        unfold prT
        simp only
        rw [if_neg (fun h => by omega)]
      · rw [if_neg h2]
        by_cases h3 : (r.length : Int) > 400
        · refine (hno _ (by simpa using h3)).trans ?_
          unfold prT
          simp only
          rw [if_neg (fun h => by omega)]
        · have hil := itoa_len2 r.length (by omega)
          have z1 : (⟨(Lib.itoa (r.length : Int)).toArray⟩ : ByteArray).size = (Lib.itoa (r.length : Int)).length := ba_size _
          rw [show decide ((r.length : Int) > 400) = false by simpa using h3, tour_PrintTour.j0, if_neg (by decide), if_pos (by simp), if_pos (by omega), e0]
          unfold strconv_Itoa.f
          rw [if_pos ⟨by omega, by omega⟩]
          simp only [Option.bind_some]
          rw [if_pos (by rw [z1]; omega)]
          have hl := ptour_l r (by omega) r.length 0 k (hdT name.data.toList r.length) (by omega) (by omega) (by simp [hdT]) (fun x hx => by
            have hns : name.data.toList.length = name.size := rfl
            simp only [hdT, List.mem_cons, List.not_mem_nil, or_false] at hx
            rcases hx with rfl | rfl | rfl | rfl <;> simp <;> omega)
          have hm : (hdT name.data.toList r.length).map (fun x => (⟨x.toArray⟩ : ByteArray)) = [(⟨#[78, 65, 77, 69, 32, 58, 32]⟩ : ByteArray) ++ name, ⟨#[84, 89, 80, 69, 32, 58, 32, 84, 79, 85, 82]⟩, (⟨#[68, 73, 77, 69, 78, 83, 73, 79, 78, 32, 58, 32]⟩ : ByteArray) ++ ⟨(Lib.itoa (r.length : Int)).toArray⟩, ⟨#[84, 79, 85, 82, 95, 83, 69, 67, 84, 73, 79, 78]⟩] := by
            have e1 : (⟨#[78, 65, 77, 69, 32, 58, 32]⟩ : ByteArray) ++ name = ⟨([78, 65, 77, 69, 32, 58, 32] ++ name.data.toList).toArray⟩ := by
              apply ByteArray.ext
              rw [ByteArray.data_append]
              apply Array.ext'
              simp
            have e2 : (⟨#[68, 73, 77, 69, 78, 83, 73, 79, 78, 32, 58, 32]⟩ : ByteArray) ++ ⟨(Lib.itoa (r.length : Int)).toArray⟩ = ⟨([68, 73, 77, 69, 78, 83, 73, 79, 78, 32, 58, 32] ++ Lib.itoa (r.length : Int)).toArray⟩ := by
              apply ByteArray.ext
              rw [ByteArray.data_append]
              apply Array.ext'
              simp
            rw [e1, e2]
            rfl
          rw [hm] at hl
          rw [show (0 : Int) = ((0 : Nat) : Int) from rfl]
          refine hl.trans ?_
          unfold prT
          rw [List.drop_zero]
          simp only
          by_cases h5 : okT r.length r = true
          · rw [if_pos h5, if_pos ⟨h1, by omega, by omega, h5⟩]; rfl
          · rw [if_neg h5, if_neg (fun h => h5 h.2.2.2)]
  · rw [if_neg h1]
    refine (hno true rfl).trans ?_
    unfold prT
    split
    · rw [if_neg (fun h => h1 h.1)]
    · rfl
theorem mk_app (a : List UInt8) (b : Array UInt8) : (⟨a.toArray⟩ : ByteArray) ++ ⟨b⟩ = ⟨(a ++ b.toList).toArray⟩ := by
  apply ByteArray.ext
  rw [ByteArray.data_append]
  apply Array.ext'
  simp
theorem rtour_l (r : List Int) (hr : r.length ≤ 400) (d : Nat) : ∀ (i k : Nat) (acc : List UInt8), i + d = r.length → d + 50 < k → acc.length ≤ 1000 + i * 30 →
    entrepotref16_PrintTour.l0 k r ⟨acc.toArray⟩ i = some (if okT r.length (r.drop i) = true then ⟨(acc ++ lnT (stT (r.drop i) ++ ftT)).toArray⟩ else ⟨#[]⟩) := by
  induction d with
  | zero =>
    intro i k acc hi hk hal
    obtain ⟨k, rfl, hk⟩ := succ' hk
    have h0 : r.drop i = [] := List.drop_of_length_le (by omega)
    simp only [entrepotref16_PrintTour.l0]
    rw [if_neg (by omega), h0, if_pos (by rw [ba_size]; omega), mk_app]
    simp [okT, stT, lnT, ftT]
  | succ d ih =>
    intro i k acc hi hk hal
    obtain ⟨k, rfl, hk⟩ := succ' hk
    obtain ⟨v, hv⟩ : ∃ v, r[i]? = some v := ⟨_, List.getElem?_eq_getElem (show i < r.length by omega)⟩
    have e1 : wrap64 ((i : Int) + 1) = ((i + 1 : Nat) : Int) := by rw [w64' (by omega) (by omega)]; omega
    simp only [entrepotref16_PrintTour.l0]
    rw [if_pos (by omega), if_pos (by omega), rdXI r i v hv, drop_cons' r i v hv]
    by_cases h0 : v < 0
    · rw [if_pos h0, if_neg (by simp [okT]; intro h; omega)]
    · by_cases h1 : v ≥ (r.length : Int)
      · rw [if_neg h0, if_pos h1, if_neg (by simp [okT]; intro h; omega)]
      · have hil := itoa_length_le (v + 1) (by omega) (by omega)
        rw [if_neg h0, if_neg h1, w64' (n := v + 1) (by omega) (by omega), Num_eq (v + 1) (by omega) (by omega) k (by omega)]
        simp only [Option.bind_some]
        rw [if_pos (by rw [ba_size, ba_size]; omega), ba_app, if_pos (by rw [ba_size]; simp; omega), mk_app, e1, ih (i + 1) k _ (by omega) (by omega) (by simp; omega)]
        have ho : okT r.length (v :: r.drop (i + 1)) = okT r.length (r.drop (i + 1)) := by
          simp only [okT, List.all_cons]
          rw [show decide (0 ≤ v) = true by simp; omega, show decide (v < (r.length : Int)) = true by simp; omega]
          simp
        rw [ho]
        simp [stT, lnT]
theorem rptour_eq (name : ByteArray) (hn : name.size ≤ 100) (p : List (List Int)) (k : Nat) (hk : 600 < k) : entrepotref16_PrintTour.f k name p = some (prT name p) := by
  obtain ⟨k, rfl, hk⟩ := succ' hk
  unfold entrepotref16_PrintTour.f
  rw [RName_eq name (by omega) (k + 1) (by omega)]
  simp only [Option.bind_some]
  have hno : ∀ x : Bool, x = true → entrepotref16_PrintTour.j0 (k + 1) name x p = some ⟨#[]⟩ := fun x hx => by rw [entrepotref16_PrintTour.j0, if_pos hx]
  by_cases h1 : allS namB name.data.toList = true
  · rw [if_pos h1]
    match p with
    | [] => rw [if_neg (by simp)]; exact (hno true rfl).trans rfl
    | _ :: _ :: _ => rw [if_neg (by simp; omega)]; exact (hno true rfl).trans rfl
    | [r] =>
      have e0 : rd_L14 [r] 0 = r := rfl
      rw [if_pos (by simp), if_pos (by simp), e0]
      by_cases h2 : (r.length : Int) < 1
      · rw [if_pos h2]
        refine (hno true rfl).trans ?_
        unfold prT
        simp only
        rw [if_neg (fun h => by omega)]
      · rw [if_neg h2]
        by_cases h3 : (r.length : Int) > 400
        · refine (hno _ (by simpa using h3)).trans ?_
          unfold prT
          simp only
          rw [if_neg (fun h => by omega)]
        · have hil := itoa_len2 r.length (by omega)
          have hns : name.data.toList.length = name.size := rfl
          have e1 : (⟨#[78, 65, 77, 69, 32, 58, 32]⟩ : ByteArray) ++ name = ⟨([78, 65, 77, 69, 32, 58, 32] ++ name.data.toList).toArray⟩ := by
            apply ByteArray.ext
            rw [ByteArray.data_append]
            apply Array.ext'
            simp
          rw [show decide ((r.length : Int) > 400) = false by simpa using h3, entrepotref16_PrintTour.j0, if_neg (by decide), if_pos (by simp), if_pos (by omega), e0, e1, if_pos (by rw [ba_size]; simp; omega), mk_app, Num_eq (r.length : Int) (by omega) (by omega) k (by omega)]
          simp only [Option.bind_some]
          rw [if_pos (by rw [ba_size, ba_size]; simp; omega), ba_app, if_pos (by rw [ba_size]; simp; omega), mk_app, show (0 : Int) = ((0 : Nat) : Int) from rfl]
          have hl := rtour_l r (by omega) r.length 0 k ((([78, 65, 77, 69, 32, 58, 32] ++ name.data.toList) ++ #[10, 84, 89, 80, 69, 32, 58, 32, 84, 79, 85, 82, 10, 68, 73, 77, 69, 78, 83, 73, 79, 78, 32, 58, 32].toList) ++ Lib.itoa (r.length : Int) ++ #[10, 84, 79, 85, 82, 95, 83, 69, 67, 84, 73, 79, 78, 10].toList) (by omega) (by omega) (by simp; omega)
          refine hl.trans ?_
          unfold prT
          rw [List.drop_zero]
          simp only
          by_cases h5 : okT r.length r = true
          · rw [if_pos h5, if_pos ⟨h1, by omega, by omega, h5⟩]
            unfold tourT
            congr 3
            simp [lnT, hdT]
          · rw [if_neg h5, if_neg (fun h => h5 h.2.2.2)]
  · rw [if_neg h1]
    refine (hno true rfl).trans ?_
    unfold prT
    split
    · rw [if_neg (fun h => h1 h.1)]
    · rfl
theorem sz_ok (a : List UInt8) (n : Nat) (h : a.length ≤ 1000000) (hn : n ≤ 1000) : (⟨a.toArray⟩ : ByteArray).size + n ≤ 9223372036854775807 := by
  rw [ba_size]
  omega
theorem sz_ok2 (a b : List UInt8) (n : Nat) (h : a.length ≤ 1000000) (hn : n ≤ 21) : (⟨(a ++ #[32].toList).toArray⟩ : ByteArray).size + n ≤ 9223372036854775807 := by
  rw [ba_size]
  simp
  omega
theorem wrapN (j : Nat) (h : j ≤ 1000000000) : wrap64 ((j : Int) + 1) = ((j + 1 : Nat) : Int) := by rw [w64' (by omega) (by omega)]; omega
theorem rroutes_in (l : List (List Int)) (cost : Int) (hash : Bool) (i : Nat) (r : List Int) (hr : l[i]? = some r) (hsm : ∀ v ∈ r, -100000000 ≤ v ∧ v ≤ 100000000) (N : Nat) (R : ByteArray) (hil : l.length ≤ 1000000) (hrl : r.length ≤ 1000000) (d : Nat) : ∀ (j k : Nat) (acc : List UInt8), j + d = r.length → N + d + 50 < k → acc.length + d * 30 ≤ 1000000 →
    (∀ k', N < k' → entrepotref16_PrintRoutes.l0 k' cost hash ⟨(acc ++ stopsT (r.drop j) ++ [10]).toArray⟩ ((i + 1 : Nat) : Int) l = some R) → entrepotref16_PrintRoutes.l1 k cost hash ⟨acc.toArray⟩ i j l = some R := by
  have hlt := (List.getElem?_eq_some_iff.1 hr).1
  induction d with
  | zero =>
    intro j k acc hj hk hal hR
    obtain ⟨k, rfl, hk⟩ := succ' hk
    have hac : acc.length ≤ 1000000 := by omega
    rw [entrepotref16_PrintRoutes.l1, if_pos (by omega), if_pos (by omega), rdX14 l i r hr, if_neg (by omega), if_pos (sz_ok acc 1 hac (by decide)), mk_app, wrapN i (by omega)]
    have := hR k (by omega)
    rw [List.drop_of_length_le (by omega)] at this
    simpa [stopsT] using this
  | succ d ih =>
    intro j k acc hj hk hal hR
    obtain ⟨k, rfl, hk⟩ := succ' hk
    obtain ⟨v, hv⟩ : ∃ v, r[j]? = some v := ⟨_, List.getElem?_eq_getElem (show j < r.length by omega)⟩
    have hs := hsm v (List.mem_of_getElem? hv)
    have hil2 := itoa_length_le v (by omega) (by omega)
    have hac : acc.length ≤ 1000000 := by omega
    rw [entrepotref16_PrintRoutes.l1, if_pos (by omega), if_pos (by omega), rdX14 l i r hr, if_pos (by omega), if_pos (sz_ok acc 1 hac (by decide)), if_pos (by omega), rdXI r j v hv, Num_eq v (by omega) (by omega) k (by omega)]
    simp only [Option.bind_some]
    rw [mk_app, if_pos (by rw [ba_size (Lib.itoa v)]; exact sz_ok2 acc [] _ hac hil2), ba_app, wrapN j (by omega)]
    refine ih (j + 1) k _ (by omega) (by omega) (by simp; omega) (fun k' hk' => ?_)
    have := hR k' hk'
    rw [drop_cons' r j v hv] at this
    simpa [stopsT] using this
theorem sz3 (a : List UInt8) (n : Nat) (h : a.length ≤ 1000100) (hn : n ≤ 21) : (⟨a.toArray⟩ : ByteArray).size + n ≤ 9223372036854775807 := by
  rw [ba_size]
  omega
theorem stopsT_len (r : List Int) (hsm : ∀ v ∈ r, -100000000 ≤ v ∧ v ≤ 100000000) : (stopsT r).length ≤ r.length * 22 := by
  induction r with
  | nil => simp [stopsT]
  | cons v r ih =>
    have h1 := hsm v List.mem_cons_self
    have h2 := itoa_length_le v (by omega) (by omega)
    have h3 := ih (fun u hu => hsm u (List.mem_cons_of_mem _ hu))
    unfold stopsT at h3 ⊢
    simp only [List.flatMap_cons, List.length_append, List.length_cons]
    omega
theorem cast1 (i : Nat) : (((i + 1 : Nat)) : Int) = (i : Int) + 1 := by omega
theorem head_len (hash : Bool) (i : Nat) (h : i ≤ 1000000) : (headT hash i).length ≤ 40 := by
  have := itoa_length_le ((i : Int) + 1) (by omega) (by omega)
  unfold headT
  split <;> simp <;> omega
set_option maxRecDepth 100000 in
theorem rroutes_l (l : List (List Int)) (cost : Int) (hash : Bool) (hl : l.length ≤ 60) (hsm : ∀ r ∈ l, r.length ≤ 450 ∧ ∀ v ∈ r, -100000000 ≤ v ∧ v ≤ 100000000) (hc0 : -1 ≤ cost) (hc1 : cost ≤ 100000000) (d : Nat) : ∀ (i k : Nat) (acc : List UInt8), i + d = l.length → d * 1000 + 100 < k → acc.length ≤ i * 10000 →
    entrepotref16_PrintRoutes.l0 k cost hash ⟨acc.toArray⟩ i l = some ⟨(acc ++ (routesT hash (l.drop i) i ++ costT cost)).toArray⟩ := by
  induction d with
  | zero =>
    intro i k acc hi hk hal
    obtain ⟨k, rfl, hk⟩ := succ' hk
    have hac : acc.length ≤ 1000000 := by omega
    have hil := itoa_length_le cost (by omega) (by omega)
    rw [entrepotref16_PrintRoutes.l0, if_neg (by omega), List.drop_of_length_le (by omega)]
    unfold costT
    by_cases h0 : cost ≥ 0
    · have z1 : (⟨(Lib.itoa cost).toArray⟩ : ByteArray).size = (Lib.itoa cost).length := ba_size _
      rw [if_pos h0, if_pos h0, if_pos (sz_ok acc 5 hac (by decide)), Num_eq cost (by omega) (by omega) k (by omega)]
      simp only [Option.bind_some]
      rw [mk_app, z1, if_pos (sz3 _ _ (by simp; omega) hil), ba_app, if_pos (sz3 _ 1 (by simp; omega) (by decide)), mk_app]
      simp [routesT]
    · rw [if_neg h0, if_neg h0]
      simp [routesT]
  | succ d ih =>
    intro i k acc hi hk hal
    obtain ⟨k, rfl, hk⟩ := succ' hk
    obtain ⟨k, rfl, hk⟩ := succ' (show d * 1000 + 1098 < k by omega)
    obtain ⟨r, hr⟩ : ∃ r, l[i]? = some r := ⟨_, List.getElem?_eq_getElem (show i < l.length by omega)⟩
    obtain ⟨h1, h2⟩ := hsm r (List.mem_of_getElem? hr)
    have h3 := stopsT_len r h2
    have hac : acc.length ≤ 1000000 := by omega
    have hil := itoa_length_le ((i : Int) + 1) (by omega) (by omega)
    have hh := head_len hash i (by omega)
    have hgo : entrepotref16_PrintRoutes.j1 (k + 1) cost hash ⟨(acc ++ headT hash i).toArray⟩ i l = some ⟨(acc ++ (routesT hash (l.drop i) i ++ costT cost)).toArray⟩ := by
      rw [entrepotref16_PrintRoutes.j1, show (0 : Int) = ((0 : Nat) : Int) from rfl]
      have q1 : (d * 1000 + 100) + r.length + 50 < k := by omega
      have q2 : (acc ++ headT hash i).length + r.length * 30 ≤ 1000000 := by rw [List.length_append]; omega
      have q3 : l.length ≤ 1000000 := by omega
      have q4 : r.length ≤ 1000000 := by omega
      refine rroutes_in l cost hash i r hr h2 (d * 1000 + 100) ⟨(acc ++ (routesT hash (l.drop i) i ++ costT cost)).toArray⟩ q3 q4 r.length 0 k (acc ++ headT hash i) (Nat.zero_add _) q1 q2 (fun k' hk' => ?_)
      rw [ih (i + 1) k' _ (by omega) (by omega) (by simp; omega), drop_cons' l i r hr]
      simp [routesT]
    rw [entrepotref16_PrintRoutes.l0, if_pos (by omega), wrapN i (by omega), cast1]
    have z1 : (⟨(Lib.itoa ((i : Int) + 1)).toArray⟩ : ByteArray).size = (Lib.itoa ((i : Int) + 1)).length := ba_size _
    cases hash with
    | true =>
      rw [if_pos rfl, if_pos (sz_ok acc 7 hac (by decide)), Num_eq ((i : Int) + 1) (by omega) (by omega) (k + 1) (by omega)]
      simp only [Option.bind_some]
      rw [mk_app, z1, if_pos (sz3 _ _ (by simp; omega) hil), ba_app, if_pos (sz3 _ 1 (by simp; omega) (by decide)), mk_app]
      refine Eq.trans ?_ hgo
      congr 2
      simp [headT]
    | false =>
      rw [if_neg (by decide), if_pos (sz_ok acc 6 hac (by decide)), Num_eq ((i : Int) + 1) (by omega) (by omega) (k + 1) (by omega)]
      simp only [Option.bind_some]
      rw [mk_app, z1, if_pos (sz3 _ _ (by simp; omega) hil), ba_app, if_pos (sz3 _ 2 (by simp; omega) (by decide)), mk_app]
      refine Eq.trans ?_ hgo
      congr 2
      simp [headT]
theorem rroutes_eq (l : List (List Int)) (cost : Int) (hash : Bool) (hl : l.length ≤ 60) (hsm : ∀ r ∈ l, r.length ≤ 450 ∧ ∀ v ∈ r, -100000000 ≤ v ∧ v ≤ 100000000) (hc0 : -1 ≤ cost) (hc1 : cost ≤ 100000000) (k : Nat) (hk : 100000 < k) : entrepotref16_PrintRoutes.f k l cost hash = some ⟨(prS l cost hash).toArray⟩ := by
  unfold entrepotref16_PrintRoutes.f
  have := rroutes_l l cost hash hl hsm hc0 hc1 l.length 0 k [] (by omega) (by omega) (by simp)
  refine Eq.trans this ?_
  simp [prS]
theorem routesT_len (hash : Bool) (l : List (List Int)) (hsm : ∀ r ∈ l, r.length ≤ 450 ∧ ∀ v ∈ r, -100000000 ≤ v ∧ v ≤ 100000000) : ∀ i : Nat, i + l.length ≤ 100000 → (routesT hash l i).length ≤ l.length * 10000 := by
  induction l with
  | nil => intro i _; simp [routesT]
  | cons r l ih =>
    intro i hi
    obtain ⟨h1, h2⟩ := hsm r List.mem_cons_self
    have h3 := stopsT_len r h2
    have h4 := head_len hash i (by simp at hi; omega)
    have h5 := ih (fun u hu => hsm u (List.mem_cons_of_mem _ hu)) (i + 1) (by simp at hi; omega)
    simp only [routesT, List.length_append, List.length_cons]
    omega
theorem proutes_eq (l : List (List Int)) (cost : Int) (hash : Bool) (hl : l.length ≤ 60) (hsm : ∀ r ∈ l, r.length ≤ 450 ∧ ∀ v ∈ r, -100000000 ≤ v ∧ v ≤ 100000000) (hc0 : -1 ≤ cost) (hc1 : cost ≤ 100000000) : tour_PrintRoutes.f l cost hash = some ⟨(prS l cost hash).toArray⟩ ∧ (prS l cost hash).length ≤ 700000 := by
  have h1 := routesT_len hash l hsm 0 (by omega)
  have hlen : (prS l cost hash).length ≤ 700000 := by
    have h2 := itoa_length_le cost (by omega) (by omega)
    have h3 : (costT cost).length ≤ 100 := by unfold costT; split <;> simp; omega
    unfold prS
    rw [List.length_append]
    omega
  refine ⟨?_, hlen⟩
  unfold tour_PrintRoutes.f
  rw [if_pos ?_]
  unfold tour_PrintRoutes.ok
  simp only [Bool.and_eq_true, List.all_eq_true, decide_eq_true_eq]
  exact ⟨fun r hr v hv => by have := (hsm r hr).2 v hv; omega, by omega, by omega, by omega, by omega⟩
def sumL (l : List (List Int)) : Nat := (l.map List.length).sum
theorem sumL_take (l : List (List Int)) (i : Nat) (r : List Int) (hr : l[i]? = some r) : sumL (l.take (i + 1)) = sumL (l.take i) + r.length := by
  unfold sumL
  rw [List.take_add_one, hr]
  simp
theorem sumL_mem (l : List (List Int)) : ∀ r ∈ l, r.length ≤ sumL l := by
  induction l with
  | nil => simp
  | cons x l ih =>
    intro r hr
    unfold sumL at ih ⊢
    rw [List.map_cons, List.sum_cons]
    rcases List.mem_cons.1 hr with rfl | h
    · omega
    · have := ih r h; omega
theorem long_l (l : List (List Int)) (d : Nat) : ∀ (i k : Nat) (n : Int), i + d = 70 → d * 2 + 4 < k → n = (sumL (l.take i) : Int) → n ≤ (i : Int) * 450 →
    entrepotlaw16_long.l0 k n i l = some true ∨ (entrepotlaw16_long.l0 k n i l = some false ∧ l.length ≤ 60 ∧ sumL l ≤ 450) := by
  have hend : ∀ (i k : Nat) (n : Int), 1 < k → (l.length ≤ i ∨ 70 ≤ i) → n = (sumL (l.take i) : Int) → entrepotlaw16_long.j1 k n i false l = some true ∨ (entrepotlaw16_long.j1 k n i false l = some false ∧ l.length ≤ 60 ∧ sumL l ≤ 450) := by
    intro i k n hk hi hb
    obtain ⟨k, rfl, hk⟩ := succ' hk
    rw [entrepotlaw16_long.j1, if_neg (by decide)]
    by_cases h60 : (l.length : Int) > 60
    · rw [if_pos h60]; exact .inl rfl
    · rw [if_neg h60]
      rw [List.take_of_length_le (by omega)] at hb
      cases hd : decide (n > 450) with
      | true => exact .inl rfl
      | false =>
        have : ¬ n > 450 := by simpa using hd
        exact .inr ⟨rfl, by omega, by omega⟩
  induction d with
  | zero =>
    intro i k n hi hk hn hn2
    obtain ⟨k, rfl, hk⟩ := succ' hk
    obtain rfl : i = 70 := by omega
    rw [entrepotlaw16_long.l0]
    rw [show decide (((70 : Nat) : Int) < 70) = false from rfl, ite_self]
    exact hend 70 k n (by omega) (.inr (Nat.le_refl _)) hn
  | succ d ih =>
    intro i k n hi hk hn hn2
    obtain ⟨k, rfl, hk⟩ := succ' hk
    rw [entrepotlaw16_long.l0]
    by_cases hlt : i < l.length
    · obtain ⟨r, hr⟩ : ∃ r, l[i]? = some r := ⟨_, List.getElem?_eq_getElem hlt⟩
      obtain ⟨k, rfl, hk⟩ := succ' (show 3 < k by omega)
      rw [if_pos (by omega), show decide ((i : Int) < 70) = true by simp; omega, entrepotlaw16_long.j1, if_pos rfl, if_pos (by omega), if_pos (by omega), rdX14 l i r hr]
      by_cases h4 : (r.length : Int) > 450
      · rw [if_pos h4]; exact .inl rfl
      · rw [if_neg h4, wrapN i (by omega), w64' (n := n + (r.length : Int)) (by omega) (by omega)]
        exact ih (i + 1) k _ (by omega) (by omega) (by rw [sumL_take l i r hr]; omega) (by omega)
    · rw [if_neg (by omega)]
      exact hend i k n (by omega) (.inl (by omega)) hn
theorem long_s (l : List (List Int)) (k : Nat) (hk : 200 < k) : entrepotlaw16_long.f k l = some true ∨ (entrepotlaw16_long.f k l = some false ∧ l.length ≤ 60 ∧ sumL l ≤ 450) := by
  unfold entrepotlaw16_long.f
  exact long_l l 70 0 k 0 (by omega) (by omega) (by simp [sumL]) (by decide)
theorem long_eq (l : List (List Int)) (k : Nat) (hk : 200 < k) : entrepotlaw16_long.f k l = some true ∨ (entrepotlaw16_long.f k l = some false ∧ l.length ≤ 60 ∧ ∀ r ∈ l, r.length ≤ 450) := by
  rcases long_s l k hk with h | ⟨h1, h2, h3⟩
  · exact .inl h
  · exact .inr ⟨h1, h2, fun r hr => by have := sumL_mem l r hr; omega⟩
theorem small_in (l : List (List Int)) (hl : l.length ≤ 60) (i : Nat) (r : List Int) (hr : l[i]? = some r) (hrl : r.length ≤ 450) (N : Nat) (Q : Prop) (d : Nat) : ∀ (j k : Nat), j + d = r.length → N + d + 2 < k →
    (∀ k', N < k' → entrepotlaw16_small.l0 k' ((i + 1 : Nat) : Int) l = some false ∨ (entrepotlaw16_small.l0 k' ((i + 1 : Nat) : Int) l = some true ∧ Q)) →
    entrepotlaw16_small.l1 k i j l = some false ∨ (entrepotlaw16_small.l1 k i j l = some true ∧ Q ∧ ∀ v ∈ r.drop j, -100000000 ≤ v ∧ v ≤ 100000000) := by
  have hlt := (List.getElem?_eq_some_iff.1 hr).1
  induction d with
  | zero =>
    intro j k hj hk hB
    obtain ⟨k, rfl, hk⟩ := succ' hk
    rw [entrepotlaw16_small.l1, if_pos (by omega), if_pos (by omega), rdX14 l i r hr, if_neg (by omega), wrapN i (by omega), List.drop_of_length_le (by omega)]
    rcases hB k (by omega) with h | ⟨h, hq⟩
    · exact .inl h
    · exact .inr ⟨h, hq, by simp⟩
  | succ d ih =>
    intro j k hj hk hB
    obtain ⟨k, rfl, hk⟩ := succ' hk
    obtain ⟨v, hv⟩ : ∃ v, r[j]? = some v := ⟨_, List.getElem?_eq_getElem (show j < r.length by omega)⟩
    rw [entrepotlaw16_small.l1, if_pos (by omega), if_pos (by omega), rdX14 l i r hr, if_pos (by omega), if_pos (by omega), rdXI r j v hv, wrapN j (by omega)]
    by_cases h1 : v < -100000000
    · rw [if_pos h1]; exact .inl rfl
    · by_cases h2 : v > 100000000
      · rw [if_neg h1, if_pos h2]; exact .inl rfl
      · rw [if_neg h1, if_neg h2]
        rcases ih (j + 1) k (by omega) (by omega) hB with h | ⟨h, hq, h3⟩
        · exact .inl h
        · refine .inr ⟨h, hq, fun u hu => ?_⟩
          rw [drop_cons' r j v hv] at hu
          rcases List.mem_cons.1 hu with rfl | hu
          · omega
          · exact h3 u hu
theorem small_l (l : List (List Int)) (hl : l.length ≤ 60) (hrl : ∀ r ∈ l, r.length ≤ 450) (d : Nat) : ∀ (i k : Nat), i + d = l.length → d * 500 + 2 < k →
    entrepotlaw16_small.l0 k i l = some false ∨ (entrepotlaw16_small.l0 k i l = some true ∧ ∀ r ∈ l.drop i, ∀ v ∈ r, -100000000 ≤ v ∧ v ≤ 100000000) := by
  induction d with
  | zero =>
    intro i k hi hk
    obtain ⟨k, rfl, hk⟩ := succ' hk
    rw [entrepotlaw16_small.l0, if_neg (by omega), List.drop_of_length_le (by omega)]
    exact .inr ⟨rfl, by simp⟩
  | succ d ih =>
    intro i k hi hk
    obtain ⟨k, rfl, hk⟩ := succ' hk
    obtain ⟨r, hr⟩ : ∃ r, l[i]? = some r := ⟨_, List.getElem?_eq_getElem (show i < l.length by omega)⟩
    have h45 := hrl r (List.mem_of_getElem? hr)
    rw [entrepotlaw16_small.l0, if_pos (by omega), show (0 : Int) = ((0 : Nat) : Int) from rfl]
    rcases small_in l hl i r hr h45 (d * 500 + 2) _ r.length 0 k (by omega) (by omega) (fun k' hk' => ih (i + 1) k' (by omega) hk') with h | ⟨h, hq, h3⟩
    · exact .inl h
    · refine .inr ⟨h, fun u hu v hv => ?_⟩
      rw [drop_cons' l i r hr] at hu
      rcases List.mem_cons.1 hu with rfl | hu
      · exact h3 v (by simpa using hv)
      · exact hq u hu v hv
theorem small_eq (l : List (List Int)) (hl : l.length ≤ 60) (hrl : ∀ r ∈ l, r.length ≤ 450) (k : Nat) (hk : 40000 < k) :
    entrepotlaw16_small.f k l = some false ∨ (entrepotlaw16_small.f k l = some true ∧ ∀ r ∈ l, ∀ v ∈ r, -100000000 ≤ v ∧ v ≤ 100000000) := by
  unfold entrepotlaw16_small.f
  have := small_l l hl hrl l.length 0 k (by omega) (by omega)
  rw [List.drop_zero] at this
  exact this
end Go.Proofs.YtadocbfchdendaaGreatDoor.Cu
