/- Part 3 of the proof of SheetNumbers: contracts of functions, and the words that they use. -/
import Derived.Test.YtadocbfchdendaaGreatDoorMSheetNumbersA
import Derived.Test.YtadocbfchdendaaGreatDoorMSheetNumbersB
set_option linter.unusedVariables false
set_option linter.unusedSimpArgs false
namespace Go.Proofs.YtadocbfchdendaaGreatDoor.P
open Go.RowKit Go.Proofs.YtadocbfchdendaaGreatDoorW.PrintWords Go.Proofs.YtadocbfchdendaaGreatDoorW.PrintLast Go.Proofs.YtadocbfchdendaaGreatDoorW.PrintMore
attribute [local go_sem] max2_int min2_int max_two min_two max_three min_three max_four min_four   -- for this text's walks alone
set_option linter.unusedVariables false
set_option linter.unusedSimpArgs false
attribute [local go_sem high] eqA41
def entrepotlaw13_shown.f (k : Nat)  : Option (Bool) := (sheet_Rows.f k (⟨#[97, 32, 98, 10, 10, 51, 32, 45, 52, 10, 53, 10]⟩ : ByteArray) 1).bind fun t101 => (if (t101.length : Int) = 2 then (if 0 < (t101.length : Int) then (if ((rd_T32 t101 0).f0) = 5 then (if (((rd_T32 t101 0).f1).length : Int) = 2 then ((sheet_Title.f k (⟨#[97, 32, 98, 10, 10, 51, 32, 45, 52, 10, 53, 10]⟩ : ByteArray) ((rd_T32 t101 0).f0) ((rd_T32 t101 0).f1) (⟨#[51, 32, 45, 52]⟩ : ByteArray)).bind fun t107 => (if t107 = true then ((sheet_Ints.f k (⟨#[97, 32, 98, 10, 10, 51, 32, 45, 52, 10, 53, 10]⟩ : ByteArray) ((rd_T32 t101 0).f0) ((rd_T32 t101 0).f1) 2).bind fun bt109 => ((sheet_Flat.f k (⟨#[97, 32, 98, 10, 10, 51, 32, 45, 52, 10, 53, 10]⟩ : ByteArray) t101 3).bind fun bt115 => ((sheet_Common.f k (([(⟨5, 0⟩ : S50), (⟨25, 1⟩ : S50)] : List (S50)))).bind fun bt125 => (if (bt109.1.length : Int) = 2 then (if 1 < (bt109.1.length : Int) then (if (rd bt109.1 1) = (-4) then (if (bt109.2.1 == 0 && (bt109.2.2 == 0)) = true then (if (bt115.1.length : Int) = 3 then (if 2 < (bt115.1.length : Int) then (if (rd bt115.1 2) = 5 then (if bt115.2.1 = 2 then (if (bt115.2.2.1 == 0 && (bt115.2.2.2 == 0)) = true then (if (bt125.1.length : Int) = 2 then (if 0 < (bt125.1.length : Int) then (if (rd bt125.1 0) = 50 then (if 1 < (bt125.1.length : Int) then (if (rd bt125.1 1) = 25 then (if bt125.2.1 = 1 then (some (bt125.2.2 == (-1))) else (none)) else (none)) else (none)) else (none)) else (none)) else (none)) else (none)) else (none)) else (none)) else (none)) else (none)) else (none)) else (none)) else (none)) else (none))))) else (none))) else (none)) else (none)) else (none)) else (none))
theorem entrepotlaw13_shown.mono : ∀ k, LeO (entrepotlaw13_shown.f k ) (entrepotlaw13_shown.f (k + 1) ) := by
 intro  k
 unfold entrepotlaw13_shown.f
 repeat' first
   | (with_reducible exact sheet_Common.mono _ _)
   | (with_reducible exact sheet_Flat.mono _ _ _ _)
   | (with_reducible exact sheet_Ints.mono _ _ _ _ _)
   | (with_reducible exact sheet_Rows.mono _ _ _)
   | (with_reducible exact sheet_Title.mono _ _ _ _ _)
   | (with_reducible exact LeO.refl _)
   | (with_reducible exact LeO.none _)
   | (with_reducible refine LeO.ite ?_ ?_)
   | (with_reducible refine LeO.bind ?_ (fun _ => ?_))
   | exact sheet_Common.mono _ _
   | exact sheet_Flat.mono _ _ _ _
   | exact sheet_Ints.mono _ _ _ _ _
   | exact sheet_Rows.mono _ _ _
   | exact sheet_Title.mono _ _ _ _ _
   | exact LeO.none _
   | refine LeO.ite ?_ ?_
   | refine LeO.bind ?_ (fun _ => ?_)
set_option maxHeartbeats 8000000 in
set_option maxRecDepth 100000 in
theorem entrepotlaw13_shown.calls (k : Nat)  (r : Bool) (w : World) (h : entrepotlaw13_shown.f k  = some r) :
  Calls Tryz.prog 14 #[] w fun e w' => e = .returned (.bool r) ∧ Below w.heap.size w w' := by
 have hu32 := Tryz.underlying32; have hu41 := Tryz.underlying41; have hu50 := Tryz.underlying50; have HB := Aside0.mk (Below.refl w.heap.size w); have H : ((sheet_Rows.f k (⟨#[97, 32, 98, 10, 10, 51, 32, 45, 52, 10, 53, 10]⟩ : ByteArray) 1).bind fun t101 => (if (t101.length : Int) = 2 then (if 0 < (t101.length : Int) then (if ((rd_T32 t101 0).f0) = 5 then (if (((rd_T32 t101 0).f1).length : Int) = 2 then ((sheet_Title.f k (⟨#[97, 32, 98, 10, 10, 51, 32, 45, 52, 10, 53, 10]⟩ : ByteArray) ((rd_T32 t101 0).f0) ((rd_T32 t101 0).f1) (⟨#[51, 32, 45, 52]⟩ : ByteArray)).bind fun t107 => (if t107 = true then ((sheet_Ints.f k (⟨#[97, 32, 98, 10, 10, 51, 32, 45, 52, 10, 53, 10]⟩ : ByteArray) ((rd_T32 t101 0).f0) ((rd_T32 t101 0).f1) 2).bind fun bt109 => ((sheet_Flat.f k (⟨#[97, 32, 98, 10, 10, 51, 32, 45, 52, 10, 53, 10]⟩ : ByteArray) t101 3).bind fun bt115 => ((sheet_Common.f k (([(⟨5, 0⟩ : S50), (⟨25, 1⟩ : S50)] : List (S50)))).bind fun bt125 => (if (bt109.1.length : Int) = 2 then (if 1 < (bt109.1.length : Int) then (if (rd bt109.1 1) = (-4) then (if (bt109.2.1 == 0 && (bt109.2.2 == 0)) = true then (if (bt115.1.length : Int) = 3 then (if 2 < (bt115.1.length : Int) then (if (rd bt115.1 2) = 5 then (if bt115.2.1 = 2 then (if (bt115.2.2.1 == 0 && (bt115.2.2.2 == 0)) = true then (if (bt125.1.length : Int) = 2 then (if 0 < (bt125.1.length : Int) then (if (rd bt125.1 0) = 50 then (if 1 < (bt125.1.length : Int) then (if (rd bt125.1 1) = 25 then (if bt125.2.1 = 1 then (some (bt125.2.2 == (-1))) else (none)) else (none)) else (none)) else (none)) else (none)) else (none)) else (none)) else (none)) else (none)) else (none)) else (none)) else (none)) else (none)) else (none)) else (none))))) else (none))) else (none)) else (none)) else (none)) else (none))) = some r := h; clear h; replace H := Option.bind_eq_some_iff.mp H; obtain ⟨t101, A10, H⟩ := H; (try dsimp only at H); have A1 := Aside0.mk A10; clear A10
 by_cases c2 : (t101.length : Int) = 2
 ·rw [if_pos c2] at H; have c2b0 := beq_iff_eq.mpr c2; have c2b1 := bne_eq_false_iff_eq.mpr c2; clear c2
  by_cases c3 : 0 < (t101.length : Int)
  ·rw [if_pos c3] at H; have c3b0 := decide_eq_true c3; have c3b1 : decide (0 < t101.length) = true := decide_eq_true (by omega); clear c3
   by_cases c4 : ((rd_T32 t101 0).f0) = 5
   ·rw [if_pos c4] at H; have c4b0 := beq_iff_eq.mpr c4; have c4b1 := bne_eq_false_iff_eq.mpr c4; clear c4
    by_cases c5 : (((rd_T32 t101 0).f1).length : Int) = 2
    ·rw [if_pos c5] at H; have c5b0 := beq_iff_eq.mpr c5; have c5b1 := bne_eq_false_iff_eq.mpr c5; clear c5; replace H := Option.bind_eq_some_iff.mp H; obtain ⟨t107, A60, H⟩ := H; (try dsimp only at H); have A6 := Aside0.mk A60; clear A60
     by_cases c7 : t107 = true
     ·subst c7; have H1 : ((sheet_Ints.f k (⟨#[97, 32, 98, 10, 10, 51, 32, 45, 52, 10, 53, 10]⟩ : ByteArray) ((rd_T32 t101 0).f0) ((rd_T32 t101 0).f1) 2).bind fun bt109 => ((sheet_Flat.f k (⟨#[97, 32, 98, 10, 10, 51, 32, 45, 52, 10, 53, 10]⟩ : ByteArray) t101 3).bind fun bt115 => ((sheet_Common.f k (([(⟨5, 0⟩ : S50), (⟨25, 1⟩ : S50)] : List (S50)))).bind fun bt125 => (if (bt109.1.length : Int) = 2 then (if 1 < (bt109.1.length : Int) then (if (rd bt109.1 1) = (-4) then (if (bt109.2.1 == 0 && (bt109.2.2 == 0)) = true then (if (bt115.1.length : Int) = 3 then (if 2 < (bt115.1.length : Int) then (if (rd bt115.1 2) = 5 then (if bt115.2.1 = 2 then (if (bt115.2.2.1 == 0 && (bt115.2.2.2 == 0)) = true then (if (bt125.1.length : Int) = 2 then (if 0 < (bt125.1.length : Int) then (if (rd bt125.1 0) = 50 then (if 1 < (bt125.1.length : Int) then (if (rd bt125.1 1) = 25 then (if bt125.2.1 = 1 then (some (bt125.2.2 == (-1))) else (none)) else (none)) else (none)) else (none)) else (none)) else (none)) else (none)) else (none)) else (none)) else (none)) else (none)) else (none)) else (none)) else (none)) else (none))))) = some r := by rw [if_pos rfl] at H; exact H
      clear H; have H := H1; clear H1; replace H := Option.bind_eq_some_iff.mp H; obtain ⟨⟨t109, t112, t113⟩, A80, H⟩ := H; (try dsimp only at H); have A8 := Aside0.mk A80; clear A80; replace H := Option.bind_eq_some_iff.mp H; obtain ⟨⟨t115, t118, t119, t120⟩, A90, H⟩ := H; (try dsimp only at H); have A9 := Aside0.mk A90; clear A90; obtain ⟨y122, hy122⟩ : ∃ y_ : List (S50), y_ = (([(⟨5, 0⟩ : S50), (⟨25, 1⟩ : S50)] : List (S50))) := ⟨_, rfl⟩; replace H : ((sheet_Common.f k y122).bind fun bt125 => (if (t109.length : Int) = 2 then (if 1 < (t109.length : Int) then (if (rd t109 1) = (-4) then (if (t112 == 0 && (t113 == 0)) = true then (if (t115.length : Int) = 3 then (if 2 < (t115.length : Int) then (if (rd t115 2) = 5 then (if t118 = 2 then (if (t119 == 0 && (t120 == 0)) = true then (if (bt125.1.length : Int) = 2 then (if 0 < (bt125.1.length : Int) then (if (rd bt125.1 0) = 50 then (if 1 < (bt125.1.length : Int) then (if (rd bt125.1 1) = 25 then (if bt125.2.1 = 1 then (some (bt125.2.2 == (-1))) else (none)) else (none)) else (none)) else (none)) else (none)) else (none)) else (none)) else (none)) else (none)) else (none)) else (none)) else (none)) else (none)) else (none)) else (none))) = some r := by first | (rw [hy122]; with_reducible exact H) | (have H2_ := (Option.bind_some _ _).symm.trans H; rw [hy122]; with_reducible exact H2_) | (have H2_ := (Option.bind_some _ _).symm.trans H; with_reducible exact H2_) | with_reducible exact H | (rw [hy122]; exact H) | exact H
      have Ny122 := Aside0.mk hy122; clear hy122; replace H := Option.bind_eq_some_iff.mp H; obtain ⟨⟨t125, t126, t127⟩, A100, H⟩ := H; (try dsimp only at H); have A10 := Aside0.mk A100; clear A100
      by_cases c11 : (t109.length : Int) = 2
      ·rw [if_pos c11] at H; have c11b0 := beq_iff_eq.mpr c11; have c11b1 := bne_eq_false_iff_eq.mpr c11; clear c11
       by_cases c12 : 1 < (t109.length : Int)
       ·rw [if_pos c12] at H; have c12b0 := decide_eq_true c12; have c12b1 : decide (1 < t109.length) = true := decide_eq_true (by omega); clear c12
        by_cases c13 : (rd t109 1) = (-4)
        ·rw [if_pos c13] at H; have c13b0 := beq_iff_eq.mpr c13; have c13b1 := bne_eq_false_iff_eq.mpr c13; clear c13
         by_cases c14 : (t112 == 0 && (t113 == 0)) = true
         ·rw [if_pos c14] at H; have c14b0 : (t112 == 0 && (t113 == 0)) = true := c14; (try (have c14b1 : decide (t112 = 0 && (t113 == 0)) = true := by simpa using c14)); (try (have c14b2 : (t112 == 0 && (t113 == 0)) = true := by simpa using c14)); clear c14
          by_cases c15 : (t115.length : Int) = 3
          ·rw [if_pos c15] at H; have c15b0 := beq_iff_eq.mpr c15; have c15b1 := bne_eq_false_iff_eq.mpr c15; clear c15
           by_cases c16 : 2 < (t115.length : Int)
           ·rw [if_pos c16] at H; have c16b0 := decide_eq_true c16; have c16b1 : decide (2 < t115.length) = true := decide_eq_true (by omega); clear c16
            by_cases c17 : (rd t115 2) = 5
            ·rw [if_pos c17] at H; have c17b0 := beq_iff_eq.mpr c17; have c17b1 := bne_eq_false_iff_eq.mpr c17; clear c17
             by_cases c18 : t118 = 2
             ·rw [if_pos c18] at H; have c18b0 := beq_iff_eq.mpr c18; have c18b1 := bne_eq_false_iff_eq.mpr c18; clear c18
              by_cases c19 : (t119 == 0 && (t120 == 0)) = true
              ·rw [if_pos c19] at H; have c19b0 : (t119 == 0 && (t120 == 0)) = true := c19; (try (have c19b1 : decide (t119 = 0 && (t120 == 0)) = true := by simpa using c19)); (try (have c19b2 : (t119 == 0 && (t120 == 0)) = true := by simpa using c19)); clear c19
               by_cases c20 : (t125.length : Int) = 2
               ·rw [if_pos c20] at H; have c20b0 := beq_iff_eq.mpr c20; have c20b1 := bne_eq_false_iff_eq.mpr c20; clear c20
                by_cases c21 : 0 < (t125.length : Int)
                ·rw [if_pos c21] at H; have c21b0 := decide_eq_true c21; have c21b1 : decide (0 < t125.length) = true := decide_eq_true (by omega); clear c21
                 by_cases c22 : (rd t125 0) = 50
                 ·rw [if_pos c22] at H; have c22b0 := beq_iff_eq.mpr c22; have c22b1 := bne_eq_false_iff_eq.mpr c22; clear c22
                  by_cases c23 : 1 < (t125.length : Int)
                  ·rw [if_pos c23] at H; have c23b0 := decide_eq_true c23; have c23b1 : decide (1 < t125.length) = true := decide_eq_true (by omega); clear c23
                   by_cases c24 : (rd t125 1) = 25
                   ·rw [if_pos c24] at H; have c24b0 := beq_iff_eq.mpr c24; have c24b1 := bne_eq_false_iff_eq.mpr c24; clear c24
                    by_cases c25 : t126 = 1
                    ·rw [if_pos c25] at H; have c25b0 := beq_iff_eq.mpr c25; have c25b1 := bne_eq_false_iff_eq.mpr c25; clear c25; obtain rfl := Option.some.inj H; go_enter Tryz.func14, Tryz.ntmps14
                     go_wp2_with (first | ((with_reducible refine gate_callee (f := 15) rfl ?_); refine goesL_ (some 12) rfl rfl Tryz.func15 (by kernel_rfl) rfl #[.string (⟨#[97, 32, 98, 10, 10, 51, 32, 45, 52, 10, 53, 10]⟩ : ByteArray), .int .i64 1] rfl qm ?_; (with_reducible refine (sheet_Rows.calls k (⟨#[97, 32, 98, 10, 10, 51, 32, 45, 52, 10, 53, 10]⟩ : ByteArray) 1 t101 _ A1.out).mono ?_); rintro e w26 ⟨v102, rfl, ho0, hb⟩; refine ⟨_, rfl, ?_⟩; have HO103 := Aside0.mk (Kd.S_lower ho0 (below_size qb)); replace HB := cB HB hb; (try clear hb); (try clear hb2); (try clear hk); (try clear hi); (try clear ho0); obtain ⟨Ao27, co27, eo27⟩ := Kd.S_slice HO103.out; subst eo27; have p104 : 0 ≤ (0 : Int) := (by omega); have q104 : 0 < (t101.length : Int) := of_decide_eq_true qa; obtain ⟨ad104, A104_1, c104_1, e104, hx104_0, hx104_1, hl104_1, hi104_1⟩ := at_T32 (Kd.S_reads' HO103.out).2.2 0 p104 q104; cases e104; obtain ⟨ce104, hce104, hMe104, hcc104⟩ := Kd.S_get HO103.out z32 0 p104 (by first | exact q104 | exact of_decide_eq_true qa | (have e_ := (Kd.S_reads' HO103.out).1; omega)); obtain ⟨ve104_1, rfl, ge104_1⟩ := k32_openM hMe104; have hv104_1 := hcc104 1 _ rfl; rw [add_field _ _ 1 (by omega)] at hv104_1; replace hv104_1 := Option.some.inj (hv104_1.symm.trans hx104_1); rw [hv104_1] at ge104_1; have HL104_1 := Aside0.mk (show Kd.R k105 105 _ _ _ _ ((rd_T32 t101 0).f1) from ge104_1); clear hv104_1 ge104_1; clear hcc104 hce104; have qi104 : (0 < t101.length) = True := eq_true (by omega); (try rw [show ((0 : Int)).toNat = 0 from rfl] at hx104_0); (try rw [show 0 * 2 = 0 from rfl] at hx104_0); (try rw [Addr.add_zero'] at hx104_0); (try rw [show ((0 : Int)).toNat = 0 from rfl] at hx104_1); (try rw [show 0 * 2 = 0 from rfl] at hx104_1); (try rw [Addr.add_zero'] at hx104_1); have HR104_1 := Aside0.mk hi104_1; have HC104_1 := Aside0.mk hl104_1; clear hi104_1 hl104_1; (try simp only [Go.IntWalk.toNatUp] at hx104_0); (try simp only [Go.IntWalk.toNatUp] at hx104_1); replace p104 := eq_true p104; replace q104 := eq_true q104; have p105 : 0 ≤ (0 : Int) := (by omega); have q105 : 0 < (t101.length : Int) := of_decide_eq_true qa; obtain ⟨ad105, A105_1, c105_1, e105, hx105_0, hx105_1, hl105_1, hi105_1⟩ := at_T32 (Kd.S_reads' HO103.out).2.2 0 p105 q105; obtain rfl : ad104 = ad105 := (by injection e105); obtain ⟨ce105, hce105, hMe105, hcc105⟩ := Kd.S_get HO103.out z32 0 p105 (by first | exact q105 | exact of_decide_eq_true qa | (have e_ := (Kd.S_reads' HO103.out).1; omega)); obtain ⟨ve105_1, rfl, ge105_1⟩ := k32_openM hMe105; have hv105_1 := hcc105 1 _ rfl; rw [add_field _ _ 1 (by omega)] at hv105_1; replace hv105_1 := Option.some.inj (hv105_1.symm.trans hx105_1); rw [hv105_1] at ge105_1; have HL105_1 := Aside0.mk (show Kd.R k105 105 _ _ _ _ ((rd_T32 t101 0).f1) from ge105_1); clear hv105_1 ge105_1; clear hcc105 hce105; have qi105 : (0 < t101.length) = True := eq_true (by omega); (try rw [show ((0 : Int)).toNat = 0 from rfl] at hx105_0); (try rw [show 0 * 2 = 0 from rfl] at hx105_0); (try rw [Addr.add_zero'] at hx105_0); (try rw [show ((0 : Int)).toNat = 0 from rfl] at hx105_1); (try rw [show 0 * 2 = 0 from rfl] at hx105_1); (try rw [Addr.add_zero'] at hx105_1); have HR105_1 := Aside0.mk hi105_1; have HC105_1 := Aside0.mk hl105_1; clear hi105_1 hl105_1; (try simp only [Go.IntWalk.toNatUp] at hx105_0); (try simp only [Go.IntWalk.toNatUp] at hx105_1); replace p105 := eq_true p105; replace q105 := eq_true q105; have ea_ := Option.some.inj (hx104_1.symm.trans hx105_1); injection ea_ with ea_ en_ ec_; subst ea_; subst ec_; clear en_; have p106 : 0 ≤ (0 : Int) := (by omega); have q106 : 0 < (t101.length : Int) := of_decide_eq_true qa; obtain ⟨ad106, A106_1, c106_1, e106, hx106_0, hx106_1, hl106_1, hi106_1⟩ := at_T32 (Kd.S_reads' HO103.out).2.2 0 p106 q106; obtain rfl : ad104 = ad106 := (by injection e106); obtain ⟨ce106, hce106, hMe106, hcc106⟩ := Kd.S_get HO103.out z32 0 p106 (by first | exact q106 | exact of_decide_eq_true qa | (have e_ := (Kd.S_reads' HO103.out).1; omega)); obtain ⟨ve106_1, rfl, ge106_1⟩ := k32_openM hMe106; have hv106_1 := hcc106 1 _ rfl; rw [add_field _ _ 1 (by omega)] at hv106_1; replace hv106_1 := Option.some.inj (hv106_1.symm.trans hx106_1); rw [hv106_1] at ge106_1; have HL106_1 := Aside0.mk (show Kd.R k105 105 _ _ _ _ ((rd_T32 t101 0).f1) from ge106_1); clear hv106_1 ge106_1; clear hcc106 hce106; have qi106 : (0 < t101.length) = True := eq_true (by omega); (try rw [show ((0 : Int)).toNat = 0 from rfl] at hx106_0); (try rw [show 0 * 2 = 0 from rfl] at hx106_0); (try rw [Addr.add_zero'] at hx106_0); (try rw [show ((0 : Int)).toNat = 0 from rfl] at hx106_1); (try rw [show 0 * 2 = 0 from rfl] at hx106_1); (try rw [Addr.add_zero'] at hx106_1); have HR106_1 := Aside0.mk hi106_1; have HC106_1 := Aside0.mk hl106_1; clear hi106_1 hl106_1; (try simp only [Go.IntWalk.toNatUp] at hx106_0); (try simp only [Go.IntWalk.toNatUp] at hx106_1); replace p106 := eq_true p106; replace q106 := eq_true q106; have ea_ := Option.some.inj (hx104_1.symm.trans hx106_1); injection ea_ with ea_ en_ ec_; subst ea_; subst ec_; clear en_) | (go_at_call 19; (with_reducible refine (sheet_Title.calls k (⟨#[97, 32, 98, 10, 10, 51, 32, 45, 52, 10, 53, 10]⟩ : ByteArray) ((rd_T32 t101 0).f0) _ _ ((rd_T32 t101 0).f1) (⟨#[51, 32, 45, 52]⟩ : ByteArray) true _ ?side1 ?side2 A6.out).mono ?_); (case side1 => exact qC (qD HR106_1.out HL106_1.out)); (case side2 => exact HC106_1.out); rintro e w28 ⟨rfl, hb⟩; replace HR104_1 := cD HR104_1 HL104_1 hb; replace HR105_1 := cD HR105_1 HL105_1 hb; replace HR106_1 := cD HR106_1 HL106_1 hb; replace HO103 := cS HO103 hb; replace HL104_1 := cR HL104_1 hb; replace HL105_1 := cR HL105_1 hb; replace HL106_1 := cR HL106_1 hb; replace HB := cB HB hb; (try clear hb); (try clear hb2); (try clear hk); (try clear hi); have p108 : 0 ≤ (0 : Int) := (by omega); have q108 : 0 < (t101.length : Int) := of_decide_eq_true qa; obtain ⟨ad108, A108_1, c108_1, e108, hx108_0, hx108_1, hl108_1, hi108_1⟩ := at_T32 (Kd.S_reads' HO103.out).2.2 0 p108 q108; obtain rfl : ad104 = ad108 := (by injection e108); obtain ⟨ce108, hce108, hMe108, hcc108⟩ := Kd.S_get HO103.out z32 0 p108 (by first | exact q108 | exact of_decide_eq_true qa | (have e_ := (Kd.S_reads' HO103.out).1; omega)); obtain ⟨ve108_1, rfl, ge108_1⟩ := k32_openM hMe108; have hv108_1 := hcc108 1 _ rfl; rw [add_field _ _ 1 (by omega)] at hv108_1; replace hv108_1 := Option.some.inj (hv108_1.symm.trans hx108_1); rw [hv108_1] at ge108_1; have HL108_1 := Aside0.mk (show Kd.R k105 105 _ _ _ _ ((rd_T32 t101 0).f1) from ge108_1); clear hv108_1 ge108_1; clear hcc108 hce108; have qi108 : (0 < t101.length) = True := eq_true (by omega); (try rw [show ((0 : Int)).toNat = 0 from rfl] at hx108_0); (try rw [show 0 * 2 = 0 from rfl] at hx108_0); (try rw [Addr.add_zero'] at hx108_0); (try rw [show ((0 : Int)).toNat = 0 from rfl] at hx108_1); (try rw [show 0 * 2 = 0 from rfl] at hx108_1); (try rw [Addr.add_zero'] at hx108_1); have HR108_1 := Aside0.mk hi108_1; have HC108_1 := Aside0.mk hl108_1; clear hi108_1 hl108_1; (try simp only [Go.IntWalk.toNatUp] at hx108_0); (try simp only [Go.IntWalk.toNatUp] at hx108_1); replace p108 := eq_true p108; replace q108 := eq_true q108) | ((with_reducible refine gate_callee (f := 28) rfl ?_); refine goesL_ (some 44) rfl rfl Tryz.func28 (by kernel_rfl) rfl #[.string (⟨#[97, 32, 98, 10, 10, 51, 32, 45, 52, 10, 53, 10]⟩ : ByteArray), .agg #[.int .i64 ((rd_T32 t101 0).f0), .slice A108_1 ((rd_T32 t101 0).f1).length c108_1], .int .i64 2] rfl qm ?_; (with_reducible refine (sheet_Ints.calls k (⟨#[97, 32, 98, 10, 10, 51, 32, 45, 52, 10, 53, 10]⟩ : ByteArray) ((rd_T32 t101 0).f0) _ _ ((rd_T32 t101 0).f1) 2 t109 t112 t113 _ ?side1 ?side2 A8.out).mono ?_); (case side1 => exact qC (qD HR108_1.out HL108_1.out)); (case side2 => exact HC108_1.out); rintro e w29 ⟨v110, rfl, ho0, hb⟩; refine ⟨_, rfl, ?_⟩; have HO111 := Aside0.mk (Kd.R_lower ho0 (below_size qb)); replace HR104_1 := cD HR104_1 HL104_1 hb; replace HR105_1 := cD HR105_1 HL105_1 hb; replace HR106_1 := cD HR106_1 HL106_1 hb; replace HR108_1 := cD HR108_1 HL108_1 hb; replace HO103 := cS HO103 hb; replace HL104_1 := cR HL104_1 hb; replace HL105_1 := cR HL105_1 hb; replace HL106_1 := cR HL106_1 hb; replace HL108_1 := cR HL108_1 hb; replace HB := cB HB hb; (try clear hb); (try clear hb2); (try clear hk); (try clear hi); (try clear ho0)) | ((with_reducible refine gate_dst (N := 4) rfl ?_); (try (refine gate_guard (by rfl) ?_; dsimp only)); refine box_ev (N := 4) (cs := #[.int .i64 0, .int .i64 0]) (t := 41) ?_; intro gb114 hg w30 hbox hb; have BK114 := Aside0.mk (hbox); have GW114 := Aside0.mk ((qg : w.heap.size ≤ gb114)); have GE114 := Aside0.mk ((qg : w.heap.size ≤ gb114)); replace HR104_1 := cD HR104_1 HL104_1 hb; replace HR105_1 := cD HR105_1 HL105_1 hb; replace HR106_1 := cD HR106_1 HL106_1 hb; replace HR108_1 := cD HR108_1 HL108_1 hb; replace HO103 := cS HO103 hb; replace HL104_1 := cR HL104_1 hb; replace HL105_1 := cR HL105_1 hb; replace HL106_1 := cR HL106_1 hb; replace HL108_1 := cR HL108_1 hb; replace HO111 := cR HO111 hb; replace HB := cB HB hb; clear hb hbox hg; have hcz31_0 : w30.cell? ⟨gb114, 0, none⟩ = some (.int .i64 0) := (blk_cell BK114.out 0).trans rfl; have hcz31_1 : w30.cell? ⟨gb114, 1, none⟩ = some (.int .i64 0) := (blk_cell BK114.out 1).trans rfl; have hfz31_0 := blk_frozen BK114.out 0; have hfz31_1 := blk_frozen BK114.out 1) | ((with_reducible refine gate_callee (f := 21) rfl ?_); refine goesL_ (some 50) rfl rfl Tryz.func21 (by kernel_rfl) rfl #[.string (⟨#[97, 32, 98, 10, 10, 51, 32, 45, 52, 10, 53, 10]⟩ : ByteArray), .slice (some ad104) t101.length co27, .int .i64 3] rfl qm ?_; (with_reducible refine (sheet_Flat.calls k (⟨#[97, 32, 98, 10, 10, 51, 32, 45, 52, 10, 53, 10]⟩ : ByteArray) _ _ t101 3 t115 t118 t119 t120 _ ?side1 ?side2 A9.out).mono ?_); (case side1 => refine (Kd.S_reads' (e := 32) (base := w.heap.size) (ok := fun k_ => True) (n := t101.length) (c := co27) ?_).2.2; exact (by refine qS ?_; exact (Kd.S_mono (Kd.S_far (p := ⟨gb114, 1, none⟩) (Kd.S_far (p := ⟨gb114, 0, none⟩) (Kd.S_types HO103.out BK114.out (by decide)) (fun _ hk => hk.2) (.int .i64 t112)) (fun _ hk => hk.2) (.int .i64 t113)) (fun _ h_ => by first | exact h_.1 | exact ⟨trivial, h_.1⟩)))); (case side2 => exact (Kd.S_reads' HO103.out).2.1); rintro e w32 ⟨v116, rfl, ho0, hb⟩; refine ⟨_, rfl, ?_⟩; have n0_ := Aside0.mk (Kd.S_below (by refine qS ?_; exact (Kd.S_mono (Kd.S_far (p := ⟨gb114, 1, none⟩) (Kd.S_far (p := ⟨gb114, 0, none⟩) (Kd.S_types HO103.out BK114.out (by decide)) (fun _ hk => hk.2) (.int .i64 t112)) (fun _ hk => hk.2) (.int .i64 t113)) (fun _ h_ => by first | exact h_.1 | exact ⟨trivial, h_.1⟩))) hb); have n1_ := Aside0.mk (Kd.R_below (by refine qR ?_; exact (Kd.R_mono (Kd.R_far (p := ⟨gb114, 1, none⟩) (Kd.R_far (p := ⟨gb114, 0, none⟩) (Kd.R_types HL104_1.out BK114.out (by decide)) (fun _ hk => hk.2) (.int .i64 t112)) (fun _ hk => hk.2) (.int .i64 t113)) (fun _ h_ => by first | exact h_.1 | exact ⟨trivial, h_.1⟩))) hb); have n2_ := Aside0.mk (Kd.R_below (by refine qR ?_; exact (Kd.R_mono (Kd.R_far (p := ⟨gb114, 1, none⟩) (Kd.R_far (p := ⟨gb114, 0, none⟩) (Kd.R_types HL105_1.out BK114.out (by decide)) (fun _ hk => hk.2) (.int .i64 t112)) (fun _ hk => hk.2) (.int .i64 t113)) (fun _ h_ => by first | exact h_.1 | exact ⟨trivial, h_.1⟩))) hb); have n3_ := Aside0.mk (Kd.R_below (by refine qR ?_; exact (Kd.R_mono (Kd.R_far (p := ⟨gb114, 1, none⟩) (Kd.R_far (p := ⟨gb114, 0, none⟩) (Kd.R_types HL106_1.out BK114.out (by decide)) (fun _ hk => hk.2) (.int .i64 t112)) (fun _ hk => hk.2) (.int .i64 t113)) (fun _ h_ => by first | exact h_.1 | exact ⟨trivial, h_.1⟩))) hb); have n4_ := Aside0.mk (Kd.R_below (by refine qR ?_; exact (Kd.R_mono (Kd.R_far (p := ⟨gb114, 1, none⟩) (Kd.R_far (p := ⟨gb114, 0, none⟩) (Kd.R_types HL108_1.out BK114.out (by decide)) (fun _ hk => hk.2) (.int .i64 t112)) (fun _ hk => hk.2) (.int .i64 t113)) (fun _ h_ => by first | exact h_.1 | exact ⟨trivial, h_.1⟩))) hb); have n5_ := Aside0.mk (Kd.R_elder' (by refine qR ?_; exact (Kd.R_mono (Kd.R_far (p := ⟨gb114, 1, none⟩) (Kd.R_far (p := ⟨gb114, 0, none⟩) (Kd.R_types HO111.out BK114.out (by decide)) (fun _ hk => hk.2) (.int .i64 t112)) (fun _ hk => hk.2) (.int .i64 t113)) (fun _ h_ => by first | exact h_.1 | exact ⟨trivial, h_.1⟩))) (Kd.R_base ho0) hb); have HO117 := Aside0.mk (Kd.R_lower (Kd.R_new' ho0 (Kd.R_lt (by refine qR ?_; exact (Kd.R_mono (Kd.R_far (p := ⟨gb114, 1, none⟩) (Kd.R_far (p := ⟨gb114, 0, none⟩) (Kd.R_types HO111.out BK114.out (by decide)) (fun _ hk => hk.2) (.int .i64 t112)) (fun _ hk => hk.2) (.int .i64 t113)) (fun _ h_ => by first | exact h_.1 | exact ⟨trivial, h_.1⟩))))) (below_size qb)); have n7_ := Aside0.mk (Kd.C_below ((Kd.R_reads' (by refine qR ?_; exact (Kd.R_mono (Kd.R_far (p := ⟨gb114, 1, none⟩) (Kd.R_far (p := ⟨gb114, 0, none⟩) (Kd.R_types HL104_1.out BK114.out (by decide)) (fun _ hk => hk.2) (.int .i64 t112)) (fun _ hk => hk.2) (.int .i64 t113)) (fun _ h_ => by first | exact h_.1 | exact ⟨trivial, h_.1⟩)))).2.2) hb); have n8_ := Aside0.mk (Kd.C_below ((Kd.R_reads' (by refine qR ?_; exact (Kd.R_mono (Kd.R_far (p := ⟨gb114, 1, none⟩) (Kd.R_far (p := ⟨gb114, 0, none⟩) (Kd.R_types HL105_1.out BK114.out (by decide)) (fun _ hk => hk.2) (.int .i64 t112)) (fun _ hk => hk.2) (.int .i64 t113)) (fun _ h_ => by first | exact h_.1 | exact ⟨trivial, h_.1⟩)))).2.2) hb); have n9_ := Aside0.mk (Kd.C_below ((Kd.R_reads' (by refine qR ?_; exact (Kd.R_mono (Kd.R_far (p := ⟨gb114, 1, none⟩) (Kd.R_far (p := ⟨gb114, 0, none⟩) (Kd.R_types HL106_1.out BK114.out (by decide)) (fun _ hk => hk.2) (.int .i64 t112)) (fun _ hk => hk.2) (.int .i64 t113)) (fun _ h_ => by first | exact h_.1 | exact ⟨trivial, h_.1⟩)))).2.2) hb); have n10_ := Aside0.mk (Kd.C_below ((Kd.R_reads' (by refine qR ?_; exact (Kd.R_mono (Kd.R_far (p := ⟨gb114, 1, none⟩) (Kd.R_far (p := ⟨gb114, 0, none⟩) (Kd.R_types HL108_1.out BK114.out (by decide)) (fun _ hk => hk.2) (.int .i64 t112)) (fun _ hk => hk.2) (.int .i64 t113)) (fun _ h_ => by first | exact h_.1 | exact ⟨trivial, h_.1⟩)))).2.2) hb); have n11_ := Aside0.mk (blk_below (g := gb114) (o := .cells #[.int .i64 t112, .int .i64 t113] 41 (0, 0)) (by refine qk ?_; refine blk_put (cs := #[.int .i64 t112, .int .i64 0]) ?_ 1 _ rfl; refine qk ?_; refine blk_put (cs := #[.int .i64 0, .int .i64 0]) ?_ 0 _ rfl; refine qk ?_; exact BK114.out) hb); replace HB := cB HB hb; replace HO103 := n0_; replace HL104_1 := n1_; replace HL105_1 := n2_; replace HL106_1 := n3_; replace HL108_1 := n4_; replace HO111 := n5_; replace HR104_1 := n7_; replace HR105_1 := n8_; replace HR106_1 := n9_; replace HR108_1 := n10_; replace BK114 := n11_; clear n0_ n1_ n2_ n3_ n4_ n5_ n7_ n8_ n9_ n10_ n11_; (try clear hb); (try clear hb2); (try clear hk); (try clear hi); (try clear ho0)) | ((with_reducible refine gate_dst (N := 7) rfl ?_); (try (refine gate_guard (by rfl) ?_; dsimp only)); refine box_ev (N := 7) (cs := #[.int .i64 0, .int .i64 0]) (t := 41) ?_; intro gb121 hg w33 hbox hb; have BK121 := Aside0.mk (hbox); have GW121 := Aside0.mk ((qg : w.heap.size ≤ gb121)); have GE121 := Aside0.mk ((qg : w.heap.size ≤ gb121)); have NB114_121 := Aside0.mk ((by rw [hg]; exact Nat.ne_of_lt (blk_lt (g := gb114) (o := .cells #[.int .i64 t112, .int .i64 t113] 41 (0, 0)) (qk BK114.out)) : gb114 ≠ gb121)); have NB121_114 := Aside0.mk ((by rw [hg]; exact Nat.ne_of_gt (blk_lt (g := gb114) (o := .cells #[.int .i64 t112, .int .i64 t113] 41 (0, 0)) (qk BK114.out)) : gb121 ≠ gb114)); replace HR104_1 := cD HR104_1 HL104_1 hb; replace HR105_1 := cD HR105_1 HL105_1 hb; replace HR106_1 := cD HR106_1 HL106_1 hb; replace HR108_1 := cD HR108_1 HL108_1 hb; replace HO103 := cS HO103 hb; replace HL104_1 := cR HL104_1 hb; replace HL105_1 := cR HL105_1 hb; replace HL106_1 := cR HL106_1 hb; replace HL108_1 := cR HL108_1 hb; replace HO111 := cR HO111 hb; replace HO117 := cR HO117 hb; replace BK114 := cK BK114 hb; replace HB := cB HB hb; clear hb hbox hg; have hnb34 := NB121_114.out; have hnc34 := NB114_121.out; have hcz35_0 : w33.cell? ⟨gb121, 0, none⟩ = some (.int .i64 0) := (blk_cell BK121.out 0).trans rfl; have hcz35_1 : w33.cell? ⟨gb121, 1, none⟩ = some (.int .i64 0) := (blk_cell BK121.out 1).trans rfl; have hfz35_0 := blk_frozen BK121.out 0; have hfz35_1 := blk_frozen BK121.out 1) | ((with_reducible refine gate_dst (N := 57) rfl ?_); (try (refine gate_guard (by rfl) ?_; dsimp only)); refine Kd.R_lit k50 _ 50 ?hg (N := 57) ?hd (xs := ([(⟨5, 0⟩ : S50), (⟨25, 1⟩ : S50)] : List (S50))) (inner := [.int .i64 5, .int .i64 0, .int .i64 25, .int .i64 1]) (ok := fun _ => True) (okp := fun _ => True) ?hr ?hp (fun _ hk => hk) trivial (Below.refl _ _) (Nat.le_refl _) (by simp) ?_; (case hd => rfl); (case hg => rfl); (case hr => first | (go_simp; done) | (go_simp; rfl)); (case hp => exact (Reps.c2 (show Kd.M k50 _ _ _ (⟨5, 0⟩ : S50) [.int .i64 5, .int .i64 0] from (k50_mkM _ _ _ (⟨5, 0⟩ : S50) )) (Reps.c2 (show Kd.M k50 _ _ _ (⟨25, 1⟩ : S50) [.int .i64 25, .int .i64 1] from (k50_mkM _ _ _ (⟨25, 1⟩ : S50) )) (Reps.none _ _)))); intro v123 w36 ho37 hb hg_ hnew_; clear hg_ hnew_; (first | rw [← Ny122.out] at ho37 | (simp only [Int.reduceToNat] at ho37; rw [← Ny122.out] at ho37)); have n0_ := Aside0.mk (Kd.S_below (by refine qS ?_; exact (Kd.S_mono (Kd.S_far (p := ⟨gb121, 1, none⟩) (Kd.S_far (p := ⟨gb121, 0, none⟩) (Kd.S_types HO103.out BK121.out (by decide)) (fun _ hk => hk.2) (.int .i64 t119)) (fun _ hk => hk.2) (.int .i64 t120)) (fun _ h_ => by first | exact h_.1 | exact ⟨trivial, h_.1⟩))) hb); have n1_ := Aside0.mk (Kd.R_below (by refine qR ?_; exact (Kd.R_mono (Kd.R_far (p := ⟨gb121, 1, none⟩) (Kd.R_far (p := ⟨gb121, 0, none⟩) (Kd.R_types HL104_1.out BK121.out (by decide)) (fun _ hk => hk.2) (.int .i64 t119)) (fun _ hk => hk.2) (.int .i64 t120)) (fun _ h_ => by first | exact h_.1 | exact ⟨trivial, h_.1⟩))) hb); have n2_ := Aside0.mk (Kd.R_below (by refine qR ?_; exact (Kd.R_mono (Kd.R_far (p := ⟨gb121, 1, none⟩) (Kd.R_far (p := ⟨gb121, 0, none⟩) (Kd.R_types HL105_1.out BK121.out (by decide)) (fun _ hk => hk.2) (.int .i64 t119)) (fun _ hk => hk.2) (.int .i64 t120)) (fun _ h_ => by first | exact h_.1 | exact ⟨trivial, h_.1⟩))) hb); have n3_ := Aside0.mk (Kd.R_below (by refine qR ?_; exact (Kd.R_mono (Kd.R_far (p := ⟨gb121, 1, none⟩) (Kd.R_far (p := ⟨gb121, 0, none⟩) (Kd.R_types HL106_1.out BK121.out (by decide)) (fun _ hk => hk.2) (.int .i64 t119)) (fun _ hk => hk.2) (.int .i64 t120)) (fun _ h_ => by first | exact h_.1 | exact ⟨trivial, h_.1⟩))) hb); have n4_ := Aside0.mk (Kd.R_below (by refine qR ?_; exact (Kd.R_mono (Kd.R_far (p := ⟨gb121, 1, none⟩) (Kd.R_far (p := ⟨gb121, 0, none⟩) (Kd.R_types HL108_1.out BK121.out (by decide)) (fun _ hk => hk.2) (.int .i64 t119)) (fun _ hk => hk.2) (.int .i64 t120)) (fun _ h_ => by first | exact h_.1 | exact ⟨trivial, h_.1⟩))) hb); have n5_ := Aside0.mk (Kd.R_below (by refine qR ?_; exact (Kd.R_mono (Kd.R_far (p := ⟨gb121, 1, none⟩) (Kd.R_far (p := ⟨gb121, 0, none⟩) (Kd.R_types HO111.out BK121.out (by decide)) (fun _ hk => hk.2) (.int .i64 t119)) (fun _ hk => hk.2) (.int .i64 t120)) (fun _ h_ => by first | exact h_.1 | exact ⟨trivial, h_.1⟩))) hb); have n6_ := Aside0.mk (Kd.R_below (by refine qR ?_; exact (Kd.R_mono (Kd.R_far (p := ⟨gb121, 1, none⟩) (Kd.R_far (p := ⟨gb121, 0, none⟩) (Kd.R_types HO117.out BK121.out (by decide)) (fun _ hk => hk.2) (.int .i64 t119)) (fun _ hk => hk.2) (.int .i64 t120)) (fun _ h_ => by first | exact h_.1 | exact ⟨trivial, h_.1⟩))) hb); have HO124 := Aside0.mk (Kd.R_lower ho37 (below_size qb)); have n8_ := Aside0.mk (Kd.C_below ((Kd.R_reads' (by refine qR ?_; exact (Kd.R_mono (Kd.R_far (p := ⟨gb121, 1, none⟩) (Kd.R_far (p := ⟨gb121, 0, none⟩) (Kd.R_types HL104_1.out BK121.out (by decide)) (fun _ hk => hk.2) (.int .i64 t119)) (fun _ hk => hk.2) (.int .i64 t120)) (fun _ h_ => by first | exact h_.1 | exact ⟨trivial, h_.1⟩)))).2.2) hb); have n9_ := Aside0.mk (Kd.C_below ((Kd.R_reads' (by refine qR ?_; exact (Kd.R_mono (Kd.R_far (p := ⟨gb121, 1, none⟩) (Kd.R_far (p := ⟨gb121, 0, none⟩) (Kd.R_types HL105_1.out BK121.out (by decide)) (fun _ hk => hk.2) (.int .i64 t119)) (fun _ hk => hk.2) (.int .i64 t120)) (fun _ h_ => by first | exact h_.1 | exact ⟨trivial, h_.1⟩)))).2.2) hb); have n10_ := Aside0.mk (Kd.C_below ((Kd.R_reads' (by refine qR ?_; exact (Kd.R_mono (Kd.R_far (p := ⟨gb121, 1, none⟩) (Kd.R_far (p := ⟨gb121, 0, none⟩) (Kd.R_types HL106_1.out BK121.out (by decide)) (fun _ hk => hk.2) (.int .i64 t119)) (fun _ hk => hk.2) (.int .i64 t120)) (fun _ h_ => by first | exact h_.1 | exact ⟨trivial, h_.1⟩)))).2.2) hb); have n11_ := Aside0.mk (Kd.C_below ((Kd.R_reads' (by refine qR ?_; exact (Kd.R_mono (Kd.R_far (p := ⟨gb121, 1, none⟩) (Kd.R_far (p := ⟨gb121, 0, none⟩) (Kd.R_types HL108_1.out BK121.out (by decide)) (fun _ hk => hk.2) (.int .i64 t119)) (fun _ hk => hk.2) (.int .i64 t120)) (fun _ h_ => by first | exact h_.1 | exact ⟨trivial, h_.1⟩)))).2.2) hb); have n12_ := Aside0.mk (blk_below (g := gb114) (o := .cells #[.int .i64 t112, .int .i64 t113] 41 (0, 0)) (by refine qk ?_; refine blk_far ?_ NB114_121.out _; refine qk ?_; refine blk_far ?_ NB114_121.out _; refine qk ?_; exact BK114.out) hb); have n13_ := Aside0.mk (blk_below (g := gb121) (o := .cells #[.int .i64 t119, .int .i64 t120] 41 (0, 0)) (by refine qk ?_; refine blk_put (cs := #[.int .i64 t119, .int .i64 0]) ?_ 1 _ rfl; refine qk ?_; refine blk_put (cs := #[.int .i64 0, .int .i64 0]) ?_ 0 _ rfl; refine qk ?_; exact BK121.out) hb); replace HB := cB HB hb; replace HO103 := n0_; replace HL104_1 := n1_; replace HL105_1 := n2_; replace HL106_1 := n3_; replace HL108_1 := n4_; replace HO111 := n5_; replace HO117 := n6_; replace HR104_1 := n8_; replace HR105_1 := n9_; replace HR106_1 := n10_; replace HR108_1 := n11_; replace BK114 := n12_; replace BK121 := n13_; clear n0_ n1_ n2_ n3_ n4_ n5_ n6_ n8_ n9_ n10_ n11_ n12_ n13_; clear hb ho37; obtain ⟨Ao38, co38, eo38⟩ := Kd.R_slice HO124.out; subst eo38) | ((with_reducible refine gate_callee (f := 24) rfl ?_); refine goesL_ (some 58) rfl rfl Tryz.func24 (by kernel_rfl) rfl #[.slice Ao38 y122.length co38] rfl qm ?_; (with_reducible refine (sheet_Common.calls k _ _ y122 t125 t126 t127 _ ?side1 ?side2 A10.out).mono ?_); (case side1 => repeat (first | exact (Kd.R_reads' HO124.out).2.2 | (with_reducible refine Kd.C_alloc ?_ _) | (with_reducible refine Kd.C_drewN ?_ _) | (with_reducible refine Kd.C_drew ?_))); (case side2 => exact (Kd.R_reads' HO124.out).2.1); rintro e w39 ⟨v128, rfl, ho0, hb⟩; refine ⟨_, rfl, ?_⟩; have n5_ := Aside0.mk (Kd.R_elder' (qR HO111.out) (Kd.R_base ho0) hb); have n6_ := Aside0.mk (Kd.R_elder' (qR HO117.out) (Kd.R_base ho0) hb); have HO129 := Aside0.mk (Kd.R_lower (Kd.R_new' (Kd.R_new' ho0 (Kd.R_lt (qR HO111.out))) (Kd.R_lt (qR HO117.out))) (below_size qb)); replace HR104_1 := cD HR104_1 HL104_1 hb; replace HR105_1 := cD HR105_1 HL105_1 hb; replace HR106_1 := cD HR106_1 HL106_1 hb; replace HR108_1 := cD HR108_1 HL108_1 hb; replace HO103 := cS HO103 hb; replace HL104_1 := cR HL104_1 hb; replace HL105_1 := cR HL105_1 hb; replace HL106_1 := cR HL106_1 hb; replace HL108_1 := cR HL108_1 hb; replace HO124 := cR HO124 hb; replace BK114 := cK BK114 hb; replace BK121 := cK BK121 hb; replace HB := cB HB hb; replace HO111 := n5_; replace HO117 := n6_; clear n5_ n6_; (try clear hb); (try clear hb2); (try clear hk); (try clear hi); (try clear ho0); obtain ⟨Ao40, co40, eo40⟩ := Kd.R_slice HO111.out; subst eo40; have p130 : 0 ≤ (1 : Int) := (by omega); have q130 : 1 < (t109.length : Int) := of_decide_eq_true qa; obtain ⟨ad130, e130, hx130_0⟩ := Kd.at_int (Kd.R_reads' HO111.out).2.2 1 p130 q130; cases e130; (try simp only [show (1 : Int).toNat = 1 from rfl, Nat.reduceMul, Nat.reduceEqDiff, Go.Addr.add, ↓reduceIte] at hx130_0); have qi130 : (1 < t109.length) = True := eq_true (by omega); (try rw [show ((1 : Int)).toNat = 1 from rfl] at hx130_0); (try simp only [Go.IntWalk.toNatUp] at hx130_0); replace p130 := eq_true p130; replace q130 := eq_true q130; have hcz41_0 : w39.cell? ⟨gb114, 0, none⟩ = some (.int .i64 t112) := (blk_cell BK114.out 0).trans rfl; have hcz41_1 : w39.cell? ⟨gb114, 1, none⟩ = some (.int .i64 t113) := (blk_cell BK114.out 1).trans rfl; have hfz41_0 := blk_frozen BK114.out 0; have hfz41_1 := blk_frozen BK114.out 1; obtain ⟨Ao42, co42, eo42⟩ := Kd.R_slice HO117.out; subst eo42; have p131 : 0 ≤ (2 : Int) := (by omega); have q131 : 2 < (t115.length : Int) := of_decide_eq_true qa; obtain ⟨ad131, e131, hx131_0⟩ := Kd.at_int (Kd.R_reads' HO117.out).2.2 2 p131 q131; cases e131; (try simp only [show (2 : Int).toNat = 2 from rfl, Nat.reduceMul, Nat.reduceEqDiff, Go.Addr.add, ↓reduceIte] at hx131_0); have qi131 : (2 < t115.length) = True := eq_true (by omega); (try rw [show ((2 : Int)).toNat = 2 from rfl] at hx131_0); (try simp only [Go.IntWalk.toNatUp] at hx131_0); replace p131 := eq_true p131; replace q131 := eq_true q131; have hcz43_0 : w39.cell? ⟨gb121, 0, none⟩ = some (.int .i64 t119) := (blk_cell BK121.out 0).trans rfl; have hcz43_1 : w39.cell? ⟨gb121, 1, none⟩ = some (.int .i64 t120) := (blk_cell BK121.out 1).trans rfl; have hfz43_0 := blk_frozen BK121.out 0; have hfz43_1 := blk_frozen BK121.out 1; obtain ⟨Ao44, co44, eo44⟩ := Kd.R_slice HO129.out; subst eo44; have p132 : 0 ≤ (0 : Int) := (by omega); have q132 : 0 < (t125.length : Int) := of_decide_eq_true qa; obtain ⟨ad132, e132, hx132_0⟩ := Kd.at_int (Kd.R_reads' HO129.out).2.2 0 p132 q132; cases e132; have qi132 : (0 < t125.length) = True := eq_true (by omega); (try rw [show ((0 : Int)).toNat = 0 from rfl] at hx132_0); (try rw [Addr.add_zero'] at hx132_0); (try simp only [Go.IntWalk.toNatUp] at hx132_0); replace p132 := eq_true p132; replace q132 := eq_true q132; have p133 : 0 ≤ (1 : Int) := (by omega); have q133 : 1 < (t125.length : Int) := of_decide_eq_true qa; obtain ⟨ad133, e133, hx133_0⟩ := Kd.at_int (Kd.R_reads' HO129.out).2.2 1 p133 q133; obtain rfl : ad132 = ad133 := (by injection e133); (try simp only [show (1 : Int).toNat = 1 from rfl, Nat.reduceMul, Nat.reduceEqDiff, Go.Addr.add, ↓reduceIte] at hx133_0); have qi133 : (1 < t125.length) = True := eq_true (by omega); (try rw [show ((1 : Int)).toNat = 1 from rfl] at hx133_0); (try simp only [Go.IntWalk.toNatUp] at hx133_0); replace p133 := eq_true p133; replace q133 := eq_true q133))
                     go_ret
                     exact ⟨qe, qb⟩
                    ·rw [if_neg c25] at H
                     exact absurd H (by simp)
                   ·rw [if_neg c24] at H
                    exact absurd H (by simp)
                  ·rw [if_neg c23] at H
                   exact absurd H (by simp)
                 ·rw [if_neg c22] at H
                  exact absurd H (by simp)
                ·rw [if_neg c21] at H
                 exact absurd H (by simp)
               ·rw [if_neg c20] at H
                exact absurd H (by simp)
              ·rw [if_neg c19] at H
               exact absurd H (by simp)
             ·rw [if_neg c18] at H
              exact absurd H (by simp)
            ·rw [if_neg c17] at H
             exact absurd H (by simp)
           ·rw [if_neg c16] at H
            exact absurd H (by simp)
          ·rw [if_neg c15] at H
           exact absurd H (by simp)
         ·rw [if_neg c14] at H
          exact absurd H (by simp)
        ·rw [if_neg c13] at H
         exact absurd H (by simp)
       ·rw [if_neg c12] at H
        exact absurd H (by simp)
      ·rw [if_neg c11] at H
       exact absurd H (by simp)
     ·replace c7 := Bool.eq_false_iff.mpr c7; subst c7; have H1 : (none) = some r := by rw [if_neg (show ¬ (false = true) by decide)] at H; exact H
      clear H; have H := H1; clear H1
      exact absurd H (by simp)
    ·rw [if_neg c5] at H
     exact absurd H (by simp)
   ·rw [if_neg c4] at H
    exact absurd H (by simp)
  ·rw [if_neg c3] at H
   exact absurd H (by simp)
 ·rw [if_neg c2] at H
  exact absurd H (by simp)

end Go.Proofs.YtadocbfchdendaaGreatDoor.P
namespace Go.Proofs.YtadocbfchdendaaGreatDoor.P
open Go.RowKit Go.Proofs.YtadocbfchdendaaGreatDoorW.PrintWords Go.Proofs.YtadocbfchdendaaGreatDoorW.PrintLast Go.Proofs.YtadocbfchdendaaGreatDoorW.PrintMore
attribute [local go_sem] max2_int min2_int max_two min_two max_three min_three max_four min_four   -- for this text's walks alone
set_option linter.unusedVariables false
set_option linter.unusedSimpArgs false
def entrepotref01_Lines.l0 : Nat → ByteArray → List (S100) → Int → Int → Option ((List (S100)))
 | 0, _, _, _, _ => none
 | k + 1, x0, x3, x4, x5 => if x5 < (x0.size : Int) then (if 0 ≤ x5 then (if (bt x0 x5) = 10 then (if x5 > x4 then (if 0 ≤ (wrap64 (x5 - 1)) then (if (wrap64 (x5 - 1)) < (x0.size : Int) then (if (bt x0 (wrap64 (x5 - 1))) = 13 then (if x3.length < 5864062014805 then (entrepotref01_Lines.l0 k x0 (x3 ++ [(⟨x4, wrap64 (x5 - 1), wrap64 (x5 + 1)⟩ : S100)]) (wrap64 (x5 + 1)) (wrap64 (x5 + 1))) else (none)) else (if x3.length < 5864062014805 then (entrepotref01_Lines.l0 k x0 (x3 ++ [(⟨x4, x5, wrap64 (x5 + 1)⟩ : S100)]) (wrap64 (x5 + 1)) (wrap64 (x5 + 1))) else (none))) else (none)) else (none)) else (if x3.length < 5864062014805 then (entrepotref01_Lines.l0 k x0 (x3 ++ [(⟨x4, x5, wrap64 (x5 + 1)⟩ : S100)]) (wrap64 (x5 + 1)) (wrap64 (x5 + 1))) else (none))) else (entrepotref01_Lines.l0 k x0 x3 x4 (wrap64 (x5 + 1)))) else (none)) else (if x4 < (x0.size : Int) then (if x3.length < 5864062014805 then (some (x3 ++ [(⟨x4, (x0.size : Int), (x0.size : Int)⟩ : S100)])) else (none)) else (some x3))
def entrepotref01_Lines.f (k : Nat) (a0 : ByteArray) : Option ((List (S100))) := entrepotref01_Lines.l0 k a0 (([] : List (S100))) 0 0
theorem entrepotref01_Lines.mono_l : ∀ k, (∀ y0 y1 y2 y3, LeO (entrepotref01_Lines.l0 k y0 y1 y2 y3) (entrepotref01_Lines.l0 (k + 1) y0 y1 y2 y3))
 | 0 => fun _ _ _ _ r h => by simp [entrepotref01_Lines.l0] at h
 | k + 1 => by
  have ih0 := entrepotref01_Lines.mono_l k
  ·intro y0 y1 y2 y3
   unfold entrepotref01_Lines.l0
   repeat' first
   | (with_reducible exact ih0 _ _ _ _)
   | (with_reducible exact LeO.refl _)
   | (with_reducible exact LeO.none _)
   | (with_reducible refine LeO.ite ?_ ?_)
   | (with_reducible refine LeO.bind ?_ (fun _ => ?_))
   | exact ih0 _ _ _ _
   | exact LeO.none _
   | refine LeO.ite ?_ ?_
   | refine LeO.bind ?_ (fun _ => ?_)
theorem entrepotref01_Lines.mono : ∀ a0 k, LeO (entrepotref01_Lines.f k a0) (entrepotref01_Lines.f (k + 1) a0) := by
 intro a0 k
 have ih0 := entrepotref01_Lines.mono_l k; unfold entrepotref01_Lines.f
 repeat' first
   | (with_reducible exact ih0 _ _ _ _)
   | (with_reducible exact LeO.refl _)
   | (with_reducible exact LeO.none _)
   | (with_reducible refine LeO.ite ?_ ?_)
   | (with_reducible refine LeO.bind ?_ (fun _ => ?_))
   | exact ih0 _ _ _ _
   | exact LeO.none _
   | refine LeO.ite ?_ ?_
   | refine LeO.bind ?_ (fun _ => ?_)
set_option maxHeartbeats 8000000 in
set_option maxRecDepth 100000 in
theorem entrepotref01_Lines.calls (k : Nat) (a0 : ByteArray) (r : List (S100)) (w : World) (h : entrepotref01_Lines.f k a0 = some r) :
  Calls Tryz.prog 91 #[.string a0] w fun e w' => ∃ v0_ : Value, e = .returned (v0_) ∧ Kd.R k100 100 w' w.heap.size (fun _ => True) v0_ r ∧ Below w.heap.size w w' := by
 have hu100 := Tryz.underlying100; have HB := Aside0.mk (Below.refl w.heap.size w); have H : (entrepotref01_Lines.l0 k a0 (([] : List (S100))) 0 0) = some r := h; clear h; obtain ⟨y101, hy101⟩ : ∃ y_ : List (S100), y_ = (([] : List (S100))) := ⟨_, rfl⟩; replace H : (entrepotref01_Lines.l0 k a0 y101 0 0) = some r := by first | (rw [hy101]; with_reducible exact H) | (have H2_ := (Option.bind_some _ _).symm.trans H; rw [hy101]; with_reducible exact H2_) | (have H2_ := (Option.bind_some _ _).symm.trans H; with_reducible exact H2_) | with_reducible exact H | (rw [hy101]; exact H) | exact H
 have Ny101 := Aside0.mk hy101; clear hy101; have H' := Aside0.mk H; clear H; go_enter Tryz.func91, Tryz.ntmps91
 go_wp2_with (first | ((with_reducible refine gate_dst (N := 7) rfl ?_); refine Kd.R_lit k100 _ 100 ?hg (N := 7) ?hd (xs := ([] : List (S100))) (inner := []) (ok := fun _ => True) (okp := fun _ => True) ?hr ?hp (fun _ hk => hk) trivial (Below.refl _ _) (Nat.le_refl _) (by simp) ?_; (case hd => rfl); (case hg => rfl); (case hr => first | (go_simp; done) | (go_simp; rfl)); (case hp => exact (Reps.none _ _)); intro v102 w2 ho3 hb hg_ hnew_; clear hg_ hnew_; (first | rw [← Ny101.out] at ho3 | (simp only [Int.reduceToNat] at ho3; rw [← Ny101.out] at ho3)); have HO103 := Aside0.mk (Kd.R_lower ho3 (below_size qb)); replace HB := cB HB hb; clear hb ho3))
 (try simp only [Act.put, List.setIfInBounds_toArray, List.set_cons_zero, List.set_cons_succ])
 go_loopg [3, 4, 5] k (fun kq v3 v4 v5 w' => ∃ (x3_1 : List (S100)) (x4_1 : Int) (x5_1 : Int), v4 = .int .i64 x4_1 ∧ v5 = .int .i64 x5_1 ∧ Aside0 (entrepotref01_Lines.l0 kq a0 x3_1 x4_1 x5_1 = some r) ∧ Aside0 (kq ≤ k) ∧ Aside0 (Kd.R k100 100 w' w.heap.size (fun _ => True) v3 x3_1) ∧ Aside0 (Below w.heap.size w w'))
 case atStart => exact ⟨(y101), (0), (0), qr, qr, H', ⟨Nat.le_refl _⟩, ⟨qR HO103.out⟩, ⟨qb⟩⟩
 case round =>
  clear H'; (try clear p2); obtain ⟨x3_1, x4_1, x5_1, rfl, rfl, HA, HK1, HO_3, HB⟩ := hrel; cases gk with
  | zero => exact absurd HA.out (by simp [entrepotref01_Lines.l0])
  | succ k1 =>
   have H := HA.out; clear HA; simp only [entrepotref01_Lines.l0] at H
   by_cases c4 : x5_1 < (a0.size : Int)
   ·rw [if_pos c4] at H; have c4b0 := decide_eq_true c4; clear c4
    by_cases c5 : 0 ≤ x5_1
    ·rw [if_pos c5] at H; have c5b0 := decide_eq_true c5; clear c5
     by_cases c7 : (bt a0 x5_1) = 10
     ·rw [if_pos c7] at H; have c7b0 := beq_iff_eq.mpr c7; have c7b1 := bne_eq_false_iff_eq.mpr c7; clear c7
      by_cases c8 : x5_1 > x4_1
      ·rw [if_pos c8] at H; have c8b0 := decide_eq_true c8; clear c8; obtain ⟨ji9, hji9⟩ : ∃ j_ : Int, (wrap64 (x5_1 - 1)) = j_ := ⟨_, rfl⟩; replace H : (if 0 ≤ (ji9) then (if (ji9) < (a0.size : Int) then (if (bt a0 (ji9)) = 13 then (if x3_1.length < 5864062014805 then (entrepotref01_Lines.l0 k1 a0 (x3_1 ++ [(⟨x4_1, ji9, wrap64 (x5_1 + 1)⟩ : S100)]) (wrap64 (x5_1 + 1)) (wrap64 (x5_1 + 1))) else (none)) else (if x3_1.length < 5864062014805 then (entrepotref01_Lines.l0 k1 a0 (x3_1 ++ [(⟨x4_1, x5_1, wrap64 (x5_1 + 1)⟩ : S100)]) (wrap64 (x5_1 + 1)) (wrap64 (x5_1 + 1))) else (none))) else (none)) else (none)) = some r := by first | (rw [hji9] at H; exact H) | (simp only [hji9] at H ⊢; exact H)
       have hji9w : (IntKind.i64.wrap (x5_1 - 1)) = ji9 := (i64_w _).trans hji9
       by_cases c10 : 0 ≤ (ji9)
       ·rw [if_pos c10] at H; have c10b0 := decide_eq_true c10; clear c10
        by_cases c11 : (ji9) < (a0.size : Int)
        ·rw [if_pos c11] at H; have c11b0 := decide_eq_true c11; clear c11
         by_cases c13 : (bt a0 (ji9)) = 13
         ·rw [if_pos c13] at H; have c13b0 := beq_iff_eq.mpr c13; have c13b1 := bne_eq_false_iff_eq.mpr c13; clear c13
          by_cases c14 : x3_1.length < 5864062014805
          ·rw [if_pos c14] at H; have LMc14 := Aside0.mk c14; clear c14; obtain ⟨y107, hy107⟩ : ∃ y_ : List (S100), y_ = (x3_1 ++ [(⟨x4_1, ji9, wrap64 (x5_1 + 1)⟩ : S100)]) := ⟨_, rfl⟩; replace H : (entrepotref01_Lines.l0 k1 a0 y107 (wrap64 (x5_1 + 1)) (wrap64 (x5_1 + 1))) = some r := by first | (rw [hy107]; with_reducible exact H) | (have H2_ := (Option.bind_some _ _).symm.trans H; rw [hy107]; with_reducible exact H2_) | (have H2_ := (Option.bind_some _ _).symm.trans H; with_reducible exact H2_) | with_reducible exact H | (rw [hy107]; exact H) | exact H
           have Ny107 := Aside0.mk hy107; clear hy107; have H' := Aside0.mk H; clear H; have p6 : 0 ≤ (x5_1 : Int) := of_decide_eq_true qa; have q6 : x5_1 < (a0.size : Int) := of_decide_eq_true qa; have hx6 := bt_at a0 x5_1; replace p6 := eq_true p6; replace q6 := eq_true q6; have p12 : 0 ≤ ((ji9) : Int) := of_decide_eq_true qa; have q12 : (ji9) < (a0.size : Int) := of_decide_eq_true qa; have hx12 := bt_at a0 (ji9); replace p12 := eq_true p12; replace q12 := eq_true q12
           go_wp2_with (first | ((with_reducible refine gate_builtin (b := .append) (xs := #[.tmp 31, .tmp 37]) rfl ?_); at_builtin; refine Kd.R_append k100 (w0 := w) w.heap.size rfl (.tmp 31) (.tmp 37) 98 100 (.agg #[(.int .i64 0), (.int .i64 0), (.int .i64 0)]) 24 rfl Tryz.underlying98 info100 rfl (by decide) (by omega) u3 x3_1 (⟨x4_1, ji9, wrap64 (x5_1 + 1)⟩ : S100) [.int .i64 x4_1, .int .i64 ji9, .int .i64 (wrap64 (x5_1 + 1))] (fun _ => True) (fun _ => False) rfl rfl ?aP (fun _ hk => hk.elim) ?aF ?aO ?aB ?aS ?aL ?_; (case aP => exact k100_mkM _ _ _ (⟨x4_1, ji9, wrap64 (x5_1 + 1)⟩ : S100)); (case aB => exact qb); (case aF => exact (fun _ _ => trivial)); (case aO => exact (qR HO_3.out)); (case aS => exact (below_size qb)); (case aL => have := LMc14.out; omega); intro v108 w15 ho hb hg hat; rw [← Ny107.out] at ho; have n0_ := Aside0.mk (hb); have HO109 := Aside0.mk (ho); replace HB := n0_; clear n0_; clear HO_3; clear ho hb hg hat))
           go_roundg k1
           case measure => have := HK1.out; omega
           case rel => exact ⟨(y107), (wrap64 (x5_1 + 1)), (wrap64 (x5_1 + 1)), qr, qr, H', ⟨by have := HK1.out; omega⟩, ⟨qR HO109.out⟩, ⟨qb⟩⟩
          ·rw [if_neg c14] at H
           exact absurd H (by simp)
         ·rw [if_neg c13] at H; have c13b0 := beq_eq_false_iff_ne.mpr c13; have c13b1 := bne_iff_ne.mpr c13
          by_cases c16 : x3_1.length < 5864062014805
          ·rw [if_pos c16] at H; have LMc16 := Aside0.mk c16; clear c16; obtain ⟨y110, hy110⟩ : ∃ y_ : List (S100), y_ = (x3_1 ++ [(⟨x4_1, x5_1, wrap64 (x5_1 + 1)⟩ : S100)]) := ⟨_, rfl⟩; replace H : (entrepotref01_Lines.l0 k1 a0 y110 (wrap64 (x5_1 + 1)) (wrap64 (x5_1 + 1))) = some r := by first | (rw [hy110]; with_reducible exact H) | (have H2_ := (Option.bind_some _ _).symm.trans H; rw [hy110]; with_reducible exact H2_) | (have H2_ := (Option.bind_some _ _).symm.trans H; with_reducible exact H2_) | with_reducible exact H | (rw [hy110]; exact H) | exact H
           have Ny110 := Aside0.mk hy110; clear hy110; have H' := Aside0.mk H; clear H; have p6 : 0 ≤ (x5_1 : Int) := of_decide_eq_true qa; have q6 : x5_1 < (a0.size : Int) := of_decide_eq_true qa; have hx6 := bt_at a0 x5_1; replace p6 := eq_true p6; replace q6 := eq_true q6; have p12 : 0 ≤ ((ji9) : Int) := of_decide_eq_true qa; have q12 : (ji9) < (a0.size : Int) := of_decide_eq_true qa; have hx12 := bt_at a0 (ji9); replace p12 := eq_true p12; replace q12 := eq_true q12
           go_wp2_with (first | ((with_reducible refine gate_builtin (b := .append) (xs := #[.tmp 31, .tmp 37]) rfl ?_); at_builtin; refine Kd.R_append k100 (w0 := w) w.heap.size rfl (.tmp 31) (.tmp 37) 98 100 (.agg #[(.int .i64 0), (.int .i64 0), (.int .i64 0)]) 24 rfl Tryz.underlying98 info100 rfl (by decide) (by omega) u3 x3_1 (⟨x4_1, x5_1, wrap64 (x5_1 + 1)⟩ : S100) [.int .i64 x4_1, .int .i64 x5_1, .int .i64 (wrap64 (x5_1 + 1))] (fun _ => True) (fun _ => False) rfl rfl ?aP (fun _ hk => hk.elim) ?aF ?aO ?aB ?aS ?aL ?_; (case aP => exact k100_mkM _ _ _ (⟨x4_1, x5_1, wrap64 (x5_1 + 1)⟩ : S100)); (case aB => exact qb); (case aF => exact (fun _ _ => trivial)); (case aO => exact (qR HO_3.out)); (case aS => exact (below_size qb)); (case aL => have := LMc16.out; omega); intro v111 w17 ho hb hg hat; rw [← Ny110.out] at ho; have n0_ := Aside0.mk (hb); have HO112 := Aside0.mk (ho); replace HB := n0_; clear n0_; clear HO_3; clear ho hb hg hat))
           go_roundg k1
           case measure => have := HK1.out; omega
           case rel => exact ⟨(y110), (wrap64 (x5_1 + 1)), (wrap64 (x5_1 + 1)), qr, qr, H', ⟨by have := HK1.out; omega⟩, ⟨qR HO112.out⟩, ⟨qb⟩⟩
          ·rw [if_neg c16] at H
           exact absurd H (by simp)
        ·rw [if_neg c11] at H
         exact absurd H (by simp)
       ·rw [if_neg c10] at H
        exact absurd H (by simp)
      ·rw [if_neg c8] at H; have c8b0 := decide_eq_false c8; clear c8
       by_cases c18 : x3_1.length < 5864062014805
       ·rw [if_pos c18] at H; have LMc18 := Aside0.mk c18; clear c18; obtain ⟨y113, hy113⟩ : ∃ y_ : List (S100), y_ = (x3_1 ++ [(⟨x4_1, x5_1, wrap64 (x5_1 + 1)⟩ : S100)]) := ⟨_, rfl⟩; replace H : (entrepotref01_Lines.l0 k1 a0 y113 (wrap64 (x5_1 + 1)) (wrap64 (x5_1 + 1))) = some r := by first | (rw [hy113]; with_reducible exact H) | (have H2_ := (Option.bind_some _ _).symm.trans H; rw [hy113]; with_reducible exact H2_) | (have H2_ := (Option.bind_some _ _).symm.trans H; with_reducible exact H2_) | with_reducible exact H | (rw [hy113]; exact H) | exact H
        have Ny113 := Aside0.mk hy113; clear hy113; have H' := Aside0.mk H; clear H; have p6 : 0 ≤ (x5_1 : Int) := of_decide_eq_true qa; have q6 : x5_1 < (a0.size : Int) := of_decide_eq_true qa; have hx6 := bt_at a0 x5_1; replace p6 := eq_true p6; replace q6 := eq_true q6
        go_wp2_with (first | ((with_reducible refine gate_builtin (b := .append) (xs := #[.tmp 31, .tmp 37]) rfl ?_); at_builtin; refine Kd.R_append k100 (w0 := w) w.heap.size rfl (.tmp 31) (.tmp 37) 98 100 (.agg #[(.int .i64 0), (.int .i64 0), (.int .i64 0)]) 24 rfl Tryz.underlying98 info100 rfl (by decide) (by omega) u3 x3_1 (⟨x4_1, x5_1, wrap64 (x5_1 + 1)⟩ : S100) [.int .i64 x4_1, .int .i64 x5_1, .int .i64 (wrap64 (x5_1 + 1))] (fun _ => True) (fun _ => False) rfl rfl ?aP (fun _ hk => hk.elim) ?aF ?aO ?aB ?aS ?aL ?_; (case aP => exact k100_mkM _ _ _ (⟨x4_1, x5_1, wrap64 (x5_1 + 1)⟩ : S100)); (case aB => exact qb); (case aF => exact (fun _ _ => trivial)); (case aO => exact (qR HO_3.out)); (case aS => exact (below_size qb)); (case aL => have := LMc18.out; omega); intro v114 w19 ho hb hg hat; rw [← Ny113.out] at ho; have n0_ := Aside0.mk (hb); have HO115 := Aside0.mk (ho); replace HB := n0_; clear n0_; clear HO_3; clear ho hb hg hat))
        go_roundg k1
        case measure => have := HK1.out; omega
        case rel => exact ⟨(y113), (wrap64 (x5_1 + 1)), (wrap64 (x5_1 + 1)), qr, qr, H', ⟨by have := HK1.out; omega⟩, ⟨qR HO115.out⟩, ⟨qb⟩⟩
       ·rw [if_neg c18] at H
        exact absurd H (by simp)
     ·rw [if_neg c7] at H; have c7b0 := beq_eq_false_iff_ne.mpr c7; have c7b1 := bne_iff_ne.mpr c7; have H' := Aside0.mk H; clear H; have p6 : 0 ≤ (x5_1 : Int) := of_decide_eq_true qa; have q6 : x5_1 < (a0.size : Int) := of_decide_eq_true qa; have hx6 := bt_at a0 x5_1; replace p6 := eq_true p6; replace q6 := eq_true q6
      go_wp2
      go_roundg k1
      case measure => have := HK1.out; omega
      case rel => exact ⟨(x3_1), (x4_1), (wrap64 (x5_1 + 1)), qr, qr, H', ⟨by have := HK1.out; omega⟩, ⟨qR HO_3.out⟩, ⟨qb⟩⟩
    ·rw [if_neg c5] at H
     exact absurd H (by simp)
   ·rw [if_neg c4] at H; have c4b0 := decide_eq_false c4; clear c4
    by_cases c20 : x4_1 < (a0.size : Int)
    ·rw [if_pos c20] at H; have c20b0 := decide_eq_true c20; clear c20
     by_cases c21 : x3_1.length < 5864062014805
     ·rw [if_pos c21] at H; have LMc21 := Aside0.mk c21; clear c21; obtain ⟨y104, hy104⟩ : ∃ y_ : List (S100), y_ = (x3_1 ++ [(⟨x4_1, (a0.size : Int), (a0.size : Int)⟩ : S100)]) := ⟨_, rfl⟩; replace H : (some y104) = some r := by first | (rw [hy104]; with_reducible exact H) | (have H2_ := (Option.bind_some _ _).symm.trans H; rw [hy104]; with_reducible exact H2_) | (have H2_ := (Option.bind_some _ _).symm.trans H; with_reducible exact H2_) | with_reducible exact H | (rw [hy104]; exact H) | exact H
      have Ny104 := Aside0.mk hy104; clear hy104; obtain rfl := Option.some.inj H
      go_wp2_with (first | ((with_reducible refine gate_builtin (b := .append) (xs := #[.tmp 45, .tmp 52]) rfl ?_); at_builtin; refine Kd.R_append k100 (w0 := w) w.heap.size rfl (.tmp 45) (.tmp 52) 98 100 (.agg #[(.int .i64 0), (.int .i64 0), (.int .i64 0)]) 24 rfl Tryz.underlying98 info100 rfl (by decide) (by omega) u3 x3_1 (⟨x4_1, (a0.size : Int), (a0.size : Int)⟩ : S100) [.int .i64 x4_1, .int .i64 (a0.size : Int), .int .i64 (a0.size : Int)] (fun _ => True) (fun _ => False) rfl rfl ?aP (fun _ hk => hk.elim) ?aF ?aO ?aB ?aS ?aL ?_; (case aP => exact k100_mkM _ _ _ (⟨x4_1, (a0.size : Int), (a0.size : Int)⟩ : S100)); (case aB => exact qb); (case aF => exact (fun _ _ => trivial)); (case aO => exact (qR HO_3.out)); (case aS => exact (below_size qb)); (case aL => have := LMc21.out; omega); intro v105 w22 ho hb hg hat; rw [← Ny104.out] at ho; have n0_ := Aside0.mk (hb); have HO106 := Aside0.mk (ho); replace HB := n0_; clear n0_; clear HO_3; clear ho hb hg hat))
      go_ret
      exact ⟨_, qe, by refine qR ?_; exact HO106.out, qb⟩
     ·rw [if_neg c21] at H
      exact absurd H (by simp)
    ·rw [if_neg c20] at H; have c20b0 := decide_eq_false c20; clear c20; obtain rfl := Option.some.inj H
     go_wp2
     go_ret
     exact ⟨_, qe, by refine qR ?_; exact HO_3.out, qb⟩

end Go.Proofs.YtadocbfchdendaaGreatDoor.P
namespace Go.Proofs.YtadocbfchdendaaGreatDoor.P
open Go.RowKit Go.Proofs.YtadocbfchdendaaGreatDoorW.PrintWords Go.Proofs.YtadocbfchdendaaGreatDoorW.PrintLast Go.Proofs.YtadocbfchdendaaGreatDoorW.PrintMore
attribute [local go_sem] max2_int min2_int max_two min_two max_three min_three max_four min_four   -- for this text's walks alone
set_option linter.unusedVariables false
set_option linter.unusedSimpArgs false
def entrepotref01_Blank.l0 : Nat → ByteArray → Int → Int → Int → Int → Option (Bool)
 | 0, _, _, _, _, _ => none
 | k + 1, x0, x5, x102000, x102001, x102002 => if x5 < x102001 then (if 0 ≤ x5 then (if x5 < (x0.size : Int) then (if (bt x0 x5) = 32 then (entrepotref01_Blank.l0 k x0 (wrap64 (x5 + 1)) x102000 x102001 x102002) else (if (bt x0 x5) = 9 then (entrepotref01_Blank.l0 k x0 (wrap64 (x5 + 1)) x102000 x102001 x102002) else (some false))) else (none)) else (none)) else (some true)
def entrepotref01_Blank.f (k : Nat) (a0 : ByteArray) (a1_0 : Int) (a1_1 : Int) (a1_2 : Int) : Option (Bool) := entrepotref01_Blank.l0 k a0 a1_0 a1_0 a1_1 a1_2
theorem entrepotref01_Blank.mono_l : ∀ k, (∀ y0 y1 y2 y3 y4, LeO (entrepotref01_Blank.l0 k y0 y1 y2 y3 y4) (entrepotref01_Blank.l0 (k + 1) y0 y1 y2 y3 y4))
 | 0 => fun _ _ _ _ _ r h => by simp [entrepotref01_Blank.l0] at h
 | k + 1 => by
  have ih0 := entrepotref01_Blank.mono_l k
  ·intro y0 y1 y2 y3 y4
   unfold entrepotref01_Blank.l0
   repeat' first
   | (with_reducible exact ih0 _ _ _ _ _)
   | (with_reducible exact LeO.refl _)
   | (with_reducible exact LeO.none _)
   | (with_reducible refine LeO.ite ?_ ?_)
   | (with_reducible refine LeO.bind ?_ (fun _ => ?_))
   | exact ih0 _ _ _ _ _
   | exact LeO.none _
   | refine LeO.ite ?_ ?_
   | refine LeO.bind ?_ (fun _ => ?_)
theorem entrepotref01_Blank.mono : ∀ a0 a1 a2 a3 k, LeO (entrepotref01_Blank.f k a0 a1 a2 a3) (entrepotref01_Blank.f (k + 1) a0 a1 a2 a3) := by
 intro a0 a1 a2 a3 k
 have ih0 := entrepotref01_Blank.mono_l k; unfold entrepotref01_Blank.f
 repeat' first
   | (with_reducible exact ih0 _ _ _ _ _)
   | (with_reducible exact LeO.refl _)
   | (with_reducible exact LeO.none _)
   | (with_reducible refine LeO.ite ?_ ?_)
   | (with_reducible refine LeO.bind ?_ (fun _ => ?_))
   | exact ih0 _ _ _ _ _
   | exact LeO.none _
   | refine LeO.ite ?_ ?_
   | refine LeO.bind ?_ (fun _ => ?_)
set_option maxHeartbeats 8000000 in
set_option maxRecDepth 100000 in
theorem entrepotref01_Blank.calls (k : Nat) (a0 : ByteArray) (a1_0 : Int) (a1_1 : Int) (a1_2 : Int) (r : Bool) (w : World) (h : entrepotref01_Blank.f k a0 a1_0 a1_1 a1_2 = some r) :
  Calls Tryz.prog 92 #[.string a0, .agg #[.int .i64 a1_0, .int .i64 a1_1, .int .i64 a1_2]] w fun e w' => e = .returned (.bool r) ∧ Below w.heap.size w w' := by
 have hu100 := Tryz.underlying100; have HB := Aside0.mk (Below.refl w.heap.size w); have H : (entrepotref01_Blank.l0 k a0 a1_0 a1_0 a1_1 a1_2) = some r := h; clear h; have H' := Aside0.mk H; clear H; go_enter Tryz.func92, Tryz.ntmps92
 go_wp2_with (first | ((with_reducible refine gate_dst (N := 3) rfl ?_); refine box_ev (N := 3) (cs := #[.int .i64 a1_0, .int .i64 a1_1, .int .i64 a1_2]) (t := 100) ?_; intro gb101 hg w3 hbox hb; have BK101 := Aside0.mk (hbox); have GW101 := Aside0.mk ((qg : w.heap.size ≤ gb101)); have GE101 := Aside0.mk ((qg : w.heap.size ≤ gb101)); replace HB := cB HB hb; clear hb hbox hg; have hcz4_0 : w3.cell? ⟨gb101, 0, none⟩ = some (.int .i64 a1_0) := (blk_cell BK101.out 0).trans rfl; have hcz4_1 : w3.cell? ⟨gb101, 1, none⟩ = some (.int .i64 a1_1) := (blk_cell BK101.out 1).trans rfl; have hcz4_2 : w3.cell? ⟨gb101, 2, none⟩ = some (.int .i64 a1_2) := (blk_cell BK101.out 2).trans rfl; have hfz4_0 := blk_frozen BK101.out 0; have hfz4_1 := blk_frozen BK101.out 1; have hfz4_2 := blk_frozen BK101.out 2))
 (try simp only [Act.put, List.setIfInBounds_toArray, List.set_cons_zero, List.set_cons_succ])
 go_loopg [5] k (fun kq v5 w' => ∃ (x5_1 : Int), v5 = .int .i64 x5_1 ∧ Aside0 (entrepotref01_Blank.l0 kq a0 x5_1 a1_0 a1_1 a1_2 = some r) ∧ Aside0 (kq ≤ k) ∧ Aside0 (w'.heap[gb101]? = some (.cells #[.int .i64 a1_0, .int .i64 a1_1, .int .i64 a1_2] 100 (0, 0))) ∧ Aside0 (Below w.heap.size w w'))
 case atStart => exact ⟨(a1_0), qr, H', ⟨Nat.le_refl _⟩, ⟨qk BK101.out⟩, ⟨qb⟩⟩
 case round =>
  clear H'; (try clear p2); (try clear hcz4_0); (try clear hcz4_1); (try clear hcz4_2); (try clear hfz4_0); (try clear hfz4_1); (try clear hfz4_2); obtain ⟨x5_1, rfl, HA, HK1, BK101, HB⟩ := hrel; cases gk with
  | zero => exact absurd HA.out (by simp [entrepotref01_Blank.l0])
  | succ k1 =>
   have H := HA.out; clear HA; simp only [entrepotref01_Blank.l0] at H
   by_cases c5 : x5_1 < a1_1
   ·rw [if_pos c5] at H; have c5b0 := decide_eq_true c5; clear c5
    by_cases c6 : 0 ≤ x5_1
    ·rw [if_pos c6] at H; have c6b0 := decide_eq_true c6; clear c6
     by_cases c7 : x5_1 < (a0.size : Int)
     ·rw [if_pos c7] at H; have c7b0 := decide_eq_true c7; clear c7
      by_cases c9 : (bt a0 x5_1) = 32
      ·rw [if_pos c9] at H; have c9b0 := beq_iff_eq.mpr c9; have c9b1 := bne_eq_false_iff_eq.mpr c9; clear c9; have H' := Aside0.mk H; clear H; obtain ⟨hcz10_0, hcz10_1, hcz10_2, hfz10_0, hfz10_1, hfz10_2⟩ := bc3 BK101.out; have p8 : 0 ≤ (x5_1 : Int) := of_decide_eq_true qa; have q8 : x5_1 < (a0.size : Int) := of_decide_eq_true qa; have hx8 := bt_at a0 x5_1; replace p8 := eq_true p8; replace q8 := eq_true q8
       go_wp2
       go_roundg k1
       case measure => have := HK1.out; omega
       case rel => exact ⟨(wrap64 (x5_1 + 1)), qr, H', ⟨by have := HK1.out; omega⟩, ⟨qk BK101.out⟩, ⟨qb⟩⟩
      ·rw [if_neg c9] at H; have c9b0 := beq_eq_false_iff_ne.mpr c9; have c9b1 := bne_iff_ne.mpr c9
       by_cases c12 : (bt a0 x5_1) = 9
       ·rw [if_pos c12] at H; have c12b0 := beq_iff_eq.mpr c12; have c12b1 := bne_eq_false_iff_eq.mpr c12; clear c12; have H' := Aside0.mk H; clear H; obtain ⟨hcz13_0, hcz13_1, hcz13_2, hfz13_0, hfz13_1, hfz13_2⟩ := bc3 BK101.out; have p8 : 0 ≤ (x5_1 : Int) := of_decide_eq_true qa; have q8 : x5_1 < (a0.size : Int) := of_decide_eq_true qa; have hx8 := bt_at a0 x5_1; replace p8 := eq_true p8; replace q8 := eq_true q8; have p11 : 0 ≤ (x5_1 : Int) := of_decide_eq_true qa; have q11 : x5_1 < (a0.size : Int) := of_decide_eq_true qa; have hx11 := bt_at a0 x5_1; replace p11 := eq_true p11; replace q11 := eq_true q11
        go_wp2
        go_roundg k1
        case measure => have := HK1.out; omega
        case rel => exact ⟨(wrap64 (x5_1 + 1)), qr, H', ⟨by have := HK1.out; omega⟩, ⟨qk BK101.out⟩, ⟨qb⟩⟩
       ·rw [if_neg c12] at H; have c12b0 := beq_eq_false_iff_ne.mpr c12; have c12b1 := bne_iff_ne.mpr c12; obtain rfl := Option.some.inj H; obtain ⟨hcz14_0, hcz14_1, hcz14_2, hfz14_0, hfz14_1, hfz14_2⟩ := bc3 BK101.out; have p8 : 0 ≤ (x5_1 : Int) := of_decide_eq_true qa; have q8 : x5_1 < (a0.size : Int) := of_decide_eq_true qa; have hx8 := bt_at a0 x5_1; replace p8 := eq_true p8; replace q8 := eq_true q8; have p11 : 0 ≤ (x5_1 : Int) := of_decide_eq_true qa; have q11 : x5_1 < (a0.size : Int) := of_decide_eq_true qa; have hx11 := bt_at a0 x5_1; replace p11 := eq_true p11; replace q11 := eq_true q11
        go_wp2
        go_ret
        exact ⟨qe, qb⟩
     ·rw [if_neg c7] at H
      exact absurd H (by simp)
    ·rw [if_neg c6] at H
     exact absurd H (by simp)
   ·rw [if_neg c5] at H; have c5b0 := decide_eq_false c5; clear c5; obtain rfl := Option.some.inj H; obtain ⟨hcz15_0, hcz15_1, hcz15_2, hfz15_0, hfz15_1, hfz15_2⟩ := bc3 BK101.out
    go_wp2
    go_ret
    exact ⟨qe, qb⟩

end Go.Proofs.YtadocbfchdendaaGreatDoor.P
namespace Go.Proofs.YtadocbfchdendaaGreatDoor.P
open Go.RowKit Go.Proofs.YtadocbfchdendaaGreatDoorW.PrintWords Go.Proofs.YtadocbfchdendaaGreatDoorW.PrintLast Go.Proofs.YtadocbfchdendaaGreatDoorW.PrintMore
attribute [local go_sem] max2_int min2_int max_two min_two max_three min_three max_four min_four   -- for this text's walks alone
set_option linter.unusedVariables false
set_option linter.unusedSimpArgs false
def entrepotref01_Rows.l0 : Nat → ByteArray → List (S100) → List (S100) → Int → Option ((List (S100)))
 | 0, _, _, _, _ => none
 | k + 1, x0, x3, x4, x5 => if x5 < (x4.length : Int) then (if 0 ≤ x5 then ((entrepotref01_Blank.f k x0 ((rd_T100 x4 x5).f0) ((rd_T100 x4 x5).f1) ((rd_T100 x4 x5).f2)).bind fun t108 => (if t108 = true then (entrepotref01_Rows.l0 k x0 x3 x4 (wrap64 (x5 + 1))) else (if x3.length < 5864062014805 then (entrepotref01_Rows.l0 k x0 (x3 ++ [(⟨(rd_T100 x4 x5).f0, (rd_T100 x4 x5).f1, (rd_T100 x4 x5).f2⟩ : S100)]) x4 (wrap64 (x5 + 1))) else (none)))) else (none)) else (some x3)
def entrepotref01_Rows.f (k : Nat) (a0 : ByteArray) : Option ((List (S100))) := (entrepotref01_Lines.f k a0).bind fun t104 => (entrepotref01_Rows.l0 k a0 (([] : List (S100))) t104 0)
theorem entrepotref01_Rows.mono_l : ∀ k, (∀ y0 y1 y2 y3, LeO (entrepotref01_Rows.l0 k y0 y1 y2 y3) (entrepotref01_Rows.l0 (k + 1) y0 y1 y2 y3))
 | 0 => fun _ _ _ _ r h => by simp [entrepotref01_Rows.l0] at h
 | k + 1 => by
  have ih0 := entrepotref01_Rows.mono_l k
  ·intro y0 y1 y2 y3
   unfold entrepotref01_Rows.l0
   repeat' first
   | (with_reducible exact ih0 _ _ _ _)
   | (with_reducible exact entrepotref01_Blank.mono _ _ _ _ _)
   | (with_reducible exact entrepotref01_Lines.mono _ _)
   | (with_reducible exact LeO.refl _)
   | (with_reducible exact LeO.none _)
   | (with_reducible refine LeO.ite ?_ ?_)
   | (with_reducible refine LeO.bind ?_ (fun _ => ?_))
   | exact ih0 _ _ _ _
   | exact entrepotref01_Blank.mono _ _ _ _ _
   | exact entrepotref01_Lines.mono _ _
   | exact LeO.none _
   | refine LeO.ite ?_ ?_
   | refine LeO.bind ?_ (fun _ => ?_)
theorem entrepotref01_Rows.mono : ∀ a0 k, LeO (entrepotref01_Rows.f k a0) (entrepotref01_Rows.f (k + 1) a0) := by
 intro a0 k
 have ih0 := entrepotref01_Rows.mono_l k; unfold entrepotref01_Rows.f
 repeat' first
   | (with_reducible exact ih0 _ _ _ _)
   | (with_reducible exact entrepotref01_Blank.mono _ _ _ _ _)
   | (with_reducible exact entrepotref01_Lines.mono _ _)
   | (with_reducible exact LeO.refl _)
   | (with_reducible exact LeO.none _)
   | (with_reducible refine LeO.ite ?_ ?_)
   | (with_reducible refine LeO.bind ?_ (fun _ => ?_))
   | exact ih0 _ _ _ _
   | exact entrepotref01_Blank.mono _ _ _ _ _
   | exact entrepotref01_Lines.mono _ _
   | exact LeO.none _
   | refine LeO.ite ?_ ?_
   | refine LeO.bind ?_ (fun _ => ?_)
set_option maxHeartbeats 8000000 in
set_option maxRecDepth 100000 in
theorem entrepotref01_Rows.calls (k : Nat) (a0 : ByteArray) (r : List (S100)) (w : World) (h : entrepotref01_Rows.f k a0 = some r) :
  Calls Tryz.prog 49 #[.string a0] w fun e w' => ∃ v0_ : Value, e = .returned (v0_) ∧ Kd.R k100 100 w' w.heap.size (fun _ => True) v0_ r ∧ Below w.heap.size w w' := by
 have hu100 := Tryz.underlying100; have HB := Aside0.mk (Below.refl w.heap.size w); have H : ((entrepotref01_Lines.f k a0).bind fun t104 => (entrepotref01_Rows.l0 k a0 (([] : List (S100))) t104 0)) = some r := h; clear h; obtain ⟨y101, hy101⟩ : ∃ y_ : List (S100), y_ = (([] : List (S100))) := ⟨_, rfl⟩; replace H : ((entrepotref01_Lines.f k a0).bind fun t104 => (entrepotref01_Rows.l0 k a0 y101 t104 0)) = some r := by first | (rw [hy101]; with_reducible exact H) | (have H2_ := (Option.bind_some _ _).symm.trans H; rw [hy101]; with_reducible exact H2_) | (have H2_ := (Option.bind_some _ _).symm.trans H; with_reducible exact H2_) | with_reducible exact H | (rw [hy101]; exact H) | exact H
 have Ny101 := Aside0.mk hy101; clear hy101; replace H := Option.bind_eq_some_iff.mp H; obtain ⟨t104, A20, H⟩ := H; (try dsimp only at H); have A2 := Aside0.mk A20; clear A20; have H' := Aside0.mk H; clear H; go_enter Tryz.func49, Tryz.ntmps49
 go_wp2_with (first | ((with_reducible refine gate_dst (N := 6) rfl ?_); refine Kd.R_lit k100 _ 100 ?hg (N := 6) ?hd (xs := ([] : List (S100))) (inner := []) (ok := fun _ => True) (okp := fun _ => True) ?hr ?hp (fun _ hk => hk) trivial (Below.refl _ _) (Nat.le_refl _) (by simp) ?_; (case hd => rfl); (case hg => rfl); (case hr => first | (go_simp; done) | (go_simp; rfl)); (case hp => exact (Reps.none _ _)); intro v102 w3 ho4 hb hg_ hnew_; clear hg_ hnew_; (first | rw [← Ny101.out] at ho4 | (simp only [Int.reduceToNat] at ho4; rw [← Ny101.out] at ho4)); have HO103 := Aside0.mk (Kd.R_lower ho4 (below_size qb)); replace HB := cB HB hb; clear hb ho4) | ((with_reducible refine gate_callee (f := 91) rfl ?_); refine goesL_ (some 8) rfl rfl Tryz.func91 (by kernel_rfl) rfl #[.string a0] rfl qm ?_; (with_reducible refine (entrepotref01_Lines.calls k a0 t104 _ A2.out).mono ?_); rintro e w5 ⟨v105, rfl, ho0, hb⟩; refine ⟨_, rfl, ?_⟩; have n0_ := Aside0.mk (Kd.R_elder' (qR HO103.out) (Kd.R_base ho0) hb); have HO106 := Aside0.mk (Kd.R_lower (Kd.R_new' ho0 (Kd.R_lt (qR HO103.out))) (below_size qb)); replace HB := cB HB hb; replace HO103 := n0_; clear n0_; (try clear hb); (try clear hb2); (try clear hk); (try clear hi); (try clear ho0)))
 (try simp only [Act.put, List.setIfInBounds_toArray, List.set_cons_zero, List.set_cons_succ])
 go_loopg [3, 5] k (fun kq v3 v5 w' => ∃ (x3_1 : List (S100)) (x5_1 : Int), v5 = .int .i64 x5_1 ∧ Aside0 (entrepotref01_Rows.l0 kq a0 x3_1 t104 x5_1 = some r) ∧ Aside0 (kq ≤ k) ∧ Aside0 (Kd.R k100 100 w' w.heap.size (fun k_ => some k_ ≠ (v105 : Value).ownBlock) v3 x3_1) ∧ Aside0 (Kd.R k100 100 w' w.heap.size (fun k_ => some k_ ≠ (v3 : Value).ownBlock) v105 t104) ∧ Aside0 (Below w.heap.size w w'))
 case atStart => exact ⟨(y101), (0), qr, H', ⟨Nat.le_refl _⟩, ⟨by refine qR ?_; exact Kd.R_mono HO103.out (fun _ hk => hk.2)⟩, ⟨by refine qR ?_; exact Kd.R_mono HO106.out (fun _ hk => hk.2)⟩, ⟨qb⟩⟩
 case round =>
  clear H'; (try clear p2); (try clear c4); obtain ⟨x3_1, x5_1, rfl, HA, HK1, HO_3, HO_4, HB⟩ := hrel; cases gk with
  | zero => exact absurd HA.out (by simp [entrepotref01_Rows.l0])
  | succ k1 =>
   have H := HA.out; clear HA; simp only [entrepotref01_Rows.l0] at H
   by_cases c6 : x5_1 < (t104.length : Int)
   ·rw [if_pos c6] at H; have c6b0 := decide_eq_true c6; clear c6
    by_cases c7 : 0 ≤ x5_1
    ·rw [if_pos c7] at H; have c7b0 := decide_eq_true c7; clear c7; replace H := Option.bind_eq_some_iff.mp H; obtain ⟨t108, A80, H⟩ := H; (try dsimp only at H); have A8 := Aside0.mk A80; clear A80
     by_cases c9 : t108 = true
     ·subst c9; have H1 : (entrepotref01_Rows.l0 k1 a0 x3_1 t104 (wrap64 (x5_1 + 1))) = some r := by rw [if_pos rfl] at H; exact H
      clear H; have H := H1; clear H1; have H' := Aside0.mk H; clear H; obtain ⟨Ao10, co10, eo10⟩ := Kd.R_slice HO_4.out; subst eo10; have p107 : 0 ≤ (x5_1 : Int) := of_decide_eq_true qa; have q107 : x5_1 < (t104.length : Int) := of_decide_eq_true qa; obtain ⟨ad107, e107, hx107_0, hx107_1, hx107_2⟩ := at_T100 (Kd.R_reads' HO_4.out).2.2 x5_1 p107 q107; cases e107; (try simp only [Go.IntWalk.toNatUp] at hx107_0); (try simp only [Go.IntWalk.toNatUp] at hx107_1); (try simp only [Go.IntWalk.toNatUp] at hx107_2); replace p107 := eq_true p107; replace q107 := eq_true q107
      go_wp2_with (first | ((with_reducible refine gate_callee (f := 92) rfl ?_); refine goesL_ (some 20) rfl rfl Tryz.func92 (by kernel_rfl) rfl #[.string a0, .agg #[.int .i64 ((rd_T100 t104 x5_1).f0), .int .i64 ((rd_T100 t104 x5_1).f1), .int .i64 ((rd_T100 t104 x5_1).f2)]] rfl qm ?_; (with_reducible refine (entrepotref01_Blank.calls k1 a0 ((rd_T100 t104 x5_1).f0) ((rd_T100 t104 x5_1).f1) ((rd_T100 t104 x5_1).f2) true _ A8.out).mono ?_); rintro e w11 ⟨rfl, hb⟩; refine ⟨_, rfl, ?_⟩; replace HO_3 := cR HO_3 hb; replace HO_4 := cR HO_4 hb; replace HB := cB HB hb; (try clear hb); (try clear hb2); (try clear hk); (try clear hi)))
      go_roundg k1
      case measure => have := HK1.out; omega
      case rel => exact ⟨(x3_1), (wrap64 (x5_1 + 1)), qr, H', ⟨by have := HK1.out; omega⟩, ⟨qR HO_3.out⟩, ⟨qR HO_4.out⟩, ⟨qb⟩⟩
     ·replace c9 := Bool.eq_false_iff.mpr c9; subst c9; have H1 : (if x3_1.length < 5864062014805 then (entrepotref01_Rows.l0 k1 a0 (x3_1 ++ [(⟨(rd_T100 t104 x5_1).f0, (rd_T100 t104 x5_1).f1, (rd_T100 t104 x5_1).f2⟩ : S100)]) t104 (wrap64 (x5_1 + 1))) else (none)) = some r := by rw [if_neg (show ¬ (false = true) by decide)] at H; exact H
      clear H; have H := H1; clear H1
      by_cases c12 : x3_1.length < 5864062014805
      ·rw [if_pos c12] at H; have LMc12 := Aside0.mk c12; clear c12; obtain ⟨y110, hy110⟩ : ∃ y_ : List (S100), y_ = (x3_1 ++ [(⟨(rd_T100 t104 x5_1).f0, (rd_T100 t104 x5_1).f1, (rd_T100 t104 x5_1).f2⟩ : S100)]) := ⟨_, rfl⟩; replace H : (entrepotref01_Rows.l0 k1 a0 y110 t104 (wrap64 (x5_1 + 1))) = some r := by first | (rw [hy110]; with_reducible exact H) | (have H2_ := (Option.bind_some _ _).symm.trans H; rw [hy110]; with_reducible exact H2_) | (have H2_ := (Option.bind_some _ _).symm.trans H; with_reducible exact H2_) | with_reducible exact H | (rw [hy110]; exact H) | exact H
       have Ny110 := Aside0.mk hy110; clear hy110; have H' := Aside0.mk H; clear H; obtain ⟨Ao13, co13, eo13⟩ := Kd.R_slice HO_4.out; subst eo13; have p107 : 0 ≤ (x5_1 : Int) := of_decide_eq_true qa; have q107 : x5_1 < (t104.length : Int) := of_decide_eq_true qa; obtain ⟨ad107, e107, hx107_0, hx107_1, hx107_2⟩ := at_T100 (Kd.R_reads' HO_4.out).2.2 x5_1 p107 q107; cases e107; (try simp only [Go.IntWalk.toNatUp] at hx107_0); (try simp only [Go.IntWalk.toNatUp] at hx107_1); (try simp only [Go.IntWalk.toNatUp] at hx107_2); replace p107 := eq_true p107; replace q107 := eq_true q107
       go_wp2_with (first | ((with_reducible refine gate_callee (f := 92) rfl ?_); refine goesL_ (some 20) rfl rfl Tryz.func92 (by kernel_rfl) rfl #[.string a0, .agg #[.int .i64 ((rd_T100 t104 x5_1).f0), .int .i64 ((rd_T100 t104 x5_1).f1), .int .i64 ((rd_T100 t104 x5_1).f2)]] rfl qm ?_; (with_reducible refine (entrepotref01_Blank.calls k1 a0 ((rd_T100 t104 x5_1).f0) ((rd_T100 t104 x5_1).f1) ((rd_T100 t104 x5_1).f2) false _ A8.out).mono ?_); rintro e w14 ⟨rfl, hb⟩; refine ⟨_, rfl, ?_⟩; replace HO_3 := cR HO_3 hb; replace HO_4 := cR HO_4 hb; replace HB := cB HB hb; (try clear hb); (try clear hb2); (try clear hk); (try clear hi); have p109 : 0 ≤ (x5_1 : Int) := of_decide_eq_true qa; have q109 : x5_1 < (t104.length : Int) := of_decide_eq_true qa; obtain ⟨ad109, e109, hx109_0, hx109_1, hx109_2⟩ := at_T100 (Kd.R_reads' HO_4.out).2.2 x5_1 p109 q109; obtain rfl : ad107 = ad109 := (by injection e109); (try simp only [Go.IntWalk.toNatUp] at hx109_0); (try simp only [Go.IntWalk.toNatUp] at hx109_1); (try simp only [Go.IntWalk.toNatUp] at hx109_2); replace p109 := eq_true p109; replace q109 := eq_true q109) | ((with_reducible refine gate_builtin (b := .append) (xs := #[.tmp 22, .tmp 27]) rfl ?_); at_builtin; refine Kd.R_append k100 (w0 := w) w.heap.size rfl (.tmp 22) (.tmp 27) 98 100 (.agg #[(.int .i64 0), (.int .i64 0), (.int .i64 0)]) 24 rfl Tryz.underlying98 info100 rfl (by decide) (by omega) u3 x3_1 (⟨(rd_T100 t104 x5_1).f0, (rd_T100 t104 x5_1).f1, (rd_T100 t104 x5_1).f2⟩ : S100) [.int .i64 ((rd_T100 t104 x5_1).f0), .int .i64 ((rd_T100 t104 x5_1).f1), .int .i64 ((rd_T100 t104 x5_1).f2)] (fun k_ => some k_ ≠ (.slice (some ad107) t104.length co13 : Value).ownBlock) (fun _ => False) rfl rfl ?aP (fun _ hk => hk.elim) ?aF ?aO ?aB ?aS ?aL ?_; (case aP => exact k100_mkM _ _ _ (⟨(rd_T100 t104 x5_1).f0, (rd_T100 t104 x5_1).f1, (rd_T100 t104 x5_1).f2⟩ : S100)); (case aB => exact qb); (case aF => exact (fun k_ hk => Kd.fresh' (Kd.R_lt (qR HO_4.out)) k_ hk)); (case aO => exact (qR HO_3.out)); (case aS => exact (below_size qb)); (case aL => have := LMc12.out; omega); intro v111 w15 ho hb hg hat; rw [← Ny110.out] at ho; have n0_ := Aside0.mk (Kd.R_after (ok := (fun _ => True)) (by refine qR ?_; exact Kd.R_mono HO_4.out (fun _ hk => ⟨trivial, hk⟩)) hg hat); have n1_ := Aside0.mk (hb); have HO112 := Aside0.mk (ho); replace HO_4 := n0_; replace HB := n1_; clear n0_ n1_; clear HO_3; clear ho hb hg hat))
       go_roundg k1
       case measure => have := HK1.out; omega
       case rel => exact ⟨(y110), (wrap64 (x5_1 + 1)), qr, H', ⟨by have := HK1.out; omega⟩, ⟨qR HO112.out⟩, ⟨by refine qR ?_; exact Kd.R_mono HO_4.out (fun _ hk => hk.2)⟩, ⟨qb⟩⟩
      ·rw [if_neg c12] at H
       exact absurd H (by simp)
    ·rw [if_neg c7] at H
     exact absurd H (by simp)
   ·rw [if_neg c6] at H; have c6b0 := decide_eq_false c6; clear c6; obtain rfl := Option.some.inj H; obtain ⟨Ao16, co16, eo16⟩ := Kd.R_slice HO_4.out; subst eo16
    go_wp2
    go_ret
    exact ⟨_, qe, by refine qR ?_; exact Kd.R_mono HO_3.out (fun _ hk => trivial), qb⟩

end Go.Proofs.YtadocbfchdendaaGreatDoor.P
namespace Go.Proofs.YtadocbfchdendaaGreatDoor.P
open Go.RowKit Go.Proofs.YtadocbfchdendaaGreatDoorW.PrintWords Go.Proofs.YtadocbfchdendaaGreatDoorW.PrintLast Go.Proofs.YtadocbfchdendaaGreatDoorW.PrintMore
attribute [local go_sem] max2_int min2_int max_two min_two max_three min_three max_four min_four   -- for this text's walks alone
set_option linter.unusedVariables false
set_option linter.unusedSimpArgs false
def entrepotref03_places.f (a0 : ByteArray) (a1 : Int) (a2 : Int) : Option (Bool) := if a1 ≥ 0 then (if a1 ≤ a2 then (some (decide (a2 ≤ (a0.size : Int)))) else (some false)) else (some false)
set_option maxHeartbeats 8000000 in
set_option maxRecDepth 100000 in
theorem entrepotref03_places.calls (a0 : ByteArray) (a1 : Int) (a2 : Int) (r : Bool) (w : World) (h : entrepotref03_places.f a0 a1 a2 = some r) :
  Calls Tryz.prog 93 #[.string a0, .int .i64 a1, .int .i64 a2] w fun e w' => e = .returned (.bool r) ∧ Drawn0 w w' := by
 have H : (if a1 ≥ 0 then (if a1 ≤ a2 then (some (decide (a2 ≤ (a0.size : Int)))) else (some false)) else (some false)) = some r := h; clear h
 by_cases c4 : a1 ≥ 0
 ·rw [if_pos c4] at H; have c4b0 := decide_eq_true c4; clear c4
  by_cases c5 : a1 ≤ a2
  ·rw [if_pos c5] at H; have c5b0 := decide_eq_true c5; clear c5; obtain rfl := Option.some.inj H; go_enter Tryz.func93, Tryz.ntmps93
   go_wp2
   go_ret
   exact ⟨qr, qd⟩
  ·rw [if_neg c5] at H; have c5b0 := decide_eq_false c5; clear c5; obtain rfl := Option.some.inj H; go_enter Tryz.func93, Tryz.ntmps93
   go_wp2
   go_ret
   exact ⟨qr, qd⟩
 ·rw [if_neg c4] at H; have c4b0 := decide_eq_false c4; clear c4; obtain rfl := Option.some.inj H; go_enter Tryz.func93, Tryz.ntmps93
  go_wp2
  go_ret
  exact ⟨qr, qd⟩

end Go.Proofs.YtadocbfchdendaaGreatDoor.P
namespace Go.Proofs.YtadocbfchdendaaGreatDoor.P
open Go.RowKit Go.Proofs.YtadocbfchdendaaGreatDoorW.PrintWords Go.Proofs.YtadocbfchdendaaGreatDoorW.PrintLast Go.Proofs.YtadocbfchdendaaGreatDoorW.PrintMore
attribute [local go_sem] max2_int min2_int max_two min_two max_three min_three max_four min_four   -- for this text's walks alone
set_option linter.unusedVariables false
set_option linter.unusedSimpArgs false
def entrepotref03_blank.f (a0 : Int) : Option (Bool) := if a0 = 32 then (some true) else (some (a0 == 9))
set_option maxHeartbeats 8000000 in
set_option maxRecDepth 100000 in
theorem entrepotref03_blank.calls (a0 : Int) (r : Bool) (w : World) (h : entrepotref03_blank.f a0 = some r) :
  Calls Tryz.prog 94 #[.int .u8 a0] w fun e w' => e = .returned (.bool r) ∧ Drawn0 w w' := by
 have H : (if a0 = 32 then (some true) else (some (a0 == 9))) = some r := h; clear h
 by_cases c2 : a0 = 32
 ·rw [if_pos c2] at H; have c2b0 := beq_iff_eq.mpr c2; have c2b1 := bne_eq_false_iff_eq.mpr c2; clear c2; obtain rfl := Option.some.inj H; go_enter Tryz.func94, Tryz.ntmps94
  go_wp2
  go_ret
  exact ⟨qr, qd⟩
 ·rw [if_neg c2] at H; have c2b0 := beq_eq_false_iff_ne.mpr c2; have c2b1 := bne_iff_ne.mpr c2; obtain rfl := Option.some.inj H; go_enter Tryz.func94, Tryz.ntmps94
  go_wp2
  go_ret
  exact ⟨qr, qd⟩

end Go.Proofs.YtadocbfchdendaaGreatDoor.P
namespace Go.Proofs.YtadocbfchdendaaGreatDoor.P
open Go.RowKit Go.Proofs.YtadocbfchdendaaGreatDoorW.PrintWords Go.Proofs.YtadocbfchdendaaGreatDoorW.PrintLast Go.Proofs.YtadocbfchdendaaGreatDoorW.PrintMore
attribute [local go_sem] max2_int min2_int max_two min_two max_three min_three max_four min_four   -- for this text's walks alone
set_option linter.unusedVariables false
set_option linter.unusedSimpArgs false
def entrepotref03_Fields.l0 : Nat → ByteArray → Int → Int → List (S104) → Int → Option ((List (S104)))
 | 0, _, _, _, _, _ => none
 | k + 1, x0, x1, x2, x7, x8 => if x8 < x2 then (if 0 ≤ x8 then (if x8 < (x0.size : Int) then ((entrepotref03_blank.f (bt x0 x8)).bind fun t105 => (if t105 = true then (entrepotref03_Fields.l0 k x0 x1 x2 x7 (wrap64 (x8 + 1))) else (if x8 > x1 then (if 0 ≤ (wrap64 (x8 - 1)) then (if (wrap64 (x8 - 1)) < (x0.size : Int) then ((entrepotref03_blank.f (bt x0 (wrap64 (x8 - 1)))).bind fun t106 => (if t106 = true then (if x7.length < 8796093022208 then (entrepotref03_Fields.l0 k x0 x1 x2 (x7 ++ [(⟨x8, wrap64 (x8 + 1)⟩ : S104)]) (wrap64 (x8 + 1))) else (none)) else (if 0 ≤ (wrap64 ((x7.length : Int) - 1)) then (if (wrap64 ((x7.length : Int) - 1)) < (x7.length : Int) then (entrepotref03_Fields.l0 k x0 x1 x2 (x7.set ((wrap64 ((x7.length : Int) - 1)) : Int).toNat (⟨(rd_T104 x7 (wrap64 ((x7.length : Int) - 1))).f0, wrap64 (x8 + 1)⟩ : S104)) (wrap64 (x8 + 1))) else (none)) else (none)))) else (none)) else (none)) else (if x7.length < 8796093022208 then (entrepotref03_Fields.l0 k x0 x1 x2 (x7 ++ [(⟨x8, wrap64 (x8 + 1)⟩ : S104)]) (wrap64 (x8 + 1))) else (none))))) else (none)) else (none)) else (some x7)
def entrepotref03_Fields.f (k : Nat) (a0 : ByteArray) (a1 : Int) (a2 : Int) : Option ((List (S104))) := (some (([] : List (S104)) : List (S104))).bind fun y101 => ((entrepotref03_places.f a0 a1 a2).bind fun t104 => (if t104 = true then (entrepotref03_Fields.l0 k a0 a1 a2 y101 a1) else (some y101)))
theorem entrepotref03_Fields.mono_l : ∀ k, (∀ y0 y1 y2 y3 y4, LeO (entrepotref03_Fields.l0 k y0 y1 y2 y3 y4) (entrepotref03_Fields.l0 (k + 1) y0 y1 y2 y3 y4))
 | 0 => fun _ _ _ _ _ r h => by simp [entrepotref03_Fields.l0] at h
 | k + 1 => by
  have ih0 := entrepotref03_Fields.mono_l k
  ·intro y0 y1 y2 y3 y4
   unfold entrepotref03_Fields.l0
   repeat' first
   | (with_reducible exact ih0 _ _ _ _ _)
   | (with_reducible exact LeO.refl _)
   | (with_reducible exact LeO.none _)
   | (with_reducible refine LeO.ite ?_ ?_)
   | (with_reducible refine LeO.bind ?_ (fun _ => ?_))
   | exact ih0 _ _ _ _ _
   | exact LeO.none _
   | refine LeO.ite ?_ ?_
   | refine LeO.bind ?_ (fun _ => ?_)
theorem entrepotref03_Fields.mono : ∀ a0 a1 a2 k, LeO (entrepotref03_Fields.f k a0 a1 a2) (entrepotref03_Fields.f (k + 1) a0 a1 a2) := by
 intro a0 a1 a2 k
 have ih0 := entrepotref03_Fields.mono_l k; unfold entrepotref03_Fields.f
 repeat' first
   | (with_reducible exact ih0 _ _ _ _ _)
   | (with_reducible exact LeO.refl _)
   | (with_reducible exact LeO.none _)
   | (with_reducible refine LeO.ite ?_ ?_)
   | (with_reducible refine LeO.bind ?_ (fun _ => ?_))
   | exact ih0 _ _ _ _ _
   | exact LeO.none _
   | refine LeO.ite ?_ ?_
   | refine LeO.bind ?_ (fun _ => ?_)
set_option maxHeartbeats 8000000 in
set_option maxRecDepth 100000 in
theorem entrepotref03_Fields.calls (k : Nat) (a0 : ByteArray) (a1 : Int) (a2 : Int) (r : List (S104)) (w : World) (h : entrepotref03_Fields.f k a0 a1 a2 = some r) :
  Calls Tryz.prog 50 #[.string a0, .int .i64 a1, .int .i64 a2] w fun e w' => ∃ v0_ : Value, e = .returned (v0_) ∧ Kd.R k104 104 w' w.heap.size (fun _ => True) v0_ r ∧ Below w.heap.size w w' := by
 have hu104 := Tryz.underlying104; have HB := Aside0.mk (Below.refl w.heap.size w); have H : ((some (([] : List (S104)) : List (S104))).bind fun y101 => ((entrepotref03_places.f a0 a1 a2).bind fun t104 => (if t104 = true then (entrepotref03_Fields.l0 k a0 a1 a2 y101 a1) else (some y101)))) = some r := h; clear h; obtain ⟨y101, hy101⟩ : ∃ y_ : List (S104), y_ = (([] : List (S104))) := ⟨_, rfl⟩; replace H : ((entrepotref03_places.f a0 a1 a2).bind fun t104 => (if t104 = true then (entrepotref03_Fields.l0 k a0 a1 a2 y101 a1) else (some y101))) = some r := by first | (rw [hy101]; with_reducible exact H) | (have H2_ := (Option.bind_some _ _).symm.trans H; rw [hy101]; with_reducible exact H2_) | (have H2_ := (Option.bind_some _ _).symm.trans H; with_reducible exact H2_) | with_reducible exact H | (rw [hy101]; exact H) | exact H
 have Ny101 := Aside0.mk hy101; clear hy101; replace H := Option.bind_eq_some_iff.mp H; obtain ⟨t104, A40, H⟩ := H; (try dsimp only at H); have A4 := Aside0.mk A40; clear A40
 by_cases c5 : t104 = true
 ·subst c5; have H1 : (entrepotref03_Fields.l0 k a0 a1 a2 y101 a1) = some r := by rw [if_pos rfl] at H; exact H
  clear H; have H := H1; clear H1; have H' := Aside0.mk H; clear H; go_enter Tryz.func50, Tryz.ntmps50
  go_wp2_with (first | ((with_reducible refine gate_dst (N := 9) rfl ?_); refine Kd.R_lit k104 _ 104 ?hg (N := 9) ?hd (xs := ([] : List (S104))) (inner := []) (ok := fun _ => True) (okp := fun _ => True) ?hr ?hp (fun _ hk => hk) trivial (Below.refl _ _) (Nat.le_refl _) (by simp) ?_; (case hd => rfl); (case hg => rfl); (case hr => first | (go_simp; done) | (go_simp; rfl)); (case hp => exact (Reps.none _ _)); intro v102 w6 ho7 hb hg_ hnew_; clear hg_ hnew_; (first | rw [← Ny101.out] at ho7 | (simp only [Int.reduceToNat] at ho7; rw [← Ny101.out] at ho7)); have HO103 := Aside0.mk (Kd.R_lower ho7 (below_size qb)); replace HB := cB HB hb; clear hb ho7) | ((with_reducible refine gate_callee (f := 93) rfl ?_); refine goesL_ (some 13) rfl rfl Tryz.func93 (by kernel_rfl) rfl #[.string a0, .int .i64 a1, .int .i64 a2] rfl qm ?_; (with_reducible refine (entrepotref03_places.calls a0 a1 a2 true _ A4.out).mono ?_); rintro e w' ⟨rfl, ⟨nd, rfl⟩⟩; refine ⟨_, rfl, ?_⟩))
  (try simp only [Act.put, List.setIfInBounds_toArray, List.set_cons_zero, List.set_cons_succ])
  go_loopg [7, 8] k (fun kq v7 v8 w' => ∃ (x7_1 : List (S104)) (x8_1 : Int), v8 = .int .i64 x8_1 ∧ Aside0 (entrepotref03_Fields.l0 kq a0 a1 a2 x7_1 x8_1 = some r) ∧ Aside0 (kq ≤ k) ∧ Aside0 (Kd.R k104 104 w' w.heap.size (fun _ => True) v7 x7_1) ∧ Aside0 (Below w.heap.size w w'))
  case atStart => exact ⟨(y101), (a1), qr, H', ⟨Nat.le_refl _⟩, ⟨qR HO103.out⟩, ⟨qb⟩⟩
  case round =>
   clear H'; (try clear p2); (try clear c5); obtain ⟨x7_1, x8_1, rfl, HA, HK1, HO_7, HB⟩ := hrel; cases gk with
   | zero => exact absurd HA.out (by simp [entrepotref03_Fields.l0])
   | succ k1 =>
    have H := HA.out; clear HA; simp only [entrepotref03_Fields.l0] at H
    by_cases c8 : x8_1 < a2
    ·rw [if_pos c8] at H; have c8b0 := decide_eq_true c8; clear c8
     by_cases c9 : 0 ≤ x8_1
     ·rw [if_pos c9] at H; have c9b0 := decide_eq_true c9; clear c9
      by_cases c10 : x8_1 < (a0.size : Int)
      ·rw [if_pos c10] at H; have c10b0 := decide_eq_true c10; clear c10; replace H := Option.bind_eq_some_iff.mp H; obtain ⟨t105, A120, H⟩ := H; (try dsimp only at H); have A12 := Aside0.mk A120; clear A120
       by_cases c13 : t105 = true
       ·subst c13; have H1 : (entrepotref03_Fields.l0 k1 a0 a1 a2 x7_1 (wrap64 (x8_1 + 1))) = some r := by rw [if_pos rfl] at H; exact H
        clear H; have H := H1; clear H1; have H' := Aside0.mk H; clear H; have p11 : 0 ≤ (x8_1 : Int) := of_decide_eq_true qa; have q11 : x8_1 < (a0.size : Int) := of_decide_eq_true qa; have hx11 := bt_at a0 x8_1; replace p11 := eq_true p11; replace q11 := eq_true q11
        go_wp2_with (first | ((with_reducible refine gate_callee (f := 94) rfl ?_); refine goesL_ (some 25) rfl rfl Tryz.func94 (by kernel_rfl) rfl #[.int .u8 (bt a0 x8_1)] rfl qm ?_; (with_reducible refine (entrepotref03_blank.calls (bt a0 x8_1) true _ A12.out).mono ?_); rintro e w' ⟨rfl, ⟨nd, rfl⟩⟩; refine ⟨_, rfl, ?_⟩))
        go_roundg k1
        case measure => have := HK1.out; omega
        case rel => exact ⟨(x7_1), (wrap64 (x8_1 + 1)), qr, H', ⟨by have := HK1.out; omega⟩, ⟨qR HO_7.out⟩, ⟨qb⟩⟩
       ·replace c13 := Bool.eq_false_iff.mpr c13; subst c13; have H1 : (if x8_1 > a1 then (if 0 ≤ (wrap64 (x8_1 - 1)) then (if (wrap64 (x8_1 - 1)) < (a0.size : Int) then ((entrepotref03_blank.f (bt a0 (wrap64 (x8_1 - 1)))).bind fun t106 => (if t106 = true then (if x7_1.length < 8796093022208 then (entrepotref03_Fields.l0 k1 a0 a1 a2 (x7_1 ++ [(⟨x8_1, wrap64 (x8_1 + 1)⟩ : S104)]) (wrap64 (x8_1 + 1))) else (none)) else (if 0 ≤ (wrap64 ((x7_1.length : Int) - 1)) then (if (wrap64 ((x7_1.length : Int) - 1)) < (x7_1.length : Int) then (entrepotref03_Fields.l0 k1 a0 a1 a2 (x7_1.set ((wrap64 ((x7_1.length : Int) - 1)) : Int).toNat (⟨(rd_T104 x7_1 (wrap64 ((x7_1.length : Int) - 1))).f0, wrap64 (x8_1 + 1)⟩ : S104)) (wrap64 (x8_1 + 1))) else (none)) else (none)))) else (none)) else (none)) else (if x7_1.length < 8796093022208 then (entrepotref03_Fields.l0 k1 a0 a1 a2 (x7_1 ++ [(⟨x8_1, wrap64 (x8_1 + 1)⟩ : S104)]) (wrap64 (x8_1 + 1))) else (none))) = some r := by rw [if_neg (show ¬ (false = true) by decide)] at H; exact H
        clear H; have H := H1; clear H1
        by_cases c14 : x8_1 > a1
        ·rw [if_pos c14] at H; have c14b0 := decide_eq_true c14; clear c14; obtain ⟨ji15, hji15⟩ : ∃ j_ : Int, (wrap64 (x8_1 - 1)) = j_ := ⟨_, rfl⟩; replace H : (if 0 ≤ (ji15) then (if (ji15) < (a0.size : Int) then ((entrepotref03_blank.f (bt a0 (ji15))).bind fun t106 => (if t106 = true then (if x7_1.length < 8796093022208 then (entrepotref03_Fields.l0 k1 a0 a1 a2 (x7_1 ++ [(⟨x8_1, wrap64 (x8_1 + 1)⟩ : S104)]) (wrap64 (x8_1 + 1))) else (none)) else (if 0 ≤ (wrap64 ((x7_1.length : Int) - 1)) then (if (wrap64 ((x7_1.length : Int) - 1)) < (x7_1.length : Int) then (entrepotref03_Fields.l0 k1 a0 a1 a2 (x7_1.set ((wrap64 ((x7_1.length : Int) - 1)) : Int).toNat (⟨(rd_T104 x7_1 (wrap64 ((x7_1.length : Int) - 1))).f0, wrap64 (x8_1 + 1)⟩ : S104)) (wrap64 (x8_1 + 1))) else (none)) else (none)))) else (none)) else (none)) = some r := by first | (rw [hji15] at H; exact H) | (simp only [hji15] at H ⊢; exact H)
         (try rw [hji15] at A12); have hji15w : (IntKind.i64.wrap (x8_1 - 1)) = ji15 := (i64_w _).trans hji15
         by_cases c16 : 0 ≤ (ji15)
         ·rw [if_pos c16] at H; have c16b0 := decide_eq_true c16; clear c16
          by_cases c17 : (ji15) < (a0.size : Int)
          ·rw [if_pos c17] at H; have c17b0 := decide_eq_true c17; clear c17; replace H := Option.bind_eq_some_iff.mp H; obtain ⟨t106, A190, H⟩ := H; (try dsimp only at H); have A19 := Aside0.mk A190; clear A190
           by_cases c20 : t106 = true
           ·subst c20; have H1 : (if x7_1.length < 8796093022208 then (entrepotref03_Fields.l0 k1 a0 a1 a2 (x7_1 ++ [(⟨x8_1, wrap64 (x8_1 + 1)⟩ : S104)]) (wrap64 (x8_1 + 1))) else (none)) = some r := by rw [if_pos rfl] at H; exact H
            clear H; have H := H1; clear H1
            by_cases c21 : x7_1.length < 8796093022208
            ·rw [if_pos c21] at H; have LMc21 := Aside0.mk c21; clear c21; obtain ⟨y107, hy107⟩ : ∃ y_ : List (S104), y_ = (x7_1 ++ [(⟨x8_1, wrap64 (x8_1 + 1)⟩ : S104)]) := ⟨_, rfl⟩; replace H : (entrepotref03_Fields.l0 k1 a0 a1 a2 y107 (wrap64 (x8_1 + 1))) = some r := by first | (rw [hy107]; with_reducible exact H) | (have H2_ := (Option.bind_some _ _).symm.trans H; rw [hy107]; with_reducible exact H2_) | (have H2_ := (Option.bind_some _ _).symm.trans H; with_reducible exact H2_) | with_reducible exact H | (rw [hy107]; exact H) | exact H
             have Ny107 := Aside0.mk hy107; clear hy107; have H' := Aside0.mk H; clear H; have p11 : 0 ≤ (x8_1 : Int) := of_decide_eq_true qa; have q11 : x8_1 < (a0.size : Int) := of_decide_eq_true qa; have hx11 := bt_at a0 x8_1; replace p11 := eq_true p11; replace q11 := eq_true q11
             go_wp2_with (first | ((with_reducible refine gate_callee (f := 94) rfl ?_); refine goesL_ (some 25) rfl rfl Tryz.func94 (by kernel_rfl) rfl #[.int .u8 (bt a0 x8_1)] rfl qm ?_; (with_reducible refine (entrepotref03_blank.calls (bt a0 x8_1) false _ A12.out).mono ?_); rintro e w' ⟨rfl, ⟨nd, rfl⟩⟩; refine ⟨_, rfl, ?_⟩; have p18 : 0 ≤ ((ji15) : Int) := of_decide_eq_true qa; have q18 : (ji15) < (a0.size : Int) := of_decide_eq_true qa; have hx18 := bt_at a0 (ji15); replace p18 := eq_true p18; replace q18 := eq_true q18) | (go_at_call 94; (with_reducible refine (entrepotref03_blank.calls (bt a0 (ji15)) true _ A19.out).mono ?_); rintro e w' ⟨rfl, ⟨nd, rfl⟩⟩) | ((with_reducible refine gate_builtin (b := .append) (xs := #[.tmp 45, .tmp 50]) rfl ?_); at_builtin; refine Kd.R_append k104 (w0 := w) w.heap.size rfl (.tmp 45) (.tmp 50) 34 104 (.agg #[(.int .i64 0), (.int .i64 0)]) 16 rfl Tryz.underlying34 info104 rfl (by decide) (by omega) u7 x7_1 (⟨x8_1, wrap64 (x8_1 + 1)⟩ : S104) [.int .i64 x8_1, .int .i64 (wrap64 (x8_1 + 1))] (fun _ => True) (fun _ => False) rfl rfl ?aP (fun _ hk => hk.elim) ?aF ?aO ?aB ?aS ?aL ?_; (case aP => exact k104_mkM _ _ _ (⟨x8_1, wrap64 (x8_1 + 1)⟩ : S104)); (case aB => exact qb); (case aF => exact (fun _ _ => trivial)); (case aO => exact (qR HO_7.out)); (case aS => exact (below_size qb)); (case aL => have := LMc21.out; omega); intro v108 w22 ho hb hg hat; rw [← Ny107.out] at ho; have n0_ := Aside0.mk (hb); have HO109 := Aside0.mk (ho); replace HB := n0_; clear n0_; clear HO_7; clear ho hb hg hat))
             go_roundg k1
             case measure => have := HK1.out; omega
             case rel => exact ⟨(y107), (wrap64 (x8_1 + 1)), qr, H', ⟨by have := HK1.out; omega⟩, ⟨qR HO109.out⟩, ⟨qb⟩⟩
            ·rw [if_neg c21] at H
             exact absurd H (by simp)
           ·replace c20 := Bool.eq_false_iff.mpr c20; subst c20; have H1 : (if 0 ≤ (wrap64 ((x7_1.length : Int) - 1)) then (if (wrap64 ((x7_1.length : Int) - 1)) < (x7_1.length : Int) then (entrepotref03_Fields.l0 k1 a0 a1 a2 (x7_1.set ((wrap64 ((x7_1.length : Int) - 1)) : Int).toNat (⟨(rd_T104 x7_1 (wrap64 ((x7_1.length : Int) - 1))).f0, wrap64 (x8_1 + 1)⟩ : S104)) (wrap64 (x8_1 + 1))) else (none)) else (none)) = some r := by rw [if_neg (show ¬ (false = true) by decide)] at H; exact H
            clear H; have H := H1; clear H1; obtain ⟨ji23, hji23⟩ : ∃ j_ : Int, (wrap64 ((x7_1.length : Int) - 1)) = j_ := ⟨_, rfl⟩; replace H : (if 0 ≤ (ji23) then (if (ji23) < (x7_1.length : Int) then (entrepotref03_Fields.l0 k1 a0 a1 a2 (x7_1.set ((ji23) : Int).toNat (⟨(rd_T104 x7_1 (ji23)).f0, wrap64 (x8_1 + 1)⟩ : S104)) (wrap64 (x8_1 + 1))) else (none)) else (none)) = some r := by first | (rw [hji23] at H; exact H) | (simp only [hji23] at H ⊢; exact H)
            (try rw [hji23] at A12); (try rw [hji23] at A19); have hji23w : (IntKind.i64.wrap ((x7_1.length : Int) - 1)) = ji23 := (i64_w _).trans hji23
            by_cases c24 : 0 ≤ (ji23)
            ·rw [if_pos c24] at H; have c24b0 := decide_eq_true c24; clear c24
             by_cases c25 : (ji23) < (x7_1.length : Int)
             ·rw [if_pos c25] at H; have c25b0 := decide_eq_true c25; clear c25; obtain ⟨y110, hy110⟩ : ∃ y_ : List (S104), y_ = (x7_1.set ((ji23) : Int).toNat (⟨(rd_T104 x7_1 (ji23)).f0, wrap64 (x8_1 + 1)⟩ : S104)) := ⟨_, rfl⟩; replace H : (entrepotref03_Fields.l0 k1 a0 a1 a2 y110 (wrap64 (x8_1 + 1))) = some r := by first | (rw [hy110]; with_reducible exact H) | (have H2_ := (Option.bind_some _ _).symm.trans H; rw [hy110]; with_reducible exact H2_) | (have H2_ := (Option.bind_some _ _).symm.trans H; with_reducible exact H2_) | with_reducible exact H | (rw [hy110]; exact H) | exact H
              have Ny110 := Aside0.mk hy110; clear hy110; have H' := Aside0.mk H; clear H; have p11 : 0 ≤ (x8_1 : Int) := of_decide_eq_true qa; have q11 : x8_1 < (a0.size : Int) := of_decide_eq_true qa; have hx11 := bt_at a0 x8_1; replace p11 := eq_true p11; replace q11 := eq_true q11
              go_wp2_with (first | ((with_reducible refine gate_callee (f := 94) rfl ?_); refine goesL_ (some 25) rfl rfl Tryz.func94 (by kernel_rfl) rfl #[.int .u8 (bt a0 x8_1)] rfl qm ?_; (with_reducible refine (entrepotref03_blank.calls (bt a0 x8_1) false _ A12.out).mono ?_); rintro e w' ⟨rfl, ⟨nd, rfl⟩⟩; refine ⟨_, rfl, ?_⟩; (try (rw [drewN_self wr]; generalize hq_ : World.drewN wr _ = wr; have n0_ : Aside0 (Kd.R k104 104 wr w.heap.size (fun _ => True) u7 x7_1) := ⟨by rw [← hq_]; exact (qR HO_7.out)⟩; have n1_ : Aside0 (Below w.heap.size w wr) := ⟨by rw [← hq_]; exact qb⟩; clear HO_7 HB hq_; have HO_7 := n0_; have HB := n1_; clear n0_ n1_)); have p18 : 0 ≤ ((ji15) : Int) := of_decide_eq_true qa; have q18 : (ji15) < (a0.size : Int) := of_decide_eq_true qa; have hx18 := bt_at a0 (ji15); replace p18 := eq_true p18; replace q18 := eq_true q18) | (go_at_call 94; (with_reducible refine (entrepotref03_blank.calls (bt a0 (ji15)) false _ A19.out).mono ?_); rintro e w' ⟨rfl, ⟨nd, rfl⟩⟩; (try (rw [drewN_self wr]; generalize hq_ : World.drewN wr _ = wr; have n0_ : Aside0 (Kd.R k104 104 wr w.heap.size (fun _ => True) u7 x7_1) := ⟨by rw [← hq_]; exact (qR HO_7.out)⟩; have n1_ : Aside0 (Below w.heap.size w wr) := ⟨by rw [← hq_]; exact qb⟩; clear HO_7 HB hq_; have HO_7 := n0_; have HB := n1_; clear n0_ n1_)); obtain ⟨Ao27, co27, eo27⟩ := Kd.R_slice HO_7.out; subst eo27; have p26 : 0 ≤ ((ji23) : Int) := of_decide_eq_true qa; have q26 : ((ji23) : Int) < ((x7_1.length : Int) : Int) := of_decide_eq_true qa; obtain ⟨go26, co26, eo26, gb26, gl26, cl26, HG26⟩ := Kd.R_form HO_7.out (by omega); (first | cases eo26 | (injection eo26 with ea_ en_ ec_; (first | subst ea_ | (injection ea_ with ea_; subst ea_)); subst ec_; clear en_)); have GB26 := Aside0.mk gb26; have GG26 := Aside0.mk HG26; clear gb26 gl26 HG26; obtain ⟨ce26, hcl26, hM26, hcc26, hfr26⟩ := Kd.R_elem HO_7.out z104 ((ji23) : Int) p26 q26; obtain rfl := k104_openM hM26; have hx26_0 : wr.cell? ⟨go26, ((ji23) : Int).toNat * 2, none⟩ = some (.int .i64 ((rd_T104 x7_1 (ji23)).f0)) := hcc26 0 _ rfl; have hx26_1 : wr.cell? ⟨go26, ((ji23) : Int).toNat * 2 + 1, none⟩ = some (.int .i64 ((rd_T104 x7_1 (ji23)).f1)) := hcc26 1 _ rfl; have hf26_0 : wr.frozen? ⟨go26, ((ji23) : Int).toNat * 2, none⟩ = false := hfr26 0; have hf26_1 : wr.frozen? ⟨go26, ((ji23) : Int).toNat * 2 + 1, none⟩ = false := hfr26 1; clear hcl26 hcc26 hfr26 hM26; replace p26 := eq_true p26; replace q26 := eq_true q26; have HX28 := Aside0.mk (show Kd.R k104 104 wr w.heap.size (fun _ => True) (.slice (some ⟨go26, 0, none⟩) x7_1.length co27) x7_1 from (qR HO_7.out)); obtain ⟨ce28, hcl28, hM28, hcc28, hfr28⟩ := Kd.R_elem HX28.out z104 ((ji23) : Int) (of_decide_eq_true qa) (by have h_ : ((ji23) : Int) < ((x7_1.length : Int) : Int) := of_decide_eq_true qa; first | exact h_ | (have e_ := (Kd.R_reads' HO_7.out).1; omega) | simpa using h_); obtain rfl := k104_openM hM28; have HP28 := Kd.R_seg HX28.out ((ji23) : Int) (of_decide_eq_true qa) (by have h_ : ((ji23) : Int) < ((x7_1.length : Int) : Int) := of_decide_eq_true qa; first | exact h_ | (have e_ := (Kd.R_reads' HO_7.out).1; omega) | simpa using h_) (seg := [.int .i64 (wrap64 (x8_1 + 1))]) (j := 1) hcl28 hcc28 (show 2 ≤ 2 from by decide) (x' := (⟨(rd_T104 x7_1 (ji23)).f0, wrap64 (x8_1 + 1)⟩ : S104)) (k104_mkM _ _ _ (⟨(rd_T104 x7_1 (ji23)).f0, wrap64 (x8_1 + 1)⟩ : S104) ) (fun _ hk => hk); have hx28_1 := hcc28 1 _ rfl; (try simp only [show (k104).sz = 2 from rfl, Nat.mul_one, Nat.add_zero] at hx28_1); have hf28_1 := hfr28 1; (try simp only [show (k104).sz = 2 from rfl, Nat.mul_one, Nat.add_zero] at hf28_1); clear hcl28 hcc28 hfr28 hM28) | ((with_reducible refine gate_store (t := 3) (p := 44) rfl ?_); refine store_ev (t := 3) (p := 44) (w1 := (wr.setCell ⟨go26, ((ji23) : Int).toNat * 2 + 1, none⟩ (.int .i64 (wrap64 (x8_1 + 1))))) ?_; intro w29 hw; have hg : wr.grownBy w29 (some go26) := (by rw [hw]; exact HP28.2); have hp_ : Kd.R k104 104 w29 w.heap.size (fun _ => True) (.slice (some ⟨go26, 0, none⟩) x7_1.length co27) y110 := (by rw [hw, Ny110.out]; exact HP28.1); clear HP28; have n0_ := Aside0.mk (hp_); have n1_ := Aside0.mk ((by rw [hw]; exact below_set (HB.out) GB26.out : Below w.heap.size w w29)); replace HO_7 := n0_; replace HB := n1_; clear n0_ n1_; clear hg hw hp_))
              go_roundg k1
              case measure => have := HK1.out; omega
              case rel => exact ⟨(y110), (wrap64 (x8_1 + 1)), qr, H', ⟨by have := HK1.out; omega⟩, ⟨qR HO_7.out⟩, ⟨qb⟩⟩
             ·rw [if_neg c25] at H
              exact absurd H (by simp)
            ·rw [if_neg c24] at H
             exact absurd H (by simp)
          ·rw [if_neg c17] at H
           exact absurd H (by simp)
         ·rw [if_neg c16] at H
          exact absurd H (by simp)
        ·rw [if_neg c14] at H; have c14b0 := decide_eq_false c14; clear c14
         by_cases c30 : x7_1.length < 8796093022208
         ·rw [if_pos c30] at H; have LMc30 := Aside0.mk c30; clear c30; obtain ⟨y111, hy111⟩ : ∃ y_ : List (S104), y_ = (x7_1 ++ [(⟨x8_1, wrap64 (x8_1 + 1)⟩ : S104)]) := ⟨_, rfl⟩; replace H : (entrepotref03_Fields.l0 k1 a0 a1 a2 y111 (wrap64 (x8_1 + 1))) = some r := by first | (rw [hy111]; with_reducible exact H) | (have H2_ := (Option.bind_some _ _).symm.trans H; rw [hy111]; with_reducible exact H2_) | (have H2_ := (Option.bind_some _ _).symm.trans H; with_reducible exact H2_) | with_reducible exact H | (rw [hy111]; exact H) | exact H
          have Ny111 := Aside0.mk hy111; clear hy111; have H' := Aside0.mk H; clear H; have p11 : 0 ≤ (x8_1 : Int) := of_decide_eq_true qa; have q11 : x8_1 < (a0.size : Int) := of_decide_eq_true qa; have hx11 := bt_at a0 x8_1; replace p11 := eq_true p11; replace q11 := eq_true q11
          go_wp2_with (first | ((with_reducible refine gate_callee (f := 94) rfl ?_); refine goesL_ (some 25) rfl rfl Tryz.func94 (by kernel_rfl) rfl #[.int .u8 (bt a0 x8_1)] rfl qm ?_; (with_reducible refine (entrepotref03_blank.calls (bt a0 x8_1) false _ A12.out).mono ?_); rintro e w' ⟨rfl, ⟨nd, rfl⟩⟩; refine ⟨_, rfl, ?_⟩) | ((with_reducible refine gate_builtin (b := .append) (xs := #[.tmp 45, .tmp 50]) rfl ?_); at_builtin; refine Kd.R_append k104 (w0 := w) w.heap.size rfl (.tmp 45) (.tmp 50) 34 104 (.agg #[(.int .i64 0), (.int .i64 0)]) 16 rfl Tryz.underlying34 info104 rfl (by decide) (by omega) u7 x7_1 (⟨x8_1, wrap64 (x8_1 + 1)⟩ : S104) [.int .i64 x8_1, .int .i64 (wrap64 (x8_1 + 1))] (fun _ => True) (fun _ => False) rfl rfl ?aP (fun _ hk => hk.elim) ?aF ?aO ?aB ?aS ?aL ?_; (case aP => exact k104_mkM _ _ _ (⟨x8_1, wrap64 (x8_1 + 1)⟩ : S104)); (case aB => exact qb); (case aF => exact (fun _ _ => trivial)); (case aO => exact (qR HO_7.out)); (case aS => exact (below_size qb)); (case aL => have := LMc30.out; omega); intro v112 w31 ho hb hg hat; rw [← Ny111.out] at ho; have n0_ := Aside0.mk (hb); have HO113 := Aside0.mk (ho); replace HB := n0_; clear n0_; clear HO_7; clear ho hb hg hat))
          go_roundg k1
          case measure => have := HK1.out; omega
          case rel => exact ⟨(y111), (wrap64 (x8_1 + 1)), qr, H', ⟨by have := HK1.out; omega⟩, ⟨qR HO113.out⟩, ⟨qb⟩⟩
         ·rw [if_neg c30] at H
          exact absurd H (by simp)
      ·rw [if_neg c10] at H
       exact absurd H (by simp)
     ·rw [if_neg c9] at H
      exact absurd H (by simp)
    ·rw [if_neg c8] at H; have c8b0 := decide_eq_false c8; clear c8; obtain rfl := Option.some.inj H
     go_wp2
     go_ret
     exact ⟨_, qe, by refine qR ?_; exact HO_7.out, qb⟩
 ·replace c5 := Bool.eq_false_iff.mpr c5; subst c5; have H1 : (some y101) = some r := by rw [if_neg (show ¬ (false = true) by decide)] at H; exact H
  clear H; have H := H1; clear H1; obtain rfl := Option.some.inj H; go_enter Tryz.func50, Tryz.ntmps50
  go_wp2_with (first | ((with_reducible refine gate_dst (N := 9) rfl ?_); refine Kd.R_lit k104 _ 104 ?hg (N := 9) ?hd (xs := ([] : List (S104))) (inner := []) (ok := fun _ => True) (okp := fun _ => True) ?hr ?hp (fun _ hk => hk) trivial (Below.refl _ _) (Nat.le_refl _) (by simp) ?_; (case hd => rfl); (case hg => rfl); (case hr => first | (go_simp; done) | (go_simp; rfl)); (case hp => exact (Reps.none _ _)); intro v102 w32 ho33 hb hg_ hnew_; clear hg_ hnew_; (first | rw [← Ny101.out] at ho33 | (simp only [Int.reduceToNat] at ho33; rw [← Ny101.out] at ho33)); have HO103 := Aside0.mk (Kd.R_lower ho33 (below_size qb)); replace HB := cB HB hb; clear hb ho33) | ((with_reducible refine gate_callee (f := 93) rfl ?_); refine goesL_ (some 13) rfl rfl Tryz.func93 (by kernel_rfl) rfl #[.string a0, .int .i64 a1, .int .i64 a2] rfl qm ?_; (with_reducible refine (entrepotref03_places.calls a0 a1 a2 false _ A4.out).mono ?_); rintro e w' ⟨rfl, ⟨nd, rfl⟩⟩; refine ⟨_, rfl, ?_⟩))
  go_ret
  exact ⟨_, qe, by refine qR ?_; exact HO103.out, qb⟩

end Go.Proofs.YtadocbfchdendaaGreatDoor.P
namespace Go.Proofs.YtadocbfchdendaaGreatDoor.P
open Go.RowKit Go.Proofs.YtadocbfchdendaaGreatDoorW.PrintWords Go.Proofs.YtadocbfchdendaaGreatDoorW.PrintLast Go.Proofs.YtadocbfchdendaaGreatDoorW.PrintMore
attribute [local go_sem] max2_int min2_int max_two min_two max_three min_three max_four min_four   -- for this text's walks alone
set_option linter.unusedVariables false
set_option linter.unusedSimpArgs false
def entrepotref13_Rows.l0 : Nat → ByteArray → Int → List (S36) → List (S100) → Int → Option ((List (S36)))
 | 0, _, _, _, _, _ => none
 | k + 1, x0, x1, x5, x6, x7 => if x7 < (x6.length : Int) then (if 0 ≤ x7 then (if ((rd_T100 x6 x7).f0) ≥ x1 then ((entrepotref03_Fields.f k x0 ((rd_T100 x6 x7).f0) ((rd_T100 x6 x7).f1)).bind fun t111 => (if x5.length < 4398046511104 then (entrepotref13_Rows.l0 k x0 x1 (x5 ++ [(⟨(rd_T100 x6 x7).f0, t111⟩ : S36)]) x6 (wrap64 (x7 + 1))) else (none))) else (entrepotref13_Rows.l0 k x0 x1 x5 x6 (wrap64 (x7 + 1)))) else (none)) else (some x5)
def entrepotref13_Rows.f (k : Nat) (a0 : ByteArray) (a1 : Int) : Option ((List (S36))) := (entrepotref01_Rows.f k a0).bind fun t104 => (entrepotref13_Rows.l0 k a0 a1 (([] : List (S36))) t104 0)
theorem entrepotref13_Rows.mono_l : ∀ k, (∀ y0 y1 y2 y3 y4, LeO (entrepotref13_Rows.l0 k y0 y1 y2 y3 y4) (entrepotref13_Rows.l0 (k + 1) y0 y1 y2 y3 y4))
 | 0 => fun _ _ _ _ _ r h => by simp [entrepotref13_Rows.l0] at h
 | k + 1 => by
  have ih0 := entrepotref13_Rows.mono_l k
  ·intro y0 y1 y2 y3 y4
   unfold entrepotref13_Rows.l0
   repeat' first
   | (with_reducible exact ih0 _ _ _ _ _)
   | (with_reducible exact entrepotref01_Rows.mono _ _)
   | (with_reducible exact entrepotref03_Fields.mono _ _ _ _)
   | (with_reducible exact LeO.refl _)
   | (with_reducible exact LeO.none _)
   | (with_reducible refine LeO.ite ?_ ?_)
   | (with_reducible refine LeO.bind ?_ (fun _ => ?_))
   | exact ih0 _ _ _ _ _
   | exact entrepotref01_Rows.mono _ _
   | exact entrepotref03_Fields.mono _ _ _ _
   | exact LeO.none _
   | refine LeO.ite ?_ ?_
   | refine LeO.bind ?_ (fun _ => ?_)
theorem entrepotref13_Rows.mono : ∀ a0 a1 k, LeO (entrepotref13_Rows.f k a0 a1) (entrepotref13_Rows.f (k + 1) a0 a1) := by
 intro a0 a1 k
 have ih0 := entrepotref13_Rows.mono_l k; unfold entrepotref13_Rows.f
 repeat' first
   | (with_reducible exact ih0 _ _ _ _ _)
   | (with_reducible exact entrepotref01_Rows.mono _ _)
   | (with_reducible exact entrepotref03_Fields.mono _ _ _ _)
   | (with_reducible exact LeO.refl _)
   | (with_reducible exact LeO.none _)
   | (with_reducible refine LeO.ite ?_ ?_)
   | (with_reducible refine LeO.bind ?_ (fun _ => ?_))
   | exact ih0 _ _ _ _ _
   | exact entrepotref01_Rows.mono _ _
   | exact entrepotref03_Fields.mono _ _ _ _
   | exact LeO.none _
   | refine LeO.ite ?_ ?_
   | refine LeO.bind ?_ (fun _ => ?_)
def entrepotref13_Rows.T7 : Bool × List (List Nat × List Nat) := (true, [([], []), ([], []), ([], []), ([1, 2], [1, 2]), ([3], [3]), ([4], [4]), ([], []), ([], []), ([], []), ([7, 8], [7, 8]), ([9], [9]), ([10], [10]), ([], []), ([], []), ([12, 13], [12, 13]), ([14], [14]), ([15], [15]), ([6, 11, 16], [6, 11, 16]), ([5, 17], [5, 17]), ([18], [18]), ([0, 19, 17], [0, 19]), ([20, 20, 0, 1, 2, 3, 4, 5, 6, 7, 8, 9, 10, 11, 12, 13, 14, 15, 16, 17, 18, 19, 20], [0, 20])])
def entrepotref13_Rows.B7 : List Nat := [0, 0, 0, 6, 14, 30, 0, 0, 0, 384, 896, 1920, 0, 0, 12288, 28672, 61440, 131008, 262142, 524286, 1048575, 2097151]
theorem entrepotref13_Rows.tab7 : rtab .any (opsOf Tryz.f16 7) = entrepotref13_Rows.T7 := by kernel_rfl
theorem entrepotref13_Rows.bits7 : waitsOk entrepotref13_Rows.T7.2 entrepotref13_Rows.B7 = true := by kernel_rfl
set_option maxHeartbeats 8000000 in
set_option maxRecDepth 100000 in
theorem entrepotref13_Rows.calls (k : Nat) (a0 : ByteArray) (a1 : Int) (r : List (S36)) (w : World) (h : entrepotref13_Rows.f k a0 a1 = some r) :
  Calls Tryz.prog 16 #[.string a0, .int .i64 a1] w fun e w' => ∃ v0_ : Value, e = .returned (v0_) ∧ Kd.S k36 36 w' w.heap.size (fun _ => True) v0_ r ∧ Below w.heap.size w w' := by
 have hu36 := Tryz.underlying36; have HB := Aside0.mk (Below.refl w.heap.size w); have H : ((entrepotref01_Rows.f k a0).bind fun t104 => (entrepotref13_Rows.l0 k a0 a1 (([] : List (S36))) t104 0)) = some r := h; clear h; obtain ⟨y101, hy101⟩ : ∃ y_ : List (S36), y_ = (([] : List (S36))) := ⟨_, rfl⟩; replace H : ((entrepotref01_Rows.f k a0).bind fun t104 => (entrepotref13_Rows.l0 k a0 a1 y101 t104 0)) = some r := by first | (rw [hy101]; with_reducible exact H) | (have H2_ := (Option.bind_some _ _).symm.trans H; rw [hy101]; with_reducible exact H2_) | (have H2_ := (Option.bind_some _ _).symm.trans H; with_reducible exact H2_) | with_reducible exact H | (rw [hy101]; exact H) | exact H
 have Ny101 := Aside0.mk hy101; clear hy101; replace H := Option.bind_eq_some_iff.mp H; obtain ⟨t104, A30, H⟩ := H; (try dsimp only at H); have A3 := Aside0.mk A30; clear A30; have H' := Aside0.mk H; clear H; go_enter Tryz.func16, Tryz.ntmps16
 go_wp2_with (first | ((with_reducible refine gate_dst (N := 8) rfl ?_); refine Kd.S_lit k36 _ 36 ?hg (N := 8) ?hd (xs := ([] : List (S36))) (inner := []) (ok := fun _ => True) (okp := fun _ => True) ?hr ?hp (fun _ hk => hk) trivial (Below.refl _ _) (Nat.le_refl _) (by simp) ?_; (case hd => rfl); (case hg => rfl); (case hr => first | (go_simp; done) | (go_simp; rfl)); (case hp => exact (Reps.none _ _)); intro v102 w4 ho5 hb hg_ hnew_; clear hg_ hnew_; (first | rw [← Ny101.out] at ho5 | (simp only [Int.reduceToNat] at ho5; rw [← Ny101.out] at ho5)); have HO103 := Aside0.mk (Kd.S_lower ho5 (below_size qb)); replace HB := cB HB hb; clear hb ho5) | ((with_reducible refine gate_callee (f := 49) rfl ?_); refine goesL_ (some 10) rfl rfl Tryz.func49 (by kernel_rfl) rfl #[.string a0] rfl qm ?_; (with_reducible refine (entrepotref01_Rows.calls k a0 t104 _ A3.out).mono ?_); rintro e w6 ⟨v105, rfl, ho0, hb⟩; refine ⟨_, rfl, ?_⟩; have HO106 := Aside0.mk (Kd.R_lower ho0 (below_size qb)); replace HO103 := cS HO103 hb; replace HB := cB HB hb; (try clear hb); (try clear hb2); (try clear hk); (try clear hi); (try clear ho0)))
 (try simp only [Act.put, List.setIfInBounds_toArray, List.set_cons_zero, List.set_cons_succ])
 go_loopg [5, 7] k (fun kq v5 v7 w' => ∃ (x5_1 : List (S36)) (x7_1 : Int), v7 = .int .i64 x7_1 ∧ Aside0 (entrepotref13_Rows.l0 kq a0 a1 x5_1 t104 x7_1 = some r) ∧ Aside0 (kq ≤ k) ∧ Aside0 (Kd.S k36 36 w' w.heap.size (fun _ => True) v5 x5_1) ∧ Aside0 (Kd.R k100 100 w' w.heap.size (fun _ => True) v105 t104) ∧ Aside0 (Below w.heap.size w w'))
 case atStart => exact ⟨(y101), (0), qr, H', ⟨Nat.le_refl _⟩, ⟨qS HO103.out⟩, ⟨qR HO106.out⟩, ⟨qb⟩⟩
 case round =>
  clear H'; (try clear c1); (try clear p2); (try clear c4); obtain ⟨x5_1, x7_1, rfl, HA, HK1, HO_5, HO_6, HB⟩ := hrel; cases gk with
  | zero => exact absurd HA.out (by simp [entrepotref13_Rows.l0])
  | succ k1 =>
   have H := HA.out; clear HA; simp only [entrepotref13_Rows.l0] at H
   by_cases c7 : x7_1 < (t104.length : Int)
   ·rw [if_pos c7] at H; have c7b0 := decide_eq_true c7; clear c7
    by_cases c8 : 0 ≤ x7_1
    ·rw [if_pos c8] at H; have c8b0 := decide_eq_true c8; clear c8
     by_cases c9 : ((rd_T100 t104 x7_1).f0) ≥ a1
     ·rw [if_pos c9] at H; have c9b0 := decide_eq_true c9; clear c9; replace H := Option.bind_eq_some_iff.mp H; obtain ⟨t111, A100, H⟩ := H; (try dsimp only at H); have A10 := Aside0.mk A100; clear A100
      by_cases c11 : x5_1.length < 4398046511104
      ·rw [if_pos c11] at H; have LMc11 := Aside0.mk c11; clear c11; obtain ⟨y114, hy114⟩ : ∃ y_ : List (S36), y_ = (x5_1 ++ [(⟨(rd_T100 t104 x7_1).f0, t111⟩ : S36)]) := ⟨_, rfl⟩; replace H : (entrepotref13_Rows.l0 k1 a0 a1 y114 t104 (wrap64 (x7_1 + 1))) = some r := by first | (rw [hy114]; with_reducible exact H) | (have H2_ := (Option.bind_some _ _).symm.trans H; rw [hy114]; with_reducible exact H2_) | (have H2_ := (Option.bind_some _ _).symm.trans H; with_reducible exact H2_) | with_reducible exact H | (rw [hy114]; exact H) | exact H
       have Ny114 := Aside0.mk hy114; clear hy114; have H' := Aside0.mk H; clear H; obtain ⟨Ao12, co12, eo12⟩ := Kd.R_slice HO_6.out; subst eo12; have p107 : 0 ≤ (x7_1 : Int) := of_decide_eq_true qa; have q107 : x7_1 < (t104.length : Int) := of_decide_eq_true qa; obtain ⟨ad107, e107, hx107_0, hx107_1, hx107_2⟩ := at_T100 (Kd.R_reads' HO_6.out).2.2 x7_1 p107 q107; cases e107; (try simp only [Go.IntWalk.toNatUp] at hx107_0); (try simp only [Go.IntWalk.toNatUp] at hx107_1); (try simp only [Go.IntWalk.toNatUp] at hx107_2); replace p107 := eq_true p107; replace q107 := eq_true q107
       try go_wp2
       have n0_ := Aside0.mk (Kd.S_drew HO_5.out); have n1_ := Aside0.mk (Kd.R_drew HO_6.out); have n2_ := Aside0.mk (below_drew1 HB.out); clear HO_5; clear HO_6; clear HB; have HO_5 := n0_; have HO_6 := n1_; have HB := n2_; clear n0_ n1_ n2_; have p108 : 0 ≤ (x7_1 : Int) := of_decide_eq_true qa; have q108 : x7_1 < (t104.length : Int) := of_decide_eq_true qa; obtain ⟨ad108, e108, hx108_0, hx108_1, hx108_2⟩ := at_T100 (Kd.R_reads' HO_6.out).2.2 x7_1 p108 q108; obtain rfl : ad107 = ad108 := (by injection e108); (try simp only [Go.IntWalk.toNatUp] at hx108_0); (try simp only [Go.IntWalk.toNatUp] at hx108_1); (try simp only [Go.IntWalk.toNatUp] at hx108_2); replace p108 := eq_true p108; replace q108 := eq_true q108; have p109 : 0 ≤ (x7_1 : Int) := of_decide_eq_true qa; have q109 : x7_1 < (t104.length : Int) := of_decide_eq_true qa; obtain ⟨ad109, e109, hx109_0, hx109_1, hx109_2⟩ := at_T100 (Kd.R_reads' HO_6.out).2.2 x7_1 p109 q109; obtain rfl : ad107 = ad109 := (by injection e109); (try simp only [Go.IntWalk.toNatUp] at hx109_0); (try simp only [Go.IntWalk.toNatUp] at hx109_1); (try simp only [Go.IntWalk.toNatUp] at hx109_2); replace p109 := eq_true p109; replace q109 := eq_true q109; have p110 : 0 ≤ (x7_1 : Int) := of_decide_eq_true qa; have q110 : x7_1 < (t104.length : Int) := of_decide_eq_true qa; obtain ⟨ad110, e110, hx110_0, hx110_1, hx110_2⟩ := at_T100 (Kd.R_reads' HO_6.out).2.2 x7_1 p110 q110; obtain rfl : ad107 = ad110 := (by injection e110); (try simp only [Go.IntWalk.toNatUp] at hx110_0); (try simp only [Go.IntWalk.toNatUp] at hx110_1); (try simp only [Go.IntWalk.toNatUp] at hx110_2); replace p110 := eq_true p110; replace q110 := eq_true q110; refine start_ (n := 22) (S := fun w' => w'.cell? (ad107.add ((x7_1).toNat * 3)) = some (.int .i64 ((rd_T100 t104 x7_1).f0)) ∧ w'.cell? ⟨(ad107.add ((x7_1).toNat * 3)).block, (ad107.add ((x7_1).toNat * 3)).off + 1, none⟩ = some (.int .i64 ((rd_T100 t104 x7_1).f1)) ∧ w'.cell? ⟨(ad107.add ((x7_1).toNat * 3)).block, (ad107.add ((x7_1).toNat * 3)).off + 2, none⟩ = some (.int .i64 ((rd_T100 t104 x7_1).f2)) ∧ w'.cell? (ad107.add ((x7_1).toNat * 3)) = some (.int .i64 ((rd_T100 t104 x7_1).f0)) ∧ w'.cell? ⟨(ad107.add ((x7_1).toNat * 3)).block, (ad107.add ((x7_1).toNat * 3)).off + 1, none⟩ = some (.int .i64 ((rd_T100 t104 x7_1).f1)) ∧ w'.cell? ⟨(ad107.add ((x7_1).toNat * 3)).block, (ad107.add ((x7_1).toNat * 3)).off + 2, none⟩ = some (.int .i64 ((rd_T100 t104 x7_1).f2)) ∧ w'.cell? (ad107.add ((x7_1).toNat * 3)) = some (.int .i64 ((rd_T100 t104 x7_1).f0)) ∧ w'.cell? ⟨(ad107.add ((x7_1).toNat * 3)).block, (ad107.add ((x7_1).toNat * 3)).off + 1, none⟩ = some (.int .i64 ((rd_T100 t104 x7_1).f1)) ∧ w'.cell? ⟨(ad107.add ((x7_1).toNat * 3)).block, (ad107.add ((x7_1).toNat * 3)).off + 2, none⟩ = some (.int .i64 ((rd_T100 t104 x7_1).f2))) (ds := [19, 20]) #[false, false, false, false, false, false, false, false, false, false, false, false, false, false, false, false, false, false, false, false, false, false] (by kernel_rfl) rfl rfl ⟨hx108_0, hx108_1, hx108_2, hx109_0, hx109_1, hx109_2, hx110_0, hx110_1, hx110_2⟩ (fun hHeld => ?_); refine with_tabW entrepotref13_Rows.tab7 entrepotref13_Rows.bits7 (fun HT_ HW_ => ?_)
       generalize wr.drew = w13 at HO_5 HO_6 HB hx108_0 hx108_1 hx108_2 hx109_0 hx109_1 hx109_2 hx110_0 hx110_1 hx110_2 hHeld ⊢; refine pure_ (i := 0) (N := some 24) (v := ?_) (a' := ?_) #[true, false, false, false, false, false, false, false, false, false, false, false, false, false, false, false, false, false, false, false, false, false] rfl rfl (any_of HT_.out (by kernel_rfl)) (fun _ _ _ h => h) (Or.inl ⟨by rfl, ?_⟩) ?_ ?_
       rotate_left
       ·intro w'
        go_simp
        with_reducible rfl
       rotate_left
       ·simp only [Act.put, List.setIfInBounds_toArray, List.set_cons_zero, List.set_cons_succ, i64_w, i32_w]
        rfl
       refine pure_ (i := 1) (N := some 25) (v := ?_) (a' := ?_) #[true, true, false, false, false, false, false, false, false, false, false, false, false, false, false, false, false, false, false, false, false, false] rfl rfl (any_of HT_.out (by kernel_rfl)) (fun _ _ _ h => h) (Or.inl ⟨by rfl, ?_⟩) ?_ ?_
       rotate_left
       ·intro w'
        go_simp
        with_reducible rfl
       rotate_left
       ·simp only [Act.put, List.setIfInBounds_toArray, List.set_cons_zero, List.set_cons_succ, i64_w, i32_w]
        rfl
       refine pure_ (i := 2) (N := some 26) (v := ?_) (a' := ?_) #[true, true, true, false, false, false, false, false, false, false, false, false, false, false, false, false, false, false, false, false, false, false] rfl rfl (any_of HT_.out (by kernel_rfl)) (fun _ _ _ h => h) (Or.inl ⟨by rfl, ?_⟩) ?_ ?_
       rotate_left
       ·intro w'
        go_simp
        with_reducible rfl
       rotate_left
       ·simp only [Act.put, List.setIfInBounds_toArray, List.set_cons_zero, List.set_cons_succ, i64_w, i32_w]
        rfl
       refine pure_ (i := 3) (N := some 27) (v := ?_) (a' := ?_) #[true, true, true, true, false, false, false, false, false, false, false, false, false, false, false, false, false, false, false, false, false, false] rfl rfl (any_of HT_.out (by kernel_rfl)) (fun _ _ _ h => h) (Or.inl ⟨by rfl, ?_⟩) ?_ ?_
       rotate_left
       ·intro w'
        go_simp
        with_reducible rfl
       rotate_left
       ·simp only [Act.put, List.setIfInBounds_toArray, List.set_cons_zero, List.set_cons_succ, i64_w, i32_w]
        rfl
       refine pure_ (i := 4) (N := some 28) (v := ?_) (a' := ?_) #[true, true, true, true, true, false, false, false, false, false, false, false, false, false, false, false, false, false, false, false, false, false] rfl rfl (any_of HT_.out (by kernel_rfl)) (fun _ _ _ h => h) (Or.inl ⟨by rfl, ?_⟩) ?_ ?_
       rotate_left
       ·intro w'
        go_simp
        with_reducible rfl
       rotate_left
       ·simp only [Act.put, List.setIfInBounds_toArray, List.set_cons_zero, List.set_cons_succ, i64_w, i32_w]
        rfl
       refine pure_ (i := 6) (N := some 30) (v := ?_) (a' := ?_) #[true, true, true, true, true, false, true, false, false, false, false, false, false, false, false, false, false, false, false, false, false, false] rfl rfl (any_of HT_.out (by kernel_rfl)) (fun _ _ _ h => h) (Or.inl ⟨by rfl, ?_⟩) ?_ ?_
       rotate_left
       ·intro w'
        go_simp
        with_reducible rfl
       rotate_left
       ·simp only [Act.put, List.setIfInBounds_toArray, List.set_cons_zero, List.set_cons_succ, i64_w, i32_w]
        rfl
       refine pure_ (i := 7) (N := some 31) (v := ?_) (a' := ?_) #[true, true, true, true, true, false, true, true, false, false, false, false, false, false, false, false, false, false, false, false, false, false] rfl rfl (any_of HT_.out (by kernel_rfl)) (fun _ _ _ h => h) (Or.inl ⟨by rfl, ?_⟩) ?_ ?_
       rotate_left
       ·intro w'
        go_simp
        with_reducible rfl
       rotate_left
       ·simp only [Act.put, List.setIfInBounds_toArray, List.set_cons_zero, List.set_cons_succ, i64_w, i32_w]
        rfl
       refine pure_ (i := 8) (N := some 32) (v := ?_) (a' := ?_) #[true, true, true, true, true, false, true, true, true, false, false, false, false, false, false, false, false, false, false, false, false, false] rfl rfl (any_of HT_.out (by kernel_rfl)) (fun _ _ _ h => h) (Or.inl ⟨by rfl, ?_⟩) ?_ ?_
       rotate_left
       ·intro w'
        go_simp
        with_reducible rfl
       rotate_left
       ·simp only [Act.put, List.setIfInBounds_toArray, List.set_cons_zero, List.set_cons_succ, i64_w, i32_w]
        rfl
       refine pure_ (i := 9) (N := some 33) (v := ?_) (a' := ?_) #[true, true, true, true, true, false, true, true, true, true, false, false, false, false, false, false, false, false, false, false, false, false] rfl rfl (any_of HT_.out (by kernel_rfl)) (fun _ _ _ h => h) (Or.inl ⟨by rfl, ?_⟩) ?_ ?_
       rotate_left
       ·intro w'
        go_simp
        with_reducible rfl
       rotate_left
       ·simp only [Act.put, List.setIfInBounds_toArray, List.set_cons_zero, List.set_cons_succ, i64_w, i32_w]
        rfl
       refine pure_ (i := 10) (N := some 34) (v := ?_) (a' := ?_) #[true, true, true, true, true, false, true, true, true, true, true, false, false, false, false, false, false, false, false, false, false, false] rfl rfl (any_of HT_.out (by kernel_rfl)) (fun _ _ _ h => h) (Or.inl ⟨by rfl, ?_⟩) ?_ ?_
       rotate_left
       ·intro w'
        go_simp
        with_reducible rfl
       rotate_left
       ·simp only [Act.put, List.setIfInBounds_toArray, List.set_cons_zero, List.set_cons_succ, i64_w, i32_w]
        rfl
       refine pure_ (i := 12) (N := some 36) (v := ?_) (a' := ?_) #[true, true, true, true, true, false, true, true, true, true, true, false, true, false, false, false, false, false, false, false, false, false] rfl rfl (any_of HT_.out (by kernel_rfl)) (fun _ _ _ h => h) (Or.inl ⟨by rfl, ?_⟩) ?_ ?_
       rotate_left
       ·intro w'
        go_simp
        with_reducible rfl
       rotate_left
       ·simp only [Act.put, List.setIfInBounds_toArray, List.set_cons_zero, List.set_cons_succ, i64_w, i32_w]
        rfl
       refine pure_ (i := 13) (N := some 37) (v := ?_) (a' := ?_) #[true, true, true, true, true, false, true, true, true, true, true, false, true, true, false, false, false, false, false, false, false, false] rfl rfl (any_of HT_.out (by kernel_rfl)) (fun _ _ _ h => h) (Or.inl ⟨by rfl, ?_⟩) ?_ ?_
       rotate_left
       ·intro w'
        go_simp
        with_reducible rfl
       rotate_left
       ·simp only [Act.put, List.setIfInBounds_toArray, List.set_cons_zero, List.set_cons_succ, i64_w, i32_w]
        rfl
       refine pure_ (i := 14) (N := some 38) (v := ?_) (a' := ?_) #[true, true, true, true, true, false, true, true, true, true, true, false, true, true, true, false, false, false, false, false, false, false] rfl rfl (any_of HT_.out (by kernel_rfl)) (fun _ _ _ h => h) (Or.inl ⟨by rfl, ?_⟩) ?_ ?_
       rotate_left
       ·intro w'
        go_simp
        with_reducible rfl
       rotate_left
       ·simp only [Act.put, List.setIfInBounds_toArray, List.set_cons_zero, List.set_cons_succ, i64_w, i32_w]
        rfl
       refine pure_ (i := 15) (N := some 39) (v := ?_) (a' := ?_) #[true, true, true, true, true, false, true, true, true, true, true, false, true, true, true, true, false, false, false, false, false, false] rfl rfl (any_of HT_.out (by kernel_rfl)) (fun _ _ _ h => h) (Or.inl ⟨by rfl, ?_⟩) ?_ ?_
       rotate_left
       ·intro w'
        go_simp
        with_reducible rfl
       rotate_left
       ·simp only [Act.put, List.setIfInBounds_toArray, List.set_cons_zero, List.set_cons_succ, i64_w, i32_w]
        rfl
       refine take_ (i := 5) (N := some 29) (v := ?_) (a' := ?_) #[true, true, true, true, true, true, true, true, true, true, true, false, true, true, true, true, false, false, false, false, false, false] rfl rfl (take_ofW HT_.out HW_.out (by kernel_rfl)) (fun _ _ _ h => h) (Or.inl ⟨by rfl, ?_⟩) hHeld ?_ ?_
       rotate_left
       ·rintro w' ⟨s0, s1, s2, s3, s4, s5, s6, s7, s8⟩
        go_simp
        with_reducible rfl
       rotate_left
       ·simp only [Act.put, List.setIfInBounds_toArray, List.set_cons_zero, List.set_cons_succ, i64_w, i32_w]
        rfl
       refine take_ (i := 11) (N := some 35) (v := ?_) (a' := ?_) #[true, true, true, true, true, true, true, true, true, true, true, true, true, true, true, true, false, false, false, false, false, false] rfl rfl (take_ofW HT_.out HW_.out (by kernel_rfl)) (fun _ _ _ h => h) (Or.inl ⟨by rfl, ?_⟩) hHeld ?_ ?_
       rotate_left
       ·rintro w' ⟨s0, s1, s2, s3, s4, s5, s6, s7, s8⟩
        go_simp
        with_reducible rfl
       rotate_left
       ·simp only [Act.put, List.setIfInBounds_toArray, List.set_cons_zero, List.set_cons_succ, i64_w, i32_w]
        rfl
       refine take_ (i := 16) (N := some 40) (v := ?_) (a' := ?_) #[true, true, true, true, true, true, true, true, true, true, true, true, true, true, true, true, true, false, false, false, false, false] rfl rfl (take_ofW HT_.out HW_.out (by kernel_rfl)) (fun _ _ _ h => h) (Or.inl ⟨by rfl, ?_⟩) hHeld ?_ ?_
       rotate_left
       ·rintro w' ⟨s0, s1, s2, s3, s4, s5, s6, s7, s8⟩
        go_simp
        with_reducible rfl
       rotate_left
       ·simp only [Act.put, List.setIfInBounds_toArray, List.set_cons_zero, List.set_cons_succ, i64_w, i32_w]
        rfl
       refine one_ (i := 17) (N := some 41) #[true, true, true, true, true, true, true, true, true, true, true, true, true, true, true, true, true, true, false, false, false, false] rfl rfl (one_of HT_.out (by kernel_rfl)) (by decide) (fun K hK => ?_); refine goes_ Tryz.func50 (by kernel_rfl) rfl #[.string a0, .int .i64 ((rd_T100 t104 x7_1).f0), .int .i64 ((rd_T100 t104 x7_1).f1)] (by rfl) rfl rfl qm ?_
       with_reducible refine (entrepotref03_Fields.calls k1 a0 ((rd_T100 t104 x7_1).f0) ((rd_T100 t104 x7_1).f1) t111 _ A10.out).mono ?_
       rintro e w14 ⟨v112, rfl, ho0, hb⟩
       have HS0_ := (hb.cell (World.block_lt_of_cell? _ _ (hHeld.1))).trans (hHeld.1); have HS1_ := (hb.cell (World.block_lt_of_cell? _ _ (hHeld.2.1))).trans (hHeld.2.1); have HS2_ := (hb.cell (World.block_lt_of_cell? _ _ (hHeld.2.2.1))).trans (hHeld.2.2.1); have HS3_ := (hb.cell (World.block_lt_of_cell? _ _ (hHeld.2.2.2.1))).trans (hHeld.2.2.2.1); have HS4_ := (hb.cell (World.block_lt_of_cell? _ _ (hHeld.2.2.2.2.1))).trans (hHeld.2.2.2.2.1); have HS5_ := (hb.cell (World.block_lt_of_cell? _ _ (hHeld.2.2.2.2.2.1))).trans (hHeld.2.2.2.2.2.1); have HS6_ := (hb.cell (World.block_lt_of_cell? _ _ (hHeld.2.2.2.2.2.2.1))).trans (hHeld.2.2.2.2.2.2.1); have HS7_ := (hb.cell (World.block_lt_of_cell? _ _ (hHeld.2.2.2.2.2.2.2.1))).trans (hHeld.2.2.2.2.2.2.2.1); have HS8_ := (hb.cell (World.block_lt_of_cell? _ _ (hHeld.2.2.2.2.2.2.2.2))).trans (hHeld.2.2.2.2.2.2.2.2); refine ⟨_, rfl, ?_⟩; have n0_ := Aside0.mk (Kd.S_elder' (qS HO_5.out) (Kd.R_base ho0) hb); have n1_ := Aside0.mk (Kd.R_below (qR HO_6.out) hb); have n2_ := Aside0.mk (Kd.R_lower ho0 (below_size qb)); have n3_ := Aside0.mk (below_step qb hb); clear HO_5; clear HO_6; clear HB; have HO_5 := n0_; have HO_6 := n1_; have HO113 := n2_; have HB := n3_; clear n0_ n1_ n2_ n3_; (try clear hb); (try clear hb2); (try clear hk); (try clear hi); (try clear ho0); obtain ⟨Ao15, co15, eo15⟩ := Kd.R_slice HO113.out; (first | subst eo15 | (injection eo15 with f1_ f2_ f3_; have f4_ := f1_.symm; have f5_ := f3_.symm; clear f1_ f2_ f3_; subst f4_; subst f5_)); refine hK.out _ _ ⟨HS0_, HS1_, HS2_, HS3_, HS4_, HS5_, HS6_, HS7_, HS8_⟩ (fun hHeld => ?_); clear hK K; refine norm_ (a' := ?_) ?_ ?_
       rotate_left
       ·show Act.put _ (some 41) _ = _
        simp only [Act.put, List.setIfInBounds_toArray, List.set_cons_zero, List.set_cons_succ, i64_w, i32_w]
        rfl
       refine pure_ (i := 18) (N := some 42) (v := ?_) (a' := ?_) #[true, true, true, true, true, true, true, true, true, true, true, true, true, true, true, true, true, true, true, false, false, false] rfl rfl (any_of HT_.out (by kernel_rfl)) (fun _ _ _ h => h) (Or.inl ⟨by rfl, ?_⟩) ?_ ?_
       rotate_left
       ·intro w'
        go_simp
        with_reducible rfl
       rotate_left
       ·simp only [Act.put, List.setIfInBounds_toArray, List.set_cons_zero, List.set_cons_succ, i64_w, i32_w]
        rfl
       refine last_ (i := 19) (N := some 43) #[true, true, true, true, true, true, true, true, true, true, true, true, true, true, true, true, true, true, true, true, false, false] rfl rfl (one_of HT_.out (by kernel_rfl)) (by decide) (fun K hK => ?_); refine value_ (w1 := ?_) (v := ?_) (by rfl) rfl ?_ ?_
       rotate_left 2
       ·go_simp
        constructor
        ·rfl
        ·rfl
       refine hK.out _ _ ?_; clear hK K; refine norm_ (a' := ?_) ?_ ?_
       rotate_left
       ·show Act.put _ (some 43) _ = _
        simp only [Act.put, List.setIfInBounds_toArray, List.set_cons_zero, List.set_cons_succ, i64_w, i32_w]
        rfl
       refine last_ (i := 20) (N := some 44) #[true, true, true, true, true, true, true, true, true, true, true, true, true, true, true, true, true, true, true, true, true, false] rfl rfl (one_of HT_.out (by kernel_rfl)) (by decide) (fun K hK => ?_); refine Kd.S_append_step k36 (w0 := w) w.heap.size (by rfl) (.tmp 24) (.tmp 43) 25 36 (.agg #[(.int .i64 0), (.slice none 0 0)]) 32 rfl Tryz.underlying25 info36 rfl (by decide) (by omega) u5 x5_1 (⟨(rd_T100 t104 x7_1).f0, t111⟩ : S36) [.int .i64 ((rd_T100 t104 x7_1).f0), .slice Ao15 t111.length co15] (fun _ => True) (fun k_ => some k_ = (.slice Ao15 t111.length co15 : Value).ownBlock) rfl rfl ?aP (fun k_ hk_ => ((Kd.R_mono (ok' := fun k_ => ((fun _ => True)) k_ ∧ some k_ ≠ (u5 : Value).ownBlock) (Kd.R_apart' (HO113.out) (Kd.S_typed HO_5.out) (by decide)) (fun k_ hk => ⟨trivial, hk.2⟩))).1 k_ hk_.symm) ?aF ?aO ?aB ?aS ?aL ?_; (case aP => exact k36_mkM _ _ _ (⟨(rd_T100 t104 x7_1).f0, t111⟩ : S36) (Kd.R_mono (Kd.R_tight rfl (Kd.R_mono (ok' := fun k_ => ((fun _ => True)) k_ ∧ some k_ ≠ (u5 : Value).ownBlock) (Kd.R_apart' (HO113.out) (Kd.S_typed HO_5.out) (by decide)) (fun k_ hk => ⟨trivial, hk.2⟩))) (fun _ h_ => h_))); (case aB => exact qb); (case aF => exact (fun _ _ => trivial)); (case aO => exact (by refine qS ?_; exact Kd.S_mono HO_5.out (fun k_ hk => ⟨trivial, fun e_ => hk.2 e_⟩))); (case aS => exact (below_size qb)); (case aL => have := LMc11.out; omega)
       intro v115 w16 ho hb hg hat
       rw [← Ny114.out] at ho; have n0_ := Aside0.mk (Kd.R_over' (qR HO_6.out) (Kd.S_typed (qS HO_5.out)) (by decide) hg); have n1_ := Aside0.mk (hb); have n2_ := Aside0.mk (ho); clear HO_6; clear HB; clear HO_5; clear HO113; have HO_6 := n0_; have HB := n1_; have HO116 := n2_; clear n0_ n1_ n2_; clear ho hb hg hat; refine hK.out _ _ ?_; clear hK K; refine norm_ (a' := ?_) ?_ ?_
       rotate_left
       ·show Act.put _ (some 44) _ = _
        simp only [Act.put, List.setIfInBounds_toArray, List.set_cons_zero, List.set_cons_succ, i64_w, i32_w]
        rfl
       refine pure_ (i := 21) (N := some 5) (v := ?_) (a' := ?_) #[true, true, true, true, true, true, true, true, true, true, true, true, true, true, true, true, true, true, true, true, true, true] rfl rfl (any_of HT_.out (by kernel_rfl)) (fun _ _ _ h => h) (Or.inl ⟨by rfl, ?_⟩) ?_ ?_
       rotate_left
       ·intro w'
        go_simp
        with_reducible rfl
       rotate_left
       ·simp only [Act.put, List.setIfInBounds_toArray, List.set_cons_zero, List.set_cons_succ, i64_w, i32_w]
        rfl
       refine done_ (done_of HT_.out (by kernel_rfl)) ?_
       try go_wp2
       go_roundg k1
       case measure => have := HK1.out; omega
       case rel => exact ⟨(y114), (wrap64 (x7_1 + 1)), qr, H', ⟨by have := HK1.out; omega⟩, ⟨qS HO116.out⟩, ⟨qR HO_6.out⟩, ⟨qb⟩⟩
      ·rw [if_neg c11] at H
       exact absurd H (by simp)
     ·rw [if_neg c9] at H; have c9b0 := decide_eq_false c9; clear c9; have H' := Aside0.mk H; clear H; obtain ⟨Ao17, co17, eo17⟩ := Kd.R_slice HO_6.out; subst eo17; have p107 : 0 ≤ (x7_1 : Int) := of_decide_eq_true qa; have q107 : x7_1 < (t104.length : Int) := of_decide_eq_true qa; obtain ⟨ad107, e107, hx107_0, hx107_1, hx107_2⟩ := at_T100 (Kd.R_reads' HO_6.out).2.2 x7_1 p107 q107; cases e107; (try simp only [Go.IntWalk.toNatUp] at hx107_0); (try simp only [Go.IntWalk.toNatUp] at hx107_1); (try simp only [Go.IntWalk.toNatUp] at hx107_2); replace p107 := eq_true p107; replace q107 := eq_true q107
      go_wp2
      go_roundg k1
      case measure => have := HK1.out; omega
      case rel => exact ⟨(x5_1), (wrap64 (x7_1 + 1)), qr, H', ⟨by have := HK1.out; omega⟩, ⟨qS HO_5.out⟩, ⟨qR HO_6.out⟩, ⟨qb⟩⟩
    ·rw [if_neg c8] at H
     exact absurd H (by simp)
   ·rw [if_neg c7] at H; have c7b0 := decide_eq_false c7; clear c7; obtain rfl := Option.some.inj H; obtain ⟨Ao18, co18, eo18⟩ := Kd.R_slice HO_6.out; subst eo18
    go_wp2
    go_ret
    exact ⟨_, qe, by refine qS ?_; exact HO_5.out, qb⟩

end Go.Proofs.YtadocbfchdendaaGreatDoor.P
namespace Go.Proofs.YtadocbfchdendaaGreatDoor.P
open Go.RowKit Go.Proofs.YtadocbfchdendaaGreatDoorW.PrintWords Go.Proofs.YtadocbfchdendaaGreatDoorW.PrintLast Go.Proofs.YtadocbfchdendaaGreatDoorW.PrintMore
attribute [local go_sem] max2_int min2_int max_two min_two max_three min_three max_four min_four   -- for this text's walks alone
set_option linter.unusedVariables false
set_option linter.unusedSimpArgs false
theorem eqA104 (d : Nat) (w : World) (x0 y0 : Int) (x1 y1 : Int) :
    (Op.equalIn (d + 2) 104 (.agg #[.int .i64 x0, .int .i64 x1]) (.agg #[.int .i64 y0, .int .i64 y1])).run Tryz.prog w = .ok (x0 == y0 && (x1 == y1)) w := by
  refine eqA_of Tryz.underlying104 (by kernel_rfl) ?_
  refine eqf_cons (by rfl) (by go_simp; rfl) (by go_simp; rfl) (by go_simp) ?_
  exact eqf_last (by rfl) (by go_simp; rfl) (by go_simp; rfl) (by go_simp)
end Go.Proofs.YtadocbfchdendaaGreatDoor.P
namespace Go.Proofs.YtadocbfchdendaaGreatDoor.P
open Go.RowKit Go.Proofs.YtadocbfchdendaaGreatDoorW.PrintWords Go.Proofs.YtadocbfchdendaaGreatDoorW.PrintLast Go.Proofs.YtadocbfchdendaaGreatDoorW.PrintMore
attribute [local go_sem] max2_int min2_int max_two min_two max_three min_three max_four min_four   -- for this text's walks alone
set_option linter.unusedVariables false
set_option linter.unusedSimpArgs false
attribute [local go_sem high] eqA104
def entrepotref03_Same.l0 : Nat → List (S104) → List (S104) → Int → Option (Bool)
 | 0, _, _, _ => none
 | k + 1, x0, x1, x5 => if x5 < (x0.length : Int) then (if 0 ≤ x5 then (if x5 < (x1.length : Int) then (if (!(((rd_T104 x0 x5).f0) == ((rd_T104 x1 x5).f0)) || (!(((rd_T104 x0 x5).f1) == ((rd_T104 x1 x5).f1)))) = true then (some false) else (entrepotref03_Same.l0 k x0 x1 (wrap64 (x5 + 1)))) else (none)) else (none)) else (some true)
def entrepotref03_Same.f (k : Nat) (l0 : List (S104)) (l1 : List (S104)) : Option (Bool) := if (l0.length : Int) = (l1.length : Int) then (entrepotref03_Same.l0 k l0 l1 0) else (some false)
theorem entrepotref03_Same.mono_l : ∀ k, (∀ y0 y1 y2, LeO (entrepotref03_Same.l0 k y0 y1 y2) (entrepotref03_Same.l0 (k + 1) y0 y1 y2))
 | 0 => fun _ _ _ r h => by simp [entrepotref03_Same.l0] at h
 | k + 1 => by
  have ih0 := entrepotref03_Same.mono_l k
  ·intro y0 y1 y2
   unfold entrepotref03_Same.l0
   repeat' first
   | (with_reducible exact ih0 _ _ _)
   | (with_reducible exact LeO.refl _)
   | (with_reducible exact LeO.none _)
   | (with_reducible refine LeO.ite ?_ ?_)
   | (with_reducible refine LeO.bind ?_ (fun _ => ?_))
   | exact ih0 _ _ _
   | exact LeO.none _
   | refine LeO.ite ?_ ?_
   | refine LeO.bind ?_ (fun _ => ?_)
theorem entrepotref03_Same.mono : ∀ a0 a1 k, LeO (entrepotref03_Same.f k a0 a1) (entrepotref03_Same.f (k + 1) a0 a1) := by
 intro a0 a1 k
 have ih0 := entrepotref03_Same.mono_l k; unfold entrepotref03_Same.f
 repeat' first
   | (with_reducible exact ih0 _ _ _)
   | (with_reducible exact LeO.refl _)
   | (with_reducible exact LeO.none _)
   | (with_reducible refine LeO.ite ?_ ?_)
   | (with_reducible refine LeO.bind ?_ (fun _ => ?_))
   | exact ih0 _ _ _
   | exact LeO.none _
   | refine LeO.ite ?_ ?_
   | refine LeO.bind ?_ (fun _ => ?_)
set_option maxHeartbeats 8000000 in
set_option maxRecDepth 100000 in
theorem entrepotref03_Same.calls (k : Nat) (A0 : Option Addr) (c0 : Nat) (l0 : List (S104)) (A1 : Option Addr) (c1 : Nat) (l1 : List (S104)) (r : Bool) (w : World) (hr0 : Kd.C k104 w A0 l0.length l0) (hc0 : l0.length ≤ c0) (hr1 : Kd.C k104 w A1 l1.length l1) (hc1 : l1.length ≤ c1) (h : entrepotref03_Same.f k l0 l1 = some r) :
  Calls Tryz.prog 51 #[.slice A0 l0.length c0, .slice A1 l1.length c1] w fun e w' => e = .returned (.bool r) ∧ Drawn0 w w' := by
 have hu104 := Tryz.underlying104; have HR0 := Aside0.mk hr0; have HC0 := Aside0.mk hc0; clear hr0 hc0; have HR1 := Aside0.mk hr1; have HC1 := Aside0.mk hc1; clear hr1 hc1; have H : (if (l0.length : Int) = (l1.length : Int) then (entrepotref03_Same.l0 k l0 l1 0) else (some false)) = some r := h; clear h
 by_cases c3 : (l0.length : Int) = (l1.length : Int)
 ·rw [if_pos c3] at H; have c3b0 := beq_iff_eq.mpr c3; have c3b1 := bne_eq_false_iff_eq.mpr c3; have c3b2 : (l0.length == l1.length) = true := by first | simpa using c3 | (simp at c3 ⊢; omega)
  clear c3; have H' := Aside0.mk H; clear H; go_enter Tryz.func51, Tryz.ntmps51
  go_wp2
  repeat (go_quiet (fail); try go_wp2)
  (try simp only [Act.put, List.setIfInBounds_toArray, List.set_cons_zero, List.set_cons_succ])
  go_loopg [5] k (fun kq v5 w' => ∃ (x5_1 : Int), v5 = .int .i64 x5_1 ∧ Aside0 (entrepotref03_Same.l0 kq l0 l1 x5_1 = some r) ∧ Aside0 (kq ≤ k) ∧ Drawn0 w w')
  case atStart => exact ⟨(0), qr, H', ⟨Nat.le_refl _⟩, qd⟩
  case round =>
   clear H'; (try clear c1); (try clear p2); (try clear c3); (try clear c3b0); (try clear c3b1); (try clear c3b2); obtain ⟨x5_1, rfl, HA, HK1, ⟨m1, rfl⟩⟩ := hrel; cases gk with
   | zero => exact absurd HA.out (by simp [entrepotref03_Same.l0])
   | succ k1 =>
    have H := HA.out; clear HA; simp only [entrepotref03_Same.l0] at H
    by_cases c4 : x5_1 < (l0.length : Int)
    ·rw [if_pos c4] at H; have c4b0 := decide_eq_true c4; clear c4
     by_cases c5 : 0 ≤ x5_1
     ·rw [if_pos c5] at H; have c5b0 := decide_eq_true c5; clear c5
      by_cases c6 : x5_1 < (l1.length : Int)
      ·rw [if_pos c6] at H; have c6b0 := decide_eq_true c6; clear c6
       by_cases c7 : (!(((rd_T104 l0 x5_1).f0) == ((rd_T104 l1 x5_1).f0)) || (!(((rd_T104 l0 x5_1).f1) == ((rd_T104 l1 x5_1).f1)))) = true
       ·rw [if_pos c7] at H; have c7b0 : (!(((rd_T104 l0 x5_1).f0) == ((rd_T104 l1 x5_1).f0)) || (!(((rd_T104 l0 x5_1).f1) == ((rd_T104 l1 x5_1).f1)))) = true := c7; clear c7; obtain rfl := Option.some.inj H; have p101 : 0 ≤ (x5_1 : Int) := of_decide_eq_true qa; have q101 : x5_1 < (l0.length : Int) := of_decide_eq_true qa; obtain ⟨ad101, e101, hx101_0, hx101_1⟩ := at_T104 HR0.out x5_1 p101 q101; cases e101; (try simp only [Go.IntWalk.toNatUp] at hx101_0); (try simp only [Go.IntWalk.toNatUp] at hx101_1); replace p101 := eq_true p101; replace q101 := eq_true q101; have p102 : 0 ≤ (x5_1 : Int) := of_decide_eq_true qa; have q102 : x5_1 < (l1.length : Int) := of_decide_eq_true qa; obtain ⟨ad102, e102, hx102_0, hx102_1⟩ := at_T104 HR1.out x5_1 p102 q102; cases e102; (try simp only [Go.IntWalk.toNatUp] at hx102_0); (try simp only [Go.IntWalk.toNatUp] at hx102_1); replace p102 := eq_true p102; replace q102 := eq_true q102
        go_wp2
        repeat (go_quiet (fail); try go_wp2)
        go_ret
        exact ⟨qr, qd⟩
       ·rw [if_neg c7] at H; have c7b0 : (!(((rd_T104 l0 x5_1).f0) == ((rd_T104 l1 x5_1).f0)) || (!(((rd_T104 l0 x5_1).f1) == ((rd_T104 l1 x5_1).f1)))) = false := by simpa using c7
        clear c7; have H' := Aside0.mk H; clear H; have p101 : 0 ≤ (x5_1 : Int) := of_decide_eq_true qa; have q101 : x5_1 < (l0.length : Int) := of_decide_eq_true qa; obtain ⟨ad101, e101, hx101_0, hx101_1⟩ := at_T104 HR0.out x5_1 p101 q101; cases e101; (try simp only [Go.IntWalk.toNatUp] at hx101_0); (try simp only [Go.IntWalk.toNatUp] at hx101_1); replace p101 := eq_true p101; replace q101 := eq_true q101; have p102 : 0 ≤ (x5_1 : Int) := of_decide_eq_true qa; have q102 : x5_1 < (l1.length : Int) := of_decide_eq_true qa; obtain ⟨ad102, e102, hx102_0, hx102_1⟩ := at_T104 HR1.out x5_1 p102 q102; cases e102; (try simp only [Go.IntWalk.toNatUp] at hx102_0); (try simp only [Go.IntWalk.toNatUp] at hx102_1); replace p102 := eq_true p102; replace q102 := eq_true q102
        go_wp2
        repeat (go_quiet (fail); try go_wp2)
        go_roundg k1
        case measure => have := HK1.out; omega
        case rel => exact ⟨(wrap64 (x5_1 + 1)), qr, H', ⟨by have := HK1.out; omega⟩, qd⟩
      ·rw [if_neg c6] at H
       exact absurd H (by simp)
     ·rw [if_neg c5] at H
      exact absurd H (by simp)
    ·rw [if_neg c4] at H; have c4b0 := decide_eq_false c4; clear c4; obtain rfl := Option.some.inj H
     go_wp2
     repeat (go_quiet (fail); try go_wp2)
     go_ret
     exact ⟨qr, qd⟩
 ·rw [if_neg c3] at H; have c3b0 := beq_eq_false_iff_ne.mpr c3; have c3b1 := bne_iff_ne.mpr c3; have c3b2 : (l0.length == l1.length) = false := by first | simpa using c3 | (simp at c3 ⊢; omega)
  obtain rfl := Option.some.inj H; go_enter Tryz.func51, Tryz.ntmps51
  go_wp2
  repeat (go_quiet (fail); try go_wp2)
  go_ret
  exact ⟨qr, qd⟩

end Go.Proofs.YtadocbfchdendaaGreatDoor.P
namespace Go.Proofs.YtadocbfchdendaaGreatDoor.P
open Go.RowKit Go.Proofs.YtadocbfchdendaaGreatDoorW.PrintWords Go.Proofs.YtadocbfchdendaaGreatDoorW.PrintLast Go.Proofs.YtadocbfchdendaaGreatDoorW.PrintMore
attribute [local go_sem] max2_int min2_int max_two min_two max_three min_three max_four min_four   -- for this text's walks alone
set_option linter.unusedVariables false
set_option linter.unusedSimpArgs false
def entrepotref13_Same.l0 : Nat → List (S36) → List (S36) → Int → Option (Bool)
 | 0, _, _, _ => none
 | k + 1, x0, x1, x5 => if x5 < (x0.length : Int) then (if 0 ≤ x5 then (if x5 < (x1.length : Int) then (if ((rd_T36 x0 x5).f0) = ((rd_T36 x1 x5).f0) then ((entrepotref03_Same.f k ((rd_T36 x0 x5).f1) ((rd_T36 x1 x5).f1)).bind fun t105 => (if t105 = true then (entrepotref13_Same.l0 k x0 x1 (wrap64 (x5 + 1))) else (some false))) else (some false)) else (none)) else (none)) else (some true)
def entrepotref13_Same.f (k : Nat) (l0 : List (S36)) (l1 : List (S36)) : Option (Bool) := if (l0.length : Int) = (l1.length : Int) then (entrepotref13_Same.l0 k l0 l1 0) else (some false)
theorem entrepotref13_Same.mono_l : ∀ k, (∀ y0 y1 y2, LeO (entrepotref13_Same.l0 k y0 y1 y2) (entrepotref13_Same.l0 (k + 1) y0 y1 y2))
 | 0 => fun _ _ _ r h => by simp [entrepotref13_Same.l0] at h
 | k + 1 => by
  have ih0 := entrepotref13_Same.mono_l k
  ·intro y0 y1 y2
   unfold entrepotref13_Same.l0
   repeat' first
   | (with_reducible exact ih0 _ _ _)
   | (with_reducible exact entrepotref03_Same.mono _ _ _)
   | (with_reducible exact LeO.refl _)
   | (with_reducible exact LeO.none _)
   | (with_reducible refine LeO.ite ?_ ?_)
   | (with_reducible refine LeO.bind ?_ (fun _ => ?_))
   | exact ih0 _ _ _
   | exact entrepotref03_Same.mono _ _ _
   | exact LeO.none _
   | refine LeO.ite ?_ ?_
   | refine LeO.bind ?_ (fun _ => ?_)
theorem entrepotref13_Same.mono : ∀ a0 a1 k, LeO (entrepotref13_Same.f k a0 a1) (entrepotref13_Same.f (k + 1) a0 a1) := by
 intro a0 a1 k
 have ih0 := entrepotref13_Same.mono_l k; unfold entrepotref13_Same.f
 repeat' first
   | (with_reducible exact ih0 _ _ _)
   | (with_reducible exact entrepotref03_Same.mono _ _ _)
   | (with_reducible exact LeO.refl _)
   | (with_reducible exact LeO.none _)
   | (with_reducible refine LeO.ite ?_ ?_)
   | (with_reducible refine LeO.bind ?_ (fun _ => ?_))
   | exact ih0 _ _ _
   | exact entrepotref03_Same.mono _ _ _
   | exact LeO.none _
   | refine LeO.ite ?_ ?_
   | refine LeO.bind ?_ (fun _ => ?_)
set_option maxHeartbeats 8000000 in
set_option maxRecDepth 100000 in
theorem entrepotref13_Same.calls (k : Nat) (A0 : Option Addr) (c0 : Nat) (l0 : List (S36)) (A1 : Option Addr) (c1 : Nat) (l1 : List (S36)) (r : Bool) (w : World) (hr0 : Kd.C k36 w A0 l0.length l0) (hc0 : l0.length ≤ c0) (hr1 : Kd.C k36 w A1 l1.length l1) (hc1 : l1.length ≤ c1) (h : entrepotref13_Same.f k l0 l1 = some r) :
  Calls Tryz.prog 17 #[.slice A0 l0.length c0, .slice A1 l1.length c1] w fun e w' => e = .returned (.bool r) ∧ Drawn0 w w' := by
 have HR0 := Aside0.mk hr0; have HC0 := Aside0.mk hc0; clear hr0 hc0; have HR1 := Aside0.mk hr1; have HC1 := Aside0.mk hc1; clear hr1 hc1; have H : (if (l0.length : Int) = (l1.length : Int) then (entrepotref13_Same.l0 k l0 l1 0) else (some false)) = some r := h; clear h
 by_cases c3 : (l0.length : Int) = (l1.length : Int)
 ·rw [if_pos c3] at H; have c3b0 := beq_iff_eq.mpr c3; have c3b1 := bne_eq_false_iff_eq.mpr c3; have c3b2 : (l0.length == l1.length) = true := by first | simpa using c3 | (simp at c3 ⊢; omega)
  clear c3; have H' := Aside0.mk H; clear H; go_enter Tryz.func17, Tryz.ntmps17
  go_wp2
  repeat (go_quiet (fail); try go_wp2)
  (try simp only [Act.put, List.setIfInBounds_toArray, List.set_cons_zero, List.set_cons_succ])
  go_loopg [5] k (fun kq v5 w' => ∃ (x5_1 : Int), v5 = .int .i64 x5_1 ∧ Aside0 (entrepotref13_Same.l0 kq l0 l1 x5_1 = some r) ∧ Aside0 (kq ≤ k) ∧ Drawn0 w w')
  case atStart => exact ⟨(0), qr, H', ⟨Nat.le_refl _⟩, qd⟩
  case round =>
   clear H'; (try clear c1); (try clear p2); (try clear c3); (try clear c3b0); (try clear c3b1); (try clear c3b2); obtain ⟨x5_1, rfl, HA, HK1, ⟨m1, rfl⟩⟩ := hrel; cases gk with
   | zero => exact absurd HA.out (by simp [entrepotref13_Same.l0])
   | succ k1 =>
    have H := HA.out; clear HA; simp only [entrepotref13_Same.l0] at H
    by_cases c4 : x5_1 < (l0.length : Int)
    ·rw [if_pos c4] at H; have c4b0 := decide_eq_true c4; clear c4
     by_cases c5 : 0 ≤ x5_1
     ·rw [if_pos c5] at H; have c5b0 := decide_eq_true c5; clear c5
      by_cases c6 : x5_1 < (l1.length : Int)
      ·rw [if_pos c6] at H; have c6b0 := decide_eq_true c6; clear c6
       by_cases c7 : ((rd_T36 l0 x5_1).f0) = ((rd_T36 l1 x5_1).f0)
       ·rw [if_pos c7] at H; have c7b0 := beq_iff_eq.mpr c7; have c7b1 := bne_eq_false_iff_eq.mpr c7; clear c7; replace H := Option.bind_eq_some_iff.mp H; obtain ⟨t105, A80, H⟩ := H; (try dsimp only at H); have A8 := Aside0.mk A80; clear A80
        by_cases c9 : t105 = true
        ·subst c9; have H1 : (entrepotref13_Same.l0 k1 l0 l1 (wrap64 (x5_1 + 1))) = some r := by rw [if_pos rfl] at H; exact H
         clear H; have H := H1; clear H1; have H' := Aside0.mk H; clear H; have p101 : 0 ≤ (x5_1 : Int) := of_decide_eq_true qa; have q101 : x5_1 < (l0.length : Int) := of_decide_eq_true qa; obtain ⟨ad101, A101_1, c101_1, e101, hx101_0, hx101_1, hl101_1, hi101_1⟩ := at_T36 HR0.out x5_1 p101 q101; cases e101; have HR101_1 := Aside0.mk hi101_1; have HC101_1 := Aside0.mk hl101_1; clear hi101_1 hl101_1; (try simp only [Go.IntWalk.toNatUp] at hx101_0); (try simp only [Go.IntWalk.toNatUp] at hx101_1); replace p101 := eq_true p101; replace q101 := eq_true q101; have p102 : 0 ≤ (x5_1 : Int) := of_decide_eq_true qa; have q102 : x5_1 < (l1.length : Int) := of_decide_eq_true qa; obtain ⟨ad102, A102_1, c102_1, e102, hx102_0, hx102_1, hl102_1, hi102_1⟩ := at_T36 HR1.out x5_1 p102 q102; cases e102; have HR102_1 := Aside0.mk hi102_1; have HC102_1 := Aside0.mk hl102_1; clear hi102_1 hl102_1; (try simp only [Go.IntWalk.toNatUp] at hx102_0); (try simp only [Go.IntWalk.toNatUp] at hx102_1); replace p102 := eq_true p102; replace q102 := eq_true q102; have p103 : 0 ≤ (x5_1 : Int) := of_decide_eq_true qa; have q103 : x5_1 < (l0.length : Int) := of_decide_eq_true qa; obtain ⟨ad103, A103_1, c103_1, e103, hx103_0, hx103_1, hl103_1, hi103_1⟩ := at_T36 HR0.out x5_1 p103 q103; obtain rfl : ad101 = ad103 := (by injection e103); have HR103_1 := Aside0.mk hi103_1; have HC103_1 := Aside0.mk hl103_1; clear hi103_1 hl103_1; (try simp only [Go.IntWalk.toNatUp] at hx103_0); (try simp only [Go.IntWalk.toNatUp] at hx103_1); replace p103 := eq_true p103; replace q103 := eq_true q103; have ea_ := Option.some.inj (hx101_1.symm.trans hx103_1); injection ea_ with ea_ en_ ec_
         subst ea_; subst ec_; clear en_; have p104 : 0 ≤ (x5_1 : Int) := of_decide_eq_true qa; have q104 : x5_1 < (l1.length : Int) := of_decide_eq_true qa; obtain ⟨ad104, A104_1, c104_1, e104, hx104_0, hx104_1, hl104_1, hi104_1⟩ := at_T36 HR1.out x5_1 p104 q104; obtain rfl : ad102 = ad104 := (by injection e104); have HR104_1 := Aside0.mk hi104_1; have HC104_1 := Aside0.mk hl104_1; clear hi104_1 hl104_1; (try simp only [Go.IntWalk.toNatUp] at hx104_0); (try simp only [Go.IntWalk.toNatUp] at hx104_1); replace p104 := eq_true p104; replace q104 := eq_true q104; have ea_ := Option.some.inj (hx102_1.symm.trans hx104_1); injection ea_ with ea_ en_ ec_
         subst ea_; subst ec_; clear en_
         go_wp2_with (first | (go_at_call 51; (with_reducible refine (entrepotref03_Same.calls k1 _ _ ((rd_T36 l0 x5_1).f1) _ _ ((rd_T36 l1 x5_1).f1) true _ ?side1 ?side2 ?side3 ?side4 A8.out).mono ?_); (case side1 => repeat (first | exact HR103_1.out | (with_reducible refine Kd.C_alloc ?_ _) | (with_reducible refine Kd.C_drewN ?_ _) | (with_reducible refine Kd.C_drew ?_))); (case side2 => exact HC103_1.out); (case side3 => repeat (first | exact HR104_1.out | (with_reducible refine Kd.C_alloc ?_ _) | (with_reducible refine Kd.C_drewN ?_ _) | (with_reducible refine Kd.C_drew ?_))); (case side4 => exact HC104_1.out); rintro e w' ⟨rfl, ⟨nd, rfl⟩⟩; (try first | exact ⟨rfl, _, World.drewN_drewN _ _ _⟩ | exact ⟨rfl, _, Eq.trans (World.drewN_drewN _ _ _) (congrArg (World.drewN _) (Nat.add_assoc _ _ _))⟩)))
         repeat (go_quiet (first | (go_at_call 51; (try simp only [Go.IntWalk.i64_left]); (with_reducible refine (entrepotref03_Same.calls k1 _ _ ((rd_T36 l0 x5_1).f1) _ _ ((rd_T36 l1 x5_1).f1) true _ ?side1 ?side2 ?side3 ?side4 A8.out).mono ?_); (case side1 => repeat (first | exact HR103_1.out | (with_reducible refine Kd.C_alloc ?_ _) | (with_reducible refine Kd.C_drewN ?_ _) | (with_reducible refine Kd.C_drew ?_))); (case side2 => exact HC103_1.out); (case side3 => repeat (first | exact HR104_1.out | (with_reducible refine Kd.C_alloc ?_ _) | (with_reducible refine Kd.C_drewN ?_ _) | (with_reducible refine Kd.C_drew ?_))); (case side4 => exact HC104_1.out); rintro e w' ⟨rfl, ⟨nd, rfl⟩⟩; (try first | exact ⟨rfl, _, World.drewN_drewN _ _ _⟩ | exact ⟨rfl, _, Eq.trans (World.drewN_drewN _ _ _) (congrArg (World.drewN _) (Nat.add_assoc _ _ _))⟩))); (try simp only [Go.IntWalk.i64_left]); try go_wp2_with (first | (go_at_call 51; (try simp only [Go.IntWalk.i64_left]); (with_reducible refine (entrepotref03_Same.calls k1 _ _ ((rd_T36 l0 x5_1).f1) _ _ ((rd_T36 l1 x5_1).f1) true _ ?side1 ?side2 ?side3 ?side4 A8.out).mono ?_); (case side1 => repeat (first | exact HR103_1.out | (with_reducible refine Kd.C_alloc ?_ _) | (with_reducible refine Kd.C_drewN ?_ _) | (with_reducible refine Kd.C_drew ?_))); (case side2 => exact HC103_1.out); (case side3 => repeat (first | exact HR104_1.out | (with_reducible refine Kd.C_alloc ?_ _) | (with_reducible refine Kd.C_drewN ?_ _) | (with_reducible refine Kd.C_drew ?_))); (case side4 => exact HC104_1.out); rintro e w' ⟨rfl, ⟨nd, rfl⟩⟩; (try first | exact ⟨rfl, _, World.drewN_drewN _ _ _⟩ | exact ⟨rfl, _, Eq.trans (World.drewN_drewN _ _ _) (congrArg (World.drewN _) (Nat.add_assoc _ _ _))⟩))))
         go_roundg k1
         case measure => have := HK1.out; omega
         case rel => exact ⟨(wrap64 (x5_1 + 1)), qr, H', ⟨by have := HK1.out; omega⟩, qd⟩
        ·replace c9 := Bool.eq_false_iff.mpr c9; subst c9; have H1 : (some false) = some r := by rw [if_neg (show ¬ (false = true) by decide)] at H; exact H
         clear H; have H := H1; clear H1; obtain rfl := Option.some.inj H; have p101 : 0 ≤ (x5_1 : Int) := of_decide_eq_true qa; have q101 : x5_1 < (l0.length : Int) := of_decide_eq_true qa; obtain ⟨ad101, A101_1, c101_1, e101, hx101_0, hx101_1, hl101_1, hi101_1⟩ := at_T36 HR0.out x5_1 p101 q101; cases e101; have HR101_1 := Aside0.mk hi101_1; have HC101_1 := Aside0.mk hl101_1; clear hi101_1 hl101_1; (try simp only [Go.IntWalk.toNatUp] at hx101_0); (try simp only [Go.IntWalk.toNatUp] at hx101_1); replace p101 := eq_true p101; replace q101 := eq_true q101; have p102 : 0 ≤ (x5_1 : Int) := of_decide_eq_true qa; have q102 : x5_1 < (l1.length : Int) := of_decide_eq_true qa; obtain ⟨ad102, A102_1, c102_1, e102, hx102_0, hx102_1, hl102_1, hi102_1⟩ := at_T36 HR1.out x5_1 p102 q102; cases e102; have HR102_1 := Aside0.mk hi102_1; have HC102_1 := Aside0.mk hl102_1; clear hi102_1 hl102_1; (try simp only [Go.IntWalk.toNatUp] at hx102_0); (try simp only [Go.IntWalk.toNatUp] at hx102_1); replace p102 := eq_true p102; replace q102 := eq_true q102; have p103 : 0 ≤ (x5_1 : Int) := of_decide_eq_true qa; have q103 : x5_1 < (l0.length : Int) := of_decide_eq_true qa; obtain ⟨ad103, A103_1, c103_1, e103, hx103_0, hx103_1, hl103_1, hi103_1⟩ := at_T36 HR0.out x5_1 p103 q103; obtain rfl : ad101 = ad103 := (by injection e103); have HR103_1 := Aside0.mk hi103_1; have HC103_1 := Aside0.mk hl103_1; clear hi103_1 hl103_1; (try simp only [Go.IntWalk.toNatUp] at hx103_0); (try simp only [Go.IntWalk.toNatUp] at hx103_1); replace p103 := eq_true p103; replace q103 := eq_true q103; have ea_ := Option.some.inj (hx101_1.symm.trans hx103_1); injection ea_ with ea_ en_ ec_
         subst ea_; subst ec_; clear en_; have p104 : 0 ≤ (x5_1 : Int) := of_decide_eq_true qa; have q104 : x5_1 < (l1.length : Int) := of_decide_eq_true qa; obtain ⟨ad104, A104_1, c104_1, e104, hx104_0, hx104_1, hl104_1, hi104_1⟩ := at_T36 HR1.out x5_1 p104 q104; obtain rfl : ad102 = ad104 := (by injection e104); have HR104_1 := Aside0.mk hi104_1; have HC104_1 := Aside0.mk hl104_1; clear hi104_1 hl104_1; (try simp only [Go.IntWalk.toNatUp] at hx104_0); (try simp only [Go.IntWalk.toNatUp] at hx104_1); replace p104 := eq_true p104; replace q104 := eq_true q104; have ea_ := Option.some.inj (hx102_1.symm.trans hx104_1); injection ea_ with ea_ en_ ec_
         subst ea_; subst ec_; clear en_
         go_wp2_with (first | (go_at_call 51; (with_reducible refine (entrepotref03_Same.calls k1 _ _ ((rd_T36 l0 x5_1).f1) _ _ ((rd_T36 l1 x5_1).f1) false _ ?side1 ?side2 ?side3 ?side4 A8.out).mono ?_); (case side1 => repeat (first | exact HR103_1.out | (with_reducible refine Kd.C_alloc ?_ _) | (with_reducible refine Kd.C_drewN ?_ _) | (with_reducible refine Kd.C_drew ?_))); (case side2 => exact HC103_1.out); (case side3 => repeat (first | exact HR104_1.out | (with_reducible refine Kd.C_alloc ?_ _) | (with_reducible refine Kd.C_drewN ?_ _) | (with_reducible refine Kd.C_drew ?_))); (case side4 => exact HC104_1.out); rintro e w' ⟨rfl, ⟨nd, rfl⟩⟩; (try first | exact ⟨rfl, _, World.drewN_drewN _ _ _⟩ | exact ⟨rfl, _, Eq.trans (World.drewN_drewN _ _ _) (congrArg (World.drewN _) (Nat.add_assoc _ _ _))⟩)))
         repeat (go_quiet (first | (go_at_call 51; (try simp only [Go.IntWalk.i64_left]); (with_reducible refine (entrepotref03_Same.calls k1 _ _ ((rd_T36 l0 x5_1).f1) _ _ ((rd_T36 l1 x5_1).f1) false _ ?side1 ?side2 ?side3 ?side4 A8.out).mono ?_); (case side1 => repeat (first | exact HR103_1.out | (with_reducible refine Kd.C_alloc ?_ _) | (with_reducible refine Kd.C_drewN ?_ _) | (with_reducible refine Kd.C_drew ?_))); (case side2 => exact HC103_1.out); (case side3 => repeat (first | exact HR104_1.out | (with_reducible refine Kd.C_alloc ?_ _) | (with_reducible refine Kd.C_drewN ?_ _) | (with_reducible refine Kd.C_drew ?_))); (case side4 => exact HC104_1.out); rintro e w' ⟨rfl, ⟨nd, rfl⟩⟩; (try first | exact ⟨rfl, _, World.drewN_drewN _ _ _⟩ | exact ⟨rfl, _, Eq.trans (World.drewN_drewN _ _ _) (congrArg (World.drewN _) (Nat.add_assoc _ _ _))⟩))); (try simp only [Go.IntWalk.i64_left]); try go_wp2_with (first | (go_at_call 51; (try simp only [Go.IntWalk.i64_left]); (with_reducible refine (entrepotref03_Same.calls k1 _ _ ((rd_T36 l0 x5_1).f1) _ _ ((rd_T36 l1 x5_1).f1) false _ ?side1 ?side2 ?side3 ?side4 A8.out).mono ?_); (case side1 => repeat (first | exact HR103_1.out | (with_reducible refine Kd.C_alloc ?_ _) | (with_reducible refine Kd.C_drewN ?_ _) | (with_reducible refine Kd.C_drew ?_))); (case side2 => exact HC103_1.out); (case side3 => repeat (first | exact HR104_1.out | (with_reducible refine Kd.C_alloc ?_ _) | (with_reducible refine Kd.C_drewN ?_ _) | (with_reducible refine Kd.C_drew ?_))); (case side4 => exact HC104_1.out); rintro e w' ⟨rfl, ⟨nd, rfl⟩⟩; (try first | exact ⟨rfl, _, World.drewN_drewN _ _ _⟩ | exact ⟨rfl, _, Eq.trans (World.drewN_drewN _ _ _) (congrArg (World.drewN _) (Nat.add_assoc _ _ _))⟩))))
         go_ret
         exact ⟨qr, qd⟩
       ·rw [if_neg c7] at H; have c7b0 := beq_eq_false_iff_ne.mpr c7; have c7b1 := bne_iff_ne.mpr c7; obtain rfl := Option.some.inj H; have p101 : 0 ≤ (x5_1 : Int) := of_decide_eq_true qa; have q101 : x5_1 < (l0.length : Int) := of_decide_eq_true qa; obtain ⟨ad101, A101_1, c101_1, e101, hx101_0, hx101_1, hl101_1, hi101_1⟩ := at_T36 HR0.out x5_1 p101 q101; cases e101; have HR101_1 := Aside0.mk hi101_1; have HC101_1 := Aside0.mk hl101_1; clear hi101_1 hl101_1; (try simp only [Go.IntWalk.toNatUp] at hx101_0); (try simp only [Go.IntWalk.toNatUp] at hx101_1); replace p101 := eq_true p101; replace q101 := eq_true q101; have p102 : 0 ≤ (x5_1 : Int) := of_decide_eq_true qa; have q102 : x5_1 < (l1.length : Int) := of_decide_eq_true qa; obtain ⟨ad102, A102_1, c102_1, e102, hx102_0, hx102_1, hl102_1, hi102_1⟩ := at_T36 HR1.out x5_1 p102 q102; cases e102; have HR102_1 := Aside0.mk hi102_1; have HC102_1 := Aside0.mk hl102_1; clear hi102_1 hl102_1; (try simp only [Go.IntWalk.toNatUp] at hx102_0); (try simp only [Go.IntWalk.toNatUp] at hx102_1); replace p102 := eq_true p102; replace q102 := eq_true q102
        go_wp2
        repeat (go_quiet (fail); try go_wp2)
        go_ret
        exact ⟨qr, qd⟩
      ·rw [if_neg c6] at H
       exact absurd H (by simp)
     ·rw [if_neg c5] at H
      exact absurd H (by simp)
    ·rw [if_neg c4] at H; have c4b0 := decide_eq_false c4; clear c4; obtain rfl := Option.some.inj H
     go_wp2
     repeat (go_quiet (fail); try go_wp2)
     go_ret
     exact ⟨qr, qd⟩
 ·rw [if_neg c3] at H; have c3b0 := beq_eq_false_iff_ne.mpr c3; have c3b1 := bne_iff_ne.mpr c3; have c3b2 : (l0.length == l1.length) = false := by first | simpa using c3 | (simp at c3 ⊢; omega)
  obtain rfl := Option.some.inj H; go_enter Tryz.func17, Tryz.ntmps17
  go_wp2
  repeat (go_quiet (fail); try go_wp2)
  go_ret
  exact ⟨qr, qd⟩

end Go.Proofs.YtadocbfchdendaaGreatDoor.P
namespace Go.Proofs.YtadocbfchdendaaGreatDoor.P
open Go.RowKit Go.Proofs.YtadocbfchdendaaGreatDoorW.PrintWords Go.Proofs.YtadocbfchdendaaGreatDoorW.PrintLast Go.Proofs.YtadocbfchdendaaGreatDoorW.PrintMore
attribute [local go_sem] max2_int min2_int max_two min_two max_three min_three max_four min_four   -- for this text's walks alone
set_option linter.unusedVariables false
set_option linter.unusedSimpArgs false
mutual
def entrepotlaw13_its.l0 : Nat → List (S32) → List (S36) → Int → Option ((List (S36)))
 | 0, _, _, _ => none
 | k + 1, x0, x3, x4 => if x4 < (x0.length : Int) then (if 0 ≤ x4 then (entrepotlaw13_its.l1 k x0 x3 x4 0 ((rd_T32 x0 x4).f0) ([] : List (S104))) else (none)) else (some x3)
def entrepotlaw13_its.l1 : Nat → List (S32) → List (S36) → Int → Int → Int → List (S104) → Option ((List (S36)))
 | 0, _, _, _, _, _, _ => none
 | k + 1, x0, x3, x4, x6, x106000, x106001 => if 0 ≤ x4 then (if x4 < (x0.length : Int) then (if x6 < (((rd_T32 x0 x4).f1).length : Int) then (if 0 ≤ x6 then (if x106001.length < 8796093022208 then (entrepotlaw13_its.l1 k x0 x3 x4 (wrap64 (x6 + 1)) x106000 (x106001 ++ [(⟨(rd_T105 ((rd_T32 x0 x4).f1) x6).f0, (rd_T105 ((rd_T32 x0 x4).f1) x6).f1⟩ : S104)])) else (none)) else (none)) else (if x3.length < 4398046511104 then (entrepotlaw13_its.l0 k x0 (x3 ++ [(⟨x106000, x106001⟩ : S36)]) (wrap64 (x4 + 1))) else (none))) else (none)) else (none)
end
def entrepotlaw13_its.f (k : Nat) (l0 : List (S32)) : Option ((List (S36))) := entrepotlaw13_its.l0 k l0 (([] : List (S36))) 0
theorem entrepotlaw13_its.mono_l : ∀ k, (∀ y0 y1 y2, LeO (entrepotlaw13_its.l0 k y0 y1 y2) (entrepotlaw13_its.l0 (k + 1) y0 y1 y2)) ∧ (∀ y0 y1 y2 y3 y4 y5, LeO (entrepotlaw13_its.l1 k y0 y1 y2 y3 y4 y5) (entrepotlaw13_its.l1 (k + 1) y0 y1 y2 y3 y4 y5))
 | 0 => ⟨fun _ _ _ r h => by simp [entrepotlaw13_its.l0] at h, fun _ _ _ _ _ _ r h => by simp [entrepotlaw13_its.l1] at h⟩
 | k + 1 => by
  obtain ⟨ih0, ih1⟩ := entrepotlaw13_its.mono_l k; refine ⟨?_, ?_⟩
  ·intro y0 y1 y2
   unfold entrepotlaw13_its.l0
   repeat' first
   | (with_reducible exact ih0 _ _ _)
   | (with_reducible exact ih1 _ _ _ _ _ _)
   | (with_reducible exact LeO.refl _)
   | (with_reducible exact LeO.none _)
   | (with_reducible refine LeO.ite ?_ ?_)
   | (with_reducible refine LeO.bind ?_ (fun _ => ?_))
   | exact ih0 _ _ _
   | exact ih1 _ _ _ _ _ _
   | exact LeO.none _
   | refine LeO.ite ?_ ?_
   | refine LeO.bind ?_ (fun _ => ?_)
  ·intro y0 y1 y2 y3 y4 y5
   unfold entrepotlaw13_its.l1
   repeat' first
   | (with_reducible exact ih0 _ _ _)
   | (with_reducible exact ih1 _ _ _ _ _ _)
   | (with_reducible exact LeO.refl _)
   | (with_reducible exact LeO.none _)
   | (with_reducible refine LeO.ite ?_ ?_)
   | (with_reducible refine LeO.bind ?_ (fun _ => ?_))
   | exact ih0 _ _ _
   | exact ih1 _ _ _ _ _ _
   | exact LeO.none _
   | refine LeO.ite ?_ ?_
   | refine LeO.bind ?_ (fun _ => ?_)
theorem entrepotlaw13_its.mono : ∀ a0 k, LeO (entrepotlaw13_its.f k a0) (entrepotlaw13_its.f (k + 1) a0) := by
 intro a0 k
 obtain ⟨ih0, ih1⟩ := entrepotlaw13_its.mono_l k; unfold entrepotlaw13_its.f
 repeat' first
   | (with_reducible exact ih0 _ _ _)
   | (with_reducible exact ih1 _ _ _ _ _ _)
   | (with_reducible exact LeO.refl _)
   | (with_reducible exact LeO.none _)
   | (with_reducible refine LeO.ite ?_ ?_)
   | (with_reducible refine LeO.bind ?_ (fun _ => ?_))
   | exact ih0 _ _ _
   | exact ih1 _ _ _ _ _ _
   | exact LeO.none _
   | refine LeO.ite ?_ ?_
   | refine LeO.bind ?_ (fun _ => ?_)
def entrepotlaw13_its.T9 : Bool × List (List Nat × List Nat) := (true, [([], []), ([0], [0]), ([], []), ([], []), ([2, 3], [2, 3]), ([4], [4]), ([5], [5]), ([], []), ([6, 7], [6, 7]), ([8], [8]), ([9], [9]), ([1, 10], [1, 10]), ([0, 1, 2, 3, 4, 5, 6, 7, 8, 9, 10, 11], []), ([12, 11, 11, 0, 1, 2, 3, 4, 5, 6, 7, 8, 9, 10, 11], [11, 12])])
def entrepotlaw13_its.B9 : List Nat := [0, 1, 0, 0, 12, 28, 60, 0, 252, 508, 1020, 2047, 4095, 8191]
theorem entrepotlaw13_its.tab9 : rtab .any (opsOf Tryz.f18 9) = entrepotlaw13_its.T9 := by kernel_rfl
theorem entrepotlaw13_its.bits9 : waitsOk entrepotlaw13_its.T9.2 entrepotlaw13_its.B9 = true := by kernel_rfl
set_option maxHeartbeats 8000000 in
set_option maxRecDepth 100000 in
theorem entrepotlaw13_its.calls (k : Nat) (A0 : Option Addr) (c0 : Nat) (l0 : List (S32)) (r : List (S36)) (w : World) (hr0 : Kd.C k32 w A0 l0.length l0) (hc0 : l0.length ≤ c0) (h : entrepotlaw13_its.f k l0 = some r) :
  Calls Tryz.prog 18 #[.slice A0 l0.length c0] w fun e w' => ∃ v0_ : Value, e = .returned (v0_) ∧ Kd.S k36 36 w' w.heap.size (fun _ => True) v0_ r ∧ Below w.heap.size w w' := by
 have hu36 := Tryz.underlying36; have hu105 := Tryz.underlying105; have HR0 := Aside0.mk hr0; have HC0 := Aside0.mk hc0; clear hr0 hc0; have HB := Aside0.mk (Below.refl w.heap.size w); have H : (entrepotlaw13_its.l0 k l0 (([] : List (S36))) 0) = some r := h; clear h; obtain ⟨y101, hy101⟩ : ∃ y_ : List (S36), y_ = (([] : List (S36))) := ⟨_, rfl⟩; replace H : (entrepotlaw13_its.l0 k l0 y101 0) = some r := by first | (rw [hy101]; with_reducible exact H) | (have H2_ := (Option.bind_some _ _).symm.trans H; rw [hy101]; with_reducible exact H2_) | (have H2_ := (Option.bind_some _ _).symm.trans H; with_reducible exact H2_) | with_reducible exact H | (rw [hy101]; exact H) | exact H
 have Ny101 := Aside0.mk hy101; clear hy101; have H' := Aside0.mk H; clear H; go_enter Tryz.func18, Tryz.ntmps18
 go_wp2_with (first | ((with_reducible refine gate_dst (N := 7) rfl ?_); refine Kd.S_lit k36 _ 36 ?hg (N := 7) ?hd (xs := ([] : List (S36))) (inner := []) (ok := fun _ => True) (okp := fun _ => True) ?hr ?hp (fun _ hk => hk) trivial (Below.refl _ _) (Nat.le_refl _) (by simp) ?_; (case hd => rfl); (case hg => rfl); (case hr => first | (go_simp; done) | (go_simp; rfl)); (case hp => exact (Reps.none _ _)); intro v102 w2 ho3 hb hg_ hnew_; clear hg_ hnew_; (first | rw [← Ny101.out] at ho3 | (simp only [Int.reduceToNat] at ho3; rw [← Ny101.out] at ho3)); have HO103 := Aside0.mk (Kd.S_lower ho3 (below_size qb)); replace HB := cB HB hb; clear hb ho3))
 (try simp only [Act.put, List.setIfInBounds_toArray, List.set_cons_zero, List.set_cons_succ])
 go_loopg [3, 4] k (fun kq v3 v4 w' => ∃ (x3_1 : List (S36)) (x4_1 : Int), v4 = .int .i64 x4_1 ∧ Aside0 (entrepotlaw13_its.l0 kq l0 x3_1 x4_1 = some r) ∧ Aside0 (kq ≤ k) ∧ Aside0 (Kd.S k36 36 w' w.heap.size (fun _ => True) v3 x3_1) ∧ Aside0 (Below w.heap.size w w'))
 case atStart => exact ⟨(y101), (0), qr, H', ⟨Nat.le_refl _⟩, ⟨qS HO103.out⟩, ⟨qb⟩⟩
 case round =>
  clear H'; (try clear c1); (try clear p2); obtain ⟨x3_1, x4_1, rfl, HA, HK1, HO_3, HB⟩ := hrel; cases gk with
  | zero => exact absurd HA.out (by simp [entrepotlaw13_its.l0])
  | succ k1 =>
   have H := HA.out; clear HA; simp only [entrepotlaw13_its.l0] at H
   by_cases c4 : x4_1 < (l0.length : Int)
   ·rw [if_pos c4] at H; have c4b0 := decide_eq_true c4; clear c4
    by_cases c5 : 0 ≤ x4_1
    ·rw [if_pos c5] at H; have c5b0 := decide_eq_true c5; clear c5; have H' := Aside0.mk H; clear H; have p104 : 0 ≤ (x4_1 : Int) := of_decide_eq_true qa; have q104 : x4_1 < (l0.length : Int) := of_decide_eq_true qa; obtain ⟨ad104, A104_1, c104_1, e104, hx104_0, hx104_1, hl104_1, hi104_1⟩ := at_T32 HR0.out x4_1 p104 q104; cases e104; replace hx104_0 := (HB.out.cell (World.block_lt_of_cell? w _ hx104_0)).trans hx104_0; replace hx104_1 := (HB.out.cell (World.block_lt_of_cell? w _ hx104_1)).trans hx104_1; have HR104_1 := Aside0.mk hi104_1; have HC104_1 := Aside0.mk hl104_1; clear hi104_1 hl104_1; (try simp only [Go.IntWalk.toNatUp] at hx104_0); (try simp only [Go.IntWalk.toNatUp] at hx104_1); replace p104 := eq_true p104; replace q104 := eq_true q104
     go_wp2_with (first | ((with_reducible refine gate_dst (N := 5) rfl ?_); refine box_ev (N := 5) (cs := #[.int .i64 0, .slice none 0 0]) (t := 36) ?_; intro gb105 hg w6 hbox hb; have n0_ := Aside0.mk (Kd.S_below (Kd.S_elderB (qS HO_3.out) gb105 (Nat.le_of_eq hg.symm)) hb); have BK105 := Aside0.mk (hbox); have GW105 := Aside0.mk ((qg : w.heap.size ≤ gb105)); have GE105 := Aside0.mk ((qg : w.heap.size ≤ gb105)); replace HB := cB HB hb; replace HO_3 := n0_; clear n0_; clear hb hbox hg; have hcz7_0 : w6.cell? ⟨gb105, 0, none⟩ = some (.int .i64 0) := (blk_cell BK105.out 0).trans rfl; have hcz7_1 : w6.cell? ⟨gb105, 1, none⟩ = some (.slice none 0 0) := (blk_cell BK105.out 1).trans rfl; have hfz7_0 := blk_frozen BK105.out 0; have hfz7_1 := blk_frozen BK105.out 1))
     (try simp only [Act.put, List.setIfInBounds_toArray, List.set_cons_zero, List.set_cons_succ])
     go_loopg [6] k1 (fun kq v6 w' => ∃ (x6_2 : Int) (x106001_2 : List (S104)) (u106001 : Value), v6 = .int .i64 x6_2 ∧ Aside0 (entrepotlaw13_its.l1 kq l0 x3_1 x4_1 x6_2 ((rd_T32 l0 x4_1).f0) x106001_2 = some r) ∧ Aside0 (kq ≤ k1) ∧ Aside0 (Kd.S k36 36 w' w.heap.size (fun k_ => some k_ ≠ (u106001 : Value).ownBlock ∧ k_ ≠ gb105) u3 x3_1) ∧ Aside0 (Kd.R k104 104 w' w.heap.size (fun _ => True) u106001 x106001_2) ∧ Aside0 (w'.heap[gb105]? = some (.cells #[.int .i64 ((rd_T32 l0 x4_1).f0), u106001] 36 (0, 0))) ∧ Aside0 (Below w.heap.size w w'))
     case atStart => exact ⟨(0), (([] : List (S104))), (.slice none 0 0), qr, H', ⟨Nat.le_refl _⟩, ⟨by refine qS ?_; exact Kd.S_mono (Kd.S_far (p := ⟨gb105, 1, none⟩) (Kd.S_far (p := ⟨gb105, 0, none⟩) (Kd.S_mono HO_3.out (fun k_ hk => (⟨hk, hk.2⟩ : _ ∧ k_ ≠ gb105))) (fun _ hk => hk.2) (.int .i64 ((rd_T32 l0 x4_1).f0))) (fun _ hk => hk.2) (.slice none 0 0)) (fun _ hk => ⟨(by simp [Value.ownBlock]), hk.1.2⟩)⟩, ⟨by first | exact Kd.R_nil _ _ _ _ _ | exact Kd.N_nil _ _ _ _ _ | exact Kd.V_nil _ _ _ _ _ | exact Kd.Q_nil _ _ _ _ _ | exact Kd.S_nil _ _ _ _ _⟩, ⟨by refine qk ?_; refine blk_put (cs := #[.int .i64 ((rd_T32 l0 x4_1).f0), .slice none 0 0]) ?_ 1 _ rfl; refine qk ?_; refine blk_put (cs := #[.int .i64 0, .slice none 0 0]) ?_ 0 _ rfl; refine qk ?_; exact BK105.out⟩, ⟨qb⟩⟩
     case round =>
      clear H'; (try clear c1); (try clear p1); (try clear q1); (try clear hx1); (try clear p2); (try clear c4); (try clear c4b0); (try clear c5); (try clear c5b0); (try clear hcz7_0); (try clear hcz7_1); (try clear hfz7_0); (try clear hfz7_1); (try clear hx104_0); (try clear hx104_1); (try clear p104); (try clear p2); (try clear q104); obtain ⟨x6_2, x106001_2, u106001, rfl, HA, HK2, HO_3, HO_106001, BK105, HB⟩ := hrel; cases gk with
      | zero => exact absurd HA.out (by simp [entrepotlaw13_its.l1])
      | succ k2 =>
       have H := HA.out; clear HA; simp only [entrepotlaw13_its.l1] at H
       by_cases c8 : 0 ≤ x4_1
       ·rw [if_pos c8] at H; have c8b0 := decide_eq_true c8; clear c8
        by_cases c9 : x4_1 < (l0.length : Int)
        ·rw [if_pos c9] at H; have c9b0 := decide_eq_true c9; clear c9
         by_cases c10 : x6_2 < (((rd_T32 l0 x4_1).f1).length : Int)
         ·rw [if_pos c10] at H; have c10b0 := decide_eq_true c10; clear c10
          by_cases c11 : 0 ≤ x6_2
          ·rw [if_pos c11] at H; have c11b0 := decide_eq_true c11; clear c11
           by_cases c12 : x106001_2.length < 8796093022208
           ·rw [if_pos c12] at H; have LMc12 := Aside0.mk c12; clear c12; obtain ⟨y109, hy109⟩ : ∃ y_ : List (S104), y_ = (x106001_2 ++ [(⟨(rd_T105 ((rd_T32 l0 x4_1).f1) x6_2).f0, (rd_T105 ((rd_T32 l0 x4_1).f1) x6_2).f1⟩ : S104)]) := ⟨_, rfl⟩; replace H : (entrepotlaw13_its.l1 k2 l0 x3_1 x4_1 (wrap64 (x6_2 + 1)) ((rd_T32 l0 x4_1).f0) y109) = some r := by first | (rw [hy109]; with_reducible exact H) | (have H2_ := (Option.bind_some _ _).symm.trans H; rw [hy109]; with_reducible exact H2_) | (have H2_ := (Option.bind_some _ _).symm.trans H; with_reducible exact H2_) | with_reducible exact H | (rw [hy109]; exact H) | exact H
            have Ny109 := Aside0.mk hy109; clear hy109; have H' := Aside0.mk H; clear H; have p106 : 0 ≤ (x4_1 : Int) := of_decide_eq_true qa; have q106 : x4_1 < (l0.length : Int) := of_decide_eq_true qa; obtain ⟨ad106, A106_1, c106_1, e106, hx106_0, hx106_1, hl106_1, hi106_1⟩ := at_T32 HR0.out x4_1 p106 q106; obtain rfl : ad104 = ad106 := (by injection e106); replace hx106_0 := (HB.out.cell (World.block_lt_of_cell? w _ hx106_0)).trans hx106_0; replace hx106_1 := (HB.out.cell (World.block_lt_of_cell? w _ hx106_1)).trans hx106_1; have HR106_1 := Aside0.mk hi106_1; have HC106_1 := Aside0.mk hl106_1; clear hi106_1 hl106_1; (try simp only [Go.IntWalk.toNatUp] at hx106_0); (try simp only [Go.IntWalk.toNatUp] at hx106_1); replace p106 := eq_true p106; replace q106 := eq_true q106
            try go_wp2
            have n0_ := Aside0.mk (Kd.S_drew HO_3.out); have n1_ := Aside0.mk (Kd.R_drew HO_106001.out); have n2_ := Aside0.mk (blk_drew BK105.out); have n3_ := Aside0.mk (below_drew1 HB.out); clear HO_3; clear HO_106001; clear BK105; clear HB; have HO_3 := n0_; have HO_106001 := n1_; have BK105 := n2_; have HB := n3_; clear n0_ n1_ n2_ n3_; have p107 : 0 ≤ (x4_1 : Int) := of_decide_eq_true qa; have q107 : x4_1 < (l0.length : Int) := of_decide_eq_true qa; obtain ⟨ad107, A107_1, c107_1, e107, hx107_0, hx107_1, hl107_1, hi107_1⟩ := at_T32 HR0.out x4_1 p107 q107; have hw107_1 := hx107_1; have hw107_0 := hx107_0; obtain rfl : ad104 = ad107 := (by injection e107); replace hx107_0 := (HB.out.cell (World.block_lt_of_cell? w _ hx107_0)).trans hx107_0; replace hx107_1 := (HB.out.cell (World.block_lt_of_cell? w _ hx107_1)).trans hx107_1; have HR107_1 := Aside0.mk hi107_1; have HC107_1 := Aside0.mk hl107_1; clear hi107_1 hl107_1; (try simp only [Go.IntWalk.toNatUp] at hx107_0); (try simp only [Go.IntWalk.toNatUp] at hx107_1); replace p107 := eq_true p107; replace q107 := eq_true q107; have p108 : 0 ≤ (x6_2 : Int) := of_decide_eq_true qa; have q108 : x6_2 < (((rd_T32 l0 x4_1).f1).length : Int) := of_decide_eq_true qa; obtain ⟨ad108, e108, hx108_0, hx108_1⟩ := at_T105 HR107_1.out x6_2 p108 q108; have hw108_1 := hx108_1; have hw108_0 := hx108_0; cases e108; replace hx108_0 := (HB.out.cell (World.block_lt_of_cell? w _ hx108_0)).trans hx108_0; replace hx108_1 := (HB.out.cell (World.block_lt_of_cell? w _ hx108_1)).trans hx108_1; (try simp only [Go.IntWalk.toNatUp] at hx108_0); (try simp only [Go.IntWalk.toNatUp] at hx108_1); replace p108 := eq_true p108; replace q108 := eq_true q108; refine start_ (n := 14) (S := fun w' => w'.cell? ⟨gb105, 0, none⟩ = some (.int .i64 ((rd_T32 l0 x4_1).f0)) ∧ w'.cell? ⟨gb105, 1, none⟩ = some (u106001) ∧ w'.cell? (ad104.add ((x4_1).toNat * 2)) = some (.int .i64 ((rd_T32 l0 x4_1).f0)) ∧ w'.cell? ⟨(ad104.add ((x4_1).toNat * 2)).block, (ad104.add ((x4_1).toNat * 2)).off + 1, none⟩ = some (.slice (some ad108) ((rd_T32 l0 x4_1).f1).length c107_1) ∧ w'.cell? (ad108.add ((x6_2).toNat * 2)) = some (.int .i64 ((rd_T105 ((rd_T32 l0 x4_1).f1) x6_2).f0)) ∧ w'.cell? ⟨(ad108.add ((x6_2).toNat * 2)).block, (ad108.add ((x6_2).toNat * 2)).off + 1, none⟩ = some (.int .i64 ((rd_T105 ((rd_T32 l0 x4_1).f1) x6_2).f1))) (ds := [13]) #[false, false, false, false, false, false, false, false, false, false, false, false, false, false] (by kernel_rfl) rfl rfl ⟨(blk_cell BK105.out 0).trans rfl, (blk_cell BK105.out 1).trans rfl, ((HB.out.cell (World.block_lt_of_cell? w _ hw107_0)).trans hw107_0), ((HB.out.cell (World.block_lt_of_cell? w _ hw107_1)).trans hw107_1), ((HB.out.cell (World.block_lt_of_cell? w _ hw108_0)).trans hw108_0), ((HB.out.cell (World.block_lt_of_cell? w _ hw108_1)).trans hw108_1)⟩ (fun hHeld => ?_); refine with_tabW entrepotlaw13_its.tab9 entrepotlaw13_its.bits9 (fun HT_ HW_ => ?_); generalize wr.drew = w13 at HO_3 HO_106001 BK105 HB HR107_1 hx107_0 hx107_1 hx108_0 hx108_1 hHeld ⊢
            refine pure_ (i := 0) (N := some 30) (v := ?_) (a' := ?_) #[true, false, false, false, false, false, false, false, false, false, false, false, false, false] rfl rfl (any_of HT_.out (by kernel_rfl)) (fun _ _ _ h => h) (Or.inl ⟨by rfl, ?_⟩) ?_ ?_
            rotate_left
            ·intro w'
             go_simp
             with_reducible rfl
            rotate_left
            ·simp only [Act.put, List.setIfInBounds_toArray, List.set_cons_zero, List.set_cons_succ, i64_w, i32_w]
             rfl
            refine pure_ (i := 2) (N := some 32) (v := ?_) (a' := ?_) #[true, false, true, false, false, false, false, false, false, false, false, false, false, false] rfl rfl (any_of HT_.out (by kernel_rfl)) (fun _ _ _ h => h) (Or.inl ⟨by rfl, ?_⟩) ?_ ?_
            rotate_left
            ·intro w'
             go_simp
             with_reducible rfl
            rotate_left
            ·simp only [Act.put, List.setIfInBounds_toArray, List.set_cons_zero, List.set_cons_succ, i64_w, i32_w]
             rfl
            refine pure_ (i := 3) (N := some 33) (v := ?_) (a' := ?_) #[true, false, true, true, false, false, false, false, false, false, false, false, false, false] rfl rfl (any_of HT_.out (by kernel_rfl)) (fun _ _ _ h => h) (Or.inl ⟨by rfl, ?_⟩) ?_ ?_
            rotate_left
            ·intro w'
             go_simp
             with_reducible rfl
            rotate_left
            ·simp only [Act.put, List.setIfInBounds_toArray, List.set_cons_zero, List.set_cons_succ, i64_w, i32_w]
             rfl
            refine pure_ (i := 4) (N := some 34) (v := ?_) (a' := ?_) #[true, false, true, true, true, false, false, false, false, false, false, false, false, false] rfl rfl (any_of HT_.out (by kernel_rfl)) (fun _ _ _ h => h) (Or.inl ⟨by rfl, ?_⟩) ?_ ?_
            rotate_left
            ·intro w'
             go_simp
             with_reducible rfl
            rotate_left
            ·simp only [Act.put, List.setIfInBounds_toArray, List.set_cons_zero, List.set_cons_succ, i64_w, i32_w]
             rfl
            refine pure_ (i := 5) (N := some 35) (v := ?_) (a' := ?_) #[true, false, true, true, true, true, false, false, false, false, false, false, false, false] rfl rfl (any_of HT_.out (by kernel_rfl)) (fun _ _ _ h => h) (Or.inl ⟨by rfl, ?_⟩) ?_ ?_
            rotate_left
            ·intro w'
             go_simp
             with_reducible rfl
            rotate_left
            ·simp only [Act.put, List.setIfInBounds_toArray, List.set_cons_zero, List.set_cons_succ, i64_w, i32_w]
             rfl
            refine pure_ (i := 7) (N := some 37) (v := ?_) (a' := ?_) #[true, false, true, true, true, true, false, true, false, false, false, false, false, false] rfl rfl (any_of HT_.out (by kernel_rfl)) (fun _ _ _ h => h) (Or.inl ⟨by rfl, ?_⟩) ?_ ?_
            rotate_left
            ·intro w'
             go_simp
             with_reducible rfl
            rotate_left
            ·simp only [Act.put, List.setIfInBounds_toArray, List.set_cons_zero, List.set_cons_succ, i64_w, i32_w]
             rfl
            refine take_ (i := 1) (N := some 31) (v := ?_) (a' := ?_) #[true, true, true, true, true, true, false, true, false, false, false, false, false, false] rfl rfl (take_ofW HT_.out HW_.out (by kernel_rfl)) (fun _ _ _ h => h) (Or.inl ⟨by rfl, ?_⟩) hHeld ?_ ?_
            rotate_left
            ·rintro w' ⟨s0, s1, s2, s3, s4, s5⟩
             go_simp
             with_reducible rfl
            rotate_left
            ·simp only [Act.put, List.setIfInBounds_toArray, List.set_cons_zero, List.set_cons_succ, i64_w, i32_w]
             rfl
            refine take_ (i := 6) (N := some 36) (v := ?_) (a' := ?_) #[true, true, true, true, true, true, true, true, false, false, false, false, false, false] rfl rfl (take_ofW HT_.out HW_.out (by kernel_rfl)) (fun _ _ _ h => h) (Or.inl ⟨by rfl, ?_⟩) hHeld ?_ ?_
            rotate_left
            ·rintro w' ⟨s0, s1, s2, s3, s4, s5⟩
             go_simp
             with_reducible rfl
            rotate_left
            ·simp only [Act.put, List.setIfInBounds_toArray, List.set_cons_zero, List.set_cons_succ, i64_w, i32_w]
             rfl
            refine pure_ (i := 8) (N := some 38) (v := ?_) (a' := ?_) #[true, true, true, true, true, true, true, true, true, false, false, false, false, false] rfl rfl (any_of HT_.out (by kernel_rfl)) (fun _ _ _ h => h) (Or.inl ⟨by rfl, ?_⟩) ?_ ?_
            rotate_left
            ·intro w'
             go_simp
             with_reducible rfl
            rotate_left
            ·simp only [Act.put, List.setIfInBounds_toArray, List.set_cons_zero, List.set_cons_succ, i64_w, i32_w]
             rfl
            refine take_ (i := 9) (N := some 39) (v := ?_) (a' := ?_) #[true, true, true, true, true, true, true, true, true, true, false, false, false, false] rfl rfl (take_ofW HT_.out HW_.out (by kernel_rfl)) (fun _ _ _ h => h) (Or.inl ⟨by rfl, ?_⟩) hHeld ?_ ?_
            rotate_left
            ·rintro w' ⟨s0, s1, s2, s3, s4, s5⟩
             go_simp
             with_reducible rfl
            rotate_left
            ·simp only [Act.put, List.setIfInBounds_toArray, List.set_cons_zero, List.set_cons_succ, i64_w, i32_w]
             rfl
            refine one_ (i := 10) (N := some 40) #[true, true, true, true, true, true, true, true, true, true, true, false, false, false] rfl rfl (one_of HT_.out (by kernel_rfl)) (by decide) (fun K hK => ?_); refine value_ (w1 := ?_) (v := ?_) (by rfl) rfl ?_ ?_
            rotate_left 2
            ·go_simp
             constructor
             ·rfl
             ·rfl
            refine hK.out _ _ ⟨(blk_cell (blk_alloc BK105.out _) 0).trans rfl, (blk_cell (blk_alloc BK105.out _) 1).trans rfl, (World.cell?_alloc_lt _ _ _ (World.block_lt_of_cell? _ _ (((HB.out.cell (World.block_lt_of_cell? w _ hw107_0)).trans hw107_0)))).trans (((HB.out.cell (World.block_lt_of_cell? w _ hw107_0)).trans hw107_0)), (World.cell?_alloc_lt _ _ _ (World.block_lt_of_cell? _ _ (((HB.out.cell (World.block_lt_of_cell? w _ hw107_1)).trans hw107_1)))).trans (((HB.out.cell (World.block_lt_of_cell? w _ hw107_1)).trans hw107_1)), (World.cell?_alloc_lt _ _ _ (World.block_lt_of_cell? _ _ (((HB.out.cell (World.block_lt_of_cell? w _ hw108_0)).trans hw108_0)))).trans (((HB.out.cell (World.block_lt_of_cell? w _ hw108_0)).trans hw108_0)), (World.cell?_alloc_lt _ _ _ (World.block_lt_of_cell? _ _ (((HB.out.cell (World.block_lt_of_cell? w _ hw108_1)).trans hw108_1)))).trans (((HB.out.cell (World.block_lt_of_cell? w _ hw108_1)).trans hw108_1))⟩ (fun hHeld => ?_); clear hK K; refine norm_ (a' := ?_) ?_ ?_
            rotate_left
            ·show Act.put _ (some 40) _ = _
             simp only [Act.put, List.setIfInBounds_toArray, List.set_cons_zero, List.set_cons_succ, i64_w, i32_w]
             rfl
            refine one_ (i := 11) (N := some 41) #[true, true, true, true, true, true, true, true, true, true, true, true, false, false] rfl rfl (one_of HT_.out (by kernel_rfl)) (by decide) (fun K hK => ?_); refine Kd.R_append_step k104 (w0 := w) w.heap.size (by rfl) (.tmp 31) (.tmp 40) 34 104 (.agg #[(.int .i64 0), (.int .i64 0)]) 16 rfl Tryz.underlying34 info104 rfl (by decide) (by omega) u106001 x106001_2 (⟨(rd_T105 ((rd_T32 l0 x4_1).f1) x6_2).f0, (rd_T105 ((rd_T32 l0 x4_1).f1) x6_2).f1⟩ : S104) [.int .i64 ((rd_T105 ((rd_T32 l0 x4_1).f1) x6_2).f0), .int .i64 ((rd_T105 ((rd_T32 l0 x4_1).f1) x6_2).f1)] (fun _ => True) (fun _ => False) rfl rfl ?aP (fun _ hk => hk.elim) ?aF ?aO ?aB ?aS ?aL ?_; (case aP => exact k104_mkM _ _ _ (⟨(rd_T105 ((rd_T32 l0 x4_1).f1) x6_2).f0, (rd_T105 ((rd_T32 l0 x4_1).f1) x6_2).f1⟩ : S104)); (case aB => exact qb); (case aF => exact (fun _ _ => trivial)); (case aO => exact (qR HO_106001.out)); (case aS => exact (below_size qb)); (case aL => have := LMc12.out; omega)
            intro v110 w14 ho hb hg hat
            rw [← Ny109.out] at ho; have n0_ := Aside0.mk (Kd.S_after (ok := (fun k_ => k_ ≠ gb105)) (by refine qS ?_; exact Kd.S_mono HO_3.out (fun _ hk => ⟨hk.2, hk.1⟩)) hg hat); have n1_ := Aside0.mk (blk_grown (g := gb105) (o := .cells #[.int .i64 ((rd_T32 l0 x4_1).f0), u106001] 36 (0, 0)) (qk BK105.out) hg (Kd.R_ne HO_106001.out BK105.out (by decide))); have n2_ := Aside0.mk (hb); have n3_ := Aside0.mk (ho); clear HO_3; clear BK105; clear HB; clear HO_106001; have HO_3 := n0_; have BK105 := n1_; have HB := n2_; have HO111 := n3_; clear n0_ n1_ n2_ n3_; clear ho hb hg hat; obtain ⟨Ao15, co15, eo15⟩ := Kd.R_slice HO111.out; (first | subst eo15 | (injection eo15 with f1_ f2_ f3_; have f4_ := f1_.symm; have f5_ := f3_.symm; clear f1_ f2_ f3_; subst f4_; subst f5_)); refine hK.out _ _ ⟨(blk_cell BK105.out 0).trans rfl, (blk_cell BK105.out 1).trans rfl, ((HB.out.cell (World.block_lt_of_cell? w _ hw107_0)).trans hw107_0), ((HB.out.cell (World.block_lt_of_cell? w _ hw107_1)).trans hw107_1), ((HB.out.cell (World.block_lt_of_cell? w _ hw108_0)).trans hw108_0), ((HB.out.cell (World.block_lt_of_cell? w _ hw108_1)).trans hw108_1)⟩ (fun hHeld => ?_); clear hK K; refine norm_ (a' := ?_) ?_ ?_
            rotate_left
            ·show Act.put _ (some 41) _ = _
             simp only [Act.put, List.setIfInBounds_toArray, List.set_cons_zero, List.set_cons_succ, i64_w, i32_w]
             rfl
            refine pure_ (i := 12) (N := some 42) (v := ?_) (a' := ?_) #[true, true, true, true, true, true, true, true, true, true, true, true, true, false] rfl rfl (any_of HT_.out (by kernel_rfl)) (fun _ _ _ h => h) (Or.inl ⟨by rfl, ?_⟩) ?_ ?_
            rotate_left
            ·intro w'
             go_simp
             with_reducible rfl
            rotate_left
            ·simp only [Act.put, List.setIfInBounds_toArray, List.set_cons_zero, List.set_cons_succ, i64_w, i32_w]
             rfl
            refine last_ (i := 13) (N := none) #[true, true, true, true, true, true, true, true, true, true, true, true, true, true] rfl rfl (one_of HT_.out (by kernel_rfl)) (by decide) (fun K hK => ?_); have hs16 : w14.cell? ⟨gb105, 1, none⟩ = some (u106001) := (blk_cell BK105.out 1).trans rfl; have hfs16 := blk_frozen BK105.out 1; refine skip_ (w1 := ?_) (by rfl) rfl ?_ ?_
            rotate_left
            ·go_simp
             rfl
            refine hK.out _ _ ?_; clear hK K; refine done_ (done_of HT_.out (by kernel_rfl)) ?_
            try go_wp2
            go_roundg k2
            case measure => have := HK1.out; have := HK2.out; omega
            case rel => exact ⟨(wrap64 (x6_2 + 1)), (y109), (.slice Ao15 y109.length co15), qr, H', ⟨by have := HK1.out; have := HK2.out; omega⟩, ⟨by refine qS ?_; exact Kd.S_mono (Kd.S_far (p := ⟨gb105, 1, none⟩) (Kd.S_mono HO_3.out (fun k_ hk => (⟨hk, hk.1⟩ : _ ∧ k_ ≠ gb105))) (fun _ hk => hk.2) (.slice Ao15 y109.length co15)) (fun _ hk => ⟨hk.1.2, hk.1.1⟩)⟩, ⟨by refine qR ?_; exact Kd.R_mono (Kd.R_far (p := ⟨gb105, 1, none⟩) (Kd.R_types HO111.out BK105.out (by decide)) (fun _ hk => hk.2) (.slice Ao15 y109.length co15)) (fun _ hk => trivial)⟩, ⟨by refine qk ?_; refine blk_put (cs := #[.int .i64 ((rd_T32 l0 x4_1).f0), u106001]) ?_ 1 _ rfl; refine qk ?_; exact BK105.out⟩, ⟨qb⟩⟩
           ·rw [if_neg c12] at H
            exact absurd H (by simp)
          ·rw [if_neg c11] at H
           exact absurd H (by simp)
         ·rw [if_neg c10] at H; have c10b0 := decide_eq_false c10; clear c10
          by_cases c17 : x3_1.length < 4398046511104
          ·rw [if_pos c17] at H; have LMc17 := Aside0.mk c17; clear c17; obtain ⟨y112, hy112⟩ : ∃ y_ : List (S36), y_ = (x3_1 ++ [(⟨((rd_T32 l0 x4_1).f0), x106001_2⟩ : S36)]) := ⟨_, rfl⟩; replace H : (entrepotlaw13_its.l0 k2 l0 y112 (wrap64 (x4_1 + 1))) = some r := by first | (rw [hy112]; with_reducible exact H) | (have H2_ := (Option.bind_some _ _).symm.trans H; rw [hy112]; with_reducible exact H2_) | (have H2_ := (Option.bind_some _ _).symm.trans H; with_reducible exact H2_) | with_reducible exact H | (rw [hy112]; exact H) | exact H
           have Ny112 := Aside0.mk hy112; clear hy112; have H' := Aside0.mk H; clear H; have p106 : 0 ≤ (x4_1 : Int) := of_decide_eq_true qa; have q106 : x4_1 < (l0.length : Int) := of_decide_eq_true qa; obtain ⟨ad106, A106_1, c106_1, e106, hx106_0, hx106_1, hl106_1, hi106_1⟩ := at_T32 HR0.out x4_1 p106 q106; obtain rfl : ad104 = ad106 := (by injection e106); replace hx106_0 := (HB.out.cell (World.block_lt_of_cell? w _ hx106_0)).trans hx106_0; replace hx106_1 := (HB.out.cell (World.block_lt_of_cell? w _ hx106_1)).trans hx106_1; have HR106_1 := Aside0.mk hi106_1; have HC106_1 := Aside0.mk hl106_1; clear hi106_1 hl106_1; (try simp only [Go.IntWalk.toNatUp] at hx106_0); (try simp only [Go.IntWalk.toNatUp] at hx106_1); replace p106 := eq_true p106; replace q106 := eq_true q106; obtain ⟨hcz18_0, hcz18_1, hfz18_0, hfz18_1⟩ := bc2 BK105.out; obtain ⟨Ao20, co20, eo20⟩ := Kd.R_slice HO_106001.out; subst eo20
           go_wp2_with (first | ((with_reducible refine gate_builtin (b := .append) (xs := #[.tmp 43, .tmp 45]) rfl ?_); at_builtin; refine Kd.S_append k36 (w0 := w) w.heap.size rfl (.tmp 43) (.tmp 45) 25 36 (.agg #[(.int .i64 0), (.slice none 0 0)]) 32 rfl Tryz.underlying25 info36 rfl (by decide) (by omega) u3 x3_1 (⟨((rd_T32 l0 x4_1).f0), x106001_2⟩ : S36) [.int .i64 ((rd_T32 l0 x4_1).f0), .slice Ao20 x106001_2.length co20] (fun k_ => k_ ≠ gb105) (fun k_ => some k_ = (.slice Ao20 x106001_2.length co20 : Value).ownBlock) rfl rfl ?aP (fun k_ hk_ => ((Kd.R_mono (ok' := fun k_ => ((fun k_ => k_ ≠ gb105)) k_ ∧ some k_ ≠ (u3 : Value).ownBlock) (Kd.R_types (Kd.R_apart' (HO_106001.out) (Kd.S_typed HO_3.out) (by decide)) BK105.out (by decide)) (fun k_ hk => ⟨hk.2, hk.1.2⟩))).1 k_ hk_.symm) ?aF ?aO ?aB ?aS ?aL ?_; (case aP => exact k36_mkM _ _ _ (⟨((rd_T32 l0 x4_1).f0), x106001_2⟩ : S36) (Kd.R_mono (Kd.R_tight rfl (Kd.R_mono (ok' := fun k_ => ((fun k_ => k_ ≠ gb105)) k_ ∧ some k_ ≠ (u3 : Value).ownBlock) (Kd.R_types (Kd.R_apart' (HO_106001.out) (Kd.S_typed HO_3.out) (by decide)) BK105.out (by decide)) (fun k_ hk => ⟨hk.2, hk.1.2⟩))) (fun _ h_ => h_))); (case aB => exact qb); (case aF => exact (fun k_ hk => Kd.freshB (g := gb105) (o := .cells #[.int .i64 ((rd_T32 l0 x4_1).f0), .slice Ao20 x106001_2.length co20] 36 (0, 0)) (qk BK105.out) k_ hk)); (case aO => exact (by refine qS ?_; exact Kd.S_mono HO_3.out (fun k_ hk => ⟨hk.2, fun e_ => hk.1 e_⟩))); (case aS => exact (below_size qb)); (case aL => have := LMc17.out; omega); intro v113 w19 ho hb hg hat; rw [← Ny112.out] at ho; have n0_ := Aside0.mk (blk_grown (g := gb105) (o := .cells #[.int .i64 ((rd_T32 l0 x4_1).f0), .slice Ao20 x106001_2.length co20] 36 (0, 0)) (qk BK105.out) hg (Kd.S_away HO_3.out (fun _ hk => hk.2))); have n1_ := Aside0.mk (hb); have HO114 := Aside0.mk (ho); replace BK105 := n0_; replace HB := n1_; clear n0_ n1_; clear HO_106001; clear HO_3; clear ho hb hg hat))
           go_roundg k2
           case measure => have := HK1.out; have := HK2.out; omega
           case rel => exact ⟨(y112), (wrap64 (x4_1 + 1)), qr, H', ⟨by have := HK1.out; have := HK2.out; omega⟩, ⟨by refine qS ?_; exact Kd.S_mono HO114.out (fun _ hk => trivial)⟩, ⟨qb⟩⟩
          ·rw [if_neg c17] at H
           exact absurd H (by simp)
        ·rw [if_neg c9] at H
         exact absurd H (by simp)
       ·rw [if_neg c8] at H
        exact absurd H (by simp)
    ·rw [if_neg c5] at H
     exact absurd H (by simp)
   ·rw [if_neg c4] at H; have c4b0 := decide_eq_false c4; clear c4; obtain rfl := Option.some.inj H
    go_wp2
    go_ret
    exact ⟨_, qe, by refine qS ?_; exact HO_3.out, qb⟩

end Go.Proofs.YtadocbfchdendaaGreatDoor.P
namespace Go.Proofs.YtadocbfchdendaaGreatDoor.P
open Go.RowKit Go.Proofs.YtadocbfchdendaaGreatDoorW.PrintWords Go.Proofs.YtadocbfchdendaaGreatDoorW.PrintLast Go.Proofs.YtadocbfchdendaaGreatDoorW.PrintMore
attribute [local go_sem] max2_int min2_int max_two min_two max_three min_three max_four min_four   -- for this text's walks alone
set_option linter.unusedVariables false
set_option linter.unusedSimpArgs false
def entrepotref07_Ints.l0 : Nat → List Int → List Int → Int → Option (Bool)
 | 0, _, _, _ => none
 | k + 1, x0, x1, x5 => if x5 < (x0.length : Int) then (if 0 ≤ x5 then (if x5 < (x1.length : Int) then (if (rd x0 x5) = (rd x1 x5) then (entrepotref07_Ints.l0 k x0 x1 (wrap64 (x5 + 1))) else (some false)) else (none)) else (none)) else (some true)
def entrepotref07_Ints.f (k : Nat) (l0 : List Int) (l1 : List Int) : Option (Bool) := if (l0.length : Int) = (l1.length : Int) then (entrepotref07_Ints.l0 k l0 l1 0) else (some false)
theorem entrepotref07_Ints.mono_l : ∀ k, (∀ y0 y1 y2, LeO (entrepotref07_Ints.l0 k y0 y1 y2) (entrepotref07_Ints.l0 (k + 1) y0 y1 y2))
 | 0 => fun _ _ _ r h => by simp [entrepotref07_Ints.l0] at h
 | k + 1 => by
  have ih0 := entrepotref07_Ints.mono_l k
  ·intro y0 y1 y2
   unfold entrepotref07_Ints.l0
   repeat' first
   | (with_reducible exact ih0 _ _ _)
   | (with_reducible exact LeO.refl _)
   | (with_reducible exact LeO.none _)
   | (with_reducible refine LeO.ite ?_ ?_)
   | (with_reducible refine LeO.bind ?_ (fun _ => ?_))
   | exact ih0 _ _ _
   | exact LeO.none _
   | refine LeO.ite ?_ ?_
   | refine LeO.bind ?_ (fun _ => ?_)
theorem entrepotref07_Ints.mono : ∀ a0 a1 k, LeO (entrepotref07_Ints.f k a0 a1) (entrepotref07_Ints.f (k + 1) a0 a1) := by
 intro a0 a1 k
 have ih0 := entrepotref07_Ints.mono_l k; unfold entrepotref07_Ints.f
 repeat' first
   | (with_reducible exact ih0 _ _ _)
   | (with_reducible exact LeO.refl _)
   | (with_reducible exact LeO.none _)
   | (with_reducible refine LeO.ite ?_ ?_)
   | (with_reducible refine LeO.bind ?_ (fun _ => ?_))
   | exact ih0 _ _ _
   | exact LeO.none _
   | refine LeO.ite ?_ ?_
   | refine LeO.bind ?_ (fun _ => ?_)
set_option maxHeartbeats 8000000 in
set_option maxRecDepth 100000 in
theorem entrepotref07_Ints.calls (k : Nat) (A0 : Option Addr) (c0 : Nat) (l0 : List Int) (A1 : Option Addr) (c1 : Nat) (l1 : List Int) (r : Bool) (w : World) (hr0 : Kd.C (Kd.int .i64) w A0 l0.length l0) (hc0 : l0.length ≤ c0) (hr1 : Kd.C (Kd.int .i64) w A1 l1.length l1) (hc1 : l1.length ≤ c1) (h : entrepotref07_Ints.f k l0 l1 = some r) :
  Calls Tryz.prog 23 #[.slice A0 l0.length c0, .slice A1 l1.length c1] w fun e w' => e = .returned (.bool r) ∧ Drawn0 w w' := by
 have HR0 := Aside0.mk hr0; have HC0 := Aside0.mk hc0; clear hr0 hc0; have HR1 := Aside0.mk hr1; have HC1 := Aside0.mk hc1; clear hr1 hc1; have H : (if (l0.length : Int) = (l1.length : Int) then (entrepotref07_Ints.l0 k l0 l1 0) else (some false)) = some r := h; clear h
 by_cases c3 : (l0.length : Int) = (l1.length : Int)
 ·rw [if_pos c3] at H; have c3b0 := beq_iff_eq.mpr c3; have c3b1 := bne_eq_false_iff_eq.mpr c3; have c3b2 : (l0.length == l1.length) = true := by first | simpa using c3 | (simp at c3 ⊢; omega)
  clear c3; have H' := Aside0.mk H; clear H; go_enter Tryz.func23, Tryz.ntmps23
  go_wp2
  repeat (go_quiet (fail); try go_wp2)
  (try simp only [Act.put, List.setIfInBounds_toArray, List.set_cons_zero, List.set_cons_succ])
  go_loopg [5] k (fun kq v5 w' => ∃ (x5_1 : Int), v5 = .int .i64 x5_1 ∧ Aside0 (entrepotref07_Ints.l0 kq l0 l1 x5_1 = some r) ∧ Aside0 (kq ≤ k) ∧ Drawn0 w w')
  case atStart => exact ⟨(0), qr, H', ⟨Nat.le_refl _⟩, qd⟩
  case round =>
   clear H'; (try clear c1); (try clear c2); (try clear p2); (try clear c3); (try clear c3b0); (try clear c3b1); (try clear c3b2); obtain ⟨x5_1, rfl, HA, HK1, ⟨m1, rfl⟩⟩ := hrel; cases gk with
   | zero => exact absurd HA.out (by simp [entrepotref07_Ints.l0])
   | succ k1 =>
    have H := HA.out; clear HA; simp only [entrepotref07_Ints.l0] at H
    by_cases c4 : x5_1 < (l0.length : Int)
    ·rw [if_pos c4] at H; have c4b0 := decide_eq_true c4; clear c4
     by_cases c5 : 0 ≤ x5_1
     ·rw [if_pos c5] at H; have c5b0 := decide_eq_true c5; clear c5
      by_cases c6 : x5_1 < (l1.length : Int)
      ·rw [if_pos c6] at H; have c6b0 := decide_eq_true c6; clear c6
       by_cases c7 : (rd l0 x5_1) = (rd l1 x5_1)
       ·rw [if_pos c7] at H; have c7b0 := beq_iff_eq.mpr c7; have c7b1 := bne_eq_false_iff_eq.mpr c7; clear c7; have H' := Aside0.mk H; clear H; have p101 : 0 ≤ (x5_1 : Int) := of_decide_eq_true qa; have q101 : x5_1 < (l0.length : Int) := of_decide_eq_true qa; obtain ⟨ad101, e101, hx101_0⟩ := Kd.at_int HR0.out x5_1 p101 q101; cases e101; (try simp only [Go.IntWalk.toNatUp] at hx101_0); replace p101 := eq_true p101; replace q101 := eq_true q101; have p102 : 0 ≤ (x5_1 : Int) := of_decide_eq_true qa; have q102 : x5_1 < (l1.length : Int) := of_decide_eq_true qa; obtain ⟨ad102, e102, hx102_0⟩ := Kd.at_int HR1.out x5_1 p102 q102; cases e102; (try simp only [Go.IntWalk.toNatUp] at hx102_0); replace p102 := eq_true p102; replace q102 := eq_true q102
        go_wp2
        repeat (go_quiet (fail); try go_wp2)
        go_roundg k1
        case measure => have := HK1.out; omega
        case rel => exact ⟨(wrap64 (x5_1 + 1)), qr, H', ⟨by have := HK1.out; omega⟩, qd⟩
       ·rw [if_neg c7] at H; have c7b0 := beq_eq_false_iff_ne.mpr c7; have c7b1 := bne_iff_ne.mpr c7; obtain rfl := Option.some.inj H; have p101 : 0 ≤ (x5_1 : Int) := of_decide_eq_true qa; have q101 : x5_1 < (l0.length : Int) := of_decide_eq_true qa; obtain ⟨ad101, e101, hx101_0⟩ := Kd.at_int HR0.out x5_1 p101 q101; cases e101; (try simp only [Go.IntWalk.toNatUp] at hx101_0); replace p101 := eq_true p101; replace q101 := eq_true q101; have p102 : 0 ≤ (x5_1 : Int) := of_decide_eq_true qa; have q102 : x5_1 < (l1.length : Int) := of_decide_eq_true qa; obtain ⟨ad102, e102, hx102_0⟩ := Kd.at_int HR1.out x5_1 p102 q102; cases e102; (try simp only [Go.IntWalk.toNatUp] at hx102_0); replace p102 := eq_true p102; replace q102 := eq_true q102
        go_wp2
        repeat (go_quiet (fail); try go_wp2)
        go_ret
        exact ⟨qr, qd⟩
      ·rw [if_neg c6] at H
       exact absurd H (by simp)
     ·rw [if_neg c5] at H
      exact absurd H (by simp)
    ·rw [if_neg c4] at H; have c4b0 := decide_eq_false c4; clear c4; obtain rfl := Option.some.inj H
     go_wp2
     repeat (go_quiet (fail); try go_wp2)
     go_ret
     exact ⟨qr, qd⟩
 ·rw [if_neg c3] at H; have c3b0 := beq_eq_false_iff_ne.mpr c3; have c3b1 := bne_iff_ne.mpr c3; have c3b2 : (l0.length == l1.length) = false := by first | simpa using c3 | (simp at c3 ⊢; omega)
  obtain rfl := Option.some.inj H; go_enter Tryz.func23, Tryz.ntmps23
  go_wp2
  repeat (go_quiet (fail); try go_wp2)
  go_ret
  exact ⟨qr, qd⟩

end Go.Proofs.YtadocbfchdendaaGreatDoor.P
namespace Go.Proofs.YtadocbfchdendaaGreatDoor.P
open Go.RowKit Go.Proofs.YtadocbfchdendaaGreatDoorW.PrintWords Go.Proofs.YtadocbfchdendaaGreatDoorW.PrintLast Go.Proofs.YtadocbfchdendaaGreatDoorW.PrintMore
attribute [local go_sem] max2_int min2_int max_two min_two max_three min_three max_four min_four   -- for this text's walks alone
set_option linter.unusedVariables false
set_option linter.unusedSimpArgs false
def entrepotref03_Text.f (a0 : ByteArray) (a1_0 : Int) (a1_1 : Int) : Option (ByteArray) := (entrepotref03_places.f a0 a1_0 a1_1).bind fun t102 => (if t102 = true then (if 0 ≤ a1_0 then (if a1_0 ≤ a1_1 then (if a1_1 ≤ (a0.size : Int) then (some (a0.extract (a1_0 : Int).toNat (a1_1 : Int).toNat)) else (none)) else (none)) else (none)) else (some (⟨#[]⟩ : ByteArray)))
set_option maxHeartbeats 8000000 in
set_option maxRecDepth 100000 in
theorem entrepotref03_Text.calls (a0 : ByteArray) (a1_0 : Int) (a1_1 : Int) (r : ByteArray) (w : World) (h : entrepotref03_Text.f a0 a1_0 a1_1 = some r) :
  Calls Tryz.prog 55 #[.string a0, .agg #[.int .i64 a1_0, .int .i64 a1_1]] w fun e w' => e = .returned (.string r) ∧ Below w.heap.size w w' := by
 have hu104 := Tryz.underlying104; have HB := Aside0.mk (Below.refl w.heap.size w); have H : ((entrepotref03_places.f a0 a1_0 a1_1).bind fun t102 => (if t102 = true then (if 0 ≤ a1_0 then (if a1_0 ≤ a1_1 then (if a1_1 ≤ (a0.size : Int) then (some (a0.extract (a1_0 : Int).toNat (a1_1 : Int).toNat)) else (none)) else (none)) else (none)) else (some (⟨#[]⟩ : ByteArray)))) = some r := h; clear h; replace H := Option.bind_eq_some_iff.mp H; obtain ⟨t102, A30, H⟩ := H; (try dsimp only at H); have A3 := Aside0.mk A30; clear A30
 by_cases c4 : t102 = true
 ·subst c4; have H1 : (if 0 ≤ a1_0 then (if a1_0 ≤ a1_1 then (if a1_1 ≤ (a0.size : Int) then (some (a0.extract (a1_0 : Int).toNat (a1_1 : Int).toNat)) else (none)) else (none)) else (none)) = some r := by rw [if_pos rfl] at H; exact H
  clear H; have H := H1; clear H1
  by_cases c5 : 0 ≤ a1_0
  ·rw [if_pos c5] at H; have c5b0 := eq_true c5; have c5b1 := decide_eq_true c5; clear c5
   by_cases c6 : a1_0 ≤ a1_1
   ·rw [if_pos c6] at H; have c6b0 := eq_true c6; have c6b1 := decide_eq_true c6; clear c6
    by_cases c7 : a1_1 ≤ (a0.size : Int)
    ·rw [if_pos c7] at H; have c7b0 := eq_true c7; have c7b1 := decide_eq_true c7; clear c7; obtain rfl := Option.some.inj H; go_enter Tryz.func55, Tryz.ntmps55
     go_wp2_with (first | ((with_reducible refine gate_dst (N := 3) rfl ?_); refine box_ev (N := 3) (cs := #[.int .i64 a1_0, .int .i64 a1_1]) (t := 104) ?_; intro gb101 hg w8 hbox hb; have BK101 := Aside0.mk (hbox); have GW101 := Aside0.mk ((qg : w.heap.size ≤ gb101)); have GE101 := Aside0.mk ((qg : w.heap.size ≤ gb101)); replace HB := cB HB hb; clear hb hbox hg; have hcz9_0 : w8.cell? ⟨gb101, 0, none⟩ = some (.int .i64 a1_0) := (blk_cell BK101.out 0).trans rfl; have hcz9_1 : w8.cell? ⟨gb101, 1, none⟩ = some (.int .i64 a1_1) := (blk_cell BK101.out 1).trans rfl; have hfz9_0 := blk_frozen BK101.out 0; have hfz9_1 := blk_frozen BK101.out 1) | ((with_reducible refine gate_callee (f := 93) rfl ?_); refine goesL_ (some 10) rfl rfl Tryz.func93 (by kernel_rfl) rfl #[.string a0, .int .i64 a1_0, .int .i64 a1_1] rfl qm ?_; (with_reducible refine (entrepotref03_places.calls a0 a1_0 a1_1 true _ A3.out).mono ?_); rintro e w' ⟨rfl, ⟨nd, rfl⟩⟩; refine ⟨_, rfl, ?_⟩))
     go_ret
     exact ⟨qe, qb⟩
    ·rw [if_neg c7] at H
     exact absurd H (by simp)
   ·rw [if_neg c6] at H
    exact absurd H (by simp)
  ·rw [if_neg c5] at H
   exact absurd H (by simp)
 ·replace c4 := Bool.eq_false_iff.mpr c4; subst c4; have H1 : (some (⟨#[]⟩ : ByteArray)) = some r := by rw [if_neg (show ¬ (false = true) by decide)] at H; exact H
  clear H; have H := H1; clear H1; obtain rfl := Option.some.inj H; go_enter Tryz.func55, Tryz.ntmps55
  go_wp2_with (first | ((with_reducible refine gate_dst (N := 3) rfl ?_); refine box_ev (N := 3) (cs := #[.int .i64 a1_0, .int .i64 a1_1]) (t := 104) ?_; intro gb101 hg w10 hbox hb; have BK101 := Aside0.mk (hbox); have GW101 := Aside0.mk ((qg : w.heap.size ≤ gb101)); have GE101 := Aside0.mk ((qg : w.heap.size ≤ gb101)); replace HB := cB HB hb; clear hb hbox hg; have hcz11_0 : w10.cell? ⟨gb101, 0, none⟩ = some (.int .i64 a1_0) := (blk_cell BK101.out 0).trans rfl; have hcz11_1 : w10.cell? ⟨gb101, 1, none⟩ = some (.int .i64 a1_1) := (blk_cell BK101.out 1).trans rfl; have hfz11_0 := blk_frozen BK101.out 0; have hfz11_1 := blk_frozen BK101.out 1) | ((with_reducible refine gate_callee (f := 93) rfl ?_); refine goesL_ (some 10) rfl rfl Tryz.func93 (by kernel_rfl) rfl #[.string a0, .int .i64 a1_0, .int .i64 a1_1] rfl qm ?_; (with_reducible refine (entrepotref03_places.calls a0 a1_0 a1_1 false _ A3.out).mono ?_); rintro e w' ⟨rfl, ⟨nd, rfl⟩⟩; refine ⟨_, rfl, ?_⟩))
  go_ret
  exact ⟨qe, qb⟩

end Go.Proofs.YtadocbfchdendaaGreatDoor.P
namespace Go.Proofs.YtadocbfchdendaaGreatDoor.P
open Go.RowKit Go.Proofs.YtadocbfchdendaaGreatDoorW.PrintWords Go.Proofs.YtadocbfchdendaaGreatDoorW.PrintLast Go.Proofs.YtadocbfchdendaaGreatDoorW.PrintMore
attribute [local go_sem] max2_int min2_int max_two min_two max_three min_three max_four min_four   -- for this text's walks alone
set_option linter.unusedVariables false
set_option linter.unusedSimpArgs false
mutual
def entrepotref02_digits.j0 : Nat → ByteArray → Bool → Option (Int × Bool)
 | 0, _, _ => none
 | k + 1, x0, x16 => if x16 = true then (some (0, false)) else (entrepotref02_digits.l0 k x0 0 0)
def entrepotref02_digits.l0 : Nat → ByteArray → Int → Int → Option (Int × Bool)
 | 0, _, _, _ => none
 | k + 1, x0, x6, x7 => if x7 < (x0.size : Int) then (if 0 ≤ x7 then (if (bt x0 x7) < 48 then (some (0, false)) else (if (bt x0 x7) > 57 then (some (0, false)) else (entrepotref02_digits.l0 k x0 (wrap64 ((wrap64 (10 * x6)) + (((bt x0 x7) - 48) % 256))) (wrap64 (x7 + 1))))) else (none)) else (some (x6, true))
end
def entrepotref02_digits.f (k : Nat) (a0 : ByteArray) (a1 : Int) : Option (Int × Bool) := if (a0.size : Int) < 1 then (entrepotref02_digits.j0 k a0 true) else (entrepotref02_digits.j0 k a0 (decide ((a0.size : Int) > a1)))
theorem entrepotref02_digits.mono_l : ∀ k, (∀ y0 y1, LeO (entrepotref02_digits.j0 k y0 y1) (entrepotref02_digits.j0 (k + 1) y0 y1)) ∧ (∀ y0 y1 y2, LeO (entrepotref02_digits.l0 k y0 y1 y2) (entrepotref02_digits.l0 (k + 1) y0 y1 y2))
 | 0 => ⟨fun _ _ r h => by simp [entrepotref02_digits.j0] at h, fun _ _ _ r h => by simp [entrepotref02_digits.l0] at h⟩
 | k + 1 => by
  obtain ⟨ih0, ih1⟩ := entrepotref02_digits.mono_l k; refine ⟨?_, ?_⟩
  ·intro y0 y1
   unfold entrepotref02_digits.j0
   repeat' first
   | (with_reducible exact ih0 _ _)
   | (with_reducible exact ih1 _ _ _)
   | (with_reducible exact LeO.refl _)
   | (with_reducible exact LeO.none _)
   | (with_reducible refine LeO.ite ?_ ?_)
   | (with_reducible refine LeO.bind ?_ (fun _ => ?_))
   | exact ih0 _ _
   | exact ih1 _ _ _
   | exact LeO.none _
   | refine LeO.ite ?_ ?_
   | refine LeO.bind ?_ (fun _ => ?_)
  ·intro y0 y1 y2
   unfold entrepotref02_digits.l0
   repeat' first
   | (with_reducible exact ih0 _ _)
   | (with_reducible exact ih1 _ _ _)
   | (with_reducible exact LeO.refl _)
   | (with_reducible exact LeO.none _)
   | (with_reducible refine LeO.ite ?_ ?_)
   | (with_reducible refine LeO.bind ?_ (fun _ => ?_))
   | exact ih0 _ _
   | exact ih1 _ _ _
   | exact LeO.none _
   | refine LeO.ite ?_ ?_
   | refine LeO.bind ?_ (fun _ => ?_)
theorem entrepotref02_digits.mono : ∀ a0 a1 k, LeO (entrepotref02_digits.f k a0 a1) (entrepotref02_digits.f (k + 1) a0 a1) := by
 intro a0 a1 k
 obtain ⟨ih0, ih1⟩ := entrepotref02_digits.mono_l k; unfold entrepotref02_digits.f
 repeat' first
   | (with_reducible exact ih0 _ _)
   | (with_reducible exact ih1 _ _ _)
   | (with_reducible exact LeO.refl _)
   | (with_reducible exact LeO.none _)
   | (with_reducible refine LeO.ite ?_ ?_)
   | (with_reducible refine LeO.bind ?_ (fun _ => ?_))
   | exact ih0 _ _
   | exact ih1 _ _ _
   | exact LeO.none _
   | refine LeO.ite ?_ ?_
   | refine LeO.bind ?_ (fun _ => ?_)
set_option maxHeartbeats 8000000 in
set_option maxRecDepth 100000 in
theorem entrepotref02_digits.calls (k : Nat) (a0 : ByteArray) (a1 : Int) (r1 : Int) (r2 : Bool) (w : World) (h : entrepotref02_digits.f k a0 a1 = some (r1, r2)) :
  Calls Tryz.prog 104 #[.string a0, .int .i64 a1] w fun e w' => e = .returned (.tuple #[.int .i64 r1, .bool r2]) ∧ Drawn0 w w' := by
 have H : (if (a0.size : Int) < 1 then (entrepotref02_digits.j0 k a0 true) else (entrepotref02_digits.j0 k a0 (decide ((a0.size : Int) > a1)))) = some (r1, r2) := h; clear h; have HC3 := Aside0.mk H; clear H; go_enter Tryz.func104, Tryz.ntmps104
 go_upto_region 1 with (fail)
 go_cut [16] (fun v16 wc => ∃ (kq : Nat) (x16_2 : Bool), v16 = .bool x16_2 ∧ Aside0 (entrepotref02_digits.j0 kq a0 x16_2 = some (r1, r2)) ∧ Aside0 (kq ≤ k) ∧ Drawn0 w wc)
 case first =>
  have H := HC3.out; clear HC3
  by_cases c4 : (a0.size : Int) < 1
  ·rw [if_pos c4] at H; have c4b0 := decide_eq_true c4; have c4b1 : decide (a0.size < 1) = true := decide_eq_true (by omega); clear c4; (first | rw [c4b0] | (simp only [i64_w, i32_w]; rw [c4b0]) | skip); have H' := Aside0.mk H; clear H
   go_wp2
   go_meet
   case rel => exact ⟨_, (true), qr, H', ⟨by first | omega | exact Nat.le_refl _⟩, qd⟩
  ·rw [if_neg c4] at H; have c4b0 := decide_eq_false c4; have c4b1 : decide (a0.size < 1) = false := decide_eq_false (by omega); clear c4; (first | rw [c4b0] | (simp only [i64_w, i32_w]; rw [c4b0]) | skip); have H' := Aside0.mk H; clear H
   go_wp2
   go_meet
   case rel => exact ⟨_, (decide ((a0.size : Int) > a1)), qr, H', ⟨by first | omega | exact Nat.le_refl _⟩, qd⟩
 case rest =>
  clear HC3; (try clear c1); (try clear p2); (try clear c4); (try clear c4b0); (try clear c4b1); obtain ⟨kq, x16_2, rfl, HA, HJ2, ⟨mc2, rfl⟩⟩ := hcut; cases kq with
  | zero => exact absurd HA.out (by simp [entrepotref02_digits.j0])
  | succ kj2 =>
   have H := HA.out; clear HA; simp only [entrepotref02_digits.j0] at H
   by_cases c5 : x16_2 = true
   ·subst c5; have H1 : (some (0, false)) = some (r1, r2) := by rw [if_pos rfl] at H; exact H
    clear H; have H := H1; clear H1; simp only [Option.some.injEq, Prod.mk.injEq] at H; obtain ⟨rfl, rfl⟩ := H
    go_wp2
    go_ret2
    exact ⟨qr, qd⟩
   ·replace c5 := Bool.eq_false_iff.mpr c5; subst c5; have H1 : (entrepotref02_digits.l0 kj2 a0 0 0) = some (r1, r2) := by rw [if_neg (show ¬ (false = true) by decide)] at H; exact H
    clear H; have H := H1; clear H1; have H' := Aside0.mk H; clear H
    go_wp2
    (try simp only [Act.put, List.setIfInBounds_toArray, List.set_cons_zero, List.set_cons_succ])
    go_loopg [6, 7] kj2 (fun kq v6 v7 w' => ∃ (x6_2 : Int) (x7_2 : Int), v6 = .int .i64 x6_2 ∧ v7 = .int .i64 x7_2 ∧ Aside0 (entrepotref02_digits.l0 kq a0 x6_2 x7_2 = some (r1, r2)) ∧ Aside0 (kq ≤ kj2) ∧ Drawn0 w w')
    case atStart => exact ⟨(0), (0), qr, qr, H', ⟨Nat.le_refl _⟩, qd⟩
    case round =>
     clear H'; (try clear c1); (try clear c2); (try clear p2); (try clear c4); (try clear c4b0); (try clear c4b1); (try clear c5); (try clear p2); obtain ⟨x6_2, x7_2, rfl, rfl, HA, HK2, ⟨m2, rfl⟩⟩ := hrel; cases gk with
     | zero => exact absurd HA.out (by simp [entrepotref02_digits.l0])
     | succ k2 =>
      have H := HA.out; clear HA; simp only [entrepotref02_digits.l0] at H
      by_cases c6 : x7_2 < (a0.size : Int)
      ·rw [if_pos c6] at H; have c6b0 := decide_eq_true c6; clear c6
       by_cases c7 : 0 ≤ x7_2
       ·rw [if_pos c7] at H; have c7b0 := decide_eq_true c7; clear c7
        by_cases c9 : (bt a0 x7_2) < 48
        ·rw [if_pos c9] at H; have c9b0 := decide_eq_true c9; clear c9; simp only [Option.some.injEq, Prod.mk.injEq] at H; obtain ⟨rfl, rfl⟩ := H; have p8 : 0 ≤ (x7_2 : Int) := of_decide_eq_true qa; have q8 : x7_2 < (a0.size : Int) := of_decide_eq_true qa; have hx8 := bt_at a0 x7_2; replace p8 := eq_true p8; replace q8 := eq_true q8
         go_wp2
         go_ret2
         exact ⟨qr, qd⟩
        ·rw [if_neg c9] at H; have c9b0 := decide_eq_false c9; clear c9
         by_cases c11 : (bt a0 x7_2) > 57
         ·rw [if_pos c11] at H; have c11b0 := decide_eq_true c11; clear c11; simp only [Option.some.injEq, Prod.mk.injEq] at H; obtain ⟨rfl, rfl⟩ := H; have p8 : 0 ≤ (x7_2 : Int) := of_decide_eq_true qa; have q8 : x7_2 < (a0.size : Int) := of_decide_eq_true qa; have hx8 := bt_at a0 x7_2; replace p8 := eq_true p8; replace q8 := eq_true q8; have p10 : 0 ≤ (x7_2 : Int) := of_decide_eq_true qa; have q10 : x7_2 < (a0.size : Int) := of_decide_eq_true qa; have hx10 := bt_at a0 x7_2; replace p10 := eq_true p10; replace q10 := eq_true q10
          go_wp2
          go_ret2
          exact ⟨qr, qd⟩
         ·rw [if_neg c11] at H; have c11b0 := decide_eq_false c11; clear c11; have H' := Aside0.mk H; clear H; have p8 : 0 ≤ (x7_2 : Int) := of_decide_eq_true qa; have q8 : x7_2 < (a0.size : Int) := of_decide_eq_true qa; have hx8 := bt_at a0 x7_2; replace p8 := eq_true p8; replace q8 := eq_true q8; have p10 : 0 ≤ (x7_2 : Int) := of_decide_eq_true qa; have q10 : x7_2 < (a0.size : Int) := of_decide_eq_true qa; have hx10 := bt_at a0 x7_2; replace p10 := eq_true p10; replace q10 := eq_true q10; have p12 : 0 ≤ (x7_2 : Int) := of_decide_eq_true qa; have q12 : x7_2 < (a0.size : Int) := of_decide_eq_true qa; have hx12 := bt_at a0 x7_2; replace p12 := eq_true p12; replace q12 := eq_true q12
          go_wp2
          go_roundg k2
          case measure => have := HJ2.out; have := HK2.out; omega
          case rel => exact ⟨(wrap64 ((wrap64 (10 * x6_2)) + (((bt a0 x7_2) - 48) % 256))), (wrap64 (x7_2 + 1)), qr, qr, H', ⟨by have := HJ2.out; have := HK2.out; omega⟩, qd⟩
       ·rw [if_neg c7] at H
        exact absurd H (by simp)
      ·rw [if_neg c6] at H; have c6b0 := decide_eq_false c6; clear c6; simp only [Option.some.injEq, Prod.mk.injEq] at H; obtain ⟨rfl, rfl⟩ := H
       go_wp2
       go_ret2
       exact ⟨qr, qd⟩

end Go.Proofs.YtadocbfchdendaaGreatDoor.P
namespace Go.Proofs.YtadocbfchdendaaGreatDoor.P
open Go.RowKit Go.Proofs.YtadocbfchdendaaGreatDoorW.PrintWords Go.Proofs.YtadocbfchdendaaGreatDoorW.PrintLast Go.Proofs.YtadocbfchdendaaGreatDoorW.PrintMore
attribute [local go_sem] max2_int min2_int max_two min_two max_three min_three max_four min_four   -- for this text's walks alone
set_option linter.unusedVariables false
set_option linter.unusedSimpArgs false
mutual
def entrepotref02_Int.j0 : Nat → ByteArray → Int → Bool → Option (Int × Int)
 | 0, _, _, _ => none
 | k + 1, x0, x4, x13 => if x13 = true then (if 1 ≤ (x0.size : Int) then (entrepotref02_Int.j1 k (x0.extract 1 x0.size) (-1)) else (none)) else (entrepotref02_Int.j1 k x0 x4)
def entrepotref02_Int.j1 : Nat → ByteArray → Int → Option (Int × Int)
 | 0, _, _ => none
 | k + 1, x0, x4 => (entrepotref02_digits.f k x0 12).bind fun bt101 => (if bt101.2 = true then (if bt101.1 > 100000000 then (some (0, 2)) else (some (wrap64 (x4 * bt101.1), 0))) else (some (0, 20)))
end
def entrepotref02_Int.f (k : Nat) (a0 : ByteArray) : Option (Int × Int) := if a0.toList = ([] : List UInt8) then (entrepotref02_Int.j0 k a0 1 false) else (if 0 < (a0.size : Int) then (entrepotref02_Int.j0 k a0 1 ((bt a0 0) == 45)) else (none))
theorem entrepotref02_Int.mono_l : ∀ k, (∀ y0 y1 y2, LeO (entrepotref02_Int.j0 k y0 y1 y2) (entrepotref02_Int.j0 (k + 1) y0 y1 y2)) ∧ (∀ y0 y1, LeO (entrepotref02_Int.j1 k y0 y1) (entrepotref02_Int.j1 (k + 1) y0 y1))
 | 0 => ⟨fun _ _ _ r h => by simp [entrepotref02_Int.j0] at h, fun _ _ r h => by simp [entrepotref02_Int.j1] at h⟩
 | k + 1 => by
  obtain ⟨ih0, ih1⟩ := entrepotref02_Int.mono_l k; refine ⟨?_, ?_⟩
  ·intro y0 y1 y2
   unfold entrepotref02_Int.j0
   repeat' first
   | (with_reducible exact ih0 _ _ _)
   | (with_reducible exact ih1 _ _)
   | (with_reducible exact entrepotref02_digits.mono _ _ _)
   | (with_reducible exact LeO.refl _)
   | (with_reducible exact LeO.none _)
   | (with_reducible refine LeO.ite ?_ ?_)
   | (with_reducible refine LeO.bind ?_ (fun _ => ?_))
   | exact ih0 _ _ _
   | exact ih1 _ _
   | exact entrepotref02_digits.mono _ _ _
   | exact LeO.none _
   | refine LeO.ite ?_ ?_
   | refine LeO.bind ?_ (fun _ => ?_)
  ·intro y0 y1
   unfold entrepotref02_Int.j1
   repeat' first
   | (with_reducible exact ih0 _ _ _)
   | (with_reducible exact ih1 _ _)
   | (with_reducible exact entrepotref02_digits.mono _ _ _)
   | (with_reducible exact LeO.refl _)
   | (with_reducible exact LeO.none _)
   | (with_reducible refine LeO.ite ?_ ?_)
   | (with_reducible refine LeO.bind ?_ (fun _ => ?_))
   | exact ih0 _ _ _
   | exact ih1 _ _
   | exact entrepotref02_digits.mono _ _ _
   | exact LeO.none _
   | refine LeO.ite ?_ ?_
   | refine LeO.bind ?_ (fun _ => ?_)
theorem entrepotref02_Int.mono : ∀ a0 k, LeO (entrepotref02_Int.f k a0) (entrepotref02_Int.f (k + 1) a0) := by
 intro a0 k
 obtain ⟨ih0, ih1⟩ := entrepotref02_Int.mono_l k; unfold entrepotref02_Int.f
 repeat' first
   | (with_reducible exact ih0 _ _ _)
   | (with_reducible exact ih1 _ _)
   | (with_reducible exact entrepotref02_digits.mono _ _ _)
   | (with_reducible exact LeO.refl _)
   | (with_reducible exact LeO.none _)
   | (with_reducible refine LeO.ite ?_ ?_)
   | (with_reducible refine LeO.bind ?_ (fun _ => ?_))
   | exact ih0 _ _ _
   | exact ih1 _ _
   | exact entrepotref02_digits.mono _ _ _
   | exact LeO.none _
   | refine LeO.ite ?_ ?_
   | refine LeO.bind ?_ (fun _ => ?_)
set_option maxHeartbeats 8000000 in
set_option maxRecDepth 100000 in
theorem entrepotref02_Int.calls (k : Nat) (a0 : ByteArray) (r1 : Int) (r2 : Int) (w : World) (h : entrepotref02_Int.f k a0 = some (r1, r2)) :
  Calls Tryz.prog 58 #[.string a0] w fun e w' => e = .returned (.tuple #[.int .i64 r1, .int .i64 r2]) ∧ Drawn0 w w' := by
 have H : (if a0.toList = ([] : List UInt8) then (entrepotref02_Int.j0 k a0 1 false) else (if 0 < (a0.size : Int) then (entrepotref02_Int.j0 k a0 1 ((bt a0 0) == 45)) else (none))) = some (r1, r2) := h; clear h; have HC2 := Aside0.mk H; clear H; go_enter Tryz.func58, Tryz.ntmps58
 go_upto_region 2 with (fail)
 go_cut [13] (fun v13 wc => ∃ (kq : Nat) (x13_1 : Bool), v13 = .bool x13_1 ∧ Aside0 (entrepotref02_Int.j0 kq a0 1 x13_1 = some (r1, r2)) ∧ Aside0 (kq ≤ k) ∧ Drawn0 w wc)
 case first =>
  have H := HC2.out; clear HC2
  by_cases c3 : a0.toList = ([] : List UInt8)
  ·rw [if_pos c3] at H; have c3b0 := beq_iff_eq.mpr c3; have c3b1 := bne_eq_false_iff_eq.mpr c3; clear c3; (first | rw [c3b0] | (simp only [i64_w, i32_w]; rw [c3b0]) | skip); have H' := Aside0.mk H; clear H
   go_wp2
   go_meet
   case rel => exact ⟨_, (false), qr, H', ⟨by first | omega | exact Nat.le_refl _⟩, qd⟩
  ·rw [if_neg c3] at H; have c3b0 := beq_eq_false_iff_ne.mpr c3; have c3b1 := bne_iff_ne.mpr c3; (first | rw [c3b0] | (simp only [i64_w, i32_w]; rw [c3b0]) | skip)
   by_cases c4 : 0 < (a0.size : Int)
   ·rw [if_pos c4] at H; have c4b0 := decide_eq_true c4; have c4b1 : decide (0 < a0.size) = true := decide_eq_true (by omega); clear c4; have H' := Aside0.mk H; clear H; have p5 : 0 ≤ (0 : Int) := (by omega); have q5 : 0 < a0.size := (by have : (0 : Int) < (a0.size : Int) := of_decide_eq_true qa; omega); have hx5 : ∀ h : 0 < a0.size, ((a0[0]'h).toNat : Int) = bt a0 0 := bt_at a0 0; clear p5; have qi5 : (0 < (a0.size : Int)) = True := eq_true (of_decide_eq_true qa); replace q5 := eq_true q5
    go_wp2
    go_meet
    case rel => exact ⟨_, (((bt a0 0) == 45)), qr, H', ⟨by first | omega | exact Nat.le_refl _⟩, qd⟩
   ·rw [if_neg c4] at H
    exact absurd H (by simp)
 case rest =>
  clear HC2; (try clear p2); (try clear c3); (try clear c3b0); (try clear c3b1); (try clear c4); (try clear c4b0); (try clear c4b1); (try clear c5); (try clear p5); (try clear q5); (try clear hx5); (try clear qi5); (try clear p5); (try clear q5); obtain ⟨kq, x13_1, rfl, HA, HJ1, ⟨mc1, rfl⟩⟩ := hcut; cases kq with
  | zero => exact absurd HA.out (by simp [entrepotref02_Int.j0])
  | succ kj1 =>
   have H := HA.out; clear HA; simp only [entrepotref02_Int.j0] at H; have HC6 := Aside0.mk H; clear H
   go_upto_if 13 with (fail)
   go_cut [0, 4] (fun v0 v4 wc => ∃ (kq : Nat) (x0_5 : ByteArray) (x4_5 : Int), v0 = .string x0_5 ∧ v4 = .int .i64 x4_5 ∧ Aside0 (entrepotref02_Int.j1 kq x0_5 x4_5 = some (r1, r2)) ∧ Aside0 (kq ≤ kj1) ∧ Drawn0 w wc)
   case first =>
    have H := HC6.out; clear HC6
    by_cases c7 : x13_1 = true
    ·subst c7; have H1 : (if 1 ≤ (a0.size : Int) then (entrepotref02_Int.j1 kj1 (a0.extract 1 a0.size) (-1)) else (none)) = some (r1, r2) := by rw [if_pos rfl] at H; exact H
     clear H; have H := H1; clear H1
     by_cases c8 : 1 ≤ (a0.size : Int)
     ·rw [if_pos c8] at H; have c8b0 := eq_true c8; have c8b1 := decide_eq_true c8; clear c8; have H' := Aside0.mk H; clear H
      go_wp2
      go_meet
      case rel => exact ⟨_, (a0.extract 1 a0.size), ((-1)), qr, qr, H', ⟨by have := HJ1.out; first | omega | exact Nat.le_refl _⟩, qd⟩
     ·rw [if_neg c8] at H
      exact absurd H (by simp)
    ·replace c7 := Bool.eq_false_iff.mpr c7; subst c7; have H1 : (entrepotref02_Int.j1 kj1 a0 1) = some (r1, r2) := by rw [if_neg (show ¬ (false = true) by decide)] at H; exact H
     clear H; have H := H1; clear H1; have H' := Aside0.mk H; clear H
     go_wp2
     go_meet
     case rel => exact ⟨_, (a0), (1), qr, qr, H', ⟨by have := HJ1.out; first | omega | exact Nat.le_refl _⟩, qd⟩
   case rest =>
    clear HC6; (try clear c1); (try clear p2); (try clear c3); (try clear c3b0); (try clear c3b1); (try clear c4); (try clear c4b0); (try clear c4b1); (try clear c5); (try clear p5); (try clear q5); (try clear hx5); (try clear qi5); (try clear c7); (try clear c8); (try clear c8b0); (try clear c8b1); (try clear p2); (try clear p5); (try clear q5); obtain ⟨kq, x0_5, x4_5, rfl, rfl, HA, HJ5, ⟨mc5, rfl⟩⟩ := hcut; cases kq with
    | zero => exact absurd HA.out (by simp [entrepotref02_Int.j1])
    | succ kj5 =>
     have H := HA.out; clear HA; simp only [entrepotref02_Int.j1] at H; replace H := Option.bind_eq_some_iff.mp H; obtain ⟨⟨t101, t102⟩, A90, H⟩ := H; (try dsimp only at H); have A9 := Aside0.mk A90; clear A90
     by_cases c10 : t102 = true
     ·subst c10; have H1 : (if t101 > 100000000 then (some (0, 2)) else (some (wrap64 (x4_5 * t101), 0))) = some (r1, r2) := by rw [if_pos rfl] at H; exact H
      clear H; have H := H1; clear H1
      by_cases c11 : t101 > 100000000
      ·rw [if_pos c11] at H; have c11b0 := decide_eq_true c11; clear c11; simp only [Option.some.injEq, Prod.mk.injEq] at H; obtain ⟨rfl, rfl⟩ := H
       go_wp2_with (first | ((with_reducible refine gate_callee (f := 104) rfl ?_); refine goesL_ (some 18) rfl rfl Tryz.func104 (by kernel_rfl) rfl #[.string x0_5, .int .i64 12] rfl qm ?_; (with_reducible refine (entrepotref02_digits.calls kj5 x0_5 12 t101 true _ A9.out).mono ?_); rintro e w' ⟨rfl, ⟨nd, rfl⟩⟩; refine ⟨_, rfl, ?_⟩))
       go_ret2
       exact ⟨qr, qd⟩
      ·rw [if_neg c11] at H; have c11b0 := decide_eq_false c11; clear c11; simp only [Option.some.injEq, Prod.mk.injEq] at H; obtain ⟨rfl, rfl⟩ := H
       go_wp2_with (first | ((with_reducible refine gate_callee (f := 104) rfl ?_); refine goesL_ (some 18) rfl rfl Tryz.func104 (by kernel_rfl) rfl #[.string x0_5, .int .i64 12] rfl qm ?_; (with_reducible refine (entrepotref02_digits.calls kj5 x0_5 12 t101 true _ A9.out).mono ?_); rintro e w' ⟨rfl, ⟨nd, rfl⟩⟩; refine ⟨_, rfl, ?_⟩))
       go_ret2
       exact ⟨qr, qd⟩
     ·replace c10 := Bool.eq_false_iff.mpr c10; subst c10; have H1 : (some (0, 20)) = some (r1, r2) := by rw [if_neg (show ¬ (false = true) by decide)] at H; exact H
      clear H; have H := H1; clear H1; simp only [Option.some.injEq, Prod.mk.injEq] at H; obtain ⟨rfl, rfl⟩ := H
      go_wp2_with (first | ((with_reducible refine gate_callee (f := 104) rfl ?_); refine goesL_ (some 18) rfl rfl Tryz.func104 (by kernel_rfl) rfl #[.string x0_5, .int .i64 12] rfl qm ?_; (with_reducible refine (entrepotref02_digits.calls kj5 x0_5 12 t101 false _ A9.out).mono ?_); rintro e w' ⟨rfl, ⟨nd, rfl⟩⟩; refine ⟨_, rfl, ?_⟩))
      go_ret2
      exact ⟨qr, qd⟩

end Go.Proofs.YtadocbfchdendaaGreatDoor.P
namespace Go.Proofs.YtadocbfchdendaaGreatDoor.P
open Go.RowKit Go.Proofs.YtadocbfchdendaaGreatDoorW.PrintWords Go.Proofs.YtadocbfchdendaaGreatDoorW.PrintLast Go.Proofs.YtadocbfchdendaaGreatDoorW.PrintMore
attribute [local go_sem] max2_int min2_int max_two min_two max_three min_three max_four min_four   -- for this text's walks alone
set_option linter.unusedVariables false
set_option linter.unusedSimpArgs false
def entrepotref13_Ints.l0 : Nat → ByteArray → Int → List Int → Int → Int → List (S104) → Option (List Int × Int × Int)
 | 0, _, _, _, _, _, _ => none
 | k + 1, x0, x2, x8, x9, x102000, x102001 => if x9 < x2 then (if 0 ≤ x9 then (if x9 < (x102001.length : Int) then ((entrepotref03_Text.f x0 ((rd_T104 x102001 x9).f0) ((rd_T104 x102001 x9).f1)).bind fun t107 => ((entrepotref02_Int.f k t107).bind fun bt108 => (if bt108.2 = 0 then (if x8.length < 17592186044416 then (entrepotref13_Ints.l0 k x0 x2 (x8 ++ [bt108.1]) (wrap64 (x9 + 1)) x102000 x102001) else (none)) else (some (([] : List Int), (rd_T104 x102001 x9).f0, bt108.2))))) else (none)) else (none)) else (some (x8, 0, 0))
def entrepotref13_Ints.f (k : Nat) (a0 : ByteArray) (a1_0 : Int) (l1_1 : List (S104)) (a2 : Int) : Option (List Int × Int × Int) := if (l1_1.length : Int) = a2 then (entrepotref13_Ints.l0 k a0 a2 (([] : List Int)) 0 a1_0 l1_1) else (some (([] : List Int), a1_0, 3))
theorem entrepotref13_Ints.mono_l : ∀ k, (∀ y0 y1 y2 y3 y4 y5, LeO (entrepotref13_Ints.l0 k y0 y1 y2 y3 y4 y5) (entrepotref13_Ints.l0 (k + 1) y0 y1 y2 y3 y4 y5))
 | 0 => fun _ _ _ _ _ _ r h => by simp [entrepotref13_Ints.l0] at h
 | k + 1 => by
  have ih0 := entrepotref13_Ints.mono_l k
  ·intro y0 y1 y2 y3 y4 y5
   unfold entrepotref13_Ints.l0
   repeat' first
   | (with_reducible exact ih0 _ _ _ _ _ _)
   | (with_reducible exact entrepotref02_Int.mono _ _)
   | (with_reducible exact LeO.refl _)
   | (with_reducible exact LeO.none _)
   | (with_reducible refine LeO.ite ?_ ?_)
   | (with_reducible refine LeO.bind ?_ (fun _ => ?_))
   | exact ih0 _ _ _ _ _ _
   | exact entrepotref02_Int.mono _ _
   | exact LeO.none _
   | refine LeO.ite ?_ ?_
   | refine LeO.bind ?_ (fun _ => ?_)
theorem entrepotref13_Ints.mono : ∀ a0 a1 a2 a3 k, LeO (entrepotref13_Ints.f k a0 a1 a2 a3) (entrepotref13_Ints.f (k + 1) a0 a1 a2 a3) := by
 intro a0 a1 a2 a3 k
 have ih0 := entrepotref13_Ints.mono_l k; unfold entrepotref13_Ints.f
 repeat' first
   | (with_reducible exact ih0 _ _ _ _ _ _)
   | (with_reducible exact entrepotref02_Int.mono _ _)
   | (with_reducible exact LeO.refl _)
   | (with_reducible exact LeO.none _)
   | (with_reducible refine LeO.ite ?_ ?_)
   | (with_reducible refine LeO.bind ?_ (fun _ => ?_))
   | exact ih0 _ _ _ _ _ _
   | exact entrepotref02_Int.mono _ _
   | exact LeO.none _
   | refine LeO.ite ?_ ?_
   | refine LeO.bind ?_ (fun _ => ?_)
def entrepotref13_Ints.T9 : Bool × List (List Nat × List Nat) := (true, [([], []), ([0], [0]), ([], []), ([1, 2], [1, 2]), ([3], [3]), ([4], [4]), ([], []), ([5, 6], [5, 6]), ([], []), ([7, 8, 0, 1, 2, 3, 4, 5, 6, 7, 8], [7])])
def entrepotref13_Ints.B9 : List Nat := [0, 1, 0, 7, 15, 31, 0, 127, 0, 511]
theorem entrepotref13_Ints.tab9 : rtab .any (opsOf Tryz.f29 9) = entrepotref13_Ints.T9 := by kernel_rfl
theorem entrepotref13_Ints.bits9 : waitsOk entrepotref13_Ints.T9.2 entrepotref13_Ints.B9 = true := by kernel_rfl
set_option maxHeartbeats 8000000 in
set_option maxRecDepth 100000 in
theorem entrepotref13_Ints.calls (k : Nat) (a0 : ByteArray) (a1_0 : Int) (A1_1 : Option Addr) (c1_1 : Nat) (l1_1 : List (S104)) (a2 : Int) (r1 : List Int) (r2 : Int) (r3 : Int) (w : World) (hr1_1 : Kd.C k104 w A1_1 l1_1.length l1_1) (hc1_1 : l1_1.length ≤ c1_1) (h : entrepotref13_Ints.f k a0 a1_0 l1_1 a2 = some (r1, r2, r3)) :
  Calls Tryz.prog 29 #[.string a0, .agg #[.int .i64 a1_0, .slice A1_1 l1_1.length c1_1], .int .i64 a2] w fun e w' => ∃ v0_ : Value, e = .returned (.tuple #[v0_, .agg #[.int .i64 r2, .int .i64 r3]]) ∧ Kd.R (Kd.int .i64) 3 w' w.heap.size (fun _ => True) v0_ r1 ∧ Below w.heap.size w w' := by
 have hu36 := Tryz.underlying36; have hu41 := Tryz.underlying41; have hu104 := Tryz.underlying104; have HR1_1 := Aside0.mk hr1_1; have HC1_1 := Aside0.mk hc1_1; clear hr1_1 hc1_1; have HB := Aside0.mk (Below.refl w.heap.size w); have H : (if (l1_1.length : Int) = a2 then (entrepotref13_Ints.l0 k a0 a2 (([] : List Int)) 0 a1_0 l1_1) else (some (([] : List Int), a1_0, 3))) = some (r1, r2, r3) := h; clear h
 by_cases c4 : (l1_1.length : Int) = a2
 ·rw [if_pos c4] at H; have c4b0 := beq_iff_eq.mpr c4; have c4b1 := bne_eq_false_iff_eq.mpr c4; clear c4; obtain ⟨y103, hy103⟩ : ∃ y_ : List Int, y_ = (([] : List Int)) := ⟨_, rfl⟩; replace H : (entrepotref13_Ints.l0 k a0 a2 y103 0 a1_0 l1_1) = some (r1, r2, r3) := by first | (rw [hy103]; with_reducible exact H) | (have H2_ := (Option.bind_some _ _).symm.trans H; rw [hy103]; with_reducible exact H2_) | (have H2_ := (Option.bind_some _ _).symm.trans H; with_reducible exact H2_) | with_reducible exact H | (rw [hy103]; exact H) | exact H
  have Ny103 := Aside0.mk hy103; clear hy103; have H' := Aside0.mk H; clear H; go_enter Tryz.func29, Tryz.ntmps29
  go_wp2_with (first | ((with_reducible refine gate_dst (N := 4) rfl ?_); refine box_ev (N := 4) (cs := #[.int .i64 a1_0, .slice A1_1 l1_1.length c1_1]) (t := 36) ?_; intro gb101 hg w5 hbox hb; have BK101 := Aside0.mk (hbox); have GW101 := Aside0.mk ((qg : w.heap.size ≤ gb101)); have GE101 := Aside0.mk ((qg : w.heap.size ≤ gb101)); replace HB := cB HB hb; clear hb hbox hg) | ((with_reducible refine gate_dst (N := 7) rfl ?_); refine box_ev (N := 7) (cs := #[.int .i64 0, .int .i64 0]) (t := 41) ?_; intro gb102 hg w6 hbox hb; have BK102 := Aside0.mk (hbox); have GW102 := Aside0.mk ((qg : w.heap.size ≤ gb102)); have GE102 := Aside0.mk ((qg : w.heap.size ≤ gb102)); have NB101_102 := Aside0.mk ((by rw [hg]; exact Nat.ne_of_lt (blk_lt (g := gb101) (o := .cells #[.int .i64 a1_0, .slice A1_1 l1_1.length c1_1] 36 (0, 0)) (qk BK101.out)) : gb101 ≠ gb102)); have NB102_101 := Aside0.mk ((by rw [hg]; exact Nat.ne_of_gt (blk_lt (g := gb101) (o := .cells #[.int .i64 a1_0, .slice A1_1 l1_1.length c1_1] 36 (0, 0)) (qk BK101.out)) : gb102 ≠ gb101)); replace BK101 := cK BK101 hb; replace HB := cB HB hb; clear hb hbox hg; have hnb7 := NB101_102.out; have hnc7 := NB102_101.out; have hcz8_0 : w6.cell? ⟨gb101, 0, none⟩ = some (.int .i64 a1_0) := (blk_cell BK101.out 0).trans rfl; have hcz8_1 : w6.cell? ⟨gb101, 1, none⟩ = some (.slice A1_1 l1_1.length c1_1) := (blk_cell BK101.out 1).trans rfl; have hfz8_0 := blk_frozen BK101.out 0; have hfz8_1 := blk_frozen BK101.out 1) | ((with_reducible refine gate_dst (N := 20) rfl ?_); refine Kd.R_lit (Kd.int .i64) _ 3 ?hg (N := 20) ?hd (xs := ([] : List Int)) (inner := []) (ok := fun _ => True) (okp := fun _ => True) ?hr ?hp (fun _ hk => hk) trivial (Below.refl _ _) (Nat.le_refl _) (by simp) ?_; (case hd => rfl); (case hg => rfl); (case hr => first | (go_simp; done) | (go_simp; rfl)); (case hp => exact (Reps.none _ _)); intro v104 w9 ho10 hb hg_ hnew_; clear hg_ hnew_; (first | rw [← Ny103.out] at ho10 | (simp only [Int.reduceToNat] at ho10; rw [← Ny103.out] at ho10)); have HO105 := Aside0.mk (Kd.R_lower ho10 (below_size qb)); replace BK101 := cK BK101 hb; replace BK102 := cK BK102 hb; replace HB := cB HB hb; clear hb ho10))
  (try simp only [Act.put, List.setIfInBounds_toArray, List.set_cons_zero, List.set_cons_succ])
  go_loopg [8, 9] k (fun kq v8 v9 w' => ∃ (x8_1 : List Int) (x9_1 : Int) (x103000_1 : Int) (x103001_1 : Int), v9 = .int .i64 x9_1 ∧ Aside0 (entrepotref13_Ints.l0 kq a0 a2 x8_1 x9_1 a1_0 l1_1 = some (r1, r2, r3)) ∧ Aside0 (kq ≤ k) ∧ Aside0 (Kd.R (Kd.int .i64) 3 w' w.heap.size (fun _ => True) v8 x8_1) ∧ Aside0 (w'.heap[gb101]? = some (.cells #[.int .i64 a1_0, (.slice A1_1 l1_1.length c1_1)] 36 (0, 0))) ∧ Aside0 (w'.heap[gb102]? = some (.cells #[.int .i64 x103000_1, .int .i64 x103001_1] 41 (0, 0))) ∧ Aside0 (Below w.heap.size w w'))
  case atStart => exact ⟨(y103), (0), (0), (0), qr, H', ⟨Nat.le_refl _⟩, ⟨qR HO105.out⟩, ⟨qk BK101.out⟩, ⟨qk BK102.out⟩, ⟨qb⟩⟩
  case round =>
   clear H'; (try clear c1); (try clear c2); (try clear p2); (try clear c4); (try clear c4b0); (try clear c4b1); (try clear c7); (try clear hcz8_0); (try clear hcz8_1); (try clear hfz8_0); (try clear hfz8_1); obtain ⟨x8_1, x9_1, x103000_1, x103001_1, rfl, HA, HK1, HO_8, BK101, BK102, HB⟩ := hrel; cases gk with
   | zero => exact absurd HA.out (by simp [entrepotref13_Ints.l0])
   | succ k1 =>
    have H := HA.out; clear HA; simp only [entrepotref13_Ints.l0] at H
    by_cases c11 : x9_1 < a2
    ·rw [if_pos c11] at H; have c11b0 := decide_eq_true c11; clear c11
     by_cases c12 : 0 ≤ x9_1
     ·rw [if_pos c12] at H; have c12b0 := decide_eq_true c12; clear c12
      by_cases c13 : x9_1 < (l1_1.length : Int)
      ·rw [if_pos c13] at H; have c13b0 := decide_eq_true c13; clear c13; replace H := Option.bind_eq_some_iff.mp H; obtain ⟨t107, A140, H⟩ := H; (try dsimp only at H); have A14 := Aside0.mk A140; clear A140; replace H := Option.bind_eq_some_iff.mp H; obtain ⟨⟨t108, t109⟩, A150, H⟩ := H; (try dsimp only at H); have A15 := Aside0.mk A150; clear A150
       by_cases c16 : t109 = 0
       ·rw [if_pos c16] at H; have c16b0 := beq_iff_eq.mpr c16; have c16b1 := bne_eq_false_iff_eq.mpr c16; clear c16
        by_cases c17 : x8_1.length < 17592186044416
        ·rw [if_pos c17] at H; have LMc17 := Aside0.mk c17; clear c17; obtain ⟨y110, hy110⟩ : ∃ y_ : List Int, y_ = (x8_1 ++ [t108]) := ⟨_, rfl⟩; replace H : (entrepotref13_Ints.l0 k1 a0 a2 y110 (wrap64 (x9_1 + 1)) a1_0 l1_1) = some (r1, r2, r3) := by first | (rw [hy110]; with_reducible exact H) | (have H2_ := (Option.bind_some _ _).symm.trans H; rw [hy110]; with_reducible exact H2_) | (have H2_ := (Option.bind_some _ _).symm.trans H; with_reducible exact H2_) | with_reducible exact H | (rw [hy110]; exact H) | exact H
         have Ny110 := Aside0.mk hy110; clear hy110; have H' := Aside0.mk H; clear H; have hnb18 := NB101_102.out; have hnc18 := NB102_101.out; obtain ⟨hcz19_0, hcz19_1, hfz19_0, hfz19_1⟩ := bc2 BK101.out; have p106 : 0 ≤ (x9_1 : Int) := of_decide_eq_true qa; have q106 : x9_1 < (l1_1.length : Int) := of_decide_eq_true qa; obtain ⟨ad106, e106, hx106_0, hx106_1⟩ := at_T104 HR1_1.out x9_1 p106 q106; cases e106; replace hx106_0 := (HB.out.cell (World.block_lt_of_cell? w _ hx106_0)).trans hx106_0; replace hx106_1 := (HB.out.cell (World.block_lt_of_cell? w _ hx106_1)).trans hx106_1; (try simp only [Go.IntWalk.toNatUp] at hx106_0); (try simp only [Go.IntWalk.toNatUp] at hx106_1); replace p106 := eq_true p106; replace q106 := eq_true q106
         go_wp2_with (first | ((with_reducible refine gate_callee (f := 55) rfl ?_); refine goesL_ (some 33) rfl rfl Tryz.func55 (by kernel_rfl) rfl #[.string a0, .agg #[.int .i64 ((rd_T104 l1_1 x9_1).f0), .int .i64 ((rd_T104 l1_1 x9_1).f1)]] rfl qm ?_; (with_reducible refine (entrepotref03_Text.calls a0 ((rd_T104 l1_1 x9_1).f0) ((rd_T104 l1_1 x9_1).f1) t107 _ A14.out).mono ?_); rintro e w20 ⟨rfl, hb⟩; refine ⟨_, rfl, ?_⟩; replace HO_8 := cR HO_8 hb; replace BK101 := cK BK101 hb; replace BK102 := cK BK102 hb; replace HB := cB HB hb; (try clear hb); (try clear hb2); (try clear hk); (try clear hi)) | ((with_reducible refine gate_callee (f := 58) rfl ?_); refine goesL_ (some 34) rfl rfl Tryz.func58 (by kernel_rfl) rfl #[.string t107] rfl qm ?_; (with_reducible refine (entrepotref02_Int.calls k1 t107 t108 t109 _ A15.out).mono ?_); rintro e w' ⟨rfl, ⟨nd, rfl⟩⟩; refine ⟨_, rfl, ?_⟩) | ((with_reducible refine gate_builtin (b := .append) (xs := #[.tmp 47, .tmp 49]) rfl ?_); at_builtin; refine Kd.R_append (Kd.int .i64) (w0 := w) w.heap.size rfl (.tmp 47) (.tmp 49) 38 3 (.int .i64 0) 8 rfl Tryz.underlying38 info3 rfl (by decide) (by omega) u8 x8_1 t108 [.int .i64 t108] (fun _ => True) (fun _ => False) rfl rfl ?aP (fun _ hk => hk.elim) ?aF ?aO ?aB ?aS ?aL ?_; (case aP => exact rfl); (case aB => exact qb); (case aF => exact (fun _ _ => trivial)); (case aO => exact (qR HO_8.out)); (case aS => exact (below_size qb)); (case aL => have := LMc17.out; omega); intro v111 w21 ho hb hg hat; rw [← Ny110.out] at ho; have n0_ := Aside0.mk (blk_grown (g := gb101) (o := .cells #[.int .i64 a1_0, .slice (some ad106) l1_1.length c1_1] 36 (0, 0)) (qk BK101.out) hg (Kd.R_ne HO_8.out BK101.out (by decide))); have n1_ := Aside0.mk (blk_grown (g := gb102) (o := .cells #[.int .i64 x103000_1, .int .i64 x103001_1] 41 (0, 0)) (qk BK102.out) hg (Kd.R_ne HO_8.out BK102.out (by decide))); have n2_ := Aside0.mk (hb); have HO112 := Aside0.mk (ho); replace BK101 := n0_; replace BK102 := n1_; replace HB := n2_; clear n0_ n1_ n2_; clear HO_8; clear ho hb hg hat))
         go_roundg k1
         case measure => have := HK1.out; omega
         case rel => exact ⟨(y110), (wrap64 (x9_1 + 1)), (x103000_1), (x103001_1), qr, H', ⟨by have := HK1.out; omega⟩, ⟨qR HO112.out⟩, ⟨qk BK101.out⟩, ⟨qk BK102.out⟩, ⟨qb⟩⟩
        ·rw [if_neg c17] at H
         exact absurd H (by simp)
       ·rw [if_neg c16] at H; have c16b0 := beq_eq_false_iff_ne.mpr c16; have c16b1 := bne_iff_ne.mpr c16; simp only [Option.some.injEq, Prod.mk.injEq] at H; obtain ⟨rfl, rfl, rfl⟩ := H; have hnb22 := NB101_102.out; have hnc22 := NB102_101.out; obtain ⟨hcz23_0, hcz23_1, hfz23_0, hfz23_1⟩ := bc2 BK101.out; have p106 : 0 ≤ (x9_1 : Int) := of_decide_eq_true qa; have q106 : x9_1 < (l1_1.length : Int) := of_decide_eq_true qa; obtain ⟨ad106, e106, hx106_0, hx106_1⟩ := at_T104 HR1_1.out x9_1 p106 q106; cases e106; replace hx106_0 := (HB.out.cell (World.block_lt_of_cell? w _ hx106_0)).trans hx106_0; replace hx106_1 := (HB.out.cell (World.block_lt_of_cell? w _ hx106_1)).trans hx106_1; (try simp only [Go.IntWalk.toNatUp] at hx106_0); (try simp only [Go.IntWalk.toNatUp] at hx106_1); replace p106 := eq_true p106; replace q106 := eq_true q106
        try go_wp2_with (first | ((with_reducible refine gate_callee (f := 55) rfl ?_); refine goesL_ (some 33) rfl rfl Tryz.func55 (by kernel_rfl) rfl #[.string a0, .agg #[.int .i64 ((rd_T104 l1_1 x9_1).f0), .int .i64 ((rd_T104 l1_1 x9_1).f1)]] rfl qm ?_; (with_reducible refine (entrepotref03_Text.calls a0 ((rd_T104 l1_1 x9_1).f0) ((rd_T104 l1_1 x9_1).f1) t107 _ A14.out).mono ?_); rintro e w24 ⟨rfl, hb⟩; refine ⟨_, rfl, ?_⟩; replace HO_8 := cR HO_8 hb; replace BK101 := cK BK101 hb; replace BK102 := cK BK102 hb; replace HB := cB HB hb; (try clear hb); (try clear hb2); (try clear hk); (try clear hi)) | ((with_reducible refine gate_callee (f := 58) rfl ?_); refine goesL_ (some 34) rfl rfl Tryz.func58 (by kernel_rfl) rfl #[.string t107] rfl qm ?_; (with_reducible refine (entrepotref02_Int.calls k1 t107 t108 t109 _ A15.out).mono ?_); rintro e w' ⟨rfl, ⟨nd, rfl⟩⟩; refine ⟨_, rfl, ?_⟩; (try (rw [drewN_self w24]; generalize hq_ : World.drewN w24 _ = w24; have n0_ : Aside0 (Kd.R (Kd.int .i64) 3 w24 w.heap.size (fun _ => True) u8 x8_1) := ⟨by rw [← hq_]; exact (qR HO_8.out)⟩; have n1_ : Aside0 (w24.heap[gb101]? = some (.cells #[.int .i64 a1_0, .slice (some ad106) l1_1.length c1_1] 36 (0, 0))) := ⟨by rw [← hq_]; exact (qk BK101.out)⟩; have n2_ : Aside0 (w24.heap[gb102]? = some (.cells #[.int .i64 x103000_1, .int .i64 x103001_1] 41 (0, 0))) := ⟨by rw [← hq_]; exact (qk BK102.out)⟩; have n3_ : Aside0 (Below w.heap.size w w24) := ⟨by rw [← hq_]; exact qb⟩; clear HO_8 BK101 BK102 HB hq_; have HO_8 := n0_; have BK101 := n1_; have BK102 := n2_; have HB := n3_; clear n0_ n1_ n2_ n3_))))
        have n0_ := Aside0.mk (Kd.R_drew HO_8.out); have n1_ := Aside0.mk (blk_drew BK101.out); have n2_ := Aside0.mk (blk_drew BK102.out); have n3_ := Aside0.mk (below_drew1 HB.out); clear HO_8; clear BK101; clear BK102; clear HB; have HO_8 := n0_; have BK101 := n1_; have BK102 := n2_; have HB := n3_; clear n0_ n1_ n2_ n3_; have p113 : 0 ≤ (x9_1 : Int) := of_decide_eq_true qa; have q113 : x9_1 < (l1_1.length : Int) := of_decide_eq_true qa; obtain ⟨ad113, e113, hx113_0, hx113_1⟩ := at_T104 HR1_1.out x9_1 p113 q113; have hw113_1 := hx113_1; have hw113_0 := hx113_0; obtain rfl : ad106 = ad113 := (by injection e113); replace hx113_0 := (HB.out.cell (World.block_lt_of_cell? w _ hx113_0)).trans hx113_0; replace hx113_1 := (HB.out.cell (World.block_lt_of_cell? w _ hx113_1)).trans hx113_1; (try simp only [Go.IntWalk.toNatUp] at hx113_0); (try simp only [Go.IntWalk.toNatUp] at hx113_1); replace p113 := eq_true p113; replace q113 := eq_true q113; refine start_ (n := 10) (S := fun w' => w'.cell? ⟨gb101, 0, none⟩ = some (.int .i64 a1_0) ∧ w'.cell? ⟨gb101, 1, none⟩ = some (.slice (some ad106) l1_1.length c1_1) ∧ w'.cell? (ad106.add ((x9_1).toNat * 2)) = some (.int .i64 ((rd_T104 l1_1 x9_1).f0)) ∧ w'.cell? ⟨(ad106.add ((x9_1).toNat * 2)).block, (ad106.add ((x9_1).toNat * 2)).off + 1, none⟩ = some (.int .i64 ((rd_T104 l1_1 x9_1).f1))) (ds := []) #[false, false, false, false, false, false, false, false, false, false] (by kernel_rfl) rfl rfl ⟨(blk_cell BK101.out 0).trans rfl, (blk_cell BK101.out 1).trans rfl, ((HB.out.cell (World.block_lt_of_cell? w _ hw113_0)).trans hw113_0), ((HB.out.cell (World.block_lt_of_cell? w _ hw113_1)).trans hw113_1)⟩ (fun hHeld => ?_); refine with_tabW entrepotref13_Ints.tab9 entrepotref13_Ints.bits9 (fun HT_ HW_ => ?_); generalize w24.drew = w25 at HO_8 BK101 BK102 HB hx113_0 hx113_1 hHeld ⊢; refine pure_ (i := 0) (N := some 39) (v := ?_) (a' := ?_) #[true, false, false, false, false, false, false, false, false, false] rfl rfl (any_of HT_.out (by kernel_rfl)) (fun _ _ _ h => h) (Or.inl ⟨by rfl, ?_⟩) ?_ ?_
        rotate_left
        ·intro w'
         go_simp
         with_reducible rfl
        rotate_left
        ·simp only [Act.put, List.setIfInBounds_toArray, List.set_cons_zero, List.set_cons_succ, i64_w, i32_w]
         rfl
        refine pure_ (i := 2) (N := some 41) (v := ?_) (a' := ?_) #[true, false, true, false, false, false, false, false, false, false] rfl rfl (any_of HT_.out (by kernel_rfl)) (fun _ _ _ h => h) (Or.inl ⟨by rfl, ?_⟩) ?_ ?_
        rotate_left
        ·intro w'
         go_simp
         with_reducible rfl
        rotate_left
        ·simp only [Act.put, List.setIfInBounds_toArray, List.set_cons_zero, List.set_cons_succ, i64_w, i32_w]
         rfl
        refine pure_ (i := 6) (N := some 45) (v := ?_) (a' := ?_) #[true, false, true, false, false, false, true, false, false, false] rfl rfl (any_of HT_.out (by kernel_rfl)) (fun _ _ _ h => h) (Or.inl ⟨by rfl, ?_⟩) ?_ ?_
        rotate_left
        ·intro w'
         go_simp
         with_reducible rfl
        rotate_left
        ·simp only [Act.put, List.setIfInBounds_toArray, List.set_cons_zero, List.set_cons_succ, i64_w, i32_w]
         rfl
        refine pure_ (i := 8) (N := some 6) (v := ?_) (a' := ?_) #[true, false, true, false, false, false, true, false, true, false] rfl rfl (any_of HT_.out (by kernel_rfl)) (fun _ _ _ h => h) (Or.inl ⟨by rfl, ?_⟩) ?_ ?_
        rotate_left
        ·intro w'
         go_simp
         with_reducible rfl
        rotate_left
        ·simp only [Act.put, List.setIfInBounds_toArray, List.set_cons_zero, List.set_cons_succ, i64_w, i32_w]
         rfl
        refine take_ (i := 1) (N := some 40) (v := ?_) (a' := ?_) #[true, true, true, false, false, false, true, false, true, false] rfl rfl (take_ofW HT_.out HW_.out (by kernel_rfl)) (fun _ _ _ h => h) (Or.inl ⟨by rfl, ?_⟩) hHeld ?_ ?_
        rotate_left
        ·rintro w' ⟨s0, s1, s2, s3⟩
         go_simp
         with_reducible rfl
        rotate_left
        ·simp only [Act.put, List.setIfInBounds_toArray, List.set_cons_zero, List.set_cons_succ, i64_w, i32_w]
         rfl
        refine pure_ (i := 3) (N := some 42) (v := ?_) (a' := ?_) #[true, true, true, true, false, false, true, false, true, false] rfl rfl (any_of HT_.out (by kernel_rfl)) (fun _ _ _ h => h) (Or.inl ⟨by rfl, ?_⟩) ?_ ?_
        rotate_left
        ·intro w'
         go_simp
         with_reducible rfl
        rotate_left
        ·simp only [Act.put, List.setIfInBounds_toArray, List.set_cons_zero, List.set_cons_succ, i64_w, i32_w]
         rfl
        refine pure_ (i := 4) (N := some 43) (v := ?_) (a' := ?_) #[true, true, true, true, true, false, true, false, true, false] rfl rfl (any_of HT_.out (by kernel_rfl)) (fun _ _ _ h => h) (Or.inl ⟨by rfl, ?_⟩) ?_ ?_
        rotate_left
        ·intro w'
         go_simp
         with_reducible rfl
        rotate_left
        ·simp only [Act.put, List.setIfInBounds_toArray, List.set_cons_zero, List.set_cons_succ, i64_w, i32_w]
         rfl
        refine take_ (i := 5) (N := some 44) (v := ?_) (a' := ?_) #[true, true, true, true, true, true, true, false, true, false] rfl rfl (take_ofW HT_.out HW_.out (by kernel_rfl)) (fun _ _ _ h => h) (Or.inl ⟨by rfl, ?_⟩) hHeld ?_ ?_
        rotate_left
        ·rintro w' ⟨s0, s1, s2, s3⟩
         go_simp
         with_reducible rfl
        rotate_left
        ·simp only [Act.put, List.setIfInBounds_toArray, List.set_cons_zero, List.set_cons_succ, i64_w, i32_w]
         rfl
        refine pure_ (i := 7) (N := some 46) (v := ?_) (a' := ?_) #[true, true, true, true, true, true, true, true, true, false] rfl rfl (any_of HT_.out (by kernel_rfl)) (fun _ _ _ h => h) (Or.inl ⟨by rfl, ?_⟩) ?_ ?_
        rotate_left
        ·intro w'
         go_simp
         with_reducible rfl
        rotate_left
        ·simp only [Act.put, List.setIfInBounds_toArray, List.set_cons_zero, List.set_cons_succ, i64_w, i32_w]
         rfl
        refine one_ (i := 9) (N := none) #[true, true, true, true, true, true, true, true, true, true] rfl rfl (one_of HT_.out (by kernel_rfl)) (by decide) (fun K hK => ?_); have hs26 : w25.cell? ⟨gb102, 0, none⟩ = some (.int .i64 x103000_1) := (blk_cell BK102.out 0).trans rfl; have hfs26 := blk_frozen BK102.out 0; have hns26_0 := NB101_102.out; have hms26_0 := NB102_101.out; have hs27 : w25.cell? ⟨gb102, 1, none⟩ = some (.int .i64 x103001_1) := (blk_cell BK102.out 1).trans rfl; have hfs27 := blk_frozen BK102.out 1; have hns27_0 := NB101_102.out; have hms27_0 := NB102_101.out; refine skip_ (w1 := ?_) (by rfl) rfl ?_ ?_
        rotate_left
        ·go_simp
         rfl
        refine hK.out _ _ ⟨((cell_far (p := ⟨gb102, _, none⟩) NB101_102.out _).trans (((cell_far (p := ⟨gb102, _, none⟩) NB101_102.out _).trans (hHeld.1)))), ((cell_far (p := ⟨gb102, _, none⟩) NB101_102.out _).trans (((cell_far (p := ⟨gb102, _, none⟩) NB101_102.out _).trans (hHeld.2.1)))), ((cell_far (p := ⟨gb102, _, none⟩) (by first | exact Nat.ne_of_lt (Nat.lt_of_lt_of_le (by have := World.block_lt_of_cell? _ _ hw113_0; first | rwa [add_block] at this | exact this) GW102.out) | (rw [add_block]; exact Nat.ne_of_lt (Nat.lt_of_lt_of_le (by have := World.block_lt_of_cell? _ _ hw113_0; first | rwa [add_block] at this | exact this) GW102.out)) | (show (Addr.add _ _).block ≠ _; rw [add_block]; exact Nat.ne_of_lt (Nat.lt_of_lt_of_le (by have := World.block_lt_of_cell? _ _ hw113_0; first | rwa [add_block] at this | exact this) GW102.out)) | (dsimp only; exact Nat.ne_of_lt (Nat.lt_of_lt_of_le (by have := World.block_lt_of_cell? _ _ hw113_0; first | rwa [add_block] at this | exact this) GW102.out))) _).trans (((cell_far (p := ⟨gb102, _, none⟩) (by first | exact Nat.ne_of_lt (Nat.lt_of_lt_of_le (by have := World.block_lt_of_cell? _ _ hw113_0; first | rwa [add_block] at this | exact this) GW102.out) | (rw [add_block]; exact Nat.ne_of_lt (Nat.lt_of_lt_of_le (by have := World.block_lt_of_cell? _ _ hw113_0; first | rwa [add_block] at this | exact this) GW102.out)) | (show (Addr.add _ _).block ≠ _; rw [add_block]; exact Nat.ne_of_lt (Nat.lt_of_lt_of_le (by have := World.block_lt_of_cell? _ _ hw113_0; first | rwa [add_block] at this | exact this) GW102.out)) | (dsimp only; exact Nat.ne_of_lt (Nat.lt_of_lt_of_le (by have := World.block_lt_of_cell? _ _ hw113_0; first | rwa [add_block] at this | exact this) GW102.out))) _).trans (hHeld.2.2.1)))), ((cell_far (p := ⟨gb102, _, none⟩) (by first | exact Nat.ne_of_lt (Nat.lt_of_lt_of_le (by have := World.block_lt_of_cell? _ _ hw113_1; first | rwa [add_block] at this | exact this) GW102.out) | (rw [add_block]; exact Nat.ne_of_lt (Nat.lt_of_lt_of_le (by have := World.block_lt_of_cell? _ _ hw113_1; first | rwa [add_block] at this | exact this) GW102.out)) | (show (Addr.add _ _).block ≠ _; rw [add_block]; exact Nat.ne_of_lt (Nat.lt_of_lt_of_le (by have := World.block_lt_of_cell? _ _ hw113_1; first | rwa [add_block] at this | exact this) GW102.out)) | (dsimp only; exact Nat.ne_of_lt (Nat.lt_of_lt_of_le (by have := World.block_lt_of_cell? _ _ hw113_1; first | rwa [add_block] at this | exact this) GW102.out))) _).trans (((cell_far (p := ⟨gb102, _, none⟩) (by first | exact Nat.ne_of_lt (Nat.lt_of_lt_of_le (by have := World.block_lt_of_cell? _ _ hw113_1; first | rwa [add_block] at this | exact this) GW102.out) | (rw [add_block]; exact Nat.ne_of_lt (Nat.lt_of_lt_of_le (by have := World.block_lt_of_cell? _ _ hw113_1; first | rwa [add_block] at this | exact this) GW102.out)) | (show (Addr.add _ _).block ≠ _; rw [add_block]; exact Nat.ne_of_lt (Nat.lt_of_lt_of_le (by have := World.block_lt_of_cell? _ _ hw113_1; first | rwa [add_block] at this | exact this) GW102.out)) | (dsimp only; exact Nat.ne_of_lt (Nat.lt_of_lt_of_le (by have := World.block_lt_of_cell? _ _ hw113_1; first | rwa [add_block] at this | exact this) GW102.out))) _).trans (hHeld.2.2.2))))⟩ (fun hHeld => ?_)
        clear hK K; refine done_ (done_of HT_.out (by kernel_rfl)) ?_
        try go_wp2
        refine bodyPost_ret (results_tc rfl _ _ gb102 41 #[.int .i64 ((rd_T104 l1_1 x9_1).f0), .int .i64 t109] (0, 0) _ rfl (by refine qk ?_; refine blk_put (cs := #[.int .i64 ((rd_T104 l1_1 x9_1).f0), .int .i64 x103001_1]) ?_ 1 _ rfl; refine qk ?_; refine blk_put (cs := #[.int .i64 x103000_1, .int .i64 x103001_1]) ?_ 0 _ rfl; refine qk ?_; exact BK102.out) Tryz.underlying41 rfl (by kernel_rfl)) rfl ?_
        exact ⟨_, qe, by first | exact Kd.R_nil _ _ _ _ _ | exact Kd.N_nil _ _ _ _ _ | exact Kd.V_nil _ _ _ _ _ | exact Kd.Q_nil _ _ _ _ _ | exact Kd.S_nil _ _ _ _ _, qb⟩
      ·rw [if_neg c13] at H
       exact absurd H (by simp)
     ·rw [if_neg c12] at H
      exact absurd H (by simp)
    ·rw [if_neg c11] at H; have c11b0 := decide_eq_false c11; clear c11; simp only [Option.some.injEq, Prod.mk.injEq] at H; obtain ⟨rfl, rfl, rfl⟩ := H; have hnb28 := NB102_101.out; have hnc28 := NB101_102.out; obtain ⟨hcz29_0, hcz29_1, hfz29_0, hfz29_1⟩ := bc2 BK102.out
     go_wp2
     refine bodyPost_ret (results_tc rfl _ _ gb102 41 #[.int .i64 0, .int .i64 0] (0, 0) _ rfl (by refine qk ?_; refine blk_put (cs := #[.int .i64 0, .int .i64 x103001_1]) ?_ 1 _ rfl; refine qk ?_; refine blk_put (cs := #[.int .i64 x103000_1, .int .i64 x103001_1]) ?_ 0 _ rfl; refine qk ?_; exact BK102.out) Tryz.underlying41 rfl (by kernel_rfl)) rfl ?_
     exact ⟨_, qe, by refine qR ?_; exact Kd.R_mono (Kd.R_far (p := ⟨gb102, 1, none⟩) (Kd.R_far (p := ⟨gb102, 0, none⟩) (Kd.R_types HO_8.out BK102.out (by decide)) (fun _ hk => hk.2) (.int .i64 0)) (fun _ hk => hk.2) (.int .i64 0)) (fun _ hk => trivial), qb⟩
 ·rw [if_neg c4] at H; have c4b0 := beq_eq_false_iff_ne.mpr c4; have c4b1 := bne_iff_ne.mpr c4; simp only [Option.some.injEq, Prod.mk.injEq] at H; obtain ⟨rfl, rfl, rfl⟩ := H; go_enter Tryz.func29, Tryz.ntmps29
  try go_wp2_with (first | ((with_reducible refine gate_dst (N := 4) rfl ?_); refine box_ev (N := 4) (cs := #[.int .i64 a1_0, .slice A1_1 l1_1.length c1_1]) (t := 36) ?_; intro gb101 hg w30 hbox hb; have BK101 := Aside0.mk (hbox); have GW101 := Aside0.mk ((qg : w.heap.size ≤ gb101)); have GE101 := Aside0.mk ((qg : w.heap.size ≤ gb101)); replace HB := cB HB hb; clear hb hbox hg) | ((with_reducible refine gate_dst (N := 7) rfl ?_); refine box_ev (N := 7) (cs := #[.int .i64 0, .int .i64 0]) (t := 41) ?_; intro gb102 hg w31 hbox hb; have BK102 := Aside0.mk (hbox); have GW102 := Aside0.mk ((qg : w.heap.size ≤ gb102)); have GE102 := Aside0.mk ((qg : w.heap.size ≤ gb102)); have NB101_102 := Aside0.mk ((by rw [hg]; exact Nat.ne_of_lt (blk_lt (g := gb101) (o := .cells #[.int .i64 a1_0, .slice A1_1 l1_1.length c1_1] 36 (0, 0)) (qk BK101.out)) : gb101 ≠ gb102)); have NB102_101 := Aside0.mk ((by rw [hg]; exact Nat.ne_of_gt (blk_lt (g := gb101) (o := .cells #[.int .i64 a1_0, .slice A1_1 l1_1.length c1_1] 36 (0, 0)) (qk BK101.out)) : gb102 ≠ gb101)); replace BK101 := cK BK101 hb; replace HB := cB HB hb; clear hb hbox hg; have hnb32 := NB101_102.out; have hnc32 := NB102_101.out; have hcz33_0 : w31.cell? ⟨gb101, 0, none⟩ = some (.int .i64 a1_0) := (blk_cell BK101.out 0).trans rfl; have hcz33_1 : w31.cell? ⟨gb101, 1, none⟩ = some (.slice A1_1 l1_1.length c1_1) := (blk_cell BK101.out 1).trans rfl; have hfz33_0 := blk_frozen BK101.out 0; have hfz33_1 := blk_frozen BK101.out 1))
  have n0_ := Aside0.mk (blk_drew BK101.out); have n1_ := Aside0.mk (blk_drew BK102.out); have n2_ := Aside0.mk (below_drew1 HB.out); clear BK101; clear BK102; clear HB; have BK101 := n0_; have BK102 := n1_; have HB := n2_; clear n0_ n1_ n2_; refine start_ (n := 5) (S := fun w' => w'.cell? ⟨gb101, 0, none⟩ = some (.int .i64 a1_0) ∧ w'.cell? ⟨gb101, 1, none⟩ = some (.slice A1_1 l1_1.length c1_1)) (ds := []) #[false, false, false, false, false] (by kernel_rfl) rfl rfl ⟨(blk_cell BK101.out 0).trans rfl, (blk_cell BK101.out 1).trans rfl⟩ (fun hHeld => ?_); generalize w31.drew = w34 at BK101 BK102 HB hHeld ⊢; refine pure_ (i := 0) (N := some 17) (v := ?_) (a' := ?_) #[true, false, false, false, false] rfl rfl (by kernel_rfl) (fun _ _ _ h => h) (Or.inl ⟨by rfl, ?_⟩) ?_ ?_
  rotate_left
  ·intro w'
   go_simp
   with_reducible rfl
  rotate_left
  ·simp only [Act.put, List.setIfInBounds_toArray, List.set_cons_zero, List.set_cons_succ, i64_w, i32_w]
   rfl
  refine pure_ (i := 3) (N := some 6) (v := ?_) (a' := ?_) #[true, false, false, true, false] rfl rfl (by kernel_rfl) (fun _ _ _ h => h) (Or.inl ⟨by rfl, ?_⟩) ?_ ?_
  rotate_left
  ·intro w'
   go_simp
   with_reducible rfl
  rotate_left
  ·simp only [Act.put, List.setIfInBounds_toArray, List.set_cons_zero, List.set_cons_succ, i64_w, i32_w]
   rfl
  refine take_ (i := 1) (N := some 18) (v := ?_) (a' := ?_) #[true, true, false, true, false] rfl rfl (by kernel_rfl) (fun _ _ _ h => h) (Or.inl ⟨by rfl, ?_⟩) hHeld ?_ ?_
  rotate_left
  ·rintro w' ⟨s0, s1⟩
   go_simp
   with_reducible rfl
  rotate_left
  ·simp only [Act.put, List.setIfInBounds_toArray, List.set_cons_zero, List.set_cons_succ, i64_w, i32_w]
   rfl
  refine pure_ (i := 2) (N := some 19) (v := ?_) (a' := ?_) #[true, true, true, true, false] rfl rfl (by kernel_rfl) (fun _ _ _ h => h) (Or.inl ⟨by rfl, ?_⟩) ?_ ?_
  rotate_left
  ·intro w'
   go_simp
   with_reducible rfl
  rotate_left
  ·simp only [Act.put, List.setIfInBounds_toArray, List.set_cons_zero, List.set_cons_succ, i64_w, i32_w]
   rfl
  refine one_ (i := 4) (N := none) #[true, true, true, true, true] rfl rfl (by kernel_rfl) (by decide) (fun K hK => ?_); have hs35 : w34.cell? ⟨gb102, 0, none⟩ = some (.int .i64 0) := (blk_cell BK102.out 0).trans rfl; have hfs35 := blk_frozen BK102.out 0; have hns35_0 := NB101_102.out; have hms35_0 := NB102_101.out; have hs36 : w34.cell? ⟨gb102, 1, none⟩ = some (.int .i64 0) := (blk_cell BK102.out 1).trans rfl; have hfs36 := blk_frozen BK102.out 1; have hns36_0 := NB101_102.out; have hms36_0 := NB102_101.out; refine skip_ (w1 := ?_) (by rfl) rfl ?_ ?_
  rotate_left
  ·go_simp
   rfl
  refine hK.out _ _ ⟨((cell_far (p := ⟨gb102, _, none⟩) NB101_102.out _).trans (((cell_far (p := ⟨gb102, _, none⟩) NB101_102.out _).trans (hHeld.1)))), ((cell_far (p := ⟨gb102, _, none⟩) NB101_102.out _).trans (((cell_far (p := ⟨gb102, _, none⟩) NB101_102.out _).trans (hHeld.2))))⟩ (fun hHeld => ?_); clear hK K; refine done_ (by kernel_rfl) ?_
  try go_wp2
  refine bodyPost_ret (results_tc rfl _ _ gb102 41 #[.int .i64 a1_0, .int .i64 3] (0, 0) _ rfl (by refine qk ?_; refine blk_put (cs := #[.int .i64 a1_0, .int .i64 0]) ?_ 1 _ rfl; refine qk ?_; refine blk_put (cs := #[.int .i64 0, .int .i64 0]) ?_ 0 _ rfl; refine qk ?_; exact BK102.out) Tryz.underlying41 rfl (by kernel_rfl)) rfl ?_
  exact ⟨_, qe, by first | exact Kd.R_nil _ _ _ _ _ | exact Kd.N_nil _ _ _ _ _ | exact Kd.V_nil _ _ _ _ _ | exact Kd.Q_nil _ _ _ _ _ | exact Kd.S_nil _ _ _ _ _, qb⟩

end Go.Proofs.YtadocbfchdendaaGreatDoor.P
