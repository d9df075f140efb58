/- Part 4 of the proof of SheetNumbers: contracts of functions, and the words that they use. -/
import Derived.Test.YtadocbfchdendaaGreatDoorMSheetNumbersA
import Derived.Test.YtadocbfchdendaaGreatDoorMSheetNumbersB
import Derived.Test.YtadocbfchdendaaGreatDoorMSheetNumbersC
set_option linter.unusedVariables false
set_option linter.unusedSimpArgs false
namespace Go.Proofs.YtadocbfchdendaaGreatDoor.P
open Go.RowKit Go.Proofs.YtadocbfchdendaaGreatDoorW.PrintWords Go.Proofs.YtadocbfchdendaaGreatDoorW.PrintLast Go.Proofs.YtadocbfchdendaaGreatDoorW.PrintMore
attribute [local go_sem] max2_int min2_int max_two min_two max_three min_three max_four min_four   -- for this text's walks alone
set_option linter.unusedVariables false
set_option linter.unusedSimpArgs false
def fixed_Num.l0 : Nat → ByteArray → List (S50) → List (S105) → Int → Int → Int → Int → Option ((List (S50)) × Int × Int)
 | 0, _, _, _, _, _, _, _ => none
 | k + 1, x0, x6, x12, x13, x14, x102000, x102001 => if x14 < x13 then (if 0 ≤ x14 then (if x14 < (x12.length : Int) then ((words_Text.f x0 ((rd_T105 x12 x14).f0) ((rd_T105 x12 x14).f1)).bind fun t104 => ((fixed_Read.f t104).bind fun bt105 => (if bt105.2.2 = 0 then (if x6.length < 8796093022208 then (fixed_Num.l0 k x0 (x6 ++ [(⟨bt105.1, bt105.2.1⟩ : S50)]) x12 x13 (wrap64 (x14 + 1)) x102000 x102001) else (none)) else (some (([] : List (S50)), (rd_T105 x12 x14).f0, bt105.2.2))))) else (none)) else (none)) else (some (x6, x102000, x102001))
def fixed_Num.f (k : Nat) (a0 : ByteArray) (a1 : Unit) (l2 : List (S105)) : Option ((List (S50)) × Int × Int) := fixed_Num.l0 k a0 ([] : List (S50)) l2 (l2.length : Int) 0 0 0
theorem fixed_Num.mono_l : ∀ k, (∀ y0 y1 y2 y3 y4 y5 y6, LeO (fixed_Num.l0 k y0 y1 y2 y3 y4 y5 y6) (fixed_Num.l0 (k + 1) y0 y1 y2 y3 y4 y5 y6))
 | 0 => fun _ _ _ _ _ _ _ r h => by simp [fixed_Num.l0] at h
 | k + 1 => by
  have ih0 := fixed_Num.mono_l k
  ·intro y0 y1 y2 y3 y4 y5 y6
   unfold fixed_Num.l0
   repeat' first
   | (with_reducible exact ih0 _ _ _ _ _ _ _)
   | (with_reducible exact LeO.refl _)
   | (with_reducible exact LeO.none _)
   | (with_reducible refine LeO.ite ?_ ?_)
   | (with_reducible refine LeO.bind ?_ (fun _ => ?_))
   | exact ih0 _ _ _ _ _ _ _
   | exact LeO.none _
   | refine LeO.ite ?_ ?_
   | refine LeO.bind ?_ (fun _ => ?_)
theorem fixed_Num.mono : ∀ a0 a1 a2 k, LeO (fixed_Num.f k a0 a1 a2) (fixed_Num.f (k + 1) a0 a1 a2) := by
 intro a0 a1 a2 k
 have ih0 := fixed_Num.mono_l k; unfold fixed_Num.f
 repeat' first
   | (with_reducible exact ih0 _ _ _ _ _ _ _)
   | (with_reducible exact LeO.refl _)
   | (with_reducible exact LeO.none _)
   | (with_reducible refine LeO.ite ?_ ?_)
   | (with_reducible refine LeO.bind ?_ (fun _ => ?_))
   | exact ih0 _ _ _ _ _ _ _
   | exact LeO.none _
   | refine LeO.ite ?_ ?_
   | refine LeO.bind ?_ (fun _ => ?_)
set_option maxHeartbeats 8000000 in
set_option maxRecDepth 100000 in
theorem fixed_Num.calls (k : Nat) (a0 : ByteArray) (a1 : Unit) (A2 : Option Addr) (c2 : Nat) (l2 : List (S105)) (r1 : List (S50)) (r2 : Int) (r3 : Int) (w : World) (hr2 : Kd.C k105 w A2 l2.length l2) (hc2 : l2.length ≤ c2) (h : fixed_Num.f k a0 a1 l2 = some (r1, r2, r3)) :
  Calls Tryz.prog 63 #[.string a0, .func (.func 64) #[] #[], .slice A2 l2.length c2] w fun e w' => ∃ v0_ : Value, e = .returned (.tuple #[v0_, .agg #[.int .i64 r2, .int .i64 r3]]) ∧ Kd.R k50 50 w' w.heap.size (fun _ => True) v0_ r1 ∧ Below w.heap.size w w' := by
 have hu41 := Tryz.underlying41; have hu105 := Tryz.underlying105; have hu50 := Tryz.underlying50; have HR2 := Aside0.mk hr2; have HC2 := Aside0.mk hc2; clear hr2 hc2; have HB := Aside0.mk (Below.refl w.heap.size w); have H : (fixed_Num.l0 k a0 ([] : List (S50)) l2 (l2.length : Int) 0 0 0) = some (r1, r2, r3) := h; clear h; have H' := Aside0.mk H; clear H; go_enter Tryz.func63, Tryz.ntmps63
 go_wp2_with (first | ((with_reducible refine gate_dst (N := 7) rfl ?_); refine box_ev (N := 7) (cs := #[.int .i64 0, .int .i64 0]) (t := 41) ?_; intro gb101 hg w4 hbox hb; have BK101 := Aside0.mk (hbox); have GW101 := Aside0.mk ((qg : w.heap.size ≤ gb101)); have GE101 := Aside0.mk ((qg : w.heap.size ≤ gb101)); replace HB := cB HB hb; clear hb hbox hg))
 (try simp only [Act.put, List.setIfInBounds_toArray, List.set_cons_zero, List.set_cons_succ])
 go_loopg [6, 14] k (fun kq v6 v14 w' => ∃ (x6_1 : List (S50)) (x14_1 : Int) (x102000_1 : Int) (x102001_1 : Int), v14 = .int .i64 x14_1 ∧ Aside0 (fixed_Num.l0 kq a0 x6_1 l2 (l2.length : Int) x14_1 x102000_1 x102001_1 = some (r1, r2, r3)) ∧ Aside0 (kq ≤ k) ∧ Aside0 (Kd.R k50 50 w' w.heap.size (fun _ => True) v6 x6_1) ∧ Aside0 (w'.heap[gb101]? = some (.cells #[.int .i64 x102000_1, .int .i64 x102001_1] 41 (0, 0))) ∧ Aside0 (Below w.heap.size w w'))
 case atStart => exact ⟨(([] : List (S50))), (0), (0), (0), qr, H', ⟨Nat.le_refl _⟩, ⟨by first | exact Kd.R_nil _ _ _ _ _ | exact Kd.N_nil _ _ _ _ _ | exact Kd.V_nil _ _ _ _ _ | exact Kd.Q_nil _ _ _ _ _ | exact Kd.S_nil _ _ _ _ _⟩, ⟨qk BK101.out⟩, ⟨qb⟩⟩
 case round =>
  clear H'; (try clear c2); (try clear p2); obtain ⟨x6_1, x14_1, x102000_1, x102001_1, rfl, HA, HK1, HO_6, BK101, HB⟩ := hrel; cases gk with
  | zero => exact absurd HA.out (by simp [fixed_Num.l0])
  | succ k1 =>
   have H := HA.out; clear HA; simp only [fixed_Num.l0] at H
   by_cases c5 : x14_1 < (l2.length : Int)
   ·rw [if_pos c5] at H; have c5b0 := decide_eq_true c5; clear c5
    by_cases c6 : 0 ≤ x14_1
    ·rw [if_pos c6] at H; have c6b0 := decide_eq_true c6; clear c6
     by_cases c7 : x14_1 < (l2.length : Int)
     ·rw [if_pos c7] at H; have c7b0 := decide_eq_true c7; clear c7; replace H := Option.bind_eq_some_iff.mp H; obtain ⟨t104, A80, H⟩ := H; (try dsimp only at H); have A8 := Aside0.mk A80; clear A80; replace H := Option.bind_eq_some_iff.mp H; obtain ⟨⟨t105, t106, t107⟩, A90, H⟩ := H; (try dsimp only at H); have A9 := Aside0.mk A90; clear A90
      by_cases c10 : t107 = 0
      ·rw [if_pos c10] at H; have c10b0 := beq_iff_eq.mpr c10; have c10b1 := bne_eq_false_iff_eq.mpr c10; clear c10
       by_cases c11 : x6_1.length < 8796093022208
       ·rw [if_pos c11] at H; have LMc11 := Aside0.mk c11; clear c11; obtain ⟨y109, hy109⟩ : ∃ y_ : List (S50), y_ = (x6_1 ++ [(⟨t105, t106⟩ : S50)]) := ⟨_, rfl⟩; replace H : (fixed_Num.l0 k1 a0 y109 l2 (l2.length : Int) (wrap64 (x14_1 + 1)) x102000_1 x102001_1) = some (r1, r2, r3) := by first | (rw [hy109]; with_reducible exact H) | (have H2_ := (Option.bind_some _ _).symm.trans H; rw [hy109]; with_reducible exact H2_) | (have H2_ := (Option.bind_some _ _).symm.trans H; with_reducible exact H2_) | with_reducible exact H | (rw [hy109]; exact H) | exact H
        have Ny109 := Aside0.mk hy109; clear hy109; have H' := Aside0.mk H; clear H; have p102 : 0 ≤ (x14_1 : Int) := of_decide_eq_true qa; have q102 : x14_1 < (l2.length : Int) := of_decide_eq_true qa; obtain ⟨ad102, e102, hx102_0, hx102_1⟩ := at_T105 HR2.out x14_1 p102 q102; cases e102; replace hx102_0 := (HB.out.cell (World.block_lt_of_cell? w _ hx102_0)).trans hx102_0; replace hx102_1 := (HB.out.cell (World.block_lt_of_cell? w _ hx102_1)).trans hx102_1; (try simp only [Go.IntWalk.toNatUp] at hx102_0); (try simp only [Go.IntWalk.toNatUp] at hx102_1); replace p102 := eq_true p102; replace q102 := eq_true q102
        go_wp2_with (first | ((with_reducible refine gate_dst (N := 9) rfl ?_); refine box_ev (N := 9) (cs := #[.int .i64 0, .int .i64 0]) (t := 105) ?_; intro gb103 hg w12 hbox hb; have BK103 := Aside0.mk (hbox); have GW103 := Aside0.mk ((qg : w.heap.size ≤ gb103)); have GE103 := Aside0.mk ((qg : w.heap.size ≤ gb103)); have NB101_103 := Aside0.mk ((by rw [hg]; exact Nat.ne_of_lt (blk_lt (g := gb101) (o := .cells #[.int .i64 x102000_1, .int .i64 x102001_1] 41 (0, 0)) (qk BK101.out)) : gb101 ≠ gb103)); have NB103_101 := Aside0.mk ((by rw [hg]; exact Nat.ne_of_gt (blk_lt (g := gb101) (o := .cells #[.int .i64 x102000_1, .int .i64 x102001_1] 41 (0, 0)) (qk BK101.out)) : gb103 ≠ gb101)); replace HO_6 := cR HO_6 hb; replace BK101 := cK BK101 hb; replace HB := cB HB hb; clear hb hbox hg; have hnb13 := NB103_101.out; have hnc13 := NB101_103.out; have hcz14_0 : w12.cell? ⟨gb103, 0, none⟩ = some (.int .i64 0) := (blk_cell BK103.out 0).trans rfl; have hcz14_1 : w12.cell? ⟨gb103, 1, none⟩ = some (.int .i64 0) := (blk_cell BK103.out 1).trans rfl; have hfz14_0 := blk_frozen BK103.out 0; have hfz14_1 := blk_frozen BK103.out 1) | ((with_reducible refine gate_callee (f := 78) rfl ?_); refine goesL_ (some 22) rfl rfl Tryz.func78 (by kernel_rfl) rfl #[.string a0, .agg #[.int .i64 ((rd_T105 l2 x14_1).f0), .int .i64 ((rd_T105 l2 x14_1).f1)]] rfl qm ?_; (with_reducible refine (words_Text.calls a0 ((rd_T105 l2 x14_1).f0) ((rd_T105 l2 x14_1).f1) t104 _ A8.out).mono ?_); rintro e w15 ⟨rfl, hb⟩; refine ⟨_, rfl, ?_⟩; have n0_ := Aside0.mk (Kd.R_below (by refine qR ?_; exact (Kd.R_mono (Kd.R_far (p := ⟨gb103, 1, none⟩) (Kd.R_far (p := ⟨gb103, 0, none⟩) (Kd.R_types HO_6.out BK103.out (by decide)) (fun _ hk => hk.2) (.int .i64 ((rd_T105 l2 x14_1).f0))) (fun _ hk => hk.2) (.int .i64 ((rd_T105 l2 x14_1).f1))) (fun _ h_ => by first | exact h_.1 | exact ⟨trivial, h_.1⟩))) hb); have n1_ := Aside0.mk (blk_below (g := gb101) (o := .cells #[.int .i64 x102000_1, .int .i64 x102001_1] 41 (0, 0)) (by refine qk ?_; refine blk_far ?_ NB101_103.out _; refine qk ?_; refine blk_far ?_ NB101_103.out _; refine qk ?_; exact BK101.out) hb); have n2_ := Aside0.mk (blk_below (g := gb103) (o := .cells #[.int .i64 ((rd_T105 l2 x14_1).f0), .int .i64 ((rd_T105 l2 x14_1).f1)] 105 (0, 0)) (by refine qk ?_; refine blk_put (cs := #[.int .i64 ((rd_T105 l2 x14_1).f0), .int .i64 0]) ?_ 1 _ rfl; refine qk ?_; refine blk_put (cs := #[.int .i64 0, .int .i64 0]) ?_ 0 _ rfl; refine qk ?_; exact BK103.out) hb); replace HB := cB HB hb; replace HO_6 := n0_; replace BK101 := n1_; replace BK103 := n2_; clear n0_ n1_ n2_; (try clear hb); (try clear hb2); (try clear hk); (try clear hi)) | (go_at_call 64; (with_reducible refine (fixed_Read.calls t104 t105 t106 t107 _ A9.out).mono ?_); rintro e w16 ⟨rfl, hb⟩; replace HO_6 := cR HO_6 hb; replace BK101 := cK BK101 hb; replace BK103 := cK BK103 hb; replace HB := cB HB hb; (try clear hb); (try clear hb2); (try clear hk); (try clear hi)) | ((with_reducible refine gate_dst (N := 10) rfl ?_); refine box_ev (N := 10) (cs := #[.int .i64 0, .int .i64 0]) (t := 50) ?_; intro gb108 hg w17 hbox hb; have n0_ := Aside0.mk (Kd.R_below (Kd.R_elderB (qR HO_6.out) gb108 (Nat.le_of_eq hg.symm)) hb); have BK108 := Aside0.mk (hbox); have GW108 := Aside0.mk ((qg : w.heap.size ≤ gb108)); have GE108 := Aside0.mk ((qg : w.heap.size ≤ gb108)); have NB101_108 := Aside0.mk ((by rw [hg]; exact Nat.ne_of_lt (blk_lt (g := gb101) (o := .cells #[.int .i64 x102000_1, .int .i64 x102001_1] 41 (0, 0)) (qk BK101.out)) : gb101 ≠ gb108)); have NB108_101 := Aside0.mk ((by rw [hg]; exact Nat.ne_of_gt (blk_lt (g := gb101) (o := .cells #[.int .i64 x102000_1, .int .i64 x102001_1] 41 (0, 0)) (qk BK101.out)) : gb108 ≠ gb101)); have NB103_108 := Aside0.mk ((by rw [hg]; exact Nat.ne_of_lt (blk_lt (g := gb103) (o := .cells #[.int .i64 ((rd_T105 l2 x14_1).f0), .int .i64 ((rd_T105 l2 x14_1).f1)] 105 (0, 0)) (qk BK103.out)) : gb103 ≠ gb108)); have NB108_103 := Aside0.mk ((by rw [hg]; exact Nat.ne_of_gt (blk_lt (g := gb103) (o := .cells #[.int .i64 ((rd_T105 l2 x14_1).f0), .int .i64 ((rd_T105 l2 x14_1).f1)] 105 (0, 0)) (qk BK103.out)) : gb108 ≠ gb103)); replace BK101 := cK BK101 hb; replace BK103 := cK BK103 hb; replace HB := cB HB hb; replace HO_6 := n0_; clear n0_; clear hb hbox hg; have hnb18 := NB108_101.out; have hnc18 := NB101_108.out; have hnb19 := NB108_103.out; have hnc19 := NB103_108.out; have hcz20_0 : w17.cell? ⟨gb108, 0, none⟩ = some (.int .i64 0) := (blk_cell BK108.out 0).trans rfl; have hcz20_1 : w17.cell? ⟨gb108, 1, none⟩ = some (.int .i64 0) := (blk_cell BK108.out 1).trans rfl; have hfz20_0 := blk_frozen BK108.out 0; have hfz20_1 := blk_frozen BK108.out 1) | ((with_reducible refine gate_builtin (b := .append) (xs := #[.tmp 32, .tmp 34]) rfl ?_); at_builtin; refine Kd.R_append k50 (w0 := w) w.heap.size rfl (.tmp 32) (.tmp 34) 47 50 (.agg #[(.int .i64 0), (.int .i64 0)]) 16 rfl Tryz.underlying47 info50 rfl (by decide) (by omega) u6 x6_1 (⟨t105, t106⟩ : S50) [.int .i64 t105, .int .i64 t106] (fun k_ => k_ ≠ gb108) (fun _ => False) rfl (by first | (go_simp; done) | (go_simp; rfl)) ?aP (fun _ hk => hk.elim) ?aF ?aO ?aB ?aS ?aL ?_; (case aP => exact k50_mkM _ _ _ (⟨t105, t106⟩ : S50)); (case aB => exact qb); (case aF => exact (fun k_ hk => Kd.freshB (g := gb108) (o := .cells #[.int .i64 t105, .int .i64 t106] 50 (0, 0)) (by refine qk ?_; refine blk_put (cs := #[.int .i64 t105, .int .i64 0]) ?_ 1 _ rfl; refine qk ?_; refine blk_put (cs := #[.int .i64 0, .int .i64 0]) ?_ 0 _ rfl; refine qk ?_; exact BK108.out) k_ hk)); (case aO => exact (by refine qR ?_; exact Kd.R_mono (Kd.R_far (p := ⟨gb108, 1, none⟩) (Kd.R_far (p := ⟨gb108, 0, none⟩) (Kd.R_mono HO_6.out (fun k_ hk => (⟨hk, hk.2⟩ : _ ∧ k_ ≠ gb108))) (fun _ hk => hk.2) (.int .i64 t105)) (fun _ hk => hk.2) (.int .i64 t106)) (fun _ hk => hk.1.2))); (case aS => exact (below_size qb)); (case aL => have := LMc11.out; omega); intro v110 w21 ho hb hg hat; rw [← Ny109.out] at ho; have n0_ := Aside0.mk (blk_grown (g := gb101) (o := .cells #[.int .i64 x102000_1, .int .i64 x102001_1] 41 (0, 0)) (by refine qk ?_; refine blk_far ?_ NB101_108.out _; refine qk ?_; refine blk_far ?_ NB101_108.out _; refine qk ?_; exact BK101.out) hg (Kd.R_ne HO_6.out BK101.out (by decide))); have n1_ := Aside0.mk (blk_grown (g := gb103) (o := .cells #[.int .i64 ((rd_T105 l2 x14_1).f0), .int .i64 ((rd_T105 l2 x14_1).f1)] 105 (0, 0)) (by refine qk ?_; refine blk_far ?_ NB103_108.out _; refine qk ?_; refine blk_far ?_ NB103_108.out _; refine qk ?_; exact BK103.out) hg (Kd.R_ne HO_6.out BK103.out (by decide))); have n2_ := Aside0.mk (blk_grown (g := gb108) (o := .cells #[.int .i64 t105, .int .i64 t106] 50 (0, 0)) (by refine qk ?_; refine blk_put (cs := #[.int .i64 t105, .int .i64 0]) ?_ 1 _ rfl; refine qk ?_; refine blk_put (cs := #[.int .i64 0, .int .i64 0]) ?_ 0 _ rfl; refine qk ?_; exact BK108.out) hg (Kd.R_away HO_6.out (fun _ hk => hk.2))); have n3_ := Aside0.mk (hb); have HO111 := Aside0.mk (ho); replace BK101 := n0_; replace BK103 := n1_; replace BK108 := n2_; replace HB := n3_; clear n0_ n1_ n2_ n3_; clear HO_6; clear ho hb hg hat))
        go_roundg k1
        case measure => have := HK1.out; omega
        case rel => exact ⟨(y109), (wrap64 (x14_1 + 1)), (x102000_1), (x102001_1), qr, H', ⟨by have := HK1.out; omega⟩, ⟨by refine qR ?_; exact Kd.R_mono HO111.out (fun _ hk => trivial)⟩, ⟨qk BK101.out⟩, ⟨qb⟩⟩
       ·rw [if_neg c11] at H
        exact absurd H (by simp)
      ·rw [if_neg c10] at H; have c10b0 := beq_eq_false_iff_ne.mpr c10; have c10b1 := bne_iff_ne.mpr c10; simp only [Option.some.injEq, Prod.mk.injEq] at H; obtain ⟨rfl, rfl, rfl⟩ := H; have p102 : 0 ≤ (x14_1 : Int) := of_decide_eq_true qa; have q102 : x14_1 < (l2.length : Int) := of_decide_eq_true qa; obtain ⟨ad102, e102, hx102_0, hx102_1⟩ := at_T105 HR2.out x14_1 p102 q102; cases e102; replace hx102_0 := (HB.out.cell (World.block_lt_of_cell? w _ hx102_0)).trans hx102_0; replace hx102_1 := (HB.out.cell (World.block_lt_of_cell? w _ hx102_1)).trans hx102_1; (try simp only [Go.IntWalk.toNatUp] at hx102_0); (try simp only [Go.IntWalk.toNatUp] at hx102_1); replace p102 := eq_true p102; replace q102 := eq_true q102
       try go_wp2_with (first | ((with_reducible refine gate_dst (N := 9) rfl ?_); refine box_ev (N := 9) (cs := #[.int .i64 0, .int .i64 0]) (t := 105) ?_; intro gb103 hg w22 hbox hb; have BK103 := Aside0.mk (hbox); have GW103 := Aside0.mk ((qg : w.heap.size ≤ gb103)); have GE103 := Aside0.mk ((qg : w.heap.size ≤ gb103)); have NB101_103 := Aside0.mk ((by rw [hg]; exact Nat.ne_of_lt (blk_lt (g := gb101) (o := .cells #[.int .i64 x102000_1, .int .i64 x102001_1] 41 (0, 0)) (qk BK101.out)) : gb101 ≠ gb103)); have NB103_101 := Aside0.mk ((by rw [hg]; exact Nat.ne_of_gt (blk_lt (g := gb101) (o := .cells #[.int .i64 x102000_1, .int .i64 x102001_1] 41 (0, 0)) (qk BK101.out)) : gb103 ≠ gb101)); replace HO_6 := cR HO_6 hb; replace BK101 := cK BK101 hb; replace HB := cB HB hb; clear hb hbox hg; have hnb23 := NB103_101.out; have hnc23 := NB101_103.out; have hcz24_0 : w22.cell? ⟨gb103, 0, none⟩ = some (.int .i64 0) := (blk_cell BK103.out 0).trans rfl; have hcz24_1 : w22.cell? ⟨gb103, 1, none⟩ = some (.int .i64 0) := (blk_cell BK103.out 1).trans rfl; have hfz24_0 := blk_frozen BK103.out 0; have hfz24_1 := blk_frozen BK103.out 1) | ((with_reducible refine gate_callee (f := 78) rfl ?_); refine goesL_ (some 22) rfl rfl Tryz.func78 (by kernel_rfl) rfl #[.string a0, .agg #[.int .i64 ((rd_T105 l2 x14_1).f0), .int .i64 ((rd_T105 l2 x14_1).f1)]] rfl qm ?_; (with_reducible refine (words_Text.calls a0 ((rd_T105 l2 x14_1).f0) ((rd_T105 l2 x14_1).f1) t104 _ A8.out).mono ?_); rintro e w25 ⟨rfl, hb⟩; refine ⟨_, rfl, ?_⟩; have n0_ := Aside0.mk (Kd.R_below (by refine qR ?_; exact (Kd.R_mono (Kd.R_far (p := ⟨gb103, 1, none⟩) (Kd.R_far (p := ⟨gb103, 0, none⟩) (Kd.R_types HO_6.out BK103.out (by decide)) (fun _ hk => hk.2) (.int .i64 ((rd_T105 l2 x14_1).f0))) (fun _ hk => hk.2) (.int .i64 ((rd_T105 l2 x14_1).f1))) (fun _ h_ => by first | exact h_.1 | exact ⟨trivial, h_.1⟩))) hb); have n1_ := Aside0.mk (blk_below (g := gb101) (o := .cells #[.int .i64 x102000_1, .int .i64 x102001_1] 41 (0, 0)) (by refine qk ?_; refine blk_far ?_ NB101_103.out _; refine qk ?_; refine blk_far ?_ NB101_103.out _; refine qk ?_; exact BK101.out) hb); have n2_ := Aside0.mk (blk_below (g := gb103) (o := .cells #[.int .i64 ((rd_T105 l2 x14_1).f0), .int .i64 ((rd_T105 l2 x14_1).f1)] 105 (0, 0)) (by refine qk ?_; refine blk_put (cs := #[.int .i64 ((rd_T105 l2 x14_1).f0), .int .i64 0]) ?_ 1 _ rfl; refine qk ?_; refine blk_put (cs := #[.int .i64 0, .int .i64 0]) ?_ 0 _ rfl; refine qk ?_; exact BK103.out) hb); replace HB := cB HB hb; replace HO_6 := n0_; replace BK101 := n1_; replace BK103 := n2_; clear n0_ n1_ n2_; (try clear hb); (try clear hb2); (try clear hk); (try clear hi)) | (go_at_call 64; (with_reducible refine (fixed_Read.calls t104 t105 t106 t107 _ A9.out).mono ?_); rintro e w26 ⟨rfl, hb⟩; replace HO_6 := cR HO_6 hb; replace BK101 := cK BK101 hb; replace BK103 := cK BK103 hb; replace HB := cB HB hb; (try clear hb); (try clear hb2); (try clear hk); (try clear hi)) | ((with_reducible refine gate_dst (N := 10) rfl ?_); refine box_ev (N := 10) (cs := #[.int .i64 0, .int .i64 0]) (t := 50) ?_; intro gb108 hg w27 hbox hb; have n0_ := Aside0.mk (Kd.R_below (Kd.R_elderB (qR HO_6.out) gb108 (Nat.le_of_eq hg.symm)) hb); have BK108 := Aside0.mk (hbox); have GW108 := Aside0.mk ((qg : w.heap.size ≤ gb108)); have GE108 := Aside0.mk ((qg : w.heap.size ≤ gb108)); have NB101_108 := Aside0.mk ((by rw [hg]; exact Nat.ne_of_lt (blk_lt (g := gb101) (o := .cells #[.int .i64 x102000_1, .int .i64 x102001_1] 41 (0, 0)) (qk BK101.out)) : gb101 ≠ gb108)); have NB108_101 := Aside0.mk ((by rw [hg]; exact Nat.ne_of_gt (blk_lt (g := gb101) (o := .cells #[.int .i64 x102000_1, .int .i64 x102001_1] 41 (0, 0)) (qk BK101.out)) : gb108 ≠ gb101)); have NB103_108 := Aside0.mk ((by rw [hg]; exact Nat.ne_of_lt (blk_lt (g := gb103) (o := .cells #[.int .i64 ((rd_T105 l2 x14_1).f0), .int .i64 ((rd_T105 l2 x14_1).f1)] 105 (0, 0)) (qk BK103.out)) : gb103 ≠ gb108)); have NB108_103 := Aside0.mk ((by rw [hg]; exact Nat.ne_of_gt (blk_lt (g := gb103) (o := .cells #[.int .i64 ((rd_T105 l2 x14_1).f0), .int .i64 ((rd_T105 l2 x14_1).f1)] 105 (0, 0)) (qk BK103.out)) : gb108 ≠ gb103)); replace BK101 := cK BK101 hb; replace BK103 := cK BK103 hb; replace HB := cB HB hb; replace HO_6 := n0_; clear n0_; clear hb hbox hg; have hnb28 := NB108_101.out; have hnc28 := NB101_108.out; have hnb29 := NB108_103.out; have hnc29 := NB103_108.out; have hcz30_0 : w27.cell? ⟨gb108, 0, none⟩ = some (.int .i64 0) := (blk_cell BK108.out 0).trans rfl; have hcz30_1 : w27.cell? ⟨gb108, 1, none⟩ = some (.int .i64 0) := (blk_cell BK108.out 1).trans rfl; have hfz30_0 := blk_frozen BK108.out 0; have hfz30_1 := blk_frozen BK108.out 1))
       have n0_ : Aside0 (Kd.R k50 50 ((w27.setCell ⟨gb108, 0, none⟩ (.int .i64 t105)).setCell ⟨gb108, 1, none⟩ (.int .i64 t106)) w.heap.size (fun k_ => k_ ≠ gb108) u6 x6_1) := ⟨by refine qR ?_; exact Kd.R_mono (Kd.R_far (p := ⟨gb108, 1, none⟩) (Kd.R_far (p := ⟨gb108, 0, none⟩) (Kd.R_mono HO_6.out (fun k_ hk => (⟨hk, hk.2⟩ : _ ∧ k_ ≠ gb108))) (fun _ hk => hk.2) (.int .i64 t105)) (fun _ hk => hk.2) (.int .i64 t106)) (fun _ hk => hk.1.2)⟩; have n1_ : Aside0 (((w27.setCell ⟨gb108, 0, none⟩ (.int .i64 t105)).setCell ⟨gb108, 1, none⟩ (.int .i64 t106)).heap[gb101]? = some (.cells #[.int .i64 x102000_1, .int .i64 x102001_1] 41 (0, 0))) := ⟨by refine qk ?_; refine blk_far ?_ NB101_108.out _; refine qk ?_; refine blk_far ?_ NB101_108.out _; refine qk ?_; exact BK101.out⟩; have n2_ : Aside0 (((w27.setCell ⟨gb108, 0, none⟩ (.int .i64 t105)).setCell ⟨gb108, 1, none⟩ (.int .i64 t106)).heap[gb103]? = some (.cells #[.int .i64 ((rd_T105 l2 x14_1).f0), .int .i64 ((rd_T105 l2 x14_1).f1)] 105 (0, 0))) := ⟨by refine qk ?_; refine blk_far ?_ NB103_108.out _; refine qk ?_; refine blk_far ?_ NB103_108.out _; refine qk ?_; exact BK103.out⟩; have n3_ : Aside0 (((w27.setCell ⟨gb108, 0, none⟩ (.int .i64 t105)).setCell ⟨gb108, 1, none⟩ (.int .i64 t106)).heap[gb108]? = some (.cells #[.int .i64 t105, .int .i64 t106] 50 (0, 0))) := ⟨by refine qk ?_; refine blk_put (cs := #[.int .i64 t105, .int .i64 0]) ?_ 1 _ rfl; refine qk ?_; refine blk_put (cs := #[.int .i64 0, .int .i64 0]) ?_ 0 _ rfl; refine qk ?_; exact BK108.out⟩; have n4_ : Aside0 (Below w.heap.size w ((w27.setCell ⟨gb108, 0, none⟩ (.int .i64 t105)).setCell ⟨gb108, 1, none⟩ (.int .i64 t106))) := ⟨qb⟩; (try clear HO_6); (try clear BK101); (try clear BK103); (try clear BK108); (try clear HB); generalize ((w27.setCell ⟨gb108, 0, none⟩ (.int .i64 t105)).setCell ⟨gb108, 1, none⟩ (.int .i64 t106)) = w31 at n0_ n1_ n2_ n3_ n4_ ⊢; have HO_6 := n0_; have BK101 := n1_; have BK103 := n2_; have BK108 := n3_; have HB := n4_; clear n0_ n1_ n2_ n3_ n4_; have n0_ := Aside0.mk (Kd.R_drew HO_6.out); have n1_ := Aside0.mk (blk_drew BK101.out); have n2_ := Aside0.mk (blk_drew BK103.out); have n3_ := Aside0.mk (blk_drew BK108.out); have n4_ := Aside0.mk (below_drew1 HB.out); clear HO_6; clear BK101; clear BK103; clear BK108; clear HB; have HO_6 := n0_; have BK101 := n1_; have BK103 := n2_; have BK108 := n3_; have HB := n4_; clear n0_ n1_ n2_ n3_ n4_; refine start_ (n := 6) (S := fun w' => w'.cell? ⟨gb103, 0, none⟩ = some (.int .i64 ((rd_T105 l2 x14_1).f0)) ∧ w'.cell? ⟨gb103, 1, none⟩ = some (.int .i64 ((rd_T105 l2 x14_1).f1))) (ds := []) #[false, false, false, false, false, false] (by kernel_rfl) rfl rfl ⟨(blk_cell BK103.out 0).trans rfl, (blk_cell BK103.out 1).trans rfl⟩ (fun hHeld => ?_); generalize w31.drew = w32 at HO_6 BK101 BK103 BK108 HB hHeld ⊢; refine pure_ (i := 0) (N := some 28) (v := ?_) (a' := ?_) #[true, false, false, false, false, false] rfl rfl (by kernel_rfl) (fun _ _ _ h => h) (Or.inl ⟨by rfl, ?_⟩) ?_ ?_
       rotate_left
       ·intro w'
        go_simp
        with_reducible rfl
       rotate_left
       ·simp only [Act.put, List.setIfInBounds_toArray, List.set_cons_zero, List.set_cons_succ, i64_w, i32_w]
        rfl
       refine pure_ (i := 2) (N := some 30) (v := ?_) (a' := ?_) #[true, false, true, false, false, false] rfl rfl (by kernel_rfl) (fun _ _ _ h => h) (Or.inl ⟨by rfl, ?_⟩) ?_ ?_
       rotate_left
       ·intro w'
        go_simp
        with_reducible rfl
       rotate_left
       ·simp only [Act.put, List.setIfInBounds_toArray, List.set_cons_zero, List.set_cons_succ, i64_w, i32_w]
        rfl
       refine pure_ (i := 4) (N := some 6) (v := ?_) (a' := ?_) #[true, false, true, false, true, false] rfl rfl (by kernel_rfl) (fun _ _ _ h => h) (Or.inl ⟨by rfl, ?_⟩) ?_ ?_
       rotate_left
       ·intro w'
        go_simp
        with_reducible rfl
       rotate_left
       ·simp only [Act.put, List.setIfInBounds_toArray, List.set_cons_zero, List.set_cons_succ, i64_w, i32_w]
        rfl
       refine take_ (i := 1) (N := some 29) (v := ?_) (a' := ?_) #[true, true, true, false, true, false] rfl rfl (by kernel_rfl) (fun _ _ _ h => h) (Or.inl ⟨by rfl, ?_⟩) hHeld ?_ ?_
       rotate_left
       ·rintro w' ⟨s0, s1⟩
        go_simp
        with_reducible rfl
       rotate_left
       ·simp only [Act.put, List.setIfInBounds_toArray, List.set_cons_zero, List.set_cons_succ, i64_w, i32_w]
        rfl
       refine pure_ (i := 3) (N := some 31) (v := ?_) (a' := ?_) #[true, true, true, true, true, false] rfl rfl (by kernel_rfl) (fun _ _ _ h => h) (Or.inl ⟨by rfl, ?_⟩) ?_ ?_
       rotate_left
       ·intro w'
        go_simp
        with_reducible rfl
       rotate_left
       ·simp only [Act.put, List.setIfInBounds_toArray, List.set_cons_zero, List.set_cons_succ, i64_w, i32_w]
        rfl
       refine one_ (i := 5) (N := none) #[true, true, true, true, true, true] rfl rfl (by kernel_rfl) (by decide) (fun K hK => ?_); have hs33 : w32.cell? ⟨gb101, 0, none⟩ = some (.int .i64 x102000_1) := (blk_cell BK101.out 0).trans rfl; have hfs33 := blk_frozen BK101.out 0; have hns33_1 := NB103_101.out; have hns33_2 := NB108_101.out; have hms33_1 := NB101_103.out; have hms33_2 := NB101_108.out; have hs34 : w32.cell? ⟨gb101, 1, none⟩ = some (.int .i64 x102001_1) := (blk_cell BK101.out 1).trans rfl; have hfs34 := blk_frozen BK101.out 1; have hns34_1 := NB103_101.out; have hns34_2 := NB108_101.out; have hms34_1 := NB101_103.out; have hms34_2 := NB101_108.out; refine skip_ (w1 := ?_) (by rfl) rfl ?_ ?_
       rotate_left
       ·go_simp
        rfl
       refine hK.out _ _ ⟨((cell_far (p := ⟨gb101, _, none⟩) NB103_101.out _).trans (((cell_far (p := ⟨gb101, _, none⟩) NB103_101.out _).trans (hHeld.1)))), ((cell_far (p := ⟨gb101, _, none⟩) NB103_101.out _).trans (((cell_far (p := ⟨gb101, _, none⟩) NB103_101.out _).trans (hHeld.2))))⟩ (fun hHeld => ?_); clear hK K; refine done_ (by kernel_rfl) ?_
       try go_wp2
       refine bodyPost_ret (results_tc rfl _ _ gb101 41 #[.int .i64 ((rd_T105 l2 x14_1).f0), .int .i64 t107] (0, 0) _ rfl (by refine qk ?_; refine blk_put (cs := #[.int .i64 ((rd_T105 l2 x14_1).f0), .int .i64 x102001_1]) ?_ 1 _ rfl; refine qk ?_; refine blk_put (cs := #[.int .i64 x102000_1, .int .i64 x102001_1]) ?_ 0 _ rfl; refine qk ?_; exact BK101.out) Tryz.underlying41 rfl (by kernel_rfl)) rfl ?_
       exact ⟨_, qe, by first | exact Kd.R_nil _ _ _ _ _ | exact Kd.N_nil _ _ _ _ _ | exact Kd.V_nil _ _ _ _ _ | exact Kd.Q_nil _ _ _ _ _ | exact Kd.S_nil _ _ _ _ _, qb⟩
     ·rw [if_neg c7] at H
      exact absurd H (by simp)
    ·rw [if_neg c6] at H
     exact absurd H (by simp)
   ·rw [if_neg c5] at H; have c5b0 := decide_eq_false c5; clear c5; simp only [Option.some.injEq, Prod.mk.injEq] at H; obtain ⟨rfl, rfl, rfl⟩ := H
    try go_wp2
    have n0_ := Aside0.mk (Kd.R_drew HO_6.out); have n1_ := Aside0.mk (blk_drew BK101.out); have n2_ := Aside0.mk (below_drew1 HB.out); clear HO_6; clear BK101; clear HB; have HO_6 := n0_; have BK101 := n1_; have HB := n2_; clear n0_ n1_ n2_; refine start_ (n := 4) (S := fun w' => w'.cell? ⟨gb101, 0, none⟩ = some (.int .i64 x102000_1) ∧ w'.cell? ⟨gb101, 1, none⟩ = some (.int .i64 x102001_1)) (ds := [3]) #[false, false, false, false] (by kernel_rfl) rfl rfl ⟨(blk_cell BK101.out 0).trans rfl, (blk_cell BK101.out 1).trans rfl⟩ (fun hHeld => ?_); generalize wr.drew = w35 at HO_6 BK101 HB hHeld ⊢; refine pure_ (i := 0) (N := some 37) (v := ?_) (a' := ?_) #[true, false, false, false] rfl rfl (by kernel_rfl) (fun _ _ _ h => h) (Or.inl ⟨by rfl, ?_⟩) ?_ ?_
    rotate_left
    ·intro w'
     go_simp
     with_reducible rfl
    rotate_left
    ·simp only [Act.put, List.setIfInBounds_toArray, List.set_cons_zero, List.set_cons_succ, i64_w, i32_w]
     rfl
    refine pure_ (i := 2) (N := some 6) (v := ?_) (a' := ?_) #[true, false, true, false] rfl rfl (by kernel_rfl) (fun _ _ _ h => h) (Or.inl ⟨by rfl, ?_⟩) ?_ ?_
    rotate_left
    ·intro w'
     go_simp
     with_reducible rfl
    rotate_left
    ·simp only [Act.put, List.setIfInBounds_toArray, List.set_cons_zero, List.set_cons_succ, i64_w, i32_w]
     rfl
    refine take_ (i := 1) (N := some 38) (v := ?_) (a' := ?_) #[true, true, true, false] rfl rfl (by kernel_rfl) (fun _ _ _ h => h) (Or.inl ⟨by rfl, ?_⟩) hHeld ?_ ?_
    rotate_left
    ·rintro w' ⟨s0, s1⟩
     go_simp
     with_reducible rfl
    rotate_left
    ·simp only [Act.put, List.setIfInBounds_toArray, List.set_cons_zero, List.set_cons_succ, i64_w, i32_w]
     rfl
    refine last_ (i := 3) (N := none) #[true, true, true, true] rfl rfl (by kernel_rfl) (by decide) (fun K hK => ?_); have hs36 : w35.cell? ⟨gb101, 0, none⟩ = some (.int .i64 x102000_1) := (blk_cell BK101.out 0).trans rfl; have hfs36 := blk_frozen BK101.out 0; have hs37 : w35.cell? ⟨gb101, 1, none⟩ = some (.int .i64 x102001_1) := (blk_cell BK101.out 1).trans rfl; have hfs37 := blk_frozen BK101.out 1; refine skip_ (w1 := ?_) (by rfl) rfl ?_ ?_
    rotate_left
    ·go_simp
     rfl
    refine hK.out _ _ ?_; clear hK K; refine done_ (by kernel_rfl) ?_
    try go_wp2
    refine bodyPost_ret (results_tc rfl _ _ gb101 41 #[.int .i64 x102000_1, .int .i64 x102001_1] (0, 0) _ rfl (by refine qk ?_; refine blk_put (cs := #[.int .i64 x102000_1, .int .i64 x102001_1]) ?_ 1 _ rfl; refine qk ?_; refine blk_put (cs := #[.int .i64 x102000_1, .int .i64 x102001_1]) ?_ 0 _ rfl; refine qk ?_; exact BK101.out) Tryz.underlying41 rfl (by kernel_rfl)) rfl ?_
    exact ⟨_, qe, by refine qR ?_; exact Kd.R_mono (Kd.R_far (p := ⟨gb101, 1, none⟩) (Kd.R_far (p := ⟨gb101, 0, none⟩) (Kd.R_types HO_6.out BK101.out (by decide)) (fun _ hk => hk.2) (.int .i64 x102000_1)) (fun _ hk => hk.2) (.int .i64 x102001_1)) (fun _ hk => trivial), qb⟩

end Go.Proofs.YtadocbfchdendaaGreatDoor.P
namespace Go.Proofs.YtadocbfchdendaaGreatDoor.P
open Go.RowKit Go.Proofs.YtadocbfchdendaaGreatDoorW.PrintWords Go.Proofs.YtadocbfchdendaaGreatDoorW.PrintLast Go.Proofs.YtadocbfchdendaaGreatDoorW.PrintMore
attribute [local go_sem] max2_int min2_int max_two min_two max_three min_three max_four min_four   -- for this text's walks alone
set_option linter.unusedVariables false
set_option linter.unusedSimpArgs false
def sheet_Nums.f (k : Nat) (a0 : ByteArray) (a1_0 : Int) (l1_1 : List (S105)) (a2 : Int) : Option ((List (S50)) × Int × Int) := if 0 ≤ (mn (mx a2 0) (l1_1.length : Int)) then (if (mn (mx a2 0) (l1_1.length : Int)) ≤ (l1_1.length : Int) then ((fixed_Num.f k a0 () (l1_1.drop ((mn (mx a2 0) (l1_1.length : Int)) : Int).toNat)).bind fun bt107 => (some (bt107.1, bt107.2.1, bt107.2.2))) else (none)) else (none)
theorem sheet_Nums.mono : ∀ a0 a1 a2 a3 k, LeO (sheet_Nums.f k a0 a1 a2 a3) (sheet_Nums.f (k + 1) a0 a1 a2 a3) := by
 intro a0 a1 a2 a3 k
 unfold sheet_Nums.f
 repeat' first
   | (with_reducible exact fixed_Num.mono _ _ _ _)
   | (with_reducible exact LeO.refl _)
   | (with_reducible exact LeO.none _)
   | (with_reducible refine LeO.ite ?_ ?_)
   | (with_reducible refine LeO.bind ?_ (fun _ => ?_))
   | exact fixed_Num.mono _ _ _ _
   | exact LeO.none _
   | refine LeO.ite ?_ ?_
   | refine LeO.bind ?_ (fun _ => ?_)
set_option maxHeartbeats 8000000 in
set_option maxRecDepth 100000 in
theorem sheet_Nums.calls (k : Nat) (a0 : ByteArray) (a1_0 : Int) (A1_1 : Option Addr) (c1_1 : Nat) (l1_1 : List (S105)) (a2 : Int) (r1 : List (S50)) (r2 : Int) (r3 : Int) (w : World) (hr1_1 : Kd.C k105 w A1_1 l1_1.length l1_1) (hc1_1 : l1_1.length ≤ c1_1) (h : sheet_Nums.f k a0 a1_0 l1_1 a2 = some (r1, r2, r3)) :
  Calls Tryz.prog 30 #[.string a0, .agg #[.int .i64 a1_0, .slice A1_1 l1_1.length c1_1], .int .i64 a2] w fun e w' => ∃ v0_ : Value, e = .returned (.tuple #[v0_, .agg #[.int .i64 r2, .int .i64 r3]]) ∧ Kd.R k50 50 w' w.heap.size (fun _ => True) v0_ r1 ∧ Below w.heap.size w w' := by
 have hu32 := Tryz.underlying32; have hu41 := Tryz.underlying41; have HR1_1 := Aside0.mk hr1_1; have HC1_1 := Aside0.mk hc1_1; clear hr1_1 hc1_1; have HB := Aside0.mk (Below.refl w.heap.size w); have H : (if 0 ≤ (mn (mx a2 0) (l1_1.length : Int)) then (if (mn (mx a2 0) (l1_1.length : Int)) ≤ (l1_1.length : Int) then ((fixed_Num.f k a0 () (l1_1.drop ((mn (mx a2 0) (l1_1.length : Int)) : Int).toNat)).bind fun bt107 => (some (bt107.1, bt107.2.1, bt107.2.2))) else (none)) else (none)) = some (r1, r2, r3) := h; clear h; obtain ⟨ji4, hji4⟩ : ∃ j_ : Int, (mx a2 0) = j_ := ⟨_, rfl⟩; replace H : (if 0 ≤ (mn (ji4) (l1_1.length : Int)) then (if (mn (ji4) (l1_1.length : Int)) ≤ (l1_1.length : Int) then ((fixed_Num.f k a0 () (l1_1.drop ((mn (ji4) (l1_1.length : Int)) : Int).toNat)).bind fun bt107 => (some (bt107.1, bt107.2.1, bt107.2.2))) else (none)) else (none)) = some (r1, r2, r3) := by first | (rw [hji4] at H; exact H) | (simp only [hji4] at H ⊢; exact H)
 (try (have hji4l : 0 ≤ ji4 := by (rw [← hji4]; unfold mx; (repeat' split) <;> omega))); (try (have hji4m : 0 ≤ ji4 := by omega)); have hji4_ : (if a2 < 0 then 0 else a2) = ji4 := hji4; obtain ⟨ji5, hji5⟩ : ∃ j_ : Int, (mn (ji4) (l1_1.length : Int)) = j_ := ⟨_, rfl⟩; replace H : (if 0 ≤ (ji5) then (if (ji5) ≤ (l1_1.length : Int) then ((fixed_Num.f k a0 () (l1_1.drop ((ji5) : Int).toNat)).bind fun bt107 => (some (bt107.1, bt107.2.1, bt107.2.2))) else (none)) else (none)) = some (r1, r2, r3) := by first | (rw [hji5] at H; exact H) | (simp only [hji5] at H ⊢; exact H)
 have hji5_ : (if (l1_1.length : Int) < (ji4) then (l1_1.length : Int) else (ji4)) = ji5 := hji5
 by_cases c6 : 0 ≤ (ji5)
 ·rw [if_pos c6] at H; have c6b0 := eq_true c6; have c6b1 := decide_eq_true c6; clear c6
  by_cases c7 : (ji5) ≤ (l1_1.length : Int)
  ·rw [if_pos c7] at H; have c7b0 := eq_true c7; have c7b1 := decide_eq_true c7; clear c7; obtain ⟨y103, hy103⟩ : ∃ y_ : List (S105), y_ = (l1_1.drop ((ji5) : Int).toNat) := ⟨_, rfl⟩; replace H : ((fixed_Num.f k a0 () y103).bind fun bt107 => (some (bt107.1, bt107.2.1, bt107.2.2))) = some (r1, r2, r3) := by first | (rw [hy103]; with_reducible exact H) | (have H2_ := (Option.bind_some _ _).symm.trans H; rw [hy103]; with_reducible exact H2_) | (have H2_ := (Option.bind_some _ _).symm.trans H; with_reducible exact H2_) | with_reducible exact H | (rw [hy103]; exact H) | exact H
   have Ny103 := Aside0.mk hy103; clear hy103; replace H := Option.bind_eq_some_iff.mp H; obtain ⟨⟨t107, t110, t111⟩, A80, H⟩ := H; (try dsimp only at H); have A8 := Aside0.mk A80; clear A80; simp only [Option.some.injEq, Prod.mk.injEq] at H; obtain ⟨rfl, rfl, rfl⟩ := H; go_enter Tryz.func30, Tryz.ntmps30
   go_wp2_with (first | ((with_reducible refine gate_dst (N := 4) rfl ?_); refine box_ev (N := 4) (cs := #[.int .i64 a1_0, .slice A1_1 l1_1.length c1_1]) (t := 32) ?_; intro gb101 hg w9 hbox hb; have BK101 := Aside0.mk (hbox); have GW101 := Aside0.mk ((qg : w.heap.size ≤ gb101)); have GE101 := Aside0.mk ((qg : w.heap.size ≤ gb101)); replace HB := cB HB hb; clear hb hbox hg) | ((with_reducible refine gate_dst (N := 7) rfl ?_); refine box_ev (N := 7) (cs := #[.int .i64 0, .int .i64 0]) (t := 41) ?_; intro gb102 hg w10 hbox hb; have BK102 := Aside0.mk (hbox); have GW102 := Aside0.mk ((qg : w.heap.size ≤ gb102)); have GE102 := Aside0.mk ((qg : w.heap.size ≤ gb102)); have NB101_102 := Aside0.mk ((by rw [hg]; exact Nat.ne_of_lt (blk_lt (g := gb101) (o := .cells #[.int .i64 a1_0, .slice A1_1 l1_1.length c1_1] 32 (0, 0)) (qk BK101.out)) : gb101 ≠ gb102)); have NB102_101 := Aside0.mk ((by rw [hg]; exact Nat.ne_of_gt (blk_lt (g := gb101) (o := .cells #[.int .i64 a1_0, .slice A1_1 l1_1.length c1_1] 32 (0, 0)) (qk BK101.out)) : gb102 ≠ gb101)); replace BK101 := cK BK101 hb; replace HB := cB HB hb; clear hb hbox hg; have hnb11 := NB101_102.out; have hnc11 := NB102_101.out; have hcz12_0 : w10.cell? ⟨gb101, 0, none⟩ = some (.int .i64 a1_0) := (blk_cell BK101.out 0).trans rfl; have hcz12_1 : w10.cell? ⟨gb101, 1, none⟩ = some (.slice A1_1 l1_1.length c1_1) := (blk_cell BK101.out 1).trans rfl; have hfz12_0 := blk_frozen BK101.out 0; have hfz12_1 := blk_frozen BK101.out 1; have q13 : ((ji5) : Int) ≤ ((l1_1.length : Int) : Int) := of_decide_eq_true qa; obtain ⟨i013, hi013, _, hsz13, _⟩ := info_parts info105; have hroom13 : l1_1.length ≤ c1_1 := HC1_1.out; have hC13 : Kd.C k105 _ A1_1 l1_1.length l1_1 := HR1_1.out; have q013 : (0 : Int) ≤ ((ji5) : Int) := of_decide_eq_true qa; have hcut13 := cut_from (P := Tryz.prog) 30 105 .i64 Tryz.underlying30 hi013 2 hsz13 A1_1 l1_1.length c1_1 (ji5) q013 q13; have hr13 := Kd.C_drop (m := ((ji5) : Int).toNat) (c := c1_1) hC13 (by omega) hroom13; obtain ⟨A13, hA13⟩ : ∃ A1, A1 = (if c1_1 = ((ji5) : Int).toNat then A1_1 else (A1_1 : Option Addr).map (·.add (((ji5) : Int).toNat * 2))) := ⟨_, rfl⟩; obtain ⟨c13, hc13⟩ : ∃ c1, c1 = c1_1 - ((ji5) : Int).toNat := ⟨_, rfl⟩; have hy13 : y103.length = l1_1.length - ((ji5) : Int).toNat := (by rw [Ny103.out, List.length_drop] <;> omega); rw [show (l1_1).drop ((ji5) : Int).toNat = y103 from Ny103.out.symm] at hr13; replace hr13 : Kd.C k105 _ A13 y103.length y103 := (by rw [hA13]; exact hr13); rw [← hy13, ← hA13, ← hc13] at hcut13; have HR106 := Aside0.mk hr13; have HC106 := Aside0.mk (show y103.length ≤ c13 from by rw [hy13, hc13]; exact Nat.sub_le_sub_right hroom13 _); clear hr13 hC13 hroom13 hi013 hsz13 hc13; have KY13 := Aside0.mk hy13; have KA13 := Aside0.mk hA13; clear hy13 hA13; replace q13 := eq_true q13) | ((with_reducible refine gate_callee (f := 63) rfl ?_); refine goesL_ (some 18) rfl rfl Tryz.func63 (by kernel_rfl) rfl #[.string a0, .func (.func 64) #[] #[], .slice A13 y103.length c13] rfl qm ?_; (with_reducible refine (fixed_Num.calls k a0 () _ _ y103 t107 t110 t111 _ ?side1 ?side2 A8.out).mono ?_); (case side1 => exact qC (Kd.C_below HR106.out HB.out)); (case side2 => exact HC106.out); rintro e w14 ⟨v108, rfl, ho0, hb⟩; refine ⟨_, rfl, ?_⟩; have HO109 := Aside0.mk (Kd.R_lower ho0 (below_size qb)); replace BK101 := cK BK101 hb; replace BK102 := cK BK102 hb; replace HB := cB HB hb; (try clear hb); (try clear hb2); (try clear hk); (try clear hi); (try clear ho0); have hcz15_0 : w14.cell? ⟨gb102, 0, none⟩ = some (.int .i64 0) := (blk_cell BK102.out 0).trans rfl; have hcz15_1 : w14.cell? ⟨gb102, 1, none⟩ = some (.int .i64 0) := (blk_cell BK102.out 1).trans rfl; have hfz15_0 := blk_frozen BK102.out 0; have hfz15_1 := blk_frozen BK102.out 1))
   refine bodyPost_ret (results_tc rfl _ _ gb102 41 #[.int .i64 t110, .int .i64 t111] (0, 0) _ rfl (by refine qk ?_; refine blk_put (cs := #[.int .i64 t110, .int .i64 0]) ?_ 1 _ rfl; refine qk ?_; refine blk_put (cs := #[.int .i64 0, .int .i64 0]) ?_ 0 _ rfl; refine qk ?_; exact BK102.out) Tryz.underlying41 rfl (by kernel_rfl)) rfl ?_
   exact ⟨_, by first | rfl | (simp [errW_none, errW_some] <;> rfl) | (simp only [← hji4, ← hji5]; first | rfl | (simp [errW_none, errW_some] <;> rfl)) | (simp [*, errW_none, errW_some] <;> rfl), by refine qR ?_; exact Kd.R_mono (Kd.R_far (p := ⟨gb102, 1, none⟩) (Kd.R_far (p := ⟨gb102, 0, none⟩) (Kd.R_types HO109.out BK102.out (by decide)) (fun _ hk => hk.2) (.int .i64 t110)) (fun _ hk => hk.2) (.int .i64 t111)) (fun _ hk => trivial), qb⟩
  ·rw [if_neg c7] at H
   exact absurd H (by simp)
 ·rw [if_neg c6] at H
  exact absurd H (by simp)

end Go.Proofs.YtadocbfchdendaaGreatDoor.P
namespace Go.Proofs.YtadocbfchdendaaGreatDoor.P
open Go.RowKit Go.Proofs.YtadocbfchdendaaGreatDoorW.PrintWords Go.Proofs.YtadocbfchdendaaGreatDoorW.PrintLast Go.Proofs.YtadocbfchdendaaGreatDoorW.PrintMore
attribute [local go_sem] max2_int min2_int max_two min_two max_three min_three max_four min_four   -- for this text's walks alone
set_option linter.unusedVariables false
set_option linter.unusedSimpArgs false
def entrepotref02_Least.l0 : Nat → Int → Int → Option (Int × Int)
 | 0, _, _ => none
 | k + 1, x102000, x102001 => if x102001 > 0 then (if (Int.tmod x102000 10) = 0 then (entrepotref02_Least.l0 k (wrap64 (Int.tdiv x102000 10)) (wrap64 (x102001 - 1))) else (some (x102000, x102001))) else (some (x102000, x102001))
def entrepotref02_Least.f (k : Nat) (a0_0 : Int) (a0_1 : Int) : Option (Int × Int) := entrepotref02_Least.l0 k a0_0 a0_1
theorem entrepotref02_Least.mono_l : ∀ k, (∀ y0 y1, LeO (entrepotref02_Least.l0 k y0 y1) (entrepotref02_Least.l0 (k + 1) y0 y1))
 | 0 => fun _ _ r h => by simp [entrepotref02_Least.l0] at h
 | k + 1 => by
  have ih0 := entrepotref02_Least.mono_l k
  ·intro y0 y1
   unfold entrepotref02_Least.l0
   repeat' first
   | (with_reducible exact ih0 _ _)
   | (with_reducible exact LeO.refl _)
   | (with_reducible exact LeO.none _)
   | (with_reducible refine LeO.ite ?_ ?_)
   | (with_reducible refine LeO.bind ?_ (fun _ => ?_))
   | exact ih0 _ _
   | exact LeO.none _
   | refine LeO.ite ?_ ?_
   | refine LeO.bind ?_ (fun _ => ?_)
theorem entrepotref02_Least.mono : ∀ a0 a1 k, LeO (entrepotref02_Least.f k a0 a1) (entrepotref02_Least.f (k + 1) a0 a1) := by
 intro a0 a1 k
 have ih0 := entrepotref02_Least.mono_l k; unfold entrepotref02_Least.f
 repeat' first
   | (with_reducible exact ih0 _ _)
   | (with_reducible exact LeO.refl _)
   | (with_reducible exact LeO.none _)
   | (with_reducible refine LeO.ite ?_ ?_)
   | (with_reducible refine LeO.bind ?_ (fun _ => ?_))
   | exact ih0 _ _
   | exact LeO.none _
   | refine LeO.ite ?_ ?_
   | refine LeO.bind ?_ (fun _ => ?_)
set_option maxHeartbeats 8000000 in
set_option maxRecDepth 100000 in
theorem entrepotref02_Least.calls (k : Nat) (a0_0 : Int) (a0_1 : Int) (r1 : Int) (r2 : Int) (w : World) (h : entrepotref02_Least.f k a0_0 a0_1 = some (r1, r2)) :
  Calls Tryz.prog 106 #[.agg #[.int .i64 a0_0, .int .i64 a0_1]] w fun e w' => e = .returned (.agg #[.int .i64 r1, .int .i64 r2]) ∧ Below w.heap.size w w' := by
 have hu51 := Tryz.underlying51; have HB := Aside0.mk (Below.refl w.heap.size w); have H : (entrepotref02_Least.l0 k a0_0 a0_1) = some (r1, r2) := h; clear h; have H' := Aside0.mk H; clear H; go_enter Tryz.func106, Tryz.ntmps106
 go_wp2_with (first | ((with_reducible refine gate_dst (N := 1) rfl ?_); refine box_ev (N := 1) (cs := #[.int .i64 a0_0, .int .i64 a0_1]) (t := 51) ?_; intro gb101 hg w2 hbox hb; have BK101 := Aside0.mk (hbox); have GW101 := Aside0.mk ((qg : w.heap.size ≤ gb101)); have GE101 := Aside0.mk ((qg : w.heap.size ≤ gb101)); replace HB := cB HB hb; clear hb hbox hg) | ((with_reducible refine gate_dst (N := 2) rfl ?_); refine box_ev (N := 2) (cs := #[.int .i64 0, .int .i64 0]) (t := 51) ?_; intro gb102 hg w3 hbox hb; have BK102 := Aside0.mk (hbox); have GW102 := Aside0.mk ((qg : w.heap.size ≤ gb102)); have GE102 := Aside0.mk ((qg : w.heap.size ≤ gb102)); have NB101_102 := Aside0.mk ((by rw [hg]; exact Nat.ne_of_lt (blk_lt (g := gb101) (o := .cells #[.int .i64 a0_0, .int .i64 a0_1] 51 (0, 0)) (qk BK101.out)) : gb101 ≠ gb102)); have NB102_101 := Aside0.mk ((by rw [hg]; exact Nat.ne_of_gt (blk_lt (g := gb101) (o := .cells #[.int .i64 a0_0, .int .i64 a0_1] 51 (0, 0)) (qk BK101.out)) : gb102 ≠ gb101)); replace BK101 := cK BK101 hb; replace HB := cB HB hb; clear hb hbox hg))
 (try simp only [Act.put, List.setIfInBounds_toArray, List.set_cons_zero, List.set_cons_succ])
 go_loopg [] k (fun kq w' => ∃ (x102000_1 : Int) (x102001_1 : Int), Aside0 (entrepotref02_Least.l0 kq x102000_1 x102001_1 = some (r1, r2)) ∧ Aside0 (kq ≤ k) ∧ Aside0 (w'.heap[gb101]? = some (.cells #[.int .i64 x102000_1, .int .i64 x102001_1] 51 (0, 0))) ∧ Aside0 (w'.heap[gb102]? = some (.cells #[.int .i64 0, .int .i64 0] 51 (0, 0))) ∧ Aside0 (Below w.heap.size w w'))
 case atStart => exact ⟨(a0_0), (a0_1), H', ⟨Nat.le_refl _⟩, ⟨qk BK101.out⟩, ⟨qk BK102.out⟩, ⟨qb⟩⟩
 case round =>
  clear H'; (try clear c1); (try clear p2); obtain ⟨x102000_1, x102001_1, HA, HK1, BK101, BK102, HB⟩ := hrel; cases gk with
  | zero => exact absurd HA.out (by simp [entrepotref02_Least.l0])
  | succ k1 =>
   have H := HA.out; clear HA; simp only [entrepotref02_Least.l0] at H
   by_cases c4 : x102001_1 > 0
   ·rw [if_pos c4] at H; have c4b0 := decide_eq_true c4; clear c4
    by_cases c5 : (Int.tmod x102000_1 10) = 0
    ·rw [if_pos c5] at H; have c5b0 := beq_iff_eq.mpr c5; have c5b1 := bne_eq_false_iff_eq.mpr c5; clear c5; have H' := Aside0.mk H; clear H; have hnb6 := NB101_102.out; have hnc6 := NB102_101.out; obtain ⟨hcz7_0, hcz7_1, hfz7_0, hfz7_1⟩ := bc2 BK101.out
     go_wp2
     go_roundg k1
     case measure => have := HK1.out; omega
     case rel => exact ⟨(wrap64 (Int.tdiv x102000_1 10)), (wrap64 (x102001_1 - 1)), H', ⟨by have := HK1.out; omega⟩, ⟨by refine qk ?_; refine blk_put (cs := #[.int .i64 (wrap64 (Int.tdiv x102000_1 10)), .int .i64 x102001_1]) ?_ 1 _ rfl; refine qk ?_; refine blk_put (cs := #[.int .i64 x102000_1, .int .i64 x102001_1]) ?_ 0 _ rfl; refine qk ?_; exact BK101.out⟩, ⟨by refine qk ?_; refine blk_far ?_ NB102_101.out _; refine qk ?_; refine blk_far ?_ NB102_101.out _; refine qk ?_; exact BK102.out⟩, ⟨qb⟩⟩
    ·rw [if_neg c5] at H; have c5b0 := beq_eq_false_iff_ne.mpr c5; have c5b1 := bne_iff_ne.mpr c5; simp only [Option.some.injEq, Prod.mk.injEq] at H; obtain ⟨rfl, rfl⟩ := H; have hnb8 := NB101_102.out; have hnc8 := NB102_101.out; obtain ⟨hcz9_0, hcz9_1, hfz9_0, hfz9_1⟩ := bc2 BK101.out; obtain ⟨hcz10_0, hcz10_1, hfz10_0, hfz10_1⟩ := bc2 BK102.out
     go_wp2
     refine bodyPost_ret (results_cell_row rfl _ _ gb102 51 #[.int .i64 x102000_1, .int .i64 x102001_1] (0, 0) _ rfl (by refine qk ?_; refine blk_put (cs := #[.int .i64 x102000_1, .int .i64 0]) ?_ 1 _ rfl; refine qk ?_; refine blk_put (cs := #[.int .i64 0, .int .i64 0]) ?_ 0 _ rfl; refine qk ?_; exact BK102.out) Tryz.underlying51 rfl (by kernel_rfl)) rfl ?_
     exact ⟨qe, qb⟩
   ·rw [if_neg c4] at H; have c4b0 := decide_eq_false c4; clear c4; simp only [Option.some.injEq, Prod.mk.injEq] at H; obtain ⟨rfl, rfl⟩ := H; have hnb11 := NB101_102.out; have hnc11 := NB102_101.out; obtain ⟨hcz12_0, hcz12_1, hfz12_0, hfz12_1⟩ := bc2 BK101.out; obtain ⟨hcz13_0, hcz13_1, hfz13_0, hfz13_1⟩ := bc2 BK102.out
    go_wp2
    refine bodyPost_ret (results_cell_row rfl _ _ gb102 51 #[.int .i64 x102000_1, .int .i64 x102001_1] (0, 0) _ rfl (by refine qk ?_; refine blk_put (cs := #[.int .i64 x102000_1, .int .i64 0]) ?_ 1 _ rfl; refine qk ?_; refine blk_put (cs := #[.int .i64 0, .int .i64 0]) ?_ 0 _ rfl; refine qk ?_; exact BK102.out) Tryz.underlying51 rfl (by kernel_rfl)) rfl ?_
    exact ⟨qe, qb⟩

end Go.Proofs.YtadocbfchdendaaGreatDoor.P
namespace Go.Proofs.YtadocbfchdendaaGreatDoor.P
open Go.RowKit Go.Proofs.YtadocbfchdendaaGreatDoorW.PrintWords Go.Proofs.YtadocbfchdendaaGreatDoorW.PrintLast Go.Proofs.YtadocbfchdendaaGreatDoorW.PrintMore
attribute [local go_sem] max2_int min2_int max_two min_two max_three min_three max_four min_four   -- for this text's walks alone
set_option linter.unusedVariables false
set_option linter.unusedSimpArgs false
def entrepotref02_tens.l0 : Nat → Int → Int → Int → Option (Int)
 | 0, _, _, _ => none
 | k + 1, x0, x3, x4 => if x4 < x0 then (entrepotref02_tens.l0 k x0 (wrap64 (10 * x3)) (wrap64 (x4 + 1))) else (some x3)
def entrepotref02_tens.f (k : Nat) (a0 : Int) : Option (Int) := entrepotref02_tens.l0 k a0 1 0
theorem entrepotref02_tens.mono_l : ∀ k, (∀ y0 y1 y2, LeO (entrepotref02_tens.l0 k y0 y1 y2) (entrepotref02_tens.l0 (k + 1) y0 y1 y2))
 | 0 => fun _ _ _ r h => by simp [entrepotref02_tens.l0] at h
 | k + 1 => by
  have ih0 := entrepotref02_tens.mono_l k
  ·intro y0 y1 y2
   unfold entrepotref02_tens.l0
   repeat' first
   | (with_reducible exact ih0 _ _ _)
   | (with_reducible exact LeO.refl _)
   | (with_reducible exact LeO.none _)
   | (with_reducible refine LeO.ite ?_ ?_)
   | (with_reducible refine LeO.bind ?_ (fun _ => ?_))
   | exact ih0 _ _ _
   | exact LeO.none _
   | refine LeO.ite ?_ ?_
   | refine LeO.bind ?_ (fun _ => ?_)
theorem entrepotref02_tens.mono : ∀ a0 k, LeO (entrepotref02_tens.f k a0) (entrepotref02_tens.f (k + 1) a0) := by
 intro a0 k
 have ih0 := entrepotref02_tens.mono_l k; unfold entrepotref02_tens.f
 repeat' first
   | (with_reducible exact ih0 _ _ _)
   | (with_reducible exact LeO.refl _)
   | (with_reducible exact LeO.none _)
   | (with_reducible refine LeO.ite ?_ ?_)
   | (with_reducible refine LeO.bind ?_ (fun _ => ?_))
   | exact ih0 _ _ _
   | exact LeO.none _
   | refine LeO.ite ?_ ?_
   | refine LeO.bind ?_ (fun _ => ?_)
set_option maxHeartbeats 8000000 in
set_option maxRecDepth 100000 in
theorem entrepotref02_tens.calls (k : Nat) (a0 : Int) (r : Int) (w : World) (h : entrepotref02_tens.f k a0 = some r) :
  Calls Tryz.prog 61 #[.int .i64 a0] w fun e w' => e = .returned (.int .i64 r) ∧ Drawn0 w w' := by
 have H : (entrepotref02_tens.l0 k a0 1 0) = some r := h; clear h; have H' := Aside0.mk H; clear H; go_enter Tryz.func61, Tryz.ntmps61
 go_wp2
 (try simp only [Act.put, List.setIfInBounds_toArray, List.set_cons_zero, List.set_cons_succ])
 go_loopg [3, 4] k (fun kq v3 v4 w' => ∃ (x3_1 : Int) (x4_1 : Int), v3 = .int .i64 x3_1 ∧ v4 = .int .i64 x4_1 ∧ Aside0 (entrepotref02_tens.l0 kq a0 x3_1 x4_1 = some r) ∧ Aside0 (kq ≤ k) ∧ Drawn0 w w')
 case atStart => exact ⟨(1), (0), qr, qr, H', ⟨Nat.le_refl _⟩, qd⟩
 case round =>
  clear H'; obtain ⟨x3_1, x4_1, rfl, rfl, HA, HK1, ⟨m1, rfl⟩⟩ := hrel; cases gk with
  | zero => exact absurd HA.out (by simp [entrepotref02_tens.l0])
  | succ k1 =>
   have H := HA.out; clear HA; simp only [entrepotref02_tens.l0] at H
   by_cases c2 : x4_1 < a0
   ·rw [if_pos c2] at H; have c2b0 := decide_eq_true c2; clear c2; have H' := Aside0.mk H; clear H
    go_wp2
    go_roundg k1
    case measure => have := HK1.out; omega
    case rel => exact ⟨(wrap64 (10 * x3_1)), (wrap64 (x4_1 + 1)), qr, qr, H', ⟨by have := HK1.out; omega⟩, qd⟩
   ·rw [if_neg c2] at H; have c2b0 := decide_eq_false c2; clear c2; obtain rfl := Option.some.inj H
    go_wp2
    go_ret
    exact ⟨qr, qd⟩

end Go.Proofs.YtadocbfchdendaaGreatDoor.P
namespace Go.Proofs.YtadocbfchdendaaGreatDoor.P
open Go.RowKit Go.Proofs.YtadocbfchdendaaGreatDoorW.PrintWords Go.Proofs.YtadocbfchdendaaGreatDoorW.PrintLast Go.Proofs.YtadocbfchdendaaGreatDoorW.PrintMore
attribute [local go_sem] max2_int min2_int max_two min_two max_three min_three max_four min_four   -- for this text's walks alone
set_option linter.unusedVariables false
set_option linter.unusedSimpArgs false
mutual
def entrepotref02_Read.j0 : Nat → ByteArray → Int → Bool → Option (Int × Int × Int)
 | 0, _, _, _ => none
 | k + 1, x0, x4, x19 => if x19 = true then (if 1 ≤ (x0.size : Int) then (entrepotref02_Read.j1 k (x0.extract 1 x0.size) (-1)) else (none)) else (entrepotref02_Read.j1 k x0 x4)
def entrepotref02_Read.j1 : Nat → ByteArray → Int → Option (Int × Int × Int)
 | 0, _, _ => none
 | k + 1, x0, x4 => entrepotref02_Read.l0 k x0 x4 (x0.size : Int) (wrap64 ((x0.size : Int) - 1))
def entrepotref02_Read.l0 : Nat → ByteArray → Int → Int → Int → Option (Int × Int × Int)
 | 0, _, _, _, _ => none
 | k + 1, x0, x4, x5, x6 => if x6 ≥ 0 then (if 0 ≤ x6 then (if x6 < (x0.size : Int) then (if (bt x0 x6) = 46 then (entrepotref02_Read.l0 k x0 x4 x6 (wrap64 (x6 - 1))) else (entrepotref02_Read.l0 k x0 x4 x5 (wrap64 (x6 - 1)))) else (none)) else (none)) else (if 0 ≤ x5 then (if x5 ≤ (x0.size : Int) then ((entrepotref02_digits.f k (x0.extract 0 (x5 : Int).toNat) 12).bind fun bt102 => (if bt102.2 = true then (if x5 < (x0.size : Int) then (if 0 ≤ (wrap64 (x5 + 1)) then (if (wrap64 (x5 + 1)) ≤ (x0.size : Int) then ((entrepotref02_digits.f k (x0.extract ((wrap64 (x5 + 1)) : Int).toNat x0.size) 6).bind fun bt104 => (if bt104.2 = true then ((entrepotref02_tens.f k (wrap64 ((wrap64 ((x0.size : Int) - x5)) - 1))).bind fun t106 => ((entrepotref02_Least.f k (wrap64 (x4 * (wrap64 ((wrap64 (bt102.1 * t106)) + bt104.1)))) (wrap64 ((wrap64 ((x0.size : Int) - x5)) - 1))).bind fun bt107 => (if bt107.1 > 100000000 then (some (0, 0, 2)) else (if bt107.1 < (-100000000) then (some (0, 0, 2)) else (some (bt107.1, bt107.2, 0)))))) else (some (0, 0, 20)))) else (none)) else (none)) else ((entrepotref02_Least.f k (wrap64 (x4 * bt102.1)) 0).bind fun bt110 => (if bt110.1 > 100000000 then (some (0, 0, 2)) else (if bt110.1 < (-100000000) then (some (0, 0, 2)) else (some (bt110.1, bt110.2, 0)))))) else (some (0, 0, 20)))) else (none)) else (none))
end
def entrepotref02_Read.f (k : Nat) (a0 : ByteArray) : Option (Int × Int × Int) := if a0.toList = ([] : List UInt8) then (entrepotref02_Read.j0 k a0 1 false) else (if 0 < (a0.size : Int) then (entrepotref02_Read.j0 k a0 1 ((bt a0 0) == 45)) else (none))
theorem entrepotref02_Read.mono_l : ∀ k, (∀ y0 y1 y2, LeO (entrepotref02_Read.j0 k y0 y1 y2) (entrepotref02_Read.j0 (k + 1) y0 y1 y2)) ∧ (∀ y0 y1, LeO (entrepotref02_Read.j1 k y0 y1) (entrepotref02_Read.j1 (k + 1) y0 y1)) ∧ (∀ y0 y1 y2 y3, LeO (entrepotref02_Read.l0 k y0 y1 y2 y3) (entrepotref02_Read.l0 (k + 1) y0 y1 y2 y3))
 | 0 => ⟨fun _ _ _ r h => by simp [entrepotref02_Read.j0] at h, fun _ _ r h => by simp [entrepotref02_Read.j1] at h, fun _ _ _ _ r h => by simp [entrepotref02_Read.l0] at h⟩
 | k + 1 => by
  obtain ⟨ih0, ih1, ih2⟩ := entrepotref02_Read.mono_l k; refine ⟨?_, ?_, ?_⟩
  ·intro y0 y1 y2
   unfold entrepotref02_Read.j0
   repeat' first
   | (with_reducible exact ih0 _ _ _)
   | (with_reducible exact ih1 _ _)
   | (with_reducible exact ih2 _ _ _ _)
   | (with_reducible exact entrepotref02_Least.mono _ _ _)
   | (with_reducible exact entrepotref02_digits.mono _ _ _)
   | (with_reducible exact entrepotref02_tens.mono _ _)
   | (with_reducible exact LeO.refl _)
   | (with_reducible exact LeO.none _)
   | (with_reducible refine LeO.ite ?_ ?_)
   | (with_reducible refine LeO.bind ?_ (fun _ => ?_))
   | exact ih0 _ _ _
   | exact ih1 _ _
   | exact ih2 _ _ _ _
   | exact entrepotref02_Least.mono _ _ _
   | exact entrepotref02_digits.mono _ _ _
   | exact entrepotref02_tens.mono _ _
   | exact LeO.none _
   | refine LeO.ite ?_ ?_
   | refine LeO.bind ?_ (fun _ => ?_)
  ·intro y0 y1
   unfold entrepotref02_Read.j1
   repeat' first
   | (with_reducible exact ih0 _ _ _)
   | (with_reducible exact ih1 _ _)
   | (with_reducible exact ih2 _ _ _ _)
   | (with_reducible exact entrepotref02_Least.mono _ _ _)
   | (with_reducible exact entrepotref02_digits.mono _ _ _)
   | (with_reducible exact entrepotref02_tens.mono _ _)
   | (with_reducible exact LeO.refl _)
   | (with_reducible exact LeO.none _)
   | (with_reducible refine LeO.ite ?_ ?_)
   | (with_reducible refine LeO.bind ?_ (fun _ => ?_))
   | exact ih0 _ _ _
   | exact ih1 _ _
   | exact ih2 _ _ _ _
   | exact entrepotref02_Least.mono _ _ _
   | exact entrepotref02_digits.mono _ _ _
   | exact entrepotref02_tens.mono _ _
   | exact LeO.none _
   | refine LeO.ite ?_ ?_
   | refine LeO.bind ?_ (fun _ => ?_)
  ·intro y0 y1 y2 y3
   unfold entrepotref02_Read.l0
   repeat' first
   | (with_reducible exact ih0 _ _ _)
   | (with_reducible exact ih1 _ _)
   | (with_reducible exact ih2 _ _ _ _)
   | (with_reducible exact entrepotref02_Least.mono _ _ _)
   | (with_reducible exact entrepotref02_digits.mono _ _ _)
   | (with_reducible exact entrepotref02_tens.mono _ _)
   | (with_reducible exact LeO.refl _)
   | (with_reducible exact LeO.none _)
   | (with_reducible refine LeO.ite ?_ ?_)
   | (with_reducible refine LeO.bind ?_ (fun _ => ?_))
   | exact ih0 _ _ _
   | exact ih1 _ _
   | exact ih2 _ _ _ _
   | exact entrepotref02_Least.mono _ _ _
   | exact entrepotref02_digits.mono _ _ _
   | exact entrepotref02_tens.mono _ _
   | exact LeO.none _
   | refine LeO.ite ?_ ?_
   | refine LeO.bind ?_ (fun _ => ?_)
theorem entrepotref02_Read.mono : ∀ a0 k, LeO (entrepotref02_Read.f k a0) (entrepotref02_Read.f (k + 1) a0) := by
 intro a0 k
 obtain ⟨ih0, ih1, ih2⟩ := entrepotref02_Read.mono_l k; unfold entrepotref02_Read.f
 repeat' first
   | (with_reducible exact ih0 _ _ _)
   | (with_reducible exact ih1 _ _)
   | (with_reducible exact ih2 _ _ _ _)
   | (with_reducible exact entrepotref02_Least.mono _ _ _)
   | (with_reducible exact entrepotref02_digits.mono _ _ _)
   | (with_reducible exact entrepotref02_tens.mono _ _)
   | (with_reducible exact LeO.refl _)
   | (with_reducible exact LeO.none _)
   | (with_reducible refine LeO.ite ?_ ?_)
   | (with_reducible refine LeO.bind ?_ (fun _ => ?_))
   | exact ih0 _ _ _
   | exact ih1 _ _
   | exact ih2 _ _ _ _
   | exact entrepotref02_Least.mono _ _ _
   | exact entrepotref02_digits.mono _ _ _
   | exact entrepotref02_tens.mono _ _
   | exact LeO.none _
   | refine LeO.ite ?_ ?_
   | refine LeO.bind ?_ (fun _ => ?_)
set_option maxHeartbeats 8000000 in
set_option maxRecDepth 100000 in
theorem entrepotref02_Read.calls (k : Nat) (a0 : ByteArray) (r1 : Int) (r2 : Int) (r3 : Int) (w : World) (h : entrepotref02_Read.f k a0 = some (r1, r2, r3)) :
  Calls Tryz.prog 65 #[.string a0] w fun e w' => e = .returned (.tuple #[.agg #[.int .i64 r1, .int .i64 r2], .int .i64 r3]) ∧ Below w.heap.size w w' := by
 have hu51 := Tryz.underlying51; have HB := Aside0.mk (Below.refl w.heap.size w); have H : (if a0.toList = ([] : List UInt8) then (entrepotref02_Read.j0 k a0 1 false) else (if 0 < (a0.size : Int) then (entrepotref02_Read.j0 k a0 1 ((bt a0 0) == 45)) else (none))) = some (r1, r2, r3) := h; clear h; have HC2 := Aside0.mk H; clear H; go_enter Tryz.func65, Tryz.ntmps65
 go_upto_region 2 with (first | ((with_reducible refine gate_dst (N := 2) rfl ?_); refine box_ev (N := 2) (cs := #[.int .i64 0, .int .i64 0]) (t := 51) ?_; intro gb101 hg w3 hbox hb; have BK101 := Aside0.mk (hbox); have GW101 := Aside0.mk ((qg : w.heap.size ≤ gb101)); have GE101 := Aside0.mk ((qg : w.heap.size ≤ gb101)); replace HB := cB HB hb; clear hb hbox hg))
 (try simp only [Act.put, List.setIfInBounds_toArray, List.set_cons_zero, List.set_cons_succ])
 go_cut [19] (fun v19 wc => ∃ (kq : Nat) (x19_1 : Bool), v19 = .bool x19_1 ∧ Aside0 (entrepotref02_Read.j0 kq a0 1 x19_1 = some (r1, r2, r3)) ∧ Aside0 (kq ≤ k) ∧ Aside0 (wc.heap[gb101]? = some (.cells #[.int .i64 0, .int .i64 0] 51 (0, 0))) ∧ Aside0 (Below w.heap.size w wc))
 case first =>
  have H := HC2.out; clear HC2
  by_cases c4 : a0.toList = ([] : List UInt8)
  ·rw [if_pos c4] at H; have c4b0 := beq_iff_eq.mpr c4; have c4b1 := bne_eq_false_iff_eq.mpr c4; clear c4; (first | rw [c4b0] | (simp only [i64_w, i32_w]; rw [c4b0]) | skip); have H' := Aside0.mk H; clear H
   go_wp2
   go_meet
   case rel => exact ⟨_, (false), qr, H', ⟨by first | omega | exact Nat.le_refl _⟩, ⟨qk BK101.out⟩, ⟨qb⟩⟩
  ·rw [if_neg c4] at H; have c4b0 := beq_eq_false_iff_ne.mpr c4; have c4b1 := bne_iff_ne.mpr c4; (first | rw [c4b0] | (simp only [i64_w, i32_w]; rw [c4b0]) | skip)
   by_cases c5 : 0 < (a0.size : Int)
   ·rw [if_pos c5] at H; have c5b0 := decide_eq_true c5; have c5b1 : decide (0 < a0.size) = true := decide_eq_true (by omega); clear c5; have H' := Aside0.mk H; clear H; have p6 : 0 ≤ (0 : Int) := (by omega); have q6 : 0 < a0.size := (by have : (0 : Int) < (a0.size : Int) := of_decide_eq_true qa; omega); have hx6 : ∀ h : 0 < a0.size, ((a0[0]'h).toNat : Int) = bt a0 0 := bt_at a0 0; clear p6; have qi6 : (0 < (a0.size : Int)) = True := eq_true (of_decide_eq_true qa); replace q6 := eq_true q6
    go_wp2
    go_meet
    case rel => exact ⟨_, (((bt a0 0) == 45)), qr, H', ⟨by first | omega | exact Nat.le_refl _⟩, ⟨qk BK101.out⟩, ⟨qb⟩⟩
   ·rw [if_neg c5] at H
    exact absurd H (by simp)
 case rest =>
  clear HC2; (try clear p2); (try clear c4); (try clear c4b0); (try clear c4b1); (try clear c5); (try clear c5b0); (try clear c5b1); (try clear c6); (try clear p6); (try clear q6); (try clear hx6); (try clear qi6); (try clear p6); (try clear q6); obtain ⟨kq, x19_1, rfl, HA, HJ1, BK101, HB⟩ := hcut; cases kq with
  | zero => exact absurd HA.out (by simp [entrepotref02_Read.j0])
  | succ kj1 =>
   have H := HA.out; clear HA; simp only [entrepotref02_Read.j0] at H; have HC7 := Aside0.mk H; clear H
   go_upto_if 19 with (fail)
   go_cut [0, 4] (fun v0 v4 wc => ∃ (kq : Nat) (x0_6 : ByteArray) (x4_6 : Int), v0 = .string x0_6 ∧ v4 = .int .i64 x4_6 ∧ Aside0 (entrepotref02_Read.j1 kq x0_6 x4_6 = some (r1, r2, r3)) ∧ Aside0 (kq ≤ kj1) ∧ Aside0 (wc.heap[gb101]? = some (.cells #[.int .i64 0, .int .i64 0] 51 (0, 0))) ∧ Aside0 (Below w.heap.size w wc))
   case first =>
    have H := HC7.out; clear HC7
    by_cases c8 : x19_1 = true
    ·subst c8; have H1 : (if 1 ≤ (a0.size : Int) then (entrepotref02_Read.j1 kj1 (a0.extract 1 a0.size) (-1)) else (none)) = some (r1, r2, r3) := by rw [if_pos rfl] at H; exact H
     clear H; have H := H1; clear H1
     by_cases c9 : 1 ≤ (a0.size : Int)
     ·rw [if_pos c9] at H; have c9b0 := eq_true c9; have c9b1 := decide_eq_true c9; clear c9; have H' := Aside0.mk H; clear H
      go_wp2
      go_meet
      case rel => exact ⟨_, (a0.extract 1 a0.size), ((-1)), qr, qr, H', ⟨by have := HJ1.out; first | omega | exact Nat.le_refl _⟩, ⟨qk BK101.out⟩, ⟨qb⟩⟩
     ·rw [if_neg c9] at H
      exact absurd H (by simp)
    ·replace c8 := Bool.eq_false_iff.mpr c8; subst c8; have H1 : (entrepotref02_Read.j1 kj1 a0 1) = some (r1, r2, r3) := by rw [if_neg (show ¬ (false = true) by decide)] at H; exact H
     clear H; have H := H1; clear H1; have H' := Aside0.mk H; clear H
     go_wp2
     go_meet
     case rel => exact ⟨_, (a0), (1), qr, qr, H', ⟨by have := HJ1.out; first | omega | exact Nat.le_refl _⟩, ⟨qk BK101.out⟩, ⟨qb⟩⟩
   case rest =>
    clear HC7; (try clear p2); (try clear c4); (try clear c4b0); (try clear c4b1); (try clear c5); (try clear c5b0); (try clear c5b1); (try clear c6); (try clear p6); (try clear q6); (try clear hx6); (try clear qi6); (try clear c8); (try clear c9); (try clear c9b0); (try clear c9b1); (try clear p2); (try clear p6); (try clear q6); obtain ⟨kq, x0_6, x4_6, rfl, rfl, HA, HJ6, BK101, HB⟩ := hcut; cases kq with
    | zero => exact absurd HA.out (by simp [entrepotref02_Read.j1])
    | succ kj6 =>
     have H := HA.out; clear HA; simp only [entrepotref02_Read.j1] at H; have H' := Aside0.mk H; clear H
     go_wp2
     (try simp only [Act.put, List.setIfInBounds_toArray, List.set_cons_zero, List.set_cons_succ])
     go_loopg [5, 6] kj6 (fun kq v5 v6 w' => ∃ (x5_3 : Int) (x6_3 : Int), v5 = .int .i64 x5_3 ∧ v6 = .int .i64 x6_3 ∧ Aside0 (entrepotref02_Read.l0 kq x0_6 x4_6 x5_3 x6_3 = some (r1, r2, r3)) ∧ Aside0 (kq ≤ kj6) ∧ Aside0 (w'.heap[gb101]? = some (.cells #[.int .i64 0, .int .i64 0] 51 (0, 0))) ∧ Aside0 (Below w.heap.size w w'))
     case atStart => exact ⟨((x0_6.size : Int)), (wrap64 ((x0_6.size : Int) - 1)), qr, qr, H', ⟨Nat.le_refl _⟩, ⟨qk BK101.out⟩, ⟨qb⟩⟩
     case round =>
      clear H'; (try clear p2); (try clear c4); (try clear c4b0); (try clear c4b1); (try clear c5); (try clear c5b0); (try clear c5b1); (try clear c6); (try clear p6); (try clear q6); (try clear hx6); (try clear qi6); (try clear c8); (try clear c9); (try clear c9b0); (try clear c9b1); (try clear p2); (try clear p6); (try clear q6); obtain ⟨x5_3, x6_3, rfl, rfl, HA, HK3, BK101, HB⟩ := hrel; cases gk with
      | zero => exact absurd HA.out (by simp [entrepotref02_Read.l0])
      | succ k3 =>
       have H := HA.out; clear HA; simp only [entrepotref02_Read.l0] at H
       by_cases c10 : x6_3 ≥ 0
       ·rw [if_pos c10] at H; have c10b0 := decide_eq_true c10; clear c10
        by_cases c11 : 0 ≤ x6_3
        ·rw [if_pos c11] at H; have c11b0 := decide_eq_true c11; clear c11
         by_cases c12 : x6_3 < (x0_6.size : Int)
         ·rw [if_pos c12] at H; have c12b0 := decide_eq_true c12; clear c12
          by_cases c14 : (bt x0_6 x6_3) = 46
          ·rw [if_pos c14] at H; have c14b0 := beq_iff_eq.mpr c14; have c14b1 := bne_eq_false_iff_eq.mpr c14; clear c14; have H' := Aside0.mk H; clear H; have p13 : 0 ≤ (x6_3 : Int) := of_decide_eq_true qa; have q13 : x6_3 < (x0_6.size : Int) := of_decide_eq_true qa; have hx13 := bt_at x0_6 x6_3; replace p13 := eq_true p13; replace q13 := eq_true q13
           go_wp2
           go_roundg k3
           case measure => have := HJ1.out; have := HJ6.out; have := HK3.out; omega
           case rel => exact ⟨(x6_3), (wrap64 (x6_3 - 1)), qr, qr, H', ⟨by have := HJ1.out; have := HJ6.out; have := HK3.out; omega⟩, ⟨qk BK101.out⟩, ⟨qb⟩⟩
          ·rw [if_neg c14] at H; have c14b0 := beq_eq_false_iff_ne.mpr c14; have c14b1 := bne_iff_ne.mpr c14; have H' := Aside0.mk H; clear H; have p13 : 0 ≤ (x6_3 : Int) := of_decide_eq_true qa; have q13 : x6_3 < (x0_6.size : Int) := of_decide_eq_true qa; have hx13 := bt_at x0_6 x6_3; replace p13 := eq_true p13; replace q13 := eq_true q13
           go_wp2
           go_roundg k3
           case measure => have := HJ1.out; have := HJ6.out; have := HK3.out; omega
           case rel => exact ⟨(x5_3), (wrap64 (x6_3 - 1)), qr, qr, H', ⟨by have := HJ1.out; have := HJ6.out; have := HK3.out; omega⟩, ⟨qk BK101.out⟩, ⟨qb⟩⟩
         ·rw [if_neg c12] at H
          exact absurd H (by simp)
        ·rw [if_neg c11] at H
         exact absurd H (by simp)
       ·rw [if_neg c10] at H; have c10b0 := decide_eq_false c10; clear c10
        by_cases c15 : 0 ≤ x5_3
        ·rw [if_pos c15] at H; have c15b0 := eq_true c15; have c15b1 := decide_eq_true c15; clear c15
         by_cases c16 : x5_3 ≤ (x0_6.size : Int)
         ·rw [if_pos c16] at H; have c16b0 := eq_true c16; have c16b1 := decide_eq_true c16; clear c16; replace H := Option.bind_eq_some_iff.mp H; obtain ⟨⟨t102, t103⟩, A170, H⟩ := H; (try dsimp only at H); have A17 := Aside0.mk A170; clear A170
          by_cases c18 : t103 = true
          ·subst c18; have H1 : (if x5_3 < (x0_6.size : Int) then (if 0 ≤ (wrap64 (x5_3 + 1)) then (if (wrap64 (x5_3 + 1)) ≤ (x0_6.size : Int) then ((entrepotref02_digits.f k3 (x0_6.extract ((wrap64 (x5_3 + 1)) : Int).toNat x0_6.size) 6).bind fun bt104 => (if bt104.2 = true then ((entrepotref02_tens.f k3 (wrap64 ((wrap64 ((x0_6.size : Int) - x5_3)) - 1))).bind fun t106 => ((entrepotref02_Least.f k3 (wrap64 (x4_6 * (wrap64 ((wrap64 (t102 * t106)) + bt104.1)))) (wrap64 ((wrap64 ((x0_6.size : Int) - x5_3)) - 1))).bind fun bt107 => (if bt107.1 > 100000000 then (some (0, 0, 2)) else (if bt107.1 < (-100000000) then (some (0, 0, 2)) else (some (bt107.1, bt107.2, 0)))))) else (some (0, 0, 20)))) else (none)) else (none)) else ((entrepotref02_Least.f k3 (wrap64 (x4_6 * t102)) 0).bind fun bt110 => (if bt110.1 > 100000000 then (some (0, 0, 2)) else (if bt110.1 < (-100000000) then (some (0, 0, 2)) else (some (bt110.1, bt110.2, 0)))))) = some (r1, r2, r3) := by rw [if_pos rfl] at H; exact H
           clear H; have H := H1; clear H1
           by_cases c19 : x5_3 < (x0_6.size : Int)
           ·rw [if_pos c19] at H; have c19b0 := decide_eq_true c19; clear c19; obtain ⟨ji20, hji20⟩ : ∃ j_ : Int, (wrap64 (x5_3 + 1)) = j_ := ⟨_, rfl⟩; replace H : (if 0 ≤ (ji20) then (if (ji20) ≤ (x0_6.size : Int) then ((entrepotref02_digits.f k3 (x0_6.extract ((ji20) : Int).toNat x0_6.size) 6).bind fun bt104 => (if bt104.2 = true then ((entrepotref02_tens.f k3 (wrap64 ((wrap64 ((x0_6.size : Int) - x5_3)) - 1))).bind fun t106 => ((entrepotref02_Least.f k3 (wrap64 (x4_6 * (wrap64 ((wrap64 (t102 * t106)) + bt104.1)))) (wrap64 ((wrap64 ((x0_6.size : Int) - x5_3)) - 1))).bind fun bt107 => (if bt107.1 > 100000000 then (some (0, 0, 2)) else (if bt107.1 < (-100000000) then (some (0, 0, 2)) else (some (bt107.1, bt107.2, 0)))))) else (some (0, 0, 20)))) else (none)) else (none)) = some (r1, r2, r3) := by first | (rw [hji20] at H; exact H) | (simp only [hji20] at H ⊢; exact H)
            (try rw [hji20] at A17); have hji20w : (IntKind.i64.wrap (x5_3 + 1)) = ji20 := (i64_w _).trans hji20
            by_cases c21 : 0 ≤ (ji20)
            ·rw [if_pos c21] at H; have c21b0 := eq_true c21; have c21b1 := decide_eq_true c21; clear c21
             by_cases c22 : (ji20) ≤ (x0_6.size : Int)
             ·rw [if_pos c22] at H; have c22b0 := eq_true c22; have c22b1 := decide_eq_true c22; clear c22; replace H := Option.bind_eq_some_iff.mp H; obtain ⟨⟨t104, t105⟩, A230, H⟩ := H; (try dsimp only at H); have A23 := Aside0.mk A230; clear A230
              by_cases c24 : t105 = true
              ·subst c24; have H1 : ((entrepotref02_tens.f k3 (wrap64 ((wrap64 ((x0_6.size : Int) - x5_3)) - 1))).bind fun t106 => ((entrepotref02_Least.f k3 (wrap64 (x4_6 * (wrap64 ((wrap64 (t102 * t106)) + t104)))) (wrap64 ((wrap64 ((x0_6.size : Int) - x5_3)) - 1))).bind fun bt107 => (if bt107.1 > 100000000 then (some (0, 0, 2)) else (if bt107.1 < (-100000000) then (some (0, 0, 2)) else (some (bt107.1, bt107.2, 0)))))) = some (r1, r2, r3) := by rw [if_pos rfl] at H; exact H
               clear H; have H := H1; clear H1; replace H := Option.bind_eq_some_iff.mp H; obtain ⟨t106, A250, H⟩ := H; (try dsimp only at H); have A25 := Aside0.mk A250; clear A250; replace H := Option.bind_eq_some_iff.mp H; obtain ⟨⟨t107, t108⟩, A260, H⟩ := H; (try dsimp only at H); have A26 := Aside0.mk A260; clear A260
               by_cases c27 : t107 > 100000000
               ·rw [if_pos c27] at H; have c27b0 := decide_eq_true c27; clear c27; simp only [Option.some.injEq, Prod.mk.injEq] at H; obtain ⟨rfl, rfl, rfl⟩ := H
                go_wp2_with (first | ((with_reducible refine gate_callee (f := 104) rfl ?_); refine goesL_ (some 40) rfl rfl Tryz.func104 (by kernel_rfl) rfl #[.string (x0_6.extract 0 (x5_3 : Int).toNat), .int .i64 12] rfl qm ?_; (with_reducible refine (entrepotref02_digits.calls k3 (x0_6.extract 0 (x5_3 : Int).toNat) 12 t102 true _ A17.out).mono ?_); rintro e w' ⟨rfl, ⟨nd, rfl⟩⟩; refine ⟨_, rfl, ?_⟩; (try (rw [drewN_self wr]; generalize hq_ : World.drewN wr _ = wr; have n0_ : Aside0 (wr.heap[gb101]? = some (.cells #[.int .i64 0, .int .i64 0] 51 (0, 0))) := ⟨by rw [← hq_]; exact (qk BK101.out)⟩; have n1_ : Aside0 (Below w.heap.size w wr) := ⟨by rw [← hq_]; exact qb⟩; clear BK101 HB hq_; have BK101 := n0_; have HB := n1_; clear n0_ n1_))) | ((with_reducible refine gate_callee (f := 104) rfl ?_); refine goesL_ (some 55) rfl rfl Tryz.func104 (by kernel_rfl) rfl #[.string (x0_6.extract ((ji20) : Int).toNat x0_6.size), .int .i64 6] rfl (by (try simp only [List.map_toArray, List.map_cons, List.map_nil]); first | done | (simp only [hji20]; rfl) | rfl | (simp only [List.length_drop, List.length_take]; rfl)) ?_; (with_reducible refine (entrepotref02_digits.calls k3 (x0_6.extract ((ji20) : Int).toNat x0_6.size) 6 t104 true _ A23.out).mono ?_); rintro e w' ⟨rfl, ⟨nd, rfl⟩⟩; refine ⟨_, rfl, ?_⟩; (try (rw [drewN_self wr]; generalize hq_ : World.drewN wr _ = wr; have n0_ : Aside0 (wr.heap[gb101]? = some (.cells #[.int .i64 0, .int .i64 0] 51 (0, 0))) := ⟨by rw [← hq_]; exact (qk BK101.out)⟩; have n1_ : Aside0 (Below w.heap.size w wr) := ⟨by rw [← hq_]; exact qb⟩; clear BK101 HB hq_; have BK101 := n0_; have HB := n1_; clear n0_ n1_))) | ((with_reducible refine gate_callee (f := 61) rfl ?_); refine goesL_ (some 68) rfl rfl Tryz.func61 (by kernel_rfl) rfl #[.int .i64 (wrap64 ((wrap64 ((x0_6.size : Int) - x5_3)) - 1))] rfl qm ?_; (with_reducible refine (entrepotref02_tens.calls k3 (wrap64 ((wrap64 ((x0_6.size : Int) - x5_3)) - 1)) t106 _ A25.out).mono ?_); rintro e w' ⟨rfl, ⟨nd, rfl⟩⟩; refine ⟨_, rfl, ?_⟩; (try (rw [drewN_self wr]; generalize hq_ : World.drewN wr _ = wr; have n0_ : Aside0 (wr.heap[gb101]? = some (.cells #[.int .i64 0, .int .i64 0] 51 (0, 0))) := ⟨by rw [← hq_]; exact (qk BK101.out)⟩; have n1_ : Aside0 (Below w.heap.size w wr) := ⟨by rw [← hq_]; exact qb⟩; clear BK101 HB hq_; have BK101 := n0_; have HB := n1_; clear n0_ n1_))) | ((with_reducible refine gate_callee (f := 106) rfl ?_); refine goesL_ (some 77) rfl rfl Tryz.func106 (by kernel_rfl) rfl #[.agg #[.int .i64 (wrap64 (x4_6 * (wrap64 ((wrap64 (t102 * t106)) + t104)))), .int .i64 (wrap64 ((wrap64 ((x0_6.size : Int) - x5_3)) - 1))]] rfl qm ?_; (with_reducible refine (entrepotref02_Least.calls k3 (wrap64 (x4_6 * (wrap64 ((wrap64 (t102 * t106)) + t104)))) (wrap64 ((wrap64 ((x0_6.size : Int) - x5_3)) - 1)) t107 t108 _ A26.out).mono ?_); rintro e w28 ⟨rfl, hb⟩; refine ⟨_, rfl, ?_⟩; replace BK101 := cK BK101 hb; replace HB := cB HB hb; (try clear hb); (try clear hb2); (try clear hk); (try clear hi)) | ((with_reducible refine gate_dst (N := 12) rfl ?_); refine box_ev (N := 12) (cs := #[.int .i64 0, .int .i64 0]) (t := 51) ?_; intro gb109 hg w29 hbox hb; have BK109 := Aside0.mk (hbox); have GW109 := Aside0.mk ((qg : w.heap.size ≤ gb109)); have GE109 := Aside0.mk ((qg : w.heap.size ≤ gb109)); have NB101_109 := Aside0.mk ((by rw [hg]; exact Nat.ne_of_lt (blk_lt (g := gb101) (o := .cells #[.int .i64 0, .int .i64 0] 51 (0, 0)) (qk BK101.out)) : gb101 ≠ gb109)); have NB109_101 := Aside0.mk ((by rw [hg]; exact Nat.ne_of_gt (blk_lt (g := gb101) (o := .cells #[.int .i64 0, .int .i64 0] 51 (0, 0)) (qk BK101.out)) : gb109 ≠ gb101)); replace BK101 := cK BK101 hb; replace HB := cB HB hb; clear hb hbox hg; have hnb30 := NB109_101.out; have hnc30 := NB101_109.out; have hcz31_0 : w29.cell? ⟨gb109, 0, none⟩ = some (.int .i64 0) := (blk_cell BK109.out 0).trans rfl; have hcz31_1 : w29.cell? ⟨gb109, 1, none⟩ = some (.int .i64 0) := (blk_cell BK109.out 1).trans rfl; have hfz31_0 := blk_frozen BK109.out 0; have hfz31_1 := blk_frozen BK109.out 1; have hcz32_0 : w29.cell? ⟨gb101, 0, none⟩ = some (.int .i64 0) := (blk_cell BK101.out 0).trans rfl; have hcz32_1 : w29.cell? ⟨gb101, 1, none⟩ = some (.int .i64 0) := (blk_cell BK101.out 1).trans rfl; have hfz32_0 := blk_frozen BK101.out 0; have hfz32_1 := blk_frozen BK101.out 1))
                refine bodyPost_ret (results_ct rfl _ _ gb101 51 #[.int .i64 0, .int .i64 0] (0, 0) _ rfl (by refine qk ?_; refine blk_put (cs := #[.int .i64 0, .int .i64 0]) ?_ 1 _ rfl; refine qk ?_; refine blk_put (cs := #[.int .i64 0, .int .i64 0]) ?_ 0 _ rfl; refine qk ?_; refine blk_far ?_ NB101_109.out _; refine qk ?_; refine blk_far ?_ NB101_109.out _; refine qk ?_; exact BK101.out) Tryz.underlying51 rfl (by kernel_rfl)) rfl ?_
                exact ⟨by first | rfl | (simp [errW_none, errW_some] <;> rfl) | (simp only [← hji20]; first | rfl | (simp [errW_none, errW_some] <;> rfl)) | (simp [*, errW_none, errW_some] <;> rfl), qb⟩
               ·rw [if_neg c27] at H; have c27b0 := decide_eq_false c27; clear c27
                by_cases c33 : t107 < (-100000000)
                ·rw [if_pos c33] at H; have c33b0 := decide_eq_true c33; clear c33; simp only [Option.some.injEq, Prod.mk.injEq] at H; obtain ⟨rfl, rfl, rfl⟩ := H
                 go_wp2_with (first | ((with_reducible refine gate_callee (f := 104) rfl ?_); refine goesL_ (some 40) rfl rfl Tryz.func104 (by kernel_rfl) rfl #[.string (x0_6.extract 0 (x5_3 : Int).toNat), .int .i64 12] rfl qm ?_; (with_reducible refine (entrepotref02_digits.calls k3 (x0_6.extract 0 (x5_3 : Int).toNat) 12 t102 true _ A17.out).mono ?_); rintro e w' ⟨rfl, ⟨nd, rfl⟩⟩; refine ⟨_, rfl, ?_⟩; (try (rw [drewN_self wr]; generalize hq_ : World.drewN wr _ = wr; have n0_ : Aside0 (wr.heap[gb101]? = some (.cells #[.int .i64 0, .int .i64 0] 51 (0, 0))) := ⟨by rw [← hq_]; exact (qk BK101.out)⟩; have n1_ : Aside0 (Below w.heap.size w wr) := ⟨by rw [← hq_]; exact qb⟩; clear BK101 HB hq_; have BK101 := n0_; have HB := n1_; clear n0_ n1_))) | ((with_reducible refine gate_callee (f := 104) rfl ?_); refine goesL_ (some 55) rfl rfl Tryz.func104 (by kernel_rfl) rfl #[.string (x0_6.extract ((ji20) : Int).toNat x0_6.size), .int .i64 6] rfl (by (try simp only [List.map_toArray, List.map_cons, List.map_nil]); first | done | (simp only [hji20]; rfl) | rfl | (simp only [List.length_drop, List.length_take]; rfl)) ?_; (with_reducible refine (entrepotref02_digits.calls k3 (x0_6.extract ((ji20) : Int).toNat x0_6.size) 6 t104 true _ A23.out).mono ?_); rintro e w' ⟨rfl, ⟨nd, rfl⟩⟩; refine ⟨_, rfl, ?_⟩; (try (rw [drewN_self wr]; generalize hq_ : World.drewN wr _ = wr; have n0_ : Aside0 (wr.heap[gb101]? = some (.cells #[.int .i64 0, .int .i64 0] 51 (0, 0))) := ⟨by rw [← hq_]; exact (qk BK101.out)⟩; have n1_ : Aside0 (Below w.heap.size w wr) := ⟨by rw [← hq_]; exact qb⟩; clear BK101 HB hq_; have BK101 := n0_; have HB := n1_; clear n0_ n1_))) | ((with_reducible refine gate_callee (f := 61) rfl ?_); refine goesL_ (some 68) rfl rfl Tryz.func61 (by kernel_rfl) rfl #[.int .i64 (wrap64 ((wrap64 ((x0_6.size : Int) - x5_3)) - 1))] rfl qm ?_; (with_reducible refine (entrepotref02_tens.calls k3 (wrap64 ((wrap64 ((x0_6.size : Int) - x5_3)) - 1)) t106 _ A25.out).mono ?_); rintro e w' ⟨rfl, ⟨nd, rfl⟩⟩; refine ⟨_, rfl, ?_⟩; (try (rw [drewN_self wr]; generalize hq_ : World.drewN wr _ = wr; have n0_ : Aside0 (wr.heap[gb101]? = some (.cells #[.int .i64 0, .int .i64 0] 51 (0, 0))) := ⟨by rw [← hq_]; exact (qk BK101.out)⟩; have n1_ : Aside0 (Below w.heap.size w wr) := ⟨by rw [← hq_]; exact qb⟩; clear BK101 HB hq_; have BK101 := n0_; have HB := n1_; clear n0_ n1_))) | ((with_reducible refine gate_callee (f := 106) rfl ?_); refine goesL_ (some 77) rfl rfl Tryz.func106 (by kernel_rfl) rfl #[.agg #[.int .i64 (wrap64 (x4_6 * (wrap64 ((wrap64 (t102 * t106)) + t104)))), .int .i64 (wrap64 ((wrap64 ((x0_6.size : Int) - x5_3)) - 1))]] rfl qm ?_; (with_reducible refine (entrepotref02_Least.calls k3 (wrap64 (x4_6 * (wrap64 ((wrap64 (t102 * t106)) + t104)))) (wrap64 ((wrap64 ((x0_6.size : Int) - x5_3)) - 1)) t107 t108 _ A26.out).mono ?_); rintro e w34 ⟨rfl, hb⟩; refine ⟨_, rfl, ?_⟩; replace BK101 := cK BK101 hb; replace HB := cB HB hb; (try clear hb); (try clear hb2); (try clear hk); (try clear hi)) | ((with_reducible refine gate_dst (N := 12) rfl ?_); refine box_ev (N := 12) (cs := #[.int .i64 0, .int .i64 0]) (t := 51) ?_; intro gb109 hg w35 hbox hb; have BK109 := Aside0.mk (hbox); have GW109 := Aside0.mk ((qg : w.heap.size ≤ gb109)); have GE109 := Aside0.mk ((qg : w.heap.size ≤ gb109)); have NB101_109 := Aside0.mk ((by rw [hg]; exact Nat.ne_of_lt (blk_lt (g := gb101) (o := .cells #[.int .i64 0, .int .i64 0] 51 (0, 0)) (qk BK101.out)) : gb101 ≠ gb109)); have NB109_101 := Aside0.mk ((by rw [hg]; exact Nat.ne_of_gt (blk_lt (g := gb101) (o := .cells #[.int .i64 0, .int .i64 0] 51 (0, 0)) (qk BK101.out)) : gb109 ≠ gb101)); replace BK101 := cK BK101 hb; replace HB := cB HB hb; clear hb hbox hg; have hnb36 := NB109_101.out; have hnc36 := NB101_109.out; have hcz37_0 : w35.cell? ⟨gb109, 0, none⟩ = some (.int .i64 0) := (blk_cell BK109.out 0).trans rfl; have hcz37_1 : w35.cell? ⟨gb109, 1, none⟩ = some (.int .i64 0) := (blk_cell BK109.out 1).trans rfl; have hfz37_0 := blk_frozen BK109.out 0; have hfz37_1 := blk_frozen BK109.out 1; have hcz38_0 : w35.cell? ⟨gb101, 0, none⟩ = some (.int .i64 0) := (blk_cell BK101.out 0).trans rfl; have hcz38_1 : w35.cell? ⟨gb101, 1, none⟩ = some (.int .i64 0) := (blk_cell BK101.out 1).trans rfl; have hfz38_0 := blk_frozen BK101.out 0; have hfz38_1 := blk_frozen BK101.out 1))
                 refine bodyPost_ret (results_ct rfl _ _ gb101 51 #[.int .i64 0, .int .i64 0] (0, 0) _ rfl (by refine qk ?_; refine blk_put (cs := #[.int .i64 0, .int .i64 0]) ?_ 1 _ rfl; refine qk ?_; refine blk_put (cs := #[.int .i64 0, .int .i64 0]) ?_ 0 _ rfl; refine qk ?_; refine blk_far ?_ NB101_109.out _; refine qk ?_; refine blk_far ?_ NB101_109.out _; refine qk ?_; exact BK101.out) Tryz.underlying51 rfl (by kernel_rfl)) rfl ?_
                 exact ⟨by first | rfl | (simp [errW_none, errW_some] <;> rfl) | (simp only [← hji20]; first | rfl | (simp [errW_none, errW_some] <;> rfl)) | (simp [*, errW_none, errW_some] <;> rfl), qb⟩
                ·rw [if_neg c33] at H; have c33b0 := decide_eq_false c33; clear c33; simp only [Option.some.injEq, Prod.mk.injEq] at H; obtain ⟨rfl, rfl, rfl⟩ := H
                 go_wp2_with (first | ((with_reducible refine gate_callee (f := 104) rfl ?_); refine goesL_ (some 40) rfl rfl Tryz.func104 (by kernel_rfl) rfl #[.string (x0_6.extract 0 (x5_3 : Int).toNat), .int .i64 12] rfl qm ?_; (with_reducible refine (entrepotref02_digits.calls k3 (x0_6.extract 0 (x5_3 : Int).toNat) 12 t102 true _ A17.out).mono ?_); rintro e w' ⟨rfl, ⟨nd, rfl⟩⟩; refine ⟨_, rfl, ?_⟩; (try (rw [drewN_self wr]; generalize hq_ : World.drewN wr _ = wr; have n0_ : Aside0 (wr.heap[gb101]? = some (.cells #[.int .i64 0, .int .i64 0] 51 (0, 0))) := ⟨by rw [← hq_]; exact (qk BK101.out)⟩; have n1_ : Aside0 (Below w.heap.size w wr) := ⟨by rw [← hq_]; exact qb⟩; clear BK101 HB hq_; have BK101 := n0_; have HB := n1_; clear n0_ n1_))) | ((with_reducible refine gate_callee (f := 104) rfl ?_); refine goesL_ (some 55) rfl rfl Tryz.func104 (by kernel_rfl) rfl #[.string (x0_6.extract ((ji20) : Int).toNat x0_6.size), .int .i64 6] rfl (by (try simp only [List.map_toArray, List.map_cons, List.map_nil]); first | done | (simp only [hji20]; rfl) | rfl | (simp only [List.length_drop, List.length_take]; rfl)) ?_; (with_reducible refine (entrepotref02_digits.calls k3 (x0_6.extract ((ji20) : Int).toNat x0_6.size) 6 t104 true _ A23.out).mono ?_); rintro e w' ⟨rfl, ⟨nd, rfl⟩⟩; refine ⟨_, rfl, ?_⟩; (try (rw [drewN_self wr]; generalize hq_ : World.drewN wr _ = wr; have n0_ : Aside0 (wr.heap[gb101]? = some (.cells #[.int .i64 0, .int .i64 0] 51 (0, 0))) := ⟨by rw [← hq_]; exact (qk BK101.out)⟩; have n1_ : Aside0 (Below w.heap.size w wr) := ⟨by rw [← hq_]; exact qb⟩; clear BK101 HB hq_; have BK101 := n0_; have HB := n1_; clear n0_ n1_))) | ((with_reducible refine gate_callee (f := 61) rfl ?_); refine goesL_ (some 68) rfl rfl Tryz.func61 (by kernel_rfl) rfl #[.int .i64 (wrap64 ((wrap64 ((x0_6.size : Int) - x5_3)) - 1))] rfl qm ?_; (with_reducible refine (entrepotref02_tens.calls k3 (wrap64 ((wrap64 ((x0_6.size : Int) - x5_3)) - 1)) t106 _ A25.out).mono ?_); rintro e w' ⟨rfl, ⟨nd, rfl⟩⟩; refine ⟨_, rfl, ?_⟩; (try (rw [drewN_self wr]; generalize hq_ : World.drewN wr _ = wr; have n0_ : Aside0 (wr.heap[gb101]? = some (.cells #[.int .i64 0, .int .i64 0] 51 (0, 0))) := ⟨by rw [← hq_]; exact (qk BK101.out)⟩; have n1_ : Aside0 (Below w.heap.size w wr) := ⟨by rw [← hq_]; exact qb⟩; clear BK101 HB hq_; have BK101 := n0_; have HB := n1_; clear n0_ n1_))) | ((with_reducible refine gate_callee (f := 106) rfl ?_); refine goesL_ (some 77) rfl rfl Tryz.func106 (by kernel_rfl) rfl #[.agg #[.int .i64 (wrap64 (x4_6 * (wrap64 ((wrap64 (t102 * t106)) + t104)))), .int .i64 (wrap64 ((wrap64 ((x0_6.size : Int) - x5_3)) - 1))]] rfl qm ?_; (with_reducible refine (entrepotref02_Least.calls k3 (wrap64 (x4_6 * (wrap64 ((wrap64 (t102 * t106)) + t104)))) (wrap64 ((wrap64 ((x0_6.size : Int) - x5_3)) - 1)) t107 t108 _ A26.out).mono ?_); rintro e w39 ⟨rfl, hb⟩; refine ⟨_, rfl, ?_⟩; replace BK101 := cK BK101 hb; replace HB := cB HB hb; (try clear hb); (try clear hb2); (try clear hk); (try clear hi)) | ((with_reducible refine gate_dst (N := 12) rfl ?_); refine box_ev (N := 12) (cs := #[.int .i64 0, .int .i64 0]) (t := 51) ?_; intro gb109 hg w40 hbox hb; have BK109 := Aside0.mk (hbox); have GW109 := Aside0.mk ((qg : w.heap.size ≤ gb109)); have GE109 := Aside0.mk ((qg : w.heap.size ≤ gb109)); have NB101_109 := Aside0.mk ((by rw [hg]; exact Nat.ne_of_lt (blk_lt (g := gb101) (o := .cells #[.int .i64 0, .int .i64 0] 51 (0, 0)) (qk BK101.out)) : gb101 ≠ gb109)); have NB109_101 := Aside0.mk ((by rw [hg]; exact Nat.ne_of_gt (blk_lt (g := gb101) (o := .cells #[.int .i64 0, .int .i64 0] 51 (0, 0)) (qk BK101.out)) : gb109 ≠ gb101)); replace BK101 := cK BK101 hb; replace HB := cB HB hb; clear hb hbox hg; have hnb41 := NB109_101.out; have hnc41 := NB101_109.out; have hcz42_0 : w40.cell? ⟨gb109, 0, none⟩ = some (.int .i64 0) := (blk_cell BK109.out 0).trans rfl; have hcz42_1 : w40.cell? ⟨gb109, 1, none⟩ = some (.int .i64 0) := (blk_cell BK109.out 1).trans rfl; have hfz42_0 := blk_frozen BK109.out 0; have hfz42_1 := blk_frozen BK109.out 1; have hcz43_0 : w40.cell? ⟨gb101, 0, none⟩ = some (.int .i64 0) := (blk_cell BK101.out 0).trans rfl; have hcz43_1 : w40.cell? ⟨gb101, 1, none⟩ = some (.int .i64 0) := (blk_cell BK101.out 1).trans rfl; have hfz43_0 := blk_frozen BK101.out 0; have hfz43_1 := blk_frozen BK101.out 1))
                 refine bodyPost_ret (results_ct rfl _ _ gb101 51 #[.int .i64 t107, .int .i64 t108] (0, 0) _ rfl (by refine qk ?_; refine blk_put (cs := #[.int .i64 t107, .int .i64 0]) ?_ 1 _ rfl; refine qk ?_; refine blk_put (cs := #[.int .i64 0, .int .i64 0]) ?_ 0 _ rfl; refine qk ?_; refine blk_far ?_ NB101_109.out _; refine qk ?_; refine blk_far ?_ NB101_109.out _; refine qk ?_; exact BK101.out) Tryz.underlying51 rfl (by kernel_rfl)) rfl ?_
                 exact ⟨by first | rfl | (simp [errW_none, errW_some] <;> rfl) | (simp only [← hji20]; first | rfl | (simp [errW_none, errW_some] <;> rfl)) | (simp [*, errW_none, errW_some] <;> rfl), qb⟩
              ·replace c24 := Bool.eq_false_iff.mpr c24; subst c24; have H1 : (some (0, 0, 20)) = some (r1, r2, r3) := by rw [if_neg (show ¬ (false = true) by decide)] at H; exact H
               clear H; have H := H1; clear H1; simp only [Option.some.injEq, Prod.mk.injEq] at H; obtain ⟨rfl, rfl, rfl⟩ := H
               go_wp2_with (first | ((with_reducible refine gate_callee (f := 104) rfl ?_); refine goesL_ (some 40) rfl rfl Tryz.func104 (by kernel_rfl) rfl #[.string (x0_6.extract 0 (x5_3 : Int).toNat), .int .i64 12] rfl qm ?_; (with_reducible refine (entrepotref02_digits.calls k3 (x0_6.extract 0 (x5_3 : Int).toNat) 12 t102 true _ A17.out).mono ?_); rintro e w' ⟨rfl, ⟨nd, rfl⟩⟩; refine ⟨_, rfl, ?_⟩; (try (rw [drewN_self wr]; generalize hq_ : World.drewN wr _ = wr; have n0_ : Aside0 (wr.heap[gb101]? = some (.cells #[.int .i64 0, .int .i64 0] 51 (0, 0))) := ⟨by rw [← hq_]; exact (qk BK101.out)⟩; have n1_ : Aside0 (Below w.heap.size w wr) := ⟨by rw [← hq_]; exact qb⟩; clear BK101 HB hq_; have BK101 := n0_; have HB := n1_; clear n0_ n1_))) | ((with_reducible refine gate_callee (f := 104) rfl ?_); refine goesL_ (some 55) rfl rfl Tryz.func104 (by kernel_rfl) rfl #[.string (x0_6.extract ((ji20) : Int).toNat x0_6.size), .int .i64 6] rfl (by (try simp only [List.map_toArray, List.map_cons, List.map_nil]); first | done | (simp only [hji20]; rfl) | rfl | (simp only [List.length_drop, List.length_take]; rfl)) ?_; (with_reducible refine (entrepotref02_digits.calls k3 (x0_6.extract ((ji20) : Int).toNat x0_6.size) 6 t104 false _ A23.out).mono ?_); rintro e w' ⟨rfl, ⟨nd, rfl⟩⟩; refine ⟨_, rfl, ?_⟩; (try (rw [drewN_self wr]; generalize hq_ : World.drewN wr _ = wr; have n0_ : Aside0 (wr.heap[gb101]? = some (.cells #[.int .i64 0, .int .i64 0] 51 (0, 0))) := ⟨by rw [← hq_]; exact (qk BK101.out)⟩; have n1_ : Aside0 (Below w.heap.size w wr) := ⟨by rw [← hq_]; exact qb⟩; clear BK101 HB hq_; have BK101 := n0_; have HB := n1_; clear n0_ n1_)); have hcz44_0 : wr.cell? ⟨gb101, 0, none⟩ = some (.int .i64 0) := (blk_cell BK101.out 0).trans rfl; have hcz44_1 : wr.cell? ⟨gb101, 1, none⟩ = some (.int .i64 0) := (blk_cell BK101.out 1).trans rfl; have hfz44_0 := blk_frozen BK101.out 0; have hfz44_1 := blk_frozen BK101.out 1))
               refine bodyPost_ret (results_ct rfl _ _ gb101 51 #[.int .i64 0, .int .i64 0] (0, 0) _ rfl (by refine qk ?_; refine blk_put (cs := #[.int .i64 0, .int .i64 0]) ?_ 1 _ rfl; refine qk ?_; refine blk_put (cs := #[.int .i64 0, .int .i64 0]) ?_ 0 _ rfl; refine qk ?_; exact BK101.out) Tryz.underlying51 rfl (by kernel_rfl)) rfl ?_
               exact ⟨by first | rfl | (simp [errW_none, errW_some] <;> rfl) | (simp only [← hji20]; first | rfl | (simp [errW_none, errW_some] <;> rfl)) | (simp [*, errW_none, errW_some] <;> rfl), qb⟩
             ·rw [if_neg c22] at H
              exact absurd H (by simp)
            ·rw [if_neg c21] at H
             exact absurd H (by simp)
           ·rw [if_neg c19] at H; have c19b0 := decide_eq_false c19; clear c19; replace H := Option.bind_eq_some_iff.mp H; obtain ⟨⟨t110, t111⟩, A450, H⟩ := H; (try dsimp only at H); have A45 := Aside0.mk A450; clear A450
            by_cases c46 : t110 > 100000000
            ·rw [if_pos c46] at H; have c46b0 := decide_eq_true c46; clear c46; simp only [Option.some.injEq, Prod.mk.injEq] at H; obtain ⟨rfl, rfl, rfl⟩ := H
             go_wp2_with (first | ((with_reducible refine gate_callee (f := 104) rfl ?_); refine goesL_ (some 40) rfl rfl Tryz.func104 (by kernel_rfl) rfl #[.string (x0_6.extract 0 (x5_3 : Int).toNat), .int .i64 12] rfl qm ?_; (with_reducible refine (entrepotref02_digits.calls k3 (x0_6.extract 0 (x5_3 : Int).toNat) 12 t102 true _ A17.out).mono ?_); rintro e w' ⟨rfl, ⟨nd, rfl⟩⟩; refine ⟨_, rfl, ?_⟩; (try (rw [drewN_self wr]; generalize hq_ : World.drewN wr _ = wr; have n0_ : Aside0 (wr.heap[gb101]? = some (.cells #[.int .i64 0, .int .i64 0] 51 (0, 0))) := ⟨by rw [← hq_]; exact (qk BK101.out)⟩; have n1_ : Aside0 (Below w.heap.size w wr) := ⟨by rw [← hq_]; exact qb⟩; clear BK101 HB hq_; have BK101 := n0_; have HB := n1_; clear n0_ n1_))) | ((with_reducible refine gate_callee (f := 106) rfl ?_); refine goesL_ (some 77) rfl rfl Tryz.func106 (by kernel_rfl) rfl #[.agg #[.int .i64 (wrap64 (x4_6 * t102)), .int .i64 0]] rfl qm ?_; (with_reducible refine (entrepotref02_Least.calls k3 (wrap64 (x4_6 * t102)) 0 t110 t111 _ A45.out).mono ?_); rintro e w47 ⟨rfl, hb⟩; refine ⟨_, rfl, ?_⟩; replace BK101 := cK BK101 hb; replace HB := cB HB hb; (try clear hb); (try clear hb2); (try clear hk); (try clear hi)) | ((with_reducible refine gate_dst (N := 12) rfl ?_); refine box_ev (N := 12) (cs := #[.int .i64 0, .int .i64 0]) (t := 51) ?_; intro gb112 hg w48 hbox hb; have BK112 := Aside0.mk (hbox); have GW112 := Aside0.mk ((qg : w.heap.size ≤ gb112)); have GE112 := Aside0.mk ((qg : w.heap.size ≤ gb112)); have NB101_112 := Aside0.mk ((by rw [hg]; exact Nat.ne_of_lt (blk_lt (g := gb101) (o := .cells #[.int .i64 0, .int .i64 0] 51 (0, 0)) (qk BK101.out)) : gb101 ≠ gb112)); have NB112_101 := Aside0.mk ((by rw [hg]; exact Nat.ne_of_gt (blk_lt (g := gb101) (o := .cells #[.int .i64 0, .int .i64 0] 51 (0, 0)) (qk BK101.out)) : gb112 ≠ gb101)); replace BK101 := cK BK101 hb; replace HB := cB HB hb; clear hb hbox hg; have hnb49 := NB112_101.out; have hnc49 := NB101_112.out; have hcz50_0 : w48.cell? ⟨gb112, 0, none⟩ = some (.int .i64 0) := (blk_cell BK112.out 0).trans rfl; have hcz50_1 : w48.cell? ⟨gb112, 1, none⟩ = some (.int .i64 0) := (blk_cell BK112.out 1).trans rfl; have hfz50_0 := blk_frozen BK112.out 0; have hfz50_1 := blk_frozen BK112.out 1; have hcz51_0 : w48.cell? ⟨gb101, 0, none⟩ = some (.int .i64 0) := (blk_cell BK101.out 0).trans rfl; have hcz51_1 : w48.cell? ⟨gb101, 1, none⟩ = some (.int .i64 0) := (blk_cell BK101.out 1).trans rfl; have hfz51_0 := blk_frozen BK101.out 0; have hfz51_1 := blk_frozen BK101.out 1))
             refine bodyPost_ret (results_ct rfl _ _ gb101 51 #[.int .i64 0, .int .i64 0] (0, 0) _ rfl (by refine qk ?_; refine blk_put (cs := #[.int .i64 0, .int .i64 0]) ?_ 1 _ rfl; refine qk ?_; refine blk_put (cs := #[.int .i64 0, .int .i64 0]) ?_ 0 _ rfl; refine qk ?_; refine blk_far ?_ NB101_112.out _; refine qk ?_; refine blk_far ?_ NB101_112.out _; refine qk ?_; exact BK101.out) Tryz.underlying51 rfl (by kernel_rfl)) rfl ?_
             exact ⟨qe, qb⟩
            ·rw [if_neg c46] at H; have c46b0 := decide_eq_false c46; clear c46
             by_cases c52 : t110 < (-100000000)
             ·rw [if_pos c52] at H; have c52b0 := decide_eq_true c52; clear c52; simp only [Option.some.injEq, Prod.mk.injEq] at H; obtain ⟨rfl, rfl, rfl⟩ := H
              go_wp2_with (first | ((with_reducible refine gate_callee (f := 104) rfl ?_); refine goesL_ (some 40) rfl rfl Tryz.func104 (by kernel_rfl) rfl #[.string (x0_6.extract 0 (x5_3 : Int).toNat), .int .i64 12] rfl qm ?_; (with_reducible refine (entrepotref02_digits.calls k3 (x0_6.extract 0 (x5_3 : Int).toNat) 12 t102 true _ A17.out).mono ?_); rintro e w' ⟨rfl, ⟨nd, rfl⟩⟩; refine ⟨_, rfl, ?_⟩; (try (rw [drewN_self wr]; generalize hq_ : World.drewN wr _ = wr; have n0_ : Aside0 (wr.heap[gb101]? = some (.cells #[.int .i64 0, .int .i64 0] 51 (0, 0))) := ⟨by rw [← hq_]; exact (qk BK101.out)⟩; have n1_ : Aside0 (Below w.heap.size w wr) := ⟨by rw [← hq_]; exact qb⟩; clear BK101 HB hq_; have BK101 := n0_; have HB := n1_; clear n0_ n1_))) | ((with_reducible refine gate_callee (f := 106) rfl ?_); refine goesL_ (some 77) rfl rfl Tryz.func106 (by kernel_rfl) rfl #[.agg #[.int .i64 (wrap64 (x4_6 * t102)), .int .i64 0]] rfl qm ?_; (with_reducible refine (entrepotref02_Least.calls k3 (wrap64 (x4_6 * t102)) 0 t110 t111 _ A45.out).mono ?_); rintro e w53 ⟨rfl, hb⟩; refine ⟨_, rfl, ?_⟩; replace BK101 := cK BK101 hb; replace HB := cB HB hb; (try clear hb); (try clear hb2); (try clear hk); (try clear hi)) | ((with_reducible refine gate_dst (N := 12) rfl ?_); refine box_ev (N := 12) (cs := #[.int .i64 0, .int .i64 0]) (t := 51) ?_; intro gb112 hg w54 hbox hb; have BK112 := Aside0.mk (hbox); have GW112 := Aside0.mk ((qg : w.heap.size ≤ gb112)); have GE112 := Aside0.mk ((qg : w.heap.size ≤ gb112)); have NB101_112 := Aside0.mk ((by rw [hg]; exact Nat.ne_of_lt (blk_lt (g := gb101) (o := .cells #[.int .i64 0, .int .i64 0] 51 (0, 0)) (qk BK101.out)) : gb101 ≠ gb112)); have NB112_101 := Aside0.mk ((by rw [hg]; exact Nat.ne_of_gt (blk_lt (g := gb101) (o := .cells #[.int .i64 0, .int .i64 0] 51 (0, 0)) (qk BK101.out)) : gb112 ≠ gb101)); replace BK101 := cK BK101 hb; replace HB := cB HB hb; clear hb hbox hg; have hnb55 := NB112_101.out; have hnc55 := NB101_112.out; have hcz56_0 : w54.cell? ⟨gb112, 0, none⟩ = some (.int .i64 0) := (blk_cell BK112.out 0).trans rfl; have hcz56_1 : w54.cell? ⟨gb112, 1, none⟩ = some (.int .i64 0) := (blk_cell BK112.out 1).trans rfl; have hfz56_0 := blk_frozen BK112.out 0; have hfz56_1 := blk_frozen BK112.out 1; have hcz57_0 : w54.cell? ⟨gb101, 0, none⟩ = some (.int .i64 0) := (blk_cell BK101.out 0).trans rfl; have hcz57_1 : w54.cell? ⟨gb101, 1, none⟩ = some (.int .i64 0) := (blk_cell BK101.out 1).trans rfl; have hfz57_0 := blk_frozen BK101.out 0; have hfz57_1 := blk_frozen BK101.out 1))
              refine bodyPost_ret (results_ct rfl _ _ gb101 51 #[.int .i64 0, .int .i64 0] (0, 0) _ rfl (by refine qk ?_; refine blk_put (cs := #[.int .i64 0, .int .i64 0]) ?_ 1 _ rfl; refine qk ?_; refine blk_put (cs := #[.int .i64 0, .int .i64 0]) ?_ 0 _ rfl; refine qk ?_; refine blk_far ?_ NB101_112.out _; refine qk ?_; refine blk_far ?_ NB101_112.out _; refine qk ?_; exact BK101.out) Tryz.underlying51 rfl (by kernel_rfl)) rfl ?_
              exact ⟨qe, qb⟩
             ·rw [if_neg c52] at H; have c52b0 := decide_eq_false c52; clear c52; simp only [Option.some.injEq, Prod.mk.injEq] at H; obtain ⟨rfl, rfl, rfl⟩ := H
              go_wp2_with (first | ((with_reducible refine gate_callee (f := 104) rfl ?_); refine goesL_ (some 40) rfl rfl Tryz.func104 (by kernel_rfl) rfl #[.string (x0_6.extract 0 (x5_3 : Int).toNat), .int .i64 12] rfl qm ?_; (with_reducible refine (entrepotref02_digits.calls k3 (x0_6.extract 0 (x5_3 : Int).toNat) 12 t102 true _ A17.out).mono ?_); rintro e w' ⟨rfl, ⟨nd, rfl⟩⟩; refine ⟨_, rfl, ?_⟩; (try (rw [drewN_self wr]; generalize hq_ : World.drewN wr _ = wr; have n0_ : Aside0 (wr.heap[gb101]? = some (.cells #[.int .i64 0, .int .i64 0] 51 (0, 0))) := ⟨by rw [← hq_]; exact (qk BK101.out)⟩; have n1_ : Aside0 (Below w.heap.size w wr) := ⟨by rw [← hq_]; exact qb⟩; clear BK101 HB hq_; have BK101 := n0_; have HB := n1_; clear n0_ n1_))) | ((with_reducible refine gate_callee (f := 106) rfl ?_); refine goesL_ (some 77) rfl rfl Tryz.func106 (by kernel_rfl) rfl #[.agg #[.int .i64 (wrap64 (x4_6 * t102)), .int .i64 0]] rfl qm ?_; (with_reducible refine (entrepotref02_Least.calls k3 (wrap64 (x4_6 * t102)) 0 t110 t111 _ A45.out).mono ?_); rintro e w58 ⟨rfl, hb⟩; refine ⟨_, rfl, ?_⟩; replace BK101 := cK BK101 hb; replace HB := cB HB hb; (try clear hb); (try clear hb2); (try clear hk); (try clear hi)) | ((with_reducible refine gate_dst (N := 12) rfl ?_); refine box_ev (N := 12) (cs := #[.int .i64 0, .int .i64 0]) (t := 51) ?_; intro gb112 hg w59 hbox hb; have BK112 := Aside0.mk (hbox); have GW112 := Aside0.mk ((qg : w.heap.size ≤ gb112)); have GE112 := Aside0.mk ((qg : w.heap.size ≤ gb112)); have NB101_112 := Aside0.mk ((by rw [hg]; exact Nat.ne_of_lt (blk_lt (g := gb101) (o := .cells #[.int .i64 0, .int .i64 0] 51 (0, 0)) (qk BK101.out)) : gb101 ≠ gb112)); have NB112_101 := Aside0.mk ((by rw [hg]; exact Nat.ne_of_gt (blk_lt (g := gb101) (o := .cells #[.int .i64 0, .int .i64 0] 51 (0, 0)) (qk BK101.out)) : gb112 ≠ gb101)); replace BK101 := cK BK101 hb; replace HB := cB HB hb; clear hb hbox hg; have hnb60 := NB112_101.out; have hnc60 := NB101_112.out; have hcz61_0 : w59.cell? ⟨gb112, 0, none⟩ = some (.int .i64 0) := (blk_cell BK112.out 0).trans rfl; have hcz61_1 : w59.cell? ⟨gb112, 1, none⟩ = some (.int .i64 0) := (blk_cell BK112.out 1).trans rfl; have hfz61_0 := blk_frozen BK112.out 0; have hfz61_1 := blk_frozen BK112.out 1; have hcz62_0 : w59.cell? ⟨gb101, 0, none⟩ = some (.int .i64 0) := (blk_cell BK101.out 0).trans rfl; have hcz62_1 : w59.cell? ⟨gb101, 1, none⟩ = some (.int .i64 0) := (blk_cell BK101.out 1).trans rfl; have hfz62_0 := blk_frozen BK101.out 0; have hfz62_1 := blk_frozen BK101.out 1))
              refine bodyPost_ret (results_ct rfl _ _ gb101 51 #[.int .i64 t110, .int .i64 t111] (0, 0) _ rfl (by refine qk ?_; refine blk_put (cs := #[.int .i64 t110, .int .i64 0]) ?_ 1 _ rfl; refine qk ?_; refine blk_put (cs := #[.int .i64 0, .int .i64 0]) ?_ 0 _ rfl; refine qk ?_; refine blk_far ?_ NB101_112.out _; refine qk ?_; refine blk_far ?_ NB101_112.out _; refine qk ?_; exact BK101.out) Tryz.underlying51 rfl (by kernel_rfl)) rfl ?_
              exact ⟨qe, qb⟩
          ·replace c18 := Bool.eq_false_iff.mpr c18; subst c18; have H1 : (some (0, 0, 20)) = some (r1, r2, r3) := by rw [if_neg (show ¬ (false = true) by decide)] at H; exact H
           clear H; have H := H1; clear H1; simp only [Option.some.injEq, Prod.mk.injEq] at H; obtain ⟨rfl, rfl, rfl⟩ := H
           go_wp2_with (first | ((with_reducible refine gate_callee (f := 104) rfl ?_); refine goesL_ (some 40) rfl rfl Tryz.func104 (by kernel_rfl) rfl #[.string (x0_6.extract 0 (x5_3 : Int).toNat), .int .i64 12] rfl qm ?_; (with_reducible refine (entrepotref02_digits.calls k3 (x0_6.extract 0 (x5_3 : Int).toNat) 12 t102 false _ A17.out).mono ?_); rintro e w' ⟨rfl, ⟨nd, rfl⟩⟩; refine ⟨_, rfl, ?_⟩; (try (rw [drewN_self wr]; generalize hq_ : World.drewN wr _ = wr; have n0_ : Aside0 (wr.heap[gb101]? = some (.cells #[.int .i64 0, .int .i64 0] 51 (0, 0))) := ⟨by rw [← hq_]; exact (qk BK101.out)⟩; have n1_ : Aside0 (Below w.heap.size w wr) := ⟨by rw [← hq_]; exact qb⟩; clear BK101 HB hq_; have BK101 := n0_; have HB := n1_; clear n0_ n1_)); have hcz63_0 : wr.cell? ⟨gb101, 0, none⟩ = some (.int .i64 0) := (blk_cell BK101.out 0).trans rfl; have hcz63_1 : wr.cell? ⟨gb101, 1, none⟩ = some (.int .i64 0) := (blk_cell BK101.out 1).trans rfl; have hfz63_0 := blk_frozen BK101.out 0; have hfz63_1 := blk_frozen BK101.out 1))
           refine bodyPost_ret (results_ct rfl _ _ gb101 51 #[.int .i64 0, .int .i64 0] (0, 0) _ rfl (by refine qk ?_; refine blk_put (cs := #[.int .i64 0, .int .i64 0]) ?_ 1 _ rfl; refine qk ?_; refine blk_put (cs := #[.int .i64 0, .int .i64 0]) ?_ 0 _ rfl; refine qk ?_; exact BK101.out) Tryz.underlying51 rfl (by kernel_rfl)) rfl ?_
           exact ⟨qe, qb⟩
         ·rw [if_neg c16] at H
          exact absurd H (by simp)
        ·rw [if_neg c15] at H
         exact absurd H (by simp)

end Go.Proofs.YtadocbfchdendaaGreatDoor.P
namespace Go.Proofs.YtadocbfchdendaaGreatDoor.P
open Go.RowKit Go.Proofs.YtadocbfchdendaaGreatDoorW.PrintWords Go.Proofs.YtadocbfchdendaaGreatDoorW.PrintLast Go.Proofs.YtadocbfchdendaaGreatDoorW.PrintMore
attribute [local go_sem] max2_int min2_int max_two min_two max_three min_three max_four min_four   -- for this text's walks alone
set_option linter.unusedVariables false
set_option linter.unusedSimpArgs false
def entrepotref13_Nums.l0 : Nat → ByteArray → List (S51) → Int → Int → List (S104) → Option ((List (S51)) × Int × Int)
 | 0, _, _, _, _, _ => none
 | k + 1, x0, x8, x9, x102000, x102001 => if x9 < (x102001.length : Int) then (if 0 ≤ x9 then ((entrepotref03_Text.f x0 ((rd_T104 x102001 x9).f0) ((rd_T104 x102001 x9).f1)).bind fun t107 => ((entrepotref02_Read.f k t107).bind fun bt108 => (if bt108.2.2 = 0 then (if x8.length < 8796093022208 then (entrepotref13_Nums.l0 k x0 (x8 ++ [(⟨bt108.1, bt108.2.1⟩ : S51)]) (wrap64 (x9 + 1)) x102000 x102001) else (none)) else (some (([] : List (S51)), (rd_T104 x102001 x9).f0, bt108.2.2))))) else (none)) else (some (x8, 0, 0))
def entrepotref13_Nums.f (k : Nat) (a0 : ByteArray) (a1_0 : Int) (l1_1 : List (S104)) (a2 : Int) : Option ((List (S51)) × Int × Int) := entrepotref13_Nums.l0 k a0 (([] : List (S51))) (mx a2 0) a1_0 l1_1
theorem entrepotref13_Nums.mono_l : ∀ k, (∀ y0 y1 y2 y3 y4, LeO (entrepotref13_Nums.l0 k y0 y1 y2 y3 y4) (entrepotref13_Nums.l0 (k + 1) y0 y1 y2 y3 y4))
 | 0 => fun _ _ _ _ _ r h => by simp [entrepotref13_Nums.l0] at h
 | k + 1 => by
  have ih0 := entrepotref13_Nums.mono_l k
  ·intro y0 y1 y2 y3 y4
   unfold entrepotref13_Nums.l0
   repeat' first
   | (with_reducible exact ih0 _ _ _ _ _)
   | (with_reducible exact entrepotref02_Read.mono _ _)
   | (with_reducible exact LeO.refl _)
   | (with_reducible exact LeO.none _)
   | (with_reducible refine LeO.ite ?_ ?_)
   | (with_reducible refine LeO.bind ?_ (fun _ => ?_))
   | exact ih0 _ _ _ _ _
   | exact entrepotref02_Read.mono _ _
   | exact LeO.none _
   | refine LeO.ite ?_ ?_
   | refine LeO.bind ?_ (fun _ => ?_)
theorem entrepotref13_Nums.mono : ∀ a0 a1 a2 a3 k, LeO (entrepotref13_Nums.f k a0 a1 a2 a3) (entrepotref13_Nums.f (k + 1) a0 a1 a2 a3) := by
 intro a0 a1 a2 a3 k
 have ih0 := entrepotref13_Nums.mono_l k; unfold entrepotref13_Nums.f
 repeat' first
   | (with_reducible exact ih0 _ _ _ _ _)
   | (with_reducible exact entrepotref02_Read.mono _ _)
   | (with_reducible exact LeO.refl _)
   | (with_reducible exact LeO.none _)
   | (with_reducible refine LeO.ite ?_ ?_)
   | (with_reducible refine LeO.bind ?_ (fun _ => ?_))
   | exact ih0 _ _ _ _ _
   | exact entrepotref02_Read.mono _ _
   | exact LeO.none _
   | refine LeO.ite ?_ ?_
   | refine LeO.bind ?_ (fun _ => ?_)
def entrepotref13_Nums.T7 : Bool × List (List Nat × List Nat) := (true, [([], []), ([0], [0]), ([], []), ([1, 2], [1, 2]), ([3], [3]), ([4], [4]), ([], []), ([5, 6], [5, 6]), ([], []), ([7, 8, 0, 1, 2, 3, 4, 5, 6, 7, 8], [7])])
def entrepotref13_Nums.B7 : List Nat := [0, 1, 0, 7, 15, 31, 0, 127, 0, 511]
theorem entrepotref13_Nums.tab7 : rtab .any (opsOf Tryz.f31 7) = entrepotref13_Nums.T7 := by kernel_rfl
theorem entrepotref13_Nums.bits7 : waitsOk entrepotref13_Nums.T7.2 entrepotref13_Nums.B7 = true := by kernel_rfl
set_option maxHeartbeats 8000000 in
set_option maxRecDepth 100000 in
theorem entrepotref13_Nums.calls (k : Nat) (a0 : ByteArray) (a1_0 : Int) (A1_1 : Option Addr) (c1_1 : Nat) (l1_1 : List (S104)) (a2 : Int) (r1 : List (S51)) (r2 : Int) (r3 : Int) (w : World) (hr1_1 : Kd.C k104 w A1_1 l1_1.length l1_1) (hc1_1 : l1_1.length ≤ c1_1) (h : entrepotref13_Nums.f k a0 a1_0 l1_1 a2 = some (r1, r2, r3)) :
  Calls Tryz.prog 31 #[.string a0, .agg #[.int .i64 a1_0, .slice A1_1 l1_1.length c1_1], .int .i64 a2] w fun e w' => ∃ v0_ : Value, e = .returned (.tuple #[v0_, .agg #[.int .i64 r2, .int .i64 r3]]) ∧ Kd.R k51 51 w' w.heap.size (fun _ => True) v0_ r1 ∧ Below w.heap.size w w' := by
 have hu36 := Tryz.underlying36; have hu41 := Tryz.underlying41; have hu104 := Tryz.underlying104; have hu51 := Tryz.underlying51; have HR1_1 := Aside0.mk hr1_1; have HC1_1 := Aside0.mk hc1_1; clear hr1_1 hc1_1; have HB := Aside0.mk (Below.refl w.heap.size w); have H : (entrepotref13_Nums.l0 k a0 (([] : List (S51))) (mx a2 0) a1_0 l1_1) = some (r1, r2, r3) := h; clear h; obtain ⟨y103, hy103⟩ : ∃ y_ : List (S51), y_ = (([] : List (S51))) := ⟨_, rfl⟩; replace H : (entrepotref13_Nums.l0 k a0 y103 (mx a2 0) a1_0 l1_1) = some (r1, r2, r3) := by first | (rw [hy103]; with_reducible exact H) | (have H2_ := (Option.bind_some _ _).symm.trans H; rw [hy103]; with_reducible exact H2_) | (have H2_ := (Option.bind_some _ _).symm.trans H; with_reducible exact H2_) | with_reducible exact H | (rw [hy103]; exact H) | exact H
 have Ny103 := Aside0.mk hy103; clear hy103; obtain ⟨ji4, hji4⟩ : ∃ j_ : Int, (mx a2 0) = j_ := ⟨_, rfl⟩; replace H : (entrepotref13_Nums.l0 k a0 y103 ji4 a1_0 l1_1) = some (r1, r2, r3) := by first | (rw [hji4] at H; exact H) | (simp only [hji4] at H ⊢; exact H)
 (try (have hji4l : 0 ≤ ji4 := by (rw [← hji4]; unfold mx; (repeat' split) <;> omega))); (try (have hji4m : 0 ≤ ji4 := by omega)); have hji4_ : (if a2 < 0 then 0 else a2) = ji4 := hji4; have H' := Aside0.mk H; clear H; go_enter Tryz.func31, Tryz.ntmps31
 go_wp2_with (first | ((with_reducible refine gate_dst (N := 4) rfl ?_); refine box_ev (N := 4) (cs := #[.int .i64 a1_0, .slice A1_1 l1_1.length c1_1]) (t := 36) ?_; intro gb101 hg w5 hbox hb; have BK101 := Aside0.mk (hbox); have GW101 := Aside0.mk ((qg : w.heap.size ≤ gb101)); have GE101 := Aside0.mk ((qg : w.heap.size ≤ gb101)); replace HB := cB HB hb; clear hb hbox hg) | ((with_reducible refine gate_dst (N := 7) rfl ?_); refine box_ev (N := 7) (cs := #[.int .i64 0, .int .i64 0]) (t := 41) ?_; intro gb102 hg w6 hbox hb; have BK102 := Aside0.mk (hbox); have GW102 := Aside0.mk ((qg : w.heap.size ≤ gb102)); have GE102 := Aside0.mk ((qg : w.heap.size ≤ gb102)); have NB101_102 := Aside0.mk ((by rw [hg]; exact Nat.ne_of_lt (blk_lt (g := gb101) (o := .cells #[.int .i64 a1_0, .slice A1_1 l1_1.length c1_1] 36 (0, 0)) (qk BK101.out)) : gb101 ≠ gb102)); have NB102_101 := Aside0.mk ((by rw [hg]; exact Nat.ne_of_gt (blk_lt (g := gb101) (o := .cells #[.int .i64 a1_0, .slice A1_1 l1_1.length c1_1] 36 (0, 0)) (qk BK101.out)) : gb102 ≠ gb101)); replace BK101 := cK BK101 hb; replace HB := cB HB hb; clear hb hbox hg) | ((with_reducible refine gate_dst (N := 12) rfl ?_); refine Kd.R_lit k51 _ 51 ?hg (N := 12) ?hd (xs := ([] : List (S51))) (inner := []) (ok := fun _ => True) (okp := fun _ => True) ?hr ?hp (fun _ hk => hk) trivial (Below.refl _ _) (Nat.le_refl _) (by simp) ?_; (case hd => rfl); (case hg => rfl); (case hr => first | (go_simp; done) | (go_simp; rfl)); (case hp => exact (Reps.none _ _)); intro v104 w7 ho8 hb hg_ hnew_; clear hg_ hnew_; (first | rw [← Ny103.out] at ho8 | (simp only [Int.reduceToNat] at ho8; rw [← Ny103.out] at ho8)); have HO105 := Aside0.mk (Kd.R_lower ho8 (below_size qb)); replace BK101 := cK BK101 hb; replace BK102 := cK BK102 hb; replace HB := cB HB hb; clear hb ho8))
 (try simp only [Act.put, List.setIfInBounds_toArray, List.set_cons_zero, List.set_cons_succ])
 go_loopg [8, 9] k (fun kq v8 v9 w' => ∃ (x8_1 : List (S51)) (x9_1 : Int) (x103000_1 : Int) (x103001_1 : Int), v9 = .int .i64 x9_1 ∧ Aside0 (entrepotref13_Nums.l0 kq a0 x8_1 x9_1 a1_0 l1_1 = some (r1, r2, r3)) ∧ Aside0 (kq ≤ k) ∧ Aside0 (Kd.R k51 51 w' w.heap.size (fun _ => True) v8 x8_1) ∧ Aside0 (w'.heap[gb101]? = some (.cells #[.int .i64 a1_0, (.slice A1_1 l1_1.length c1_1)] 36 (0, 0))) ∧ Aside0 (w'.heap[gb102]? = some (.cells #[.int .i64 x103000_1, .int .i64 x103001_1] 41 (0, 0))) ∧ Aside0 (Below w.heap.size w w'))
 case atStart => exact ⟨(y103), (ji4), (0), (0), (by first | rfl | (simp; done) | (simp only [← hji4] <;> (first | rfl | simp)) | (simp [*]; done)), H', ⟨Nat.le_refl _⟩, ⟨qR HO105.out⟩, ⟨qk BK101.out⟩, ⟨qk BK102.out⟩, ⟨qb⟩⟩
 case round =>
  clear H'; (try clear c1); (try clear p2); (try clear c3); obtain ⟨x8_1, x9_1, x103000_1, x103001_1, rfl, HA, HK1, HO_8, BK101, BK102, HB⟩ := hrel; cases gk with
  | zero => exact absurd HA.out (by simp [entrepotref13_Nums.l0])
  | succ k1 =>
   have H := HA.out; clear HA; simp only [entrepotref13_Nums.l0] at H
   by_cases c9 : x9_1 < (l1_1.length : Int)
   ·rw [if_pos c9] at H; have c9b0 := decide_eq_true c9; clear c9
    by_cases c10 : 0 ≤ x9_1
    ·rw [if_pos c10] at H; have c10b0 := decide_eq_true c10; clear c10; replace H := Option.bind_eq_some_iff.mp H; obtain ⟨t107, A110, H⟩ := H; (try dsimp only at H); have A11 := Aside0.mk A110; clear A110; replace H := Option.bind_eq_some_iff.mp H; obtain ⟨⟨t108, t109, t110⟩, A120, H⟩ := H; (try dsimp only at H); have A12 := Aside0.mk A120; clear A120
     by_cases c13 : t110 = 0
     ·rw [if_pos c13] at H; have c13b0 := beq_iff_eq.mpr c13; have c13b1 := bne_eq_false_iff_eq.mpr c13; clear c13
      by_cases c14 : x8_1.length < 8796093022208
      ·rw [if_pos c14] at H; have LMc14 := Aside0.mk c14; clear c14; obtain ⟨y112, hy112⟩ : ∃ y_ : List (S51), y_ = (x8_1 ++ [(⟨t108, t109⟩ : S51)]) := ⟨_, rfl⟩; replace H : (entrepotref13_Nums.l0 k1 a0 y112 (wrap64 (x9_1 + 1)) a1_0 l1_1) = some (r1, r2, r3) := by first | (rw [hy112]; with_reducible exact H) | (have H2_ := (Option.bind_some _ _).symm.trans H; rw [hy112]; with_reducible exact H2_) | (have H2_ := (Option.bind_some _ _).symm.trans H; with_reducible exact H2_) | with_reducible exact H | (rw [hy112]; exact H) | exact H
       have Ny112 := Aside0.mk hy112; clear hy112; have H' := Aside0.mk H; clear H; have hnb15 := NB101_102.out; have hnc15 := NB102_101.out; obtain ⟨hcz16_0, hcz16_1, hfz16_0, hfz16_1⟩ := bc2 BK101.out; have p106 : 0 ≤ (x9_1 : Int) := of_decide_eq_true qa; have q106 : x9_1 < (l1_1.length : Int) := of_decide_eq_true qa; obtain ⟨ad106, e106, hx106_0, hx106_1⟩ := at_T104 HR1_1.out x9_1 p106 q106; cases e106; replace hx106_0 := (HB.out.cell (World.block_lt_of_cell? w _ hx106_0)).trans hx106_0; replace hx106_1 := (HB.out.cell (World.block_lt_of_cell? w _ hx106_1)).trans hx106_1; (try simp only [Go.IntWalk.toNatUp] at hx106_0); (try simp only [Go.IntWalk.toNatUp] at hx106_1); replace p106 := eq_true p106; replace q106 := eq_true q106
       go_wp2_with (first | ((with_reducible refine gate_callee (f := 55) rfl ?_); refine goesL_ (some 29) rfl rfl Tryz.func55 (by kernel_rfl) rfl #[.string a0, .agg #[.int .i64 ((rd_T104 l1_1 x9_1).f0), .int .i64 ((rd_T104 l1_1 x9_1).f1)]] rfl qm ?_; (with_reducible refine (entrepotref03_Text.calls a0 ((rd_T104 l1_1 x9_1).f0) ((rd_T104 l1_1 x9_1).f1) t107 _ A11.out).mono ?_); rintro e w17 ⟨rfl, hb⟩; refine ⟨_, rfl, ?_⟩; replace HO_8 := cR HO_8 hb; replace BK101 := cK BK101 hb; replace BK102 := cK BK102 hb; replace HB := cB HB hb; (try clear hb); (try clear hb2); (try clear hk); (try clear hi)) | ((with_reducible refine gate_callee (f := 65) rfl ?_); refine goesL_ (some 30) rfl rfl Tryz.func65 (by kernel_rfl) rfl #[.string t107] rfl qm ?_; (with_reducible refine (entrepotref02_Read.calls k1 t107 t108 t109 t110 _ A12.out).mono ?_); rintro e w18 ⟨rfl, hb⟩; refine ⟨_, rfl, ?_⟩; replace HO_8 := cR HO_8 hb; replace BK101 := cK BK101 hb; replace BK102 := cK BK102 hb; replace HB := cB HB hb; (try clear hb); (try clear hb2); (try clear hk); (try clear hi)) | ((with_reducible refine gate_dst (N := 10) rfl ?_); refine box_ev (N := 10) (cs := #[.int .i64 0, .int .i64 0]) (t := 51) ?_; intro gb111 hg w19 hbox hb; have n0_ := Aside0.mk (Kd.R_below (Kd.R_elderB (qR HO_8.out) gb111 (Nat.le_of_eq hg.symm)) hb); have BK111 := Aside0.mk (hbox); have GW111 := Aside0.mk ((qg : w.heap.size ≤ gb111)); have GE111 := Aside0.mk ((qg : w.heap.size ≤ gb111)); have NB101_111 := Aside0.mk ((by rw [hg]; exact Nat.ne_of_lt (blk_lt (g := gb101) (o := .cells #[.int .i64 a1_0, .slice (some ad106) l1_1.length c1_1] 36 (0, 0)) (qk BK101.out)) : gb101 ≠ gb111)); have NB111_101 := Aside0.mk ((by rw [hg]; exact Nat.ne_of_gt (blk_lt (g := gb101) (o := .cells #[.int .i64 a1_0, .slice (some ad106) l1_1.length c1_1] 36 (0, 0)) (qk BK101.out)) : gb111 ≠ gb101)); have NB102_111 := Aside0.mk ((by rw [hg]; exact Nat.ne_of_lt (blk_lt (g := gb102) (o := .cells #[.int .i64 x103000_1, .int .i64 x103001_1] 41 (0, 0)) (qk BK102.out)) : gb102 ≠ gb111)); have NB111_102 := Aside0.mk ((by rw [hg]; exact Nat.ne_of_gt (blk_lt (g := gb102) (o := .cells #[.int .i64 x103000_1, .int .i64 x103001_1] 41 (0, 0)) (qk BK102.out)) : gb111 ≠ gb102)); replace BK101 := cK BK101 hb; replace BK102 := cK BK102 hb; replace HB := cB HB hb; replace HO_8 := n0_; clear n0_; clear hb hbox hg; have hnb20 := NB111_101.out; have hnc20 := NB101_111.out; have hnb21 := NB111_102.out; have hnc21 := NB102_111.out; have hcz22_0 : w19.cell? ⟨gb111, 0, none⟩ = some (.int .i64 0) := (blk_cell BK111.out 0).trans rfl; have hcz22_1 : w19.cell? ⟨gb111, 1, none⟩ = some (.int .i64 0) := (blk_cell BK111.out 1).trans rfl; have hfz22_0 := blk_frozen BK111.out 0; have hfz22_1 := blk_frozen BK111.out 1) | ((with_reducible refine gate_builtin (b := .append) (xs := #[.tmp 43, .tmp 45]) rfl ?_); at_builtin; refine Kd.R_append k51 (w0 := w) w.heap.size rfl (.tmp 43) (.tmp 45) 48 51 (.agg #[(.int .i64 0), (.int .i64 0)]) 16 rfl Tryz.underlying48 info51 rfl (by decide) (by omega) u8 x8_1 (⟨t108, t109⟩ : S51) [.int .i64 t108, .int .i64 t109] (fun k_ => k_ ≠ gb111) (fun _ => False) rfl (by first | (go_simp; done) | (go_simp; rfl)) ?aP (fun _ hk => hk.elim) ?aF ?aO ?aB ?aS ?aL ?_; (case aP => exact k51_mkM _ _ _ (⟨t108, t109⟩ : S51)); (case aB => exact qb); (case aF => exact (fun k_ hk => Kd.freshB (g := gb111) (o := .cells #[.int .i64 t108, .int .i64 t109] 51 (0, 0)) (by refine qk ?_; refine blk_put (cs := #[.int .i64 t108, .int .i64 0]) ?_ 1 _ rfl; refine qk ?_; refine blk_put (cs := #[.int .i64 0, .int .i64 0]) ?_ 0 _ rfl; refine qk ?_; exact BK111.out) k_ hk)); (case aO => exact (by refine qR ?_; exact Kd.R_mono (Kd.R_far (p := ⟨gb111, 1, none⟩) (Kd.R_far (p := ⟨gb111, 0, none⟩) (Kd.R_mono HO_8.out (fun k_ hk => (⟨hk, hk.2⟩ : _ ∧ k_ ≠ gb111))) (fun _ hk => hk.2) (.int .i64 t108)) (fun _ hk => hk.2) (.int .i64 t109)) (fun _ hk => hk.1.2))); (case aS => exact (below_size qb)); (case aL => have := LMc14.out; omega); intro v113 w23 ho hb hg hat; rw [← Ny112.out] at ho; have n0_ := Aside0.mk (blk_grown (g := gb101) (o := .cells #[.int .i64 a1_0, .slice (some ad106) l1_1.length c1_1] 36 (0, 0)) (by refine qk ?_; refine blk_far ?_ NB101_111.out _; refine qk ?_; refine blk_far ?_ NB101_111.out _; refine qk ?_; exact BK101.out) hg (Kd.R_ne HO_8.out BK101.out (by decide))); have n1_ := Aside0.mk (blk_grown (g := gb102) (o := .cells #[.int .i64 x103000_1, .int .i64 x103001_1] 41 (0, 0)) (by refine qk ?_; refine blk_far ?_ NB102_111.out _; refine qk ?_; refine blk_far ?_ NB102_111.out _; refine qk ?_; exact BK102.out) hg (Kd.R_ne HO_8.out BK102.out (by decide))); have n2_ := Aside0.mk (blk_grown (g := gb111) (o := .cells #[.int .i64 t108, .int .i64 t109] 51 (0, 0)) (by refine qk ?_; refine blk_put (cs := #[.int .i64 t108, .int .i64 0]) ?_ 1 _ rfl; refine qk ?_; refine blk_put (cs := #[.int .i64 0, .int .i64 0]) ?_ 0 _ rfl; refine qk ?_; exact BK111.out) hg (Kd.R_away HO_8.out (fun _ hk => hk.2))); have n3_ := Aside0.mk (hb); have HO114 := Aside0.mk (ho); replace BK101 := n0_; replace BK102 := n1_; replace BK111 := n2_; replace HB := n3_; clear n0_ n1_ n2_ n3_; clear HO_8; clear ho hb hg hat))
       go_roundg k1
       case measure => have := HK1.out; omega
       case rel => exact ⟨(y112), (wrap64 (x9_1 + 1)), (x103000_1), (x103001_1), qr, H', ⟨by have := HK1.out; omega⟩, ⟨by refine qR ?_; exact Kd.R_mono HO114.out (fun _ hk => trivial)⟩, ⟨qk BK101.out⟩, ⟨qk BK102.out⟩, ⟨qb⟩⟩
      ·rw [if_neg c14] at H
       exact absurd H (by simp)
     ·rw [if_neg c13] at H; have c13b0 := beq_eq_false_iff_ne.mpr c13; have c13b1 := bne_iff_ne.mpr c13; simp only [Option.some.injEq, Prod.mk.injEq] at H; obtain ⟨rfl, rfl, rfl⟩ := H; have hnb24 := NB101_102.out; have hnc24 := NB102_101.out; obtain ⟨hcz25_0, hcz25_1, hfz25_0, hfz25_1⟩ := bc2 BK101.out; have p106 : 0 ≤ (x9_1 : Int) := of_decide_eq_true qa; have q106 : x9_1 < (l1_1.length : Int) := of_decide_eq_true qa; obtain ⟨ad106, e106, hx106_0, hx106_1⟩ := at_T104 HR1_1.out x9_1 p106 q106; cases e106; replace hx106_0 := (HB.out.cell (World.block_lt_of_cell? w _ hx106_0)).trans hx106_0; replace hx106_1 := (HB.out.cell (World.block_lt_of_cell? w _ hx106_1)).trans hx106_1; (try simp only [Go.IntWalk.toNatUp] at hx106_0); (try simp only [Go.IntWalk.toNatUp] at hx106_1); replace p106 := eq_true p106; replace q106 := eq_true q106
      try go_wp2_with (first | ((with_reducible refine gate_callee (f := 55) rfl ?_); refine goesL_ (some 29) rfl rfl Tryz.func55 (by kernel_rfl) rfl #[.string a0, .agg #[.int .i64 ((rd_T104 l1_1 x9_1).f0), .int .i64 ((rd_T104 l1_1 x9_1).f1)]] rfl qm ?_; (with_reducible refine (entrepotref03_Text.calls a0 ((rd_T104 l1_1 x9_1).f0) ((rd_T104 l1_1 x9_1).f1) t107 _ A11.out).mono ?_); rintro e w26 ⟨rfl, hb⟩; refine ⟨_, rfl, ?_⟩; replace HO_8 := cR HO_8 hb; replace BK101 := cK BK101 hb; replace BK102 := cK BK102 hb; replace HB := cB HB hb; (try clear hb); (try clear hb2); (try clear hk); (try clear hi)) | ((with_reducible refine gate_callee (f := 65) rfl ?_); refine goesL_ (some 30) rfl rfl Tryz.func65 (by kernel_rfl) rfl #[.string t107] rfl qm ?_; (with_reducible refine (entrepotref02_Read.calls k1 t107 t108 t109 t110 _ A12.out).mono ?_); rintro e w27 ⟨rfl, hb⟩; refine ⟨_, rfl, ?_⟩; replace HO_8 := cR HO_8 hb; replace BK101 := cK BK101 hb; replace BK102 := cK BK102 hb; replace HB := cB HB hb; (try clear hb); (try clear hb2); (try clear hk); (try clear hi)) | ((with_reducible refine gate_dst (N := 10) rfl ?_); refine box_ev (N := 10) (cs := #[.int .i64 0, .int .i64 0]) (t := 51) ?_; intro gb111 hg w28 hbox hb; have n0_ := Aside0.mk (Kd.R_below (Kd.R_elderB (qR HO_8.out) gb111 (Nat.le_of_eq hg.symm)) hb); have BK111 := Aside0.mk (hbox); have GW111 := Aside0.mk ((qg : w.heap.size ≤ gb111)); have GE111 := Aside0.mk ((qg : w.heap.size ≤ gb111)); have NB101_111 := Aside0.mk ((by rw [hg]; exact Nat.ne_of_lt (blk_lt (g := gb101) (o := .cells #[.int .i64 a1_0, .slice (some ad106) l1_1.length c1_1] 36 (0, 0)) (qk BK101.out)) : gb101 ≠ gb111)); have NB111_101 := Aside0.mk ((by rw [hg]; exact Nat.ne_of_gt (blk_lt (g := gb101) (o := .cells #[.int .i64 a1_0, .slice (some ad106) l1_1.length c1_1] 36 (0, 0)) (qk BK101.out)) : gb111 ≠ gb101)); have NB102_111 := Aside0.mk ((by rw [hg]; exact Nat.ne_of_lt (blk_lt (g := gb102) (o := .cells #[.int .i64 x103000_1, .int .i64 x103001_1] 41 (0, 0)) (qk BK102.out)) : gb102 ≠ gb111)); have NB111_102 := Aside0.mk ((by rw [hg]; exact Nat.ne_of_gt (blk_lt (g := gb102) (o := .cells #[.int .i64 x103000_1, .int .i64 x103001_1] 41 (0, 0)) (qk BK102.out)) : gb111 ≠ gb102)); replace BK101 := cK BK101 hb; replace BK102 := cK BK102 hb; replace HB := cB HB hb; replace HO_8 := n0_; clear n0_; clear hb hbox hg; have hnb29 := NB111_101.out; have hnc29 := NB101_111.out; have hnb30 := NB111_102.out; have hnc30 := NB102_111.out; have hcz31_0 : w28.cell? ⟨gb111, 0, none⟩ = some (.int .i64 0) := (blk_cell BK111.out 0).trans rfl; have hcz31_1 : w28.cell? ⟨gb111, 1, none⟩ = some (.int .i64 0) := (blk_cell BK111.out 1).trans rfl; have hfz31_0 := blk_frozen BK111.out 0; have hfz31_1 := blk_frozen BK111.out 1))
      have n0_ : Aside0 (Kd.R k51 51 ((w28.setCell ⟨gb111, 0, none⟩ (.int .i64 t108)).setCell ⟨gb111, 1, none⟩ (.int .i64 t109)) w.heap.size (fun k_ => k_ ≠ gb111) u8 x8_1) := ⟨by refine qR ?_; exact Kd.R_mono (Kd.R_far (p := ⟨gb111, 1, none⟩) (Kd.R_far (p := ⟨gb111, 0, none⟩) (Kd.R_mono HO_8.out (fun k_ hk => (⟨hk, hk.2⟩ : _ ∧ k_ ≠ gb111))) (fun _ hk => hk.2) (.int .i64 t108)) (fun _ hk => hk.2) (.int .i64 t109)) (fun _ hk => hk.1.2)⟩; have n1_ : Aside0 (((w28.setCell ⟨gb111, 0, none⟩ (.int .i64 t108)).setCell ⟨gb111, 1, none⟩ (.int .i64 t109)).heap[gb101]? = some (.cells #[.int .i64 a1_0, .slice (some ad106) l1_1.length c1_1] 36 (0, 0))) := ⟨by refine qk ?_; refine blk_far ?_ NB101_111.out _; refine qk ?_; refine blk_far ?_ NB101_111.out _; refine qk ?_; exact BK101.out⟩; have n2_ : Aside0 (((w28.setCell ⟨gb111, 0, none⟩ (.int .i64 t108)).setCell ⟨gb111, 1, none⟩ (.int .i64 t109)).heap[gb102]? = some (.cells #[.int .i64 x103000_1, .int .i64 x103001_1] 41 (0, 0))) := ⟨by refine qk ?_; refine blk_far ?_ NB102_111.out _; refine qk ?_; refine blk_far ?_ NB102_111.out _; refine qk ?_; exact BK102.out⟩; have n3_ : Aside0 (((w28.setCell ⟨gb111, 0, none⟩ (.int .i64 t108)).setCell ⟨gb111, 1, none⟩ (.int .i64 t109)).heap[gb111]? = some (.cells #[.int .i64 t108, .int .i64 t109] 51 (0, 0))) := ⟨by refine qk ?_; refine blk_put (cs := #[.int .i64 t108, .int .i64 0]) ?_ 1 _ rfl; refine qk ?_; refine blk_put (cs := #[.int .i64 0, .int .i64 0]) ?_ 0 _ rfl; refine qk ?_; exact BK111.out⟩; have n4_ : Aside0 (Below w.heap.size w ((w28.setCell ⟨gb111, 0, none⟩ (.int .i64 t108)).setCell ⟨gb111, 1, none⟩ (.int .i64 t109))) := ⟨qb⟩; (try clear HO_8); (try clear BK101); (try clear BK102); (try clear BK111); (try clear HB); generalize ((w28.setCell ⟨gb111, 0, none⟩ (.int .i64 t108)).setCell ⟨gb111, 1, none⟩ (.int .i64 t109)) = w32 at n0_ n1_ n2_ n3_ n4_ ⊢; have HO_8 := n0_; have BK101 := n1_; have BK102 := n2_; have BK111 := n3_; have HB := n4_; clear n0_ n1_ n2_ n3_ n4_; have n0_ := Aside0.mk (Kd.R_drew HO_8.out); have n1_ := Aside0.mk (blk_drew BK101.out); have n2_ := Aside0.mk (blk_drew BK102.out); have n3_ := Aside0.mk (blk_drew BK111.out); have n4_ := Aside0.mk (below_drew1 HB.out); clear HO_8; clear BK101; clear BK102; clear BK111; clear HB; have HO_8 := n0_; have BK101 := n1_; have BK102 := n2_; have BK111 := n3_; have HB := n4_; clear n0_ n1_ n2_ n3_ n4_; have p115 : 0 ≤ (x9_1 : Int) := of_decide_eq_true qa; have q115 : x9_1 < (l1_1.length : Int) := of_decide_eq_true qa; obtain ⟨ad115, e115, hx115_0, hx115_1⟩ := at_T104 HR1_1.out x9_1 p115 q115; have hw115_1 := hx115_1; have hw115_0 := hx115_0; obtain rfl : ad106 = ad115 := (by injection e115); replace hx115_0 := (HB.out.cell (World.block_lt_of_cell? w _ hx115_0)).trans hx115_0; replace hx115_1 := (HB.out.cell (World.block_lt_of_cell? w _ hx115_1)).trans hx115_1; (try simp only [Go.IntWalk.toNatUp] at hx115_0); (try simp only [Go.IntWalk.toNatUp] at hx115_1); replace p115 := eq_true p115; replace q115 := eq_true q115
      refine start_ (n := 10) (S := fun w' => w'.cell? ⟨gb101, 0, none⟩ = some (.int .i64 a1_0) ∧ w'.cell? ⟨gb101, 1, none⟩ = some (.slice (some ad106) l1_1.length c1_1) ∧ w'.cell? (ad106.add ((x9_1).toNat * 2)) = some (.int .i64 ((rd_T104 l1_1 x9_1).f0)) ∧ w'.cell? ⟨(ad106.add ((x9_1).toNat * 2)).block, (ad106.add ((x9_1).toNat * 2)).off + 1, none⟩ = some (.int .i64 ((rd_T104 l1_1 x9_1).f1))) (ds := []) #[false, false, false, false, false, false, false, false, false, false] (by kernel_rfl) rfl rfl ⟨(blk_cell BK101.out 0).trans rfl, (blk_cell BK101.out 1).trans rfl, ((HB.out.cell (World.block_lt_of_cell? w _ hw115_0)).trans hw115_0), ((HB.out.cell (World.block_lt_of_cell? w _ hw115_1)).trans hw115_1)⟩ (fun hHeld => ?_); refine with_tabW entrepotref13_Nums.tab7 entrepotref13_Nums.bits7 (fun HT_ HW_ => ?_); generalize w32.drew = w33 at HO_8 BK101 BK102 BK111 HB hx115_0 hx115_1 hHeld ⊢; refine pure_ (i := 0) (N := some 35) (v := ?_) (a' := ?_) #[true, false, false, false, false, false, false, false, false, false] rfl rfl (any_of HT_.out (by kernel_rfl)) (fun _ _ _ h => h) (Or.inl ⟨by rfl, ?_⟩) ?_ ?_
      rotate_left
      ·intro w'
       go_simp
       with_reducible rfl
      rotate_left
      ·simp only [Act.put, List.setIfInBounds_toArray, List.set_cons_zero, List.set_cons_succ, i64_w, i32_w]
       rfl
      refine pure_ (i := 2) (N := some 37) (v := ?_) (a' := ?_) #[true, false, true, false, false, false, false, false, false, false] rfl rfl (any_of HT_.out (by kernel_rfl)) (fun _ _ _ h => h) (Or.inl ⟨by rfl, ?_⟩) ?_ ?_
      rotate_left
      ·intro w'
       go_simp
       with_reducible rfl
      rotate_left
      ·simp only [Act.put, List.setIfInBounds_toArray, List.set_cons_zero, List.set_cons_succ, i64_w, i32_w]
       rfl
      refine pure_ (i := 6) (N := some 41) (v := ?_) (a' := ?_) #[true, false, true, false, false, false, true, false, false, false] rfl rfl (any_of HT_.out (by kernel_rfl)) (fun _ _ _ h => h) (Or.inl ⟨by rfl, ?_⟩) ?_ ?_
      rotate_left
      ·intro w'
       go_simp
       with_reducible rfl
      rotate_left
      ·simp only [Act.put, List.setIfInBounds_toArray, List.set_cons_zero, List.set_cons_succ, i64_w, i32_w]
       rfl
      refine pure_ (i := 8) (N := some 6) (v := ?_) (a' := ?_) #[true, false, true, false, false, false, true, false, true, false] rfl rfl (any_of HT_.out (by kernel_rfl)) (fun _ _ _ h => h) (Or.inl ⟨by rfl, ?_⟩) ?_ ?_
      rotate_left
      ·intro w'
       go_simp
       with_reducible rfl
      rotate_left
      ·simp only [Act.put, List.setIfInBounds_toArray, List.set_cons_zero, List.set_cons_succ, i64_w, i32_w]
       rfl
      refine take_ (i := 1) (N := some 36) (v := ?_) (a' := ?_) #[true, true, true, false, false, false, true, false, true, false] rfl rfl (take_ofW HT_.out HW_.out (by kernel_rfl)) (fun _ _ _ h => h) (Or.inl ⟨by rfl, ?_⟩) hHeld ?_ ?_
      rotate_left
      ·rintro w' ⟨s0, s1, s2, s3⟩
       go_simp
       with_reducible rfl
      rotate_left
      ·simp only [Act.put, List.setIfInBounds_toArray, List.set_cons_zero, List.set_cons_succ, i64_w, i32_w]
       rfl
      refine pure_ (i := 3) (N := some 38) (v := ?_) (a' := ?_) #[true, true, true, true, false, false, true, false, true, false] rfl rfl (any_of HT_.out (by kernel_rfl)) (fun _ _ _ h => h) (Or.inl ⟨by rfl, ?_⟩) ?_ ?_
      rotate_left
      ·intro w'
       go_simp
       with_reducible rfl
      rotate_left
      ·simp only [Act.put, List.setIfInBounds_toArray, List.set_cons_zero, List.set_cons_succ, i64_w, i32_w]
       rfl
      refine pure_ (i := 4) (N := some 39) (v := ?_) (a' := ?_) #[true, true, true, true, true, false, true, false, true, false] rfl rfl (any_of HT_.out (by kernel_rfl)) (fun _ _ _ h => h) (Or.inl ⟨by rfl, ?_⟩) ?_ ?_
      rotate_left
      ·intro w'
       go_simp
       with_reducible rfl
      rotate_left
      ·simp only [Act.put, List.setIfInBounds_toArray, List.set_cons_zero, List.set_cons_succ, i64_w, i32_w]
       rfl
      refine take_ (i := 5) (N := some 40) (v := ?_) (a' := ?_) #[true, true, true, true, true, true, true, false, true, false] rfl rfl (take_ofW HT_.out HW_.out (by kernel_rfl)) (fun _ _ _ h => h) (Or.inl ⟨by rfl, ?_⟩) hHeld ?_ ?_
      rotate_left
      ·rintro w' ⟨s0, s1, s2, s3⟩
       go_simp
       with_reducible rfl
      rotate_left
      ·simp only [Act.put, List.setIfInBounds_toArray, List.set_cons_zero, List.set_cons_succ, i64_w, i32_w]
       rfl
      refine pure_ (i := 7) (N := some 42) (v := ?_) (a' := ?_) #[true, true, true, true, true, true, true, true, true, false] rfl rfl (any_of HT_.out (by kernel_rfl)) (fun _ _ _ h => h) (Or.inl ⟨by rfl, ?_⟩) ?_ ?_
      rotate_left
      ·intro w'
       go_simp
       with_reducible rfl
      rotate_left
      ·simp only [Act.put, List.setIfInBounds_toArray, List.set_cons_zero, List.set_cons_succ, i64_w, i32_w]
       rfl
      refine one_ (i := 9) (N := none) #[true, true, true, true, true, true, true, true, true, true] rfl rfl (one_of HT_.out (by kernel_rfl)) (by decide) (fun K hK => ?_); have hs34 : w33.cell? ⟨gb102, 0, none⟩ = some (.int .i64 x103000_1) := (blk_cell BK102.out 0).trans rfl; have hfs34 := blk_frozen BK102.out 0; have hns34_0 := NB101_102.out; have hns34_2 := NB111_102.out; have hms34_0 := NB102_101.out; have hms34_2 := NB102_111.out; have hs35 : w33.cell? ⟨gb102, 1, none⟩ = some (.int .i64 x103001_1) := (blk_cell BK102.out 1).trans rfl; have hfs35 := blk_frozen BK102.out 1; have hns35_0 := NB101_102.out; have hns35_2 := NB111_102.out; have hms35_0 := NB102_101.out; have hms35_2 := NB102_111.out; refine skip_ (w1 := ?_) (by rfl) rfl ?_ ?_
      rotate_left
      ·go_simp
       rfl
      refine hK.out _ _ ⟨((cell_far (p := ⟨gb102, _, none⟩) NB101_102.out _).trans (((cell_far (p := ⟨gb102, _, none⟩) NB101_102.out _).trans (hHeld.1)))), ((cell_far (p := ⟨gb102, _, none⟩) NB101_102.out _).trans (((cell_far (p := ⟨gb102, _, none⟩) NB101_102.out _).trans (hHeld.2.1)))), ((cell_far (p := ⟨gb102, _, none⟩) (by first | exact Nat.ne_of_lt (Nat.lt_of_lt_of_le (by have := World.block_lt_of_cell? _ _ hw115_0; first | rwa [add_block] at this | exact this) GW102.out) | (rw [add_block]; exact Nat.ne_of_lt (Nat.lt_of_lt_of_le (by have := World.block_lt_of_cell? _ _ hw115_0; first | rwa [add_block] at this | exact this) GW102.out)) | (show (Addr.add _ _).block ≠ _; rw [add_block]; exact Nat.ne_of_lt (Nat.lt_of_lt_of_le (by have := World.block_lt_of_cell? _ _ hw115_0; first | rwa [add_block] at this | exact this) GW102.out)) | (dsimp only; exact Nat.ne_of_lt (Nat.lt_of_lt_of_le (by have := World.block_lt_of_cell? _ _ hw115_0; first | rwa [add_block] at this | exact this) GW102.out))) _).trans (((cell_far (p := ⟨gb102, _, none⟩) (by first | exact Nat.ne_of_lt (Nat.lt_of_lt_of_le (by have := World.block_lt_of_cell? _ _ hw115_0; first | rwa [add_block] at this | exact this) GW102.out) | (rw [add_block]; exact Nat.ne_of_lt (Nat.lt_of_lt_of_le (by have := World.block_lt_of_cell? _ _ hw115_0; first | rwa [add_block] at this | exact this) GW102.out)) | (show (Addr.add _ _).block ≠ _; rw [add_block]; exact Nat.ne_of_lt (Nat.lt_of_lt_of_le (by have := World.block_lt_of_cell? _ _ hw115_0; first | rwa [add_block] at this | exact this) GW102.out)) | (dsimp only; exact Nat.ne_of_lt (Nat.lt_of_lt_of_le (by have := World.block_lt_of_cell? _ _ hw115_0; first | rwa [add_block] at this | exact this) GW102.out))) _).trans (hHeld.2.2.1)))), ((cell_far (p := ⟨gb102, _, none⟩) (by first | exact Nat.ne_of_lt (Nat.lt_of_lt_of_le (by have := World.block_lt_of_cell? _ _ hw115_1; first | rwa [add_block] at this | exact this) GW102.out) | (rw [add_block]; exact Nat.ne_of_lt (Nat.lt_of_lt_of_le (by have := World.block_lt_of_cell? _ _ hw115_1; first | rwa [add_block] at this | exact this) GW102.out)) | (show (Addr.add _ _).block ≠ _; rw [add_block]; exact Nat.ne_of_lt (Nat.lt_of_lt_of_le (by have := World.block_lt_of_cell? _ _ hw115_1; first | rwa [add_block] at this | exact this) GW102.out)) | (dsimp only; exact Nat.ne_of_lt (Nat.lt_of_lt_of_le (by have := World.block_lt_of_cell? _ _ hw115_1; first | rwa [add_block] at this | exact this) GW102.out))) _).trans (((cell_far (p := ⟨gb102, _, none⟩) (by first | exact Nat.ne_of_lt (Nat.lt_of_lt_of_le (by have := World.block_lt_of_cell? _ _ hw115_1; first | rwa [add_block] at this | exact this) GW102.out) | (rw [add_block]; exact Nat.ne_of_lt (Nat.lt_of_lt_of_le (by have := World.block_lt_of_cell? _ _ hw115_1; first | rwa [add_block] at this | exact this) GW102.out)) | (show (Addr.add _ _).block ≠ _; rw [add_block]; exact Nat.ne_of_lt (Nat.lt_of_lt_of_le (by have := World.block_lt_of_cell? _ _ hw115_1; first | rwa [add_block] at this | exact this) GW102.out)) | (dsimp only; exact Nat.ne_of_lt (Nat.lt_of_lt_of_le (by have := World.block_lt_of_cell? _ _ hw115_1; first | rwa [add_block] at this | exact this) GW102.out))) _).trans (hHeld.2.2.2))))⟩ (fun hHeld => ?_)
      clear hK K; refine done_ (done_of HT_.out (by kernel_rfl)) ?_
      try go_wp2
      refine bodyPost_ret (results_tc rfl _ _ gb102 41 #[.int .i64 ((rd_T104 l1_1 x9_1).f0), .int .i64 t110] (0, 0) _ rfl (by refine qk ?_; refine blk_put (cs := #[.int .i64 ((rd_T104 l1_1 x9_1).f0), .int .i64 x103001_1]) ?_ 1 _ rfl; refine qk ?_; refine blk_put (cs := #[.int .i64 x103000_1, .int .i64 x103001_1]) ?_ 0 _ rfl; refine qk ?_; exact BK102.out) Tryz.underlying41 rfl (by kernel_rfl)) rfl ?_
      exact ⟨_, by first | rfl | (simp [errW_none, errW_some] <;> rfl) | (simp only [← hji4]; first | rfl | (simp [errW_none, errW_some] <;> rfl)) | (simp [*, errW_none, errW_some] <;> rfl), by first | exact Kd.R_nil _ _ _ _ _ | exact Kd.N_nil _ _ _ _ _ | exact Kd.V_nil _ _ _ _ _ | exact Kd.Q_nil _ _ _ _ _ | exact Kd.S_nil _ _ _ _ _, qb⟩
    ·rw [if_neg c10] at H
     exact absurd H (by simp)
   ·rw [if_neg c9] at H; have c9b0 := decide_eq_false c9; clear c9; simp only [Option.some.injEq, Prod.mk.injEq] at H; obtain ⟨rfl, rfl, rfl⟩ := H; have hnb36 := NB101_102.out; have hnc36 := NB102_101.out; obtain ⟨hcz37_0, hcz37_1, hfz37_0, hfz37_1⟩ := bc2 BK101.out; obtain ⟨hcz38_0, hcz38_1, hfz38_0, hfz38_1⟩ := bc2 BK102.out
    go_wp2
    refine bodyPost_ret (results_tc rfl _ _ gb102 41 #[.int .i64 0, .int .i64 0] (0, 0) _ rfl (by refine qk ?_; refine blk_put (cs := #[.int .i64 0, .int .i64 x103001_1]) ?_ 1 _ rfl; refine qk ?_; refine blk_put (cs := #[.int .i64 x103000_1, .int .i64 x103001_1]) ?_ 0 _ rfl; refine qk ?_; exact BK102.out) Tryz.underlying41 rfl (by kernel_rfl)) rfl ?_
    exact ⟨_, by first | rfl | (simp [errW_none, errW_some] <;> rfl) | (simp only [← hji4]; first | rfl | (simp [errW_none, errW_some] <;> rfl)) | (simp [*, errW_none, errW_some] <;> rfl), by refine qR ?_; exact Kd.R_mono (Kd.R_far (p := ⟨gb102, 1, none⟩) (Kd.R_far (p := ⟨gb102, 0, none⟩) (Kd.R_types HO_8.out BK102.out (by decide)) (fun _ hk => hk.2) (.int .i64 0)) (fun _ hk => hk.2) (.int .i64 0)) (fun _ hk => trivial), qb⟩

end Go.Proofs.YtadocbfchdendaaGreatDoor.P
namespace Go.Proofs.YtadocbfchdendaaGreatDoor.P
open Go.RowKit Go.Proofs.YtadocbfchdendaaGreatDoorW.PrintWords Go.Proofs.YtadocbfchdendaaGreatDoorW.PrintLast Go.Proofs.YtadocbfchdendaaGreatDoorW.PrintMore
attribute [local go_sem] max2_int min2_int max_two min_two max_three min_three max_four min_four   -- for this text's walks alone
set_option linter.unusedVariables false
set_option linter.unusedSimpArgs false
theorem eqA50 (d : Nat) (w : World) (x0 y0 : Int) (x1 y1 : Int) :
    (Op.equalIn (d + 2) 50 (.agg #[.int .i64 x0, .int .i64 x1]) (.agg #[.int .i64 y0, .int .i64 y1])).run Tryz.prog w = .ok (x0 == y0 && (x1 == y1)) w := by
  refine eqA_of Tryz.underlying50 (by kernel_rfl) ?_
  refine eqf_cons (by rfl) (by go_simp; rfl) (by go_simp; rfl) (by go_simp) ?_
  exact eqf_last (by rfl) (by go_simp; rfl) (by go_simp; rfl) (by go_simp)
end Go.Proofs.YtadocbfchdendaaGreatDoor.P
namespace Go.Proofs.YtadocbfchdendaaGreatDoor.P
open Go.RowKit Go.Proofs.YtadocbfchdendaaGreatDoorW.PrintWords Go.Proofs.YtadocbfchdendaaGreatDoorW.PrintLast Go.Proofs.YtadocbfchdendaaGreatDoorW.PrintMore
attribute [local go_sem] max2_int min2_int max_two min_two max_three min_three max_four min_four   -- for this text's walks alone
set_option linter.unusedVariables false
set_option linter.unusedSimpArgs false
theorem eqA51 (d : Nat) (w : World) (x0 y0 : Int) (x1 y1 : Int) :
    (Op.equalIn (d + 2) 51 (.agg #[.int .i64 x0, .int .i64 x1]) (.agg #[.int .i64 y0, .int .i64 y1])).run Tryz.prog w = .ok (x0 == y0 && (x1 == y1)) w := by
  refine eqA_of Tryz.underlying51 (by kernel_rfl) ?_
  refine eqf_cons (by rfl) (by go_simp; rfl) (by go_simp; rfl) (by go_simp) ?_
  exact eqf_last (by rfl) (by go_simp; rfl) (by go_simp; rfl) (by go_simp)
end Go.Proofs.YtadocbfchdendaaGreatDoor.P
namespace Go.Proofs.YtadocbfchdendaaGreatDoor.P
open Go.RowKit Go.Proofs.YtadocbfchdendaaGreatDoorW.PrintWords Go.Proofs.YtadocbfchdendaaGreatDoorW.PrintLast Go.Proofs.YtadocbfchdendaaGreatDoorW.PrintMore
attribute [local go_sem] max2_int min2_int max_two min_two max_three min_three max_four min_four   -- for this text's walks alone
set_option linter.unusedVariables false
set_option linter.unusedSimpArgs false
attribute [local go_sem high] eqA50 eqA51
def entrepotlaw13_nums.l0 : Nat → List (S50) → List (S51) → Int → Option (Bool)
 | 0, _, _, _ => none
 | k + 1, x0, x1, x5 => if x5 < (x0.length : Int) then (if 0 ≤ x5 then (if x5 < (x1.length : Int) then (if (!(((rd_T50 x0 x5).f0) == ((rd_T51 x1 x5).f0)) || (!(((rd_T50 x0 x5).f1) == ((rd_T51 x1 x5).f1)))) = true then (some false) else (entrepotlaw13_nums.l0 k x0 x1 (wrap64 (x5 + 1)))) else (none)) else (none)) else (some true)
def entrepotlaw13_nums.f (k : Nat) (l0 : List (S50)) (l1 : List (S51)) : Option (Bool) := if (l0.length : Int) = (l1.length : Int) then (entrepotlaw13_nums.l0 k l0 l1 0) else (some false)
theorem entrepotlaw13_nums.mono_l : ∀ k, (∀ y0 y1 y2, LeO (entrepotlaw13_nums.l0 k y0 y1 y2) (entrepotlaw13_nums.l0 (k + 1) y0 y1 y2))
 | 0 => fun _ _ _ r h => by simp [entrepotlaw13_nums.l0] at h
 | k + 1 => by
  have ih0 := entrepotlaw13_nums.mono_l k
  ·intro y0 y1 y2
   unfold entrepotlaw13_nums.l0
   repeat' first
   | (with_reducible exact ih0 _ _ _)
   | (with_reducible exact LeO.refl _)
   | (with_reducible exact LeO.none _)
   | (with_reducible refine LeO.ite ?_ ?_)
   | (with_reducible refine LeO.bind ?_ (fun _ => ?_))
   | exact ih0 _ _ _
   | exact LeO.none _
   | refine LeO.ite ?_ ?_
   | refine LeO.bind ?_ (fun _ => ?_)
theorem entrepotlaw13_nums.mono : ∀ a0 a1 k, LeO (entrepotlaw13_nums.f k a0 a1) (entrepotlaw13_nums.f (k + 1) a0 a1) := by
 intro a0 a1 k
 have ih0 := entrepotlaw13_nums.mono_l k; unfold entrepotlaw13_nums.f
 repeat' first
   | (with_reducible exact ih0 _ _ _)
   | (with_reducible exact LeO.refl _)
   | (with_reducible exact LeO.none _)
   | (with_reducible refine LeO.ite ?_ ?_)
   | (with_reducible refine LeO.bind ?_ (fun _ => ?_))
   | exact ih0 _ _ _
   | exact LeO.none _
   | refine LeO.ite ?_ ?_
   | refine LeO.bind ?_ (fun _ => ?_)
set_option maxHeartbeats 8000000 in
set_option maxRecDepth 100000 in
theorem entrepotlaw13_nums.calls (k : Nat) (A0 : Option Addr) (c0 : Nat) (l0 : List (S50)) (A1 : Option Addr) (c1 : Nat) (l1 : List (S51)) (r : Bool) (w : World) (hr0 : Kd.C k50 w A0 l0.length l0) (hc0 : l0.length ≤ c0) (hr1 : Kd.C k51 w A1 l1.length l1) (hc1 : l1.length ≤ c1) (h : entrepotlaw13_nums.f k l0 l1 = some r) :
  Calls Tryz.prog 32 #[.slice A0 l0.length c0, .slice A1 l1.length c1] w fun e w' => e = .returned (.bool r) ∧ Drawn0 w w' := by
 have hu50 := Tryz.underlying50; have hu51 := Tryz.underlying51; have HR0 := Aside0.mk hr0; have HC0 := Aside0.mk hc0; clear hr0 hc0; have HR1 := Aside0.mk hr1; have HC1 := Aside0.mk hc1; clear hr1 hc1; have H : (if (l0.length : Int) = (l1.length : Int) then (entrepotlaw13_nums.l0 k l0 l1 0) else (some false)) = some r := h; clear h
 by_cases c3 : (l0.length : Int) = (l1.length : Int)
 ·rw [if_pos c3] at H; have c3b0 := beq_iff_eq.mpr c3; have c3b1 := bne_eq_false_iff_eq.mpr c3; have c3b2 : (l0.length == l1.length) = true := by first | simpa using c3 | (simp at c3 ⊢; omega)
  clear c3; have H' := Aside0.mk H; clear H; go_enter Tryz.func32, Tryz.ntmps32
  go_wp2
  repeat (go_quiet (fail); try go_wp2)
  (try simp only [Act.put, List.setIfInBounds_toArray, List.set_cons_zero, List.set_cons_succ])
  go_loopg [5] k (fun kq v5 w' => ∃ (x5_1 : Int), v5 = .int .i64 x5_1 ∧ Aside0 (entrepotlaw13_nums.l0 kq l0 l1 x5_1 = some r) ∧ Aside0 (kq ≤ k) ∧ Drawn0 w w')
  case atStart => exact ⟨(0), qr, H', ⟨Nat.le_refl _⟩, qd⟩
  case round =>
   clear H'; (try clear c1); (try clear p2); (try clear c3); (try clear c3b0); (try clear c3b1); (try clear c3b2); obtain ⟨x5_1, rfl, HA, HK1, ⟨m1, rfl⟩⟩ := hrel; cases gk with
   | zero => exact absurd HA.out (by simp [entrepotlaw13_nums.l0])
   | succ k1 =>
    have H := HA.out; clear HA; simp only [entrepotlaw13_nums.l0] at H
    by_cases c4 : x5_1 < (l0.length : Int)
    ·rw [if_pos c4] at H; have c4b0 := decide_eq_true c4; clear c4
     by_cases c5 : 0 ≤ x5_1
     ·rw [if_pos c5] at H; have c5b0 := decide_eq_true c5; clear c5
      by_cases c6 : x5_1 < (l1.length : Int)
      ·rw [if_pos c6] at H; have c6b0 := decide_eq_true c6; clear c6
       by_cases c7 : (!(((rd_T50 l0 x5_1).f0) == ((rd_T51 l1 x5_1).f0)) || (!(((rd_T50 l0 x5_1).f1) == ((rd_T51 l1 x5_1).f1)))) = true
       ·rw [if_pos c7] at H; have c7b0 : (!(((rd_T50 l0 x5_1).f0) == ((rd_T51 l1 x5_1).f0)) || (!(((rd_T50 l0 x5_1).f1) == ((rd_T51 l1 x5_1).f1)))) = true := c7; clear c7; obtain rfl := Option.some.inj H; have p101 : 0 ≤ (x5_1 : Int) := of_decide_eq_true qa; have q101 : x5_1 < (l0.length : Int) := of_decide_eq_true qa; obtain ⟨ad101, e101, hx101_0, hx101_1⟩ := at_T50 HR0.out x5_1 p101 q101; cases e101; (try simp only [Go.IntWalk.toNatUp] at hx101_0); (try simp only [Go.IntWalk.toNatUp] at hx101_1); replace p101 := eq_true p101; replace q101 := eq_true q101; have p102 : 0 ≤ (x5_1 : Int) := of_decide_eq_true qa; have q102 : x5_1 < (l1.length : Int) := of_decide_eq_true qa; obtain ⟨ad102, e102, hx102_0, hx102_1⟩ := at_T51 HR1.out x5_1 p102 q102; cases e102; (try simp only [Go.IntWalk.toNatUp] at hx102_0); (try simp only [Go.IntWalk.toNatUp] at hx102_1); replace p102 := eq_true p102; replace q102 := eq_true q102
        go_wp2
        repeat (go_quiet (fail); try go_wp2)
        go_ret
        exact ⟨qr, qd⟩
       ·rw [if_neg c7] at H; have c7b0 : (!(((rd_T50 l0 x5_1).f0) == ((rd_T51 l1 x5_1).f0)) || (!(((rd_T50 l0 x5_1).f1) == ((rd_T51 l1 x5_1).f1)))) = false := by simpa using c7
        clear c7; have H' := Aside0.mk H; clear H; have p101 : 0 ≤ (x5_1 : Int) := of_decide_eq_true qa; have q101 : x5_1 < (l0.length : Int) := of_decide_eq_true qa; obtain ⟨ad101, e101, hx101_0, hx101_1⟩ := at_T50 HR0.out x5_1 p101 q101; cases e101; (try simp only [Go.IntWalk.toNatUp] at hx101_0); (try simp only [Go.IntWalk.toNatUp] at hx101_1); replace p101 := eq_true p101; replace q101 := eq_true q101; have p102 : 0 ≤ (x5_1 : Int) := of_decide_eq_true qa; have q102 : x5_1 < (l1.length : Int) := of_decide_eq_true qa; obtain ⟨ad102, e102, hx102_0, hx102_1⟩ := at_T51 HR1.out x5_1 p102 q102; cases e102; (try simp only [Go.IntWalk.toNatUp] at hx102_0); (try simp only [Go.IntWalk.toNatUp] at hx102_1); replace p102 := eq_true p102; replace q102 := eq_true q102
        go_wp2
        repeat (go_quiet (fail); try go_wp2)
        go_roundg k1
        case measure => have := HK1.out; omega
        case rel => exact ⟨(wrap64 (x5_1 + 1)), qr, H', ⟨by have := HK1.out; omega⟩, qd⟩
      ·rw [if_neg c6] at H
       exact absurd H (by simp)
     ·rw [if_neg c5] at H
      exact absurd H (by simp)
    ·rw [if_neg c4] at H; have c4b0 := decide_eq_false c4; clear c4; obtain rfl := Option.some.inj H
     go_wp2
     repeat (go_quiet (fail); try go_wp2)
     go_ret
     exact ⟨qr, qd⟩
 ·rw [if_neg c3] at H; have c3b0 := beq_eq_false_iff_ne.mpr c3; have c3b1 := bne_iff_ne.mpr c3; have c3b2 : (l0.length == l1.length) = false := by first | simpa using c3 | (simp at c3 ⊢; omega)
  obtain rfl := Option.some.inj H; go_enter Tryz.func32, Tryz.ntmps32
  go_wp2
  repeat (go_quiet (fail); try go_wp2)
  go_ret
  exact ⟨qr, qd⟩

end Go.Proofs.YtadocbfchdendaaGreatDoor.P
namespace Go.Proofs.YtadocbfchdendaaGreatDoor.P
open Go.RowKit Go.Proofs.YtadocbfchdendaaGreatDoorW.PrintWords Go.Proofs.YtadocbfchdendaaGreatDoorW.PrintLast Go.Proofs.YtadocbfchdendaaGreatDoorW.PrintMore
attribute [local go_sem] max2_int min2_int max_two min_two max_three min_three max_four min_four   -- for this text's walks alone
set_option linter.unusedVariables false
set_option linter.unusedSimpArgs false
attribute [local go_sem high] eqA41
mutual
def entrepotlaw13_SheetNumbers.j0 : Nat → ByteArray → Int → Int → Bool → Option (Bool)
 | 0, _, _, _, _ => none
 | k + 1, x0, x1, x2, x24 => if x24 = true then ((entrepotlaw13_shown.f k).bind fun t102 => (some t102)) else ((sheet_Rows.f k x0 0).bind fun t103 => ((entrepotref13_Rows.f k x0 0).bind fun t106 => ((entrepotlaw13_its.f k t103).bind fun t109 => ((entrepotref13_Same.f k t109 t106).bind fun t112 => (if t112 = true then (entrepotlaw13_SheetNumbers.l0 k x0 x1 x2 t103 t106 0) else (none))))))
def entrepotlaw13_SheetNumbers.l0 : Nat → ByteArray → Int → Int → List (S32) → List (S36) → Int → Option (Bool)
 | 0, _, _, _, _, _, _ => none
 | k + 1, x0, x1, x2, x7, x8, x9 => if x9 < (x7.length : Int) then (if 0 ≤ x9 then ((sheet_Ints.f k x0 ((rd_T32 x7 x9).f0) ((rd_T32 x7 x9).f1) x1).bind fun bt114 => (if x9 < (x8.length : Int) then ((entrepotref13_Ints.f k x0 ((rd_T36 x8 x9).f0) ((rd_T36 x8 x9).f1) x1).bind fun bt121 => ((sheet_Nums.f k x0 ((rd_T32 x7 x9).f0) ((rd_T32 x7 x9).f1) x2).bind fun bt128 => ((entrepotref13_Nums.f k x0 ((rd_T36 x8 x9).f0) ((rd_T36 x8 x9).f1) x2).bind fun bt135 => ((entrepotref07_Ints.f k bt114.1 bt121.1).bind fun t141 => (if t141 = true then (if (!(bt114.2.1 == bt121.2.1) || (!(bt114.2.2 == bt121.2.2))) = true then (none) else ((entrepotlaw13_nums.f k bt128.1 bt135.1).bind fun t142 => (if t142 = true then (if (!(bt128.2.1 == bt135.2.1) || (!(bt128.2.2 == bt135.2.2))) = true then (none) else (entrepotlaw13_SheetNumbers.l0 k x0 x1 x2 x7 x8 (wrap64 (x9 + 1)))) else (none)))) else (none)))))) else (none))) else (none)) else (some true)
end
def entrepotlaw13_SheetNumbers.f (k : Nat) (a0 : ByteArray) (a1 : Int) (a2 : Int) : Option (Bool) := if (a0.size : Int) > 500 then (entrepotlaw13_SheetNumbers.j0 k a0 a1 a2 true) else ((entrepotlaw13_shown.f k).bind fun t101 => (entrepotlaw13_SheetNumbers.j0 k a0 a1 a2 (!t101)))
theorem entrepotlaw13_SheetNumbers.mono_l : ∀ k, (∀ y0 y1 y2 y3, LeO (entrepotlaw13_SheetNumbers.j0 k y0 y1 y2 y3) (entrepotlaw13_SheetNumbers.j0 (k + 1) y0 y1 y2 y3)) ∧ (∀ y0 y1 y2 y3 y4 y5, LeO (entrepotlaw13_SheetNumbers.l0 k y0 y1 y2 y3 y4 y5) (entrepotlaw13_SheetNumbers.l0 (k + 1) y0 y1 y2 y3 y4 y5))
 | 0 => ⟨fun _ _ _ _ r h => by simp [entrepotlaw13_SheetNumbers.j0] at h, fun _ _ _ _ _ _ r h => by simp [entrepotlaw13_SheetNumbers.l0] at h⟩
 | k + 1 => by
  obtain ⟨ih0, ih1⟩ := entrepotlaw13_SheetNumbers.mono_l k; refine ⟨?_, ?_⟩
  ·intro y0 y1 y2 y3
   unfold entrepotlaw13_SheetNumbers.j0
   repeat' first
   | (with_reducible exact ih0 _ _ _ _)
   | (with_reducible exact ih1 _ _ _ _ _ _)
   | (with_reducible exact entrepotlaw13_its.mono _ _)
   | (with_reducible exact entrepotlaw13_nums.mono _ _ _)
   | (with_reducible exact entrepotlaw13_shown.mono _)
   | (with_reducible exact entrepotref07_Ints.mono _ _ _)
   | (with_reducible exact entrepotref13_Ints.mono _ _ _ _ _)
   | (with_reducible exact entrepotref13_Nums.mono _ _ _ _ _)
   | (with_reducible exact entrepotref13_Rows.mono _ _ _)
   | (with_reducible exact entrepotref13_Same.mono _ _ _)
   | (with_reducible exact sheet_Ints.mono _ _ _ _ _)
   | (with_reducible exact sheet_Nums.mono _ _ _ _ _)
   | (with_reducible exact sheet_Rows.mono _ _ _)
   | (with_reducible exact LeO.refl _)
   | (with_reducible exact LeO.none _)
   | (with_reducible refine LeO.ite ?_ ?_)
   | (with_reducible refine LeO.bind ?_ (fun _ => ?_))
   | exact ih0 _ _ _ _
   | exact ih1 _ _ _ _ _ _
   | exact entrepotlaw13_its.mono _ _
   | exact entrepotlaw13_nums.mono _ _ _
   | exact entrepotlaw13_shown.mono _
   | exact entrepotref07_Ints.mono _ _ _
   | exact entrepotref13_Ints.mono _ _ _ _ _
   | exact entrepotref13_Nums.mono _ _ _ _ _
   | exact entrepotref13_Rows.mono _ _ _
   | exact entrepotref13_Same.mono _ _ _
   | exact sheet_Ints.mono _ _ _ _ _
   | exact sheet_Nums.mono _ _ _ _ _
   | exact sheet_Rows.mono _ _ _
   | exact LeO.none _
   | refine LeO.ite ?_ ?_
   | refine LeO.bind ?_ (fun _ => ?_)
  ·intro y0 y1 y2 y3 y4 y5
   unfold entrepotlaw13_SheetNumbers.l0
   repeat' first
   | (with_reducible exact ih0 _ _ _ _)
   | (with_reducible exact ih1 _ _ _ _ _ _)
   | (with_reducible exact entrepotlaw13_its.mono _ _)
   | (with_reducible exact entrepotlaw13_nums.mono _ _ _)
   | (with_reducible exact entrepotlaw13_shown.mono _)
   | (with_reducible exact entrepotref07_Ints.mono _ _ _)
   | (with_reducible exact entrepotref13_Ints.mono _ _ _ _ _)
   | (with_reducible exact entrepotref13_Nums.mono _ _ _ _ _)
   | (with_reducible exact entrepotref13_Rows.mono _ _ _)
   | (with_reducible exact entrepotref13_Same.mono _ _ _)
   | (with_reducible exact sheet_Ints.mono _ _ _ _ _)
   | (with_reducible exact sheet_Nums.mono _ _ _ _ _)
   | (with_reducible exact sheet_Rows.mono _ _ _)
   | (with_reducible exact LeO.refl _)
   | (with_reducible exact LeO.none _)
   | (with_reducible refine LeO.ite ?_ ?_)
   | (with_reducible refine LeO.bind ?_ (fun _ => ?_))
   | exact ih0 _ _ _ _
   | exact ih1 _ _ _ _ _ _
   | exact entrepotlaw13_its.mono _ _
   | exact entrepotlaw13_nums.mono _ _ _
   | exact entrepotlaw13_shown.mono _
   | exact entrepotref07_Ints.mono _ _ _
   | exact entrepotref13_Ints.mono _ _ _ _ _
   | exact entrepotref13_Nums.mono _ _ _ _ _
   | exact entrepotref13_Rows.mono _ _ _
   | exact entrepotref13_Same.mono _ _ _
   | exact sheet_Ints.mono _ _ _ _ _
   | exact sheet_Nums.mono _ _ _ _ _
   | exact sheet_Rows.mono _ _ _
   | exact LeO.none _
   | refine LeO.ite ?_ ?_
   | refine LeO.bind ?_ (fun _ => ?_)
theorem entrepotlaw13_SheetNumbers.mono : ∀ a0 a1 a2 k, LeO (entrepotlaw13_SheetNumbers.f k a0 a1 a2) (entrepotlaw13_SheetNumbers.f (k + 1) a0 a1 a2) := by
 intro a0 a1 a2 k
 obtain ⟨ih0, ih1⟩ := entrepotlaw13_SheetNumbers.mono_l k; unfold entrepotlaw13_SheetNumbers.f
 repeat' first
   | (with_reducible exact ih0 _ _ _ _)
   | (with_reducible exact ih1 _ _ _ _ _ _)
   | (with_reducible exact entrepotlaw13_its.mono _ _)
   | (with_reducible exact entrepotlaw13_nums.mono _ _ _)
   | (with_reducible exact entrepotlaw13_shown.mono _)
   | (with_reducible exact entrepotref07_Ints.mono _ _ _)
   | (with_reducible exact entrepotref13_Ints.mono _ _ _ _ _)
   | (with_reducible exact entrepotref13_Nums.mono _ _ _ _ _)
   | (with_reducible exact entrepotref13_Rows.mono _ _ _)
   | (with_reducible exact entrepotref13_Same.mono _ _ _)
   | (with_reducible exact sheet_Ints.mono _ _ _ _ _)
   | (with_reducible exact sheet_Nums.mono _ _ _ _ _)
   | (with_reducible exact sheet_Rows.mono _ _ _)
   | (with_reducible exact LeO.refl _)
   | (with_reducible exact LeO.none _)
   | (with_reducible refine LeO.ite ?_ ?_)
   | (with_reducible refine LeO.bind ?_ (fun _ => ?_))
   | exact ih0 _ _ _ _
   | exact ih1 _ _ _ _ _ _
   | exact entrepotlaw13_its.mono _ _
   | exact entrepotlaw13_nums.mono _ _ _
   | exact entrepotlaw13_shown.mono _
   | exact entrepotref07_Ints.mono _ _ _
   | exact entrepotref13_Ints.mono _ _ _ _ _
   | exact entrepotref13_Nums.mono _ _ _ _ _
   | exact entrepotref13_Rows.mono _ _ _
   | exact entrepotref13_Same.mono _ _ _
   | exact sheet_Ints.mono _ _ _ _ _
   | exact sheet_Nums.mono _ _ _ _ _
   | exact sheet_Rows.mono _ _ _
   | exact LeO.none _
   | refine LeO.ite ?_ ?_
   | refine LeO.bind ?_ (fun _ => ?_)
set_option maxHeartbeats 8000000 in
set_option maxRecDepth 100000 in
theorem entrepotlaw13_SheetNumbers.calls (k : Nat) (a0 : ByteArray) (a1 : Int) (a2 : Int) (r : Bool) (w : World) (h : entrepotlaw13_SheetNumbers.f k a0 a1 a2 = some r) :
  Calls Tryz.prog 7 #[.string a0, .int .i64 a1, .int .i64 a2] w fun e w' => e = .returned (.bool r) ∧ Below w.heap.size w w' := by
 have hu32 := Tryz.underlying32; have hu41 := Tryz.underlying41; have hu36 := Tryz.underlying36; have HB := Aside0.mk (Below.refl w.heap.size w); have H : (if (a0.size : Int) > 500 then (entrepotlaw13_SheetNumbers.j0 k a0 a1 a2 true) else ((entrepotlaw13_shown.f k).bind fun t101 => (entrepotlaw13_SheetNumbers.j0 k a0 a1 a2 (!t101)))) = some r := h; clear h; have HC4 := Aside0.mk H; clear H; go_enter Tryz.func7, Tryz.ntmps7
 go_upto_region 1 with (fail)
 go_cut [24] (fun v24 wc => ∃ (kq : Nat) (x24_3 : Bool), v24 = .bool x24_3 ∧ Aside0 (entrepotlaw13_SheetNumbers.j0 kq a0 a1 a2 x24_3 = some r) ∧ Aside0 (kq ≤ k) ∧ Aside0 (Below w.heap.size w wc))
 case first =>
  have H := HC4.out; clear HC4
  by_cases c5 : (a0.size : Int) > 500
  ·rw [if_pos c5] at H; have c5b0 := decide_eq_true c5; have c5b1 : decide (500 < a0.size) = true := decide_eq_true (by omega); clear c5; (first | rw [c5b0] | (simp only [i64_w, i32_w]; rw [c5b0]) | skip); have H' := Aside0.mk H; clear H
   go_wp2
   go_meet
   case rel => exact ⟨_, (true), qr, H', ⟨by first | omega | exact Nat.le_refl _⟩, ⟨qb⟩⟩
  ·rw [if_neg c5] at H; have c5b0 := decide_eq_false c5; have c5b1 : decide (500 < a0.size) = false := decide_eq_false (by omega); clear c5; (first | rw [c5b0] | (simp only [i64_w, i32_w]; rw [c5b0]) | skip); replace H := Option.bind_eq_some_iff.mp H; obtain ⟨t101, A60, H⟩ := H; (try dsimp only at H); have A6 := Aside0.mk A60; clear A60; have H' := Aside0.mk H; clear H
   go_wp2_with (first | (go_at_call 14; (with_reducible refine (entrepotlaw13_shown.calls k  t101 _ A6.out).mono ?_); rintro e w7 ⟨rfl, hb⟩; replace HB := cB HB hb; (try clear hb); (try clear hb2); (try clear hk); (try clear hi)))
   go_meet
   case rel => exact ⟨_, (!t101), qr, H', ⟨by first | omega | exact Nat.le_refl _⟩, ⟨qb⟩⟩
 case rest =>
  clear HC4; (try clear p2); (try clear c5); (try clear c5b0); (try clear c5b1); (try clear c7); obtain ⟨kq, x24_3, rfl, HA, HJ3, HB⟩ := hcut; cases kq with
  | zero => exact absurd HA.out (by simp [entrepotlaw13_SheetNumbers.j0])
  | succ kj3 =>
   have H := HA.out; clear HA; simp only [entrepotlaw13_SheetNumbers.j0] at H
   by_cases c8 : x24_3 = true
   ·subst c8; have H1 : ((entrepotlaw13_shown.f kj3).bind fun t102 => (some t102)) = some r := by rw [if_pos rfl] at H; exact H
    clear H; have H := H1; clear H1; replace H := Option.bind_eq_some_iff.mp H; obtain ⟨t102, A90, H⟩ := H; (try dsimp only at H); have A9 := Aside0.mk A90; clear A90; obtain rfl := Option.some.inj H
    go_wp2_with (first | ((with_reducible refine gate_callee (f := 14) rfl ?_); refine goesL_ (some 25) rfl rfl Tryz.func14 (by kernel_rfl) rfl #[] rfl qm ?_; (with_reducible refine (entrepotlaw13_shown.calls kj3  t102 _ A9.out).mono ?_); rintro e w10 ⟨rfl, hb⟩; refine ⟨_, rfl, ?_⟩; replace HB := cB HB hb; (try clear hb); (try clear hb2); (try clear hk); (try clear hi)))
    go_ret
    exact ⟨qe, qb⟩
   ·replace c8 := Bool.eq_false_iff.mpr c8; subst c8; have H1 : ((sheet_Rows.f kj3 a0 0).bind fun t103 => ((entrepotref13_Rows.f kj3 a0 0).bind fun t106 => ((entrepotlaw13_its.f kj3 t103).bind fun t109 => ((entrepotref13_Same.f kj3 t109 t106).bind fun t112 => (if t112 = true then (entrepotlaw13_SheetNumbers.l0 kj3 a0 a1 a2 t103 t106 0) else (none)))))) = some r := by rw [if_neg (show ¬ (false = true) by decide)] at H; exact H
    clear H; have H := H1; clear H1; replace H := Option.bind_eq_some_iff.mp H; obtain ⟨t103, A110, H⟩ := H; (try dsimp only at H); have A11 := Aside0.mk A110; clear A110; replace H := Option.bind_eq_some_iff.mp H; obtain ⟨t106, A120, H⟩ := H; (try dsimp only at H); have A12 := Aside0.mk A120; clear A120; replace H := Option.bind_eq_some_iff.mp H; obtain ⟨t109, A130, H⟩ := H; (try dsimp only at H); have A13 := Aside0.mk A130; clear A130; replace H := Option.bind_eq_some_iff.mp H; obtain ⟨t112, A140, H⟩ := H; (try dsimp only at H); have A14 := Aside0.mk A140; clear A140
    by_cases c15 : t112 = true
    ·subst c15; have H1 : (entrepotlaw13_SheetNumbers.l0 kj3 a0 a1 a2 t103 t106 0) = some r := by rw [if_pos rfl] at H; exact H
     clear H; have H := H1; clear H1; have H' := Aside0.mk H; clear H
     go_wp2_with (first | ((with_reducible refine gate_callee (f := 15) rfl ?_); refine goesL_ (some 27) rfl rfl Tryz.func15 (by kernel_rfl) rfl #[.string a0, .int .i64 0] rfl qm ?_; (with_reducible refine (sheet_Rows.calls kj3 a0 0 t103 _ A11.out).mono ?_); rintro e w16 ⟨v104, rfl, ho0, hb⟩; refine ⟨_, rfl, ?_⟩; have HO105 := Aside0.mk (Kd.S_lower ho0 (below_size qb)); replace HB := cB HB hb; (try clear hb); (try clear hb2); (try clear hk); (try clear hi); (try clear ho0)) | ((with_reducible refine gate_callee (f := 16) rfl ?_); refine goesL_ (some 29) rfl rfl Tryz.func16 (by kernel_rfl) rfl #[.string a0, .int .i64 0] rfl qm ?_; (with_reducible refine (entrepotref13_Rows.calls kj3 a0 0 t106 _ A12.out).mono ?_); rintro e w17 ⟨v107, rfl, ho0, hb⟩; refine ⟨_, rfl, ?_⟩; have HO108 := Aside0.mk (Kd.S_lower ho0 (below_size qb)); replace HO105 := cS HO105 hb; replace HB := cB HB hb; (try clear hb); (try clear hb2); (try clear hk); (try clear hi); (try clear ho0); obtain ⟨Ao18, co18, eo18⟩ := Kd.S_slice HO105.out; subst eo18) | ((with_reducible refine gate_callee (f := 18) rfl ?_); refine goesL_ (some 31) rfl rfl Tryz.func18 (by kernel_rfl) rfl #[.slice Ao18 t103.length co18] rfl qm ?_; (with_reducible refine (entrepotlaw13_its.calls kj3 _ _ t103 t109 _ ?side1 ?side2 A13.out).mono ?_); (case side1 => repeat (first | exact (Kd.S_reads' HO105.out).2.2 | (with_reducible refine Kd.C_alloc ?_ _) | (with_reducible refine Kd.C_drewN ?_ _) | (with_reducible refine Kd.C_drew ?_))); (case side2 => exact (Kd.S_reads' HO105.out).2.1); rintro e w19 ⟨v110, rfl, ho0, hb⟩; refine ⟨_, rfl, ?_⟩; have n1_ := Aside0.mk (Kd.S_elder' (qS HO108.out) (Kd.S_base ho0) hb); have HO111 := Aside0.mk (Kd.S_lower (Kd.S_new' ho0 (Kd.S_lt (qS HO108.out))) (below_size qb)); replace HO105 := cS HO105 hb; replace HB := cB HB hb; replace HO108 := n1_; clear n1_; (try clear hb); (try clear hb2); (try clear hk); (try clear hi); (try clear ho0); obtain ⟨Ao20, co20, eo20⟩ := Kd.S_slice HO111.out; subst eo20; obtain ⟨Ao21, co21, eo21⟩ := Kd.S_slice HO108.out; subst eo21) | ((with_reducible refine gate_callee (f := 17) rfl ?_); refine goesL_ (some 33) rfl rfl Tryz.func17 (by kernel_rfl) rfl #[.slice Ao20 t109.length co20, .slice Ao21 t106.length co21] rfl qm ?_; (with_reducible refine (entrepotref13_Same.calls kj3 _ _ t109 _ _ t106 true _ ?side1 ?side2 ?side3 ?side4 A14.out).mono ?_); (case side1 => repeat (first | exact (Kd.S_reads' HO111.out).2.2 | (with_reducible refine Kd.C_alloc ?_ _) | (with_reducible refine Kd.C_drewN ?_ _) | (with_reducible refine Kd.C_drew ?_))); (case side2 => exact (Kd.S_reads' HO111.out).2.1); (case side3 => repeat (first | exact (Kd.S_reads' HO108.out).2.2 | (with_reducible refine Kd.C_alloc ?_ _) | (with_reducible refine Kd.C_drewN ?_ _) | (with_reducible refine Kd.C_drew ?_))); (case side4 => exact (Kd.S_reads' HO108.out).2.1); rintro e w' ⟨rfl, ⟨nd, rfl⟩⟩; refine ⟨_, rfl, ?_⟩))
     (try simp only [Act.put, List.setIfInBounds_toArray, List.set_cons_zero, List.set_cons_succ])
     go_loopg [9] kj3 (fun kq v9 w' => ∃ (x9_2 : Int), v9 = .int .i64 x9_2 ∧ Aside0 (entrepotlaw13_SheetNumbers.l0 kq a0 a1 a2 t103 t106 x9_2 = some r) ∧ Aside0 (kq ≤ kj3) ∧ Aside0 (Kd.S k32 32 w' w.heap.size (fun _ => True) (.slice Ao18 t103.length co18) t103) ∧ Aside0 (Kd.S k36 36 w' w.heap.size (fun _ => True) (.slice Ao21 t106.length co21) t106) ∧ Aside0 (Below w.heap.size w w'))
     case atStart => exact ⟨(0), qr, H', ⟨Nat.le_refl _⟩, ⟨qS HO105.out⟩, ⟨by refine qS ?_; exact Kd.S_mono HO108.out (fun _ hk => trivial)⟩, ⟨qb⟩⟩
     case round =>
      clear H'; (try clear c1); (try clear p2); (try clear c5); (try clear c5b0); (try clear c5b1); (try clear c7); (try clear c8); (try clear c14); (try clear c15); (try clear c16); (try clear c17); (try clear c18); (try clear p2); obtain ⟨x9_2, rfl, HA, HK2, HO_7, HO_8, HB⟩ := hrel; cases gk with
      | zero => exact absurd HA.out (by simp [entrepotlaw13_SheetNumbers.l0])
      | succ k2 =>
       have H := HA.out; clear HA; simp only [entrepotlaw13_SheetNumbers.l0] at H
       by_cases c22 : x9_2 < (t103.length : Int)
       ·rw [if_pos c22] at H; have c22b0 := decide_eq_true c22; clear c22
        by_cases c23 : 0 ≤ x9_2
        ·rw [if_pos c23] at H; have c23b0 := decide_eq_true c23; clear c23; replace H := Option.bind_eq_some_iff.mp H; obtain ⟨⟨t114, t117, t118⟩, A240, H⟩ := H; (try dsimp only at H); have A24 := Aside0.mk A240; clear A240
         by_cases c25 : x9_2 < (t106.length : Int)
         ·rw [if_pos c25] at H; have c25b0 := decide_eq_true c25; clear c25; replace H := Option.bind_eq_some_iff.mp H; obtain ⟨⟨t121, t124, t125⟩, A260, H⟩ := H; (try dsimp only at H); have A26 := Aside0.mk A260; clear A260; replace H := Option.bind_eq_some_iff.mp H; obtain ⟨⟨t128, t131, t132⟩, A270, H⟩ := H; (try dsimp only at H); have A27 := Aside0.mk A270; clear A270; replace H := Option.bind_eq_some_iff.mp H; obtain ⟨⟨t135, t138, t139⟩, A280, H⟩ := H; (try dsimp only at H); have A28 := Aside0.mk A280; clear A280; replace H := Option.bind_eq_some_iff.mp H; obtain ⟨t141, A290, H⟩ := H; (try dsimp only at H); have A29 := Aside0.mk A290; clear A290
          by_cases c30 : t141 = true
          ·subst c30; have H1 : (if (!(t117 == t124) || (!(t118 == t125))) = true then (none) else ((entrepotlaw13_nums.f k2 t128 t135).bind fun t142 => (if t142 = true then (if (!(t131 == t138) || (!(t132 == t139))) = true then (none) else (entrepotlaw13_SheetNumbers.l0 k2 a0 a1 a2 t103 t106 (wrap64 (x9_2 + 1)))) else (none)))) = some r := by rw [if_pos rfl] at H; exact H
           clear H; have H := H1; clear H1
           by_cases c31 : (!(t117 == t124) || (!(t118 == t125))) = true
           ·rw [if_pos c31] at H
            exact absurd H (by simp)
           ·rw [if_neg c31] at H; have c31b0 : (!(t117 == t124) || (!(t118 == t125))) = false := by simpa using c31
            clear c31; replace H := Option.bind_eq_some_iff.mp H; obtain ⟨t142, A320, H⟩ := H; (try dsimp only at H); have A32 := Aside0.mk A320; clear A320
            by_cases c33 : t142 = true
            ·subst c33; have H1 : (if (!(t131 == t138) || (!(t132 == t139))) = true then (none) else (entrepotlaw13_SheetNumbers.l0 k2 a0 a1 a2 t103 t106 (wrap64 (x9_2 + 1)))) = some r := by rw [if_pos rfl] at H; exact H
             clear H; have H := H1; clear H1
             by_cases c34 : (!(t131 == t138) || (!(t132 == t139))) = true
             ·rw [if_pos c34] at H
              exact absurd H (by simp)
             ·rw [if_neg c34] at H; have c34b0 : (!(t131 == t138) || (!(t132 == t139))) = false := by simpa using c34
              clear c34; have H' := Aside0.mk H; clear H; have p113 : 0 ≤ (x9_2 : Int) := of_decide_eq_true qa; have q113 : x9_2 < (t103.length : Int) := of_decide_eq_true qa; obtain ⟨ad113, A113_1, c113_1, e113, hx113_0, hx113_1, hl113_1, hi113_1⟩ := at_T32 (Kd.S_reads' HO_7.out).2.2 x9_2 p113 q113; cases e113; obtain ⟨ce113, hce113, hMe113, hcc113⟩ := Kd.S_get HO_7.out z32 x9_2 p113 (by first | exact q113 | exact of_decide_eq_true qa | (have e_ := (Kd.S_reads' HO_7.out).1; omega)); obtain ⟨ve113_1, rfl, ge113_1⟩ := k32_openM hMe113; have hv113_1 := hcc113 1 _ rfl; rw [add_field _ _ 1 (by omega)] at hv113_1; replace hv113_1 := Option.some.inj (hv113_1.symm.trans hx113_1); rw [hv113_1] at ge113_1; have HL113_1 := Aside0.mk (show Kd.R k105 105 _ _ _ _ ((rd_T32 t103 x9_2).f1) from ge113_1); clear hv113_1 ge113_1; clear hcc113 hce113; have HR113_1 := Aside0.mk hi113_1; have HC113_1 := Aside0.mk hl113_1; clear hi113_1 hl113_1; (try simp only [Go.IntWalk.toNatUp] at hx113_0); (try simp only [Go.IntWalk.toNatUp] at hx113_1); replace p113 := eq_true p113; replace q113 := eq_true q113
              go_wp2_with (first | ((with_reducible refine gate_callee (f := 28) rfl ?_); refine goesL_ (some 48) rfl rfl Tryz.func28 (by kernel_rfl) rfl #[.string a0, .agg #[.int .i64 ((rd_T32 t103 x9_2).f0), .slice A113_1 ((rd_T32 t103 x9_2).f1).length c113_1], .int .i64 a1] rfl qm ?_; (with_reducible refine (sheet_Ints.calls k2 a0 ((rd_T32 t103 x9_2).f0) _ _ ((rd_T32 t103 x9_2).f1) a1 t114 t117 t118 _ ?side1 ?side2 A24.out).mono ?_); (case side1 => exact qC (qD HR113_1.out HL113_1.out)); (case side2 => exact HC113_1.out); rintro e w35 ⟨v115, rfl, ho0, hb⟩; refine ⟨_, rfl, ?_⟩; have HO116 := Aside0.mk (Kd.R_lower ho0 (below_size qb)); replace HR113_1 := cD HR113_1 HL113_1 hb; replace HO_7 := cS HO_7 hb; replace HO_8 := cS HO_8 hb; replace HL113_1 := cR HL113_1 hb; replace HB := cB HB hb; (try clear hb); (try clear hb2); (try clear hk); (try clear hi); (try clear ho0)) | ((with_reducible refine gate_dst (N := 11) rfl ?_); refine box_ev (N := 11) (cs := #[.int .i64 0, .int .i64 0]) (t := 41) ?_; intro gb119 hg w36 hbox hb; have BK119 := Aside0.mk (hbox); have GW119 := Aside0.mk ((qg : w.heap.size ≤ gb119)); have GE119 := Aside0.mk ((qg : w.heap.size ≤ gb119)); replace HR113_1 := cD HR113_1 HL113_1 hb; replace HO_7 := cS HO_7 hb; replace HO_8 := cS HO_8 hb; replace HL113_1 := cR HL113_1 hb; replace HO116 := cR HO116 hb; replace HB := cB HB hb; clear hb hbox hg; have hcz37_0 : w36.cell? ⟨gb119, 0, none⟩ = some (.int .i64 0) := (blk_cell BK119.out 0).trans rfl; have hcz37_1 : w36.cell? ⟨gb119, 1, none⟩ = some (.int .i64 0) := (blk_cell BK119.out 1).trans rfl; have hfz37_0 := blk_frozen BK119.out 0; have hfz37_1 := blk_frozen BK119.out 1) | ((with_reducible refine gate_store (t := 41) (p := 11) rfl ?_); refine store_ev (t := 41) (p := 11) (w1 := ((w36.setCell ⟨gb119, 0, none⟩ (.int .i64 t117)).setCell ⟨gb119, 1, none⟩ (.int .i64 t118))) ?_; intro w38 hw; have n0_ : Aside0 (Kd.S k32 32 w38 w.heap.size (fun _ => True) (.slice (some ad113) t103.length co18) t103) := ⟨(by rw [hw]; exact (by refine qS ?_; exact Kd.S_mono (Kd.S_far (p := ⟨gb119, 1, none⟩) (Kd.S_far (p := ⟨gb119, 0, none⟩) (Kd.S_types HO_7.out BK119.out (by decide)) (fun _ hk => hk.2) (.int .i64 t117)) (fun _ hk => hk.2) (.int .i64 t118)) (fun _ hk => trivial)))⟩; have n1_ : Aside0 (Kd.S k36 36 w38 w.heap.size (fun _ => True) (.slice Ao21 t106.length co21) t106) := ⟨(by rw [hw]; exact (by refine qS ?_; exact Kd.S_mono (Kd.S_far (p := ⟨gb119, 1, none⟩) (Kd.S_far (p := ⟨gb119, 0, none⟩) (Kd.S_types HO_8.out BK119.out (by decide)) (fun _ hk => hk.2) (.int .i64 t117)) (fun _ hk => hk.2) (.int .i64 t118)) (fun _ hk => trivial)))⟩; have n2_ : Aside0 (Kd.R k105 105 w38 w.heap.size (fun k_ => some k_ ≠ (.slice (some ad113) t103.length co18 : Value).ownBlock) (.slice A113_1 ((rd_T32 t103 x9_2).f1).length c113_1) ((rd_T32 t103 x9_2).f1)) := ⟨(by rw [hw]; exact (by refine qR ?_; exact Kd.R_mono (Kd.R_far (p := ⟨gb119, 1, none⟩) (Kd.R_far (p := ⟨gb119, 0, none⟩) (Kd.R_types HL113_1.out BK119.out (by decide)) (fun _ hk => hk.2) (.int .i64 t117)) (fun _ hk => hk.2) (.int .i64 t118)) (fun _ hk => hk.1.2)))⟩; have n3_ : Aside0 (Kd.R (Kd.int .i64) 3 w38 w.heap.size (fun _ => True) v115 t114) := ⟨(by rw [hw]; exact (by refine qR ?_; exact Kd.R_mono (Kd.R_far (p := ⟨gb119, 1, none⟩) (Kd.R_far (p := ⟨gb119, 0, none⟩) (Kd.R_types HO116.out BK119.out (by decide)) (fun _ hk => hk.2) (.int .i64 t117)) (fun _ hk => hk.2) (.int .i64 t118)) (fun _ hk => trivial)))⟩; have n4_ : Aside0 (w38.heap[gb119]? = some (.cells #[.int .i64 t117, .int .i64 t118] 41 (0, 0))) := ⟨(by rw [hw]; exact (by refine qk ?_; refine blk_put (cs := #[.int .i64 t117, .int .i64 0]) ?_ 1 _ rfl; refine qk ?_; refine blk_put (cs := #[.int .i64 0, .int .i64 0]) ?_ 0 _ rfl; refine qk ?_; exact BK119.out))⟩; have n5_ : Aside0 (Below w.heap.size w w38) := ⟨(by rw [hw]; exact qb)⟩; clear hw; clear HO_7; clear HO_8; clear HL113_1; clear HO116; clear BK119; clear HB; have HO_7 := n0_; have HO_8 := n1_; have HL113_1 := n2_; have HO116 := n3_; have BK119 := n4_; have HB := n5_; clear n0_ n1_ n2_ n3_ n4_ n5_; have p120 : 0 ≤ (x9_2 : Int) := of_decide_eq_true qa; have q120 : x9_2 < (t106.length : Int) := of_decide_eq_true qa; obtain ⟨ad120, A120_1, c120_1, e120, hx120_0, hx120_1, hl120_1, hi120_1⟩ := at_T36 (Kd.S_reads' HO_8.out).2.2 x9_2 p120 q120; cases e120; obtain ⟨ce120, hce120, hMe120, hcc120⟩ := Kd.S_get HO_8.out z36 x9_2 p120 (by first | exact q120 | exact of_decide_eq_true qa | (have e_ := (Kd.S_reads' HO_8.out).1; omega)); obtain ⟨ve120_1, rfl, ge120_1⟩ := k36_openM hMe120; have hv120_1 := hcc120 1 _ rfl; rw [add_field _ _ 1 (by omega)] at hv120_1; replace hv120_1 := Option.some.inj (hv120_1.symm.trans hx120_1); rw [hv120_1] at ge120_1; have HL120_1 := Aside0.mk (show Kd.R k104 104 _ _ _ _ ((rd_T36 t106 x9_2).f1) from ge120_1); clear hv120_1 ge120_1; clear hcc120 hce120; have HR120_1 := Aside0.mk hi120_1; have HC120_1 := Aside0.mk hl120_1; clear hi120_1 hl120_1; (try simp only [Go.IntWalk.toNatUp] at hx120_0); (try simp only [Go.IntWalk.toNatUp] at hx120_1); replace p120 := eq_true p120; replace q120 := eq_true q120) | ((with_reducible refine gate_callee (f := 29) rfl ?_); refine goesL_ (some 58) rfl rfl Tryz.func29 (by kernel_rfl) rfl #[.string a0, .agg #[.int .i64 ((rd_T36 t106 x9_2).f0), .slice A120_1 ((rd_T36 t106 x9_2).f1).length c120_1], .int .i64 a1] rfl qm ?_; (with_reducible refine (entrepotref13_Ints.calls k2 a0 ((rd_T36 t106 x9_2).f0) _ _ ((rd_T36 t106 x9_2).f1) a1 t121 t124 t125 _ ?side1 ?side2 A26.out).mono ?_); (case side1 => exact qC (qD HR120_1.out HL120_1.out)); (case side2 => exact HC120_1.out); rintro e w39 ⟨v122, rfl, ho0, hb⟩; refine ⟨_, rfl, ?_⟩; have n3_ := Aside0.mk (Kd.R_elder' (qR HO116.out) (Kd.R_base ho0) hb); have HO123 := Aside0.mk (Kd.R_lower (Kd.R_new' ho0 (Kd.R_lt (qR HO116.out))) (below_size qb)); replace HR113_1 := cD HR113_1 HL113_1 hb; replace HR120_1 := cD HR120_1 HL120_1 hb; replace HO_7 := cS HO_7 hb; replace HO_8 := cS HO_8 hb; replace HL113_1 := cR HL113_1 hb; replace HL120_1 := cR HL120_1 hb; replace BK119 := cK BK119 hb; replace HB := cB HB hb; replace HO116 := n3_; clear n3_; (try clear hb); (try clear hb2); (try clear hk); (try clear hi); (try clear ho0)) | ((with_reducible refine gate_dst (N := 13) rfl ?_); refine box_ev (N := 13) (cs := #[.int .i64 0, .int .i64 0]) (t := 41) ?_; intro gb126 hg w40 hbox hb; have BK126 := Aside0.mk (hbox); have GW126 := Aside0.mk ((qg : w.heap.size ≤ gb126)); have GE126 := Aside0.mk ((qg : w.heap.size ≤ gb126)); have NB119_126 := Aside0.mk ((by rw [hg]; exact Nat.ne_of_lt (blk_lt (g := gb119) (o := .cells #[.int .i64 t117, .int .i64 t118] 41 (0, 0)) (qk BK119.out)) : gb119 ≠ gb126)); have NB126_119 := Aside0.mk ((by rw [hg]; exact Nat.ne_of_gt (blk_lt (g := gb119) (o := .cells #[.int .i64 t117, .int .i64 t118] 41 (0, 0)) (qk BK119.out)) : gb126 ≠ gb119)); replace HR113_1 := cD HR113_1 HL113_1 hb; replace HR120_1 := cD HR120_1 HL120_1 hb; replace HO_7 := cS HO_7 hb; replace HO_8 := cS HO_8 hb; replace HL113_1 := cR HL113_1 hb; replace HO116 := cR HO116 hb; replace HL120_1 := cR HL120_1 hb; replace HO123 := cR HO123 hb; replace BK119 := cK BK119 hb; replace HB := cB HB hb; clear hb hbox hg; have hnb41 := NB126_119.out; have hnc41 := NB119_126.out; have hcz42_0 : w40.cell? ⟨gb126, 0, none⟩ = some (.int .i64 0) := (blk_cell BK126.out 0).trans rfl; have hcz42_1 : w40.cell? ⟨gb126, 1, none⟩ = some (.int .i64 0) := (blk_cell BK126.out 1).trans rfl; have hfz42_0 := blk_frozen BK126.out 0; have hfz42_1 := blk_frozen BK126.out 1) | ((with_reducible refine gate_store (t := 41) (p := 13) rfl ?_); refine store_ev (t := 41) (p := 13) (w1 := ((w40.setCell ⟨gb126, 0, none⟩ (.int .i64 t124)).setCell ⟨gb126, 1, none⟩ (.int .i64 t125))) ?_; intro w43 hw; have n0_ : Aside0 (Kd.S k32 32 w43 w.heap.size (fun _ => True) (.slice (some ad113) t103.length co18) t103) := ⟨(by rw [hw]; exact (by refine qS ?_; exact Kd.S_mono (Kd.S_far (p := ⟨gb126, 1, none⟩) (Kd.S_far (p := ⟨gb126, 0, none⟩) (Kd.S_types HO_7.out BK126.out (by decide)) (fun _ hk => hk.2) (.int .i64 t124)) (fun _ hk => hk.2) (.int .i64 t125)) (fun _ hk => trivial)))⟩; have n1_ : Aside0 (Kd.S k36 36 w43 w.heap.size (fun _ => True) (.slice (some ad120) t106.length co21) t106) := ⟨(by rw [hw]; exact (by refine qS ?_; exact Kd.S_mono (Kd.S_far (p := ⟨gb126, 1, none⟩) (Kd.S_far (p := ⟨gb126, 0, none⟩) (Kd.S_types HO_8.out BK126.out (by decide)) (fun _ hk => hk.2) (.int .i64 t124)) (fun _ hk => hk.2) (.int .i64 t125)) (fun _ hk => trivial)))⟩; have n2_ : Aside0 (Kd.R k105 105 w43 w.heap.size (fun k_ => some k_ ≠ (.slice (some ad113) t103.length co18 : Value).ownBlock) (.slice A113_1 ((rd_T32 t103 x9_2).f1).length c113_1) ((rd_T32 t103 x9_2).f1)) := ⟨(by rw [hw]; exact (by refine qR ?_; exact Kd.R_mono (Kd.R_far (p := ⟨gb126, 1, none⟩) (Kd.R_far (p := ⟨gb126, 0, none⟩) (Kd.R_types HL113_1.out BK126.out (by decide)) (fun _ hk => hk.2) (.int .i64 t124)) (fun _ hk => hk.2) (.int .i64 t125)) (fun _ hk => hk.1)))⟩; have n3_ : Aside0 (Kd.R (Kd.int .i64) 3 w43 w.heap.size (fun k_ => some k_ ≠ (v122 : Value).ownBlock) v115 t114) := ⟨(by rw [hw]; exact (by refine qR ?_; exact Kd.R_mono (Kd.R_far (p := ⟨gb126, 1, none⟩) (Kd.R_far (p := ⟨gb126, 0, none⟩) (Kd.R_types HO116.out BK126.out (by decide)) (fun _ hk => hk.2) (.int .i64 t124)) (fun _ hk => hk.2) (.int .i64 t125)) (fun _ hk => hk.1.2)))⟩; have n4_ : Aside0 (Kd.R k104 104 w43 w.heap.size (fun k_ => some k_ ≠ (.slice (some ad120) t106.length co21 : Value).ownBlock) (.slice A120_1 ((rd_T36 t106 x9_2).f1).length c120_1) ((rd_T36 t106 x9_2).f1)) := ⟨(by rw [hw]; exact (by refine qR ?_; exact Kd.R_mono (Kd.R_far (p := ⟨gb126, 1, none⟩) (Kd.R_far (p := ⟨gb126, 0, none⟩) (Kd.R_types HL120_1.out BK126.out (by decide)) (fun _ hk => hk.2) (.int .i64 t124)) (fun _ hk => hk.2) (.int .i64 t125)) (fun _ hk => hk.1.2)))⟩; have n5_ : Aside0 (Kd.R (Kd.int .i64) 3 w43 w.heap.size (fun k_ => some k_ ≠ (v115 : Value).ownBlock) v122 t121) := ⟨(by rw [hw]; exact (by refine qR ?_; exact Kd.R_mono (Kd.R_far (p := ⟨gb126, 1, none⟩) (Kd.R_far (p := ⟨gb126, 0, none⟩) (Kd.R_types HO123.out BK126.out (by decide)) (fun _ hk => hk.2) (.int .i64 t124)) (fun _ hk => hk.2) (.int .i64 t125)) (fun _ hk => hk.1.2)))⟩; have n6_ : Aside0 (w43.heap[gb119]? = some (.cells #[.int .i64 t117, .int .i64 t118] 41 (0, 0))) := ⟨(by rw [hw]; exact (by refine qk ?_; refine blk_far ?_ NB119_126.out _; refine qk ?_; refine blk_far ?_ NB119_126.out _; refine qk ?_; exact BK119.out))⟩; have n7_ : Aside0 (w43.heap[gb126]? = some (.cells #[.int .i64 t124, .int .i64 t125] 41 (0, 0))) := ⟨(by rw [hw]; exact (by refine qk ?_; refine blk_put (cs := #[.int .i64 t124, .int .i64 0]) ?_ 1 _ rfl; refine qk ?_; refine blk_put (cs := #[.int .i64 0, .int .i64 0]) ?_ 0 _ rfl; refine qk ?_; exact BK126.out))⟩; have n8_ : Aside0 (Below w.heap.size w w43) := ⟨(by rw [hw]; exact qb)⟩; clear hw; clear HO_7; clear HO_8; clear HL113_1; clear HO116; clear HL120_1; clear HO123; clear BK119; clear BK126; clear HB; have HO_7 := n0_; have HO_8 := n1_; have HL113_1 := n2_; have HO116 := n3_; have HL120_1 := n4_; have HO123 := n5_; have BK119 := n6_; have BK126 := n7_; have HB := n8_; clear n0_ n1_ n2_ n3_ n4_ n5_ n6_ n7_ n8_; have p127 : 0 ≤ (x9_2 : Int) := of_decide_eq_true qa; have q127 : x9_2 < (t103.length : Int) := of_decide_eq_true qa; obtain ⟨ad127, A127_1, c127_1, e127, hx127_0, hx127_1, hl127_1, hi127_1⟩ := at_T32 (Kd.S_reads' HO_7.out).2.2 x9_2 p127 q127; obtain rfl : ad113 = ad127 := (by injection e127); obtain ⟨ce127, hce127, hMe127, hcc127⟩ := Kd.S_get HO_7.out z32 x9_2 p127 (by first | exact q127 | exact of_decide_eq_true qa | (have e_ := (Kd.S_reads' HO_7.out).1; omega)); obtain ⟨ve127_1, rfl, ge127_1⟩ := k32_openM hMe127; have hv127_1 := hcc127 1 _ rfl; rw [add_field _ _ 1 (by omega)] at hv127_1; replace hv127_1 := Option.some.inj (hv127_1.symm.trans hx127_1); rw [hv127_1] at ge127_1; have HL127_1 := Aside0.mk (show Kd.R k105 105 _ _ _ _ ((rd_T32 t103 x9_2).f1) from ge127_1); clear hv127_1 ge127_1; clear hcc127 hce127; have HR127_1 := Aside0.mk hi127_1; have HC127_1 := Aside0.mk hl127_1; clear hi127_1 hl127_1; (try simp only [Go.IntWalk.toNatUp] at hx127_0); (try simp only [Go.IntWalk.toNatUp] at hx127_1); replace p127 := eq_true p127; replace q127 := eq_true q127) | ((with_reducible refine gate_callee (f := 30) rfl ?_); refine goesL_ (some 68) rfl rfl Tryz.func30 (by kernel_rfl) rfl #[.string a0, .agg #[.int .i64 ((rd_T32 t103 x9_2).f0), .slice A127_1 ((rd_T32 t103 x9_2).f1).length c127_1], .int .i64 a2] rfl qm ?_; (with_reducible refine (sheet_Nums.calls k2 a0 ((rd_T32 t103 x9_2).f0) _ _ ((rd_T32 t103 x9_2).f1) a2 t128 t131 t132 _ ?side1 ?side2 A27.out).mono ?_); (case side1 => exact qC (qD HR127_1.out HL127_1.out)); (case side2 => exact HC127_1.out); rintro e w44 ⟨v129, rfl, ho0, hb⟩; refine ⟨_, rfl, ?_⟩; have HO130 := Aside0.mk (Kd.R_lower ho0 (below_size qb)); replace HR113_1 := cD HR113_1 HL113_1 hb; replace HR120_1 := cD HR120_1 HL120_1 hb; replace HR127_1 := cD HR127_1 HL127_1 hb; replace HO_7 := cS HO_7 hb; replace HO_8 := cS HO_8 hb; replace HL113_1 := cR HL113_1 hb; replace HO116 := cR HO116 hb; replace HL120_1 := cR HL120_1 hb; replace HO123 := cR HO123 hb; replace HL127_1 := cR HL127_1 hb; replace BK119 := cK BK119 hb; replace BK126 := cK BK126 hb; replace HB := cB HB hb; (try clear hb); (try clear hb2); (try clear hk); (try clear hi); (try clear ho0)) | ((with_reducible refine gate_dst (N := 15) rfl ?_); refine box_ev (N := 15) (cs := #[.int .i64 0, .int .i64 0]) (t := 41) ?_; intro gb133 hg w45 hbox hb; have BK133 := Aside0.mk (hbox); have GW133 := Aside0.mk ((qg : w.heap.size ≤ gb133)); have GE133 := Aside0.mk ((qg : w.heap.size ≤ gb133)); have NB119_133 := Aside0.mk ((by rw [hg]; exact Nat.ne_of_lt (blk_lt (g := gb119) (o := .cells #[.int .i64 t117, .int .i64 t118] 41 (0, 0)) (qk BK119.out)) : gb119 ≠ gb133)); have NB133_119 := Aside0.mk ((by rw [hg]; exact Nat.ne_of_gt (blk_lt (g := gb119) (o := .cells #[.int .i64 t117, .int .i64 t118] 41 (0, 0)) (qk BK119.out)) : gb133 ≠ gb119)); have NB126_133 := Aside0.mk ((by rw [hg]; exact Nat.ne_of_lt (blk_lt (g := gb126) (o := .cells #[.int .i64 t124, .int .i64 t125] 41 (0, 0)) (qk BK126.out)) : gb126 ≠ gb133)); have NB133_126 := Aside0.mk ((by rw [hg]; exact Nat.ne_of_gt (blk_lt (g := gb126) (o := .cells #[.int .i64 t124, .int .i64 t125] 41 (0, 0)) (qk BK126.out)) : gb133 ≠ gb126)); replace HR113_1 := cD HR113_1 HL113_1 hb; replace HR120_1 := cD HR120_1 HL120_1 hb; replace HR127_1 := cD HR127_1 HL127_1 hb; replace HO_7 := cS HO_7 hb; replace HO_8 := cS HO_8 hb; replace HL113_1 := cR HL113_1 hb; replace HO116 := cR HO116 hb; replace HL120_1 := cR HL120_1 hb; replace HO123 := cR HO123 hb; replace HL127_1 := cR HL127_1 hb; replace HO130 := cR HO130 hb; replace BK119 := cK BK119 hb; replace BK126 := cK BK126 hb; replace HB := cB HB hb; clear hb hbox hg; have hnb46 := NB133_119.out; have hnc46 := NB119_133.out; have hnb47 := NB133_126.out; have hnc47 := NB126_133.out; have hcz48_0 : w45.cell? ⟨gb133, 0, none⟩ = some (.int .i64 0) := (blk_cell BK133.out 0).trans rfl; have hcz48_1 : w45.cell? ⟨gb133, 1, none⟩ = some (.int .i64 0) := (blk_cell BK133.out 1).trans rfl; have hfz48_0 := blk_frozen BK133.out 0; have hfz48_1 := blk_frozen BK133.out 1) | ((with_reducible refine gate_store (t := 41) (p := 15) rfl ?_); refine store_ev (t := 41) (p := 15) (w1 := ((w45.setCell ⟨gb133, 0, none⟩ (.int .i64 t131)).setCell ⟨gb133, 1, none⟩ (.int .i64 t132))) ?_; intro w49 hw; have n0_ : Aside0 (Kd.S k32 32 w49 w.heap.size (fun _ => True) (.slice (some ad113) t103.length co18) t103) := ⟨(by rw [hw]; exact (by refine qS ?_; exact Kd.S_mono (Kd.S_far (p := ⟨gb133, 1, none⟩) (Kd.S_far (p := ⟨gb133, 0, none⟩) (Kd.S_types HO_7.out BK133.out (by decide)) (fun _ hk => hk.2) (.int .i64 t131)) (fun _ hk => hk.2) (.int .i64 t132)) (fun _ hk => trivial)))⟩; have n1_ : Aside0 (Kd.S k36 36 w49 w.heap.size (fun _ => True) (.slice (some ad120) t106.length co21) t106) := ⟨(by rw [hw]; exact (by refine qS ?_; exact Kd.S_mono (Kd.S_far (p := ⟨gb133, 1, none⟩) (Kd.S_far (p := ⟨gb133, 0, none⟩) (Kd.S_types HO_8.out BK133.out (by decide)) (fun _ hk => hk.2) (.int .i64 t131)) (fun _ hk => hk.2) (.int .i64 t132)) (fun _ hk => trivial)))⟩; have n2_ : Aside0 (Kd.R k105 105 w49 w.heap.size (fun k_ => some k_ ≠ (.slice (some ad113) t103.length co18 : Value).ownBlock) (.slice A113_1 ((rd_T32 t103 x9_2).f1).length c113_1) ((rd_T32 t103 x9_2).f1)) := ⟨(by rw [hw]; exact (by refine qR ?_; exact Kd.R_mono (Kd.R_far (p := ⟨gb133, 1, none⟩) (Kd.R_far (p := ⟨gb133, 0, none⟩) (Kd.R_types HL113_1.out BK133.out (by decide)) (fun _ hk => hk.2) (.int .i64 t131)) (fun _ hk => hk.2) (.int .i64 t132)) (fun _ hk => hk.1)))⟩; have n3_ : Aside0 (Kd.R (Kd.int .i64) 3 w49 w.heap.size (fun k_ => some k_ ≠ (v122 : Value).ownBlock) v115 t114) := ⟨(by rw [hw]; exact (by refine qR ?_; exact Kd.R_mono (Kd.R_far (p := ⟨gb133, 1, none⟩) (Kd.R_far (p := ⟨gb133, 0, none⟩) (Kd.R_types HO116.out BK133.out (by decide)) (fun _ hk => hk.2) (.int .i64 t131)) (fun _ hk => hk.2) (.int .i64 t132)) (fun _ hk => hk.1)))⟩; have n4_ : Aside0 (Kd.R k104 104 w49 w.heap.size (fun k_ => some k_ ≠ (.slice (some ad120) t106.length co21 : Value).ownBlock) (.slice A120_1 ((rd_T36 t106 x9_2).f1).length c120_1) ((rd_T36 t106 x9_2).f1)) := ⟨(by rw [hw]; exact (by refine qR ?_; exact Kd.R_mono (Kd.R_far (p := ⟨gb133, 1, none⟩) (Kd.R_far (p := ⟨gb133, 0, none⟩) (Kd.R_types HL120_1.out BK133.out (by decide)) (fun _ hk => hk.2) (.int .i64 t131)) (fun _ hk => hk.2) (.int .i64 t132)) (fun _ hk => hk.1)))⟩; have n5_ : Aside0 (Kd.R (Kd.int .i64) 3 w49 w.heap.size (fun k_ => some k_ ≠ (v115 : Value).ownBlock) v122 t121) := ⟨(by rw [hw]; exact (by refine qR ?_; exact Kd.R_mono (Kd.R_far (p := ⟨gb133, 1, none⟩) (Kd.R_far (p := ⟨gb133, 0, none⟩) (Kd.R_types HO123.out BK133.out (by decide)) (fun _ hk => hk.2) (.int .i64 t131)) (fun _ hk => hk.2) (.int .i64 t132)) (fun _ hk => hk.1)))⟩; have n6_ : Aside0 (Kd.R k105 105 w49 w.heap.size (fun k_ => some k_ ≠ (.slice (some ad113) t103.length co18 : Value).ownBlock) (.slice A127_1 ((rd_T32 t103 x9_2).f1).length c127_1) ((rd_T32 t103 x9_2).f1)) := ⟨(by rw [hw]; exact (by refine qR ?_; exact Kd.R_mono (Kd.R_far (p := ⟨gb133, 1, none⟩) (Kd.R_far (p := ⟨gb133, 0, none⟩) (Kd.R_types HL127_1.out BK133.out (by decide)) (fun _ hk => hk.2) (.int .i64 t131)) (fun _ hk => hk.2) (.int .i64 t132)) (fun _ hk => hk.1.2)))⟩; have n7_ : Aside0 (Kd.R k50 50 w49 w.heap.size (fun _ => True) v129 t128) := ⟨(by rw [hw]; exact (by refine qR ?_; exact Kd.R_mono (Kd.R_far (p := ⟨gb133, 1, none⟩) (Kd.R_far (p := ⟨gb133, 0, none⟩) (Kd.R_types HO130.out BK133.out (by decide)) (fun _ hk => hk.2) (.int .i64 t131)) (fun _ hk => hk.2) (.int .i64 t132)) (fun _ hk => trivial)))⟩; have n8_ : Aside0 (w49.heap[gb119]? = some (.cells #[.int .i64 t117, .int .i64 t118] 41 (0, 0))) := ⟨(by rw [hw]; exact (by refine qk ?_; refine blk_far ?_ NB119_133.out _; refine qk ?_; refine blk_far ?_ NB119_133.out _; refine qk ?_; exact BK119.out))⟩; have n9_ : Aside0 (w49.heap[gb126]? = some (.cells #[.int .i64 t124, .int .i64 t125] 41 (0, 0))) := ⟨(by rw [hw]; exact (by refine qk ?_; refine blk_far ?_ NB126_133.out _; refine qk ?_; refine blk_far ?_ NB126_133.out _; refine qk ?_; exact BK126.out))⟩; have n10_ : Aside0 (w49.heap[gb133]? = some (.cells #[.int .i64 t131, .int .i64 t132] 41 (0, 0))) := ⟨(by rw [hw]; exact (by refine qk ?_; refine blk_put (cs := #[.int .i64 t131, .int .i64 0]) ?_ 1 _ rfl; refine qk ?_; refine blk_put (cs := #[.int .i64 0, .int .i64 0]) ?_ 0 _ rfl; refine qk ?_; exact BK133.out))⟩; have n11_ : Aside0 (Below w.heap.size w w49) := ⟨(by rw [hw]; exact qb)⟩; clear hw; clear HO_7; clear HO_8; clear HL113_1; clear HO116; clear HL120_1; clear HO123; clear HL127_1; clear HO130; clear BK119; clear BK126; clear BK133; clear HB; have HO_7 := n0_; have HO_8 := n1_; have HL113_1 := n2_; have HO116 := n3_; have HL120_1 := n4_; have HO123 := n5_; have HL127_1 := n6_; have HO130 := n7_; have BK119 := n8_; have BK126 := n9_; have BK133 := n10_; have HB := n11_; clear n0_ n1_ n2_ n3_ n4_ n5_ n6_ n7_ n8_ n9_ n10_ n11_; have p134 : 0 ≤ (x9_2 : Int) := of_decide_eq_true qa; have q134 : x9_2 < (t106.length : Int) := of_decide_eq_true qa; obtain ⟨ad134, A134_1, c134_1, e134, hx134_0, hx134_1, hl134_1, hi134_1⟩ := at_T36 (Kd.S_reads' HO_8.out).2.2 x9_2 p134 q134; obtain rfl : ad120 = ad134 := (by injection e134); obtain ⟨ce134, hce134, hMe134, hcc134⟩ := Kd.S_get HO_8.out z36 x9_2 p134 (by first | exact q134 | exact of_decide_eq_true qa | (have e_ := (Kd.S_reads' HO_8.out).1; omega)); obtain ⟨ve134_1, rfl, ge134_1⟩ := k36_openM hMe134; have hv134_1 := hcc134 1 _ rfl; rw [add_field _ _ 1 (by omega)] at hv134_1; replace hv134_1 := Option.some.inj (hv134_1.symm.trans hx134_1); rw [hv134_1] at ge134_1; have HL134_1 := Aside0.mk (show Kd.R k104 104 _ _ _ _ ((rd_T36 t106 x9_2).f1) from ge134_1); clear hv134_1 ge134_1; clear hcc134 hce134; have HR134_1 := Aside0.mk hi134_1; have HC134_1 := Aside0.mk hl134_1; clear hi134_1 hl134_1; (try simp only [Go.IntWalk.toNatUp] at hx134_0); (try simp only [Go.IntWalk.toNatUp] at hx134_1); replace p134 := eq_true p134; replace q134 := eq_true q134) | ((with_reducible refine gate_callee (f := 31) rfl ?_); refine goesL_ (some 78) rfl rfl Tryz.func31 (by kernel_rfl) rfl #[.string a0, .agg #[.int .i64 ((rd_T36 t106 x9_2).f0), .slice A134_1 ((rd_T36 t106 x9_2).f1).length c134_1], .int .i64 a2] rfl qm ?_; (with_reducible refine (entrepotref13_Nums.calls k2 a0 ((rd_T36 t106 x9_2).f0) _ _ ((rd_T36 t106 x9_2).f1) a2 t135 t138 t139 _ ?side1 ?side2 A28.out).mono ?_); (case side1 => exact qC (qD HR134_1.out HL134_1.out)); (case side2 => exact HC134_1.out); rintro e w50 ⟨v136, rfl, ho0, hb⟩; refine ⟨_, rfl, ?_⟩; have HO137 := Aside0.mk (Kd.R_lower ho0 (below_size qb)); replace HR113_1 := cD HR113_1 HL113_1 hb; replace HR120_1 := cD HR120_1 HL120_1 hb; replace HR127_1 := cD HR127_1 HL127_1 hb; replace HR134_1 := cD HR134_1 HL134_1 hb; replace HO_7 := cS HO_7 hb; replace HO_8 := cS HO_8 hb; replace HL113_1 := cR HL113_1 hb; replace HO116 := cR HO116 hb; replace HL120_1 := cR HL120_1 hb; replace HO123 := cR HO123 hb; replace HL127_1 := cR HL127_1 hb; replace HO130 := cR HO130 hb; replace HL134_1 := cR HL134_1 hb; replace BK119 := cK BK119 hb; replace BK126 := cK BK126 hb; replace BK133 := cK BK133 hb; replace HB := cB HB hb; (try clear hb); (try clear hb2); (try clear hk); (try clear hi); (try clear ho0)) | ((with_reducible refine gate_dst (N := 17) rfl ?_); refine box_ev (N := 17) (cs := #[.int .i64 0, .int .i64 0]) (t := 41) ?_; intro gb140 hg w51 hbox hb; have BK140 := Aside0.mk (hbox); have GW140 := Aside0.mk ((qg : w.heap.size ≤ gb140)); have GE140 := Aside0.mk ((qg : w.heap.size ≤ gb140)); have NB119_140 := Aside0.mk ((by rw [hg]; exact Nat.ne_of_lt (blk_lt (g := gb119) (o := .cells #[.int .i64 t117, .int .i64 t118] 41 (0, 0)) (qk BK119.out)) : gb119 ≠ gb140)); have NB140_119 := Aside0.mk ((by rw [hg]; exact Nat.ne_of_gt (blk_lt (g := gb119) (o := .cells #[.int .i64 t117, .int .i64 t118] 41 (0, 0)) (qk BK119.out)) : gb140 ≠ gb119)); have NB126_140 := Aside0.mk ((by rw [hg]; exact Nat.ne_of_lt (blk_lt (g := gb126) (o := .cells #[.int .i64 t124, .int .i64 t125] 41 (0, 0)) (qk BK126.out)) : gb126 ≠ gb140)); have NB140_126 := Aside0.mk ((by rw [hg]; exact Nat.ne_of_gt (blk_lt (g := gb126) (o := .cells #[.int .i64 t124, .int .i64 t125] 41 (0, 0)) (qk BK126.out)) : gb140 ≠ gb126)); have NB133_140 := Aside0.mk ((by rw [hg]; exact Nat.ne_of_lt (blk_lt (g := gb133) (o := .cells #[.int .i64 t131, .int .i64 t132] 41 (0, 0)) (qk BK133.out)) : gb133 ≠ gb140)); have NB140_133 := Aside0.mk ((by rw [hg]; exact Nat.ne_of_gt (blk_lt (g := gb133) (o := .cells #[.int .i64 t131, .int .i64 t132] 41 (0, 0)) (qk BK133.out)) : gb140 ≠ gb133)); replace HR113_1 := cD HR113_1 HL113_1 hb; replace HR120_1 := cD HR120_1 HL120_1 hb; replace HR127_1 := cD HR127_1 HL127_1 hb; replace HR134_1 := cD HR134_1 HL134_1 hb; replace HO_7 := cS HO_7 hb; replace HO_8 := cS HO_8 hb; replace HL113_1 := cR HL113_1 hb; replace HO116 := cR HO116 hb; replace HL120_1 := cR HL120_1 hb; replace HO123 := cR HO123 hb; replace HL127_1 := cR HL127_1 hb; replace HO130 := cR HO130 hb; replace HL134_1 := cR HL134_1 hb; replace HO137 := cR HO137 hb; replace BK119 := cK BK119 hb; replace BK126 := cK BK126 hb; replace BK133 := cK BK133 hb; replace HB := cB HB hb; clear hb hbox hg; have hnb52 := NB140_119.out; have hnc52 := NB119_140.out; have hnb53 := NB140_126.out; have hnc53 := NB126_140.out; have hnb54 := NB140_133.out; have hnc54 := NB133_140.out; have hcz55_0 : w51.cell? ⟨gb140, 0, none⟩ = some (.int .i64 0) := (blk_cell BK140.out 0).trans rfl; have hcz55_1 : w51.cell? ⟨gb140, 1, none⟩ = some (.int .i64 0) := (blk_cell BK140.out 1).trans rfl; have hfz55_0 := blk_frozen BK140.out 0; have hfz55_1 := blk_frozen BK140.out 1; obtain ⟨Ao56, co56, eo56⟩ := Kd.R_slice HO116.out; subst eo56; obtain ⟨Ao57, co57, eo57⟩ := Kd.R_slice HO123.out; subst eo57) | ((with_reducible refine gate_callee (f := 23) rfl ?_); refine goesL_ (some 83) rfl rfl Tryz.func23 (by kernel_rfl) rfl #[.slice Ao56 t114.length co56, .slice Ao57 t121.length co57] rfl qm ?_; (with_reducible refine (entrepotref07_Ints.calls k2 _ _ t114 _ _ t121 true _ ?side1 ?side2 ?side3 ?side4 A29.out).mono ?_); (case side1 => refine (Kd.R_reads' (e := 3) (base := w.heap.size) (ok := fun k_ => some k_ ≠ (.slice Ao57 t121.length co57 : Value).ownBlock) (n := t114.length) (c := co56) ?_).2.2; exact (by refine qR ?_; exact (Kd.R_mono (Kd.R_far (p := ⟨gb140, 1, none⟩) (Kd.R_far (p := ⟨gb140, 0, none⟩) (Kd.R_types HO116.out BK140.out (by decide)) (fun _ hk => hk.2) (.int .i64 t138)) (fun _ hk => hk.2) (.int .i64 t139)) (fun _ h_ => by first | exact h_.1 | exact ⟨trivial, h_.1⟩)))); (case side2 => exact (Kd.R_reads' HO116.out).2.1); (case side3 => refine (Kd.R_reads' (e := 3) (base := w.heap.size) (ok := fun k_ => some k_ ≠ (.slice Ao56 t114.length co56 : Value).ownBlock) (n := t121.length) (c := co57) ?_).2.2; exact (by refine qR ?_; exact (Kd.R_mono (Kd.R_far (p := ⟨gb140, 1, none⟩) (Kd.R_far (p := ⟨gb140, 0, none⟩) (Kd.R_types HO123.out BK140.out (by decide)) (fun _ hk => hk.2) (.int .i64 t138)) (fun _ hk => hk.2) (.int .i64 t139)) (fun _ h_ => by first | exact h_.1 | exact ⟨trivial, h_.1⟩)))); (case side4 => exact (Kd.R_reads' HO123.out).2.1); rintro e w' ⟨rfl, ⟨nd, rfl⟩⟩; refine ⟨_, rfl, ?_⟩; have hcz58_0 : w51.cell? ⟨gb119, 0, none⟩ = some (.int .i64 t117) := (blk_cell BK119.out 0).trans rfl; have hcz58_1 : w51.cell? ⟨gb119, 1, none⟩ = some (.int .i64 t118) := (blk_cell BK119.out 1).trans rfl; have hfz58_0 := blk_frozen BK119.out 0; have hfz58_1 := blk_frozen BK119.out 1; have hcz59_0 : w51.cell? ⟨gb126, 0, none⟩ = some (.int .i64 t124) := (blk_cell BK126.out 0).trans rfl; have hcz59_1 : w51.cell? ⟨gb126, 1, none⟩ = some (.int .i64 t125) := (blk_cell BK126.out 1).trans rfl; have hfz59_0 := blk_frozen BK126.out 0; have hfz59_1 := blk_frozen BK126.out 1; obtain ⟨Ao60, co60, eo60⟩ := Kd.R_slice HO130.out; subst eo60; obtain ⟨Ao61, co61, eo61⟩ := Kd.R_slice HO137.out; subst eo61) | (go_at_call 32; (with_reducible refine (entrepotlaw13_nums.calls k2 _ _ t128 _ _ t135 true _ ?side1 ?side2 ?side3 ?side4 A32.out).mono ?_); (case side1 => refine (Kd.R_reads' (e := 50) (base := w.heap.size) (ok := fun k_ => True) (n := t128.length) (c := co60) ?_).2.2; exact (by refine qR ?_; exact (Kd.R_mono (Kd.R_far (p := ⟨gb140, 1, none⟩) (Kd.R_far (p := ⟨gb140, 0, none⟩) (Kd.R_types HO130.out BK140.out (by decide)) (fun _ hk => hk.2) (.int .i64 t138)) (fun _ hk => hk.2) (.int .i64 t139)) (fun _ h_ => by first | exact h_.1 | exact ⟨trivial, h_.1⟩)))); (case side2 => exact (Kd.R_reads' HO130.out).2.1); (case side3 => refine (Kd.R_reads' (e := 51) (base := w.heap.size) (ok := fun k_ => True) (n := t135.length) (c := co61) ?_).2.2; exact (by refine qR ?_; exact (Kd.R_mono (Kd.R_far (p := ⟨gb140, 1, none⟩) (Kd.R_far (p := ⟨gb140, 0, none⟩) (Kd.R_types HO137.out BK140.out (by decide)) (fun _ hk => hk.2) (.int .i64 t138)) (fun _ hk => hk.2) (.int .i64 t139)) (fun _ h_ => by first | exact h_.1 | exact ⟨trivial, h_.1⟩)))); (case side4 => exact (Kd.R_reads' HO137.out).2.1); rintro e w' ⟨rfl, ⟨nd, rfl⟩⟩; have hcz62_0 : w51.cell? ⟨gb133, 0, none⟩ = some (.int .i64 t131) := (blk_cell BK133.out 0).trans rfl; have hcz62_1 : w51.cell? ⟨gb133, 1, none⟩ = some (.int .i64 t132) := (blk_cell BK133.out 1).trans rfl; have hfz62_0 := blk_frozen BK133.out 0; have hfz62_1 := blk_frozen BK133.out 1))
              go_roundg k2
              case measure => have := HJ3.out; have := HK2.out; omega
              case rel => exact ⟨(wrap64 (x9_2 + 1)), qr, H', ⟨by have := HJ3.out; have := HK2.out; omega⟩, ⟨by refine qS ?_; exact Kd.S_mono (Kd.S_far (p := ⟨gb140, 1, none⟩) (Kd.S_far (p := ⟨gb140, 0, none⟩) (Kd.S_types HO_7.out BK140.out (by decide)) (fun _ hk => hk.2) (.int .i64 t138)) (fun _ hk => hk.2) (.int .i64 t139)) (fun _ hk => trivial)⟩, ⟨by refine qS ?_; exact Kd.S_mono (Kd.S_far (p := ⟨gb140, 1, none⟩) (Kd.S_far (p := ⟨gb140, 0, none⟩) (Kd.S_types HO_8.out BK140.out (by decide)) (fun _ hk => hk.2) (.int .i64 t138)) (fun _ hk => hk.2) (.int .i64 t139)) (fun _ hk => trivial)⟩, ⟨qb⟩⟩
            ·replace c33 := Bool.eq_false_iff.mpr c33; subst c33; have H1 : (none) = some r := by rw [if_neg (show ¬ (false = true) by decide)] at H; exact H
             clear H; have H := H1; clear H1
             exact absurd H (by simp)
          ·replace c30 := Bool.eq_false_iff.mpr c30; subst c30; have H1 : (none) = some r := by rw [if_neg (show ¬ (false = true) by decide)] at H; exact H
           clear H; have H := H1; clear H1
           exact absurd H (by simp)
         ·rw [if_neg c25] at H
          exact absurd H (by simp)
        ·rw [if_neg c23] at H
         exact absurd H (by simp)
       ·rw [if_neg c22] at H; have c22b0 := decide_eq_false c22; clear c22; obtain rfl := Option.some.inj H
        go_wp2
        go_ret
        exact ⟨qe, qb⟩
    ·replace c15 := Bool.eq_false_iff.mpr c15; subst c15; have H1 : (none) = some r := by rw [if_neg (show ¬ (false = true) by decide)] at H; exact H
     clear H; have H := H1; clear H1
     exact absurd H (by simp)

end Go.Proofs.YtadocbfchdendaaGreatDoor.P
namespace Go.Proofs.YtadocbfchdendaaGreatDoor.P
open Go.RowKit
def entrepotlaw13_SheetNumbers.Pure : Prop := ∀ (a0 : ByteArray) (a1 : Int) (a2 : Int), a0.size ≤ 140737488351232 → (Lit.int .i64 a1).wf = true → (Lit.int .i64 a2).wf = true → ∃ k, entrepotlaw13_SheetNumbers.f k a0 a1 a2 = some true
end Go.Proofs.YtadocbfchdendaaGreatDoor.P
namespace Go.Proofs.YtadocbfchdendaaGreatDoor.Cu
open Go.RowKit Go.Lib Go.Proofs.YtadocbfchdendaaGreatDoorW.PrintWords Go.Proofs.YtadocbfchdendaaGreatDoorW.PrintLast Go.Proofs.YtadocbfchdendaaGreatDoorW.PrintMore Go.Proofs.YtadocbfchdendaaGreatDoor.P
set_option linter.unusedSimpArgs false
abbrev RLn := S100
abbrev RWd := S104
def toR (x : Ln) : RLn := ⟨x.f0, x.f1, x.f2⟩
def toW (x : Wd) : RWd := ⟨x.f0, x.f1⟩
theorem w64' {n : Int} (h1 : -9223372036854775808 ≤ n) (h2 : n ≤ 9223372036854775807) : wrap64 n = n := by unfold wrap64; omega
theorem succ' {k n : Nat} (h : n < k) : ∃ m, k = m + 1 ∧ n ≤ m := ⟨k - 1, by omega, by omega⟩
theorem bt_data (s : ByteArray) (i : Nat) (c : UInt8) (h : s.data.toList[i]? = some c) : bt s (i : Int) = (c.toNat : Int) := by
  have hi : i < s.data.toList.length := (List.getElem?_eq_some_iff.1 h).1
  have hc := (List.getElem?_eq_some_iff.1 h).2
  unfold bt
  rw [dif_pos (by rw [Int.toNat_natCast]; exact hi), ← hc]
  rfl
theorem get_data (s : ByteArray) (i : Nat) (h : i < s.size) : ∃ c, s.data.toList[i]? = some c := ⟨_, List.getElem?_eq_getElem (show i < s.data.toList.length from h)⟩
theorem nat_eq {c : UInt8} {n : Nat} (hn : n < 256) : ((c.toNat : Int) = (n : Int)) ↔ c = UInt8.ofNat n := by
  constructor
  · intro h
    apply UInt8.toNat_inj.1
    rw [UInt8.toNat_ofNat_of_lt' (by simpa using hn)]
    omega
  · intro h
    subst h
    rw [UInt8.toNat_ofNat_of_lt' (by simpa using hn)]
theorem lineT_hit (l : List UInt8) (m : Nat) (h1 : ∀ j c, j < m → l[j]? = some c → c ≠ 10) (h2 : l[m]? = some 10) : lineT l = l.take m := by
  induction m generalizing l with
  | zero =>
    cases l with
    | nil => simp at h2
    | cons c l => simp at h2; subst h2; simp [lineT]
  | succ m ih =>
    cases l with
    | nil => simp at h2
    | cons c l =>
      have hc := h1 0 c (by omega) rfl
      have := ih l (fun j d hj hd => h1 (j + 1) d (by omega) (by simpa using hd)) (by simpa using h2)
      rw [List.take_succ_cons, ← this]
      simp [lineT, List.takeWhile_cons, hc]
theorem lineT_all (l : List UInt8) (h1 : ∀ (j : Nat) c, l[j]? = some c → c ≠ 10) : lineT l = l := by
  induction l with
  | nil => rfl
  | cons c l ih =>
    have hc := h1 0 c rfl
    have := ih (fun j d hd => h1 (j + 1) d (by simpa using hd))
    simp only [lineT] at this ⊢
    rw [List.takeWhile_cons, if_pos (by simpa using hc), this]
theorem rlines_l (s : ByteArray) (hs : s.size < 1000000000) (d : Nat) : ∀ (i a k : Nat) (acc : List RLn), i + d = s.size → a ≤ i → acc.length ≤ a → (∀ j c, j < i - a → (s.data.toList.drop a)[j]? = some c → c ≠ 10) → d < k →
    entrepotref01_Lines.l0 k s acc a i = some (acc ++ (linesF (s.size - a) (s.data.toList.drop a) a).map toR) := by
  have hL : s.data.toList.length = s.size := rfl
  induction d with
  | zero =>
    intro i a k acc hi ha hacc hno hk
    obtain ⟨k, rfl, hk⟩ := succ' hk
    simp only [entrepotref01_Lines.l0]
    rw [if_neg (by omega)]
    by_cases hlt : a < s.size
    · rw [if_pos (by omega), if_pos (by omega)]
      have hT : lineT (s.data.toList.drop a) = s.data.toList.drop a := lineT_all _ (fun j c hj => hno j c (by
        have := (List.getElem?_eq_some_iff.1 hj).1
        rw [List.length_drop] at this; omega) hj)
      have hst := lines_step s.data.toList a hlt
      have hx : lineX (s.data.toList.drop a) a = ⟨a, (s.size : Nat), (s.size : Nat)⟩ := by
        unfold lineX
        rw [hT, if_neg (by omega), List.length_drop, hL, show a + (s.size - a) = s.size by omega]
      rw [hL, hx] at hst
      rw [hst]
      simp only [Int.toNat_natCast]
      rw [Nat.sub_self]
      simp [linesF, toR]
    · rw [if_neg (by omega), show s.size - a = 0 by omega]
      simp [linesF]
  | succ d ih =>
    intro i a k acc hi ha hacc hno hk
    obtain ⟨k, rfl, hk⟩ := succ' hk
    obtain ⟨c, hc⟩ := get_data s i (by omega)
    have hci : (s.data.toList.drop a)[i - a]? = some c := by rw [List.getElem?_drop, show a + (i - a) = i by omega]; exact hc
    simp only [entrepotref01_Lines.l0]
    rw [if_pos (by omega), if_pos (by omega), bt_data s i c hc]
    have e1 : wrap64 ((i : Int) + 1) = ((i + 1 : Nat) : Int) := by rw [w64' (by omega) (by omega)]; omega
    rw [e1]
    by_cases h10 : c = 10
    · subst h10
      rw [if_pos (by rfl)]
      have hT := lineT_hit _ (i - a) hno hci
      have hTl : (lineT (s.data.toList.drop a)).length = i - a := by rw [hT, List.length_take, List.length_drop]; omega
      have hst := lines_step s.data.toList a (by omega)
      have hx : lineX (s.data.toList.drop a) a = ⟨a, ((i - cr (lineT (s.data.toList.drop a)) : Nat) : Int), ((i + 1 : Nat) : Int)⟩ := by
        unfold lineX
        rw [hTl, if_pos (by rw [List.length_drop]; omega), show a + (i - a) = i by omega]
      rw [hx, hL] at hst
      simp only [Int.toNat_natCast] at hst
      have next : ∀ acc' : List RLn, acc' = acc ++ [toR ⟨a, ((i - cr (lineT (s.data.toList.drop a)) : Nat) : Int), ((i + 1 : Nat) : Int)⟩] → entrepotref01_Lines.l0 k s acc' ((i + 1 : Nat) : Int) ((i + 1 : Nat) : Int) = some (acc ++ (linesF (s.size - a) (s.data.toList.drop a) a).map toR) := by
        intro acc' e
        rw [ih (i + 1) (i + 1) k acc' (by omega) (Nat.le_refl _) (by rw [e]; simp; omega) (by intro j c hj; omega) (by omega), hst, e]
        simp
      by_cases hia : a < i
      · obtain ⟨c2, hc2⟩ := get_data s (i - 1) (by omega)
        have e2 : wrap64 ((i : Int) - 1) = ((i - 1 : Nat) : Int) := by rw [w64' (by omega) (by omega)]; omega
        have hlast : (lineT (s.data.toList.drop a)).getLast? = some c2 := by
          rw [hT, List.getLast?_eq_getElem?, List.length_take, List.length_drop, show min (i - a) (s.data.toList.length - a) - 1 = i - a - 1 by omega, List.getElem?_take_of_lt (by omega), List.getElem?_drop, show a + (i - a - 1) = i - 1 by omega]
          exact hc2
        rw [if_pos (by omega), e2, if_pos (by omega), if_pos (by omega), bt_data s (i - 1) c2 hc2]
        by_cases h13 : c2 = 13
        · subst h13
          rw [if_pos (by rfl), if_pos (by omega)]
          refine next _ ?_
          have : cr (lineT (s.data.toList.drop a)) = 1 := by unfold cr; rw [hlast]; rfl
          rw [this]; rfl
        · rw [if_neg (by rw [show (13 : Int) = ((13 : Nat) : Int) from rfl, nat_eq (by omega)]; exact h13), if_pos (by omega)]
          refine next _ ?_
          have : cr (lineT (s.data.toList.drop a)) = 0 := by unfold cr; rw [hlast, if_neg (by simpa using h13)]
          rw [this]; rfl
      · rw [if_neg (by omega), if_pos (by omega)]
        refine next _ ?_
        have h0 : lineT (s.data.toList.drop a) = [] := List.length_eq_zero_iff.1 (by omega)
        have : cr (lineT (s.data.toList.drop a)) = 0 := by rw [h0]; rfl
        rw [this]; rfl
    · rw [if_neg (by rw [show (10 : Int) = ((10 : Nat) : Int) from rfl, nat_eq (by omega)]; exact h10)]
      refine ih (i + 1) a k acc (by omega) (by omega) hacc (fun j c' hj hc' => ?_) (by omega)
      by_cases hj' : j < i - a
      · exact hno j c' hj' hc'
      · obtain rfl : j = i - a := by omega
        rw [hci] at hc'
        injection hc' with hc'
        rw [← hc']; exact h10
theorem RLines_eq (s : ByteArray) (hs : s.size < 1000000000) (k : Nat) (hk : s.size < k) : entrepotref01_Lines.f k s = some ((linesL s.data.toList).map toR) := by
  have := rlines_l s hs s.size 0 0 k [] (by omega) (Nat.le_refl _) (by simp) (by intro j c hj; omega) (by omega)
  simpa [entrepotref01_Lines.f, linesL] using this
theorem rblank_l (s : ByteArray) (hs : s.size < 1000000000) (b : Nat) (hb : b ≤ s.size) (x y z : Int) (hy : y = (b : Int)) (d : Nat) : ∀ (i k : Nat), i + d = b → d < k →
    entrepotref01_Blank.l0 k s i x y z = some (((s.data.toList.drop i).take (b - i)).all blankC) := by
  subst hy
  have hL : s.data.toList.length = s.size := rfl
  induction d with
  | zero =>
    intro i k hi hk
    obtain ⟨k, rfl, hk⟩ := succ' hk
    simp only [entrepotref01_Blank.l0]
    rw [if_neg (by omega), show b - i = 0 by omega]
    rfl
  | succ d ih =>
    intro i k hi hk
    obtain ⟨k, rfl, hk⟩ := succ' hk
    obtain ⟨c, hc⟩ := get_data s i (by omega)
    have hd : s.data.toList.drop i = c :: s.data.toList.drop (i + 1) := by
      rw [List.drop_eq_getElem_cons (show i < s.data.toList.length by omega)]
      congr 1
      exact Option.some.inj ((List.getElem?_eq_getElem (show i < s.data.toList.length by omega)).symm.trans hc)
    have e1 : wrap64 ((i : Int) + 1) = ((i + 1 : Nat) : Int) := by rw [w64' (by omega) (by omega)]; omega
    have ht : ((s.data.toList.drop i).take (b - i)).all blankC = (blankC c && ((s.data.toList.drop (i + 1)).take (b - (i + 1))).all blankC) := by
      rw [hd, show b - i = (b - (i + 1)) + 1 by omega, List.take_succ_cons, List.all_cons]
    simp only [entrepotref01_Blank.l0]
    rw [if_pos (by omega), if_pos (by omega), if_pos (by omega), bt_data s i c hc, e1, ht]
    have ih' := ih (i + 1) k (by omega) (by omega)
    by_cases h32 : c = 32
    · subst h32
      rw [if_pos (by rfl), ih']
      rfl
    · rw [if_neg (by rw [show (32 : Int) = ((32 : Nat) : Int) from rfl, nat_eq (by omega)]; exact h32)]
      by_cases h9 : c = 9
      · subst h9
        rw [if_pos (by rfl), ih']
        rfl
      · rw [if_neg (by rw [show (9 : Int) = ((9 : Nat) : Int) from rfl, nat_eq (by omega)]; exact h9)]
        have : blankC c = false := by unfold blankC; simp [h32, h9]
        rw [this]; rfl
theorem RBlank_eq (s : ByteArray) (hs : s.size < 1000000000) (x : Ln) (hx : LOk s x) (k : Nat) (hk : s.size < k) : entrepotref01_Blank.f k s x.f0 x.f1 x.f2 = some (blankL s.data.toList x) := by
  obtain ⟨h0, h1, h2⟩ := hx
  obtain ⟨a, ha⟩ := Int.eq_ofNat_of_zero_le h0
  obtain ⟨b, hb⟩ := Int.eq_ofNat_of_zero_le (show 0 ≤ x.f1 by omega)
  unfold entrepotref01_Blank.f blankL
  rw [ha, hb, rblank_l s hs b (by omega) _ _ _ rfl (b - a) a k (by omega) (by omega)]
  simp
theorem linesF_ok (s : ByteArray) (d : Nat) : ∀ a, a + d = s.size → ∀ x ∈ linesF (s.size - a) (s.data.toList.drop a) a, LOk s x := by
  induction d using Nat.strongRecOn with
  | ind d ih =>
    intro a ha x hx
    have hL : s.data.toList.length = s.size := rfl
    by_cases h0 : d = 0
    · rw [show s.size - a = 0 by omega] at hx
      simp [linesF] at hx
    · have hst := lines_step s.data.toList a (by omega)
      rw [hL] at hst
      rw [hst] at hx
      rcases List.mem_cons.1 hx with rfl | hx
      · exact lineX_ok s a (by omega)
      · have hn := lineX_next s.data.toList a (by omega)
        exact ih (s.size - (lineX (s.data.toList.drop a) a).f2.toNat) (by omega) _ (by omega) x hx
theorem linesL_ok (s : ByteArray) : ∀ x ∈ linesL s.data.toList, LOk s x := linesF_ok s s.size 0 (by omega)
theorem rd_map (l : List Ln) (i : Nat) (x : Ln) (h : l[i]? = some x) : rd_T100 (l.map toR) (i : Int) = toR x := by
  unfold rd_T100
  rw [Int.toNat_natCast, List.getD_eq_getElem?_getD, List.getElem?_map, h]
  rfl
theorem rrows_l (s : ByteArray) (hs : s.size < 1000000000) (L : List Ln) (hL : ∀ x ∈ L, LOk s x) (hlen : L.length < 1000000000) (d : Nat) : ∀ (i k : Nat) (acc : List RLn), i + d = L.length → acc.length ≤ i → s.size + 1 + d < k →
    entrepotref01_Rows.l0 k s acc (L.map toR) i = some (acc ++ ((L.drop i).filter (fun x => !blankL s.data.toList x)).map toR) := by
  induction d with
  | zero =>
    intro i k acc hi hacc hk
    obtain ⟨k, rfl, hk⟩ := succ' hk
    simp only [entrepotref01_Rows.l0]
    rw [if_neg (by rw [List.length_map]; omega), List.drop_of_length_le (by omega)]
    simp
  | succ d ih =>
    intro i k acc hi hacc hk
    obtain ⟨k, rfl, hk⟩ := succ' hk
    obtain ⟨x, hx⟩ : ∃ x, L[i]? = some x := ⟨_, List.getElem?_eq_getElem (show i < L.length by omega)⟩
    have hd : L.drop i = x :: L.drop (i + 1) := by
      rw [List.drop_eq_getElem_cons (show i < L.length by omega)]
      congr 1
      exact Option.some.inj ((List.getElem?_eq_getElem (show i < L.length by omega)).symm.trans hx)
    have e1 : wrap64 ((i : Int) + 1) = ((i + 1 : Nat) : Int) := by rw [w64' (by omega) (by omega)]; omega
    simp only [entrepotref01_Rows.l0]
    rw [if_pos (by rw [List.length_map]; omega), if_pos (by omega), rd_map L i x hx, e1]
    have hB := RBlank_eq s hs x (hL x (List.mem_of_getElem? hx)) k (by omega)
    rw [show (toR x).f0 = x.f0 from rfl, show (toR x).f1 = x.f1 from rfl, show (toR x).f2 = x.f2 from rfl, hB]
    simp only [Option.bind_some]
    rw [hd]
    cases hb : blankL s.data.toList x with
    | true =>
      rw [if_pos rfl, ih (i + 1) k acc (by omega) (by omega) (by omega)]
      simp [hb]
    | false =>
      rw [if_neg (by simp), if_pos (by omega), ih (i + 1) k _ (by omega) (by simp; omega) (by omega)]
      simp [hb, toR]
theorem linesL_len (s : List UInt8) : (linesL s).length ≤ s.length := linesF_len _ _ _
theorem RRows_eq (s : ByteArray) (hs : s.size < 1000000000) (k : Nat) (hk : 2 * s.size + 2 < k) : entrepotref01_Rows.f k s = some ((rowsL s.data.toList).map toR) := by
  have hl := linesL_len s.data.toList
  have hL : s.data.toList.length = s.size := rfl
  unfold entrepotref01_Rows.f
  rw [RLines_eq s hs k (by omega)]
  simp only [Option.bind_some]
  have := rrows_l s hs (linesL s.data.toList) (linesL_ok s) (by omega) (linesL s.data.toList).length 0 k [] (by omega) (by simp) (by omega)
  simpa [rowsL] using this
theorem rblankc (c : UInt8) : entrepotref03_blank.f (c.toNat : Int) = some (blankC c) := by
  unfold entrepotref03_blank.f blankC
  by_cases h32 : c = 32
  · subst h32; rfl
  · rw [if_neg (by rw [show (32 : Int) = ((32 : Nat) : Int) from rfl, nat_eq (by omega)]; exact h32)]
    have h0 : (c == 32) = false := by simpa using h32
    rw [h0, Bool.false_or]
    by_cases h9 : c = 9
    · subst h9; rfl
    · have h1 : (c == 9) = false := by simpa using h9
      rw [h1]
      have h2 : ¬ ((c.toNat : Int) = 9) := by rw [show (9 : Int) = ((9 : Nat) : Int) from rfl, nat_eq (by omega)]; exact h9
      rw [Option.some.injEq, beq_eq_false_iff_ne]; exact h2
def openW (ws : List Wd) (st : Option Nat) (i : Nat) : List RWd := ws.map toW ++ (match st with | none => [] | some b => [⟨b, i⟩])
theorem openW_none (ws : List Wd) (i j : Nat) : openW ws none i = openW ws none j := rfl
theorem rfields_l (s : ByteArray) (hs : s.size < 1000000000) (a b : Nat) (hb : b ≤ s.size) (d : Nat) : ∀ (i k : Nat) (ws : List Wd) (st : Option Nat), i + d = b → a ≤ i → ws.length + 1 ≤ i + 1 - a → (st = none → i = a ∨ ∃ c, s.data.toList[i - 1]? = some c ∧ blankC c = true) → (∀ e, st = some e → a < i ∧ ∃ c, s.data.toList[i - 1]? = some c ∧ blankC c = false) → d < k →
    entrepotref03_Fields.l0 k s a b (openW ws st i) i = some ((ws ++ fieldsG ((s.data.toList.drop i).take (b - i)) i st).map toW) := by
  have hL : s.data.toList.length = s.size := rfl
  induction d with
  | zero =>
    intro i k ws st hi ha hl hn hsm hk
    obtain ⟨k, rfl, hk⟩ := succ' hk
    simp only [entrepotref03_Fields.l0]
    rw [if_neg (by omega), show b - i = 0 by omega, List.take_zero]
    cases st with
    | none => simp [openW, fieldsG]
    | some e => simp [openW, fieldsG, toW]
  | succ d ih =>
    intro i k ws st hi ha hl hn hsm hk
    obtain ⟨k, rfl, hk⟩ := succ' hk
    obtain ⟨c, hc⟩ := get_data s i (by omega)
    have hd : (s.data.toList.drop i).take (b - i) = c :: (s.data.toList.drop (i + 1)).take (b - (i + 1)) := by
      rw [List.drop_eq_getElem_cons (show i < s.data.toList.length by omega), show b - i = (b - (i + 1)) + 1 by omega, List.take_succ_cons]
      congr 1
      exact Option.some.inj ((List.getElem?_eq_getElem (show i < s.data.toList.length by omega)).symm.trans hc)
    have e1 : wrap64 ((i : Int) + 1) = ((i + 1 : Nat) : Int) := by rw [w64' (by omega) (by omega)]; omega
    simp only [entrepotref03_Fields.l0]
    rw [if_pos (by omega), if_pos (by omega), if_pos (by omega), bt_data s i c hc, rblankc, e1, hd]
    simp only [Option.bind_some]
    have hlen : (openW ws st i).length ≤ ws.length + 1 := by
      unfold openW
      cases st <;> simp
    cases hbc : blankC c with
    | true =>
      rw [if_pos rfl]
      cases st with
      | none =>
        rw [fieldsG_none _ _ _ hbc, openW_none ws i (i + 1)]
        exact ih (i + 1) k ws none (by omega) (by omega) (by omega) (fun _ => .inr ⟨c, by rw [Nat.add_sub_cancel]; exact hc, hbc⟩) (by simp) (by omega)
      | some e =>
        rw [fieldsG_some _ _ _ _ hbc]
        have h1 : openW ws (some e) i = openW (ws ++ [(⟨(e : Int), (i : Int)⟩ : Wd)]) none (i + 1) := by simp [openW, toW]
        rw [h1, ih (i + 1) k (ws ++ [(⟨(e : Int), (i : Int)⟩ : Wd)]) none (by omega) (by omega) (by have := (hsm e rfl).1; simp; omega) (fun _ => .inr ⟨c, by rw [Nat.add_sub_cancel]; exact hc, hbc⟩) (by simp) (by omega)]
        simp
    | false =>
      rw [if_neg (by simp), fieldsG_skip _ _ _ _ hbc]
      cases st with
      | none =>
        have h2 : openW ws none i ++ [(⟨(i : Int), ((i + 1 : Nat) : Int)⟩ : RWd)] = openW ws (some i) (i + 1) := by simp [openW]
        have h3 := ih (i + 1) k ws (some i) (by omega) (by omega) (by omega) (by simp) (fun e _ => ⟨by omega, c, by rw [Nat.add_sub_cancel]; exact hc, hbc⟩) (by omega)
        rcases hn rfl with hia | ⟨c2, hc2, hb2⟩
        · rw [if_neg (by omega), if_pos (by omega), h2, h3]; rfl
        · by_cases hia : a < i
          · have e2 : wrap64 ((i : Int) - 1) = ((i - 1 : Nat) : Int) := by rw [w64' (by omega) (by omega)]; omega
            rw [if_pos (by omega), e2, if_pos (by omega), if_pos (by omega), bt_data s (i - 1) c2 hc2, rblankc, hb2]
            simp only [Option.bind_some, if_true]
            rw [if_pos (by omega), h2, h3]; rfl
          · rw [if_neg (by omega), if_pos (by omega), h2, h3]; rfl
      | some e =>
        obtain ⟨hia, c2, hc2, hb2⟩ := hsm e rfl
        have e2 : wrap64 ((i : Int) - 1) = ((i - 1 : Nat) : Int) := by rw [w64' (by omega) (by omega)]; omega
        have hol : (openW ws (some e) i).length = ws.length + 1 := by simp [openW]
        have e3 : wrap64 (((openW ws (some e) i).length : Int) - 1) = (ws.length : Int) := by rw [hol, w64' (by omega) (by omega)]; omega
        rw [if_pos (by omega), e2, if_pos (by omega), if_pos (by omega), bt_data s (i - 1) c2 hc2, rblankc, hb2]
        simp only [Option.bind_some, Bool.false_eq_true, if_false]
        rw [e3, if_pos (by omega), if_pos (by omega)]
        have h4 : (openW ws (some e) i).set ((ws.length : Int)).toNat ⟨(rd_T104 (openW ws (some e) i) (ws.length : Int)).f0, ((i + 1 : Nat) : Int)⟩ = openW ws (some e) (i + 1) := by
          have h5 : (openW ws (some e) i)[ws.length]? = some ⟨e, i⟩ := by
            unfold openW
            rw [List.getElem?_append_right (by simp)]
            simp
          have h6 : rd_T104 (openW ws (some e) i) (ws.length : Int) = ⟨e, i⟩ := by
            unfold rd_T104
            rw [Int.toNat_natCast, List.getD_eq_getElem?_getD, h5]; rfl
          rw [h6, Int.toNat_natCast]
          unfold openW
          rw [List.set_append_right _ _ (by simp)]
          simp
        rw [h4, ih (i + 1) k ws (some e) (by omega) (by omega) (by omega) (by simp) (fun e' _ => ⟨by omega, c, by rw [Nat.add_sub_cancel]; exact hc, hbc⟩) (by omega)]
        rfl
theorem RFields_eq (s : ByteArray) (hs : s.size < 1000000000) (a b : Nat) (hab : a ≤ b) (hb : b ≤ s.size) (k : Nat) (hk : s.size < k) : entrepotref03_Fields.f k s a b = some ((fieldsG ((s.data.toList.drop a).take (b - a)) a none).map toW) := by
  unfold entrepotref03_Fields.f
  have hp : entrepotref03_places.f s a b = some true := by
    unfold entrepotref03_places.f
    rw [if_pos (by omega), if_pos (by omega)]
    simp; omega
  simp only [Option.bind_some]
  rw [hp]
  simp only [Option.bind_some, if_true]
  have := rfields_l s hs a b hb (b - a) a k [] none (by omega) (Nat.le_refl _) (by simp) (fun _ => .inl rfl) (by simp) (by omega)
  simpa [openW] using this
end Go.Proofs.YtadocbfchdendaaGreatDoor.Cu
namespace Go.Proofs.YtadocbfchdendaaGreatDoor.Cu
open Go.RowKit Go.Lib Go.Proofs.YtadocbfchdendaaGreatDoorW.PrintWords Go.Proofs.YtadocbfchdendaaGreatDoorW.PrintLast Go.Proofs.YtadocbfchdendaaGreatDoorW.PrintMore Go.Proofs.YtadocbfchdendaaGreatDoor.P
set_option linter.unusedSimpArgs false
abbrev Row := S32
abbrev RRow := S36
def toRow (x : Row) : RRow := ⟨x.f0, x.f1.map toW⟩
def rowOf (s : List UInt8) (l : Ln) : Row := ⟨l.f0, fieldsG ((s.drop l.f0.toNat).take (l.f1.toNat - l.f0.toNat)) l.f0.toNat none⟩
def shR (s : List UInt8) (from_ : Int) : List Row := ((rowsL s).filter (fun l => decide (from_ ≤ l.f0))).map (rowOf s)
theorem rowsL_ok (s : ByteArray) : ∀ x ∈ rowsL s.data.toList, LOk s x := fun x hx => linesL_ok s x (List.mem_filter.1 hx).1
theorem rowsL_len (s : List UInt8) : (rowsL s).length ≤ s.length := Nat.le_trans (List.length_filter_le _ _) (linesL_len s)
theorem drop_cons' {α : Type} (L : List α) (i : Nat) (x : α) (hx : L[i]? = some x) : L.drop i = x :: L.drop (i + 1) := by
  have hi := (List.getElem?_eq_some_iff.1 hx).1
  rw [List.drop_eq_getElem_cons hi]
  congr 1
  exact Option.some.inj ((List.getElem?_eq_getElem hi).symm.trans hx)
theorem rdL (l : List Ln) (i : Nat) (x : Ln) (h : l[i]? = some x) : rd_T96 l (i : Int) = x := by
  unfold rd_T96
  rw [Int.toNat_natCast, List.getD_eq_getElem?_getD, h]
  rfl
theorem shrows_l (s : ByteArray) (hs : s.size < 1000000000) (from_ : Int) (L : List Ln) (hL : ∀ x ∈ L, LOk s x) (hlen : L.length < 1000000000) (d : Nat) : ∀ (i k : Nat) (acc : List Row), i + d = L.length → acc.length ≤ i → d < k →
    sheet_Rows.l0 k s from_ acc L (L.length : Int) i = some (acc ++ ((L.drop i).filter (fun l => decide (from_ ≤ l.f0))).map (rowOf s.data.toList)) := by
  induction d with
  | zero =>
    intro i k acc hi hacc hk
    obtain ⟨k, rfl, hk⟩ := succ' hk
    simp only [sheet_Rows.l0]
    rw [if_neg (by omega), List.drop_of_length_le (by omega)]
    simp
  | succ d ih =>
    intro i k acc hi hacc hk
    obtain ⟨k, rfl, hk⟩ := succ' hk
    obtain ⟨x, hx⟩ : ∃ x, L[i]? = some x := ⟨_, List.getElem?_eq_getElem (show i < L.length by omega)⟩
    have e1 : wrap64 ((i : Int) + 1) = ((i + 1 : Nat) : Int) := by rw [w64' (by omega) (by omega)]; omega
    obtain ⟨o1, o2, o3⟩ := hL x (List.mem_of_getElem? hx)
    simp only [sheet_Rows.l0]
    rw [if_pos (by omega), if_pos (by omega), if_pos (by omega), rdL L i x hx, e1, drop_cons' L i x hx]
    by_cases hf : from_ ≤ x.f0
    · rw [if_pos hf]
      unfold words_Fields.f
      rw [if_pos hs, if_pos ⟨o1, o2, o3⟩]
      simp only [Option.bind_some]
      rw [if_pos (by omega), ih (i + 1) k _ (by omega) (by simp; omega) (by omega)]
      simp [hf, rowOf]
    · rw [if_neg hf, ih (i + 1) k acc (by omega) (by omega) (by omega)]
      simp [hf]
theorem Rows_sheet (s : ByteArray) (hs : s.size < 1000000000) (from_ : Int) (k : Nat) (hk : s.size < k) : sheet_Rows.f k s from_ = some (shR s.data.toList from_) := by
  have hl := rowsL_len s.data.toList
  have hL : s.data.toList.length = s.size := rfl
  unfold sheet_Rows.f cursor_Rows.f
  rw [if_pos hs]
  simp only [Option.bind_some]
  have := shrows_l s hs from_ (rowsL s.data.toList) (rowsL_ok s) (by omega) (rowsL s.data.toList).length 0 k [] (by omega) (by simp) (by omega)
  simpa [shR] using this
theorem rshrows_l (s : ByteArray) (hs : s.size < 1000000000) (from_ : Int) (L : List Ln) (hL : ∀ x ∈ L, LOk s x) (hlen : L.length < 1000000000) (d : Nat) : ∀ (i k : Nat) (acc : List RRow), i + d = L.length → acc.length ≤ i → s.size + 1 + d < k →
    entrepotref13_Rows.l0 k s from_ acc (L.map toR) i = some (acc ++ (((L.drop i).filter (fun l => decide (from_ ≤ l.f0))).map (rowOf s.data.toList)).map toRow) := by
  induction d with
  | zero =>
    intro i k acc hi hacc hk
    obtain ⟨k, rfl, hk⟩ := succ' hk
    simp only [entrepotref13_Rows.l0]
    rw [if_neg (by rw [List.length_map]; omega), List.drop_of_length_le (by omega)]
    simp
  | succ d ih =>
    intro i k acc hi hacc hk
    obtain ⟨k, rfl, hk⟩ := succ' hk
    obtain ⟨x, hx⟩ : ∃ x, L[i]? = some x := ⟨_, List.getElem?_eq_getElem (show i < L.length by omega)⟩
    have e1 : wrap64 ((i : Int) + 1) = ((i + 1 : Nat) : Int) := by rw [w64' (by omega) (by omega)]; omega
    obtain ⟨o1, o2, o3⟩ := hL x (List.mem_of_getElem? hx)
    obtain ⟨a, ha⟩ := Int.eq_ofNat_of_zero_le o1
    obtain ⟨b, hb⟩ := Int.eq_ofNat_of_zero_le (show 0 ≤ x.f1 by omega)
    simp only [entrepotref13_Rows.l0]
    rw [if_pos (by rw [List.length_map]; omega), if_pos (by omega), rd_map L i x hx, e1, drop_cons' L i x hx]
    rw [show (toR x).f0 = x.f0 from rfl, show (toR x).f1 = x.f1 from rfl]
    by_cases hf : from_ ≤ x.f0
    · rw [if_pos hf, ha, hb, RFields_eq s hs a b (by omega) (by omega) k (by omega)]
      simp only [Option.bind_some]
      rw [if_pos (by omega), ih (i + 1) k _ (by omega) (by simp; omega) (by omega)]
      rw [List.filter_cons_of_pos (by simpa using hf)]
      simp [rowOf, toRow, ha, hb]
    · rw [if_neg hf, ih (i + 1) k acc (by omega) (by omega) (by omega)]
      simp [hf]
theorem Rows_ref (s : ByteArray) (hs : s.size < 1000000000) (from_ : Int) (k : Nat) (hk : 2 * s.size + 2 < k) : entrepotref13_Rows.f k s from_ = some ((shR s.data.toList from_).map toRow) := by
  have hl := rowsL_len s.data.toList
  have hL : s.data.toList.length = s.size := rfl
  unfold entrepotref13_Rows.f
  rw [RRows_eq s hs k hk]
  simp only [Option.bind_some]
  have := rshrows_l s hs from_ (rowsL s.data.toList) (rowsL_ok s) (by omega) (rowsL s.data.toList).length 0 k [] (by omega) (by simp) (by omega)
  simpa [shR] using this
end Go.Proofs.YtadocbfchdendaaGreatDoor.Cu
namespace Go.Proofs.YtadocbfchdendaaGreatDoor.P
open Go.RowKit Go.Proofs.YtadocbfchdendaaGreatDoorW.PrintWords Go.Proofs.YtadocbfchdendaaGreatDoorW.PrintLast Go.Proofs.YtadocbfchdendaaGreatDoorW.PrintMore
attribute [local go_sem] max2_int min2_int max_two min_two max_three min_three max_four min_four   -- for this text's walks alone
set_option linter.unusedVariables false
set_option linter.unusedSimpArgs false
def entrepotref13_Title.l0 : Nat → ByteArray → ByteArray → ByteArray → Int → Int → List (S104) → Option (Bool)
 | 0, _, _, _, _, _, _ => none
 | k + 1, x0, x2, x7, x8, x102000, x102001 => if x8 < (x102001.length : Int) then (if x8 > 0 then (if x7.size + 1 ≤ 9223372036854775807 then (if 0 ≤ x8 then ((entrepotref03_Text.f x0 ((rd_T104 x102001 x8).f0) ((rd_T104 x102001 x8).f1)).bind fun t103 => (if (x7 ++ (⟨#[32]⟩ : ByteArray)).size + t103.size ≤ 9223372036854775807 then (entrepotref13_Title.l0 k x0 x2 ((x7 ++ (⟨#[32]⟩ : ByteArray)) ++ t103) (wrap64 (x8 + 1)) x102000 x102001) else (none))) else (none)) else (none)) else (if 0 ≤ x8 then ((entrepotref03_Text.f x0 ((rd_T104 x102001 x8).f0) ((rd_T104 x102001 x8).f1)).bind fun t105 => (if x7.size + t105.size ≤ 9223372036854775807 then (entrepotref13_Title.l0 k x0 x2 (x7 ++ t105) (wrap64 (x8 + 1)) x102000 x102001) else (none))) else (none))) else (some (x7.toList == x2.toList))
def entrepotref13_Title.f (k : Nat) (a0 : ByteArray) (a1_0 : Int) (l1_1 : List (S104)) (a2 : ByteArray) : Option (Bool) := entrepotref13_Title.l0 k a0 a2 (⟨#[]⟩ : ByteArray) 0 a1_0 l1_1
theorem entrepotref13_Title.mono_l : ∀ k, (∀ y0 y1 y2 y3 y4 y5, LeO (entrepotref13_Title.l0 k y0 y1 y2 y3 y4 y5) (entrepotref13_Title.l0 (k + 1) y0 y1 y2 y3 y4 y5))
 | 0 => fun _ _ _ _ _ _ r h => by simp [entrepotref13_Title.l0] at h
 | k + 1 => by
  have ih0 := entrepotref13_Title.mono_l k
  ·intro y0 y1 y2 y3 y4 y5
   unfold entrepotref13_Title.l0
   repeat' first
   | (with_reducible exact ih0 _ _ _ _ _ _)
   | (with_reducible exact LeO.refl _)
   | (with_reducible exact LeO.none _)
   | (with_reducible refine LeO.ite ?_ ?_)
   | (with_reducible refine LeO.bind ?_ (fun _ => ?_))
   | exact ih0 _ _ _ _ _ _
   | exact LeO.none _
   | refine LeO.ite ?_ ?_
   | refine LeO.bind ?_ (fun _ => ?_)
theorem entrepotref13_Title.mono : ∀ a0 a1 a2 a3 k, LeO (entrepotref13_Title.f k a0 a1 a2 a3) (entrepotref13_Title.f (k + 1) a0 a1 a2 a3) := by
 intro a0 a1 a2 a3 k
 have ih0 := entrepotref13_Title.mono_l k; unfold entrepotref13_Title.f
 repeat' first
   | (with_reducible exact ih0 _ _ _ _ _ _)
   | (with_reducible exact LeO.refl _)
   | (with_reducible exact LeO.none _)
   | (with_reducible refine LeO.ite ?_ ?_)
   | (with_reducible refine LeO.bind ?_ (fun _ => ?_))
   | exact ih0 _ _ _ _ _ _
   | exact LeO.none _
   | refine LeO.ite ?_ ?_
   | refine LeO.bind ?_ (fun _ => ?_)
set_option maxHeartbeats 8000000 in
set_option maxRecDepth 100000 in
theorem entrepotref13_Title.calls (k : Nat) (a0 : ByteArray) (a1_0 : Int) (A1_1 : Option Addr) (c1_1 : Nat) (l1_1 : List (S104)) (a2 : ByteArray) (r : Bool) (w : World) (hr1_1 : Kd.C k104 w A1_1 l1_1.length l1_1) (hc1_1 : l1_1.length ≤ c1_1) (h : entrepotref13_Title.f k a0 a1_0 l1_1 a2 = some r) :
  Calls Tryz.prog 20 #[.string a0, .agg #[.int .i64 a1_0, .slice A1_1 l1_1.length c1_1], .string a2] w fun e w' => e = .returned (.bool r) ∧ Below w.heap.size w w' := by
 have hu36 := Tryz.underlying36; have hu104 := Tryz.underlying104; have HR1_1 := Aside0.mk hr1_1; have HC1_1 := Aside0.mk hc1_1; clear hr1_1 hc1_1; have HB := Aside0.mk (Below.refl w.heap.size w); have H : (entrepotref13_Title.l0 k a0 a2 (⟨#[]⟩ : ByteArray) 0 a1_0 l1_1) = some r := h; clear h; have H' := Aside0.mk H; clear H; go_enter Tryz.func20, Tryz.ntmps20
 go_wp2_with (first | ((with_reducible refine gate_dst (N := 4) rfl ?_); refine box_ev (N := 4) (cs := #[.int .i64 a1_0, .slice A1_1 l1_1.length c1_1]) (t := 36) ?_; intro gb101 hg w4 hbox hb; have BK101 := Aside0.mk (hbox); have GW101 := Aside0.mk ((qg : w.heap.size ≤ gb101)); have GE101 := Aside0.mk ((qg : w.heap.size ≤ gb101)); replace HB := cB HB hb; clear hb hbox hg))
 (try simp only [Act.put, List.setIfInBounds_toArray, List.set_cons_zero, List.set_cons_succ])
 go_loopg [7, 8] k (fun kq v7 v8 w' => ∃ (x7_1 : ByteArray) (x8_1 : Int), v7 = .string x7_1 ∧ v8 = .int .i64 x8_1 ∧ Aside0 (entrepotref13_Title.l0 kq a0 a2 x7_1 x8_1 a1_0 l1_1 = some r) ∧ Aside0 (kq ≤ k) ∧ Aside0 (w'.heap[gb101]? = some (.cells #[.int .i64 a1_0, (.slice A1_1 l1_1.length c1_1)] 36 (0, 0))) ∧ Aside0 (Below w.heap.size w w'))
 case atStart => exact ⟨((⟨#[]⟩ : ByteArray)), (0), qr, qr, H', ⟨Nat.le_refl _⟩, ⟨qk BK101.out⟩, ⟨qb⟩⟩
 case round =>
  clear H'; (try clear c1); (try clear c2); (try clear p2); obtain ⟨x7_1, x8_1, rfl, rfl, HA, HK1, BK101, HB⟩ := hrel; cases gk with
  | zero => exact absurd HA.out (by simp [entrepotref13_Title.l0])
  | succ k1 =>
   have H := HA.out; clear HA; simp only [entrepotref13_Title.l0] at H
   by_cases c5 : x8_1 < (l1_1.length : Int)
   ·rw [if_pos c5] at H; have c5b0 := decide_eq_true c5; clear c5
    by_cases c6 : x8_1 > 0
    ·rw [if_pos c6] at H; have c6b0 := decide_eq_true c6; clear c6
     by_cases c7 : x7_1.size + 1 ≤ 9223372036854775807
     ·rw [if_pos c7] at H; have c7b0 := eq_true c7; have c7b1 := decide_eq_true c7
      try have c7b2 : (9223372036854775807 < x7_1.size + 1) = False := eq_false (Nat.not_lt.2 c7)
      by_cases c8 : 0 ≤ x8_1
      ·rw [if_pos c8] at H; have c8b0 := decide_eq_true c8; clear c8; replace H := Option.bind_eq_some_iff.mp H; obtain ⟨t103, A90, H⟩ := H; (try dsimp only at H); have A9 := Aside0.mk A90; clear A90
       by_cases c10 : (x7_1 ++ (⟨#[32]⟩ : ByteArray)).size + t103.size ≤ 9223372036854775807
       ·rw [if_pos c10] at H; have c10s : x7_1.size + 1 + t103.size ≤ 9223372036854775807 := by (have z_ := c10); simp only [ByteArray.size_append] at z_; exact z_
        replace c10s := eq_true c10s
        try have c10t := eq_false (Nat.not_lt.2 (of_eq_true c10s))
        have c10b0 := eq_true c10; have c10b1 := decide_eq_true c10
        try have c10b2 : (9223372036854775807 < (x7_1 ++ (⟨#[32]⟩ : ByteArray)).size + t103.size) = False := eq_false (Nat.not_lt.2 c10)
        have H' := Aside0.mk H; clear H; obtain ⟨hcz11_0, hcz11_1, hfz11_0, hfz11_1⟩ := bc2 BK101.out; have p102 : 0 ≤ (x8_1 : Int) := of_decide_eq_true qa; have q102 : x8_1 < (l1_1.length : Int) := of_decide_eq_true qa; obtain ⟨ad102, e102, hx102_0, hx102_1⟩ := at_T104 HR1_1.out x8_1 p102 q102; cases e102; replace hx102_0 := (HB.out.cell (World.block_lt_of_cell? w _ hx102_0)).trans hx102_0; replace hx102_1 := (HB.out.cell (World.block_lt_of_cell? w _ hx102_1)).trans hx102_1; (try simp only [Go.IntWalk.toNatUp] at hx102_0); (try simp only [Go.IntWalk.toNatUp] at hx102_1); replace p102 := eq_true p102; replace q102 := eq_true q102
        go_wp2_with (first | ((with_reducible refine gate_callee (f := 55) rfl ?_); refine goesL_ (some 27) rfl rfl Tryz.func55 (by kernel_rfl) rfl #[.string a0, .agg #[.int .i64 ((rd_T104 l1_1 x8_1).f0), .int .i64 ((rd_T104 l1_1 x8_1).f1)]] rfl qm ?_; (with_reducible refine (entrepotref03_Text.calls a0 ((rd_T104 l1_1 x8_1).f0) ((rd_T104 l1_1 x8_1).f1) t103 _ A9.out).mono ?_); rintro e w12 ⟨rfl, hb⟩; refine ⟨_, rfl, ?_⟩; replace BK101 := cK BK101 hb; replace HB := cB HB hb; (try clear hb); (try clear hb2); (try clear hk); (try clear hi)))
        go_roundg k1
        case measure => have := HK1.out; omega
        case rel => exact ⟨((x7_1 ++ (⟨#[32]⟩ : ByteArray)) ++ t103), (wrap64 (x8_1 + 1)), qr, qr, H', ⟨by have := HK1.out; omega⟩, ⟨qk BK101.out⟩, ⟨qb⟩⟩
       ·rw [if_neg c10] at H
        exact absurd H (by simp)
      ·rw [if_neg c8] at H
       exact absurd H (by simp)
     ·rw [if_neg c7] at H
      exact absurd H (by simp)
    ·rw [if_neg c6] at H; have c6b0 := decide_eq_false c6; clear c6
     by_cases c13 : 0 ≤ x8_1
     ·rw [if_pos c13] at H; have c13b0 := decide_eq_true c13; clear c13; replace H := Option.bind_eq_some_iff.mp H; obtain ⟨t105, A140, H⟩ := H; (try dsimp only at H); have A14 := Aside0.mk A140; clear A140
      by_cases c15 : x7_1.size + t105.size ≤ 9223372036854775807
      ·rw [if_pos c15] at H; have c15b0 := eq_true c15; have c15b1 := decide_eq_true c15
       try have c15b2 : (9223372036854775807 < x7_1.size + t105.size) = False := eq_false (Nat.not_lt.2 c15)
       have H' := Aside0.mk H; clear H; obtain ⟨hcz16_0, hcz16_1, hfz16_0, hfz16_1⟩ := bc2 BK101.out; have p104 : 0 ≤ (x8_1 : Int) := of_decide_eq_true qa; have q104 : x8_1 < (l1_1.length : Int) := of_decide_eq_true qa; obtain ⟨ad104, e104, hx104_0, hx104_1⟩ := at_T104 HR1_1.out x8_1 p104 q104; cases e104; replace hx104_0 := (HB.out.cell (World.block_lt_of_cell? w _ hx104_0)).trans hx104_0; replace hx104_1 := (HB.out.cell (World.block_lt_of_cell? w _ hx104_1)).trans hx104_1; (try simp only [Go.IntWalk.toNatUp] at hx104_0); (try simp only [Go.IntWalk.toNatUp] at hx104_1); replace p104 := eq_true p104; replace q104 := eq_true q104
       go_wp2_with (first | ((with_reducible refine gate_callee (f := 55) rfl ?_); refine goesL_ (some 27) rfl rfl Tryz.func55 (by kernel_rfl) rfl #[.string a0, .agg #[.int .i64 ((rd_T104 l1_1 x8_1).f0), .int .i64 ((rd_T104 l1_1 x8_1).f1)]] rfl qm ?_; (with_reducible refine (entrepotref03_Text.calls a0 ((rd_T104 l1_1 x8_1).f0) ((rd_T104 l1_1 x8_1).f1) t105 _ A14.out).mono ?_); rintro e w17 ⟨rfl, hb⟩; refine ⟨_, rfl, ?_⟩; replace BK101 := cK BK101 hb; replace HB := cB HB hb; (try clear hb); (try clear hb2); (try clear hk); (try clear hi)))
       go_roundg k1
       case measure => have := HK1.out; omega
       case rel => exact ⟨(x7_1 ++ t105), (wrap64 (x8_1 + 1)), qr, qr, H', ⟨by have := HK1.out; omega⟩, ⟨qk BK101.out⟩, ⟨qb⟩⟩
      ·rw [if_neg c15] at H
       exact absurd H (by simp)
     ·rw [if_neg c13] at H
      exact absurd H (by simp)
   ·rw [if_neg c5] at H; have c5b0 := decide_eq_false c5; clear c5; obtain rfl := Option.some.inj H; obtain ⟨hcz18_0, hcz18_1, hfz18_0, hfz18_1⟩ := bc2 BK101.out
    go_wp2
    go_ret
    exact ⟨qe, qb⟩

end Go.Proofs.YtadocbfchdendaaGreatDoor.P
namespace Go.Proofs.YtadocbfchdendaaGreatDoor.Cu
open Go.RowKit Go.Lib Go.Proofs.YtadocbfchdendaaGreatDoorW.PrintWords Go.Proofs.YtadocbfchdendaaGreatDoorW.PrintLast Go.Proofs.YtadocbfchdendaaGreatDoorW.PrintMore Go.Proofs.YtadocbfchdendaaGreatDoor.P
set_option linter.unusedSimpArgs false
theorem shown13 : entrepotlaw13_shown.f 60 = some true := by kernel_rfl
theorem up13 (k : Nat) (hk : 60 ≤ k) : entrepotlaw13_shown.f k = some true := by
  obtain ⟨d, rfl⟩ : ∃ d, k = 60 + d := ⟨k - 60, by omega⟩
  induction d with
  | zero => exact shown13
  | succ d ih => exact entrepotlaw13_shown.mono (60 + d) _ (ih (by omega))
theorem rdS (l : List Row) (i : Nat) (x : Row) (h : l[i]? = some x) : rd_T32 l (i : Int) = x := by
  unfold rd_T32
  rw [Int.toNat_natCast, List.getD_eq_getElem?_getD, h]
  rfl
theorem rdW (l : List Wd) (i : Nat) (x : Wd) (h : l[i]? = some x) : rd_T105 l (i : Int) = x := by
  unfold rd_T105
  rw [Int.toNat_natCast, List.getD_eq_getElem?_getD, h]
  rfl
theorem rdRW (l : List RWd) (i : Nat) (x : RWd) (h : l[i]? = some x) : rd_T104 l (i : Int) = x := by
  unfold rd_T104
  rw [Int.toNat_natCast, List.getD_eq_getElem?_getD, h]
  rfl
theorem rdRR (l : List RRow) (i : Nat) (x : RRow) (h : l[i]? = some x) : rd_T36 l (i : Int) = x := by
  unfold rd_T36
  rw [Int.toNat_natCast, List.getD_eq_getElem?_getD, h]
  rfl
theorem its_in (l : List Row) (i : Nat) (x : Row) (hx : l[i]? = some x) (hlen : l.length < 1000000000) (hw : x.f1.length < 1000000000) (acc : List RRow) (f : Int) (d : Nat) : ∀ (j k : Nat) (ws : List RWd), j + d = x.f1.length → ws.length ≤ j → d < k → acc.length < 1000000000 →
    ∃ k', k' + d + 1 = k ∧ entrepotlaw13_its.l1 k l acc i j f ws = entrepotlaw13_its.l0 k' l (acc ++ [⟨f, ws ++ (x.f1.drop j).map toW⟩]) (wrap64 ((i : Int) + 1)) := by
  have hi := (List.getElem?_eq_some_iff.1 hx).1
  induction d with
  | zero =>
    intro j k ws hj hws hk hacc
    obtain ⟨k, rfl, hk⟩ := succ' hk
    refine ⟨k, rfl, ?_⟩
    simp only [entrepotlaw13_its.l1]
    rw [if_pos (by omega), if_pos (by omega), rdS l i x hx, if_neg (by omega), if_pos (by omega), List.drop_of_length_le (by omega)]
    simp
  | succ d ih =>
    intro j k ws hj hws hk hacc
    obtain ⟨k, rfl, hk⟩ := succ' hk
    obtain ⟨y, hy⟩ : ∃ y, x.f1[j]? = some y := ⟨_, List.getElem?_eq_getElem (show j < x.f1.length by omega)⟩
    have e1 : wrap64 ((j : Int) + 1) = ((j + 1 : Nat) : Int) := by rw [w64' (by omega) (by omega)]; omega
    obtain ⟨k', hk', hE⟩ := ih (j + 1) k (ws ++ [toW y]) (by omega) (by simp; omega) (by omega) hacc
    refine ⟨k', by omega, ?_⟩
    simp only [entrepotlaw13_its.l1]
    rw [if_pos (by omega), if_pos (by omega), rdS l i x hx, if_pos (by omega), if_pos (by omega), if_pos (by omega), rdW x.f1 j y hy, e1]
    rw [show (⟨y.f0, y.f1⟩ : RWd) = toW y from rfl, hE, drop_cons' x.f1 j y hy]
    simp
theorem its_l (l : List Row) (hlen : l.length < 1000000000) (M : Nat) (hM : M < 1000000000) (hw : ∀ x ∈ l, x.f1.length ≤ M) (d : Nat) : ∀ (i k : Nat) (acc : List RRow), i + d = l.length → acc.length ≤ i → d * (M + 2) < k →
    entrepotlaw13_its.l0 k l acc i = some (acc ++ (l.drop i).map toRow) := by
  induction d with
  | zero =>
    intro i k acc hi hacc hk
    obtain ⟨k, rfl, hk⟩ := succ' hk
    simp only [entrepotlaw13_its.l0]
    rw [if_neg (by omega), List.drop_of_length_le (by omega)]
    simp
  | succ d ih =>
    intro i k acc hi hacc hk
    obtain ⟨k, rfl, hk⟩ := succ' hk
    obtain ⟨x, hx⟩ : ∃ x, l[i]? = some x := ⟨_, List.getElem?_eq_getElem (show i < l.length by omega)⟩
    have hxm := hw x (List.mem_of_getElem? hx)
    have e1 : wrap64 ((i : Int) + 1) = ((i + 1 : Nat) : Int) := by rw [w64' (by omega) (by omega)]; omega
    rw [Nat.succ_mul] at hk
    simp only [entrepotlaw13_its.l0]
    rw [if_pos (by omega), if_pos (by omega), rdS l i x hx]
    obtain ⟨k', hk', hE⟩ := its_in l i x hx hlen (by omega) acc x.f0 x.f1.length 0 k [] (by omega) (by simp) (by omega) (by omega)
    rw [show (0 : Int) = ((0 : Nat) : Int) from rfl, hE, e1, ih (i + 1) k' _ (by omega) (by simp; omega) (by omega), drop_cons' l i x hx]
    simp [toRow]
theorem its_eq (l : List Row) (hlen : l.length < 1000000000) (M : Nat) (hM : M < 1000000000) (hw : ∀ x ∈ l, x.f1.length ≤ M) (k : Nat) (hk : l.length * (M + 2) < k) : entrepotlaw13_its.f k l = some (l.map toRow) := by
  have := its_l l hlen M hM hw l.length 0 k [] (by omega) (by simp) hk
  simpa [entrepotlaw13_its.f] using this
theorem same3_l (l : List RWd) (hl : l.length < 1000000000) (d : Nat) : ∀ (i k : Nat), i + d = l.length → d < k → entrepotref03_Same.l0 k l l i = some true := by
  induction d with
  | zero =>
    intro i k hi hk
    obtain ⟨k, rfl, hk⟩ := succ' hk
    simp only [entrepotref03_Same.l0]
    rw [if_neg (by omega)]
  | succ d ih =>
    intro i k hi hk
    obtain ⟨k, rfl, hk⟩ := succ' hk
    have e1 : wrap64 ((i : Int) + 1) = ((i + 1 : Nat) : Int) := by rw [w64' (by omega) (by omega)]; omega
    simp only [entrepotref03_Same.l0]
    rw [if_pos (by omega), if_pos (by omega), if_pos (by omega), if_neg (by simp), e1]
    exact ih (i + 1) k (by omega) (by omega)
theorem Same3 (l : List RWd) (hl : l.length < 1000000000) (k : Nat) (hk : l.length < k) : entrepotref03_Same.f k l l = some true := by
  unfold entrepotref03_Same.f
  rw [if_pos rfl]
  exact same3_l l hl l.length 0 k (by omega) hk
theorem same13_l (l : List RRow) (hl : l.length < 1000000000) (M : Nat) (hM : M < 1000000000) (hw : ∀ x ∈ l, x.f1.length ≤ M) (d : Nat) : ∀ (i k : Nat), i + d = l.length → d + M + 1 < k → entrepotref13_Same.l0 k l l i = some true := by
  induction d with
  | zero =>
    intro i k hi hk
    obtain ⟨k, rfl, hk⟩ := succ' hk
    simp only [entrepotref13_Same.l0]
    rw [if_neg (by omega)]
  | succ d ih =>
    intro i k hi hk
    obtain ⟨k, rfl, hk⟩ := succ' hk
    have e1 : wrap64 ((i : Int) + 1) = ((i + 1 : Nat) : Int) := by rw [w64' (by omega) (by omega)]; omega
    obtain ⟨x, hx⟩ : ∃ x, l[i]? = some x := ⟨_, List.getElem?_eq_getElem (show i < l.length by omega)⟩
    have hxm := hw x (List.mem_of_getElem? hx)
    simp only [entrepotref13_Same.l0]
    rw [if_pos (by omega), if_pos (by omega), if_pos (by omega), if_pos trivial, rdRR l i x hx, Same3 x.f1 (by omega) k (by omega)]
    simp only [Option.bind_some, if_true]
    rw [e1]
    exact ih (i + 1) k (by omega) (by omega)
theorem Same13 (l : List RRow) (hl : l.length < 1000000000) (M : Nat) (hM : M < 1000000000) (hw : ∀ x ∈ l, x.f1.length ≤ M) (k : Nat) (hk : l.length + M + 1 < k) : entrepotref13_Same.f k l l = some true := by
  unfold entrepotref13_Same.f
  rw [if_pos rfl]
  exact same13_l l hl M hM hw l.length 0 k (by omega) hk
end Go.Proofs.YtadocbfchdendaaGreatDoor.Cu
namespace Go.Proofs.YtadocbfchdendaaGreatDoor.Cu
open Go.RowKit Go.Lib Go.Proofs.YtadocbfchdendaaGreatDoorW.PrintWords Go.Proofs.YtadocbfchdendaaGreatDoorW.PrintLast Go.Proofs.YtadocbfchdendaaGreatDoorW.PrintMore Go.Proofs.YtadocbfchdendaaGreatDoor.P
set_option linter.unusedSimpArgs false
def txt (s : ByteArray) (x y : Int) : ByteArray := if 0 ≤ x ∧ x ≤ y ∧ y ≤ (s.size : Int) then s.extract x.toNat y.toNat else ⟨#[]⟩
theorem txt_size (s : ByteArray) (x y : Int) : (txt s x y).size ≤ s.size := by
  unfold txt
  split
  · rw [ByteArray.size_extract]; omega
  · exact Nat.zero_le _
theorem Text_eq (s : ByteArray) (x y : Int) : words_Text.f s x y = some (txt s x y) := by
  unfold words_Text.f words_places.f txt
  by_cases h0 : 0 ≤ x
  · by_cases h1 : x ≤ y
    · by_cases h2 : y ≤ (s.size : Int)
      · simp [h0, h1, h2]
      · simp [h0, h1, h2]
    · simp [h0, h1]
  · simp [h0]
theorem RText_eq (s : ByteArray) (x y : Int) : entrepotref03_Text.f s x y = some (txt s x y) := by
  unfold entrepotref03_Text.f entrepotref03_places.f txt
  by_cases h0 : 0 ≤ x
  · by_cases h1 : x ≤ y
    · by_cases h2 : y ≤ (s.size : Int)
      · simp [h0, h1, h2]
      · simp [h0, h1, h2]
    · simp [h0, h1]
  · simp [h0]
theorem shR_len (s : List UInt8) (f : Int) : (shR s f).length ≤ s.length := by
  unfold shR
  rw [List.length_map]
  exact Nat.le_trans (List.length_filter_le _ _) (rowsL_len s)
theorem shR_words (s : List UInt8) (f : Int) : ∀ x ∈ shR s f, x.f1.length ≤ s.length + 1 := by
  intro x hx
  obtain ⟨l, _, rfl⟩ := List.mem_map.1 hx
  have := fieldsG_len ((s.drop l.f0.toNat).take (l.f1.toNat - l.f0.toNat)) l.f0.toNat none
  rw [List.length_take, List.length_drop] at this
  show (fieldsG ((s.drop l.f0.toNat).take (l.f1.toNat - l.f0.toNat)) l.f0.toNat none).length ≤ _
  omega
end Go.Proofs.YtadocbfchdendaaGreatDoor.Cu
namespace Go.Proofs.YtadocbfchdendaaGreatDoor.Sp
theorem pow_pos' (n : Nat) : (0 : Int) < 10 ^ n := Int.pow_pos (by decide)
theorem pow_cast (n : Nat) : ((10 ^ n : Nat) : Int) = (10 : Int) ^ n := by simp
theorem pow_le' {a b : Nat} (h : a ≤ b) : (10 : Int) ^ a ≤ 10 ^ b := by
  rw [← pow_cast, ← pow_cast]
  exact Int.ofNat_le.2 (Nat.pow_le_pow_right (by omega) h)
end Go.Proofs.YtadocbfchdendaaGreatDoor.Sp
namespace Go.Proofs.YtadocbfchdendaaGreatDoor.P
open Go.RowKit Go.Proofs.YtadocbfchdendaaGreatDoor.Sp Go.Proofs.YtadocbfchdendaaGreatDoorW.PrintWords Go.Proofs.YtadocbfchdendaaGreatDoorW.PrintLast Go.Proofs.YtadocbfchdendaaGreatDoorW.PrintMore
set_option linter.unusedSimpArgs false
theorem w64 {n : Int} (h1 : -9223372036854775808 ≤ n) (h2 : n ≤ 9223372036854775807) : wrap64 n = n := by unfold wrap64; omega
theorem succ_of {k n : Nat} (h : n < k) : ∃ m, k = m + 1 ∧ n ≤ m := ⟨k - 1, by omega, by omega⟩

structure NumOk (m : Int) (s : Nat) : Prop where
  lo : -1000000000000 ≤ m
  hi : m ≤ 1000000000000
  sc : s ≤ 6

end Go.Proofs.YtadocbfchdendaaGreatDoor.P
namespace Go.Proofs.YtadocbfchdendaaGreatDoor.P
open Go.RowKit Go.Proofs.YtadocbfchdendaaGreatDoorW.PrintWords Go.Proofs.YtadocbfchdendaaGreatDoorW.PrintLast Go.Proofs.YtadocbfchdendaaGreatDoorW.PrintMore
attribute [local go_sem] max2_int min2_int max_two min_two max_three min_three max_four min_four   -- for this text's walks alone
set_option linter.unusedVariables false
set_option linter.unusedSimpArgs false
def entrepotref02_To.j0 : Nat → Int → Bool → Int → Int → Option (Int × Int)
 | 0, _, _, _, _ => none
 | k + 1, x1, x12, x102000, x102001 => if x12 = true then (some (0, 1)) else ((entrepotref02_Least.f k x102000 x102001).bind fun bt102 => (if bt102.2 > x1 then (some (0, 21)) else ((entrepotref02_tens.f k (wrap64 (x1 - bt102.2))).bind fun t104 => (if (wrap64 (bt102.1 * t104)) > 100000000 then (some (0, 2)) else (if (wrap64 (bt102.1 * t104)) < (-100000000) then (some (0, 2)) else (some (wrap64 (bt102.1 * t104), 0)))))))
def entrepotref02_To.f (k : Nat) (a0_0 : Int) (a0_1 : Int) (a1 : Int) : Option (Int × Int) := if a1 < 0 then (entrepotref02_To.j0 k a1 true a0_0 a0_1) else (entrepotref02_To.j0 k a1 (decide (a1 > 6)) a0_0 a0_1)
theorem entrepotref02_To.mono_l : ∀ k, (∀ y0 y1 y2 y3, LeO (entrepotref02_To.j0 k y0 y1 y2 y3) (entrepotref02_To.j0 (k + 1) y0 y1 y2 y3))
 | 0 => fun _ _ _ _ r h => by simp [entrepotref02_To.j0] at h
 | k + 1 => by
  have ih0 := entrepotref02_To.mono_l k
  ·intro y0 y1 y2 y3
   unfold entrepotref02_To.j0
   repeat' first
   | (with_reducible exact ih0 _ _ _ _)
   | (with_reducible exact entrepotref02_Least.mono _ _ _)
   | (with_reducible exact entrepotref02_tens.mono _ _)
   | (with_reducible exact LeO.refl _)
   | (with_reducible exact LeO.none _)
   | (with_reducible refine LeO.ite ?_ ?_)
   | (with_reducible refine LeO.bind ?_ (fun _ => ?_))
   | exact ih0 _ _ _ _
   | exact entrepotref02_Least.mono _ _ _
   | exact entrepotref02_tens.mono _ _
   | exact LeO.none _
   | refine LeO.ite ?_ ?_
   | refine LeO.bind ?_ (fun _ => ?_)
theorem entrepotref02_To.mono : ∀ a0 a1 a2 k, LeO (entrepotref02_To.f k a0 a1 a2) (entrepotref02_To.f (k + 1) a0 a1 a2) := by
 intro a0 a1 a2 k
 have ih0 := entrepotref02_To.mono_l k; unfold entrepotref02_To.f
 repeat' first
   | (with_reducible exact ih0 _ _ _ _)
   | (with_reducible exact entrepotref02_Least.mono _ _ _)
   | (with_reducible exact entrepotref02_tens.mono _ _)
   | (with_reducible exact LeO.refl _)
   | (with_reducible exact LeO.none _)
   | (with_reducible refine LeO.ite ?_ ?_)
   | (with_reducible refine LeO.bind ?_ (fun _ => ?_))
   | exact ih0 _ _ _ _
   | exact entrepotref02_Least.mono _ _ _
   | exact entrepotref02_tens.mono _ _
   | exact LeO.none _
   | refine LeO.ite ?_ ?_
   | refine LeO.bind ?_ (fun _ => ?_)
set_option maxHeartbeats 8000000 in
set_option maxRecDepth 100000 in
theorem entrepotref02_To.calls (k : Nat) (a0_0 : Int) (a0_1 : Int) (a1 : Int) (r1 : Int) (r2 : Int) (w : World) (h : entrepotref02_To.f k a0_0 a0_1 a1 = some (r1, r2)) :
  Calls Tryz.prog 60 #[.agg #[.int .i64 a0_0, .int .i64 a0_1], .int .i64 a1] w fun e w' => e = .returned (.tuple #[.int .i64 r1, .int .i64 r2]) ∧ Below w.heap.size w w' := by
 have hu51 := Tryz.underlying51; have HB := Aside0.mk (Below.refl w.heap.size w); have H : (if a1 < 0 then (entrepotref02_To.j0 k a1 true a0_0 a0_1) else (entrepotref02_To.j0 k a1 (decide (a1 > 6)) a0_0 a0_1)) = some (r1, r2) := h; clear h; have HC3 := Aside0.mk H; clear H; go_enter Tryz.func60, Tryz.ntmps60
 go_upto_region 1 with (first | ((with_reducible refine gate_dst (N := 2) rfl ?_); refine box_ev (N := 2) (cs := #[.int .i64 a0_0, .int .i64 a0_1]) (t := 51) ?_; intro gb101 hg w4 hbox hb; have BK101 := Aside0.mk (hbox); have GW101 := Aside0.mk ((qg : w.heap.size ≤ gb101)); have GE101 := Aside0.mk ((qg : w.heap.size ≤ gb101)); replace HB := cB HB hb; clear hb hbox hg))
 repeat (go_quiet (first | ((with_reducible refine gate_dst (N := 2) rfl ?_); refine box_ev (N := 2) (cs := #[.int .i64 a0_0, .int .i64 a0_1]) (t := 51) ?_; intro gb101 hg w4 hbox hb; have BK101 := Aside0.mk (hbox); have GW101 := Aside0.mk ((qg : w.heap.size ≤ gb101)); have GE101 := Aside0.mk ((qg : w.heap.size ≤ gb101)); replace HB := cB HB hb; clear hb hbox hg)); go_upto_region 1 with (first | ((with_reducible refine gate_dst (N := 2) rfl ?_); refine box_ev (N := 2) (cs := #[.int .i64 a0_0, .int .i64 a0_1]) (t := 51) ?_; intro gb101 hg w4 hbox hb; have BK101 := Aside0.mk (hbox); have GW101 := Aside0.mk ((qg : w.heap.size ≤ gb101)); have GE101 := Aside0.mk ((qg : w.heap.size ≤ gb101)); replace HB := cB HB hb; clear hb hbox hg)))
 (try simp only [Act.put, List.setIfInBounds_toArray, List.set_cons_zero, List.set_cons_succ])
 go_cut [12] (fun v12 wc => ∃ (kq : Nat) (x12_2 : Bool), v12 = .bool x12_2 ∧ Aside0 (entrepotref02_To.j0 kq a1 x12_2 a0_0 a0_1 = some (r1, r2)) ∧ Aside0 (kq ≤ k) ∧ Aside0 (wc.heap[gb101]? = some (.cells #[.int .i64 a0_0, .int .i64 a0_1] 51 (0, 0))) ∧ Aside0 (Below w.heap.size w wc))
 case first =>
  have H := HC3.out; clear HC3
  by_cases c5 : a1 < 0
  ·rw [if_pos c5] at H; have c5b0 := decide_eq_true c5; clear c5; (first | rw [c5b0] | (simp only [i64_w, i32_w]; rw [c5b0]) | skip); have H' := Aside0.mk H; clear H
   go_wp2
   repeat (go_quiet (fail); try go_wp2)
   go_meet
   case rel => exact ⟨_, (true), qr, H', ⟨by first | omega | exact Nat.le_refl _⟩, ⟨qk BK101.out⟩, ⟨qb⟩⟩
  ·rw [if_neg c5] at H; have c5b0 := decide_eq_false c5; clear c5; (first | rw [c5b0] | (simp only [i64_w, i32_w]; rw [c5b0]) | skip); have H' := Aside0.mk H; clear H
   go_wp2
   repeat (go_quiet (fail); try go_wp2)
   go_meet
   case rel => exact ⟨_, (decide (a1 > 6)), qr, H', ⟨by first | omega | exact Nat.le_refl _⟩, ⟨qk BK101.out⟩, ⟨qb⟩⟩
 case rest =>
  clear HC3; (try clear p2); (try clear c5); (try clear c5b0); obtain ⟨kq, x12_2, rfl, HA, HJ2, BK101, HB⟩ := hcut; cases kq with
  | zero => exact absurd HA.out (by simp [entrepotref02_To.j0])
  | succ kj2 =>
   have H := HA.out; clear HA; simp only [entrepotref02_To.j0] at H
   by_cases c6 : x12_2 = true
   ·subst c6; have H1 : (some (0, 1)) = some (r1, r2) := by rw [if_pos rfl] at H; exact H
    clear H; have H := H1; clear H1; simp only [Option.some.injEq, Prod.mk.injEq] at H; obtain ⟨rfl, rfl⟩ := H
    go_wp2
    repeat (go_quiet (fail); try go_wp2)
    go_ret2
    exact ⟨qe, qb⟩
   ·replace c6 := Bool.eq_false_iff.mpr c6; subst c6; have H1 : ((entrepotref02_Least.f kj2 a0_0 a0_1).bind fun bt102 => (if bt102.2 > a1 then (some (0, 21)) else ((entrepotref02_tens.f kj2 (wrap64 (a1 - bt102.2))).bind fun t104 => (if (wrap64 (bt102.1 * t104)) > 100000000 then (some (0, 2)) else (if (wrap64 (bt102.1 * t104)) < (-100000000) then (some (0, 2)) else (some (wrap64 (bt102.1 * t104), 0))))))) = some (r1, r2) := by rw [if_neg (show ¬ (false = true) by decide)] at H; exact H
    clear H; have H := H1; clear H1; replace H := Option.bind_eq_some_iff.mp H; obtain ⟨⟨t102, t103⟩, A70, H⟩ := H; (try dsimp only at H); have A7 := Aside0.mk A70; clear A70
    by_cases c8 : t103 > a1
    ·rw [if_pos c8] at H; have c8b0 := decide_eq_true c8; clear c8; simp only [Option.some.injEq, Prod.mk.injEq] at H; obtain ⟨rfl, rfl⟩ := H; obtain ⟨hcz9_0, hcz9_1, hfz9_0, hfz9_1⟩ := bc2 BK101.out
     go_wp2_with (first | (go_at_call 106; (with_reducible refine (entrepotref02_Least.calls kj2 a0_0 a0_1 t102 t103 _ A7.out).mono ?_); rintro e w10 ⟨rfl, hb⟩; replace BK101 := cK BK101 hb; replace HB := cB HB hb; (try clear hb); (try clear hb2); (try clear hk); (try clear hi); have hcz11_0 : w10.cell? ⟨gb101, 0, none⟩ = some (.int .i64 a0_0) := (blk_cell BK101.out 0).trans rfl; have hcz11_1 : w10.cell? ⟨gb101, 1, none⟩ = some (.int .i64 a0_1) := (blk_cell BK101.out 1).trans rfl; have hfz11_0 := blk_frozen BK101.out 0; have hfz11_1 := blk_frozen BK101.out 1))
     repeat (go_quiet (first | (go_at_call 106; (try simp only [Go.IntWalk.i64_left]); (with_reducible refine (entrepotref02_Least.calls kj2 a0_0 a0_1 t102 t103 _ A7.out).mono ?_); rintro e w10 ⟨rfl, hb⟩; replace BK101 := cK BK101 hb; replace HB := cB HB hb; (try clear hb); (try clear hb2); (try clear hk); (try clear hi); have hcz11_0 : w10.cell? ⟨gb101, 0, none⟩ = some (.int .i64 a0_0) := (blk_cell BK101.out 0).trans rfl; have hcz11_1 : w10.cell? ⟨gb101, 1, none⟩ = some (.int .i64 a0_1) := (blk_cell BK101.out 1).trans rfl; have hfz11_0 := blk_frozen BK101.out 0; have hfz11_1 := blk_frozen BK101.out 1)); (try simp only [Go.IntWalk.i64_left]); try go_wp2_with (first | (go_at_call 106; (try simp only [Go.IntWalk.i64_left]); (with_reducible refine (entrepotref02_Least.calls kj2 a0_0 a0_1 t102 t103 _ A7.out).mono ?_); rintro e w10 ⟨rfl, hb⟩; replace BK101 := cK BK101 hb; replace HB := cB HB hb; (try clear hb); (try clear hb2); (try clear hk); (try clear hi); have hcz11_0 : w10.cell? ⟨gb101, 0, none⟩ = some (.int .i64 a0_0) := (blk_cell BK101.out 0).trans rfl; have hcz11_1 : w10.cell? ⟨gb101, 1, none⟩ = some (.int .i64 a0_1) := (blk_cell BK101.out 1).trans rfl; have hfz11_0 := blk_frozen BK101.out 0; have hfz11_1 := blk_frozen BK101.out 1)))
     go_ret2
     exact ⟨qe, qb⟩
    ·rw [if_neg c8] at H; have c8b0 := decide_eq_false c8; clear c8; replace H := Option.bind_eq_some_iff.mp H; obtain ⟨t104, A120, H⟩ := H; (try dsimp only at H); have A12 := Aside0.mk A120; clear A120
     by_cases c13 : (wrap64 (t102 * t104)) > 100000000
     ·rw [if_pos c13] at H; have c13b0 := decide_eq_true c13; clear c13; simp only [Option.some.injEq, Prod.mk.injEq] at H; obtain ⟨rfl, rfl⟩ := H; obtain ⟨hcz14_0, hcz14_1, hfz14_0, hfz14_1⟩ := bc2 BK101.out
      go_wp2_with (first | (go_at_call 106; (with_reducible refine (entrepotref02_Least.calls kj2 a0_0 a0_1 t102 t103 _ A7.out).mono ?_); rintro e w15 ⟨rfl, hb⟩; replace BK101 := cK BK101 hb; replace HB := cB HB hb; (try clear hb); (try clear hb2); (try clear hk); (try clear hi); have hcz16_0 : w15.cell? ⟨gb101, 0, none⟩ = some (.int .i64 a0_0) := (blk_cell BK101.out 0).trans rfl; have hcz16_1 : w15.cell? ⟨gb101, 1, none⟩ = some (.int .i64 a0_1) := (blk_cell BK101.out 1).trans rfl; have hfz16_0 := blk_frozen BK101.out 0; have hfz16_1 := blk_frozen BK101.out 1) | (go_at_call 61; (with_reducible refine (entrepotref02_tens.calls kj2 (wrap64 (a1 - t103)) t104 _ A12.out).mono ?_); rintro e w' ⟨rfl, ⟨nd, rfl⟩⟩; (try first | exact ⟨rfl, _, World.drewN_drewN _ _ _⟩ | exact ⟨rfl, _, Eq.trans (World.drewN_drewN _ _ _) (congrArg (World.drewN _) (Nat.add_assoc _ _ _))⟩)))
      repeat (go_quiet (first | (go_at_call 106; (try simp only [Go.IntWalk.i64_left]); (with_reducible refine (entrepotref02_Least.calls kj2 a0_0 a0_1 t102 t103 _ A7.out).mono ?_); rintro e w15 ⟨rfl, hb⟩; replace BK101 := cK BK101 hb; replace HB := cB HB hb; (try clear hb); (try clear hb2); (try clear hk); (try clear hi); have hcz16_0 : w15.cell? ⟨gb101, 0, none⟩ = some (.int .i64 a0_0) := (blk_cell BK101.out 0).trans rfl; have hcz16_1 : w15.cell? ⟨gb101, 1, none⟩ = some (.int .i64 a0_1) := (blk_cell BK101.out 1).trans rfl; have hfz16_0 := blk_frozen BK101.out 0; have hfz16_1 := blk_frozen BK101.out 1) | (go_at_call 61; (try simp only [Go.IntWalk.i64_left]); (with_reducible refine (entrepotref02_tens.calls kj2 (wrap64 (a1 - t103)) t104 _ A12.out).mono ?_); rintro e w' ⟨rfl, ⟨nd, rfl⟩⟩; (try first | exact ⟨rfl, _, World.drewN_drewN _ _ _⟩ | exact ⟨rfl, _, Eq.trans (World.drewN_drewN _ _ _) (congrArg (World.drewN _) (Nat.add_assoc _ _ _))⟩))); (try simp only [Go.IntWalk.i64_left]); try go_wp2_with (first | (go_at_call 106; (try simp only [Go.IntWalk.i64_left]); (with_reducible refine (entrepotref02_Least.calls kj2 a0_0 a0_1 t102 t103 _ A7.out).mono ?_); rintro e w15 ⟨rfl, hb⟩; replace BK101 := cK BK101 hb; replace HB := cB HB hb; (try clear hb); (try clear hb2); (try clear hk); (try clear hi); have hcz16_0 : w15.cell? ⟨gb101, 0, none⟩ = some (.int .i64 a0_0) := (blk_cell BK101.out 0).trans rfl; have hcz16_1 : w15.cell? ⟨gb101, 1, none⟩ = some (.int .i64 a0_1) := (blk_cell BK101.out 1).trans rfl; have hfz16_0 := blk_frozen BK101.out 0; have hfz16_1 := blk_frozen BK101.out 1) | (go_at_call 61; (try simp only [Go.IntWalk.i64_left]); (with_reducible refine (entrepotref02_tens.calls kj2 (wrap64 (a1 - t103)) t104 _ A12.out).mono ?_); rintro e w' ⟨rfl, ⟨nd, rfl⟩⟩; (try first | exact ⟨rfl, _, World.drewN_drewN _ _ _⟩ | exact ⟨rfl, _, Eq.trans (World.drewN_drewN _ _ _) (congrArg (World.drewN _) (Nat.add_assoc _ _ _))⟩))))
      go_ret2
      exact ⟨qe, qb⟩
     ·rw [if_neg c13] at H; have c13b0 := decide_eq_false c13; clear c13
      by_cases c17 : (wrap64 (t102 * t104)) < (-100000000)
      ·rw [if_pos c17] at H; have c17b0 := decide_eq_true c17; clear c17; simp only [Option.some.injEq, Prod.mk.injEq] at H; obtain ⟨rfl, rfl⟩ := H; obtain ⟨hcz18_0, hcz18_1, hfz18_0, hfz18_1⟩ := bc2 BK101.out
       go_wp2_with (first | (go_at_call 106; (with_reducible refine (entrepotref02_Least.calls kj2 a0_0 a0_1 t102 t103 _ A7.out).mono ?_); rintro e w19 ⟨rfl, hb⟩; replace BK101 := cK BK101 hb; replace HB := cB HB hb; (try clear hb); (try clear hb2); (try clear hk); (try clear hi); have hcz20_0 : w19.cell? ⟨gb101, 0, none⟩ = some (.int .i64 a0_0) := (blk_cell BK101.out 0).trans rfl; have hcz20_1 : w19.cell? ⟨gb101, 1, none⟩ = some (.int .i64 a0_1) := (blk_cell BK101.out 1).trans rfl; have hfz20_0 := blk_frozen BK101.out 0; have hfz20_1 := blk_frozen BK101.out 1) | (go_at_call 61; (with_reducible refine (entrepotref02_tens.calls kj2 (wrap64 (a1 - t103)) t104 _ A12.out).mono ?_); rintro e w' ⟨rfl, ⟨nd, rfl⟩⟩; (try first | exact ⟨rfl, _, World.drewN_drewN _ _ _⟩ | exact ⟨rfl, _, Eq.trans (World.drewN_drewN _ _ _) (congrArg (World.drewN _) (Nat.add_assoc _ _ _))⟩)))
       repeat (go_quiet (first | (go_at_call 106; (try simp only [Go.IntWalk.i64_left]); (with_reducible refine (entrepotref02_Least.calls kj2 a0_0 a0_1 t102 t103 _ A7.out).mono ?_); rintro e w19 ⟨rfl, hb⟩; replace BK101 := cK BK101 hb; replace HB := cB HB hb; (try clear hb); (try clear hb2); (try clear hk); (try clear hi); have hcz20_0 : w19.cell? ⟨gb101, 0, none⟩ = some (.int .i64 a0_0) := (blk_cell BK101.out 0).trans rfl; have hcz20_1 : w19.cell? ⟨gb101, 1, none⟩ = some (.int .i64 a0_1) := (blk_cell BK101.out 1).trans rfl; have hfz20_0 := blk_frozen BK101.out 0; have hfz20_1 := blk_frozen BK101.out 1) | (go_at_call 61; (try simp only [Go.IntWalk.i64_left]); (with_reducible refine (entrepotref02_tens.calls kj2 (wrap64 (a1 - t103)) t104 _ A12.out).mono ?_); rintro e w' ⟨rfl, ⟨nd, rfl⟩⟩; (try first | exact ⟨rfl, _, World.drewN_drewN _ _ _⟩ | exact ⟨rfl, _, Eq.trans (World.drewN_drewN _ _ _) (congrArg (World.drewN _) (Nat.add_assoc _ _ _))⟩))); (try simp only [Go.IntWalk.i64_left]); try go_wp2_with (first | (go_at_call 106; (try simp only [Go.IntWalk.i64_left]); (with_reducible refine (entrepotref02_Least.calls kj2 a0_0 a0_1 t102 t103 _ A7.out).mono ?_); rintro e w19 ⟨rfl, hb⟩; replace BK101 := cK BK101 hb; replace HB := cB HB hb; (try clear hb); (try clear hb2); (try clear hk); (try clear hi); have hcz20_0 : w19.cell? ⟨gb101, 0, none⟩ = some (.int .i64 a0_0) := (blk_cell BK101.out 0).trans rfl; have hcz20_1 : w19.cell? ⟨gb101, 1, none⟩ = some (.int .i64 a0_1) := (blk_cell BK101.out 1).trans rfl; have hfz20_0 := blk_frozen BK101.out 0; have hfz20_1 := blk_frozen BK101.out 1) | (go_at_call 61; (try simp only [Go.IntWalk.i64_left]); (with_reducible refine (entrepotref02_tens.calls kj2 (wrap64 (a1 - t103)) t104 _ A12.out).mono ?_); rintro e w' ⟨rfl, ⟨nd, rfl⟩⟩; (try first | exact ⟨rfl, _, World.drewN_drewN _ _ _⟩ | exact ⟨rfl, _, Eq.trans (World.drewN_drewN _ _ _) (congrArg (World.drewN _) (Nat.add_assoc _ _ _))⟩))))
       go_ret2
       exact ⟨qe, qb⟩
      ·rw [if_neg c17] at H; have c17b0 := decide_eq_false c17; clear c17; simp only [Option.some.injEq, Prod.mk.injEq] at H; obtain ⟨rfl, rfl⟩ := H; obtain ⟨hcz21_0, hcz21_1, hfz21_0, hfz21_1⟩ := bc2 BK101.out
       go_wp2_with (first | (go_at_call 106; (with_reducible refine (entrepotref02_Least.calls kj2 a0_0 a0_1 t102 t103 _ A7.out).mono ?_); rintro e w22 ⟨rfl, hb⟩; replace BK101 := cK BK101 hb; replace HB := cB HB hb; (try clear hb); (try clear hb2); (try clear hk); (try clear hi); have hcz23_0 : w22.cell? ⟨gb101, 0, none⟩ = some (.int .i64 a0_0) := (blk_cell BK101.out 0).trans rfl; have hcz23_1 : w22.cell? ⟨gb101, 1, none⟩ = some (.int .i64 a0_1) := (blk_cell BK101.out 1).trans rfl; have hfz23_0 := blk_frozen BK101.out 0; have hfz23_1 := blk_frozen BK101.out 1) | (go_at_call 61; (with_reducible refine (entrepotref02_tens.calls kj2 (wrap64 (a1 - t103)) t104 _ A12.out).mono ?_); rintro e w' ⟨rfl, ⟨nd, rfl⟩⟩; (try first | exact ⟨rfl, _, World.drewN_drewN _ _ _⟩ | exact ⟨rfl, _, Eq.trans (World.drewN_drewN _ _ _) (congrArg (World.drewN _) (Nat.add_assoc _ _ _))⟩)))
       repeat (go_quiet (first | (go_at_call 106; (try simp only [Go.IntWalk.i64_left]); (with_reducible refine (entrepotref02_Least.calls kj2 a0_0 a0_1 t102 t103 _ A7.out).mono ?_); rintro e w22 ⟨rfl, hb⟩; replace BK101 := cK BK101 hb; replace HB := cB HB hb; (try clear hb); (try clear hb2); (try clear hk); (try clear hi); have hcz23_0 : w22.cell? ⟨gb101, 0, none⟩ = some (.int .i64 a0_0) := (blk_cell BK101.out 0).trans rfl; have hcz23_1 : w22.cell? ⟨gb101, 1, none⟩ = some (.int .i64 a0_1) := (blk_cell BK101.out 1).trans rfl; have hfz23_0 := blk_frozen BK101.out 0; have hfz23_1 := blk_frozen BK101.out 1) | (go_at_call 61; (try simp only [Go.IntWalk.i64_left]); (with_reducible refine (entrepotref02_tens.calls kj2 (wrap64 (a1 - t103)) t104 _ A12.out).mono ?_); rintro e w' ⟨rfl, ⟨nd, rfl⟩⟩; (try first | exact ⟨rfl, _, World.drewN_drewN _ _ _⟩ | exact ⟨rfl, _, Eq.trans (World.drewN_drewN _ _ _) (congrArg (World.drewN _) (Nat.add_assoc _ _ _))⟩))); (try simp only [Go.IntWalk.i64_left]); try go_wp2_with (first | (go_at_call 106; (try simp only [Go.IntWalk.i64_left]); (with_reducible refine (entrepotref02_Least.calls kj2 a0_0 a0_1 t102 t103 _ A7.out).mono ?_); rintro e w22 ⟨rfl, hb⟩; replace BK101 := cK BK101 hb; replace HB := cB HB hb; (try clear hb); (try clear hb2); (try clear hk); (try clear hi); have hcz23_0 : w22.cell? ⟨gb101, 0, none⟩ = some (.int .i64 a0_0) := (blk_cell BK101.out 0).trans rfl; have hcz23_1 : w22.cell? ⟨gb101, 1, none⟩ = some (.int .i64 a0_1) := (blk_cell BK101.out 1).trans rfl; have hfz23_0 := blk_frozen BK101.out 0; have hfz23_1 := blk_frozen BK101.out 1) | (go_at_call 61; (try simp only [Go.IntWalk.i64_left]); (with_reducible refine (entrepotref02_tens.calls kj2 (wrap64 (a1 - t103)) t104 _ A12.out).mono ?_); rintro e w' ⟨rfl, ⟨nd, rfl⟩⟩; (try first | exact ⟨rfl, _, World.drewN_drewN _ _ _⟩ | exact ⟨rfl, _, Eq.trans (World.drewN_drewN _ _ _) (congrArg (World.drewN _) (Nat.add_assoc _ _ _))⟩))))
       go_ret2
       exact ⟨qe, qb⟩

end Go.Proofs.YtadocbfchdendaaGreatDoor.P
namespace Go.Proofs.YtadocbfchdendaaGreatDoor.P
open Go.RowKit Go.Proofs.YtadocbfchdendaaGreatDoorW.PrintWords Go.Proofs.YtadocbfchdendaaGreatDoorW.PrintLast Go.Proofs.YtadocbfchdendaaGreatDoorW.PrintMore
attribute [local go_sem] max2_int min2_int max_two min_two max_three min_three max_four min_four   -- for this text's walks alone
set_option linter.unusedVariables false
set_option linter.unusedSimpArgs false
def entrepotref02_Cmp.f (k : Nat) (a0_0 : Int) (a0_1 : Int) (a1_0 : Int) (a1_1 : Int) : Option (Int) := (entrepotref02_tens.f k (wrap64 (6 - a0_1))).bind fun t103 => ((entrepotref02_tens.f k (wrap64 (6 - a1_1))).bind fun t104 => (if (wrap64 (a0_0 * t103)) < (wrap64 (a1_0 * t104)) then (some (-1)) else (if (wrap64 (a0_0 * t103)) > (wrap64 (a1_0 * t104)) then (some 1) else (some 0))))
theorem entrepotref02_Cmp.mono : ∀ a0 a1 a2 a3 k, LeO (entrepotref02_Cmp.f k a0 a1 a2 a3) (entrepotref02_Cmp.f (k + 1) a0 a1 a2 a3) := by
 intro a0 a1 a2 a3 k
 unfold entrepotref02_Cmp.f
 repeat' first
   | (with_reducible exact entrepotref02_tens.mono _ _)
   | (with_reducible exact LeO.refl _)
   | (with_reducible exact LeO.none _)
   | (with_reducible refine LeO.ite ?_ ?_)
   | (with_reducible refine LeO.bind ?_ (fun _ => ?_))
   | exact entrepotref02_tens.mono _ _
   | exact LeO.none _
   | refine LeO.ite ?_ ?_
   | refine LeO.bind ?_ (fun _ => ?_)
set_option maxHeartbeats 8000000 in
set_option maxRecDepth 100000 in
theorem entrepotref02_Cmp.calls (k : Nat) (a0_0 : Int) (a0_1 : Int) (a1_0 : Int) (a1_1 : Int) (r : Int) (w : World) (h : entrepotref02_Cmp.f k a0_0 a0_1 a1_0 a1_1 = some r) :
  Calls Tryz.prog 26 #[.agg #[.int .i64 a0_0, .int .i64 a0_1], .agg #[.int .i64 a1_0, .int .i64 a1_1]] w fun e w' => e = .returned (.int .i64 r) ∧ Below w.heap.size w w' := by
 have hu51 := Tryz.underlying51; have HB := Aside0.mk (Below.refl w.heap.size w); have H : ((entrepotref02_tens.f k (wrap64 (6 - a0_1))).bind fun t103 => ((entrepotref02_tens.f k (wrap64 (6 - a1_1))).bind fun t104 => (if (wrap64 (a0_0 * t103)) < (wrap64 (a1_0 * t104)) then (some (-1)) else (if (wrap64 (a0_0 * t103)) > (wrap64 (a1_0 * t104)) then (some 1) else (some 0))))) = some r := h; clear h; replace H := Option.bind_eq_some_iff.mp H; obtain ⟨t103, A30, H⟩ := H; (try dsimp only at H); have A3 := Aside0.mk A30; clear A30; replace H := Option.bind_eq_some_iff.mp H; obtain ⟨t104, A40, H⟩ := H; (try dsimp only at H); have A4 := Aside0.mk A40; clear A40
 by_cases c5 : (wrap64 (a0_0 * t103)) < (wrap64 (a1_0 * t104))
 ·rw [if_pos c5] at H; have c5b0 := decide_eq_true c5; clear c5; obtain rfl := Option.some.inj H; go_enter Tryz.func26, Tryz.ntmps26
  go_wp2_with (first | ((with_reducible refine gate_dst (N := 2) rfl ?_); refine box_ev (N := 2) (cs := #[.int .i64 a0_0, .int .i64 a0_1]) (t := 51) ?_; intro gb101 hg w6 hbox hb; have BK101 := Aside0.mk (hbox); have GW101 := Aside0.mk ((qg : w.heap.size ≤ gb101)); have GE101 := Aside0.mk ((qg : w.heap.size ≤ gb101)); replace HB := cB HB hb; clear hb hbox hg) | ((with_reducible refine gate_dst (N := 3) rfl ?_); refine box_ev (N := 3) (cs := #[.int .i64 a1_0, .int .i64 a1_1]) (t := 51) ?_; intro gb102 hg w7 hbox hb; have BK102 := Aside0.mk (hbox); have GW102 := Aside0.mk ((qg : w.heap.size ≤ gb102)); have GE102 := Aside0.mk ((qg : w.heap.size ≤ gb102)); have NB101_102 := Aside0.mk ((by rw [hg]; exact Nat.ne_of_lt (blk_lt (g := gb101) (o := .cells #[.int .i64 a0_0, .int .i64 a0_1] 51 (0, 0)) (qk BK101.out)) : gb101 ≠ gb102)); have NB102_101 := Aside0.mk ((by rw [hg]; exact Nat.ne_of_gt (blk_lt (g := gb101) (o := .cells #[.int .i64 a0_0, .int .i64 a0_1] 51 (0, 0)) (qk BK101.out)) : gb102 ≠ gb101)); replace BK101 := cK BK101 hb; replace HB := cB HB hb; clear hb hbox hg; have hnb8 := NB101_102.out; have hnc8 := NB102_101.out; have hcz9_0 : w7.cell? ⟨gb101, 0, none⟩ = some (.int .i64 a0_0) := (blk_cell BK101.out 0).trans rfl; have hcz9_1 : w7.cell? ⟨gb101, 1, none⟩ = some (.int .i64 a0_1) := (blk_cell BK101.out 1).trans rfl; have hfz9_0 := blk_frozen BK101.out 0; have hfz9_1 := blk_frozen BK101.out 1) | (go_at_call 61; (with_reducible refine (entrepotref02_tens.calls k (wrap64 (6 - a0_1)) t103 _ A3.out).mono ?_); rintro e w' ⟨rfl, ⟨nd, rfl⟩⟩; (try first | exact ⟨rfl, _, World.drewN_drewN _ _ _⟩ | exact ⟨rfl, _, Eq.trans (World.drewN_drewN _ _ _) (congrArg (World.drewN _) (Nat.add_assoc _ _ _))⟩); have hcz10_0 : w7.cell? ⟨gb102, 0, none⟩ = some (.int .i64 a1_0) := (blk_cell BK102.out 0).trans rfl; have hcz10_1 : w7.cell? ⟨gb102, 1, none⟩ = some (.int .i64 a1_1) := (blk_cell BK102.out 1).trans rfl; have hfz10_0 := blk_frozen BK102.out 0; have hfz10_1 := blk_frozen BK102.out 1) | (go_at_call 61; (with_reducible refine (entrepotref02_tens.calls k (wrap64 (6 - a1_1)) t104 _ A4.out).mono ?_); rintro e w' ⟨rfl, ⟨nd, rfl⟩⟩; (try first | exact ⟨rfl, _, World.drewN_drewN _ _ _⟩ | exact ⟨rfl, _, Eq.trans (World.drewN_drewN _ _ _) (congrArg (World.drewN _) (Nat.add_assoc _ _ _))⟩)))
  repeat (go_quiet (first | ((with_reducible refine gate_dst (N := 2) rfl ?_); refine box_ev (N := 2) (cs := #[.int .i64 a0_0, .int .i64 a0_1]) (t := 51) ?_; intro gb101 hg w6 hbox hb; have BK101 := Aside0.mk (hbox); have GW101 := Aside0.mk ((qg : w.heap.size ≤ gb101)); have GE101 := Aside0.mk ((qg : w.heap.size ≤ gb101)); replace HB := cB HB hb; clear hb hbox hg) | ((with_reducible refine gate_dst (N := 3) rfl ?_); refine box_ev (N := 3) (cs := #[.int .i64 a1_0, .int .i64 a1_1]) (t := 51) ?_; intro gb102 hg w7 hbox hb; have BK102 := Aside0.mk (hbox); have GW102 := Aside0.mk ((qg : w.heap.size ≤ gb102)); have GE102 := Aside0.mk ((qg : w.heap.size ≤ gb102)); have NB101_102 := Aside0.mk ((by rw [hg]; exact Nat.ne_of_lt (blk_lt (g := gb101) (o := .cells #[.int .i64 a0_0, .int .i64 a0_1] 51 (0, 0)) (qk BK101.out)) : gb101 ≠ gb102)); have NB102_101 := Aside0.mk ((by rw [hg]; exact Nat.ne_of_gt (blk_lt (g := gb101) (o := .cells #[.int .i64 a0_0, .int .i64 a0_1] 51 (0, 0)) (qk BK101.out)) : gb102 ≠ gb101)); replace BK101 := cK BK101 hb; replace HB := cB HB hb; clear hb hbox hg; have hnb8 := NB101_102.out; have hnc8 := NB102_101.out; have hcz9_0 : w7.cell? ⟨gb101, 0, none⟩ = some (.int .i64 a0_0) := (blk_cell BK101.out 0).trans rfl; have hcz9_1 : w7.cell? ⟨gb101, 1, none⟩ = some (.int .i64 a0_1) := (blk_cell BK101.out 1).trans rfl; have hfz9_0 := blk_frozen BK101.out 0; have hfz9_1 := blk_frozen BK101.out 1) | (go_at_call 61; (try simp only [Go.IntWalk.i64_left]); (with_reducible refine (entrepotref02_tens.calls k (wrap64 (6 - a0_1)) t103 _ A3.out).mono ?_); rintro e w' ⟨rfl, ⟨nd, rfl⟩⟩; (try first | exact ⟨rfl, _, World.drewN_drewN _ _ _⟩ | exact ⟨rfl, _, Eq.trans (World.drewN_drewN _ _ _) (congrArg (World.drewN _) (Nat.add_assoc _ _ _))⟩); have hcz10_0 : w7.cell? ⟨gb102, 0, none⟩ = some (.int .i64 a1_0) := (blk_cell BK102.out 0).trans rfl; have hcz10_1 : w7.cell? ⟨gb102, 1, none⟩ = some (.int .i64 a1_1) := (blk_cell BK102.out 1).trans rfl; have hfz10_0 := blk_frozen BK102.out 0; have hfz10_1 := blk_frozen BK102.out 1) | (go_at_call 61; (try simp only [Go.IntWalk.i64_left]); (with_reducible refine (entrepotref02_tens.calls k (wrap64 (6 - a1_1)) t104 _ A4.out).mono ?_); rintro e w' ⟨rfl, ⟨nd, rfl⟩⟩; (try first | exact ⟨rfl, _, World.drewN_drewN _ _ _⟩ | exact ⟨rfl, _, Eq.trans (World.drewN_drewN _ _ _) (congrArg (World.drewN _) (Nat.add_assoc _ _ _))⟩))); (try simp only [Go.IntWalk.i64_left]); try go_wp2_with (first | ((with_reducible refine gate_dst (N := 2) rfl ?_); refine box_ev (N := 2) (cs := #[.int .i64 a0_0, .int .i64 a0_1]) (t := 51) ?_; intro gb101 hg w6 hbox hb; have BK101 := Aside0.mk (hbox); have GW101 := Aside0.mk ((qg : w.heap.size ≤ gb101)); have GE101 := Aside0.mk ((qg : w.heap.size ≤ gb101)); replace HB := cB HB hb; clear hb hbox hg) | ((with_reducible refine gate_dst (N := 3) rfl ?_); refine box_ev (N := 3) (cs := #[.int .i64 a1_0, .int .i64 a1_1]) (t := 51) ?_; intro gb102 hg w7 hbox hb; have BK102 := Aside0.mk (hbox); have GW102 := Aside0.mk ((qg : w.heap.size ≤ gb102)); have GE102 := Aside0.mk ((qg : w.heap.size ≤ gb102)); have NB101_102 := Aside0.mk ((by rw [hg]; exact Nat.ne_of_lt (blk_lt (g := gb101) (o := .cells #[.int .i64 a0_0, .int .i64 a0_1] 51 (0, 0)) (qk BK101.out)) : gb101 ≠ gb102)); have NB102_101 := Aside0.mk ((by rw [hg]; exact Nat.ne_of_gt (blk_lt (g := gb101) (o := .cells #[.int .i64 a0_0, .int .i64 a0_1] 51 (0, 0)) (qk BK101.out)) : gb102 ≠ gb101)); replace BK101 := cK BK101 hb; replace HB := cB HB hb; clear hb hbox hg; have hnb8 := NB101_102.out; have hnc8 := NB102_101.out; have hcz9_0 : w7.cell? ⟨gb101, 0, none⟩ = some (.int .i64 a0_0) := (blk_cell BK101.out 0).trans rfl; have hcz9_1 : w7.cell? ⟨gb101, 1, none⟩ = some (.int .i64 a0_1) := (blk_cell BK101.out 1).trans rfl; have hfz9_0 := blk_frozen BK101.out 0; have hfz9_1 := blk_frozen BK101.out 1) | (go_at_call 61; (try simp only [Go.IntWalk.i64_left]); (with_reducible refine (entrepotref02_tens.calls k (wrap64 (6 - a0_1)) t103 _ A3.out).mono ?_); rintro e w' ⟨rfl, ⟨nd, rfl⟩⟩; (try first | exact ⟨rfl, _, World.drewN_drewN _ _ _⟩ | exact ⟨rfl, _, Eq.trans (World.drewN_drewN _ _ _) (congrArg (World.drewN _) (Nat.add_assoc _ _ _))⟩); have hcz10_0 : w7.cell? ⟨gb102, 0, none⟩ = some (.int .i64 a1_0) := (blk_cell BK102.out 0).trans rfl; have hcz10_1 : w7.cell? ⟨gb102, 1, none⟩ = some (.int .i64 a1_1) := (blk_cell BK102.out 1).trans rfl; have hfz10_0 := blk_frozen BK102.out 0; have hfz10_1 := blk_frozen BK102.out 1) | (go_at_call 61; (try simp only [Go.IntWalk.i64_left]); (with_reducible refine (entrepotref02_tens.calls k (wrap64 (6 - a1_1)) t104 _ A4.out).mono ?_); rintro e w' ⟨rfl, ⟨nd, rfl⟩⟩; (try first | exact ⟨rfl, _, World.drewN_drewN _ _ _⟩ | exact ⟨rfl, _, Eq.trans (World.drewN_drewN _ _ _) (congrArg (World.drewN _) (Nat.add_assoc _ _ _))⟩))))
  go_ret
  exact ⟨qe, qb⟩
 ·rw [if_neg c5] at H; have c5b0 := decide_eq_false c5; clear c5
  by_cases c11 : (wrap64 (a0_0 * t103)) > (wrap64 (a1_0 * t104))
  ·rw [if_pos c11] at H; have c11b0 := decide_eq_true c11; clear c11; obtain rfl := Option.some.inj H; go_enter Tryz.func26, Tryz.ntmps26
   go_wp2_with (first | ((with_reducible refine gate_dst (N := 2) rfl ?_); refine box_ev (N := 2) (cs := #[.int .i64 a0_0, .int .i64 a0_1]) (t := 51) ?_; intro gb101 hg w12 hbox hb; have BK101 := Aside0.mk (hbox); have GW101 := Aside0.mk ((qg : w.heap.size ≤ gb101)); have GE101 := Aside0.mk ((qg : w.heap.size ≤ gb101)); replace HB := cB HB hb; clear hb hbox hg) | ((with_reducible refine gate_dst (N := 3) rfl ?_); refine box_ev (N := 3) (cs := #[.int .i64 a1_0, .int .i64 a1_1]) (t := 51) ?_; intro gb102 hg w13 hbox hb; have BK102 := Aside0.mk (hbox); have GW102 := Aside0.mk ((qg : w.heap.size ≤ gb102)); have GE102 := Aside0.mk ((qg : w.heap.size ≤ gb102)); have NB101_102 := Aside0.mk ((by rw [hg]; exact Nat.ne_of_lt (blk_lt (g := gb101) (o := .cells #[.int .i64 a0_0, .int .i64 a0_1] 51 (0, 0)) (qk BK101.out)) : gb101 ≠ gb102)); have NB102_101 := Aside0.mk ((by rw [hg]; exact Nat.ne_of_gt (blk_lt (g := gb101) (o := .cells #[.int .i64 a0_0, .int .i64 a0_1] 51 (0, 0)) (qk BK101.out)) : gb102 ≠ gb101)); replace BK101 := cK BK101 hb; replace HB := cB HB hb; clear hb hbox hg; have hnb14 := NB101_102.out; have hnc14 := NB102_101.out; have hcz15_0 : w13.cell? ⟨gb101, 0, none⟩ = some (.int .i64 a0_0) := (blk_cell BK101.out 0).trans rfl; have hcz15_1 : w13.cell? ⟨gb101, 1, none⟩ = some (.int .i64 a0_1) := (blk_cell BK101.out 1).trans rfl; have hfz15_0 := blk_frozen BK101.out 0; have hfz15_1 := blk_frozen BK101.out 1) | (go_at_call 61; (with_reducible refine (entrepotref02_tens.calls k (wrap64 (6 - a0_1)) t103 _ A3.out).mono ?_); rintro e w' ⟨rfl, ⟨nd, rfl⟩⟩; (try first | exact ⟨rfl, _, World.drewN_drewN _ _ _⟩ | exact ⟨rfl, _, Eq.trans (World.drewN_drewN _ _ _) (congrArg (World.drewN _) (Nat.add_assoc _ _ _))⟩); have hcz16_0 : w13.cell? ⟨gb102, 0, none⟩ = some (.int .i64 a1_0) := (blk_cell BK102.out 0).trans rfl; have hcz16_1 : w13.cell? ⟨gb102, 1, none⟩ = some (.int .i64 a1_1) := (blk_cell BK102.out 1).trans rfl; have hfz16_0 := blk_frozen BK102.out 0; have hfz16_1 := blk_frozen BK102.out 1) | (go_at_call 61; (with_reducible refine (entrepotref02_tens.calls k (wrap64 (6 - a1_1)) t104 _ A4.out).mono ?_); rintro e w' ⟨rfl, ⟨nd, rfl⟩⟩; (try first | exact ⟨rfl, _, World.drewN_drewN _ _ _⟩ | exact ⟨rfl, _, Eq.trans (World.drewN_drewN _ _ _) (congrArg (World.drewN _) (Nat.add_assoc _ _ _))⟩)))
   repeat (go_quiet (first | ((with_reducible refine gate_dst (N := 2) rfl ?_); refine box_ev (N := 2) (cs := #[.int .i64 a0_0, .int .i64 a0_1]) (t := 51) ?_; intro gb101 hg w12 hbox hb; have BK101 := Aside0.mk (hbox); have GW101 := Aside0.mk ((qg : w.heap.size ≤ gb101)); have GE101 := Aside0.mk ((qg : w.heap.size ≤ gb101)); replace HB := cB HB hb; clear hb hbox hg) | ((with_reducible refine gate_dst (N := 3) rfl ?_); refine box_ev (N := 3) (cs := #[.int .i64 a1_0, .int .i64 a1_1]) (t := 51) ?_; intro gb102 hg w13 hbox hb; have BK102 := Aside0.mk (hbox); have GW102 := Aside0.mk ((qg : w.heap.size ≤ gb102)); have GE102 := Aside0.mk ((qg : w.heap.size ≤ gb102)); have NB101_102 := Aside0.mk ((by rw [hg]; exact Nat.ne_of_lt (blk_lt (g := gb101) (o := .cells #[.int .i64 a0_0, .int .i64 a0_1] 51 (0, 0)) (qk BK101.out)) : gb101 ≠ gb102)); have NB102_101 := Aside0.mk ((by rw [hg]; exact Nat.ne_of_gt (blk_lt (g := gb101) (o := .cells #[.int .i64 a0_0, .int .i64 a0_1] 51 (0, 0)) (qk BK101.out)) : gb102 ≠ gb101)); replace BK101 := cK BK101 hb; replace HB := cB HB hb; clear hb hbox hg; have hnb14 := NB101_102.out; have hnc14 := NB102_101.out; have hcz15_0 : w13.cell? ⟨gb101, 0, none⟩ = some (.int .i64 a0_0) := (blk_cell BK101.out 0).trans rfl; have hcz15_1 : w13.cell? ⟨gb101, 1, none⟩ = some (.int .i64 a0_1) := (blk_cell BK101.out 1).trans rfl; have hfz15_0 := blk_frozen BK101.out 0; have hfz15_1 := blk_frozen BK101.out 1) | (go_at_call 61; (try simp only [Go.IntWalk.i64_left]); (with_reducible refine (entrepotref02_tens.calls k (wrap64 (6 - a0_1)) t103 _ A3.out).mono ?_); rintro e w' ⟨rfl, ⟨nd, rfl⟩⟩; (try first | exact ⟨rfl, _, World.drewN_drewN _ _ _⟩ | exact ⟨rfl, _, Eq.trans (World.drewN_drewN _ _ _) (congrArg (World.drewN _) (Nat.add_assoc _ _ _))⟩); have hcz16_0 : w13.cell? ⟨gb102, 0, none⟩ = some (.int .i64 a1_0) := (blk_cell BK102.out 0).trans rfl; have hcz16_1 : w13.cell? ⟨gb102, 1, none⟩ = some (.int .i64 a1_1) := (blk_cell BK102.out 1).trans rfl; have hfz16_0 := blk_frozen BK102.out 0; have hfz16_1 := blk_frozen BK102.out 1) | (go_at_call 61; (try simp only [Go.IntWalk.i64_left]); (with_reducible refine (entrepotref02_tens.calls k (wrap64 (6 - a1_1)) t104 _ A4.out).mono ?_); rintro e w' ⟨rfl, ⟨nd, rfl⟩⟩; (try first | exact ⟨rfl, _, World.drewN_drewN _ _ _⟩ | exact ⟨rfl, _, Eq.trans (World.drewN_drewN _ _ _) (congrArg (World.drewN _) (Nat.add_assoc _ _ _))⟩))); (try simp only [Go.IntWalk.i64_left]); try go_wp2_with (first | ((with_reducible refine gate_dst (N := 2) rfl ?_); refine box_ev (N := 2) (cs := #[.int .i64 a0_0, .int .i64 a0_1]) (t := 51) ?_; intro gb101 hg w12 hbox hb; have BK101 := Aside0.mk (hbox); have GW101 := Aside0.mk ((qg : w.heap.size ≤ gb101)); have GE101 := Aside0.mk ((qg : w.heap.size ≤ gb101)); replace HB := cB HB hb; clear hb hbox hg) | ((with_reducible refine gate_dst (N := 3) rfl ?_); refine box_ev (N := 3) (cs := #[.int .i64 a1_0, .int .i64 a1_1]) (t := 51) ?_; intro gb102 hg w13 hbox hb; have BK102 := Aside0.mk (hbox); have GW102 := Aside0.mk ((qg : w.heap.size ≤ gb102)); have GE102 := Aside0.mk ((qg : w.heap.size ≤ gb102)); have NB101_102 := Aside0.mk ((by rw [hg]; exact Nat.ne_of_lt (blk_lt (g := gb101) (o := .cells #[.int .i64 a0_0, .int .i64 a0_1] 51 (0, 0)) (qk BK101.out)) : gb101 ≠ gb102)); have NB102_101 := Aside0.mk ((by rw [hg]; exact Nat.ne_of_gt (blk_lt (g := gb101) (o := .cells #[.int .i64 a0_0, .int .i64 a0_1] 51 (0, 0)) (qk BK101.out)) : gb102 ≠ gb101)); replace BK101 := cK BK101 hb; replace HB := cB HB hb; clear hb hbox hg; have hnb14 := NB101_102.out; have hnc14 := NB102_101.out; have hcz15_0 : w13.cell? ⟨gb101, 0, none⟩ = some (.int .i64 a0_0) := (blk_cell BK101.out 0).trans rfl; have hcz15_1 : w13.cell? ⟨gb101, 1, none⟩ = some (.int .i64 a0_1) := (blk_cell BK101.out 1).trans rfl; have hfz15_0 := blk_frozen BK101.out 0; have hfz15_1 := blk_frozen BK101.out 1) | (go_at_call 61; (try simp only [Go.IntWalk.i64_left]); (with_reducible refine (entrepotref02_tens.calls k (wrap64 (6 - a0_1)) t103 _ A3.out).mono ?_); rintro e w' ⟨rfl, ⟨nd, rfl⟩⟩; (try first | exact ⟨rfl, _, World.drewN_drewN _ _ _⟩ | exact ⟨rfl, _, Eq.trans (World.drewN_drewN _ _ _) (congrArg (World.drewN _) (Nat.add_assoc _ _ _))⟩); have hcz16_0 : w13.cell? ⟨gb102, 0, none⟩ = some (.int .i64 a1_0) := (blk_cell BK102.out 0).trans rfl; have hcz16_1 : w13.cell? ⟨gb102, 1, none⟩ = some (.int .i64 a1_1) := (blk_cell BK102.out 1).trans rfl; have hfz16_0 := blk_frozen BK102.out 0; have hfz16_1 := blk_frozen BK102.out 1) | (go_at_call 61; (try simp only [Go.IntWalk.i64_left]); (with_reducible refine (entrepotref02_tens.calls k (wrap64 (6 - a1_1)) t104 _ A4.out).mono ?_); rintro e w' ⟨rfl, ⟨nd, rfl⟩⟩; (try first | exact ⟨rfl, _, World.drewN_drewN _ _ _⟩ | exact ⟨rfl, _, Eq.trans (World.drewN_drewN _ _ _) (congrArg (World.drewN _) (Nat.add_assoc _ _ _))⟩))))
   go_ret
   exact ⟨qe, qb⟩
  ·rw [if_neg c11] at H; have c11b0 := decide_eq_false c11; clear c11; obtain rfl := Option.some.inj H; go_enter Tryz.func26, Tryz.ntmps26
   go_wp2_with (first | ((with_reducible refine gate_dst (N := 2) rfl ?_); refine box_ev (N := 2) (cs := #[.int .i64 a0_0, .int .i64 a0_1]) (t := 51) ?_; intro gb101 hg w17 hbox hb; have BK101 := Aside0.mk (hbox); have GW101 := Aside0.mk ((qg : w.heap.size ≤ gb101)); have GE101 := Aside0.mk ((qg : w.heap.size ≤ gb101)); replace HB := cB HB hb; clear hb hbox hg) | ((with_reducible refine gate_dst (N := 3) rfl ?_); refine box_ev (N := 3) (cs := #[.int .i64 a1_0, .int .i64 a1_1]) (t := 51) ?_; intro gb102 hg w18 hbox hb; have BK102 := Aside0.mk (hbox); have GW102 := Aside0.mk ((qg : w.heap.size ≤ gb102)); have GE102 := Aside0.mk ((qg : w.heap.size ≤ gb102)); have NB101_102 := Aside0.mk ((by rw [hg]; exact Nat.ne_of_lt (blk_lt (g := gb101) (o := .cells #[.int .i64 a0_0, .int .i64 a0_1] 51 (0, 0)) (qk BK101.out)) : gb101 ≠ gb102)); have NB102_101 := Aside0.mk ((by rw [hg]; exact Nat.ne_of_gt (blk_lt (g := gb101) (o := .cells #[.int .i64 a0_0, .int .i64 a0_1] 51 (0, 0)) (qk BK101.out)) : gb102 ≠ gb101)); replace BK101 := cK BK101 hb; replace HB := cB HB hb; clear hb hbox hg; have hnb19 := NB101_102.out; have hnc19 := NB102_101.out; have hcz20_0 : w18.cell? ⟨gb101, 0, none⟩ = some (.int .i64 a0_0) := (blk_cell BK101.out 0).trans rfl; have hcz20_1 : w18.cell? ⟨gb101, 1, none⟩ = some (.int .i64 a0_1) := (blk_cell BK101.out 1).trans rfl; have hfz20_0 := blk_frozen BK101.out 0; have hfz20_1 := blk_frozen BK101.out 1) | (go_at_call 61; (with_reducible refine (entrepotref02_tens.calls k (wrap64 (6 - a0_1)) t103 _ A3.out).mono ?_); rintro e w' ⟨rfl, ⟨nd, rfl⟩⟩; (try first | exact ⟨rfl, _, World.drewN_drewN _ _ _⟩ | exact ⟨rfl, _, Eq.trans (World.drewN_drewN _ _ _) (congrArg (World.drewN _) (Nat.add_assoc _ _ _))⟩); have hcz21_0 : w18.cell? ⟨gb102, 0, none⟩ = some (.int .i64 a1_0) := (blk_cell BK102.out 0).trans rfl; have hcz21_1 : w18.cell? ⟨gb102, 1, none⟩ = some (.int .i64 a1_1) := (blk_cell BK102.out 1).trans rfl; have hfz21_0 := blk_frozen BK102.out 0; have hfz21_1 := blk_frozen BK102.out 1) | (go_at_call 61; (with_reducible refine (entrepotref02_tens.calls k (wrap64 (6 - a1_1)) t104 _ A4.out).mono ?_); rintro e w' ⟨rfl, ⟨nd, rfl⟩⟩; (try first | exact ⟨rfl, _, World.drewN_drewN _ _ _⟩ | exact ⟨rfl, _, Eq.trans (World.drewN_drewN _ _ _) (congrArg (World.drewN _) (Nat.add_assoc _ _ _))⟩)))
   repeat (go_quiet (first | ((with_reducible refine gate_dst (N := 2) rfl ?_); refine box_ev (N := 2) (cs := #[.int .i64 a0_0, .int .i64 a0_1]) (t := 51) ?_; intro gb101 hg w17 hbox hb; have BK101 := Aside0.mk (hbox); have GW101 := Aside0.mk ((qg : w.heap.size ≤ gb101)); have GE101 := Aside0.mk ((qg : w.heap.size ≤ gb101)); replace HB := cB HB hb; clear hb hbox hg) | ((with_reducible refine gate_dst (N := 3) rfl ?_); refine box_ev (N := 3) (cs := #[.int .i64 a1_0, .int .i64 a1_1]) (t := 51) ?_; intro gb102 hg w18 hbox hb; have BK102 := Aside0.mk (hbox); have GW102 := Aside0.mk ((qg : w.heap.size ≤ gb102)); have GE102 := Aside0.mk ((qg : w.heap.size ≤ gb102)); have NB101_102 := Aside0.mk ((by rw [hg]; exact Nat.ne_of_lt (blk_lt (g := gb101) (o := .cells #[.int .i64 a0_0, .int .i64 a0_1] 51 (0, 0)) (qk BK101.out)) : gb101 ≠ gb102)); have NB102_101 := Aside0.mk ((by rw [hg]; exact Nat.ne_of_gt (blk_lt (g := gb101) (o := .cells #[.int .i64 a0_0, .int .i64 a0_1] 51 (0, 0)) (qk BK101.out)) : gb102 ≠ gb101)); replace BK101 := cK BK101 hb; replace HB := cB HB hb; clear hb hbox hg; have hnb19 := NB101_102.out; have hnc19 := NB102_101.out; have hcz20_0 : w18.cell? ⟨gb101, 0, none⟩ = some (.int .i64 a0_0) := (blk_cell BK101.out 0).trans rfl; have hcz20_1 : w18.cell? ⟨gb101, 1, none⟩ = some (.int .i64 a0_1) := (blk_cell BK101.out 1).trans rfl; have hfz20_0 := blk_frozen BK101.out 0; have hfz20_1 := blk_frozen BK101.out 1) | (go_at_call 61; (try simp only [Go.IntWalk.i64_left]); (with_reducible refine (entrepotref02_tens.calls k (wrap64 (6 - a0_1)) t103 _ A3.out).mono ?_); rintro e w' ⟨rfl, ⟨nd, rfl⟩⟩; (try first | exact ⟨rfl, _, World.drewN_drewN _ _ _⟩ | exact ⟨rfl, _, Eq.trans (World.drewN_drewN _ _ _) (congrArg (World.drewN _) (Nat.add_assoc _ _ _))⟩); have hcz21_0 : w18.cell? ⟨gb102, 0, none⟩ = some (.int .i64 a1_0) := (blk_cell BK102.out 0).trans rfl; have hcz21_1 : w18.cell? ⟨gb102, 1, none⟩ = some (.int .i64 a1_1) := (blk_cell BK102.out 1).trans rfl; have hfz21_0 := blk_frozen BK102.out 0; have hfz21_1 := blk_frozen BK102.out 1) | (go_at_call 61; (try simp only [Go.IntWalk.i64_left]); (with_reducible refine (entrepotref02_tens.calls k (wrap64 (6 - a1_1)) t104 _ A4.out).mono ?_); rintro e w' ⟨rfl, ⟨nd, rfl⟩⟩; (try first | exact ⟨rfl, _, World.drewN_drewN _ _ _⟩ | exact ⟨rfl, _, Eq.trans (World.drewN_drewN _ _ _) (congrArg (World.drewN _) (Nat.add_assoc _ _ _))⟩))); (try simp only [Go.IntWalk.i64_left]); try go_wp2_with (first | ((with_reducible refine gate_dst (N := 2) rfl ?_); refine box_ev (N := 2) (cs := #[.int .i64 a0_0, .int .i64 a0_1]) (t := 51) ?_; intro gb101 hg w17 hbox hb; have BK101 := Aside0.mk (hbox); have GW101 := Aside0.mk ((qg : w.heap.size ≤ gb101)); have GE101 := Aside0.mk ((qg : w.heap.size ≤ gb101)); replace HB := cB HB hb; clear hb hbox hg) | ((with_reducible refine gate_dst (N := 3) rfl ?_); refine box_ev (N := 3) (cs := #[.int .i64 a1_0, .int .i64 a1_1]) (t := 51) ?_; intro gb102 hg w18 hbox hb; have BK102 := Aside0.mk (hbox); have GW102 := Aside0.mk ((qg : w.heap.size ≤ gb102)); have GE102 := Aside0.mk ((qg : w.heap.size ≤ gb102)); have NB101_102 := Aside0.mk ((by rw [hg]; exact Nat.ne_of_lt (blk_lt (g := gb101) (o := .cells #[.int .i64 a0_0, .int .i64 a0_1] 51 (0, 0)) (qk BK101.out)) : gb101 ≠ gb102)); have NB102_101 := Aside0.mk ((by rw [hg]; exact Nat.ne_of_gt (blk_lt (g := gb101) (o := .cells #[.int .i64 a0_0, .int .i64 a0_1] 51 (0, 0)) (qk BK101.out)) : gb102 ≠ gb101)); replace BK101 := cK BK101 hb; replace HB := cB HB hb; clear hb hbox hg; have hnb19 := NB101_102.out; have hnc19 := NB102_101.out; have hcz20_0 : w18.cell? ⟨gb101, 0, none⟩ = some (.int .i64 a0_0) := (blk_cell BK101.out 0).trans rfl; have hcz20_1 : w18.cell? ⟨gb101, 1, none⟩ = some (.int .i64 a0_1) := (blk_cell BK101.out 1).trans rfl; have hfz20_0 := blk_frozen BK101.out 0; have hfz20_1 := blk_frozen BK101.out 1) | (go_at_call 61; (try simp only [Go.IntWalk.i64_left]); (with_reducible refine (entrepotref02_tens.calls k (wrap64 (6 - a0_1)) t103 _ A3.out).mono ?_); rintro e w' ⟨rfl, ⟨nd, rfl⟩⟩; (try first | exact ⟨rfl, _, World.drewN_drewN _ _ _⟩ | exact ⟨rfl, _, Eq.trans (World.drewN_drewN _ _ _) (congrArg (World.drewN _) (Nat.add_assoc _ _ _))⟩); have hcz21_0 : w18.cell? ⟨gb102, 0, none⟩ = some (.int .i64 a1_0) := (blk_cell BK102.out 0).trans rfl; have hcz21_1 : w18.cell? ⟨gb102, 1, none⟩ = some (.int .i64 a1_1) := (blk_cell BK102.out 1).trans rfl; have hfz21_0 := blk_frozen BK102.out 0; have hfz21_1 := blk_frozen BK102.out 1) | (go_at_call 61; (try simp only [Go.IntWalk.i64_left]); (with_reducible refine (entrepotref02_tens.calls k (wrap64 (6 - a1_1)) t104 _ A4.out).mono ?_); rintro e w' ⟨rfl, ⟨nd, rfl⟩⟩; (try first | exact ⟨rfl, _, World.drewN_drewN _ _ _⟩ | exact ⟨rfl, _, Eq.trans (World.drewN_drewN _ _ _) (congrArg (World.drewN _) (Nat.add_assoc _ _ _))⟩))))
   go_ret
   exact ⟨qe, qb⟩

end Go.Proofs.YtadocbfchdendaaGreatDoor.P
