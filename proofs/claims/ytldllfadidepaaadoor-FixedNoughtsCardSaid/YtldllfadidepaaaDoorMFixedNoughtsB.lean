/- Part 2 of the proof of FixedNoughts: contracts of functions, and the words that they use. -/
import Derived.Test.YtldllfadidepaaaDoorMFixedNoughtsA
import Derived.OpenShut
namespace Go.Proofs.YtldllfadidepaaaDoor.P
open Go.RowKit Go.Proofs.YtldllfadidepaaaDoorW.PrintWords Go.Proofs.YtldllfadidepaaaDoorW.PrintLast Go.Proofs.YtldllfadidepaaaDoorW.PrintMore
attribute [local go_sem] max2_int min2_int max_two min_two max_three min_three max_four min_four   -- for this text's walks alone
set_option linter.unusedVariables false
set_option linter.unusedSimpArgs false

attribute [local go_sem high] eqA27
/-! ### entrepotlaw02_FixedNoughts: function 8 -/
mutual
def entrepotlaw02_FixedNoughts.j0 : Nat → Int → Int → Int → ByteArray → Int → Int → Int → Int → Option (Bool)
  | 0, _, _, _, _, _, _, _, _ => none
  | k + 1, x2, x3, x11, x12, x102000, x102001, x108000, x108001 => entrepotlaw02_FixedNoughts.l0 k x2 x3 x11 x12 0 x102000 x102001 x108000 x108001
def entrepotlaw02_FixedNoughts.l0 : Nat → Int → Int → Int → ByteArray → Int → Int → Int → Int → Int → Option (Bool)
  | 0, _, _, _, _, _, _, _, _, _ => none
  | k + 1, x2, x3, x11, x12, x13, x102000, x102001, x108000, x108001 => if x13 < (Int.tmod (wrap64 (x2)) 4) then (if 1 + x12.size ≤ 9223372036854775807 then (entrepotlaw02_FixedNoughts.l0 k x2 x3 x11 ((⟨#[48]⟩ : ByteArray) ++ x12) (wrap64 (x13 + 1)) x102000 x102001 x108000 x108001) else (none)) else (entrepotlaw02_FixedNoughts.l1 k x3 x11 x12 0 x102000 x102001 x108000 x108001)
def entrepotlaw02_FixedNoughts.l1 : Nat → Int → Int → ByteArray → Int → Int → Int → Int → Int → Option (Bool)
  | 0, _, _, _, _, _, _, _, _ => none
  | k + 1, x3, x11, x12, x14, x102000, x102001, x108000, x108001 => if x14 < (wrap64 (1 + (Int.tmod (wrap64 (x3)) 3))) then (if x12.size + 1 ≤ 9223372036854775807 then (entrepotlaw02_FixedNoughts.l1 k x3 x11 (x12 ++ (⟨#[48]⟩ : ByteArray)) (wrap64 (x14 + 1)) x102000 x102001 x108000 x108001) else (none)) else (if x102000 < 0 then (if 1 + x12.size ≤ 9223372036854775807 then ((fixed_Read.f ((⟨#[45]⟩ : ByteArray) ++ x12)).bind fun bt109 => (if x11 = 0 then (if bt109.2.2 = 0 then (if (x108000 == bt109.1 && (x108001 == bt109.2.1)) = true then ((fixed_Least.f k x102000 x102001).bind fun bt113 => (some (x108000 == bt113.1 && (x108001 == bt113.2)))) else (some false)) else (some false)) else (some false))) else (none)) else ((fixed_Read.f x12).bind fun bt115 => (if x11 = 0 then (if bt115.2.2 = 0 then (if (x108000 == bt115.1 && (x108001 == bt115.2.1)) = true then ((fixed_Least.f k x102000 x102001).bind fun bt119 => (some (x108000 == bt119.1 && (x108001 == bt119.2)))) else (some false)) else (some false)) else (some false))))
end
def entrepotlaw02_FixedNoughts.f (k : Nat) (a0 : Int) (a1 : Int) (a2 : Int) (a3 : Int) : Option (Bool) := (entrepotlaw02_shown.f k).bind fun t102 => (if t102 = true then ((fixed_Print.f (wrap64 (Int.tdiv (wrap64 (a0)) 32)) (Int.tmod (wrap64 (a1)) 4)).bind fun t103 => ((fixed_Read.f t103).bind fun bt104 => ((fixed_Print.f (mx (wrap64 (Int.tdiv (wrap64 (a0)) 32)) (wrap64 (-(wrap64 (Int.tdiv (wrap64 (a0)) 32))))) (Int.tmod (wrap64 (a1)) 4)).bind fun t108 => (if (Int.tmod (wrap64 (a1)) 4) = 0 then (if t108.size + 1 ≤ 9223372036854775807 then (entrepotlaw02_FixedNoughts.j0 k a2 a3 bt104.2.2 (t108 ++ (⟨#[46]⟩ : ByteArray)) (wrap64 (Int.tdiv (wrap64 (a0)) 32)) (Int.tmod (wrap64 (a1)) 4) bt104.1 bt104.2.1) else (none)) else (entrepotlaw02_FixedNoughts.j0 k a2 a3 bt104.2.2 t108 (wrap64 (Int.tdiv (wrap64 (a0)) 32)) (Int.tmod (wrap64 (a1)) 4) bt104.1 bt104.2.1))))) else (some false))
theorem entrepotlaw02_FixedNoughts.mono_l : ∀ k, (∀ y0 y1 y2 y3 y4 y5 y6 y7, LeO (entrepotlaw02_FixedNoughts.j0 k y0 y1 y2 y3 y4 y5 y6 y7) (entrepotlaw02_FixedNoughts.j0 (k + 1) y0 y1 y2 y3 y4 y5 y6 y7)) ∧ (∀ y0 y1 y2 y3 y4 y5 y6 y7 y8, LeO (entrepotlaw02_FixedNoughts.l0 k y0 y1 y2 y3 y4 y5 y6 y7 y8) (entrepotlaw02_FixedNoughts.l0 (k + 1) y0 y1 y2 y3 y4 y5 y6 y7 y8)) ∧ (∀ y0 y1 y2 y3 y4 y5 y6 y7, LeO (entrepotlaw02_FixedNoughts.l1 k y0 y1 y2 y3 y4 y5 y6 y7) (entrepotlaw02_FixedNoughts.l1 (k + 1) y0 y1 y2 y3 y4 y5 y6 y7))
  | 0 => ⟨fun _ _ _ _ _ _ _ _ r h => by simp [entrepotlaw02_FixedNoughts.j0] at h, fun _ _ _ _ _ _ _ _ _ r h => by simp [entrepotlaw02_FixedNoughts.l0] at h, fun _ _ _ _ _ _ _ _ r h => by simp [entrepotlaw02_FixedNoughts.l1] at h⟩
  | k + 1 => by
    obtain ⟨ih0, ih1, ih2⟩ := entrepotlaw02_FixedNoughts.mono_l k
    refine ⟨?_, ?_, ?_⟩
    · intro y0 y1 y2 y3 y4 y5 y6 y7
      unfold entrepotlaw02_FixedNoughts.j0
      repeat' first
      | (with_reducible exact ih0 _ _ _ _ _ _ _ _)
      | (with_reducible exact ih1 _ _ _ _ _ _ _ _ _)
      | (with_reducible exact ih2 _ _ _ _ _ _ _ _)
      | (with_reducible exact entrepotlaw02_shown.mono _)
      | (with_reducible exact fixed_Least.mono _ _ _)
      | (with_reducible exact LeO.refl _)
      | (with_reducible exact LeO.none _)
      | (with_reducible refine LeO.ite ?_ ?_)
      | (with_reducible refine LeO.bind ?_ (fun _ => ?_))
      | exact ih0 _ _ _ _ _ _ _ _
      | exact ih1 _ _ _ _ _ _ _ _ _
      | exact ih2 _ _ _ _ _ _ _ _
      | exact entrepotlaw02_shown.mono _
      | exact fixed_Least.mono _ _ _
      | exact LeO.none _
      | refine LeO.ite ?_ ?_
      | refine LeO.bind ?_ (fun _ => ?_)
    · intro y0 y1 y2 y3 y4 y5 y6 y7 y8
      unfold entrepotlaw02_FixedNoughts.l0
      repeat' first
      | (with_reducible exact ih0 _ _ _ _ _ _ _ _)
      | (with_reducible exact ih1 _ _ _ _ _ _ _ _ _)
      | (with_reducible exact ih2 _ _ _ _ _ _ _ _)
      | (with_reducible exact entrepotlaw02_shown.mono _)
      | (with_reducible exact fixed_Least.mono _ _ _)
      | (with_reducible exact LeO.refl _)
      | (with_reducible exact LeO.none _)
      | (with_reducible refine LeO.ite ?_ ?_)
      | (with_reducible refine LeO.bind ?_ (fun _ => ?_))
      | exact ih0 _ _ _ _ _ _ _ _
      | exact ih1 _ _ _ _ _ _ _ _ _
      | exact ih2 _ _ _ _ _ _ _ _
      | exact entrepotlaw02_shown.mono _
      | exact fixed_Least.mono _ _ _
      | exact LeO.none _
      | refine LeO.ite ?_ ?_
      | refine LeO.bind ?_ (fun _ => ?_)
    · intro y0 y1 y2 y3 y4 y5 y6 y7
      unfold entrepotlaw02_FixedNoughts.l1
      repeat' first
      | (with_reducible exact ih0 _ _ _ _ _ _ _ _)
      | (with_reducible exact ih1 _ _ _ _ _ _ _ _ _)
      | (with_reducible exact ih2 _ _ _ _ _ _ _ _)
      | (with_reducible exact entrepotlaw02_shown.mono _)
      | (with_reducible exact fixed_Least.mono _ _ _)
      | (with_reducible exact LeO.refl _)
      | (with_reducible exact LeO.none _)
      | (with_reducible refine LeO.ite ?_ ?_)
      | (with_reducible refine LeO.bind ?_ (fun _ => ?_))
      | exact ih0 _ _ _ _ _ _ _ _
      | exact ih1 _ _ _ _ _ _ _ _ _
      | exact ih2 _ _ _ _ _ _ _ _
      | exact entrepotlaw02_shown.mono _
      | exact fixed_Least.mono _ _ _
      | exact LeO.none _
      | refine LeO.ite ?_ ?_
      | refine LeO.bind ?_ (fun _ => ?_)
theorem entrepotlaw02_FixedNoughts.mono : ∀ a0 a1 a2 a3 k, LeO (entrepotlaw02_FixedNoughts.f k a0 a1 a2 a3) (entrepotlaw02_FixedNoughts.f (k + 1) a0 a1 a2 a3) := by
  intro a0 a1 a2 a3 k
  obtain ⟨ih0, ih1, ih2⟩ := entrepotlaw02_FixedNoughts.mono_l k
  unfold entrepotlaw02_FixedNoughts.f
  repeat' first
      | (with_reducible exact ih0 _ _ _ _ _ _ _ _)
      | (with_reducible exact ih1 _ _ _ _ _ _ _ _ _)
      | (with_reducible exact ih2 _ _ _ _ _ _ _ _)
      | (with_reducible exact entrepotlaw02_shown.mono _)
      | (with_reducible exact fixed_Least.mono _ _ _)
      | (with_reducible exact LeO.refl _)
      | (with_reducible exact LeO.none _)
      | (with_reducible refine LeO.ite ?_ ?_)
      | (with_reducible refine LeO.bind ?_ (fun _ => ?_))
      | exact ih0 _ _ _ _ _ _ _ _
      | exact ih1 _ _ _ _ _ _ _ _ _
      | exact ih2 _ _ _ _ _ _ _ _
      | exact entrepotlaw02_shown.mono _
      | exact fixed_Least.mono _ _ _
      | exact LeO.none _
      | refine LeO.ite ?_ ?_
      | refine LeO.bind ?_ (fun _ => ?_)
def entrepotlaw02_FixedNoughts.T19 : Bool × List (List Nat × List Nat) := (true, [([], []), ([0], [0]), ([1], [1]), ([2], [2]), ([3, 2], [2, 3]), ([2, 4], [2, 4]), ([5, 2], [5]), ([6], [6]), ([6], [6]), ([7, 8, 6], [6, 7, 8]), ([6, 9], [6, 9]), ([10, 6], [10]), ([11], [11]), ([11], [11]), ([13, 11, 11], [11, 13]), ([12, 14, 11], [11, 12, 14]), ([11, 15], [11, 15]), ([16, 14, 0, 1, 2, 3, 4, 5, 6, 7, 8, 9, 10, 11, 12, 13, 14, 15, 16], [16])])
def entrepotlaw02_FixedNoughts.B19 : List Nat := [0, 1, 3, 7, 15, 31, 63, 127, 127, 511, 1023, 2047, 4095, 4095, 12287, 32767, 65535, 131071]
theorem entrepotlaw02_FixedNoughts.tab19 : rtab .any (opsOf Tryd.f8 19) = entrepotlaw02_FixedNoughts.T19 := by kernel_rfl
theorem entrepotlaw02_FixedNoughts.bits19 : waitsOk entrepotlaw02_FixedNoughts.T19.2 entrepotlaw02_FixedNoughts.B19 = true := by kernel_rfl
set_option maxHeartbeats 8000000 in
set_option maxRecDepth 100000 in
theorem entrepotlaw02_FixedNoughts.calls (k : Nat) (a0 : Int) (a1 : Int) (a2 : Int) (a3 : Int) (r : Bool) (w : World) (hT : Tabs w) (h : entrepotlaw02_FixedNoughts.f k a0 a1 a2 a3 = some r) :
    Calls Tryd.prog 8 #[.int .i32 a0, .int .u8 a1, .int .u8 a2, .int .u8 a3] w fun e w' => e = .returned (.bool r) ∧ Below w.heap.size w w' := by
  have hu27 := Tryd.underlying27
  have HT0 := Aside0.mk hT
  clear hT
  have HB := Aside0.mk (Below.refl w.heap.size w)
  have H : ((entrepotlaw02_shown.f k).bind fun t102 => (if t102 = true then ((fixed_Print.f (wrap64 (Int.tdiv (wrap64 (a0)) 32)) (Int.tmod (wrap64 (a1)) 4)).bind fun t103 => ((fixed_Read.f t103).bind fun bt104 => ((fixed_Print.f (mx (wrap64 (Int.tdiv (wrap64 (a0)) 32)) (wrap64 (-(wrap64 (Int.tdiv (wrap64 (a0)) 32))))) (Int.tmod (wrap64 (a1)) 4)).bind fun t108 => (if (Int.tmod (wrap64 (a1)) 4) = 0 then (if t108.size + 1 ≤ 9223372036854775807 then (entrepotlaw02_FixedNoughts.j0 k a2 a3 bt104.2.2 (t108 ++ (⟨#[46]⟩ : ByteArray)) (wrap64 (Int.tdiv (wrap64 (a0)) 32)) (Int.tmod (wrap64 (a1)) 4) bt104.1 bt104.2.1) else (none)) else (entrepotlaw02_FixedNoughts.j0 k a2 a3 bt104.2.2 t108 (wrap64 (Int.tdiv (wrap64 (a0)) 32)) (Int.tmod (wrap64 (a1)) 4) bt104.1 bt104.2.1))))) else (some false))) = some r := h
  clear h
  replace H := Option.bind_eq_some_iff.mp H
  obtain ⟨t102, A50, H⟩ := H
  replace H : (if t102 = true then ((fixed_Print.f (wrap64 (Int.tdiv (wrap64 (a0)) 32)) (Int.tmod (wrap64 (a1)) 4)).bind fun t103 => ((fixed_Read.f t103).bind fun bt104 => ((fixed_Print.f (mx (wrap64 (Int.tdiv (wrap64 (a0)) 32)) (wrap64 (-(wrap64 (Int.tdiv (wrap64 (a0)) 32))))) (Int.tmod (wrap64 (a1)) 4)).bind fun t108 => (if (Int.tmod (wrap64 (a1)) 4) = 0 then (if t108.size + 1 ≤ 9223372036854775807 then (entrepotlaw02_FixedNoughts.j0 k a2 a3 bt104.2.2 (t108 ++ (⟨#[46]⟩ : ByteArray)) (wrap64 (Int.tdiv (wrap64 (a0)) 32)) (Int.tmod (wrap64 (a1)) 4) bt104.1 bt104.2.1) else (none)) else (entrepotlaw02_FixedNoughts.j0 k a2 a3 bt104.2.2 t108 (wrap64 (Int.tdiv (wrap64 (a0)) 32)) (Int.tmod (wrap64 (a1)) 4) bt104.1 bt104.2.1))))) else (some false)) = some r := H
  have A5 := Aside0.mk A50
  clear A50
  by_cases c6 : t102 = true
  · subst c6
    have H1 : ((fixed_Print.f (wrap64 (Int.tdiv (wrap64 (a0)) 32)) (Int.tmod (wrap64 (a1)) 4)).bind fun t103 => ((fixed_Read.f t103).bind fun bt104 => ((fixed_Print.f (mx (wrap64 (Int.tdiv (wrap64 (a0)) 32)) (wrap64 (-(wrap64 (Int.tdiv (wrap64 (a0)) 32))))) (Int.tmod (wrap64 (a1)) 4)).bind fun t108 => (if (Int.tmod (wrap64 (a1)) 4) = 0 then (if t108.size + 1 ≤ 9223372036854775807 then (entrepotlaw02_FixedNoughts.j0 k a2 a3 bt104.2.2 (t108 ++ (⟨#[46]⟩ : ByteArray)) (wrap64 (Int.tdiv (wrap64 (a0)) 32)) (Int.tmod (wrap64 (a1)) 4) bt104.1 bt104.2.1) else (none)) else (entrepotlaw02_FixedNoughts.j0 k a2 a3 bt104.2.2 t108 (wrap64 (Int.tdiv (wrap64 (a0)) 32)) (Int.tmod (wrap64 (a1)) 4) bt104.1 bt104.2.1))))) = some r := by rw [if_pos rfl] at H; exact H
    clear H
    have H := H1
    clear H1
    replace H := Option.bind_eq_some_iff.mp H
    obtain ⟨t103, A70, H⟩ := H
    replace H : ((fixed_Read.f t103).bind fun bt104 => ((fixed_Print.f (mx (wrap64 (Int.tdiv (wrap64 (a0)) 32)) (wrap64 (-(wrap64 (Int.tdiv (wrap64 (a0)) 32))))) (Int.tmod (wrap64 (a1)) 4)).bind fun t108 => (if (Int.tmod (wrap64 (a1)) 4) = 0 then (if t108.size + 1 ≤ 9223372036854775807 then (entrepotlaw02_FixedNoughts.j0 k a2 a3 bt104.2.2 (t108 ++ (⟨#[46]⟩ : ByteArray)) (wrap64 (Int.tdiv (wrap64 (a0)) 32)) (Int.tmod (wrap64 (a1)) 4) bt104.1 bt104.2.1) else (none)) else (entrepotlaw02_FixedNoughts.j0 k a2 a3 bt104.2.2 t108 (wrap64 (Int.tdiv (wrap64 (a0)) 32)) (Int.tmod (wrap64 (a1)) 4) bt104.1 bt104.2.1)))) = some r := H
    have A7 := Aside0.mk A70
    clear A70
    replace H := Option.bind_eq_some_iff.mp H
    obtain ⟨⟨t104, t105, t106⟩, A80, H⟩ := H
    replace H : ((fixed_Print.f (mx (wrap64 (Int.tdiv (wrap64 (a0)) 32)) (wrap64 (-(wrap64 (Int.tdiv (wrap64 (a0)) 32))))) (Int.tmod (wrap64 (a1)) 4)).bind fun t108 => (if (Int.tmod (wrap64 (a1)) 4) = 0 then (if t108.size + 1 ≤ 9223372036854775807 then (entrepotlaw02_FixedNoughts.j0 k a2 a3 t106 (t108 ++ (⟨#[46]⟩ : ByteArray)) (wrap64 (Int.tdiv (wrap64 (a0)) 32)) (Int.tmod (wrap64 (a1)) 4) t104 t105) else (none)) else (entrepotlaw02_FixedNoughts.j0 k a2 a3 t106 t108 (wrap64 (Int.tdiv (wrap64 (a0)) 32)) (Int.tmod (wrap64 (a1)) 4) t104 t105))) = some r := H
    have A8 := Aside0.mk A80
    clear A80
    obtain ⟨ji9, hji9⟩ : ∃ j_ : Int, (mx (wrap64 (Int.tdiv (wrap64 (a0)) 32)) (wrap64 (-(wrap64 (Int.tdiv (wrap64 (a0)) 32))))) = j_ := ⟨_, rfl⟩
    replace H : ((fixed_Print.f (ji9) (Int.tmod (wrap64 (a1)) 4)).bind fun t108 => (if (Int.tmod (wrap64 (a1)) 4) = 0 then (if t108.size + 1 ≤ 9223372036854775807 then (entrepotlaw02_FixedNoughts.j0 k a2 a3 t106 (t108 ++ (⟨#[46]⟩ : ByteArray)) (wrap64 (Int.tdiv (wrap64 (a0)) 32)) (Int.tmod (wrap64 (a1)) 4) t104 t105) else (none)) else (entrepotlaw02_FixedNoughts.j0 k a2 a3 t106 t108 (wrap64 (Int.tdiv (wrap64 (a0)) 32)) (Int.tmod (wrap64 (a1)) 4) t104 t105))) = some r := by first | (rw [hji9] at H; exact H) | (simp only [hji9] at H ⊢; exact H)
    (try rw [hji9] at A5)
    (try rw [hji9] at A7)
    (try rw [hji9] at A8)
    have hji9_ : (if (wrap64 (Int.tdiv (wrap64 (a0)) 32)) < (wrap64 (-(wrap64 (Int.tdiv (wrap64 (a0)) 32)))) then (wrap64 (-(wrap64 (Int.tdiv (wrap64 (a0)) 32)))) else (wrap64 (Int.tdiv (wrap64 (a0)) 32))) = ji9 := hji9
    replace H := Option.bind_eq_some_iff.mp H
    obtain ⟨t108, A100, H⟩ := H
    replace H : (if (Int.tmod (wrap64 (a1)) 4) = 0 then (if t108.size + 1 ≤ 9223372036854775807 then (entrepotlaw02_FixedNoughts.j0 k a2 a3 t106 (t108 ++ (⟨#[46]⟩ : ByteArray)) (wrap64 (Int.tdiv (wrap64 (a0)) 32)) (Int.tmod (wrap64 (a1)) 4) t104 t105) else (none)) else (entrepotlaw02_FixedNoughts.j0 k a2 a3 t106 t108 (wrap64 (Int.tdiv (wrap64 (a0)) 32)) (Int.tmod (wrap64 (a1)) 4) t104 t105)) = some r := H
    have A10 := Aside0.mk A100
    clear A100
    have HC11 := Aside0.mk H
    clear H
    go_enter Tryd.func8, Tryd.ntmps8
    go_upto_if 44 with (first | ((with_reducible refine gate_dst (N := 9) rfl ?_); refine box_event ?hg (N := 9) ?hd (cs := #[.int .i64 0, .int .i64 0]) (t := 27) ?hr ?_; (case hd => rfl); (case hg => rfl); (case hr => first | (go_simp; done) | (go_simp; rfl)); intro gb101 hg w12 hbox hb; have n0_ := Aside0.mk (below_step (by repeat (first | (with_reducible first | exact HB.out | apply below_alloc | apply pw_below_drewN | apply below_drew1) | exact HB.out)) hb); have n1_ := Aside0.mk (hbox); have n2_ := Aside0.mk ((by rw [hg]; exact (below_size (by repeat (first | (with_reducible first | exact HB.out | apply below_alloc | apply pw_below_drewN | apply below_drew1) | exact HB.out))) : w.heap.size ≤ gb101)); have n3_ := Aside0.mk ((by rw [hg]; exact (below_size (by repeat (first | (with_reducible first | exact HB.out | apply below_alloc | apply pw_below_drewN | apply below_drew1) | exact HB.out))) : w.heap.size ≤ gb101)); clear HB; have HB := n0_; have BK101 := n1_; have GW101 := n2_; have GE101 := n3_; clear n0_ n1_ n2_ n3_; clear hb hbox hg; have hcz13_0 : w12.cell? ⟨gb101, 0, none⟩ = some (.int .i64 0) := (blk_cell BK101.out 0).trans rfl; have hcz13_1 : w12.cell? ⟨gb101, 1, none⟩ = some (.int .i64 0) := (blk_cell BK101.out 1).trans rfl; have hfz13_0 := blk_frozen BK101.out 0; have hfz13_1 := blk_frozen BK101.out 1) | ((with_reducible refine gate_callee (f := 10) rfl ?_); refine goesL_ (some 24) rfl rfl Tryd.func10 (by kernel_rfl) rfl #[] rfl (by (try simp only [List.map_toArray, List.map_cons, List.map_nil]); first | done | rfl | (simp only [List.length_drop, List.length_take]; rfl)) ?_; (with_reducible refine (entrepotlaw02_shown.calls k  true _ (Tabs.kept HT0.out (by repeat (first | (with_reducible first | exact HB.out | apply below_alloc | apply pw_below_drewN | apply below_drew1 | refine below_set ?_ GE101.out) | exact HB.out))) A5.out).mono ?_); rintro e w14 ⟨rfl, hb⟩; refine ⟨_, rfl, ?_⟩; have n0_ := Aside0.mk (blk_below (g := gb101) (o := .cells #[.int .i64 (wrap64 (Int.tdiv (wrap64 (a0)) 32)), .int .i64 (Int.tmod (wrap64 (a1)) 4)] 27 (0, 0)) (by (with_reducible repeat (first | refine blk_drewN ?_ _ | refine blk_drew ?_ | refine blk_alloc ?_ _)); refine blk_put (cs := #[.int .i64 (wrap64 (Int.tdiv (wrap64 (a0)) 32)), .int .i64 0]) ?_ 1 _ rfl; (with_reducible repeat (first | refine blk_drewN ?_ _ | refine blk_drew ?_ | refine blk_alloc ?_ _)); refine blk_put (cs := #[.int .i64 0, .int .i64 0]) ?_ 0 _ rfl; (with_reducible repeat (first | refine blk_drewN ?_ _ | refine blk_drew ?_ | refine blk_alloc ?_ _)); exact BK101.out) hb); have n1_ := Aside0.mk (below_step (by repeat (first | (with_reducible first | exact HB.out | apply below_alloc | apply pw_below_drewN | apply below_drew1 | refine below_set ?_ GE101.out) | exact HB.out)) hb); clear BK101; clear HB; have BK101 := n0_; have HB := n1_; clear n0_ n1_; (try clear hb); (try clear hb2); (try clear hk); (try clear hi); have hcz15_0 : w14.cell? ⟨gb101, 0, none⟩ = some (.int .i64 (wrap64 (Int.tdiv (wrap64 (a0)) 32))) := (blk_cell BK101.out 0).trans rfl; have hcz15_1 : w14.cell? ⟨gb101, 1, none⟩ = some (.int .i64 (Int.tmod (wrap64 (a1)) 4)) := (blk_cell BK101.out 1).trans rfl; have hfz15_0 := blk_frozen BK101.out 0; have hfz15_1 := blk_frozen BK101.out 1) | ((with_reducible refine gate_callee (f := 16) rfl ?_); refine goesL_ (some 28) rfl rfl Tryd.func16 (by kernel_rfl) rfl #[.agg #[.int .i64 (wrap64 (Int.tdiv (wrap64 (a0)) 32)), .int .i64 (Int.tmod (wrap64 (a1)) 4)]] rfl (by (try simp only [List.map_toArray, List.map_cons, List.map_nil]); first | done | rfl | (simp only [List.length_drop, List.length_take]; rfl)) ?_; (with_reducible refine (fixed_Print.calls (wrap64 (Int.tdiv (wrap64 (a0)) 32)) (Int.tmod (wrap64 (a1)) 4) t103 _ (Tabs.kept HT0.out (by repeat (first | (with_reducible first | exact HB.out | apply below_alloc | apply pw_below_drewN | apply below_drew1 | refine below_set ?_ GE101.out) | exact HB.out))) A7.out).mono ?_); rintro e w16 ⟨rfl, hb⟩; refine ⟨_, rfl, ?_⟩; have n0_ := Aside0.mk (blk_below (g := gb101) (o := .cells #[.int .i64 (wrap64 (Int.tdiv (wrap64 (a0)) 32)), .int .i64 (Int.tmod (wrap64 (a1)) 4)] 27 (0, 0)) (by (with_reducible repeat (first | refine blk_drewN ?_ _ | refine blk_drew ?_ | refine blk_alloc ?_ _)); exact BK101.out) hb); have n1_ := Aside0.mk (below_step (by repeat (first | (with_reducible first | exact HB.out | apply below_alloc | apply pw_below_drewN | apply below_drew1 | refine below_set ?_ GE101.out) | exact HB.out)) hb); clear BK101; clear HB; have BK101 := n0_; have HB := n1_; clear n0_ n1_; (try clear hb); (try clear hb2); (try clear hk); (try clear hi)) | ((with_reducible refine gate_callee (f := 13) rfl ?_); refine goesL_ (some 29) rfl rfl Tryd.func13 (by kernel_rfl) rfl #[.string t103] rfl (by (try simp only [List.map_toArray, List.map_cons, List.map_nil]); first | done | rfl | (simp only [List.length_drop, List.length_take]; rfl)) ?_; (with_reducible refine (fixed_Read.calls t103 t104 t105 t106 _ A8.out).mono ?_); rintro e w17 ⟨rfl, hb⟩; refine ⟨_, rfl, ?_⟩; have n0_ := Aside0.mk (blk_below (g := gb101) (o := .cells #[.int .i64 (wrap64 (Int.tdiv (wrap64 (a0)) 32)), .int .i64 (Int.tmod (wrap64 (a1)) 4)] 27 (0, 0)) (by (with_reducible repeat (first | refine blk_drewN ?_ _ | refine blk_drew ?_ | refine blk_alloc ?_ _)); exact BK101.out) hb); have n1_ := Aside0.mk (below_step (by repeat (first | (with_reducible first | exact HB.out | apply below_alloc | apply pw_below_drewN | apply below_drew1 | refine below_set ?_ GE101.out) | exact HB.out)) hb); clear BK101; clear HB; have BK101 := n0_; have HB := n1_; clear n0_ n1_; (try clear hb); (try clear hb2); (try clear hk); (try clear hi)) | ((with_reducible refine gate_dst (N := 10) rfl ?_); refine box_event ?hg (N := 10) ?hd (cs := #[.int .i64 0, .int .i64 0]) (t := 27) ?hr ?_; (case hd => rfl); (case hg => rfl); (case hr => first | (go_simp; done) | (go_simp; rfl)); intro gb107 hg w18 hbox hb; have n0_ := Aside0.mk (blk_below (g := gb101) (o := .cells #[.int .i64 (wrap64 (Int.tdiv (wrap64 (a0)) 32)), .int .i64 (Int.tmod (wrap64 (a1)) 4)] 27 (0, 0)) (by (with_reducible repeat (first | refine blk_drewN ?_ _ | refine blk_drew ?_ | refine blk_alloc ?_ _)); exact BK101.out) hb); have n1_ := Aside0.mk (below_step (by repeat (first | (with_reducible first | exact HB.out | apply below_alloc | apply pw_below_drewN | apply below_drew1 | refine below_set ?_ GE101.out) | exact HB.out)) hb); have n2_ := Aside0.mk (hbox); have n3_ := Aside0.mk ((by rw [hg]; exact (below_size (by repeat (first | (with_reducible first | exact HB.out | apply below_alloc | apply pw_below_drewN | apply below_drew1 | refine below_set ?_ GE101.out) | exact HB.out))) : w.heap.size ≤ gb107)); have n4_ := Aside0.mk ((by rw [hg]; exact (below_size (by repeat (first | (with_reducible first | exact HB.out | apply below_alloc | apply pw_below_drewN | apply below_drew1 | refine below_set ?_ GE101.out) | exact HB.out))) : w.heap.size ≤ gb107)); have n5_ := Aside0.mk ((by rw [hg]; exact Nat.ne_of_lt (blk_lt (g := gb101) (o := .cells #[.int .i64 (wrap64 (Int.tdiv (wrap64 (a0)) 32)), .int .i64 (Int.tmod (wrap64 (a1)) 4)] 27 (0, 0)) (by (with_reducible repeat (first | refine blk_drewN ?_ _ | refine blk_drew ?_ | refine blk_alloc ?_ _)); exact BK101.out)) : gb101 ≠ gb107)); have n6_ := Aside0.mk ((by rw [hg]; exact Nat.ne_of_gt (blk_lt (g := gb101) (o := .cells #[.int .i64 (wrap64 (Int.tdiv (wrap64 (a0)) 32)), .int .i64 (Int.tmod (wrap64 (a1)) 4)] 27 (0, 0)) (by (with_reducible repeat (first | refine blk_drewN ?_ _ | refine blk_drew ?_ | refine blk_alloc ?_ _)); exact BK101.out)) : gb107 ≠ gb101)); clear BK101; clear HB; have BK101 := n0_; have HB := n1_; have BK107 := n2_; have GW107 := n3_; have GE107 := n4_; have NB101_107 := n5_; have NB107_101 := n6_; clear n0_ n1_ n2_ n3_ n4_ n5_ n6_; clear hb hbox hg; have hnb19 := NB107_101.out; have hnc19 := NB101_107.out; have hcz20_0 : w18.cell? ⟨gb107, 0, none⟩ = some (.int .i64 0) := (blk_cell BK107.out 0).trans rfl; have hcz20_1 : w18.cell? ⟨gb107, 1, none⟩ = some (.int .i64 0) := (blk_cell BK107.out 1).trans rfl; have hfz20_0 := blk_frozen BK107.out 0; have hfz20_1 := blk_frozen BK107.out 1; have hcz21_0 : w18.cell? ⟨gb101, 0, none⟩ = some (.int .i64 (wrap64 (Int.tdiv (wrap64 (a0)) 32))) := (blk_cell BK101.out 0).trans rfl; have hcz21_1 : w18.cell? ⟨gb101, 1, none⟩ = some (.int .i64 (Int.tmod (wrap64 (a1)) 4)) := (blk_cell BK101.out 1).trans rfl; have hfz21_0 := blk_frozen BK101.out 0; have hfz21_1 := blk_frozen BK101.out 1) | ((with_reducible refine gate_callee (f := 16) rfl ?_); refine goesL_ (some 41) rfl rfl Tryd.func16 (by kernel_rfl) rfl #[.agg #[.int .i64 ji9, .int .i64 (Int.tmod (wrap64 (a1)) 4)]] rfl (by (try simp only [List.map_toArray, List.map_cons, List.map_nil]); first | done | (simp only [hji9]; rfl) | rfl | (simp only [List.length_drop, List.length_take]; rfl)) ?_; (with_reducible refine (fixed_Print.calls ji9 (Int.tmod (wrap64 (a1)) 4) t108 _ (Tabs.kept HT0.out (by repeat (first | (with_reducible first | exact HB.out | apply below_alloc | apply pw_below_drewN | apply below_drew1 | refine below_set ?_ GE101.out | refine below_set ?_ GE107.out) | exact HB.out))) A10.out).mono ?_); rintro e w22 ⟨rfl, hb⟩; refine ⟨_, rfl, ?_⟩; have n0_ := Aside0.mk (blk_below (g := gb101) (o := .cells #[.int .i64 (wrap64 (Int.tdiv (wrap64 (a0)) 32)), .int .i64 (Int.tmod (wrap64 (a1)) 4)] 27 (0, 0)) (by (with_reducible repeat (first | refine blk_drewN ?_ _ | refine blk_drew ?_ | refine blk_alloc ?_ _)); refine blk_far ?_ NB101_107.out _; (with_reducible repeat (first | refine blk_drewN ?_ _ | refine blk_drew ?_ | refine blk_alloc ?_ _)); refine blk_far ?_ NB101_107.out _; (with_reducible repeat (first | refine blk_drewN ?_ _ | refine blk_drew ?_ | refine blk_alloc ?_ _)); exact BK101.out) hb); have n1_ := Aside0.mk (blk_below (g := gb107) (o := .cells #[.int .i64 t104, .int .i64 t105] 27 (0, 0)) (by (with_reducible repeat (first | refine blk_drewN ?_ _ | refine blk_drew ?_ | refine blk_alloc ?_ _)); refine blk_put (cs := #[.int .i64 t104, .int .i64 0]) ?_ 1 _ rfl; (with_reducible repeat (first | refine blk_drewN ?_ _ | refine blk_drew ?_ | refine blk_alloc ?_ _)); refine blk_put (cs := #[.int .i64 0, .int .i64 0]) ?_ 0 _ rfl; (with_reducible repeat (first | refine blk_drewN ?_ _ | refine blk_drew ?_ | refine blk_alloc ?_ _)); exact BK107.out) hb); have n2_ := Aside0.mk (below_step (by repeat (first | (with_reducible first | exact HB.out | apply below_alloc | apply pw_below_drewN | apply below_drew1 | refine below_set ?_ GE101.out | refine below_set ?_ GE107.out) | exact HB.out)) hb); clear BK101; clear BK107; clear HB; have BK101 := n0_; have BK107 := n1_; have HB := n2_; clear n0_ n1_ n2_; (try clear hb); (try clear hb2); (try clear hk); (try clear hi); have hcz23_0 : w22.cell? ⟨gb101, 0, none⟩ = some (.int .i64 (wrap64 (Int.tdiv (wrap64 (a0)) 32))) := (blk_cell BK101.out 0).trans rfl; have hcz23_1 : w22.cell? ⟨gb101, 1, none⟩ = some (.int .i64 (Int.tmod (wrap64 (a1)) 4)) := (blk_cell BK101.out 1).trans rfl; have hfz23_0 := blk_frozen BK101.out 0; have hfz23_1 := blk_frozen BK101.out 1))
    (try simp only [Act.put, List.setIfInBounds_toArray, List.set_cons_zero, List.set_cons_succ])
    go_cut [12] (fun v12 wc => ∃ (kq : Nat) (x12_10 : ByteArray), v12 = .string x12_10 ∧ Aside0 (entrepotlaw02_FixedNoughts.j0 kq a2 a3 t106 x12_10 (wrap64 (Int.tdiv (wrap64 (a0)) 32)) (Int.tmod (wrap64 (a1)) 4) t104 t105 = some r) ∧ Aside0 (kq ≤ k) ∧ Aside0 (wc.heap[gb101]? = some (.cells #[.int .i64 (wrap64 (Int.tdiv (wrap64 (a0)) 32)), .int .i64 (Int.tmod (wrap64 (a1)) 4)] 27 (0, 0))) ∧ Aside0 (wc.heap[gb107]? = some (.cells #[.int .i64 t104, .int .i64 t105] 27 (0, 0))) ∧ Aside0 (Below w.heap.size w wc))
    case first =>
      have H := HC11.out
      clear HC11
      by_cases c24 : (Int.tmod (wrap64 (a1)) 4) = 0
      · rw [if_pos c24] at H
        have c24b0 : ((Int.tmod (wrap64 (a1)) 4) == 0) = true := beq_iff_eq.mpr c24
        have c24b1 : ((Int.tmod (wrap64 (a1)) 4) != 0) = false := bne_eq_false_iff_eq.mpr c24
        clear c24
        (first | rw [c24b0] | (simp only [i64_w, i32_w]; rw [c24b0]) | skip)
        by_cases c25 : t108.size + 1 ≤ 9223372036854775807
        · rw [if_pos c25] at H
          have c25b0 := eq_true c25
          have c25b1 : decide (t108.size + 1 ≤ 9223372036854775807) = true := decide_eq_true c25
          try have c25b2 : (9223372036854775807 < t108.size + 1) = False := eq_false (Nat.not_lt.2 c25)
          have H' := Aside0.mk H
          clear H
          go_wp2
          go_meet
          case rel => exact ⟨_, (t108 ++ (⟨#[46]⟩ : ByteArray)), (by first | rfl | (simp; done) | (simp [*]; done)), H', ⟨by first | omega | exact Nat.le_refl _⟩, ⟨by (with_reducible repeat (first | refine blk_drewN ?_ _ | refine blk_drew ?_ | refine blk_alloc ?_ _)); exact BK101.out⟩, ⟨by (with_reducible repeat (first | refine blk_drewN ?_ _ | refine blk_drew ?_ | refine blk_alloc ?_ _)); exact BK107.out⟩, ⟨by repeat (first | (with_reducible first | exact HB.out | apply below_alloc | apply pw_below_drewN | apply below_drew1 | refine below_set ?_ GE101.out | refine below_set ?_ GE107.out) | exact HB.out)⟩⟩
        · rw [if_neg c25] at H
          exact absurd H (by simp)
      · rw [if_neg c24] at H
        have c24b0 : ((Int.tmod (wrap64 (a1)) 4) == 0) = false := beq_eq_false_iff_ne.mpr c24
        have c24b1 : ((Int.tmod (wrap64 (a1)) 4) != 0) = true := bne_iff_ne.mpr c24
        (first | rw [c24b0] | (simp only [i64_w, i32_w]; rw [c24b0]) | skip)
        have H' := Aside0.mk H
        clear H
        go_wp2
        go_meet
        case rel => exact ⟨_, (t108), (by first | rfl | (simp; done) | (simp [*]; done)), H', ⟨by first | omega | exact Nat.le_refl _⟩, ⟨by (with_reducible repeat (first | refine blk_drewN ?_ _ | refine blk_drew ?_ | refine blk_alloc ?_ _)); exact BK101.out⟩, ⟨by (with_reducible repeat (first | refine blk_drewN ?_ _ | refine blk_drew ?_ | refine blk_alloc ?_ _)); exact BK107.out⟩, ⟨by repeat (first | (with_reducible first | exact HB.out | apply below_alloc | apply pw_below_drewN | apply below_drew1 | refine below_set ?_ GE101.out | refine below_set ?_ GE107.out) | exact HB.out)⟩⟩
    case rest =>
      clear HC11
      try clear c1
      try clear c2
      try clear p2
      try clear c6
      try clear p6
      try clear c8
      try clear c10
      try clear c13
      try clear c16
      try clear c19
      try clear c24
      try clear c24b0
      try clear c24b1
      try clear c25
      try clear c25b0
      try clear c25b1
      try clear c25b2
      try clear hcz13_0
      try clear hcz13_1
      try clear hcz15_0
      try clear hcz15_1
      try clear hcz20_0
      try clear hcz20_1
      try clear hcz21_0
      try clear hcz21_1
      try clear hcz23_0
      try clear hcz23_1
      try clear hfz13_0
      try clear hfz13_1
      try clear hfz15_0
      try clear hfz15_1
      try clear hfz20_0
      try clear hfz20_1
      try clear hfz21_0
      try clear hfz21_1
      try clear hfz23_0
      try clear hfz23_1
      obtain ⟨kq, x12_10, rfl, HA, HJ10, BK101, BK107, HB⟩ := hcut
      cases kq with
      | zero => exact absurd HA.out (by simp [entrepotlaw02_FixedNoughts.j0])
      | succ kj10 =>
        have H := HA.out
        clear HA
        simp only [entrepotlaw02_FixedNoughts.j0] at H
        have H' := Aside0.mk H
        clear H
        go_wp2
        (try simp only [Act.put, List.setIfInBounds_toArray, List.set_cons_zero, List.set_cons_succ])
        go_loopg [12, 13] kj10 (fun kq v12 v13 w' => ∃ (x12_2 : ByteArray) (x13_2 : Int), v12 = .string x12_2 ∧ v13 = .int .i64 x13_2 ∧ Aside0 (entrepotlaw02_FixedNoughts.l0 kq a2 a3 t106 x12_2 x13_2 (wrap64 (Int.tdiv (wrap64 (a0)) 32)) (Int.tmod (wrap64 (a1)) 4) t104 t105 = some r) ∧ Aside0 (kq ≤ kj10) ∧ Aside0 (w'.heap[gb101]? = some (.cells #[.int .i64 (wrap64 (Int.tdiv (wrap64 (a0)) 32)), .int .i64 (Int.tmod (wrap64 (a1)) 4)] 27 (0, 0))) ∧ Aside0 (w'.heap[gb107]? = some (.cells #[.int .i64 t104, .int .i64 t105] 27 (0, 0))) ∧ Aside0 (Below w.heap.size w w'))
        case atStart => exact ⟨(x12_10), (0), (by first | rfl | (simp; done) | (simp [*]; done)), (by first | rfl | (simp; done) | (simp [*]; done)), H', ⟨Nat.le_refl _⟩, ⟨by (with_reducible repeat (first | refine blk_drewN ?_ _ | refine blk_drew ?_ | refine blk_alloc ?_ _)); exact BK101.out⟩, ⟨by (with_reducible repeat (first | refine blk_drewN ?_ _ | refine blk_drew ?_ | refine blk_alloc ?_ _)); exact BK107.out⟩, ⟨by repeat (first | (with_reducible first | exact HB.out | apply below_alloc | apply pw_below_drewN | apply below_drew1 | refine below_set ?_ GE101.out | refine below_set ?_ GE107.out) | exact HB.out)⟩⟩
        case round =>
          clear H'
          try clear c1
          try clear c2
          try clear p2
          try clear c6
          try clear p6
          try clear c8
          try clear c10
          try clear c13
          try clear c16
          try clear c19
          try clear c24
          try clear c24b0
          try clear c24b1
          try clear c25
          try clear c25b0
          try clear c25b1
          try clear c25b2
          try clear hcz13_0
          try clear hcz13_1
          try clear hcz15_0
          try clear hcz15_1
          try clear hcz20_0
          try clear hcz20_1
          try clear hcz21_0
          try clear hcz21_1
          try clear hcz23_0
          try clear hcz23_1
          try clear hfz13_0
          try clear hfz13_1
          try clear hfz15_0
          try clear hfz15_1
          try clear hfz20_0
          try clear hfz20_1
          try clear hfz21_0
          try clear hfz21_1
          try clear hfz23_0
          try clear hfz23_1
          try clear p2
          try clear p6
          obtain ⟨x12_2, x13_2, rfl, rfl, HA, HK2, BK101, BK107, HB⟩ := hrel
          cases gk with
          | zero => exact absurd HA.out (by simp [entrepotlaw02_FixedNoughts.l0])
          | succ k2 =>
            have H := HA.out
            clear HA
            simp only [entrepotlaw02_FixedNoughts.l0] at H
            by_cases c26 : x13_2 < (Int.tmod (wrap64 (a2)) 4)
            · rw [if_pos c26] at H
              have c26b0 : decide (x13_2 < (Int.tmod (wrap64 (a2)) 4)) = true := decide_eq_true c26
              clear c26
              by_cases c27 : 1 + x12_2.size ≤ 9223372036854775807
              · rw [if_pos c27] at H
                have c27b0 := eq_true c27
                have c27b1 : decide (1 + x12_2.size ≤ 9223372036854775807) = true := decide_eq_true c27
                try have c27b2 : (9223372036854775807 < 1 + x12_2.size) = False := eq_false (Nat.not_lt.2 c27)
                have H' := Aside0.mk H
                clear H
                go_wp2
                go_roundg k2
                case measure => have := HJ10.out; have := HK2.out; omega
                case rel => exact ⟨((⟨#[48]⟩ : ByteArray) ++ x12_2), (wrap64 (x13_2 + 1)), (by first | rfl | (simp; done) | (simp [*]; done)), (by first | rfl | (simp; done) | (simp [*]; done)), H', ⟨by have := HJ10.out; have := HK2.out; omega⟩, ⟨by (with_reducible repeat (first | refine blk_drewN ?_ _ | refine blk_drew ?_ | refine blk_alloc ?_ _)); exact BK101.out⟩, ⟨by (with_reducible repeat (first | refine blk_drewN ?_ _ | refine blk_drew ?_ | refine blk_alloc ?_ _)); exact BK107.out⟩, ⟨by repeat (first | (with_reducible first | exact HB.out | apply below_alloc | apply pw_below_drewN | apply below_drew1 | refine below_set ?_ GE101.out | refine below_set ?_ GE107.out) | exact HB.out)⟩⟩
              · rw [if_neg c27] at H
                exact absurd H (by simp)
            · rw [if_neg c26] at H
              have c26b0 : decide (x13_2 < (Int.tmod (wrap64 (a2)) 4)) = false := decide_eq_false c26
              clear c26
              have H' := Aside0.mk H
              clear H
              go_wp2
              (try simp only [Act.put, List.setIfInBounds_toArray, List.set_cons_zero, List.set_cons_succ])
              go_loopg [12, 14] k2 (fun kq v12 v14 w' => ∃ (x12_3 : ByteArray) (x14_3 : Int), v12 = .string x12_3 ∧ v14 = .int .i64 x14_3 ∧ Aside0 (entrepotlaw02_FixedNoughts.l1 kq a3 t106 x12_3 x14_3 (wrap64 (Int.tdiv (wrap64 (a0)) 32)) (Int.tmod (wrap64 (a1)) 4) t104 t105 = some r) ∧ Aside0 (kq ≤ k2) ∧ Aside0 (w'.heap[gb101]? = some (.cells #[.int .i64 (wrap64 (Int.tdiv (wrap64 (a0)) 32)), .int .i64 (Int.tmod (wrap64 (a1)) 4)] 27 (0, 0))) ∧ Aside0 (w'.heap[gb107]? = some (.cells #[.int .i64 t104, .int .i64 t105] 27 (0, 0))) ∧ Aside0 (Below w.heap.size w w'))
              case atStart => exact ⟨(x12_2), (0), (by first | rfl | (simp; done) | (simp [*]; done)), (by first | rfl | (simp; done) | (simp [*]; done)), H', ⟨Nat.le_refl _⟩, ⟨by (with_reducible repeat (first | refine blk_drewN ?_ _ | refine blk_drew ?_ | refine blk_alloc ?_ _)); exact BK101.out⟩, ⟨by (with_reducible repeat (first | refine blk_drewN ?_ _ | refine blk_drew ?_ | refine blk_alloc ?_ _)); exact BK107.out⟩, ⟨by repeat (first | (with_reducible first | exact HB.out | apply below_alloc | apply pw_below_drewN | apply below_drew1 | refine below_set ?_ GE101.out | refine below_set ?_ GE107.out) | exact HB.out)⟩⟩
              case round =>
                clear H'
                try clear c1
                try clear c2
                try clear p2
                try clear c6
                try clear p6
                try clear c8
                try clear c10
                try clear c13
                try clear c16
                try clear c19
                try clear c24
                try clear c24b0
                try clear c24b1
                try clear c25
                try clear c25b0
                try clear c25b1
                try clear c25b2
                try clear c26
                try clear c26b0
                try clear c27
                try clear c27b0
                try clear c27b1
                try clear c27b2
                try clear hcz13_0
                try clear hcz13_1
                try clear hcz15_0
                try clear hcz15_1
                try clear hcz20_0
                try clear hcz20_1
                try clear hcz21_0
                try clear hcz21_1
                try clear hcz23_0
                try clear hcz23_1
                try clear hfz13_0
                try clear hfz13_1
                try clear hfz15_0
                try clear hfz15_1
                try clear hfz20_0
                try clear hfz20_1
                try clear hfz21_0
                try clear hfz21_1
                try clear hfz23_0
                try clear hfz23_1
                try clear p2
                try clear p6
                obtain ⟨x12_3, x14_3, rfl, rfl, HA, HK3, BK101, BK107, HB⟩ := hrel
                cases gk with
                | zero => exact absurd HA.out (by simp [entrepotlaw02_FixedNoughts.l1])
                | succ k3 =>
                  have H := HA.out
                  clear HA
                  simp only [entrepotlaw02_FixedNoughts.l1] at H
                  by_cases c28 : x14_3 < (wrap64 (1 + (Int.tmod (wrap64 (a3)) 3)))
                  · rw [if_pos c28] at H
                    have c28b0 : decide (x14_3 < (wrap64 (1 + (Int.tmod (wrap64 (a3)) 3)))) = true := decide_eq_true c28
                    clear c28
                    by_cases c29 : x12_3.size + 1 ≤ 9223372036854775807
                    · rw [if_pos c29] at H
                      have c29b0 := eq_true c29
                      have c29b1 : decide (x12_3.size + 1 ≤ 9223372036854775807) = true := decide_eq_true c29
                      try have c29b2 : (9223372036854775807 < x12_3.size + 1) = False := eq_false (Nat.not_lt.2 c29)
                      have H' := Aside0.mk H
                      clear H
                      go_wp2
                      go_roundg k3
                      case measure => have := HJ10.out; have := HK2.out; have := HK3.out; omega
                      case rel => exact ⟨(x12_3 ++ (⟨#[48]⟩ : ByteArray)), (wrap64 (x14_3 + 1)), (by first | rfl | (simp; done) | (simp [*]; done)), (by first | rfl | (simp; done) | (simp [*]; done)), H', ⟨by have := HJ10.out; have := HK2.out; have := HK3.out; omega⟩, ⟨by (with_reducible repeat (first | refine blk_drewN ?_ _ | refine blk_drew ?_ | refine blk_alloc ?_ _)); exact BK101.out⟩, ⟨by (with_reducible repeat (first | refine blk_drewN ?_ _ | refine blk_drew ?_ | refine blk_alloc ?_ _)); exact BK107.out⟩, ⟨by repeat (first | (with_reducible first | exact HB.out | apply below_alloc | apply pw_below_drewN | apply below_drew1 | refine below_set ?_ GE101.out | refine below_set ?_ GE107.out) | exact HB.out)⟩⟩
                    · rw [if_neg c29] at H
                      exact absurd H (by simp)
                  · rw [if_neg c28] at H
                    have c28b0 : decide (x14_3 < (wrap64 (1 + (Int.tmod (wrap64 (a3)) 3)))) = false := decide_eq_false c28
                    clear c28
                    by_cases c30 : (wrap64 (Int.tdiv (wrap64 (a0)) 32)) < 0
                    · rw [if_pos c30] at H
                      have c30b0 : decide ((wrap64 (Int.tdiv (wrap64 (a0)) 32)) < 0) = true := decide_eq_true c30
                      clear c30
                      by_cases c31 : 1 + x12_3.size ≤ 9223372036854775807
                      · rw [if_pos c31] at H
                        have c31b0 := eq_true c31
                        have c31b1 : decide (1 + x12_3.size ≤ 9223372036854775807) = true := decide_eq_true c31
                        try have c31b2 : (9223372036854775807 < 1 + x12_3.size) = False := eq_false (Nat.not_lt.2 c31)
                        replace H := Option.bind_eq_some_iff.mp H
                        obtain ⟨⟨t109, t110, t111⟩, A320, H⟩ := H
                        replace H : (if t106 = 0 then (if t111 = 0 then (if (t104 == t109 && (t105 == t110)) = true then ((fixed_Least.f k3 (wrap64 (Int.tdiv (wrap64 (a0)) 32)) (Int.tmod (wrap64 (a1)) 4)).bind fun bt113 => (some (t104 == bt113.1 && (t105 == bt113.2)))) else (some false)) else (some false)) else (some false)) = some r := H
                        have A32 := Aside0.mk A320
                        clear A320
                        by_cases c33 : t106 = 0
                        · rw [if_pos c33] at H
                          have c33b0 : (t106 == 0) = true := beq_iff_eq.mpr c33
                          have c33b1 : (t106 != 0) = false := bne_eq_false_iff_eq.mpr c33
                          clear c33
                          by_cases c34 : t111 = 0
                          · rw [if_pos c34] at H
                            have c34b0 : (t111 == 0) = true := beq_iff_eq.mpr c34
                            have c34b1 : (t111 != 0) = false := bne_eq_false_iff_eq.mpr c34
                            clear c34
                            by_cases c35 : (t104 == t109 && (t105 == t110)) = true
                            · rw [if_pos c35] at H
                              have c35b0 : (t104 == t109 && (t105 == t110)) = true := c35
                              (try (have c35b1 : decide (t104 = t109 && (t105 == t110)) = true := by simpa using c35))
                              (try (have c35b2 : (t104 == t109 && (t105 == t110)) = true := by simpa using c35))
                              clear c35
                              replace H := Option.bind_eq_some_iff.mp H
                              obtain ⟨⟨t113, t114⟩, A360, H⟩ := H
                              replace H : (some (t104 == t113 && (t105 == t114))) = some r := H
                              have A36 := Aside0.mk A360
                              clear A360
                              obtain rfl := Option.some.inj H
                              have hnb37 := NB101_107.out
                              have hnc37 := NB107_101.out
                              have hcz38_0 : wr.cell? ⟨gb101, 0, none⟩ = some (.int .i64 (wrap64 (Int.tdiv (wrap64 (a0)) 32))) := (blk_cell BK101.out 0).trans rfl
                              have hcz38_1 : wr.cell? ⟨gb101, 1, none⟩ = some (.int .i64 (Int.tmod (wrap64 (a1)) 4)) := (blk_cell BK101.out 1).trans rfl
                              have hfz38_0 := blk_frozen BK101.out 0
                              have hfz38_1 := blk_frozen BK101.out 1
                              try go_wp2_with (first | ((with_reducible refine gate_callee (f := 13) rfl ?_); refine goesL_ (some 73) rfl rfl Tryd.func13 (by kernel_rfl) rfl #[.string ((⟨#[45]⟩ : ByteArray) ++ x12_3)] rfl (by (try simp only [List.map_toArray, List.map_cons, List.map_nil]); first | done | rfl | (simp only [List.length_drop, List.length_take]; rfl)) ?_; (with_reducible refine (fixed_Read.calls ((⟨#[45]⟩ : ByteArray) ++ x12_3) t109 t110 t111 _ A32.out).mono ?_); rintro e w39 ⟨rfl, hb⟩; refine ⟨_, rfl, ?_⟩; have n0_ := Aside0.mk (blk_below (g := gb101) (o := .cells #[.int .i64 (wrap64 (Int.tdiv (wrap64 (a0)) 32)), .int .i64 (Int.tmod (wrap64 (a1)) 4)] 27 (0, 0)) (by (with_reducible repeat (first | refine blk_drewN ?_ _ | refine blk_drew ?_ | refine blk_alloc ?_ _)); exact BK101.out) hb); have n1_ := Aside0.mk (blk_below (g := gb107) (o := .cells #[.int .i64 t104, .int .i64 t105] 27 (0, 0)) (by (with_reducible repeat (first | refine blk_drewN ?_ _ | refine blk_drew ?_ | refine blk_alloc ?_ _)); exact BK107.out) hb); have n2_ := Aside0.mk (below_step (by repeat (first | (with_reducible first | exact HB.out | apply below_alloc | apply pw_below_drewN | apply below_drew1 | refine below_set ?_ GE101.out | refine below_set ?_ GE107.out) | exact HB.out)) hb); clear BK101; clear BK107; clear HB; have BK101 := n0_; have BK107 := n1_; have HB := n2_; clear n0_ n1_ n2_; (try clear hb); (try clear hb2); (try clear hk); (try clear hi)) | ((with_reducible refine gate_dst (N := 15) rfl ?_); refine box_event ?hg (N := 15) ?hd (cs := #[.int .i64 0, .int .i64 0]) (t := 27) ?hr ?_; (case hd => rfl); (case hg => rfl); (case hr => first | (go_simp; done) | (go_simp; rfl)); intro gb112 hg w40 hbox hb; have n0_ := Aside0.mk (blk_below (g := gb101) (o := .cells #[.int .i64 (wrap64 (Int.tdiv (wrap64 (a0)) 32)), .int .i64 (Int.tmod (wrap64 (a1)) 4)] 27 (0, 0)) (by (with_reducible repeat (first | refine blk_drewN ?_ _ | refine blk_drew ?_ | refine blk_alloc ?_ _)); exact BK101.out) hb); have n1_ := Aside0.mk (blk_below (g := gb107) (o := .cells #[.int .i64 t104, .int .i64 t105] 27 (0, 0)) (by (with_reducible repeat (first | refine blk_drewN ?_ _ | refine blk_drew ?_ | refine blk_alloc ?_ _)); exact BK107.out) hb); have n2_ := Aside0.mk (below_step (by repeat (first | (with_reducible first | exact HB.out | apply below_alloc | apply pw_below_drewN | apply below_drew1 | refine below_set ?_ GE101.out | refine below_set ?_ GE107.out) | exact HB.out)) hb); have n3_ := Aside0.mk (hbox); have n4_ := Aside0.mk ((by rw [hg]; exact (below_size (by repeat (first | (with_reducible first | exact HB.out | apply below_alloc | apply pw_below_drewN | apply below_drew1 | refine below_set ?_ GE101.out | refine below_set ?_ GE107.out) | exact HB.out))) : w.heap.size ≤ gb112)); have n5_ := Aside0.mk ((by rw [hg]; exact (below_size (by repeat (first | (with_reducible first | exact HB.out | apply below_alloc | apply pw_below_drewN | apply below_drew1 | refine below_set ?_ GE101.out | refine below_set ?_ GE107.out) | exact HB.out))) : w.heap.size ≤ gb112)); have n6_ := Aside0.mk ((by rw [hg]; exact Nat.ne_of_lt (blk_lt (g := gb101) (o := .cells #[.int .i64 (wrap64 (Int.tdiv (wrap64 (a0)) 32)), .int .i64 (Int.tmod (wrap64 (a1)) 4)] 27 (0, 0)) (by (with_reducible repeat (first | refine blk_drewN ?_ _ | refine blk_drew ?_ | refine blk_alloc ?_ _)); exact BK101.out)) : gb101 ≠ gb112)); have n7_ := Aside0.mk ((by rw [hg]; exact Nat.ne_of_gt (blk_lt (g := gb101) (o := .cells #[.int .i64 (wrap64 (Int.tdiv (wrap64 (a0)) 32)), .int .i64 (Int.tmod (wrap64 (a1)) 4)] 27 (0, 0)) (by (with_reducible repeat (first | refine blk_drewN ?_ _ | refine blk_drew ?_ | refine blk_alloc ?_ _)); exact BK101.out)) : gb112 ≠ gb101)); have n8_ := Aside0.mk ((by rw [hg]; exact Nat.ne_of_lt (blk_lt (g := gb107) (o := .cells #[.int .i64 t104, .int .i64 t105] 27 (0, 0)) (by (with_reducible repeat (first | refine blk_drewN ?_ _ | refine blk_drew ?_ | refine blk_alloc ?_ _)); exact BK107.out)) : gb107 ≠ gb112)); have n9_ := Aside0.mk ((by rw [hg]; exact Nat.ne_of_gt (blk_lt (g := gb107) (o := .cells #[.int .i64 t104, .int .i64 t105] 27 (0, 0)) (by (with_reducible repeat (first | refine blk_drewN ?_ _ | refine blk_drew ?_ | refine blk_alloc ?_ _)); exact BK107.out)) : gb112 ≠ gb107)); clear BK101; clear BK107; clear HB; have BK101 := n0_; have BK107 := n1_; have HB := n2_; have BK112 := n3_; have GW112 := n4_; have GE112 := n5_; have NB101_112 := n6_; have NB112_101 := n7_; have NB107_112 := n8_; have NB112_107 := n9_; clear n0_ n1_ n2_ n3_ n4_ n5_ n6_ n7_ n8_ n9_; clear hb hbox hg; have hnb41 := NB112_101.out; have hnc41 := NB101_112.out; have hnb42 := NB112_107.out; have hnc42 := NB107_112.out; have hcz43_0 : w40.cell? ⟨gb112, 0, none⟩ = some (.int .i64 0) := (blk_cell BK112.out 0).trans rfl; have hcz43_1 : w40.cell? ⟨gb112, 1, none⟩ = some (.int .i64 0) := (blk_cell BK112.out 1).trans rfl; have hfz43_0 := blk_frozen BK112.out 0; have hfz43_1 := blk_frozen BK112.out 1))
                              have n0_ : Aside0 (((w40.setCell ⟨gb112, 0, none⟩ (.int .i64 t109)).setCell ⟨gb112, 1, none⟩ (.int .i64 t110)).heap[gb101]? = some (.cells #[.int .i64 (wrap64 (Int.tdiv (wrap64 (a0)) 32)), .int .i64 (Int.tmod (wrap64 (a1)) 4)] 27 (0, 0))) := ⟨by (with_reducible repeat (first | refine blk_drewN ?_ _ | refine blk_drew ?_ | refine blk_alloc ?_ _)); refine blk_far ?_ NB101_112.out _; (with_reducible repeat (first | refine blk_drewN ?_ _ | refine blk_drew ?_ | refine blk_alloc ?_ _)); refine blk_far ?_ NB101_112.out _; (with_reducible repeat (first | refine blk_drewN ?_ _ | refine blk_drew ?_ | refine blk_alloc ?_ _)); exact BK101.out⟩
                              have n1_ : Aside0 (((w40.setCell ⟨gb112, 0, none⟩ (.int .i64 t109)).setCell ⟨gb112, 1, none⟩ (.int .i64 t110)).heap[gb107]? = some (.cells #[.int .i64 t104, .int .i64 t105] 27 (0, 0))) := ⟨by (with_reducible repeat (first | refine blk_drewN ?_ _ | refine blk_drew ?_ | refine blk_alloc ?_ _)); refine blk_far ?_ NB107_112.out _; (with_reducible repeat (first | refine blk_drewN ?_ _ | refine blk_drew ?_ | refine blk_alloc ?_ _)); refine blk_far ?_ NB107_112.out _; (with_reducible repeat (first | refine blk_drewN ?_ _ | refine blk_drew ?_ | refine blk_alloc ?_ _)); exact BK107.out⟩
                              have n2_ : Aside0 (((w40.setCell ⟨gb112, 0, none⟩ (.int .i64 t109)).setCell ⟨gb112, 1, none⟩ (.int .i64 t110)).heap[gb112]? = some (.cells #[.int .i64 t109, .int .i64 t110] 27 (0, 0))) := ⟨by (with_reducible repeat (first | refine blk_drewN ?_ _ | refine blk_drew ?_ | refine blk_alloc ?_ _)); refine blk_put (cs := #[.int .i64 t109, .int .i64 0]) ?_ 1 _ rfl; (with_reducible repeat (first | refine blk_drewN ?_ _ | refine blk_drew ?_ | refine blk_alloc ?_ _)); refine blk_put (cs := #[.int .i64 0, .int .i64 0]) ?_ 0 _ rfl; (with_reducible repeat (first | refine blk_drewN ?_ _ | refine blk_drew ?_ | refine blk_alloc ?_ _)); exact BK112.out⟩
                              have n3_ : Aside0 (Below w.heap.size w ((w40.setCell ⟨gb112, 0, none⟩ (.int .i64 t109)).setCell ⟨gb112, 1, none⟩ (.int .i64 t110))) := ⟨by repeat (first | (with_reducible first | exact HB.out | apply below_alloc | apply pw_below_drewN | apply below_drew1 | refine below_set ?_ GE101.out | refine below_set ?_ GE107.out | refine below_set ?_ GE112.out) | exact HB.out)⟩
                              (try clear BK101)
                              (try clear BK107)
                              (try clear BK112)
                              (try clear HB)
                              generalize ((w40.setCell ⟨gb112, 0, none⟩ (.int .i64 t109)).setCell ⟨gb112, 1, none⟩ (.int .i64 t110)) = w44 at n0_ n1_ n2_ n3_ ⊢
                              have BK101 := n0_
                              have BK107 := n1_
                              have BK112 := n2_
                              have HB := n3_
                              clear n0_ n1_ n2_ n3_
                              have n0_ := Aside0.mk (blk_drew BK101.out)
                              have n1_ := Aside0.mk (blk_drew BK107.out)
                              have n2_ := Aside0.mk (blk_drew BK112.out)
                              have n3_ := Aside0.mk (below_drew1 HB.out)
                              clear BK101
                              clear BK107
                              clear BK112
                              clear HB
                              have BK101 := n0_
                              have BK107 := n1_
                              have BK112 := n2_
                              have HB := n3_
                              clear n0_ n1_ n2_ n3_
                              refine start_ (n := 18) (S := fun w' => w'.cell? ⟨gb107, 0, none⟩ = some (.int .i64 t104) ∧ w'.cell? ⟨gb107, 1, none⟩ = some (.int .i64 t105) ∧ w'.cell? ⟨gb112, 0, none⟩ = some (.int .i64 t109) ∧ w'.cell? ⟨gb112, 1, none⟩ = some (.int .i64 t110) ∧ w'.cell? ⟨gb101, 0, none⟩ = some (.int .i64 (wrap64 (Int.tdiv (wrap64 (a0)) 32))) ∧ w'.cell? ⟨gb101, 1, none⟩ = some (.int .i64 (Int.tmod (wrap64 (a1)) 4))) (ds := []) #[false, false, false, false, false, false, false, false, false, false, false, false, false, false, false, false, false, false] (by kernel_rfl) rfl rfl ⟨(blk_cell BK107.out 0).trans rfl, (blk_cell BK107.out 1).trans rfl, (blk_cell BK112.out 0).trans rfl, (blk_cell BK112.out 1).trans rfl, (blk_cell BK101.out 0).trans rfl, (blk_cell BK101.out 1).trans rfl⟩ (fun hHeld => ?_); refine with_tabW entrepotlaw02_FixedNoughts.tab19 entrepotlaw02_FixedNoughts.bits19 (fun HT_ HW_ => ?_)
                              generalize w44.drew = w45 at BK101 BK107 BK112 HB hHeld ⊢
                              refine pure_ (i := 0) (N := some 76) (v := ?_) (a' := ?_) #[true, false, false, false, false, false, false, false, false, false, false, false, false, false, false, false, false, false] rfl rfl (any_of HT_.out (by kernel_rfl)) (fun _ _ _ h => h) (Or.inl ⟨by rfl, ?_⟩) ?_ ?_
                              rotate_left
                              · intro w'
                                go_simp
                                with_reducible rfl
                              rotate_left
                              · simp only [Act.put, List.setIfInBounds_toArray, List.set_cons_zero, List.set_cons_succ, i64_w, i32_w]
                                rfl
                              refine pure_ (i := 1) (N := some 77) (v := ?_) (a' := ?_) #[true, true, false, false, false, false, false, false, false, false, false, false, false, false, false, false, false, false] rfl rfl (any_of HT_.out (by kernel_rfl)) (fun _ _ _ h => h) (Or.inl ⟨by rfl, ?_⟩) ?_ ?_
                              rotate_left
                              · intro w'
                                go_simp
                                with_reducible rfl
                              rotate_left
                              · simp only [Act.put, List.setIfInBounds_toArray, List.set_cons_zero, List.set_cons_succ, i64_w, i32_w]
                                rfl
                              refine pure_ (i := 2) (N := some 78) (v := ?_) (a' := ?_) #[true, true, true, false, false, false, false, false, false, false, false, false, false, false, false, false, false, false] rfl rfl (any_of HT_.out (by kernel_rfl)) (fun _ _ _ h => h) (Or.inl ⟨by rfl, ?_⟩) ?_ ?_
                              rotate_left
                              · intro w'
                                go_simp
                                with_reducible rfl
                              rotate_left
                              · simp only [Act.put, List.setIfInBounds_toArray, List.set_cons_zero, List.set_cons_succ, i64_w, i32_w]
                                rfl
                              refine pure_ (i := 3) (N := some 79) (v := ?_) (a' := ?_) #[true, true, true, true, false, false, false, false, false, false, false, false, false, false, false, false, false, false] rfl rfl (any_of HT_.out (by kernel_rfl)) (fun _ _ _ h => h) (Or.inl ⟨by rfl, ?_⟩) ?_ ?_
                              rotate_left
                              · intro w'
                                go_simp
                                with_reducible rfl
                              rotate_left
                              · simp only [Act.put, List.setIfInBounds_toArray, List.set_cons_zero, List.set_cons_succ, i64_w, i32_w]
                                rfl
                              refine pure_ (i := 4) (N := some 80) (v := ?_) (a' := ?_) #[true, true, true, true, true, false, false, false, false, false, false, false, false, false, false, false, false, false] rfl rfl (any_of HT_.out (by kernel_rfl)) (fun _ _ _ h => h) (Or.inl ⟨by rfl, ?_⟩) ?_ ?_
                              rotate_left
                              · intro w'
                                go_simp
                                with_reducible rfl
                              rotate_left
                              · simp only [Act.put, List.setIfInBounds_toArray, List.set_cons_zero, List.set_cons_succ, i64_w, i32_w]
                                rfl
                              refine pure_ (i := 5) (N := some 81) (v := ?_) (a' := ?_) #[true, true, true, true, true, true, false, false, false, false, false, false, false, false, false, false, false, false] rfl rfl (any_of HT_.out (by kernel_rfl)) (fun _ _ _ h => h) (Or.inl ⟨by rfl, ?_⟩) ?_ ?_
                              rotate_left
                              · intro w'
                                go_simp
                                with_reducible rfl
                              rotate_left
                              · simp only [Act.put, List.setIfInBounds_toArray, List.set_cons_zero, List.set_cons_succ, i64_w, i32_w]
                                rfl
                              refine pure_ (i := 6) (N := some 82) (v := ?_) (a' := ?_) #[true, true, true, true, true, true, true, false, false, false, false, false, false, false, false, false, false, false] rfl rfl (any_of HT_.out (by kernel_rfl)) (fun _ _ _ h => h) (Or.inl ⟨by rfl, ?_⟩) ?_ ?_
                              rotate_left
                              · intro w'
                                go_simp
                                with_reducible rfl
                              rotate_left
                              · simp only [Act.put, List.setIfInBounds_toArray, List.set_cons_zero, List.set_cons_succ, i64_w, i32_w]
                                rfl
                              refine take_ (i := 7) (N := some 83) (v := ?_) (a' := ?_) #[true, true, true, true, true, true, true, true, false, false, false, false, false, false, false, false, false, false] rfl rfl (take_ofW HT_.out HW_.out (by kernel_rfl)) (fun _ _ _ h => h) (Or.inl ⟨by rfl, ?_⟩) hHeld ?_ ?_
                              rotate_left
                              · rintro w' ⟨s0, s1, s2, s3, s4, s5⟩
                                go_simp
                                with_reducible rfl
                              rotate_left
                              · simp only [Act.put, List.setIfInBounds_toArray, List.set_cons_zero, List.set_cons_succ, i64_w, i32_w]
                                rfl
                              refine take_ (i := 8) (N := some 84) (v := ?_) (a' := ?_) #[true, true, true, true, true, true, true, true, true, false, false, false, false, false, false, false, false, false] rfl rfl (take_ofW HT_.out HW_.out (by kernel_rfl)) (fun _ _ _ h => h) (Or.inl ⟨by rfl, ?_⟩) hHeld ?_ ?_
                              rotate_left
                              · rintro w' ⟨s0, s1, s2, s3, s4, s5⟩
                                go_simp
                                with_reducible rfl
                              rotate_left
                              · simp only [Act.put, List.setIfInBounds_toArray, List.set_cons_zero, List.set_cons_succ, i64_w, i32_w]
                                rfl
                              refine pure_ (i := 9) (N := some 85) (v := ?_) (a' := ?_) #[true, true, true, true, true, true, true, true, true, true, false, false, false, false, false, false, false, false] rfl rfl (any_of HT_.out (by kernel_rfl)) (fun _ _ _ h => h) (Or.inl ⟨by rfl, ?_⟩) ?_ ?_
                              rotate_left
                              · intro w'
                                go_simp
                                with_reducible rfl
                              rotate_left
                              · simp only [Act.put, List.setIfInBounds_toArray, List.set_cons_zero, List.set_cons_succ, i64_w, i32_w]
                                rfl
                              refine pure_ (i := 10) (N := some 86) (v := ?_) (a' := ?_) #[true, true, true, true, true, true, true, true, true, true, true, false, false, false, false, false, false, false] rfl rfl (any_of HT_.out (by kernel_rfl)) (fun _ _ _ h => h) (Or.inl ⟨by rfl, ?_⟩) ?_ ?_
                              rotate_left
                              · intro w'
                                go_simp
                                with_reducible rfl
                              rotate_left
                              · simp only [Act.put, List.setIfInBounds_toArray, List.set_cons_zero, List.set_cons_succ, i64_w, i32_w]
                                rfl
                              refine pure_ (i := 11) (N := some 87) (v := ?_) (a' := ?_) #[true, true, true, true, true, true, true, true, true, true, true, true, false, false, false, false, false, false] rfl rfl (any_of HT_.out (by kernel_rfl)) (fun _ _ _ h => h) (Or.inl ⟨by rfl, ?_⟩) ?_ ?_
                              rotate_left
                              · intro w'
                                go_simp
                                with_reducible rfl
                              rotate_left
                              · simp only [Act.put, List.setIfInBounds_toArray, List.set_cons_zero, List.set_cons_succ, i64_w, i32_w]
                                rfl
                              refine take_ (i := 12) (N := some 88) (v := ?_) (a' := ?_) #[true, true, true, true, true, true, true, true, true, true, true, true, true, false, false, false, false, false] rfl rfl (take_ofW HT_.out HW_.out (by kernel_rfl)) (fun _ _ _ h => h) (Or.inl ⟨by rfl, ?_⟩) hHeld ?_ ?_
                              rotate_left
                              · rintro w' ⟨s0, s1, s2, s3, s4, s5⟩
                                go_simp
                                with_reducible rfl
                              rotate_left
                              · simp only [Act.put, List.setIfInBounds_toArray, List.set_cons_zero, List.set_cons_succ, i64_w, i32_w]
                                rfl
                              refine take_ (i := 13) (N := some 89) (v := ?_) (a' := ?_) #[true, true, true, true, true, true, true, true, true, true, true, true, true, true, false, false, false, false] rfl rfl (take_ofW HT_.out HW_.out (by kernel_rfl)) (fun _ _ _ h => h) (Or.inl ⟨by rfl, ?_⟩) hHeld ?_ ?_
                              rotate_left
                              · rintro w' ⟨s0, s1, s2, s3, s4, s5⟩
                                go_simp
                                with_reducible rfl
                              rotate_left
                              · simp only [Act.put, List.setIfInBounds_toArray, List.set_cons_zero, List.set_cons_succ, i64_w, i32_w]
                                rfl
                              refine one_ (i := 14) (N := some 90) #[true, true, true, true, true, true, true, true, true, true, true, true, true, true, true, false, false, false] rfl rfl (one_of HT_.out (by kernel_rfl)) (by decide) (fun K hK => ?_)
                              refine goes_ Tryd.func18 (by kernel_rfl) rfl #[.agg #[.int .i64 (wrap64 (Int.tdiv (wrap64 (a0)) 32)), .int .i64 (Int.tmod (wrap64 (a1)) 4)]] (by rfl) rfl rfl (by (try simp only [List.map_toArray, List.map_cons, List.map_nil]); first | done | rfl | (simp only [List.length_drop, List.length_take]; rfl)) ?_
                              with_reducible refine (fixed_Least.calls k3 (wrap64 (Int.tdiv (wrap64 (a0)) 32)) (Int.tmod (wrap64 (a1)) 4) t113 t114 _ A36.out).mono ?_
                              rintro e w46 ⟨rfl, hb⟩
                              refine ⟨_, rfl, ?_⟩
                              have n0_ := Aside0.mk (blk_below (g := gb101) (o := .cells #[.int .i64 (wrap64 (Int.tdiv (wrap64 (a0)) 32)), .int .i64 (Int.tmod (wrap64 (a1)) 4)] 27 (0, 0)) (by (with_reducible repeat (first | refine blk_drewN ?_ _ | refine blk_drew ?_ | refine blk_alloc ?_ _)); exact BK101.out) hb)
                              have n1_ := Aside0.mk (blk_below (g := gb107) (o := .cells #[.int .i64 t104, .int .i64 t105] 27 (0, 0)) (by (with_reducible repeat (first | refine blk_drewN ?_ _ | refine blk_drew ?_ | refine blk_alloc ?_ _)); exact BK107.out) hb)
                              have n2_ := Aside0.mk (blk_below (g := gb112) (o := .cells #[.int .i64 t109, .int .i64 t110] 27 (0, 0)) (by (with_reducible repeat (first | refine blk_drewN ?_ _ | refine blk_drew ?_ | refine blk_alloc ?_ _)); exact BK112.out) hb)
                              have n3_ := Aside0.mk (below_step (by repeat (first | (with_reducible first | exact HB.out | apply below_alloc | apply pw_below_drewN | apply below_drew1 | refine below_set ?_ GE101.out | refine below_set ?_ GE107.out | refine below_set ?_ GE112.out) | exact HB.out)) hb)
                              clear BK101
                              clear BK107
                              clear BK112
                              clear HB
                              have BK101 := n0_
                              have BK107 := n1_
                              have BK112 := n2_
                              have HB := n3_
                              clear n0_ n1_ n2_ n3_
                              (try clear hb)
                              (try clear hb2)
                              (try clear hk)
                              (try clear hi)
                              refine hK.out _ _ ⟨(blk_cell BK107.out 0).trans rfl, (blk_cell BK107.out 1).trans rfl, (blk_cell BK112.out 0).trans rfl, (blk_cell BK112.out 1).trans rfl, (blk_cell BK101.out 0).trans rfl, (blk_cell BK101.out 1).trans rfl⟩ (fun hHeld => ?_)
                              clear hK K
                              refine norm_ (a' := ?_) ?_ ?_
                              rotate_left
                              · show Act.put _ (some 90) _ = _
                                simp only [Act.put, List.setIfInBounds_toArray, List.set_cons_zero, List.set_cons_succ, i64_w, i32_w]
                                rfl
                              refine pure_ (i := 15) (N := some 91) (v := ?_) (a' := ?_) #[true, true, true, true, true, true, true, true, true, true, true, true, true, true, true, true, false, false] rfl rfl (any_of HT_.out (by kernel_rfl)) (fun _ _ _ h => h) (Or.inl ⟨by rfl, ?_⟩) ?_ ?_
                              rotate_left
                              · intro w'
                                go_simp
                                with_reducible rfl
                              rotate_left
                              · simp only [Act.put, List.setIfInBounds_toArray, List.set_cons_zero, List.set_cons_succ, i64_w, i32_w]
                                rfl
                              refine pure_ (i := 16) (N := some 92) (v := ?_) (a' := ?_) #[true, true, true, true, true, true, true, true, true, true, true, true, true, true, true, true, true, false] rfl rfl (any_of HT_.out (by kernel_rfl)) (fun _ _ _ h => h) (Or.inl ⟨by rfl, ?_⟩) ?_ ?_
                              rotate_left
                              · intro w'
                                go_simp
                                with_reducible rfl
                              rotate_left
                              · simp only [Act.put, List.setIfInBounds_toArray, List.set_cons_zero, List.set_cons_succ, i64_w, i32_w]
                                rfl
                              refine pure_ (i := 17) (N := some 8) (v := ?_) (a' := ?_) #[true, true, true, true, true, true, true, true, true, true, true, true, true, true, true, true, true, true] rfl rfl (any_of HT_.out (by kernel_rfl)) (fun _ _ _ h => h) (Or.inl ⟨by rfl, ?_⟩) ?_ ?_
                              rotate_left
                              · intro w'
                                go_simp
                                with_reducible rfl
                              rotate_left
                              · simp only [Act.put, List.setIfInBounds_toArray, List.set_cons_zero, List.set_cons_succ, i64_w, i32_w]
                                rfl
                              refine done_ (done_of HT_.out (by kernel_rfl)) ?_
                              try go_wp2
                              go_ret
                              exact ⟨by first | rfl | (simp [errW_none, errW_some] <;> rfl) | (simp only [← hji9]; first | rfl | (simp [errW_none, errW_some] <;> rfl)) | (simp [*, errW_none, errW_some] <;> rfl), by repeat (first | (with_reducible first | exact HB.out | apply below_alloc | apply pw_below_drewN | apply below_drew1 | refine below_set ?_ GE101.out | refine below_set ?_ GE107.out | refine below_set ?_ GE112.out) | exact HB.out)⟩
                            · rw [if_neg c35] at H
                              have c35b0 : (t104 == t109 && (t105 == t110)) = false := by simpa using c35
                              (try (have c35b1 : decide (t104 = t109 && (t105 == t110)) = false := by simpa using c35))
                              (try (have c35b2 : (t104 == t109 && (t105 == t110)) = false := by simpa using c35))
                              (try (have c35b3 : ¬ (t104 = t109 && (t105 == t110)) := by simpa using c35))
                              clear c35
                              obtain rfl := Option.some.inj H
                              have hnb47 := NB101_107.out
                              have hnc47 := NB107_101.out
                              have hcz48_0 : wr.cell? ⟨gb101, 0, none⟩ = some (.int .i64 (wrap64 (Int.tdiv (wrap64 (a0)) 32))) := (blk_cell BK101.out 0).trans rfl
                              have hcz48_1 : wr.cell? ⟨gb101, 1, none⟩ = some (.int .i64 (Int.tmod (wrap64 (a1)) 4)) := (blk_cell BK101.out 1).trans rfl
                              have hfz48_0 := blk_frozen BK101.out 0
                              have hfz48_1 := blk_frozen BK101.out 1
                              try go_wp2_with (first | ((with_reducible refine gate_callee (f := 13) rfl ?_); refine goesL_ (some 73) rfl rfl Tryd.func13 (by kernel_rfl) rfl #[.string ((⟨#[45]⟩ : ByteArray) ++ x12_3)] rfl (by (try simp only [List.map_toArray, List.map_cons, List.map_nil]); first | done | rfl | (simp only [List.length_drop, List.length_take]; rfl)) ?_; (with_reducible refine (fixed_Read.calls ((⟨#[45]⟩ : ByteArray) ++ x12_3) t109 t110 t111 _ A32.out).mono ?_); rintro e w49 ⟨rfl, hb⟩; refine ⟨_, rfl, ?_⟩; have n0_ := Aside0.mk (blk_below (g := gb101) (o := .cells #[.int .i64 (wrap64 (Int.tdiv (wrap64 (a0)) 32)), .int .i64 (Int.tmod (wrap64 (a1)) 4)] 27 (0, 0)) (by (with_reducible repeat (first | refine blk_drewN ?_ _ | refine blk_drew ?_ | refine blk_alloc ?_ _)); exact BK101.out) hb); have n1_ := Aside0.mk (blk_below (g := gb107) (o := .cells #[.int .i64 t104, .int .i64 t105] 27 (0, 0)) (by (with_reducible repeat (first | refine blk_drewN ?_ _ | refine blk_drew ?_ | refine blk_alloc ?_ _)); exact BK107.out) hb); have n2_ := Aside0.mk (below_step (by repeat (first | (with_reducible first | exact HB.out | apply below_alloc | apply pw_below_drewN | apply below_drew1 | refine below_set ?_ GE101.out | refine below_set ?_ GE107.out) | exact HB.out)) hb); clear BK101; clear BK107; clear HB; have BK101 := n0_; have BK107 := n1_; have HB := n2_; clear n0_ n1_ n2_; (try clear hb); (try clear hb2); (try clear hk); (try clear hi)) | ((with_reducible refine gate_dst (N := 15) rfl ?_); refine box_event ?hg (N := 15) ?hd (cs := #[.int .i64 0, .int .i64 0]) (t := 27) ?hr ?_; (case hd => rfl); (case hg => rfl); (case hr => first | (go_simp; done) | (go_simp; rfl)); intro gb112 hg w50 hbox hb; have n0_ := Aside0.mk (blk_below (g := gb101) (o := .cells #[.int .i64 (wrap64 (Int.tdiv (wrap64 (a0)) 32)), .int .i64 (Int.tmod (wrap64 (a1)) 4)] 27 (0, 0)) (by (with_reducible repeat (first | refine blk_drewN ?_ _ | refine blk_drew ?_ | refine blk_alloc ?_ _)); exact BK101.out) hb); have n1_ := Aside0.mk (blk_below (g := gb107) (o := .cells #[.int .i64 t104, .int .i64 t105] 27 (0, 0)) (by (with_reducible repeat (first | refine blk_drewN ?_ _ | refine blk_drew ?_ | refine blk_alloc ?_ _)); exact BK107.out) hb); have n2_ := Aside0.mk (below_step (by repeat (first | (with_reducible first | exact HB.out | apply below_alloc | apply pw_below_drewN | apply below_drew1 | refine below_set ?_ GE101.out | refine below_set ?_ GE107.out) | exact HB.out)) hb); have n3_ := Aside0.mk (hbox); have n4_ := Aside0.mk ((by rw [hg]; exact (below_size (by repeat (first | (with_reducible first | exact HB.out | apply below_alloc | apply pw_below_drewN | apply below_drew1 | refine below_set ?_ GE101.out | refine below_set ?_ GE107.out) | exact HB.out))) : w.heap.size ≤ gb112)); have n5_ := Aside0.mk ((by rw [hg]; exact (below_size (by repeat (first | (with_reducible first | exact HB.out | apply below_alloc | apply pw_below_drewN | apply below_drew1 | refine below_set ?_ GE101.out | refine below_set ?_ GE107.out) | exact HB.out))) : w.heap.size ≤ gb112)); have n6_ := Aside0.mk ((by rw [hg]; exact Nat.ne_of_lt (blk_lt (g := gb101) (o := .cells #[.int .i64 (wrap64 (Int.tdiv (wrap64 (a0)) 32)), .int .i64 (Int.tmod (wrap64 (a1)) 4)] 27 (0, 0)) (by (with_reducible repeat (first | refine blk_drewN ?_ _ | refine blk_drew ?_ | refine blk_alloc ?_ _)); exact BK101.out)) : gb101 ≠ gb112)); have n7_ := Aside0.mk ((by rw [hg]; exact Nat.ne_of_gt (blk_lt (g := gb101) (o := .cells #[.int .i64 (wrap64 (Int.tdiv (wrap64 (a0)) 32)), .int .i64 (Int.tmod (wrap64 (a1)) 4)] 27 (0, 0)) (by (with_reducible repeat (first | refine blk_drewN ?_ _ | refine blk_drew ?_ | refine blk_alloc ?_ _)); exact BK101.out)) : gb112 ≠ gb101)); have n8_ := Aside0.mk ((by rw [hg]; exact Nat.ne_of_lt (blk_lt (g := gb107) (o := .cells #[.int .i64 t104, .int .i64 t105] 27 (0, 0)) (by (with_reducible repeat (first | refine blk_drewN ?_ _ | refine blk_drew ?_ | refine blk_alloc ?_ _)); exact BK107.out)) : gb107 ≠ gb112)); have n9_ := Aside0.mk ((by rw [hg]; exact Nat.ne_of_gt (blk_lt (g := gb107) (o := .cells #[.int .i64 t104, .int .i64 t105] 27 (0, 0)) (by (with_reducible repeat (first | refine blk_drewN ?_ _ | refine blk_drew ?_ | refine blk_alloc ?_ _)); exact BK107.out)) : gb112 ≠ gb107)); clear BK101; clear BK107; clear HB; have BK101 := n0_; have BK107 := n1_; have HB := n2_; have BK112 := n3_; have GW112 := n4_; have GE112 := n5_; have NB101_112 := n6_; have NB112_101 := n7_; have NB107_112 := n8_; have NB112_107 := n9_; clear n0_ n1_ n2_ n3_ n4_ n5_ n6_ n7_ n8_ n9_; clear hb hbox hg; have hnb51 := NB112_101.out; have hnc51 := NB101_112.out; have hnb52 := NB112_107.out; have hnc52 := NB107_112.out; have hcz53_0 : w50.cell? ⟨gb112, 0, none⟩ = some (.int .i64 0) := (blk_cell BK112.out 0).trans rfl; have hcz53_1 : w50.cell? ⟨gb112, 1, none⟩ = some (.int .i64 0) := (blk_cell BK112.out 1).trans rfl; have hfz53_0 := blk_frozen BK112.out 0; have hfz53_1 := blk_frozen BK112.out 1))
                              have n0_ : Aside0 (((w50.setCell ⟨gb112, 0, none⟩ (.int .i64 t109)).setCell ⟨gb112, 1, none⟩ (.int .i64 t110)).heap[gb101]? = some (.cells #[.int .i64 (wrap64 (Int.tdiv (wrap64 (a0)) 32)), .int .i64 (Int.tmod (wrap64 (a1)) 4)] 27 (0, 0))) := ⟨by (with_reducible repeat (first | refine blk_drewN ?_ _ | refine blk_drew ?_ | refine blk_alloc ?_ _)); refine blk_far ?_ NB101_112.out _; (with_reducible repeat (first | refine blk_drewN ?_ _ | refine blk_drew ?_ | refine blk_alloc ?_ _)); refine blk_far ?_ NB101_112.out _; (with_reducible repeat (first | refine blk_drewN ?_ _ | refine blk_drew ?_ | refine blk_alloc ?_ _)); exact BK101.out⟩
                              have n1_ : Aside0 (((w50.setCell ⟨gb112, 0, none⟩ (.int .i64 t109)).setCell ⟨gb112, 1, none⟩ (.int .i64 t110)).heap[gb107]? = some (.cells #[.int .i64 t104, .int .i64 t105] 27 (0, 0))) := ⟨by (with_reducible repeat (first | refine blk_drewN ?_ _ | refine blk_drew ?_ | refine blk_alloc ?_ _)); refine blk_far ?_ NB107_112.out _; (with_reducible repeat (first | refine blk_drewN ?_ _ | refine blk_drew ?_ | refine blk_alloc ?_ _)); refine blk_far ?_ NB107_112.out _; (with_reducible repeat (first | refine blk_drewN ?_ _ | refine blk_drew ?_ | refine blk_alloc ?_ _)); exact BK107.out⟩
                              have n2_ : Aside0 (((w50.setCell ⟨gb112, 0, none⟩ (.int .i64 t109)).setCell ⟨gb112, 1, none⟩ (.int .i64 t110)).heap[gb112]? = some (.cells #[.int .i64 t109, .int .i64 t110] 27 (0, 0))) := ⟨by (with_reducible repeat (first | refine blk_drewN ?_ _ | refine blk_drew ?_ | refine blk_alloc ?_ _)); refine blk_put (cs := #[.int .i64 t109, .int .i64 0]) ?_ 1 _ rfl; (with_reducible repeat (first | refine blk_drewN ?_ _ | refine blk_drew ?_ | refine blk_alloc ?_ _)); refine blk_put (cs := #[.int .i64 0, .int .i64 0]) ?_ 0 _ rfl; (with_reducible repeat (first | refine blk_drewN ?_ _ | refine blk_drew ?_ | refine blk_alloc ?_ _)); exact BK112.out⟩
                              have n3_ : Aside0 (Below w.heap.size w ((w50.setCell ⟨gb112, 0, none⟩ (.int .i64 t109)).setCell ⟨gb112, 1, none⟩ (.int .i64 t110))) := ⟨by repeat (first | (with_reducible first | exact HB.out | apply below_alloc | apply pw_below_drewN | apply below_drew1 | refine below_set ?_ GE101.out | refine below_set ?_ GE107.out | refine below_set ?_ GE112.out) | exact HB.out)⟩
                              (try clear BK101)
                              (try clear BK107)
                              (try clear BK112)
                              (try clear HB)
                              generalize ((w50.setCell ⟨gb112, 0, none⟩ (.int .i64 t109)).setCell ⟨gb112, 1, none⟩ (.int .i64 t110)) = w54 at n0_ n1_ n2_ n3_ ⊢
                              have BK101 := n0_
                              have BK107 := n1_
                              have BK112 := n2_
                              have HB := n3_
                              clear n0_ n1_ n2_ n3_
                              have n0_ := Aside0.mk (blk_drew BK101.out)
                              have n1_ := Aside0.mk (blk_drew BK107.out)
                              have n2_ := Aside0.mk (blk_drew BK112.out)
                              have n3_ := Aside0.mk (below_drew1 HB.out)
                              clear BK101
                              clear BK107
                              clear BK112
                              clear HB
                              have BK101 := n0_
                              have BK107 := n1_
                              have BK112 := n2_
                              have HB := n3_
                              clear n0_ n1_ n2_ n3_
                              refine start_ (n := 18) (S := fun w' => w'.cell? ⟨gb107, 0, none⟩ = some (.int .i64 t104) ∧ w'.cell? ⟨gb107, 1, none⟩ = some (.int .i64 t105) ∧ w'.cell? ⟨gb112, 0, none⟩ = some (.int .i64 t109) ∧ w'.cell? ⟨gb112, 1, none⟩ = some (.int .i64 t110)) (ds := []) #[false, false, false, false, false, false, false, false, false, false, false, false, false, false, false, false, false, false] (by kernel_rfl) rfl rfl ⟨(blk_cell BK107.out 0).trans rfl, (blk_cell BK107.out 1).trans rfl, (blk_cell BK112.out 0).trans rfl, (blk_cell BK112.out 1).trans rfl⟩ (fun hHeld => ?_); refine with_tabW entrepotlaw02_FixedNoughts.tab19 entrepotlaw02_FixedNoughts.bits19 (fun HT_ HW_ => ?_)
                              generalize w54.drew = w55 at BK101 BK107 BK112 HB hHeld ⊢
                              refine pure_ (i := 0) (N := some 76) (v := ?_) (a' := ?_) #[true, false, false, false, false, false, false, false, false, false, false, false, false, false, false, false, false, false] rfl rfl (any_of HT_.out (by kernel_rfl)) (fun _ _ _ h => h) (Or.inl ⟨by rfl, ?_⟩) ?_ ?_
                              rotate_left
                              · intro w'
                                go_simp
                                with_reducible rfl
                              rotate_left
                              · simp only [Act.put, List.setIfInBounds_toArray, List.set_cons_zero, List.set_cons_succ, i64_w, i32_w]
                                rfl
                              refine pure_ (i := 1) (N := some 77) (v := ?_) (a' := ?_) #[true, true, false, false, false, false, false, false, false, false, false, false, false, false, false, false, false, false] rfl rfl (any_of HT_.out (by kernel_rfl)) (fun _ _ _ h => h) (Or.inl ⟨by rfl, ?_⟩) ?_ ?_
                              rotate_left
                              · intro w'
                                go_simp
                                with_reducible rfl
                              rotate_left
                              · simp only [Act.put, List.setIfInBounds_toArray, List.set_cons_zero, List.set_cons_succ, i64_w, i32_w]
                                rfl
                              refine pure_ (i := 2) (N := some 78) (v := ?_) (a' := ?_) #[true, true, true, false, false, false, false, false, false, false, false, false, false, false, false, false, false, false] rfl rfl (any_of HT_.out (by kernel_rfl)) (fun _ _ _ h => h) (Or.inl ⟨by rfl, ?_⟩) ?_ ?_
                              rotate_left
                              · intro w'
                                go_simp
                                with_reducible rfl
                              rotate_left
                              · simp only [Act.put, List.setIfInBounds_toArray, List.set_cons_zero, List.set_cons_succ, i64_w, i32_w]
                                rfl
                              refine pure_ (i := 3) (N := some 79) (v := ?_) (a' := ?_) #[true, true, true, true, false, false, false, false, false, false, false, false, false, false, false, false, false, false] rfl rfl (any_of HT_.out (by kernel_rfl)) (fun _ _ _ h => h) (Or.inl ⟨by rfl, ?_⟩) ?_ ?_
                              rotate_left
                              · intro w'
                                go_simp
                                with_reducible rfl
                              rotate_left
                              · simp only [Act.put, List.setIfInBounds_toArray, List.set_cons_zero, List.set_cons_succ, i64_w, i32_w]
                                rfl
                              refine pure_ (i := 4) (N := some 80) (v := ?_) (a' := ?_) #[true, true, true, true, true, false, false, false, false, false, false, false, false, false, false, false, false, false] rfl rfl (any_of HT_.out (by kernel_rfl)) (fun _ _ _ h => h) (Or.inl ⟨by rfl, ?_⟩) ?_ ?_
                              rotate_left
                              · intro w'
                                go_simp
                                with_reducible rfl
                              rotate_left
                              · simp only [Act.put, List.setIfInBounds_toArray, List.set_cons_zero, List.set_cons_succ, i64_w, i32_w]
                                rfl
                              refine pure_ (i := 5) (N := some 81) (v := ?_) (a' := ?_) #[true, true, true, true, true, true, false, false, false, false, false, false, false, false, false, false, false, false] rfl rfl (any_of HT_.out (by kernel_rfl)) (fun _ _ _ h => h) (Or.inl ⟨by rfl, ?_⟩) ?_ ?_
                              rotate_left
                              · intro w'
                                go_simp
                                with_reducible rfl
                              rotate_left
                              · simp only [Act.put, List.setIfInBounds_toArray, List.set_cons_zero, List.set_cons_succ, i64_w, i32_w]
                                rfl
                              refine pure_ (i := 6) (N := some 82) (v := ?_) (a' := ?_) #[true, true, true, true, true, true, true, false, false, false, false, false, false, false, false, false, false, false] rfl rfl (any_of HT_.out (by kernel_rfl)) (fun _ _ _ h => h) (Or.inl ⟨by rfl, ?_⟩) ?_ ?_
                              rotate_left
                              · intro w'
                                go_simp
                                with_reducible rfl
                              rotate_left
                              · simp only [Act.put, List.setIfInBounds_toArray, List.set_cons_zero, List.set_cons_succ, i64_w, i32_w]
                                rfl
                              refine take_ (i := 7) (N := some 83) (v := ?_) (a' := ?_) #[true, true, true, true, true, true, true, true, false, false, false, false, false, false, false, false, false, false] rfl rfl (take_ofW HT_.out HW_.out (by kernel_rfl)) (fun _ _ _ h => h) (Or.inl ⟨by rfl, ?_⟩) hHeld ?_ ?_
                              rotate_left
                              · rintro w' ⟨s0, s1, s2, s3⟩
                                go_simp
                                with_reducible rfl
                              rotate_left
                              · simp only [Act.put, List.setIfInBounds_toArray, List.set_cons_zero, List.set_cons_succ, i64_w, i32_w]
                                rfl
                              refine take_ (i := 8) (N := some 84) (v := ?_) (a' := ?_) #[true, true, true, true, true, true, true, true, true, false, false, false, false, false, false, false, false, false] rfl rfl (take_ofW HT_.out HW_.out (by kernel_rfl)) (fun _ _ _ h => h) (Or.inl ⟨by rfl, ?_⟩) hHeld ?_ ?_
                              rotate_left
                              · rintro w' ⟨s0, s1, s2, s3⟩
                                go_simp
                                with_reducible rfl
                              rotate_left
                              · simp only [Act.put, List.setIfInBounds_toArray, List.set_cons_zero, List.set_cons_succ, i64_w, i32_w]
                                rfl
                              refine pure_ (i := 9) (N := some 85) (v := ?_) (a' := ?_) #[true, true, true, true, true, true, true, true, true, true, false, false, false, false, false, false, false, false] rfl rfl (any_of HT_.out (by kernel_rfl)) (fun _ _ _ h => h) (Or.inl ⟨by rfl, ?_⟩) ?_ ?_
                              rotate_left
                              · intro w'
                                go_simp
                                with_reducible rfl
                              rotate_left
                              · simp only [Act.put, List.setIfInBounds_toArray, List.set_cons_zero, List.set_cons_succ, i64_w, i32_w]
                                rfl
                              refine pure_ (i := 10) (N := some 86) (v := ?_) (a' := ?_) #[true, true, true, true, true, true, true, true, true, true, true, false, false, false, false, false, false, false] rfl rfl (any_of HT_.out (by kernel_rfl)) (fun _ _ _ h => h) (Or.inl ⟨by rfl, ?_⟩) ?_ ?_
                              rotate_left
                              · intro w'
                                go_simp
                                with_reducible rfl
                              rotate_left
                              · simp only [Act.put, List.setIfInBounds_toArray, List.set_cons_zero, List.set_cons_succ, i64_w, i32_w]
                                rfl
                              refine pure_ (i := 11) (N := some 87) (v := ?_) (a' := ?_) #[true, true, true, true, true, true, true, true, true, true, true, true, false, false, false, false, false, false] rfl rfl (any_of HT_.out (by kernel_rfl)) (fun _ _ _ h => h) (Or.inl ⟨by rfl, ?_⟩) ?_ ?_
                              rotate_left
                              · intro w'
                                go_simp
                                with_reducible rfl
                              rotate_left
                              · simp only [Act.put, List.setIfInBounds_toArray, List.set_cons_zero, List.set_cons_succ, i64_w, i32_w]
                                rfl
                              refine pure_ (i := 12) (N := some 88) (v := undef) (a' := ?_) #[true, true, true, true, true, true, true, true, true, true, true, true, true, false, false, false, false, false] rfl rfl (any_of HT_.out (by kernel_rfl)) (fun _ _ _ h => h) (Or.inr ⟨by rfl, rfl⟩) ?_ ?_
                              rotate_left
                              · simp only [Act.put, List.setIfInBounds_toArray, List.set_cons_zero, List.set_cons_succ, i64_w, i32_w]
                                rfl
                              refine pure_ (i := 13) (N := some 89) (v := undef) (a' := ?_) #[true, true, true, true, true, true, true, true, true, true, true, true, true, true, false, false, false, false] rfl rfl (any_of HT_.out (by kernel_rfl)) (fun _ _ _ h => h) (Or.inr ⟨by rfl, rfl⟩) ?_ ?_
                              rotate_left
                              · simp only [Act.put, List.setIfInBounds_toArray, List.set_cons_zero, List.set_cons_succ, i64_w, i32_w]
                                rfl
                              refine pure_ (i := 14) (N := some 90) (v := undef) (a' := ?_) #[true, true, true, true, true, true, true, true, true, true, true, true, true, true, true, false, false, false] rfl rfl (any_of HT_.out (by kernel_rfl)) (fun _ _ _ h => h) (Or.inr ⟨by rfl, rfl⟩) ?_ ?_
                              rotate_left
                              · simp only [Act.put, List.setIfInBounds_toArray, List.set_cons_zero, List.set_cons_succ, i64_w, i32_w]
                                rfl
                              refine pure_ (i := 15) (N := some 91) (v := undef) (a' := ?_) #[true, true, true, true, true, true, true, true, true, true, true, true, true, true, true, true, false, false] rfl rfl (any_of HT_.out (by kernel_rfl)) (fun _ _ _ h => h) (Or.inr ⟨by rfl, rfl⟩) ?_ ?_
                              rotate_left
                              · simp only [Act.put, List.setIfInBounds_toArray, List.set_cons_zero, List.set_cons_succ, i64_w, i32_w]
                                rfl
                              refine pure_ (i := 16) (N := some 92) (v := ?_) (a' := ?_) #[true, true, true, true, true, true, true, true, true, true, true, true, true, true, true, true, true, false] rfl rfl (any_of HT_.out (by kernel_rfl)) (fun _ _ _ h => h) (Or.inl ⟨by rfl, ?_⟩) ?_ ?_
                              rotate_left
                              · intro w'
                                go_simp
                                with_reducible rfl
                              rotate_left
                              · simp only [Act.put, List.setIfInBounds_toArray, List.set_cons_zero, List.set_cons_succ, i64_w, i32_w]
                                rfl
                              refine pure_ (i := 17) (N := some 8) (v := ?_) (a' := ?_) #[true, true, true, true, true, true, true, true, true, true, true, true, true, true, true, true, true, true] rfl rfl (any_of HT_.out (by kernel_rfl)) (fun _ _ _ h => h) (Or.inl ⟨by rfl, ?_⟩) ?_ ?_
                              rotate_left
                              · intro w'
                                go_simp
                                with_reducible rfl
                              rotate_left
                              · simp only [Act.put, List.setIfInBounds_toArray, List.set_cons_zero, List.set_cons_succ, i64_w, i32_w]
                                rfl
                              refine done_ (done_of HT_.out (by kernel_rfl)) ?_
                              try go_wp2
                              go_ret
                              exact ⟨by first | rfl | (simp [errW_none, errW_some] <;> rfl) | (simp only [← hji9]; first | rfl | (simp [errW_none, errW_some] <;> rfl)) | (simp [*, errW_none, errW_some] <;> rfl), by repeat (first | (with_reducible first | exact HB.out | apply below_alloc | apply pw_below_drewN | apply below_drew1 | refine below_set ?_ GE101.out | refine below_set ?_ GE107.out | refine below_set ?_ GE112.out) | exact HB.out)⟩
                          · rw [if_neg c34] at H
                            have c34b0 : (t111 == 0) = false := beq_eq_false_iff_ne.mpr c34
                            have c34b1 : (t111 != 0) = true := bne_iff_ne.mpr c34
                            obtain rfl := Option.some.inj H
                            have hnb56 := NB101_107.out
                            have hnc56 := NB107_101.out
                            have hcz57_0 : wr.cell? ⟨gb101, 0, none⟩ = some (.int .i64 (wrap64 (Int.tdiv (wrap64 (a0)) 32))) := (blk_cell BK101.out 0).trans rfl
                            have hcz57_1 : wr.cell? ⟨gb101, 1, none⟩ = some (.int .i64 (Int.tmod (wrap64 (a1)) 4)) := (blk_cell BK101.out 1).trans rfl
                            have hfz57_0 := blk_frozen BK101.out 0
                            have hfz57_1 := blk_frozen BK101.out 1
                            try go_wp2_with (first | ((with_reducible refine gate_callee (f := 13) rfl ?_); refine goesL_ (some 73) rfl rfl Tryd.func13 (by kernel_rfl) rfl #[.string ((⟨#[45]⟩ : ByteArray) ++ x12_3)] rfl (by (try simp only [List.map_toArray, List.map_cons, List.map_nil]); first | done | rfl | (simp only [List.length_drop, List.length_take]; rfl)) ?_; (with_reducible refine (fixed_Read.calls ((⟨#[45]⟩ : ByteArray) ++ x12_3) t109 t110 t111 _ A32.out).mono ?_); rintro e w58 ⟨rfl, hb⟩; refine ⟨_, rfl, ?_⟩; have n0_ := Aside0.mk (blk_below (g := gb101) (o := .cells #[.int .i64 (wrap64 (Int.tdiv (wrap64 (a0)) 32)), .int .i64 (Int.tmod (wrap64 (a1)) 4)] 27 (0, 0)) (by (with_reducible repeat (first | refine blk_drewN ?_ _ | refine blk_drew ?_ | refine blk_alloc ?_ _)); exact BK101.out) hb); have n1_ := Aside0.mk (blk_below (g := gb107) (o := .cells #[.int .i64 t104, .int .i64 t105] 27 (0, 0)) (by (with_reducible repeat (first | refine blk_drewN ?_ _ | refine blk_drew ?_ | refine blk_alloc ?_ _)); exact BK107.out) hb); have n2_ := Aside0.mk (below_step (by repeat (first | (with_reducible first | exact HB.out | apply below_alloc | apply pw_below_drewN | apply below_drew1 | refine below_set ?_ GE101.out | refine below_set ?_ GE107.out) | exact HB.out)) hb); clear BK101; clear BK107; clear HB; have BK101 := n0_; have BK107 := n1_; have HB := n2_; clear n0_ n1_ n2_; (try clear hb); (try clear hb2); (try clear hk); (try clear hi)) | ((with_reducible refine gate_dst (N := 15) rfl ?_); refine box_event ?hg (N := 15) ?hd (cs := #[.int .i64 0, .int .i64 0]) (t := 27) ?hr ?_; (case hd => rfl); (case hg => rfl); (case hr => first | (go_simp; done) | (go_simp; rfl)); intro gb112 hg w59 hbox hb; have n0_ := Aside0.mk (blk_below (g := gb101) (o := .cells #[.int .i64 (wrap64 (Int.tdiv (wrap64 (a0)) 32)), .int .i64 (Int.tmod (wrap64 (a1)) 4)] 27 (0, 0)) (by (with_reducible repeat (first | refine blk_drewN ?_ _ | refine blk_drew ?_ | refine blk_alloc ?_ _)); exact BK101.out) hb); have n1_ := Aside0.mk (blk_below (g := gb107) (o := .cells #[.int .i64 t104, .int .i64 t105] 27 (0, 0)) (by (with_reducible repeat (first | refine blk_drewN ?_ _ | refine blk_drew ?_ | refine blk_alloc ?_ _)); exact BK107.out) hb); have n2_ := Aside0.mk (below_step (by repeat (first | (with_reducible first | exact HB.out | apply below_alloc | apply pw_below_drewN | apply below_drew1 | refine below_set ?_ GE101.out | refine below_set ?_ GE107.out) | exact HB.out)) hb); have n3_ := Aside0.mk (hbox); have n4_ := Aside0.mk ((by rw [hg]; exact (below_size (by repeat (first | (with_reducible first | exact HB.out | apply below_alloc | apply pw_below_drewN | apply below_drew1 | refine below_set ?_ GE101.out | refine below_set ?_ GE107.out) | exact HB.out))) : w.heap.size ≤ gb112)); have n5_ := Aside0.mk ((by rw [hg]; exact (below_size (by repeat (first | (with_reducible first | exact HB.out | apply below_alloc | apply pw_below_drewN | apply below_drew1 | refine below_set ?_ GE101.out | refine below_set ?_ GE107.out) | exact HB.out))) : w.heap.size ≤ gb112)); have n6_ := Aside0.mk ((by rw [hg]; exact Nat.ne_of_lt (blk_lt (g := gb101) (o := .cells #[.int .i64 (wrap64 (Int.tdiv (wrap64 (a0)) 32)), .int .i64 (Int.tmod (wrap64 (a1)) 4)] 27 (0, 0)) (by (with_reducible repeat (first | refine blk_drewN ?_ _ | refine blk_drew ?_ | refine blk_alloc ?_ _)); exact BK101.out)) : gb101 ≠ gb112)); have n7_ := Aside0.mk ((by rw [hg]; exact Nat.ne_of_gt (blk_lt (g := gb101) (o := .cells #[.int .i64 (wrap64 (Int.tdiv (wrap64 (a0)) 32)), .int .i64 (Int.tmod (wrap64 (a1)) 4)] 27 (0, 0)) (by (with_reducible repeat (first | refine blk_drewN ?_ _ | refine blk_drew ?_ | refine blk_alloc ?_ _)); exact BK101.out)) : gb112 ≠ gb101)); have n8_ := Aside0.mk ((by rw [hg]; exact Nat.ne_of_lt (blk_lt (g := gb107) (o := .cells #[.int .i64 t104, .int .i64 t105] 27 (0, 0)) (by (with_reducible repeat (first | refine blk_drewN ?_ _ | refine blk_drew ?_ | refine blk_alloc ?_ _)); exact BK107.out)) : gb107 ≠ gb112)); have n9_ := Aside0.mk ((by rw [hg]; exact Nat.ne_of_gt (blk_lt (g := gb107) (o := .cells #[.int .i64 t104, .int .i64 t105] 27 (0, 0)) (by (with_reducible repeat (first | refine blk_drewN ?_ _ | refine blk_drew ?_ | refine blk_alloc ?_ _)); exact BK107.out)) : gb112 ≠ gb107)); clear BK101; clear BK107; clear HB; have BK101 := n0_; have BK107 := n1_; have HB := n2_; have BK112 := n3_; have GW112 := n4_; have GE112 := n5_; have NB101_112 := n6_; have NB112_101 := n7_; have NB107_112 := n8_; have NB112_107 := n9_; clear n0_ n1_ n2_ n3_ n4_ n5_ n6_ n7_ n8_ n9_; clear hb hbox hg; have hnb60 := NB112_101.out; have hnc60 := NB101_112.out; have hnb61 := NB112_107.out; have hnc61 := NB107_112.out; have hcz62_0 : w59.cell? ⟨gb112, 0, none⟩ = some (.int .i64 0) := (blk_cell BK112.out 0).trans rfl; have hcz62_1 : w59.cell? ⟨gb112, 1, none⟩ = some (.int .i64 0) := (blk_cell BK112.out 1).trans rfl; have hfz62_0 := blk_frozen BK112.out 0; have hfz62_1 := blk_frozen BK112.out 1))
                            have n0_ : Aside0 (((w59.setCell ⟨gb112, 0, none⟩ (.int .i64 t109)).setCell ⟨gb112, 1, none⟩ (.int .i64 t110)).heap[gb101]? = some (.cells #[.int .i64 (wrap64 (Int.tdiv (wrap64 (a0)) 32)), .int .i64 (Int.tmod (wrap64 (a1)) 4)] 27 (0, 0))) := ⟨by (with_reducible repeat (first | refine blk_drewN ?_ _ | refine blk_drew ?_ | refine blk_alloc ?_ _)); refine blk_far ?_ NB101_112.out _; (with_reducible repeat (first | refine blk_drewN ?_ _ | refine blk_drew ?_ | refine blk_alloc ?_ _)); refine blk_far ?_ NB101_112.out _; (with_reducible repeat (first | refine blk_drewN ?_ _ | refine blk_drew ?_ | refine blk_alloc ?_ _)); exact BK101.out⟩
                            have n1_ : Aside0 (((w59.setCell ⟨gb112, 0, none⟩ (.int .i64 t109)).setCell ⟨gb112, 1, none⟩ (.int .i64 t110)).heap[gb107]? = some (.cells #[.int .i64 t104, .int .i64 t105] 27 (0, 0))) := ⟨by (with_reducible repeat (first | refine blk_drewN ?_ _ | refine blk_drew ?_ | refine blk_alloc ?_ _)); refine blk_far ?_ NB107_112.out _; (with_reducible repeat (first | refine blk_drewN ?_ _ | refine blk_drew ?_ | refine blk_alloc ?_ _)); refine blk_far ?_ NB107_112.out _; (with_reducible repeat (first | refine blk_drewN ?_ _ | refine blk_drew ?_ | refine blk_alloc ?_ _)); exact BK107.out⟩
                            have n2_ : Aside0 (((w59.setCell ⟨gb112, 0, none⟩ (.int .i64 t109)).setCell ⟨gb112, 1, none⟩ (.int .i64 t110)).heap[gb112]? = some (.cells #[.int .i64 t109, .int .i64 t110] 27 (0, 0))) := ⟨by (with_reducible repeat (first | refine blk_drewN ?_ _ | refine blk_drew ?_ | refine blk_alloc ?_ _)); refine blk_put (cs := #[.int .i64 t109, .int .i64 0]) ?_ 1 _ rfl; (with_reducible repeat (first | refine blk_drewN ?_ _ | refine blk_drew ?_ | refine blk_alloc ?_ _)); refine blk_put (cs := #[.int .i64 0, .int .i64 0]) ?_ 0 _ rfl; (with_reducible repeat (first | refine blk_drewN ?_ _ | refine blk_drew ?_ | refine blk_alloc ?_ _)); exact BK112.out⟩
                            have n3_ : Aside0 (Below w.heap.size w ((w59.setCell ⟨gb112, 0, none⟩ (.int .i64 t109)).setCell ⟨gb112, 1, none⟩ (.int .i64 t110))) := ⟨by repeat (first | (with_reducible first | exact HB.out | apply below_alloc | apply pw_below_drewN | apply below_drew1 | refine below_set ?_ GE101.out | refine below_set ?_ GE107.out | refine below_set ?_ GE112.out) | exact HB.out)⟩
                            (try clear BK101)
                            (try clear BK107)
                            (try clear BK112)
                            (try clear HB)
                            generalize ((w59.setCell ⟨gb112, 0, none⟩ (.int .i64 t109)).setCell ⟨gb112, 1, none⟩ (.int .i64 t110)) = w63 at n0_ n1_ n2_ n3_ ⊢
                            have BK101 := n0_
                            have BK107 := n1_
                            have BK112 := n2_
                            have HB := n3_
                            clear n0_ n1_ n2_ n3_
                            have n0_ := Aside0.mk (blk_drew BK101.out)
                            have n1_ := Aside0.mk (blk_drew BK107.out)
                            have n2_ := Aside0.mk (blk_drew BK112.out)
                            have n3_ := Aside0.mk (below_drew1 HB.out)
                            clear BK101
                            clear BK107
                            clear BK112
                            clear HB
                            have BK101 := n0_
                            have BK107 := n1_
                            have BK112 := n2_
                            have HB := n3_
                            clear n0_ n1_ n2_ n3_
                            refine start_ (n := 18) (S := fun w' => True) (ds := []) #[false, false, false, false, false, false, false, false, false, false, false, false, false, false, false, false, false, false] (by kernel_rfl) rfl rfl trivial (fun hHeld => ?_); refine with_tabW entrepotlaw02_FixedNoughts.tab19 entrepotlaw02_FixedNoughts.bits19 (fun HT_ HW_ => ?_)
                            generalize w63.drew = w64 at BK101 BK107 BK112 HB hHeld ⊢
                            refine pure_ (i := 0) (N := some 76) (v := ?_) (a' := ?_) #[true, false, false, false, false, false, false, false, false, false, false, false, false, false, false, false, false, false] rfl rfl (any_of HT_.out (by kernel_rfl)) (fun _ _ _ h => h) (Or.inl ⟨by rfl, ?_⟩) ?_ ?_
                            rotate_left
                            · intro w'
                              go_simp
                              with_reducible rfl
                            rotate_left
                            · simp only [Act.put, List.setIfInBounds_toArray, List.set_cons_zero, List.set_cons_succ, i64_w, i32_w]
                              rfl
                            refine pure_ (i := 1) (N := some 77) (v := ?_) (a' := ?_) #[true, true, false, false, false, false, false, false, false, false, false, false, false, false, false, false, false, false] rfl rfl (any_of HT_.out (by kernel_rfl)) (fun _ _ _ h => h) (Or.inl ⟨by rfl, ?_⟩) ?_ ?_
                            rotate_left
                            · intro w'
                              go_simp
                              with_reducible rfl
                            rotate_left
                            · simp only [Act.put, List.setIfInBounds_toArray, List.set_cons_zero, List.set_cons_succ, i64_w, i32_w]
                              rfl
                            refine pure_ (i := 2) (N := some 78) (v := ?_) (a' := ?_) #[true, true, true, false, false, false, false, false, false, false, false, false, false, false, false, false, false, false] rfl rfl (any_of HT_.out (by kernel_rfl)) (fun _ _ _ h => h) (Or.inl ⟨by rfl, ?_⟩) ?_ ?_
                            rotate_left
                            · intro w'
                              go_simp
                              with_reducible rfl
                            rotate_left
                            · simp only [Act.put, List.setIfInBounds_toArray, List.set_cons_zero, List.set_cons_succ, i64_w, i32_w]
                              rfl
                            refine pure_ (i := 3) (N := some 79) (v := ?_) (a' := ?_) #[true, true, true, true, false, false, false, false, false, false, false, false, false, false, false, false, false, false] rfl rfl (any_of HT_.out (by kernel_rfl)) (fun _ _ _ h => h) (Or.inl ⟨by rfl, ?_⟩) ?_ ?_
                            rotate_left
                            · intro w'
                              go_simp
                              with_reducible rfl
                            rotate_left
                            · simp only [Act.put, List.setIfInBounds_toArray, List.set_cons_zero, List.set_cons_succ, i64_w, i32_w]
                              rfl
                            refine pure_ (i := 4) (N := some 80) (v := ?_) (a' := ?_) #[true, true, true, true, true, false, false, false, false, false, false, false, false, false, false, false, false, false] rfl rfl (any_of HT_.out (by kernel_rfl)) (fun _ _ _ h => h) (Or.inl ⟨by rfl, ?_⟩) ?_ ?_
                            rotate_left
                            · intro w'
                              go_simp
                              with_reducible rfl
                            rotate_left
                            · simp only [Act.put, List.setIfInBounds_toArray, List.set_cons_zero, List.set_cons_succ, i64_w, i32_w]
                              rfl
                            refine pure_ (i := 5) (N := some 81) (v := ?_) (a' := ?_) #[true, true, true, true, true, true, false, false, false, false, false, false, false, false, false, false, false, false] rfl rfl (any_of HT_.out (by kernel_rfl)) (fun _ _ _ h => h) (Or.inl ⟨by rfl, ?_⟩) ?_ ?_
                            rotate_left
                            · intro w'
                              go_simp
                              with_reducible rfl
                            rotate_left
                            · simp only [Act.put, List.setIfInBounds_toArray, List.set_cons_zero, List.set_cons_succ, i64_w, i32_w]
                              rfl
                            refine pure_ (i := 6) (N := some 82) (v := ?_) (a' := ?_) #[true, true, true, true, true, true, true, false, false, false, false, false, false, false, false, false, false, false] rfl rfl (any_of HT_.out (by kernel_rfl)) (fun _ _ _ h => h) (Or.inl ⟨by rfl, ?_⟩) ?_ ?_
                            rotate_left
                            · intro w'
                              go_simp
                              with_reducible rfl
                            rotate_left
                            · simp only [Act.put, List.setIfInBounds_toArray, List.set_cons_zero, List.set_cons_succ, i64_w, i32_w]
                              rfl
                            refine pure_ (i := 7) (N := some 83) (v := undef) (a' := ?_) #[true, true, true, true, true, true, true, true, false, false, false, false, false, false, false, false, false, false] rfl rfl (any_of HT_.out (by kernel_rfl)) (fun _ _ _ h => h) (Or.inr ⟨by rfl, rfl⟩) ?_ ?_
                            rotate_left
                            · simp only [Act.put, List.setIfInBounds_toArray, List.set_cons_zero, List.set_cons_succ, i64_w, i32_w]
                              rfl
                            refine pure_ (i := 8) (N := some 84) (v := undef) (a' := ?_) #[true, true, true, true, true, true, true, true, true, false, false, false, false, false, false, false, false, false] rfl rfl (any_of HT_.out (by kernel_rfl)) (fun _ _ _ h => h) (Or.inr ⟨by rfl, rfl⟩) ?_ ?_
                            rotate_left
                            · simp only [Act.put, List.setIfInBounds_toArray, List.set_cons_zero, List.set_cons_succ, i64_w, i32_w]
                              rfl
                            refine pure_ (i := 9) (N := some 85) (v := undef) (a' := ?_) #[true, true, true, true, true, true, true, true, true, true, false, false, false, false, false, false, false, false] rfl rfl (any_of HT_.out (by kernel_rfl)) (fun _ _ _ h => h) (Or.inr ⟨by rfl, rfl⟩) ?_ ?_
                            rotate_left
                            · simp only [Act.put, List.setIfInBounds_toArray, List.set_cons_zero, List.set_cons_succ, i64_w, i32_w]
                              rfl
                            refine pure_ (i := 10) (N := some 86) (v := ?_) (a' := ?_) #[true, true, true, true, true, true, true, true, true, true, true, false, false, false, false, false, false, false] rfl rfl (any_of HT_.out (by kernel_rfl)) (fun _ _ _ h => h) (Or.inl ⟨by rfl, ?_⟩) ?_ ?_
                            rotate_left
                            · intro w'
                              go_simp
                              with_reducible rfl
                            rotate_left
                            · simp only [Act.put, List.setIfInBounds_toArray, List.set_cons_zero, List.set_cons_succ, i64_w, i32_w]
                              rfl
                            refine pure_ (i := 11) (N := some 87) (v := ?_) (a' := ?_) #[true, true, true, true, true, true, true, true, true, true, true, true, false, false, false, false, false, false] rfl rfl (any_of HT_.out (by kernel_rfl)) (fun _ _ _ h => h) (Or.inl ⟨by rfl, ?_⟩) ?_ ?_
                            rotate_left
                            · intro w'
                              go_simp
                              with_reducible rfl
                            rotate_left
                            · simp only [Act.put, List.setIfInBounds_toArray, List.set_cons_zero, List.set_cons_succ, i64_w, i32_w]
                              rfl
                            refine pure_ (i := 12) (N := some 88) (v := undef) (a' := ?_) #[true, true, true, true, true, true, true, true, true, true, true, true, true, false, false, false, false, false] rfl rfl (any_of HT_.out (by kernel_rfl)) (fun _ _ _ h => h) (Or.inr ⟨by rfl, rfl⟩) ?_ ?_
                            rotate_left
                            · simp only [Act.put, List.setIfInBounds_toArray, List.set_cons_zero, List.set_cons_succ, i64_w, i32_w]
                              rfl
                            refine pure_ (i := 13) (N := some 89) (v := undef) (a' := ?_) #[true, true, true, true, true, true, true, true, true, true, true, true, true, true, false, false, false, false] rfl rfl (any_of HT_.out (by kernel_rfl)) (fun _ _ _ h => h) (Or.inr ⟨by rfl, rfl⟩) ?_ ?_
                            rotate_left
                            · simp only [Act.put, List.setIfInBounds_toArray, List.set_cons_zero, List.set_cons_succ, i64_w, i32_w]
                              rfl
                            refine pure_ (i := 14) (N := some 90) (v := undef) (a' := ?_) #[true, true, true, true, true, true, true, true, true, true, true, true, true, true, true, false, false, false] rfl rfl (any_of HT_.out (by kernel_rfl)) (fun _ _ _ h => h) (Or.inr ⟨by rfl, rfl⟩) ?_ ?_
                            rotate_left
                            · simp only [Act.put, List.setIfInBounds_toArray, List.set_cons_zero, List.set_cons_succ, i64_w, i32_w]
                              rfl
                            refine pure_ (i := 15) (N := some 91) (v := undef) (a' := ?_) #[true, true, true, true, true, true, true, true, true, true, true, true, true, true, true, true, false, false] rfl rfl (any_of HT_.out (by kernel_rfl)) (fun _ _ _ h => h) (Or.inr ⟨by rfl, rfl⟩) ?_ ?_
                            rotate_left
                            · simp only [Act.put, List.setIfInBounds_toArray, List.set_cons_zero, List.set_cons_succ, i64_w, i32_w]
                              rfl
                            refine pure_ (i := 16) (N := some 92) (v := ?_) (a' := ?_) #[true, true, true, true, true, true, true, true, true, true, true, true, true, true, true, true, true, false] rfl rfl (any_of HT_.out (by kernel_rfl)) (fun _ _ _ h => h) (Or.inl ⟨by rfl, ?_⟩) ?_ ?_
                            rotate_left
                            · intro w'
                              go_simp
                              with_reducible rfl
                            rotate_left
                            · simp only [Act.put, List.setIfInBounds_toArray, List.set_cons_zero, List.set_cons_succ, i64_w, i32_w]
                              rfl
                            refine pure_ (i := 17) (N := some 8) (v := ?_) (a' := ?_) #[true, true, true, true, true, true, true, true, true, true, true, true, true, true, true, true, true, true] rfl rfl (any_of HT_.out (by kernel_rfl)) (fun _ _ _ h => h) (Or.inl ⟨by rfl, ?_⟩) ?_ ?_
                            rotate_left
                            · intro w'
                              go_simp
                              with_reducible rfl
                            rotate_left
                            · simp only [Act.put, List.setIfInBounds_toArray, List.set_cons_zero, List.set_cons_succ, i64_w, i32_w]
                              rfl
                            refine done_ (done_of HT_.out (by kernel_rfl)) ?_
                            try go_wp2
                            go_ret
                            exact ⟨by first | rfl | (simp [errW_none, errW_some] <;> rfl) | (simp only [← hji9]; first | rfl | (simp [errW_none, errW_some] <;> rfl)) | (simp [*, errW_none, errW_some] <;> rfl), by repeat (first | (with_reducible first | exact HB.out | apply below_alloc | apply pw_below_drewN | apply below_drew1 | refine below_set ?_ GE101.out | refine below_set ?_ GE107.out | refine below_set ?_ GE112.out) | exact HB.out)⟩
                        · rw [if_neg c33] at H
                          have c33b0 : (t106 == 0) = false := beq_eq_false_iff_ne.mpr c33
                          have c33b1 : (t106 != 0) = true := bne_iff_ne.mpr c33
                          obtain rfl := Option.some.inj H
                          have hnb65 := NB101_107.out
                          have hnc65 := NB107_101.out
                          have hcz66_0 : wr.cell? ⟨gb101, 0, none⟩ = some (.int .i64 (wrap64 (Int.tdiv (wrap64 (a0)) 32))) := (blk_cell BK101.out 0).trans rfl
                          have hcz66_1 : wr.cell? ⟨gb101, 1, none⟩ = some (.int .i64 (Int.tmod (wrap64 (a1)) 4)) := (blk_cell BK101.out 1).trans rfl
                          have hfz66_0 := blk_frozen BK101.out 0
                          have hfz66_1 := blk_frozen BK101.out 1
                          try go_wp2_with (first | ((with_reducible refine gate_callee (f := 13) rfl ?_); refine goesL_ (some 73) rfl rfl Tryd.func13 (by kernel_rfl) rfl #[.string ((⟨#[45]⟩ : ByteArray) ++ x12_3)] rfl (by (try simp only [List.map_toArray, List.map_cons, List.map_nil]); first | done | rfl | (simp only [List.length_drop, List.length_take]; rfl)) ?_; (with_reducible refine (fixed_Read.calls ((⟨#[45]⟩ : ByteArray) ++ x12_3) t109 t110 t111 _ A32.out).mono ?_); rintro e w67 ⟨rfl, hb⟩; refine ⟨_, rfl, ?_⟩; have n0_ := Aside0.mk (blk_below (g := gb101) (o := .cells #[.int .i64 (wrap64 (Int.tdiv (wrap64 (a0)) 32)), .int .i64 (Int.tmod (wrap64 (a1)) 4)] 27 (0, 0)) (by (with_reducible repeat (first | refine blk_drewN ?_ _ | refine blk_drew ?_ | refine blk_alloc ?_ _)); exact BK101.out) hb); have n1_ := Aside0.mk (blk_below (g := gb107) (o := .cells #[.int .i64 t104, .int .i64 t105] 27 (0, 0)) (by (with_reducible repeat (first | refine blk_drewN ?_ _ | refine blk_drew ?_ | refine blk_alloc ?_ _)); exact BK107.out) hb); have n2_ := Aside0.mk (below_step (by repeat (first | (with_reducible first | exact HB.out | apply below_alloc | apply pw_below_drewN | apply below_drew1 | refine below_set ?_ GE101.out | refine below_set ?_ GE107.out) | exact HB.out)) hb); clear BK101; clear BK107; clear HB; have BK101 := n0_; have BK107 := n1_; have HB := n2_; clear n0_ n1_ n2_; (try clear hb); (try clear hb2); (try clear hk); (try clear hi)) | ((with_reducible refine gate_dst (N := 15) rfl ?_); refine box_event ?hg (N := 15) ?hd (cs := #[.int .i64 0, .int .i64 0]) (t := 27) ?hr ?_; (case hd => rfl); (case hg => rfl); (case hr => first | (go_simp; done) | (go_simp; rfl)); intro gb112 hg w68 hbox hb; have n0_ := Aside0.mk (blk_below (g := gb101) (o := .cells #[.int .i64 (wrap64 (Int.tdiv (wrap64 (a0)) 32)), .int .i64 (Int.tmod (wrap64 (a1)) 4)] 27 (0, 0)) (by (with_reducible repeat (first | refine blk_drewN ?_ _ | refine blk_drew ?_ | refine blk_alloc ?_ _)); exact BK101.out) hb); have n1_ := Aside0.mk (blk_below (g := gb107) (o := .cells #[.int .i64 t104, .int .i64 t105] 27 (0, 0)) (by (with_reducible repeat (first | refine blk_drewN ?_ _ | refine blk_drew ?_ | refine blk_alloc ?_ _)); exact BK107.out) hb); have n2_ := Aside0.mk (below_step (by repeat (first | (with_reducible first | exact HB.out | apply below_alloc | apply pw_below_drewN | apply below_drew1 | refine below_set ?_ GE101.out | refine below_set ?_ GE107.out) | exact HB.out)) hb); have n3_ := Aside0.mk (hbox); have n4_ := Aside0.mk ((by rw [hg]; exact (below_size (by repeat (first | (with_reducible first | exact HB.out | apply below_alloc | apply pw_below_drewN | apply below_drew1 | refine below_set ?_ GE101.out | refine below_set ?_ GE107.out) | exact HB.out))) : w.heap.size ≤ gb112)); have n5_ := Aside0.mk ((by rw [hg]; exact (below_size (by repeat (first | (with_reducible first | exact HB.out | apply below_alloc | apply pw_below_drewN | apply below_drew1 | refine below_set ?_ GE101.out | refine below_set ?_ GE107.out) | exact HB.out))) : w.heap.size ≤ gb112)); have n6_ := Aside0.mk ((by rw [hg]; exact Nat.ne_of_lt (blk_lt (g := gb101) (o := .cells #[.int .i64 (wrap64 (Int.tdiv (wrap64 (a0)) 32)), .int .i64 (Int.tmod (wrap64 (a1)) 4)] 27 (0, 0)) (by (with_reducible repeat (first | refine blk_drewN ?_ _ | refine blk_drew ?_ | refine blk_alloc ?_ _)); exact BK101.out)) : gb101 ≠ gb112)); have n7_ := Aside0.mk ((by rw [hg]; exact Nat.ne_of_gt (blk_lt (g := gb101) (o := .cells #[.int .i64 (wrap64 (Int.tdiv (wrap64 (a0)) 32)), .int .i64 (Int.tmod (wrap64 (a1)) 4)] 27 (0, 0)) (by (with_reducible repeat (first | refine blk_drewN ?_ _ | refine blk_drew ?_ | refine blk_alloc ?_ _)); exact BK101.out)) : gb112 ≠ gb101)); have n8_ := Aside0.mk ((by rw [hg]; exact Nat.ne_of_lt (blk_lt (g := gb107) (o := .cells #[.int .i64 t104, .int .i64 t105] 27 (0, 0)) (by (with_reducible repeat (first | refine blk_drewN ?_ _ | refine blk_drew ?_ | refine blk_alloc ?_ _)); exact BK107.out)) : gb107 ≠ gb112)); have n9_ := Aside0.mk ((by rw [hg]; exact Nat.ne_of_gt (blk_lt (g := gb107) (o := .cells #[.int .i64 t104, .int .i64 t105] 27 (0, 0)) (by (with_reducible repeat (first | refine blk_drewN ?_ _ | refine blk_drew ?_ | refine blk_alloc ?_ _)); exact BK107.out)) : gb112 ≠ gb107)); clear BK101; clear BK107; clear HB; have BK101 := n0_; have BK107 := n1_; have HB := n2_; have BK112 := n3_; have GW112 := n4_; have GE112 := n5_; have NB101_112 := n6_; have NB112_101 := n7_; have NB107_112 := n8_; have NB112_107 := n9_; clear n0_ n1_ n2_ n3_ n4_ n5_ n6_ n7_ n8_ n9_; clear hb hbox hg; have hnb69 := NB112_101.out; have hnc69 := NB101_112.out; have hnb70 := NB112_107.out; have hnc70 := NB107_112.out; have hcz71_0 : w68.cell? ⟨gb112, 0, none⟩ = some (.int .i64 0) := (blk_cell BK112.out 0).trans rfl; have hcz71_1 : w68.cell? ⟨gb112, 1, none⟩ = some (.int .i64 0) := (blk_cell BK112.out 1).trans rfl; have hfz71_0 := blk_frozen BK112.out 0; have hfz71_1 := blk_frozen BK112.out 1))
                          have n0_ : Aside0 (((w68.setCell ⟨gb112, 0, none⟩ (.int .i64 t109)).setCell ⟨gb112, 1, none⟩ (.int .i64 t110)).heap[gb101]? = some (.cells #[.int .i64 (wrap64 (Int.tdiv (wrap64 (a0)) 32)), .int .i64 (Int.tmod (wrap64 (a1)) 4)] 27 (0, 0))) := ⟨by (with_reducible repeat (first | refine blk_drewN ?_ _ | refine blk_drew ?_ | refine blk_alloc ?_ _)); refine blk_far ?_ NB101_112.out _; (with_reducible repeat (first | refine blk_drewN ?_ _ | refine blk_drew ?_ | refine blk_alloc ?_ _)); refine blk_far ?_ NB101_112.out _; (with_reducible repeat (first | refine blk_drewN ?_ _ | refine blk_drew ?_ | refine blk_alloc ?_ _)); exact BK101.out⟩
                          have n1_ : Aside0 (((w68.setCell ⟨gb112, 0, none⟩ (.int .i64 t109)).setCell ⟨gb112, 1, none⟩ (.int .i64 t110)).heap[gb107]? = some (.cells #[.int .i64 t104, .int .i64 t105] 27 (0, 0))) := ⟨by (with_reducible repeat (first | refine blk_drewN ?_ _ | refine blk_drew ?_ | refine blk_alloc ?_ _)); refine blk_far ?_ NB107_112.out _; (with_reducible repeat (first | refine blk_drewN ?_ _ | refine blk_drew ?_ | refine blk_alloc ?_ _)); refine blk_far ?_ NB107_112.out _; (with_reducible repeat (first | refine blk_drewN ?_ _ | refine blk_drew ?_ | refine blk_alloc ?_ _)); exact BK107.out⟩
                          have n2_ : Aside0 (((w68.setCell ⟨gb112, 0, none⟩ (.int .i64 t109)).setCell ⟨gb112, 1, none⟩ (.int .i64 t110)).heap[gb112]? = some (.cells #[.int .i64 t109, .int .i64 t110] 27 (0, 0))) := ⟨by (with_reducible repeat (first | refine blk_drewN ?_ _ | refine blk_drew ?_ | refine blk_alloc ?_ _)); refine blk_put (cs := #[.int .i64 t109, .int .i64 0]) ?_ 1 _ rfl; (with_reducible repeat (first | refine blk_drewN ?_ _ | refine blk_drew ?_ | refine blk_alloc ?_ _)); refine blk_put (cs := #[.int .i64 0, .int .i64 0]) ?_ 0 _ rfl; (with_reducible repeat (first | refine blk_drewN ?_ _ | refine blk_drew ?_ | refine blk_alloc ?_ _)); exact BK112.out⟩
                          have n3_ : Aside0 (Below w.heap.size w ((w68.setCell ⟨gb112, 0, none⟩ (.int .i64 t109)).setCell ⟨gb112, 1, none⟩ (.int .i64 t110))) := ⟨by repeat (first | (with_reducible first | exact HB.out | apply below_alloc | apply pw_below_drewN | apply below_drew1 | refine below_set ?_ GE101.out | refine below_set ?_ GE107.out | refine below_set ?_ GE112.out) | exact HB.out)⟩
                          (try clear BK101)
                          (try clear BK107)
                          (try clear BK112)
                          (try clear HB)
                          generalize ((w68.setCell ⟨gb112, 0, none⟩ (.int .i64 t109)).setCell ⟨gb112, 1, none⟩ (.int .i64 t110)) = w72 at n0_ n1_ n2_ n3_ ⊢
                          have BK101 := n0_
                          have BK107 := n1_
                          have BK112 := n2_
                          have HB := n3_
                          clear n0_ n1_ n2_ n3_
                          have n0_ := Aside0.mk (blk_drew BK101.out)
                          have n1_ := Aside0.mk (blk_drew BK107.out)
                          have n2_ := Aside0.mk (blk_drew BK112.out)
                          have n3_ := Aside0.mk (below_drew1 HB.out)
                          clear BK101
                          clear BK107
                          clear BK112
                          clear HB
                          have BK101 := n0_
                          have BK107 := n1_
                          have BK112 := n2_
                          have HB := n3_
                          clear n0_ n1_ n2_ n3_
                          refine start_ (n := 18) (S := fun w' => True) (ds := []) #[false, false, false, false, false, false, false, false, false, false, false, false, false, false, false, false, false, false] (by kernel_rfl) rfl rfl trivial (fun hHeld => ?_); refine with_tabW entrepotlaw02_FixedNoughts.tab19 entrepotlaw02_FixedNoughts.bits19 (fun HT_ HW_ => ?_)
                          generalize w72.drew = w73 at BK101 BK107 BK112 HB hHeld ⊢
                          refine pure_ (i := 0) (N := some 76) (v := ?_) (a' := ?_) #[true, false, false, false, false, false, false, false, false, false, false, false, false, false, false, false, false, false] rfl rfl (any_of HT_.out (by kernel_rfl)) (fun _ _ _ h => h) (Or.inl ⟨by rfl, ?_⟩) ?_ ?_
                          rotate_left
                          · intro w'
                            go_simp
                            with_reducible rfl
                          rotate_left
                          · simp only [Act.put, List.setIfInBounds_toArray, List.set_cons_zero, List.set_cons_succ, i64_w, i32_w]
                            rfl
                          refine pure_ (i := 1) (N := some 77) (v := ?_) (a' := ?_) #[true, true, false, false, false, false, false, false, false, false, false, false, false, false, false, false, false, false] rfl rfl (any_of HT_.out (by kernel_rfl)) (fun _ _ _ h => h) (Or.inl ⟨by rfl, ?_⟩) ?_ ?_
                          rotate_left
                          · intro w'
                            go_simp
                            with_reducible rfl
                          rotate_left
                          · simp only [Act.put, List.setIfInBounds_toArray, List.set_cons_zero, List.set_cons_succ, i64_w, i32_w]
                            rfl
                          refine pure_ (i := 2) (N := some 78) (v := ?_) (a' := ?_) #[true, true, true, false, false, false, false, false, false, false, false, false, false, false, false, false, false, false] rfl rfl (any_of HT_.out (by kernel_rfl)) (fun _ _ _ h => h) (Or.inl ⟨by rfl, ?_⟩) ?_ ?_
                          rotate_left
                          · intro w'
                            go_simp
                            with_reducible rfl
                          rotate_left
                          · simp only [Act.put, List.setIfInBounds_toArray, List.set_cons_zero, List.set_cons_succ, i64_w, i32_w]
                            rfl
                          refine pure_ (i := 3) (N := some 79) (v := undef) (a' := ?_) #[true, true, true, true, false, false, false, false, false, false, false, false, false, false, false, false, false, false] rfl rfl (any_of HT_.out (by kernel_rfl)) (fun _ _ _ h => h) (Or.inr ⟨by rfl, rfl⟩) ?_ ?_
                          rotate_left
                          · simp only [Act.put, List.setIfInBounds_toArray, List.set_cons_zero, List.set_cons_succ, i64_w, i32_w]
                            rfl
                          refine pure_ (i := 4) (N := some 80) (v := undef) (a' := ?_) #[true, true, true, true, true, false, false, false, false, false, false, false, false, false, false, false, false, false] rfl rfl (any_of HT_.out (by kernel_rfl)) (fun _ _ _ h => h) (Or.inr ⟨by rfl, rfl⟩) ?_ ?_
                          rotate_left
                          · simp only [Act.put, List.setIfInBounds_toArray, List.set_cons_zero, List.set_cons_succ, i64_w, i32_w]
                            rfl
                          refine pure_ (i := 5) (N := some 81) (v := ?_) (a' := ?_) #[true, true, true, true, true, true, false, false, false, false, false, false, false, false, false, false, false, false] rfl rfl (any_of HT_.out (by kernel_rfl)) (fun _ _ _ h => h) (Or.inl ⟨by rfl, ?_⟩) ?_ ?_
                          rotate_left
                          · intro w'
                            go_simp
                            with_reducible rfl
                          rotate_left
                          · simp only [Act.put, List.setIfInBounds_toArray, List.set_cons_zero, List.set_cons_succ, i64_w, i32_w]
                            rfl
                          refine pure_ (i := 6) (N := some 82) (v := ?_) (a' := ?_) #[true, true, true, true, true, true, true, false, false, false, false, false, false, false, false, false, false, false] rfl rfl (any_of HT_.out (by kernel_rfl)) (fun _ _ _ h => h) (Or.inl ⟨by rfl, ?_⟩) ?_ ?_
                          rotate_left
                          · intro w'
                            go_simp
                            with_reducible rfl
                          rotate_left
                          · simp only [Act.put, List.setIfInBounds_toArray, List.set_cons_zero, List.set_cons_succ, i64_w, i32_w]
                            rfl
                          refine pure_ (i := 7) (N := some 83) (v := undef) (a' := ?_) #[true, true, true, true, true, true, true, true, false, false, false, false, false, false, false, false, false, false] rfl rfl (any_of HT_.out (by kernel_rfl)) (fun _ _ _ h => h) (Or.inr ⟨by rfl, rfl⟩) ?_ ?_
                          rotate_left
                          · simp only [Act.put, List.setIfInBounds_toArray, List.set_cons_zero, List.set_cons_succ, i64_w, i32_w]
                            rfl
                          refine pure_ (i := 8) (N := some 84) (v := undef) (a' := ?_) #[true, true, true, true, true, true, true, true, true, false, false, false, false, false, false, false, false, false] rfl rfl (any_of HT_.out (by kernel_rfl)) (fun _ _ _ h => h) (Or.inr ⟨by rfl, rfl⟩) ?_ ?_
                          rotate_left
                          · simp only [Act.put, List.setIfInBounds_toArray, List.set_cons_zero, List.set_cons_succ, i64_w, i32_w]
                            rfl
                          refine pure_ (i := 9) (N := some 85) (v := undef) (a' := ?_) #[true, true, true, true, true, true, true, true, true, true, false, false, false, false, false, false, false, false] rfl rfl (any_of HT_.out (by kernel_rfl)) (fun _ _ _ h => h) (Or.inr ⟨by rfl, rfl⟩) ?_ ?_
                          rotate_left
                          · simp only [Act.put, List.setIfInBounds_toArray, List.set_cons_zero, List.set_cons_succ, i64_w, i32_w]
                            rfl
                          refine pure_ (i := 10) (N := some 86) (v := ?_) (a' := ?_) #[true, true, true, true, true, true, true, true, true, true, true, false, false, false, false, false, false, false] rfl rfl (any_of HT_.out (by kernel_rfl)) (fun _ _ _ h => h) (Or.inl ⟨by rfl, ?_⟩) ?_ ?_
                          rotate_left
                          · intro w'
                            go_simp
                            with_reducible rfl
                          rotate_left
                          · simp only [Act.put, List.setIfInBounds_toArray, List.set_cons_zero, List.set_cons_succ, i64_w, i32_w]
                            rfl
                          refine pure_ (i := 11) (N := some 87) (v := ?_) (a' := ?_) #[true, true, true, true, true, true, true, true, true, true, true, true, false, false, false, false, false, false] rfl rfl (any_of HT_.out (by kernel_rfl)) (fun _ _ _ h => h) (Or.inl ⟨by rfl, ?_⟩) ?_ ?_
                          rotate_left
                          · intro w'
                            go_simp
                            with_reducible rfl
                          rotate_left
                          · simp only [Act.put, List.setIfInBounds_toArray, List.set_cons_zero, List.set_cons_succ, i64_w, i32_w]
                            rfl
                          refine pure_ (i := 12) (N := some 88) (v := undef) (a' := ?_) #[true, true, true, true, true, true, true, true, true, true, true, true, true, false, false, false, false, false] rfl rfl (any_of HT_.out (by kernel_rfl)) (fun _ _ _ h => h) (Or.inr ⟨by rfl, rfl⟩) ?_ ?_
                          rotate_left
                          · simp only [Act.put, List.setIfInBounds_toArray, List.set_cons_zero, List.set_cons_succ, i64_w, i32_w]
                            rfl
                          refine pure_ (i := 13) (N := some 89) (v := undef) (a' := ?_) #[true, true, true, true, true, true, true, true, true, true, true, true, true, true, false, false, false, false] rfl rfl (any_of HT_.out (by kernel_rfl)) (fun _ _ _ h => h) (Or.inr ⟨by rfl, rfl⟩) ?_ ?_
                          rotate_left
                          · simp only [Act.put, List.setIfInBounds_toArray, List.set_cons_zero, List.set_cons_succ, i64_w, i32_w]
                            rfl
                          refine pure_ (i := 14) (N := some 90) (v := undef) (a' := ?_) #[true, true, true, true, true, true, true, true, true, true, true, true, true, true, true, false, false, false] rfl rfl (any_of HT_.out (by kernel_rfl)) (fun _ _ _ h => h) (Or.inr ⟨by rfl, rfl⟩) ?_ ?_
                          rotate_left
                          · simp only [Act.put, List.setIfInBounds_toArray, List.set_cons_zero, List.set_cons_succ, i64_w, i32_w]
                            rfl
                          refine pure_ (i := 15) (N := some 91) (v := undef) (a' := ?_) #[true, true, true, true, true, true, true, true, true, true, true, true, true, true, true, true, false, false] rfl rfl (any_of HT_.out (by kernel_rfl)) (fun _ _ _ h => h) (Or.inr ⟨by rfl, rfl⟩) ?_ ?_
                          rotate_left
                          · simp only [Act.put, List.setIfInBounds_toArray, List.set_cons_zero, List.set_cons_succ, i64_w, i32_w]
                            rfl
                          refine pure_ (i := 16) (N := some 92) (v := ?_) (a' := ?_) #[true, true, true, true, true, true, true, true, true, true, true, true, true, true, true, true, true, false] rfl rfl (any_of HT_.out (by kernel_rfl)) (fun _ _ _ h => h) (Or.inl ⟨by rfl, ?_⟩) ?_ ?_
                          rotate_left
                          · intro w'
                            go_simp
                            with_reducible rfl
                          rotate_left
                          · simp only [Act.put, List.setIfInBounds_toArray, List.set_cons_zero, List.set_cons_succ, i64_w, i32_w]
                            rfl
                          refine pure_ (i := 17) (N := some 8) (v := ?_) (a' := ?_) #[true, true, true, true, true, true, true, true, true, true, true, true, true, true, true, true, true, true] rfl rfl (any_of HT_.out (by kernel_rfl)) (fun _ _ _ h => h) (Or.inl ⟨by rfl, ?_⟩) ?_ ?_
                          rotate_left
                          · intro w'
                            go_simp
                            with_reducible rfl
                          rotate_left
                          · simp only [Act.put, List.setIfInBounds_toArray, List.set_cons_zero, List.set_cons_succ, i64_w, i32_w]
                            rfl
                          refine done_ (done_of HT_.out (by kernel_rfl)) ?_
                          try go_wp2
                          go_ret
                          exact ⟨by first | rfl | (simp [errW_none, errW_some] <;> rfl) | (simp only [← hji9]; first | rfl | (simp [errW_none, errW_some] <;> rfl)) | (simp [*, errW_none, errW_some] <;> rfl), by repeat (first | (with_reducible first | exact HB.out | apply below_alloc | apply pw_below_drewN | apply below_drew1 | refine below_set ?_ GE101.out | refine below_set ?_ GE107.out | refine below_set ?_ GE112.out) | exact HB.out)⟩
                      · rw [if_neg c31] at H
                        exact absurd H (by simp)
                    · rw [if_neg c30] at H
                      have c30b0 : decide ((wrap64 (Int.tdiv (wrap64 (a0)) 32)) < 0) = false := decide_eq_false c30
                      clear c30
                      replace H := Option.bind_eq_some_iff.mp H
                      obtain ⟨⟨t115, t116, t117⟩, A740, H⟩ := H
                      replace H : (if t106 = 0 then (if t117 = 0 then (if (t104 == t115 && (t105 == t116)) = true then ((fixed_Least.f k3 (wrap64 (Int.tdiv (wrap64 (a0)) 32)) (Int.tmod (wrap64 (a1)) 4)).bind fun bt119 => (some (t104 == bt119.1 && (t105 == bt119.2)))) else (some false)) else (some false)) else (some false)) = some r := H
                      have A74 := Aside0.mk A740
                      clear A740
                      by_cases c75 : t106 = 0
                      · rw [if_pos c75] at H
                        have c75b0 : (t106 == 0) = true := beq_iff_eq.mpr c75
                        have c75b1 : (t106 != 0) = false := bne_eq_false_iff_eq.mpr c75
                        clear c75
                        by_cases c76 : t117 = 0
                        · rw [if_pos c76] at H
                          have c76b0 : (t117 == 0) = true := beq_iff_eq.mpr c76
                          have c76b1 : (t117 != 0) = false := bne_eq_false_iff_eq.mpr c76
                          clear c76
                          by_cases c77 : (t104 == t115 && (t105 == t116)) = true
                          · rw [if_pos c77] at H
                            have c77b0 : (t104 == t115 && (t105 == t116)) = true := c77
                            (try (have c77b1 : decide (t104 = t115 && (t105 == t116)) = true := by simpa using c77))
                            (try (have c77b2 : (t104 == t115 && (t105 == t116)) = true := by simpa using c77))
                            clear c77
                            replace H := Option.bind_eq_some_iff.mp H
                            obtain ⟨⟨t119, t120⟩, A780, H⟩ := H
                            replace H : (some (t104 == t119 && (t105 == t120))) = some r := H
                            have A78 := Aside0.mk A780
                            clear A780
                            obtain rfl := Option.some.inj H
                            have hnb79 := NB101_107.out
                            have hnc79 := NB107_101.out
                            have hcz80_0 : wr.cell? ⟨gb101, 0, none⟩ = some (.int .i64 (wrap64 (Int.tdiv (wrap64 (a0)) 32))) := (blk_cell BK101.out 0).trans rfl
                            have hcz80_1 : wr.cell? ⟨gb101, 1, none⟩ = some (.int .i64 (Int.tmod (wrap64 (a1)) 4)) := (blk_cell BK101.out 1).trans rfl
                            have hfz80_0 := blk_frozen BK101.out 0
                            have hfz80_1 := blk_frozen BK101.out 1
                            try go_wp2_with (first | ((with_reducible refine gate_callee (f := 13) rfl ?_); refine goesL_ (some 73) rfl rfl Tryd.func13 (by kernel_rfl) rfl #[.string x12_3] rfl (by (try simp only [List.map_toArray, List.map_cons, List.map_nil]); first | done | rfl | (simp only [List.length_drop, List.length_take]; rfl)) ?_; (with_reducible refine (fixed_Read.calls x12_3 t115 t116 t117 _ A74.out).mono ?_); rintro e w81 ⟨rfl, hb⟩; refine ⟨_, rfl, ?_⟩; have n0_ := Aside0.mk (blk_below (g := gb101) (o := .cells #[.int .i64 (wrap64 (Int.tdiv (wrap64 (a0)) 32)), .int .i64 (Int.tmod (wrap64 (a1)) 4)] 27 (0, 0)) (by (with_reducible repeat (first | refine blk_drewN ?_ _ | refine blk_drew ?_ | refine blk_alloc ?_ _)); exact BK101.out) hb); have n1_ := Aside0.mk (blk_below (g := gb107) (o := .cells #[.int .i64 t104, .int .i64 t105] 27 (0, 0)) (by (with_reducible repeat (first | refine blk_drewN ?_ _ | refine blk_drew ?_ | refine blk_alloc ?_ _)); exact BK107.out) hb); have n2_ := Aside0.mk (below_step (by repeat (first | (with_reducible first | exact HB.out | apply below_alloc | apply pw_below_drewN | apply below_drew1 | refine below_set ?_ GE101.out | refine below_set ?_ GE107.out) | exact HB.out)) hb); clear BK101; clear BK107; clear HB; have BK101 := n0_; have BK107 := n1_; have HB := n2_; clear n0_ n1_ n2_; (try clear hb); (try clear hb2); (try clear hk); (try clear hi)) | ((with_reducible refine gate_dst (N := 15) rfl ?_); refine box_event ?hg (N := 15) ?hd (cs := #[.int .i64 0, .int .i64 0]) (t := 27) ?hr ?_; (case hd => rfl); (case hg => rfl); (case hr => first | (go_simp; done) | (go_simp; rfl)); intro gb118 hg w82 hbox hb; have n0_ := Aside0.mk (blk_below (g := gb101) (o := .cells #[.int .i64 (wrap64 (Int.tdiv (wrap64 (a0)) 32)), .int .i64 (Int.tmod (wrap64 (a1)) 4)] 27 (0, 0)) (by (with_reducible repeat (first | refine blk_drewN ?_ _ | refine blk_drew ?_ | refine blk_alloc ?_ _)); exact BK101.out) hb); have n1_ := Aside0.mk (blk_below (g := gb107) (o := .cells #[.int .i64 t104, .int .i64 t105] 27 (0, 0)) (by (with_reducible repeat (first | refine blk_drewN ?_ _ | refine blk_drew ?_ | refine blk_alloc ?_ _)); exact BK107.out) hb); have n2_ := Aside0.mk (below_step (by repeat (first | (with_reducible first | exact HB.out | apply below_alloc | apply pw_below_drewN | apply below_drew1 | refine below_set ?_ GE101.out | refine below_set ?_ GE107.out) | exact HB.out)) hb); have n3_ := Aside0.mk (hbox); have n4_ := Aside0.mk ((by rw [hg]; exact (below_size (by repeat (first | (with_reducible first | exact HB.out | apply below_alloc | apply pw_below_drewN | apply below_drew1 | refine below_set ?_ GE101.out | refine below_set ?_ GE107.out) | exact HB.out))) : w.heap.size ≤ gb118)); have n5_ := Aside0.mk ((by rw [hg]; exact (below_size (by repeat (first | (with_reducible first | exact HB.out | apply below_alloc | apply pw_below_drewN | apply below_drew1 | refine below_set ?_ GE101.out | refine below_set ?_ GE107.out) | exact HB.out))) : w.heap.size ≤ gb118)); have n6_ := Aside0.mk ((by rw [hg]; exact Nat.ne_of_lt (blk_lt (g := gb101) (o := .cells #[.int .i64 (wrap64 (Int.tdiv (wrap64 (a0)) 32)), .int .i64 (Int.tmod (wrap64 (a1)) 4)] 27 (0, 0)) (by (with_reducible repeat (first | refine blk_drewN ?_ _ | refine blk_drew ?_ | refine blk_alloc ?_ _)); exact BK101.out)) : gb101 ≠ gb118)); have n7_ := Aside0.mk ((by rw [hg]; exact Nat.ne_of_gt (blk_lt (g := gb101) (o := .cells #[.int .i64 (wrap64 (Int.tdiv (wrap64 (a0)) 32)), .int .i64 (Int.tmod (wrap64 (a1)) 4)] 27 (0, 0)) (by (with_reducible repeat (first | refine blk_drewN ?_ _ | refine blk_drew ?_ | refine blk_alloc ?_ _)); exact BK101.out)) : gb118 ≠ gb101)); have n8_ := Aside0.mk ((by rw [hg]; exact Nat.ne_of_lt (blk_lt (g := gb107) (o := .cells #[.int .i64 t104, .int .i64 t105] 27 (0, 0)) (by (with_reducible repeat (first | refine blk_drewN ?_ _ | refine blk_drew ?_ | refine blk_alloc ?_ _)); exact BK107.out)) : gb107 ≠ gb118)); have n9_ := Aside0.mk ((by rw [hg]; exact Nat.ne_of_gt (blk_lt (g := gb107) (o := .cells #[.int .i64 t104, .int .i64 t105] 27 (0, 0)) (by (with_reducible repeat (first | refine blk_drewN ?_ _ | refine blk_drew ?_ | refine blk_alloc ?_ _)); exact BK107.out)) : gb118 ≠ gb107)); clear BK101; clear BK107; clear HB; have BK101 := n0_; have BK107 := n1_; have HB := n2_; have BK118 := n3_; have GW118 := n4_; have GE118 := n5_; have NB101_118 := n6_; have NB118_101 := n7_; have NB107_118 := n8_; have NB118_107 := n9_; clear n0_ n1_ n2_ n3_ n4_ n5_ n6_ n7_ n8_ n9_; clear hb hbox hg; have hnb83 := NB118_101.out; have hnc83 := NB101_118.out; have hnb84 := NB118_107.out; have hnc84 := NB107_118.out; have hcz85_0 : w82.cell? ⟨gb118, 0, none⟩ = some (.int .i64 0) := (blk_cell BK118.out 0).trans rfl; have hcz85_1 : w82.cell? ⟨gb118, 1, none⟩ = some (.int .i64 0) := (blk_cell BK118.out 1).trans rfl; have hfz85_0 := blk_frozen BK118.out 0; have hfz85_1 := blk_frozen BK118.out 1))
                            have n0_ : Aside0 (((w82.setCell ⟨gb118, 0, none⟩ (.int .i64 t115)).setCell ⟨gb118, 1, none⟩ (.int .i64 t116)).heap[gb101]? = some (.cells #[.int .i64 (wrap64 (Int.tdiv (wrap64 (a0)) 32)), .int .i64 (Int.tmod (wrap64 (a1)) 4)] 27 (0, 0))) := ⟨by (with_reducible repeat (first | refine blk_drewN ?_ _ | refine blk_drew ?_ | refine blk_alloc ?_ _)); refine blk_far ?_ NB101_118.out _; (with_reducible repeat (first | refine blk_drewN ?_ _ | refine blk_drew ?_ | refine blk_alloc ?_ _)); refine blk_far ?_ NB101_118.out _; (with_reducible repeat (first | refine blk_drewN ?_ _ | refine blk_drew ?_ | refine blk_alloc ?_ _)); exact BK101.out⟩
                            have n1_ : Aside0 (((w82.setCell ⟨gb118, 0, none⟩ (.int .i64 t115)).setCell ⟨gb118, 1, none⟩ (.int .i64 t116)).heap[gb107]? = some (.cells #[.int .i64 t104, .int .i64 t105] 27 (0, 0))) := ⟨by (with_reducible repeat (first | refine blk_drewN ?_ _ | refine blk_drew ?_ | refine blk_alloc ?_ _)); refine blk_far ?_ NB107_118.out _; (with_reducible repeat (first | refine blk_drewN ?_ _ | refine blk_drew ?_ | refine blk_alloc ?_ _)); refine blk_far ?_ NB107_118.out _; (with_reducible repeat (first | refine blk_drewN ?_ _ | refine blk_drew ?_ | refine blk_alloc ?_ _)); exact BK107.out⟩
                            have n2_ : Aside0 (((w82.setCell ⟨gb118, 0, none⟩ (.int .i64 t115)).setCell ⟨gb118, 1, none⟩ (.int .i64 t116)).heap[gb118]? = some (.cells #[.int .i64 t115, .int .i64 t116] 27 (0, 0))) := ⟨by (with_reducible repeat (first | refine blk_drewN ?_ _ | refine blk_drew ?_ | refine blk_alloc ?_ _)); refine blk_put (cs := #[.int .i64 t115, .int .i64 0]) ?_ 1 _ rfl; (with_reducible repeat (first | refine blk_drewN ?_ _ | refine blk_drew ?_ | refine blk_alloc ?_ _)); refine blk_put (cs := #[.int .i64 0, .int .i64 0]) ?_ 0 _ rfl; (with_reducible repeat (first | refine blk_drewN ?_ _ | refine blk_drew ?_ | refine blk_alloc ?_ _)); exact BK118.out⟩
                            have n3_ : Aside0 (Below w.heap.size w ((w82.setCell ⟨gb118, 0, none⟩ (.int .i64 t115)).setCell ⟨gb118, 1, none⟩ (.int .i64 t116))) := ⟨by repeat (first | (with_reducible first | exact HB.out | apply below_alloc | apply pw_below_drewN | apply below_drew1 | refine below_set ?_ GE101.out | refine below_set ?_ GE107.out | refine below_set ?_ GE118.out) | exact HB.out)⟩
                            (try clear BK101)
                            (try clear BK107)
                            (try clear BK118)
                            (try clear HB)
                            generalize ((w82.setCell ⟨gb118, 0, none⟩ (.int .i64 t115)).setCell ⟨gb118, 1, none⟩ (.int .i64 t116)) = w86 at n0_ n1_ n2_ n3_ ⊢
                            have BK101 := n0_
                            have BK107 := n1_
                            have BK118 := n2_
                            have HB := n3_
                            clear n0_ n1_ n2_ n3_
                            have n0_ := Aside0.mk (blk_drew BK101.out)
                            have n1_ := Aside0.mk (blk_drew BK107.out)
                            have n2_ := Aside0.mk (blk_drew BK118.out)
                            have n3_ := Aside0.mk (below_drew1 HB.out)
                            clear BK101
                            clear BK107
                            clear BK118
                            clear HB
                            have BK101 := n0_
                            have BK107 := n1_
                            have BK118 := n2_
                            have HB := n3_
                            clear n0_ n1_ n2_ n3_
                            refine start_ (n := 18) (S := fun w' => w'.cell? ⟨gb107, 0, none⟩ = some (.int .i64 t104) ∧ w'.cell? ⟨gb107, 1, none⟩ = some (.int .i64 t105) ∧ w'.cell? ⟨gb118, 0, none⟩ = some (.int .i64 t115) ∧ w'.cell? ⟨gb118, 1, none⟩ = some (.int .i64 t116) ∧ w'.cell? ⟨gb101, 0, none⟩ = some (.int .i64 (wrap64 (Int.tdiv (wrap64 (a0)) 32))) ∧ w'.cell? ⟨gb101, 1, none⟩ = some (.int .i64 (Int.tmod (wrap64 (a1)) 4))) (ds := []) #[false, false, false, false, false, false, false, false, false, false, false, false, false, false, false, false, false, false] (by kernel_rfl) rfl rfl ⟨(blk_cell BK107.out 0).trans rfl, (blk_cell BK107.out 1).trans rfl, (blk_cell BK118.out 0).trans rfl, (blk_cell BK118.out 1).trans rfl, (blk_cell BK101.out 0).trans rfl, (blk_cell BK101.out 1).trans rfl⟩ (fun hHeld => ?_); refine with_tabW entrepotlaw02_FixedNoughts.tab19 entrepotlaw02_FixedNoughts.bits19 (fun HT_ HW_ => ?_)
                            generalize w86.drew = w87 at BK101 BK107 BK118 HB hHeld ⊢
                            refine pure_ (i := 0) (N := some 76) (v := ?_) (a' := ?_) #[true, false, false, false, false, false, false, false, false, false, false, false, false, false, false, false, false, false] rfl rfl (any_of HT_.out (by kernel_rfl)) (fun _ _ _ h => h) (Or.inl ⟨by rfl, ?_⟩) ?_ ?_
                            rotate_left
                            · intro w'
                              go_simp
                              with_reducible rfl
                            rotate_left
                            · simp only [Act.put, List.setIfInBounds_toArray, List.set_cons_zero, List.set_cons_succ, i64_w, i32_w]
                              rfl
                            refine pure_ (i := 1) (N := some 77) (v := ?_) (a' := ?_) #[true, true, false, false, false, false, false, false, false, false, false, false, false, false, false, false, false, false] rfl rfl (any_of HT_.out (by kernel_rfl)) (fun _ _ _ h => h) (Or.inl ⟨by rfl, ?_⟩) ?_ ?_
                            rotate_left
                            · intro w'
                              go_simp
                              with_reducible rfl
                            rotate_left
                            · simp only [Act.put, List.setIfInBounds_toArray, List.set_cons_zero, List.set_cons_succ, i64_w, i32_w]
                              rfl
                            refine pure_ (i := 2) (N := some 78) (v := ?_) (a' := ?_) #[true, true, true, false, false, false, false, false, false, false, false, false, false, false, false, false, false, false] rfl rfl (any_of HT_.out (by kernel_rfl)) (fun _ _ _ h => h) (Or.inl ⟨by rfl, ?_⟩) ?_ ?_
                            rotate_left
                            · intro w'
                              go_simp
                              with_reducible rfl
                            rotate_left
                            · simp only [Act.put, List.setIfInBounds_toArray, List.set_cons_zero, List.set_cons_succ, i64_w, i32_w]
                              rfl
                            refine pure_ (i := 3) (N := some 79) (v := ?_) (a' := ?_) #[true, true, true, true, false, false, false, false, false, false, false, false, false, false, false, false, false, false] rfl rfl (any_of HT_.out (by kernel_rfl)) (fun _ _ _ h => h) (Or.inl ⟨by rfl, ?_⟩) ?_ ?_
                            rotate_left
                            · intro w'
                              go_simp
                              with_reducible rfl
                            rotate_left
                            · simp only [Act.put, List.setIfInBounds_toArray, List.set_cons_zero, List.set_cons_succ, i64_w, i32_w]
                              rfl
                            refine pure_ (i := 4) (N := some 80) (v := ?_) (a' := ?_) #[true, true, true, true, true, false, false, false, false, false, false, false, false, false, false, false, false, false] rfl rfl (any_of HT_.out (by kernel_rfl)) (fun _ _ _ h => h) (Or.inl ⟨by rfl, ?_⟩) ?_ ?_
                            rotate_left
                            · intro w'
                              go_simp
                              with_reducible rfl
                            rotate_left
                            · simp only [Act.put, List.setIfInBounds_toArray, List.set_cons_zero, List.set_cons_succ, i64_w, i32_w]
                              rfl
                            refine pure_ (i := 5) (N := some 81) (v := ?_) (a' := ?_) #[true, true, true, true, true, true, false, false, false, false, false, false, false, false, false, false, false, false] rfl rfl (any_of HT_.out (by kernel_rfl)) (fun _ _ _ h => h) (Or.inl ⟨by rfl, ?_⟩) ?_ ?_
                            rotate_left
                            · intro w'
                              go_simp
                              with_reducible rfl
                            rotate_left
                            · simp only [Act.put, List.setIfInBounds_toArray, List.set_cons_zero, List.set_cons_succ, i64_w, i32_w]
                              rfl
                            refine pure_ (i := 6) (N := some 82) (v := ?_) (a' := ?_) #[true, true, true, true, true, true, true, false, false, false, false, false, false, false, false, false, false, false] rfl rfl (any_of HT_.out (by kernel_rfl)) (fun _ _ _ h => h) (Or.inl ⟨by rfl, ?_⟩) ?_ ?_
                            rotate_left
                            · intro w'
                              go_simp
                              with_reducible rfl
                            rotate_left
                            · simp only [Act.put, List.setIfInBounds_toArray, List.set_cons_zero, List.set_cons_succ, i64_w, i32_w]
                              rfl
                            refine take_ (i := 7) (N := some 83) (v := ?_) (a' := ?_) #[true, true, true, true, true, true, true, true, false, false, false, false, false, false, false, false, false, false] rfl rfl (take_ofW HT_.out HW_.out (by kernel_rfl)) (fun _ _ _ h => h) (Or.inl ⟨by rfl, ?_⟩) hHeld ?_ ?_
                            rotate_left
                            · rintro w' ⟨s0, s1, s2, s3, s4, s5⟩
                              go_simp
                              with_reducible rfl
                            rotate_left
                            · simp only [Act.put, List.setIfInBounds_toArray, List.set_cons_zero, List.set_cons_succ, i64_w, i32_w]
                              rfl
                            refine take_ (i := 8) (N := some 84) (v := ?_) (a' := ?_) #[true, true, true, true, true, true, true, true, true, false, false, false, false, false, false, false, false, false] rfl rfl (take_ofW HT_.out HW_.out (by kernel_rfl)) (fun _ _ _ h => h) (Or.inl ⟨by rfl, ?_⟩) hHeld ?_ ?_
                            rotate_left
                            · rintro w' ⟨s0, s1, s2, s3, s4, s5⟩
                              go_simp
                              with_reducible rfl
                            rotate_left
                            · simp only [Act.put, List.setIfInBounds_toArray, List.set_cons_zero, List.set_cons_succ, i64_w, i32_w]
                              rfl
                            refine pure_ (i := 9) (N := some 85) (v := ?_) (a' := ?_) #[true, true, true, true, true, true, true, true, true, true, false, false, false, false, false, false, false, false] rfl rfl (any_of HT_.out (by kernel_rfl)) (fun _ _ _ h => h) (Or.inl ⟨by rfl, ?_⟩) ?_ ?_
                            rotate_left
                            · intro w'
                              go_simp
                              with_reducible rfl
                            rotate_left
                            · simp only [Act.put, List.setIfInBounds_toArray, List.set_cons_zero, List.set_cons_succ, i64_w, i32_w]
                              rfl
                            refine pure_ (i := 10) (N := some 86) (v := ?_) (a' := ?_) #[true, true, true, true, true, true, true, true, true, true, true, false, false, false, false, false, false, false] rfl rfl (any_of HT_.out (by kernel_rfl)) (fun _ _ _ h => h) (Or.inl ⟨by rfl, ?_⟩) ?_ ?_
                            rotate_left
                            · intro w'
                              go_simp
                              with_reducible rfl
                            rotate_left
                            · simp only [Act.put, List.setIfInBounds_toArray, List.set_cons_zero, List.set_cons_succ, i64_w, i32_w]
                              rfl
                            refine pure_ (i := 11) (N := some 87) (v := ?_) (a' := ?_) #[true, true, true, true, true, true, true, true, true, true, true, true, false, false, false, false, false, false] rfl rfl (any_of HT_.out (by kernel_rfl)) (fun _ _ _ h => h) (Or.inl ⟨by rfl, ?_⟩) ?_ ?_
                            rotate_left
                            · intro w'
                              go_simp
                              with_reducible rfl
                            rotate_left
                            · simp only [Act.put, List.setIfInBounds_toArray, List.set_cons_zero, List.set_cons_succ, i64_w, i32_w]
                              rfl
                            refine take_ (i := 12) (N := some 88) (v := ?_) (a' := ?_) #[true, true, true, true, true, true, true, true, true, true, true, true, true, false, false, false, false, false] rfl rfl (take_ofW HT_.out HW_.out (by kernel_rfl)) (fun _ _ _ h => h) (Or.inl ⟨by rfl, ?_⟩) hHeld ?_ ?_
                            rotate_left
                            · rintro w' ⟨s0, s1, s2, s3, s4, s5⟩
                              go_simp
                              with_reducible rfl
                            rotate_left
                            · simp only [Act.put, List.setIfInBounds_toArray, List.set_cons_zero, List.set_cons_succ, i64_w, i32_w]
                              rfl
                            refine take_ (i := 13) (N := some 89) (v := ?_) (a' := ?_) #[true, true, true, true, true, true, true, true, true, true, true, true, true, true, false, false, false, false] rfl rfl (take_ofW HT_.out HW_.out (by kernel_rfl)) (fun _ _ _ h => h) (Or.inl ⟨by rfl, ?_⟩) hHeld ?_ ?_
                            rotate_left
                            · rintro w' ⟨s0, s1, s2, s3, s4, s5⟩
                              go_simp
                              with_reducible rfl
                            rotate_left
                            · simp only [Act.put, List.setIfInBounds_toArray, List.set_cons_zero, List.set_cons_succ, i64_w, i32_w]
                              rfl
                            refine one_ (i := 14) (N := some 90) #[true, true, true, true, true, true, true, true, true, true, true, true, true, true, true, false, false, false] rfl rfl (one_of HT_.out (by kernel_rfl)) (by decide) (fun K hK => ?_)
                            refine goes_ Tryd.func18 (by kernel_rfl) rfl #[.agg #[.int .i64 (wrap64 (Int.tdiv (wrap64 (a0)) 32)), .int .i64 (Int.tmod (wrap64 (a1)) 4)]] (by rfl) rfl rfl (by (try simp only [List.map_toArray, List.map_cons, List.map_nil]); first | done | rfl | (simp only [List.length_drop, List.length_take]; rfl)) ?_
                            with_reducible refine (fixed_Least.calls k3 (wrap64 (Int.tdiv (wrap64 (a0)) 32)) (Int.tmod (wrap64 (a1)) 4) t119 t120 _ A78.out).mono ?_
                            rintro e w88 ⟨rfl, hb⟩
                            refine ⟨_, rfl, ?_⟩
                            have n0_ := Aside0.mk (blk_below (g := gb101) (o := .cells #[.int .i64 (wrap64 (Int.tdiv (wrap64 (a0)) 32)), .int .i64 (Int.tmod (wrap64 (a1)) 4)] 27 (0, 0)) (by (with_reducible repeat (first | refine blk_drewN ?_ _ | refine blk_drew ?_ | refine blk_alloc ?_ _)); exact BK101.out) hb)
                            have n1_ := Aside0.mk (blk_below (g := gb107) (o := .cells #[.int .i64 t104, .int .i64 t105] 27 (0, 0)) (by (with_reducible repeat (first | refine blk_drewN ?_ _ | refine blk_drew ?_ | refine blk_alloc ?_ _)); exact BK107.out) hb)
                            have n2_ := Aside0.mk (blk_below (g := gb118) (o := .cells #[.int .i64 t115, .int .i64 t116] 27 (0, 0)) (by (with_reducible repeat (first | refine blk_drewN ?_ _ | refine blk_drew ?_ | refine blk_alloc ?_ _)); exact BK118.out) hb)
                            have n3_ := Aside0.mk (below_step (by repeat (first | (with_reducible first | exact HB.out | apply below_alloc | apply pw_below_drewN | apply below_drew1 | refine below_set ?_ GE101.out | refine below_set ?_ GE107.out | refine below_set ?_ GE118.out) | exact HB.out)) hb)
                            clear BK101
                            clear BK107
                            clear BK118
                            clear HB
                            have BK101 := n0_
                            have BK107 := n1_
                            have BK118 := n2_
                            have HB := n3_
                            clear n0_ n1_ n2_ n3_
                            (try clear hb)
                            (try clear hb2)
                            (try clear hk)
                            (try clear hi)
                            refine hK.out _ _ ⟨(blk_cell BK107.out 0).trans rfl, (blk_cell BK107.out 1).trans rfl, (blk_cell BK118.out 0).trans rfl, (blk_cell BK118.out 1).trans rfl, (blk_cell BK101.out 0).trans rfl, (blk_cell BK101.out 1).trans rfl⟩ (fun hHeld => ?_)
                            clear hK K
                            refine norm_ (a' := ?_) ?_ ?_
                            rotate_left
                            · show Act.put _ (some 90) _ = _
                              simp only [Act.put, List.setIfInBounds_toArray, List.set_cons_zero, List.set_cons_succ, i64_w, i32_w]
                              rfl
                            refine pure_ (i := 15) (N := some 91) (v := ?_) (a' := ?_) #[true, true, true, true, true, true, true, true, true, true, true, true, true, true, true, true, false, false] rfl rfl (any_of HT_.out (by kernel_rfl)) (fun _ _ _ h => h) (Or.inl ⟨by rfl, ?_⟩) ?_ ?_
                            rotate_left
                            · intro w'
                              go_simp
                              with_reducible rfl
                            rotate_left
                            · simp only [Act.put, List.setIfInBounds_toArray, List.set_cons_zero, List.set_cons_succ, i64_w, i32_w]
                              rfl
                            refine pure_ (i := 16) (N := some 92) (v := ?_) (a' := ?_) #[true, true, true, true, true, true, true, true, true, true, true, true, true, true, true, true, true, false] rfl rfl (any_of HT_.out (by kernel_rfl)) (fun _ _ _ h => h) (Or.inl ⟨by rfl, ?_⟩) ?_ ?_
                            rotate_left
                            · intro w'
                              go_simp
                              with_reducible rfl
                            rotate_left
                            · simp only [Act.put, List.setIfInBounds_toArray, List.set_cons_zero, List.set_cons_succ, i64_w, i32_w]
                              rfl
                            refine pure_ (i := 17) (N := some 8) (v := ?_) (a' := ?_) #[true, true, true, true, true, true, true, true, true, true, true, true, true, true, true, true, true, true] rfl rfl (any_of HT_.out (by kernel_rfl)) (fun _ _ _ h => h) (Or.inl ⟨by rfl, ?_⟩) ?_ ?_
                            rotate_left
                            · intro w'
                              go_simp
                              with_reducible rfl
                            rotate_left
                            · simp only [Act.put, List.setIfInBounds_toArray, List.set_cons_zero, List.set_cons_succ, i64_w, i32_w]
                              rfl
                            refine done_ (done_of HT_.out (by kernel_rfl)) ?_
                            try go_wp2
                            go_ret
                            exact ⟨by first | rfl | (simp [errW_none, errW_some] <;> rfl) | (simp only [← hji9]; first | rfl | (simp [errW_none, errW_some] <;> rfl)) | (simp [*, errW_none, errW_some] <;> rfl), by repeat (first | (with_reducible first | exact HB.out | apply below_alloc | apply pw_below_drewN | apply below_drew1 | refine below_set ?_ GE101.out | refine below_set ?_ GE107.out | refine below_set ?_ GE118.out) | exact HB.out)⟩
                          · rw [if_neg c77] at H
                            have c77b0 : (t104 == t115 && (t105 == t116)) = false := by simpa using c77
                            (try (have c77b1 : decide (t104 = t115 && (t105 == t116)) = false := by simpa using c77))
                            (try (have c77b2 : (t104 == t115 && (t105 == t116)) = false := by simpa using c77))
                            (try (have c77b3 : ¬ (t104 = t115 && (t105 == t116)) := by simpa using c77))
                            clear c77
                            obtain rfl := Option.some.inj H
                            have hnb89 := NB101_107.out
                            have hnc89 := NB107_101.out
                            have hcz90_0 : wr.cell? ⟨gb101, 0, none⟩ = some (.int .i64 (wrap64 (Int.tdiv (wrap64 (a0)) 32))) := (blk_cell BK101.out 0).trans rfl
                            have hcz90_1 : wr.cell? ⟨gb101, 1, none⟩ = some (.int .i64 (Int.tmod (wrap64 (a1)) 4)) := (blk_cell BK101.out 1).trans rfl
                            have hfz90_0 := blk_frozen BK101.out 0
                            have hfz90_1 := blk_frozen BK101.out 1
                            try go_wp2_with (first | ((with_reducible refine gate_callee (f := 13) rfl ?_); refine goesL_ (some 73) rfl rfl Tryd.func13 (by kernel_rfl) rfl #[.string x12_3] rfl (by (try simp only [List.map_toArray, List.map_cons, List.map_nil]); first | done | rfl | (simp only [List.length_drop, List.length_take]; rfl)) ?_; (with_reducible refine (fixed_Read.calls x12_3 t115 t116 t117 _ A74.out).mono ?_); rintro e w91 ⟨rfl, hb⟩; refine ⟨_, rfl, ?_⟩; have n0_ := Aside0.mk (blk_below (g := gb101) (o := .cells #[.int .i64 (wrap64 (Int.tdiv (wrap64 (a0)) 32)), .int .i64 (Int.tmod (wrap64 (a1)) 4)] 27 (0, 0)) (by (with_reducible repeat (first | refine blk_drewN ?_ _ | refine blk_drew ?_ | refine blk_alloc ?_ _)); exact BK101.out) hb); have n1_ := Aside0.mk (blk_below (g := gb107) (o := .cells #[.int .i64 t104, .int .i64 t105] 27 (0, 0)) (by (with_reducible repeat (first | refine blk_drewN ?_ _ | refine blk_drew ?_ | refine blk_alloc ?_ _)); exact BK107.out) hb); have n2_ := Aside0.mk (below_step (by repeat (first | (with_reducible first | exact HB.out | apply below_alloc | apply pw_below_drewN | apply below_drew1 | refine below_set ?_ GE101.out | refine below_set ?_ GE107.out) | exact HB.out)) hb); clear BK101; clear BK107; clear HB; have BK101 := n0_; have BK107 := n1_; have HB := n2_; clear n0_ n1_ n2_; (try clear hb); (try clear hb2); (try clear hk); (try clear hi)) | ((with_reducible refine gate_dst (N := 15) rfl ?_); refine box_event ?hg (N := 15) ?hd (cs := #[.int .i64 0, .int .i64 0]) (t := 27) ?hr ?_; (case hd => rfl); (case hg => rfl); (case hr => first | (go_simp; done) | (go_simp; rfl)); intro gb118 hg w92 hbox hb; have n0_ := Aside0.mk (blk_below (g := gb101) (o := .cells #[.int .i64 (wrap64 (Int.tdiv (wrap64 (a0)) 32)), .int .i64 (Int.tmod (wrap64 (a1)) 4)] 27 (0, 0)) (by (with_reducible repeat (first | refine blk_drewN ?_ _ | refine blk_drew ?_ | refine blk_alloc ?_ _)); exact BK101.out) hb); have n1_ := Aside0.mk (blk_below (g := gb107) (o := .cells #[.int .i64 t104, .int .i64 t105] 27 (0, 0)) (by (with_reducible repeat (first | refine blk_drewN ?_ _ | refine blk_drew ?_ | refine blk_alloc ?_ _)); exact BK107.out) hb); have n2_ := Aside0.mk (below_step (by repeat (first | (with_reducible first | exact HB.out | apply below_alloc | apply pw_below_drewN | apply below_drew1 | refine below_set ?_ GE101.out | refine below_set ?_ GE107.out) | exact HB.out)) hb); have n3_ := Aside0.mk (hbox); have n4_ := Aside0.mk ((by rw [hg]; exact (below_size (by repeat (first | (with_reducible first | exact HB.out | apply below_alloc | apply pw_below_drewN | apply below_drew1 | refine below_set ?_ GE101.out | refine below_set ?_ GE107.out) | exact HB.out))) : w.heap.size ≤ gb118)); have n5_ := Aside0.mk ((by rw [hg]; exact (below_size (by repeat (first | (with_reducible first | exact HB.out | apply below_alloc | apply pw_below_drewN | apply below_drew1 | refine below_set ?_ GE101.out | refine below_set ?_ GE107.out) | exact HB.out))) : w.heap.size ≤ gb118)); have n6_ := Aside0.mk ((by rw [hg]; exact Nat.ne_of_lt (blk_lt (g := gb101) (o := .cells #[.int .i64 (wrap64 (Int.tdiv (wrap64 (a0)) 32)), .int .i64 (Int.tmod (wrap64 (a1)) 4)] 27 (0, 0)) (by (with_reducible repeat (first | refine blk_drewN ?_ _ | refine blk_drew ?_ | refine blk_alloc ?_ _)); exact BK101.out)) : gb101 ≠ gb118)); have n7_ := Aside0.mk ((by rw [hg]; exact Nat.ne_of_gt (blk_lt (g := gb101) (o := .cells #[.int .i64 (wrap64 (Int.tdiv (wrap64 (a0)) 32)), .int .i64 (Int.tmod (wrap64 (a1)) 4)] 27 (0, 0)) (by (with_reducible repeat (first | refine blk_drewN ?_ _ | refine blk_drew ?_ | refine blk_alloc ?_ _)); exact BK101.out)) : gb118 ≠ gb101)); have n8_ := Aside0.mk ((by rw [hg]; exact Nat.ne_of_lt (blk_lt (g := gb107) (o := .cells #[.int .i64 t104, .int .i64 t105] 27 (0, 0)) (by (with_reducible repeat (first | refine blk_drewN ?_ _ | refine blk_drew ?_ | refine blk_alloc ?_ _)); exact BK107.out)) : gb107 ≠ gb118)); have n9_ := Aside0.mk ((by rw [hg]; exact Nat.ne_of_gt (blk_lt (g := gb107) (o := .cells #[.int .i64 t104, .int .i64 t105] 27 (0, 0)) (by (with_reducible repeat (first | refine blk_drewN ?_ _ | refine blk_drew ?_ | refine blk_alloc ?_ _)); exact BK107.out)) : gb118 ≠ gb107)); clear BK101; clear BK107; clear HB; have BK101 := n0_; have BK107 := n1_; have HB := n2_; have BK118 := n3_; have GW118 := n4_; have GE118 := n5_; have NB101_118 := n6_; have NB118_101 := n7_; have NB107_118 := n8_; have NB118_107 := n9_; clear n0_ n1_ n2_ n3_ n4_ n5_ n6_ n7_ n8_ n9_; clear hb hbox hg; have hnb93 := NB118_101.out; have hnc93 := NB101_118.out; have hnb94 := NB118_107.out; have hnc94 := NB107_118.out; have hcz95_0 : w92.cell? ⟨gb118, 0, none⟩ = some (.int .i64 0) := (blk_cell BK118.out 0).trans rfl; have hcz95_1 : w92.cell? ⟨gb118, 1, none⟩ = some (.int .i64 0) := (blk_cell BK118.out 1).trans rfl; have hfz95_0 := blk_frozen BK118.out 0; have hfz95_1 := blk_frozen BK118.out 1))
                            have n0_ : Aside0 (((w92.setCell ⟨gb118, 0, none⟩ (.int .i64 t115)).setCell ⟨gb118, 1, none⟩ (.int .i64 t116)).heap[gb101]? = some (.cells #[.int .i64 (wrap64 (Int.tdiv (wrap64 (a0)) 32)), .int .i64 (Int.tmod (wrap64 (a1)) 4)] 27 (0, 0))) := ⟨by (with_reducible repeat (first | refine blk_drewN ?_ _ | refine blk_drew ?_ | refine blk_alloc ?_ _)); refine blk_far ?_ NB101_118.out _; (with_reducible repeat (first | refine blk_drewN ?_ _ | refine blk_drew ?_ | refine blk_alloc ?_ _)); refine blk_far ?_ NB101_118.out _; (with_reducible repeat (first | refine blk_drewN ?_ _ | refine blk_drew ?_ | refine blk_alloc ?_ _)); exact BK101.out⟩
                            have n1_ : Aside0 (((w92.setCell ⟨gb118, 0, none⟩ (.int .i64 t115)).setCell ⟨gb118, 1, none⟩ (.int .i64 t116)).heap[gb107]? = some (.cells #[.int .i64 t104, .int .i64 t105] 27 (0, 0))) := ⟨by (with_reducible repeat (first | refine blk_drewN ?_ _ | refine blk_drew ?_ | refine blk_alloc ?_ _)); refine blk_far ?_ NB107_118.out _; (with_reducible repeat (first | refine blk_drewN ?_ _ | refine blk_drew ?_ | refine blk_alloc ?_ _)); refine blk_far ?_ NB107_118.out _; (with_reducible repeat (first | refine blk_drewN ?_ _ | refine blk_drew ?_ | refine blk_alloc ?_ _)); exact BK107.out⟩
                            have n2_ : Aside0 (((w92.setCell ⟨gb118, 0, none⟩ (.int .i64 t115)).setCell ⟨gb118, 1, none⟩ (.int .i64 t116)).heap[gb118]? = some (.cells #[.int .i64 t115, .int .i64 t116] 27 (0, 0))) := ⟨by (with_reducible repeat (first | refine blk_drewN ?_ _ | refine blk_drew ?_ | refine blk_alloc ?_ _)); refine blk_put (cs := #[.int .i64 t115, .int .i64 0]) ?_ 1 _ rfl; (with_reducible repeat (first | refine blk_drewN ?_ _ | refine blk_drew ?_ | refine blk_alloc ?_ _)); refine blk_put (cs := #[.int .i64 0, .int .i64 0]) ?_ 0 _ rfl; (with_reducible repeat (first | refine blk_drewN ?_ _ | refine blk_drew ?_ | refine blk_alloc ?_ _)); exact BK118.out⟩
                            have n3_ : Aside0 (Below w.heap.size w ((w92.setCell ⟨gb118, 0, none⟩ (.int .i64 t115)).setCell ⟨gb118, 1, none⟩ (.int .i64 t116))) := ⟨by repeat (first | (with_reducible first | exact HB.out | apply below_alloc | apply pw_below_drewN | apply below_drew1 | refine below_set ?_ GE101.out | refine below_set ?_ GE107.out | refine below_set ?_ GE118.out) | exact HB.out)⟩
                            (try clear BK101)
                            (try clear BK107)
                            (try clear BK118)
                            (try clear HB)
                            generalize ((w92.setCell ⟨gb118, 0, none⟩ (.int .i64 t115)).setCell ⟨gb118, 1, none⟩ (.int .i64 t116)) = w96 at n0_ n1_ n2_ n3_ ⊢
                            have BK101 := n0_
                            have BK107 := n1_
                            have BK118 := n2_
                            have HB := n3_
                            clear n0_ n1_ n2_ n3_
                            have n0_ := Aside0.mk (blk_drew BK101.out)
                            have n1_ := Aside0.mk (blk_drew BK107.out)
                            have n2_ := Aside0.mk (blk_drew BK118.out)
                            have n3_ := Aside0.mk (below_drew1 HB.out)
                            clear BK101
                            clear BK107
                            clear BK118
                            clear HB
                            have BK101 := n0_
                            have BK107 := n1_
                            have BK118 := n2_
                            have HB := n3_
                            clear n0_ n1_ n2_ n3_
                            refine start_ (n := 18) (S := fun w' => w'.cell? ⟨gb107, 0, none⟩ = some (.int .i64 t104) ∧ w'.cell? ⟨gb107, 1, none⟩ = some (.int .i64 t105) ∧ w'.cell? ⟨gb118, 0, none⟩ = some (.int .i64 t115) ∧ w'.cell? ⟨gb118, 1, none⟩ = some (.int .i64 t116)) (ds := []) #[false, false, false, false, false, false, false, false, false, false, false, false, false, false, false, false, false, false] (by kernel_rfl) rfl rfl ⟨(blk_cell BK107.out 0).trans rfl, (blk_cell BK107.out 1).trans rfl, (blk_cell BK118.out 0).trans rfl, (blk_cell BK118.out 1).trans rfl⟩ (fun hHeld => ?_); refine with_tabW entrepotlaw02_FixedNoughts.tab19 entrepotlaw02_FixedNoughts.bits19 (fun HT_ HW_ => ?_)
                            generalize w96.drew = w97 at BK101 BK107 BK118 HB hHeld ⊢
                            refine pure_ (i := 0) (N := some 76) (v := ?_) (a' := ?_) #[true, false, false, false, false, false, false, false, false, false, false, false, false, false, false, false, false, false] rfl rfl (any_of HT_.out (by kernel_rfl)) (fun _ _ _ h => h) (Or.inl ⟨by rfl, ?_⟩) ?_ ?_
                            rotate_left
                            · intro w'
                              go_simp
                              with_reducible rfl
                            rotate_left
                            · simp only [Act.put, List.setIfInBounds_toArray, List.set_cons_zero, List.set_cons_succ, i64_w, i32_w]
                              rfl
                            refine pure_ (i := 1) (N := some 77) (v := ?_) (a' := ?_) #[true, true, false, false, false, false, false, false, false, false, false, false, false, false, false, false, false, false] rfl rfl (any_of HT_.out (by kernel_rfl)) (fun _ _ _ h => h) (Or.inl ⟨by rfl, ?_⟩) ?_ ?_
                            rotate_left
                            · intro w'
                              go_simp
                              with_reducible rfl
                            rotate_left
                            · simp only [Act.put, List.setIfInBounds_toArray, List.set_cons_zero, List.set_cons_succ, i64_w, i32_w]
                              rfl
                            refine pure_ (i := 2) (N := some 78) (v := ?_) (a' := ?_) #[true, true, true, false, false, false, false, false, false, false, false, false, false, false, false, false, false, false] rfl rfl (any_of HT_.out (by kernel_rfl)) (fun _ _ _ h => h) (Or.inl ⟨by rfl, ?_⟩) ?_ ?_
                            rotate_left
                            · intro w'
                              go_simp
                              with_reducible rfl
                            rotate_left
                            · simp only [Act.put, List.setIfInBounds_toArray, List.set_cons_zero, List.set_cons_succ, i64_w, i32_w]
                              rfl
                            refine pure_ (i := 3) (N := some 79) (v := ?_) (a' := ?_) #[true, true, true, true, false, false, false, false, false, false, false, false, false, false, false, false, false, false] rfl rfl (any_of HT_.out (by kernel_rfl)) (fun _ _ _ h => h) (Or.inl ⟨by rfl, ?_⟩) ?_ ?_
                            rotate_left
                            · intro w'
                              go_simp
                              with_reducible rfl
                            rotate_left
                            · simp only [Act.put, List.setIfInBounds_toArray, List.set_cons_zero, List.set_cons_succ, i64_w, i32_w]
                              rfl
                            refine pure_ (i := 4) (N := some 80) (v := ?_) (a' := ?_) #[true, true, true, true, true, false, false, false, false, false, false, false, false, false, false, false, false, false] rfl rfl (any_of HT_.out (by kernel_rfl)) (fun _ _ _ h => h) (Or.inl ⟨by rfl, ?_⟩) ?_ ?_
                            rotate_left
                            · intro w'
                              go_simp
                              with_reducible rfl
                            rotate_left
                            · simp only [Act.put, List.setIfInBounds_toArray, List.set_cons_zero, List.set_cons_succ, i64_w, i32_w]
                              rfl
                            refine pure_ (i := 5) (N := some 81) (v := ?_) (a' := ?_) #[true, true, true, true, true, true, false, false, false, false, false, false, false, false, false, false, false, false] rfl rfl (any_of HT_.out (by kernel_rfl)) (fun _ _ _ h => h) (Or.inl ⟨by rfl, ?_⟩) ?_ ?_
                            rotate_left
                            · intro w'
                              go_simp
                              with_reducible rfl
                            rotate_left
                            · simp only [Act.put, List.setIfInBounds_toArray, List.set_cons_zero, List.set_cons_succ, i64_w, i32_w]
                              rfl
                            refine pure_ (i := 6) (N := some 82) (v := ?_) (a' := ?_) #[true, true, true, true, true, true, true, false, false, false, false, false, false, false, false, false, false, false] rfl rfl (any_of HT_.out (by kernel_rfl)) (fun _ _ _ h => h) (Or.inl ⟨by rfl, ?_⟩) ?_ ?_
                            rotate_left
                            · intro w'
                              go_simp
                              with_reducible rfl
                            rotate_left
                            · simp only [Act.put, List.setIfInBounds_toArray, List.set_cons_zero, List.set_cons_succ, i64_w, i32_w]
                              rfl
                            refine take_ (i := 7) (N := some 83) (v := ?_) (a' := ?_) #[true, true, true, true, true, true, true, true, false, false, false, false, false, false, false, false, false, false] rfl rfl (take_ofW HT_.out HW_.out (by kernel_rfl)) (fun _ _ _ h => h) (Or.inl ⟨by rfl, ?_⟩) hHeld ?_ ?_
                            rotate_left
                            · rintro w' ⟨s0, s1, s2, s3⟩
                              go_simp
                              with_reducible rfl
                            rotate_left
                            · simp only [Act.put, List.setIfInBounds_toArray, List.set_cons_zero, List.set_cons_succ, i64_w, i32_w]
                              rfl
                            refine take_ (i := 8) (N := some 84) (v := ?_) (a' := ?_) #[true, true, true, true, true, true, true, true, true, false, false, false, false, false, false, false, false, false] rfl rfl (take_ofW HT_.out HW_.out (by kernel_rfl)) (fun _ _ _ h => h) (Or.inl ⟨by rfl, ?_⟩) hHeld ?_ ?_
                            rotate_left
                            · rintro w' ⟨s0, s1, s2, s3⟩
                              go_simp
                              with_reducible rfl
                            rotate_left
                            · simp only [Act.put, List.setIfInBounds_toArray, List.set_cons_zero, List.set_cons_succ, i64_w, i32_w]
                              rfl
                            refine pure_ (i := 9) (N := some 85) (v := ?_) (a' := ?_) #[true, true, true, true, true, true, true, true, true, true, false, false, false, false, false, false, false, false] rfl rfl (any_of HT_.out (by kernel_rfl)) (fun _ _ _ h => h) (Or.inl ⟨by rfl, ?_⟩) ?_ ?_
                            rotate_left
                            · intro w'
                              go_simp
                              with_reducible rfl
                            rotate_left
                            · simp only [Act.put, List.setIfInBounds_toArray, List.set_cons_zero, List.set_cons_succ, i64_w, i32_w]
                              rfl
                            refine pure_ (i := 10) (N := some 86) (v := ?_) (a' := ?_) #[true, true, true, true, true, true, true, true, true, true, true, false, false, false, false, false, false, false] rfl rfl (any_of HT_.out (by kernel_rfl)) (fun _ _ _ h => h) (Or.inl ⟨by rfl, ?_⟩) ?_ ?_
                            rotate_left
                            · intro w'
                              go_simp
                              with_reducible rfl
                            rotate_left
                            · simp only [Act.put, List.setIfInBounds_toArray, List.set_cons_zero, List.set_cons_succ, i64_w, i32_w]
                              rfl
                            refine pure_ (i := 11) (N := some 87) (v := ?_) (a' := ?_) #[true, true, true, true, true, true, true, true, true, true, true, true, false, false, false, false, false, false] rfl rfl (any_of HT_.out (by kernel_rfl)) (fun _ _ _ h => h) (Or.inl ⟨by rfl, ?_⟩) ?_ ?_
                            rotate_left
                            · intro w'
                              go_simp
                              with_reducible rfl
                            rotate_left
                            · simp only [Act.put, List.setIfInBounds_toArray, List.set_cons_zero, List.set_cons_succ, i64_w, i32_w]
                              rfl
                            refine pure_ (i := 12) (N := some 88) (v := undef) (a' := ?_) #[true, true, true, true, true, true, true, true, true, true, true, true, true, false, false, false, false, false] rfl rfl (any_of HT_.out (by kernel_rfl)) (fun _ _ _ h => h) (Or.inr ⟨by rfl, rfl⟩) ?_ ?_
                            rotate_left
                            · simp only [Act.put, List.setIfInBounds_toArray, List.set_cons_zero, List.set_cons_succ, i64_w, i32_w]
                              rfl
                            refine pure_ (i := 13) (N := some 89) (v := undef) (a' := ?_) #[true, true, true, true, true, true, true, true, true, true, true, true, true, true, false, false, false, false] rfl rfl (any_of HT_.out (by kernel_rfl)) (fun _ _ _ h => h) (Or.inr ⟨by rfl, rfl⟩) ?_ ?_
                            rotate_left
                            · simp only [Act.put, List.setIfInBounds_toArray, List.set_cons_zero, List.set_cons_succ, i64_w, i32_w]
                              rfl
                            refine pure_ (i := 14) (N := some 90) (v := undef) (a' := ?_) #[true, true, true, true, true, true, true, true, true, true, true, true, true, true, true, false, false, false] rfl rfl (any_of HT_.out (by kernel_rfl)) (fun _ _ _ h => h) (Or.inr ⟨by rfl, rfl⟩) ?_ ?_
                            rotate_left
                            · simp only [Act.put, List.setIfInBounds_toArray, List.set_cons_zero, List.set_cons_succ, i64_w, i32_w]
                              rfl
                            refine pure_ (i := 15) (N := some 91) (v := undef) (a' := ?_) #[true, true, true, true, true, true, true, true, true, true, true, true, true, true, true, true, false, false] rfl rfl (any_of HT_.out (by kernel_rfl)) (fun _ _ _ h => h) (Or.inr ⟨by rfl, rfl⟩) ?_ ?_
                            rotate_left
                            · simp only [Act.put, List.setIfInBounds_toArray, List.set_cons_zero, List.set_cons_succ, i64_w, i32_w]
                              rfl
                            refine pure_ (i := 16) (N := some 92) (v := ?_) (a' := ?_) #[true, true, true, true, true, true, true, true, true, true, true, true, true, true, true, true, true, false] rfl rfl (any_of HT_.out (by kernel_rfl)) (fun _ _ _ h => h) (Or.inl ⟨by rfl, ?_⟩) ?_ ?_
                            rotate_left
                            · intro w'
                              go_simp
                              with_reducible rfl
                            rotate_left
                            · simp only [Act.put, List.setIfInBounds_toArray, List.set_cons_zero, List.set_cons_succ, i64_w, i32_w]
                              rfl
                            refine pure_ (i := 17) (N := some 8) (v := ?_) (a' := ?_) #[true, true, true, true, true, true, true, true, true, true, true, true, true, true, true, true, true, true] rfl rfl (any_of HT_.out (by kernel_rfl)) (fun _ _ _ h => h) (Or.inl ⟨by rfl, ?_⟩) ?_ ?_
                            rotate_left
                            · intro w'
                              go_simp
                              with_reducible rfl
                            rotate_left
                            · simp only [Act.put, List.setIfInBounds_toArray, List.set_cons_zero, List.set_cons_succ, i64_w, i32_w]
                              rfl
                            refine done_ (done_of HT_.out (by kernel_rfl)) ?_
                            try go_wp2
                            go_ret
                            exact ⟨by first | rfl | (simp [errW_none, errW_some] <;> rfl) | (simp only [← hji9]; first | rfl | (simp [errW_none, errW_some] <;> rfl)) | (simp [*, errW_none, errW_some] <;> rfl), by repeat (first | (with_reducible first | exact HB.out | apply below_alloc | apply pw_below_drewN | apply below_drew1 | refine below_set ?_ GE101.out | refine below_set ?_ GE107.out | refine below_set ?_ GE118.out) | exact HB.out)⟩
                        · rw [if_neg c76] at H
                          have c76b0 : (t117 == 0) = false := beq_eq_false_iff_ne.mpr c76
                          have c76b1 : (t117 != 0) = true := bne_iff_ne.mpr c76
                          obtain rfl := Option.some.inj H
                          have hnb98 := NB101_107.out
                          have hnc98 := NB107_101.out
                          have hcz99_0 : wr.cell? ⟨gb101, 0, none⟩ = some (.int .i64 (wrap64 (Int.tdiv (wrap64 (a0)) 32))) := (blk_cell BK101.out 0).trans rfl
                          have hcz99_1 : wr.cell? ⟨gb101, 1, none⟩ = some (.int .i64 (Int.tmod (wrap64 (a1)) 4)) := (blk_cell BK101.out 1).trans rfl
                          have hfz99_0 := blk_frozen BK101.out 0
                          have hfz99_1 := blk_frozen BK101.out 1
                          try go_wp2_with (first | ((with_reducible refine gate_callee (f := 13) rfl ?_); refine goesL_ (some 73) rfl rfl Tryd.func13 (by kernel_rfl) rfl #[.string x12_3] rfl (by (try simp only [List.map_toArray, List.map_cons, List.map_nil]); first | done | rfl | (simp only [List.length_drop, List.length_take]; rfl)) ?_; (with_reducible refine (fixed_Read.calls x12_3 t115 t116 t117 _ A74.out).mono ?_); rintro e w100 ⟨rfl, hb⟩; refine ⟨_, rfl, ?_⟩; have n0_ := Aside0.mk (blk_below (g := gb101) (o := .cells #[.int .i64 (wrap64 (Int.tdiv (wrap64 (a0)) 32)), .int .i64 (Int.tmod (wrap64 (a1)) 4)] 27 (0, 0)) (by (with_reducible repeat (first | refine blk_drewN ?_ _ | refine blk_drew ?_ | refine blk_alloc ?_ _)); exact BK101.out) hb); have n1_ := Aside0.mk (blk_below (g := gb107) (o := .cells #[.int .i64 t104, .int .i64 t105] 27 (0, 0)) (by (with_reducible repeat (first | refine blk_drewN ?_ _ | refine blk_drew ?_ | refine blk_alloc ?_ _)); exact BK107.out) hb); have n2_ := Aside0.mk (below_step (by repeat (first | (with_reducible first | exact HB.out | apply below_alloc | apply pw_below_drewN | apply below_drew1 | refine below_set ?_ GE101.out | refine below_set ?_ GE107.out) | exact HB.out)) hb); clear BK101; clear BK107; clear HB; have BK101 := n0_; have BK107 := n1_; have HB := n2_; clear n0_ n1_ n2_; (try clear hb); (try clear hb2); (try clear hk); (try clear hi)) | ((with_reducible refine gate_dst (N := 15) rfl ?_); refine box_event ?hg (N := 15) ?hd (cs := #[.int .i64 0, .int .i64 0]) (t := 27) ?hr ?_; (case hd => rfl); (case hg => rfl); (case hr => first | (go_simp; done) | (go_simp; rfl)); intro gb118 hg w101 hbox hb; have n0_ := Aside0.mk (blk_below (g := gb101) (o := .cells #[.int .i64 (wrap64 (Int.tdiv (wrap64 (a0)) 32)), .int .i64 (Int.tmod (wrap64 (a1)) 4)] 27 (0, 0)) (by (with_reducible repeat (first | refine blk_drewN ?_ _ | refine blk_drew ?_ | refine blk_alloc ?_ _)); exact BK101.out) hb); have n1_ := Aside0.mk (blk_below (g := gb107) (o := .cells #[.int .i64 t104, .int .i64 t105] 27 (0, 0)) (by (with_reducible repeat (first | refine blk_drewN ?_ _ | refine blk_drew ?_ | refine blk_alloc ?_ _)); exact BK107.out) hb); have n2_ := Aside0.mk (below_step (by repeat (first | (with_reducible first | exact HB.out | apply below_alloc | apply pw_below_drewN | apply below_drew1 | refine below_set ?_ GE101.out | refine below_set ?_ GE107.out) | exact HB.out)) hb); have n3_ := Aside0.mk (hbox); have n4_ := Aside0.mk ((by rw [hg]; exact (below_size (by repeat (first | (with_reducible first | exact HB.out | apply below_alloc | apply pw_below_drewN | apply below_drew1 | refine below_set ?_ GE101.out | refine below_set ?_ GE107.out) | exact HB.out))) : w.heap.size ≤ gb118)); have n5_ := Aside0.mk ((by rw [hg]; exact (below_size (by repeat (first | (with_reducible first | exact HB.out | apply below_alloc | apply pw_below_drewN | apply below_drew1 | refine below_set ?_ GE101.out | refine below_set ?_ GE107.out) | exact HB.out))) : w.heap.size ≤ gb118)); have n6_ := Aside0.mk ((by rw [hg]; exact Nat.ne_of_lt (blk_lt (g := gb101) (o := .cells #[.int .i64 (wrap64 (Int.tdiv (wrap64 (a0)) 32)), .int .i64 (Int.tmod (wrap64 (a1)) 4)] 27 (0, 0)) (by (with_reducible repeat (first | refine blk_drewN ?_ _ | refine blk_drew ?_ | refine blk_alloc ?_ _)); exact BK101.out)) : gb101 ≠ gb118)); have n7_ := Aside0.mk ((by rw [hg]; exact Nat.ne_of_gt (blk_lt (g := gb101) (o := .cells #[.int .i64 (wrap64 (Int.tdiv (wrap64 (a0)) 32)), .int .i64 (Int.tmod (wrap64 (a1)) 4)] 27 (0, 0)) (by (with_reducible repeat (first | refine blk_drewN ?_ _ | refine blk_drew ?_ | refine blk_alloc ?_ _)); exact BK101.out)) : gb118 ≠ gb101)); have n8_ := Aside0.mk ((by rw [hg]; exact Nat.ne_of_lt (blk_lt (g := gb107) (o := .cells #[.int .i64 t104, .int .i64 t105] 27 (0, 0)) (by (with_reducible repeat (first | refine blk_drewN ?_ _ | refine blk_drew ?_ | refine blk_alloc ?_ _)); exact BK107.out)) : gb107 ≠ gb118)); have n9_ := Aside0.mk ((by rw [hg]; exact Nat.ne_of_gt (blk_lt (g := gb107) (o := .cells #[.int .i64 t104, .int .i64 t105] 27 (0, 0)) (by (with_reducible repeat (first | refine blk_drewN ?_ _ | refine blk_drew ?_ | refine blk_alloc ?_ _)); exact BK107.out)) : gb118 ≠ gb107)); clear BK101; clear BK107; clear HB; have BK101 := n0_; have BK107 := n1_; have HB := n2_; have BK118 := n3_; have GW118 := n4_; have GE118 := n5_; have NB101_118 := n6_; have NB118_101 := n7_; have NB107_118 := n8_; have NB118_107 := n9_; clear n0_ n1_ n2_ n3_ n4_ n5_ n6_ n7_ n8_ n9_; clear hb hbox hg; have hnb102 := NB118_101.out; have hnc102 := NB101_118.out; have hnb103 := NB118_107.out; have hnc103 := NB107_118.out; have hcz104_0 : w101.cell? ⟨gb118, 0, none⟩ = some (.int .i64 0) := (blk_cell BK118.out 0).trans rfl; have hcz104_1 : w101.cell? ⟨gb118, 1, none⟩ = some (.int .i64 0) := (blk_cell BK118.out 1).trans rfl; have hfz104_0 := blk_frozen BK118.out 0; have hfz104_1 := blk_frozen BK118.out 1))
                          have n0_ : Aside0 (((w101.setCell ⟨gb118, 0, none⟩ (.int .i64 t115)).setCell ⟨gb118, 1, none⟩ (.int .i64 t116)).heap[gb101]? = some (.cells #[.int .i64 (wrap64 (Int.tdiv (wrap64 (a0)) 32)), .int .i64 (Int.tmod (wrap64 (a1)) 4)] 27 (0, 0))) := ⟨by (with_reducible repeat (first | refine blk_drewN ?_ _ | refine blk_drew ?_ | refine blk_alloc ?_ _)); refine blk_far ?_ NB101_118.out _; (with_reducible repeat (first | refine blk_drewN ?_ _ | refine blk_drew ?_ | refine blk_alloc ?_ _)); refine blk_far ?_ NB101_118.out _; (with_reducible repeat (first | refine blk_drewN ?_ _ | refine blk_drew ?_ | refine blk_alloc ?_ _)); exact BK101.out⟩
                          have n1_ : Aside0 (((w101.setCell ⟨gb118, 0, none⟩ (.int .i64 t115)).setCell ⟨gb118, 1, none⟩ (.int .i64 t116)).heap[gb107]? = some (.cells #[.int .i64 t104, .int .i64 t105] 27 (0, 0))) := ⟨by (with_reducible repeat (first | refine blk_drewN ?_ _ | refine blk_drew ?_ | refine blk_alloc ?_ _)); refine blk_far ?_ NB107_118.out _; (with_reducible repeat (first | refine blk_drewN ?_ _ | refine blk_drew ?_ | refine blk_alloc ?_ _)); refine blk_far ?_ NB107_118.out _; (with_reducible repeat (first | refine blk_drewN ?_ _ | refine blk_drew ?_ | refine blk_alloc ?_ _)); exact BK107.out⟩
                          have n2_ : Aside0 (((w101.setCell ⟨gb118, 0, none⟩ (.int .i64 t115)).setCell ⟨gb118, 1, none⟩ (.int .i64 t116)).heap[gb118]? = some (.cells #[.int .i64 t115, .int .i64 t116] 27 (0, 0))) := ⟨by (with_reducible repeat (first | refine blk_drewN ?_ _ | refine blk_drew ?_ | refine blk_alloc ?_ _)); refine blk_put (cs := #[.int .i64 t115, .int .i64 0]) ?_ 1 _ rfl; (with_reducible repeat (first | refine blk_drewN ?_ _ | refine blk_drew ?_ | refine blk_alloc ?_ _)); refine blk_put (cs := #[.int .i64 0, .int .i64 0]) ?_ 0 _ rfl; (with_reducible repeat (first | refine blk_drewN ?_ _ | refine blk_drew ?_ | refine blk_alloc ?_ _)); exact BK118.out⟩
                          have n3_ : Aside0 (Below w.heap.size w ((w101.setCell ⟨gb118, 0, none⟩ (.int .i64 t115)).setCell ⟨gb118, 1, none⟩ (.int .i64 t116))) := ⟨by repeat (first | (with_reducible first | exact HB.out | apply below_alloc | apply pw_below_drewN | apply below_drew1 | refine below_set ?_ GE101.out | refine below_set ?_ GE107.out | refine below_set ?_ GE118.out) | exact HB.out)⟩
                          (try clear BK101)
                          (try clear BK107)
                          (try clear BK118)
                          (try clear HB)
                          generalize ((w101.setCell ⟨gb118, 0, none⟩ (.int .i64 t115)).setCell ⟨gb118, 1, none⟩ (.int .i64 t116)) = w105 at n0_ n1_ n2_ n3_ ⊢
                          have BK101 := n0_
                          have BK107 := n1_
                          have BK118 := n2_
                          have HB := n3_
                          clear n0_ n1_ n2_ n3_
                          have n0_ := Aside0.mk (blk_drew BK101.out)
                          have n1_ := Aside0.mk (blk_drew BK107.out)
                          have n2_ := Aside0.mk (blk_drew BK118.out)
                          have n3_ := Aside0.mk (below_drew1 HB.out)
                          clear BK101
                          clear BK107
                          clear BK118
                          clear HB
                          have BK101 := n0_
                          have BK107 := n1_
                          have BK118 := n2_
                          have HB := n3_
                          clear n0_ n1_ n2_ n3_
                          refine start_ (n := 18) (S := fun w' => True) (ds := []) #[false, false, false, false, false, false, false, false, false, false, false, false, false, false, false, false, false, false] (by kernel_rfl) rfl rfl trivial (fun hHeld => ?_); refine with_tabW entrepotlaw02_FixedNoughts.tab19 entrepotlaw02_FixedNoughts.bits19 (fun HT_ HW_ => ?_)
                          generalize w105.drew = w106 at BK101 BK107 BK118 HB hHeld ⊢
                          refine pure_ (i := 0) (N := some 76) (v := ?_) (a' := ?_) #[true, false, false, false, false, false, false, false, false, false, false, false, false, false, false, false, false, false] rfl rfl (any_of HT_.out (by kernel_rfl)) (fun _ _ _ h => h) (Or.inl ⟨by rfl, ?_⟩) ?_ ?_
                          rotate_left
                          · intro w'
                            go_simp
                            with_reducible rfl
                          rotate_left
                          · simp only [Act.put, List.setIfInBounds_toArray, List.set_cons_zero, List.set_cons_succ, i64_w, i32_w]
                            rfl
                          refine pure_ (i := 1) (N := some 77) (v := ?_) (a' := ?_) #[true, true, false, false, false, false, false, false, false, false, false, false, false, false, false, false, false, false] rfl rfl (any_of HT_.out (by kernel_rfl)) (fun _ _ _ h => h) (Or.inl ⟨by rfl, ?_⟩) ?_ ?_
                          rotate_left
                          · intro w'
                            go_simp
                            with_reducible rfl
                          rotate_left
                          · simp only [Act.put, List.setIfInBounds_toArray, List.set_cons_zero, List.set_cons_succ, i64_w, i32_w]
                            rfl
                          refine pure_ (i := 2) (N := some 78) (v := ?_) (a' := ?_) #[true, true, true, false, false, false, false, false, false, false, false, false, false, false, false, false, false, false] rfl rfl (any_of HT_.out (by kernel_rfl)) (fun _ _ _ h => h) (Or.inl ⟨by rfl, ?_⟩) ?_ ?_
                          rotate_left
                          · intro w'
                            go_simp
                            with_reducible rfl
                          rotate_left
                          · simp only [Act.put, List.setIfInBounds_toArray, List.set_cons_zero, List.set_cons_succ, i64_w, i32_w]
                            rfl
                          refine pure_ (i := 3) (N := some 79) (v := ?_) (a' := ?_) #[true, true, true, true, false, false, false, false, false, false, false, false, false, false, false, false, false, false] rfl rfl (any_of HT_.out (by kernel_rfl)) (fun _ _ _ h => h) (Or.inl ⟨by rfl, ?_⟩) ?_ ?_
                          rotate_left
                          · intro w'
                            go_simp
                            with_reducible rfl
                          rotate_left
                          · simp only [Act.put, List.setIfInBounds_toArray, List.set_cons_zero, List.set_cons_succ, i64_w, i32_w]
                            rfl
                          refine pure_ (i := 4) (N := some 80) (v := ?_) (a' := ?_) #[true, true, true, true, true, false, false, false, false, false, false, false, false, false, false, false, false, false] rfl rfl (any_of HT_.out (by kernel_rfl)) (fun _ _ _ h => h) (Or.inl ⟨by rfl, ?_⟩) ?_ ?_
                          rotate_left
                          · intro w'
                            go_simp
                            with_reducible rfl
                          rotate_left
                          · simp only [Act.put, List.setIfInBounds_toArray, List.set_cons_zero, List.set_cons_succ, i64_w, i32_w]
                            rfl
                          refine pure_ (i := 5) (N := some 81) (v := ?_) (a' := ?_) #[true, true, true, true, true, true, false, false, false, false, false, false, false, false, false, false, false, false] rfl rfl (any_of HT_.out (by kernel_rfl)) (fun _ _ _ h => h) (Or.inl ⟨by rfl, ?_⟩) ?_ ?_
                          rotate_left
                          · intro w'
                            go_simp
                            with_reducible rfl
                          rotate_left
                          · simp only [Act.put, List.setIfInBounds_toArray, List.set_cons_zero, List.set_cons_succ, i64_w, i32_w]
                            rfl
                          refine pure_ (i := 6) (N := some 82) (v := ?_) (a' := ?_) #[true, true, true, true, true, true, true, false, false, false, false, false, false, false, false, false, false, false] rfl rfl (any_of HT_.out (by kernel_rfl)) (fun _ _ _ h => h) (Or.inl ⟨by rfl, ?_⟩) ?_ ?_
                          rotate_left
                          · intro w'
                            go_simp
                            with_reducible rfl
                          rotate_left
                          · simp only [Act.put, List.setIfInBounds_toArray, List.set_cons_zero, List.set_cons_succ, i64_w, i32_w]
                            rfl
                          refine pure_ (i := 7) (N := some 83) (v := undef) (a' := ?_) #[true, true, true, true, true, true, true, true, false, false, false, false, false, false, false, false, false, false] rfl rfl (any_of HT_.out (by kernel_rfl)) (fun _ _ _ h => h) (Or.inr ⟨by rfl, rfl⟩) ?_ ?_
                          rotate_left
                          · simp only [Act.put, List.setIfInBounds_toArray, List.set_cons_zero, List.set_cons_succ, i64_w, i32_w]
                            rfl
                          refine pure_ (i := 8) (N := some 84) (v := undef) (a' := ?_) #[true, true, true, true, true, true, true, true, true, false, false, false, false, false, false, false, false, false] rfl rfl (any_of HT_.out (by kernel_rfl)) (fun _ _ _ h => h) (Or.inr ⟨by rfl, rfl⟩) ?_ ?_
                          rotate_left
                          · simp only [Act.put, List.setIfInBounds_toArray, List.set_cons_zero, List.set_cons_succ, i64_w, i32_w]
                            rfl
                          refine pure_ (i := 9) (N := some 85) (v := undef) (a' := ?_) #[true, true, true, true, true, true, true, true, true, true, false, false, false, false, false, false, false, false] rfl rfl (any_of HT_.out (by kernel_rfl)) (fun _ _ _ h => h) (Or.inr ⟨by rfl, rfl⟩) ?_ ?_
                          rotate_left
                          · simp only [Act.put, List.setIfInBounds_toArray, List.set_cons_zero, List.set_cons_succ, i64_w, i32_w]
                            rfl
                          refine pure_ (i := 10) (N := some 86) (v := ?_) (a' := ?_) #[true, true, true, true, true, true, true, true, true, true, true, false, false, false, false, false, false, false] rfl rfl (any_of HT_.out (by kernel_rfl)) (fun _ _ _ h => h) (Or.inl ⟨by rfl, ?_⟩) ?_ ?_
                          rotate_left
                          · intro w'
                            go_simp
                            with_reducible rfl
                          rotate_left
                          · simp only [Act.put, List.setIfInBounds_toArray, List.set_cons_zero, List.set_cons_succ, i64_w, i32_w]
                            rfl
                          refine pure_ (i := 11) (N := some 87) (v := ?_) (a' := ?_) #[true, true, true, true, true, true, true, true, true, true, true, true, false, false, false, false, false, false] rfl rfl (any_of HT_.out (by kernel_rfl)) (fun _ _ _ h => h) (Or.inl ⟨by rfl, ?_⟩) ?_ ?_
                          rotate_left
                          · intro w'
                            go_simp
                            with_reducible rfl
                          rotate_left
                          · simp only [Act.put, List.setIfInBounds_toArray, List.set_cons_zero, List.set_cons_succ, i64_w, i32_w]
                            rfl
                          refine pure_ (i := 12) (N := some 88) (v := undef) (a' := ?_) #[true, true, true, true, true, true, true, true, true, true, true, true, true, false, false, false, false, false] rfl rfl (any_of HT_.out (by kernel_rfl)) (fun _ _ _ h => h) (Or.inr ⟨by rfl, rfl⟩) ?_ ?_
                          rotate_left
                          · simp only [Act.put, List.setIfInBounds_toArray, List.set_cons_zero, List.set_cons_succ, i64_w, i32_w]
                            rfl
                          refine pure_ (i := 13) (N := some 89) (v := undef) (a' := ?_) #[true, true, true, true, true, true, true, true, true, true, true, true, true, true, false, false, false, false] rfl rfl (any_of HT_.out (by kernel_rfl)) (fun _ _ _ h => h) (Or.inr ⟨by rfl, rfl⟩) ?_ ?_
                          rotate_left
                          · simp only [Act.put, List.setIfInBounds_toArray, List.set_cons_zero, List.set_cons_succ, i64_w, i32_w]
                            rfl
                          refine pure_ (i := 14) (N := some 90) (v := undef) (a' := ?_) #[true, true, true, true, true, true, true, true, true, true, true, true, true, true, true, false, false, false] rfl rfl (any_of HT_.out (by kernel_rfl)) (fun _ _ _ h => h) (Or.inr ⟨by rfl, rfl⟩) ?_ ?_
                          rotate_left
                          · simp only [Act.put, List.setIfInBounds_toArray, List.set_cons_zero, List.set_cons_succ, i64_w, i32_w]
                            rfl
                          refine pure_ (i := 15) (N := some 91) (v := undef) (a' := ?_) #[true, true, true, true, true, true, true, true, true, true, true, true, true, true, true, true, false, false] rfl rfl (any_of HT_.out (by kernel_rfl)) (fun _ _ _ h => h) (Or.inr ⟨by rfl, rfl⟩) ?_ ?_
                          rotate_left
                          · simp only [Act.put, List.setIfInBounds_toArray, List.set_cons_zero, List.set_cons_succ, i64_w, i32_w]
                            rfl
                          refine pure_ (i := 16) (N := some 92) (v := ?_) (a' := ?_) #[true, true, true, true, true, true, true, true, true, true, true, true, true, true, true, true, true, false] rfl rfl (any_of HT_.out (by kernel_rfl)) (fun _ _ _ h => h) (Or.inl ⟨by rfl, ?_⟩) ?_ ?_
                          rotate_left
                          · intro w'
                            go_simp
                            with_reducible rfl
                          rotate_left
                          · simp only [Act.put, List.setIfInBounds_toArray, List.set_cons_zero, List.set_cons_succ, i64_w, i32_w]
                            rfl
                          refine pure_ (i := 17) (N := some 8) (v := ?_) (a' := ?_) #[true, true, true, true, true, true, true, true, true, true, true, true, true, true, true, true, true, true] rfl rfl (any_of HT_.out (by kernel_rfl)) (fun _ _ _ h => h) (Or.inl ⟨by rfl, ?_⟩) ?_ ?_
                          rotate_left
                          · intro w'
                            go_simp
                            with_reducible rfl
                          rotate_left
                          · simp only [Act.put, List.setIfInBounds_toArray, List.set_cons_zero, List.set_cons_succ, i64_w, i32_w]
                            rfl
                          refine done_ (done_of HT_.out (by kernel_rfl)) ?_
                          try go_wp2
                          go_ret
                          exact ⟨by first | rfl | (simp [errW_none, errW_some] <;> rfl) | (simp only [← hji9]; first | rfl | (simp [errW_none, errW_some] <;> rfl)) | (simp [*, errW_none, errW_some] <;> rfl), by repeat (first | (with_reducible first | exact HB.out | apply below_alloc | apply pw_below_drewN | apply below_drew1 | refine below_set ?_ GE101.out | refine below_set ?_ GE107.out | refine below_set ?_ GE118.out) | exact HB.out)⟩
                      · rw [if_neg c75] at H
                        have c75b0 : (t106 == 0) = false := beq_eq_false_iff_ne.mpr c75
                        have c75b1 : (t106 != 0) = true := bne_iff_ne.mpr c75
                        obtain rfl := Option.some.inj H
                        have hnb107 := NB101_107.out
                        have hnc107 := NB107_101.out
                        have hcz108_0 : wr.cell? ⟨gb101, 0, none⟩ = some (.int .i64 (wrap64 (Int.tdiv (wrap64 (a0)) 32))) := (blk_cell BK101.out 0).trans rfl
                        have hcz108_1 : wr.cell? ⟨gb101, 1, none⟩ = some (.int .i64 (Int.tmod (wrap64 (a1)) 4)) := (blk_cell BK101.out 1).trans rfl
                        have hfz108_0 := blk_frozen BK101.out 0
                        have hfz108_1 := blk_frozen BK101.out 1
                        try go_wp2_with (first | ((with_reducible refine gate_callee (f := 13) rfl ?_); refine goesL_ (some 73) rfl rfl Tryd.func13 (by kernel_rfl) rfl #[.string x12_3] rfl (by (try simp only [List.map_toArray, List.map_cons, List.map_nil]); first | done | rfl | (simp only [List.length_drop, List.length_take]; rfl)) ?_; (with_reducible refine (fixed_Read.calls x12_3 t115 t116 t117 _ A74.out).mono ?_); rintro e w109 ⟨rfl, hb⟩; refine ⟨_, rfl, ?_⟩; have n0_ := Aside0.mk (blk_below (g := gb101) (o := .cells #[.int .i64 (wrap64 (Int.tdiv (wrap64 (a0)) 32)), .int .i64 (Int.tmod (wrap64 (a1)) 4)] 27 (0, 0)) (by (with_reducible repeat (first | refine blk_drewN ?_ _ | refine blk_drew ?_ | refine blk_alloc ?_ _)); exact BK101.out) hb); have n1_ := Aside0.mk (blk_below (g := gb107) (o := .cells #[.int .i64 t104, .int .i64 t105] 27 (0, 0)) (by (with_reducible repeat (first | refine blk_drewN ?_ _ | refine blk_drew ?_ | refine blk_alloc ?_ _)); exact BK107.out) hb); have n2_ := Aside0.mk (below_step (by repeat (first | (with_reducible first | exact HB.out | apply below_alloc | apply pw_below_drewN | apply below_drew1 | refine below_set ?_ GE101.out | refine below_set ?_ GE107.out) | exact HB.out)) hb); clear BK101; clear BK107; clear HB; have BK101 := n0_; have BK107 := n1_; have HB := n2_; clear n0_ n1_ n2_; (try clear hb); (try clear hb2); (try clear hk); (try clear hi)) | ((with_reducible refine gate_dst (N := 15) rfl ?_); refine box_event ?hg (N := 15) ?hd (cs := #[.int .i64 0, .int .i64 0]) (t := 27) ?hr ?_; (case hd => rfl); (case hg => rfl); (case hr => first | (go_simp; done) | (go_simp; rfl)); intro gb118 hg w110 hbox hb; have n0_ := Aside0.mk (blk_below (g := gb101) (o := .cells #[.int .i64 (wrap64 (Int.tdiv (wrap64 (a0)) 32)), .int .i64 (Int.tmod (wrap64 (a1)) 4)] 27 (0, 0)) (by (with_reducible repeat (first | refine blk_drewN ?_ _ | refine blk_drew ?_ | refine blk_alloc ?_ _)); exact BK101.out) hb); have n1_ := Aside0.mk (blk_below (g := gb107) (o := .cells #[.int .i64 t104, .int .i64 t105] 27 (0, 0)) (by (with_reducible repeat (first | refine blk_drewN ?_ _ | refine blk_drew ?_ | refine blk_alloc ?_ _)); exact BK107.out) hb); have n2_ := Aside0.mk (below_step (by repeat (first | (with_reducible first | exact HB.out | apply below_alloc | apply pw_below_drewN | apply below_drew1 | refine below_set ?_ GE101.out | refine below_set ?_ GE107.out) | exact HB.out)) hb); have n3_ := Aside0.mk (hbox); have n4_ := Aside0.mk ((by rw [hg]; exact (below_size (by repeat (first | (with_reducible first | exact HB.out | apply below_alloc | apply pw_below_drewN | apply below_drew1 | refine below_set ?_ GE101.out | refine below_set ?_ GE107.out) | exact HB.out))) : w.heap.size ≤ gb118)); have n5_ := Aside0.mk ((by rw [hg]; exact (below_size (by repeat (first | (with_reducible first | exact HB.out | apply below_alloc | apply pw_below_drewN | apply below_drew1 | refine below_set ?_ GE101.out | refine below_set ?_ GE107.out) | exact HB.out))) : w.heap.size ≤ gb118)); have n6_ := Aside0.mk ((by rw [hg]; exact Nat.ne_of_lt (blk_lt (g := gb101) (o := .cells #[.int .i64 (wrap64 (Int.tdiv (wrap64 (a0)) 32)), .int .i64 (Int.tmod (wrap64 (a1)) 4)] 27 (0, 0)) (by (with_reducible repeat (first | refine blk_drewN ?_ _ | refine blk_drew ?_ | refine blk_alloc ?_ _)); exact BK101.out)) : gb101 ≠ gb118)); have n7_ := Aside0.mk ((by rw [hg]; exact Nat.ne_of_gt (blk_lt (g := gb101) (o := .cells #[.int .i64 (wrap64 (Int.tdiv (wrap64 (a0)) 32)), .int .i64 (Int.tmod (wrap64 (a1)) 4)] 27 (0, 0)) (by (with_reducible repeat (first | refine blk_drewN ?_ _ | refine blk_drew ?_ | refine blk_alloc ?_ _)); exact BK101.out)) : gb118 ≠ gb101)); have n8_ := Aside0.mk ((by rw [hg]; exact Nat.ne_of_lt (blk_lt (g := gb107) (o := .cells #[.int .i64 t104, .int .i64 t105] 27 (0, 0)) (by (with_reducible repeat (first | refine blk_drewN ?_ _ | refine blk_drew ?_ | refine blk_alloc ?_ _)); exact BK107.out)) : gb107 ≠ gb118)); have n9_ := Aside0.mk ((by rw [hg]; exact Nat.ne_of_gt (blk_lt (g := gb107) (o := .cells #[.int .i64 t104, .int .i64 t105] 27 (0, 0)) (by (with_reducible repeat (first | refine blk_drewN ?_ _ | refine blk_drew ?_ | refine blk_alloc ?_ _)); exact BK107.out)) : gb118 ≠ gb107)); clear BK101; clear BK107; clear HB; have BK101 := n0_; have BK107 := n1_; have HB := n2_; have BK118 := n3_; have GW118 := n4_; have GE118 := n5_; have NB101_118 := n6_; have NB118_101 := n7_; have NB107_118 := n8_; have NB118_107 := n9_; clear n0_ n1_ n2_ n3_ n4_ n5_ n6_ n7_ n8_ n9_; clear hb hbox hg; have hnb111 := NB118_101.out; have hnc111 := NB101_118.out; have hnb112 := NB118_107.out; have hnc112 := NB107_118.out; have hcz113_0 : w110.cell? ⟨gb118, 0, none⟩ = some (.int .i64 0) := (blk_cell BK118.out 0).trans rfl; have hcz113_1 : w110.cell? ⟨gb118, 1, none⟩ = some (.int .i64 0) := (blk_cell BK118.out 1).trans rfl; have hfz113_0 := blk_frozen BK118.out 0; have hfz113_1 := blk_frozen BK118.out 1))
                        have n0_ : Aside0 (((w110.setCell ⟨gb118, 0, none⟩ (.int .i64 t115)).setCell ⟨gb118, 1, none⟩ (.int .i64 t116)).heap[gb101]? = some (.cells #[.int .i64 (wrap64 (Int.tdiv (wrap64 (a0)) 32)), .int .i64 (Int.tmod (wrap64 (a1)) 4)] 27 (0, 0))) := ⟨by (with_reducible repeat (first | refine blk_drewN ?_ _ | refine blk_drew ?_ | refine blk_alloc ?_ _)); refine blk_far ?_ NB101_118.out _; (with_reducible repeat (first | refine blk_drewN ?_ _ | refine blk_drew ?_ | refine blk_alloc ?_ _)); refine blk_far ?_ NB101_118.out _; (with_reducible repeat (first | refine blk_drewN ?_ _ | refine blk_drew ?_ | refine blk_alloc ?_ _)); exact BK101.out⟩
                        have n1_ : Aside0 (((w110.setCell ⟨gb118, 0, none⟩ (.int .i64 t115)).setCell ⟨gb118, 1, none⟩ (.int .i64 t116)).heap[gb107]? = some (.cells #[.int .i64 t104, .int .i64 t105] 27 (0, 0))) := ⟨by (with_reducible repeat (first | refine blk_drewN ?_ _ | refine blk_drew ?_ | refine blk_alloc ?_ _)); refine blk_far ?_ NB107_118.out _; (with_reducible repeat (first | refine blk_drewN ?_ _ | refine blk_drew ?_ | refine blk_alloc ?_ _)); refine blk_far ?_ NB107_118.out _; (with_reducible repeat (first | refine blk_drewN ?_ _ | refine blk_drew ?_ | refine blk_alloc ?_ _)); exact BK107.out⟩
                        have n2_ : Aside0 (((w110.setCell ⟨gb118, 0, none⟩ (.int .i64 t115)).setCell ⟨gb118, 1, none⟩ (.int .i64 t116)).heap[gb118]? = some (.cells #[.int .i64 t115, .int .i64 t116] 27 (0, 0))) := ⟨by (with_reducible repeat (first | refine blk_drewN ?_ _ | refine blk_drew ?_ | refine blk_alloc ?_ _)); refine blk_put (cs := #[.int .i64 t115, .int .i64 0]) ?_ 1 _ rfl; (with_reducible repeat (first | refine blk_drewN ?_ _ | refine blk_drew ?_ | refine blk_alloc ?_ _)); refine blk_put (cs := #[.int .i64 0, .int .i64 0]) ?_ 0 _ rfl; (with_reducible repeat (first | refine blk_drewN ?_ _ | refine blk_drew ?_ | refine blk_alloc ?_ _)); exact BK118.out⟩
                        have n3_ : Aside0 (Below w.heap.size w ((w110.setCell ⟨gb118, 0, none⟩ (.int .i64 t115)).setCell ⟨gb118, 1, none⟩ (.int .i64 t116))) := ⟨by repeat (first | (with_reducible first | exact HB.out | apply below_alloc | apply pw_below_drewN | apply below_drew1 | refine below_set ?_ GE101.out | refine below_set ?_ GE107.out | refine below_set ?_ GE118.out) | exact HB.out)⟩
                        (try clear BK101)
                        (try clear BK107)
                        (try clear BK118)
                        (try clear HB)
                        generalize ((w110.setCell ⟨gb118, 0, none⟩ (.int .i64 t115)).setCell ⟨gb118, 1, none⟩ (.int .i64 t116)) = w114 at n0_ n1_ n2_ n3_ ⊢
                        have BK101 := n0_
                        have BK107 := n1_
                        have BK118 := n2_
                        have HB := n3_
                        clear n0_ n1_ n2_ n3_
                        have n0_ := Aside0.mk (blk_drew BK101.out)
                        have n1_ := Aside0.mk (blk_drew BK107.out)
                        have n2_ := Aside0.mk (blk_drew BK118.out)
                        have n3_ := Aside0.mk (below_drew1 HB.out)
                        clear BK101
                        clear BK107
                        clear BK118
                        clear HB
                        have BK101 := n0_
                        have BK107 := n1_
                        have BK118 := n2_
                        have HB := n3_
                        clear n0_ n1_ n2_ n3_
                        refine start_ (n := 18) (S := fun w' => True) (ds := []) #[false, false, false, false, false, false, false, false, false, false, false, false, false, false, false, false, false, false] (by kernel_rfl) rfl rfl trivial (fun hHeld => ?_); refine with_tabW entrepotlaw02_FixedNoughts.tab19 entrepotlaw02_FixedNoughts.bits19 (fun HT_ HW_ => ?_)
                        generalize w114.drew = w115 at BK101 BK107 BK118 HB hHeld ⊢
                        refine pure_ (i := 0) (N := some 76) (v := ?_) (a' := ?_) #[true, false, false, false, false, false, false, false, false, false, false, false, false, false, false, false, false, false] rfl rfl (any_of HT_.out (by kernel_rfl)) (fun _ _ _ h => h) (Or.inl ⟨by rfl, ?_⟩) ?_ ?_
                        rotate_left
                        · intro w'
                          go_simp
                          with_reducible rfl
                        rotate_left
                        · simp only [Act.put, List.setIfInBounds_toArray, List.set_cons_zero, List.set_cons_succ, i64_w, i32_w]
                          rfl
                        refine pure_ (i := 1) (N := some 77) (v := ?_) (a' := ?_) #[true, true, false, false, false, false, false, false, false, false, false, false, false, false, false, false, false, false] rfl rfl (any_of HT_.out (by kernel_rfl)) (fun _ _ _ h => h) (Or.inl ⟨by rfl, ?_⟩) ?_ ?_
                        rotate_left
                        · intro w'
                          go_simp
                          with_reducible rfl
                        rotate_left
                        · simp only [Act.put, List.setIfInBounds_toArray, List.set_cons_zero, List.set_cons_succ, i64_w, i32_w]
                          rfl
                        refine pure_ (i := 2) (N := some 78) (v := ?_) (a' := ?_) #[true, true, true, false, false, false, false, false, false, false, false, false, false, false, false, false, false, false] rfl rfl (any_of HT_.out (by kernel_rfl)) (fun _ _ _ h => h) (Or.inl ⟨by rfl, ?_⟩) ?_ ?_
                        rotate_left
                        · intro w'
                          go_simp
                          with_reducible rfl
                        rotate_left
                        · simp only [Act.put, List.setIfInBounds_toArray, List.set_cons_zero, List.set_cons_succ, i64_w, i32_w]
                          rfl
                        refine pure_ (i := 3) (N := some 79) (v := undef) (a' := ?_) #[true, true, true, true, false, false, false, false, false, false, false, false, false, false, false, false, false, false] rfl rfl (any_of HT_.out (by kernel_rfl)) (fun _ _ _ h => h) (Or.inr ⟨by rfl, rfl⟩) ?_ ?_
                        rotate_left
                        · simp only [Act.put, List.setIfInBounds_toArray, List.set_cons_zero, List.set_cons_succ, i64_w, i32_w]
                          rfl
                        refine pure_ (i := 4) (N := some 80) (v := undef) (a' := ?_) #[true, true, true, true, true, false, false, false, false, false, false, false, false, false, false, false, false, false] rfl rfl (any_of HT_.out (by kernel_rfl)) (fun _ _ _ h => h) (Or.inr ⟨by rfl, rfl⟩) ?_ ?_
                        rotate_left
                        · simp only [Act.put, List.setIfInBounds_toArray, List.set_cons_zero, List.set_cons_succ, i64_w, i32_w]
                          rfl
                        refine pure_ (i := 5) (N := some 81) (v := ?_) (a' := ?_) #[true, true, true, true, true, true, false, false, false, false, false, false, false, false, false, false, false, false] rfl rfl (any_of HT_.out (by kernel_rfl)) (fun _ _ _ h => h) (Or.inl ⟨by rfl, ?_⟩) ?_ ?_
                        rotate_left
                        · intro w'
                          go_simp
                          with_reducible rfl
                        rotate_left
                        · simp only [Act.put, List.setIfInBounds_toArray, List.set_cons_zero, List.set_cons_succ, i64_w, i32_w]
                          rfl
                        refine pure_ (i := 6) (N := some 82) (v := ?_) (a' := ?_) #[true, true, true, true, true, true, true, false, false, false, false, false, false, false, false, false, false, false] rfl rfl (any_of HT_.out (by kernel_rfl)) (fun _ _ _ h => h) (Or.inl ⟨by rfl, ?_⟩) ?_ ?_
                        rotate_left
                        · intro w'
                          go_simp
                          with_reducible rfl
                        rotate_left
                        · simp only [Act.put, List.setIfInBounds_toArray, List.set_cons_zero, List.set_cons_succ, i64_w, i32_w]
                          rfl
                        refine pure_ (i := 7) (N := some 83) (v := undef) (a' := ?_) #[true, true, true, true, true, true, true, true, false, false, false, false, false, false, false, false, false, false] rfl rfl (any_of HT_.out (by kernel_rfl)) (fun _ _ _ h => h) (Or.inr ⟨by rfl, rfl⟩) ?_ ?_
                        rotate_left
                        · simp only [Act.put, List.setIfInBounds_toArray, List.set_cons_zero, List.set_cons_succ, i64_w, i32_w]
                          rfl
                        refine pure_ (i := 8) (N := some 84) (v := undef) (a' := ?_) #[true, true, true, true, true, true, true, true, true, false, false, false, false, false, false, false, false, false] rfl rfl (any_of HT_.out (by kernel_rfl)) (fun _ _ _ h => h) (Or.inr ⟨by rfl, rfl⟩) ?_ ?_
                        rotate_left
                        · simp only [Act.put, List.setIfInBounds_toArray, List.set_cons_zero, List.set_cons_succ, i64_w, i32_w]
                          rfl
                        refine pure_ (i := 9) (N := some 85) (v := undef) (a' := ?_) #[true, true, true, true, true, true, true, true, true, true, false, false, false, false, false, false, false, false] rfl rfl (any_of HT_.out (by kernel_rfl)) (fun _ _ _ h => h) (Or.inr ⟨by rfl, rfl⟩) ?_ ?_
                        rotate_left
                        · simp only [Act.put, List.setIfInBounds_toArray, List.set_cons_zero, List.set_cons_succ, i64_w, i32_w]
                          rfl
                        refine pure_ (i := 10) (N := some 86) (v := ?_) (a' := ?_) #[true, true, true, true, true, true, true, true, true, true, true, false, false, false, false, false, false, false] rfl rfl (any_of HT_.out (by kernel_rfl)) (fun _ _ _ h => h) (Or.inl ⟨by rfl, ?_⟩) ?_ ?_
                        rotate_left
                        · intro w'
                          go_simp
                          with_reducible rfl
                        rotate_left
                        · simp only [Act.put, List.setIfInBounds_toArray, List.set_cons_zero, List.set_cons_succ, i64_w, i32_w]
                          rfl
                        refine pure_ (i := 11) (N := some 87) (v := ?_) (a' := ?_) #[true, true, true, true, true, true, true, true, true, true, true, true, false, false, false, false, false, false] rfl rfl (any_of HT_.out (by kernel_rfl)) (fun _ _ _ h => h) (Or.inl ⟨by rfl, ?_⟩) ?_ ?_
                        rotate_left
                        · intro w'
                          go_simp
                          with_reducible rfl
                        rotate_left
                        · simp only [Act.put, List.setIfInBounds_toArray, List.set_cons_zero, List.set_cons_succ, i64_w, i32_w]
                          rfl
                        refine pure_ (i := 12) (N := some 88) (v := undef) (a' := ?_) #[true, true, true, true, true, true, true, true, true, true, true, true, true, false, false, false, false, false] rfl rfl (any_of HT_.out (by kernel_rfl)) (fun _ _ _ h => h) (Or.inr ⟨by rfl, rfl⟩) ?_ ?_
                        rotate_left
                        · simp only [Act.put, List.setIfInBounds_toArray, List.set_cons_zero, List.set_cons_succ, i64_w, i32_w]
                          rfl
                        refine pure_ (i := 13) (N := some 89) (v := undef) (a' := ?_) #[true, true, true, true, true, true, true, true, true, true, true, true, true, true, false, false, false, false] rfl rfl (any_of HT_.out (by kernel_rfl)) (fun _ _ _ h => h) (Or.inr ⟨by rfl, rfl⟩) ?_ ?_
                        rotate_left
                        · simp only [Act.put, List.setIfInBounds_toArray, List.set_cons_zero, List.set_cons_succ, i64_w, i32_w]
                          rfl
                        refine pure_ (i := 14) (N := some 90) (v := undef) (a' := ?_) #[true, true, true, true, true, true, true, true, true, true, true, true, true, true, true, false, false, false] rfl rfl (any_of HT_.out (by kernel_rfl)) (fun _ _ _ h => h) (Or.inr ⟨by rfl, rfl⟩) ?_ ?_
                        rotate_left
                        · simp only [Act.put, List.setIfInBounds_toArray, List.set_cons_zero, List.set_cons_succ, i64_w, i32_w]
                          rfl
                        refine pure_ (i := 15) (N := some 91) (v := undef) (a' := ?_) #[true, true, true, true, true, true, true, true, true, true, true, true, true, true, true, true, false, false] rfl rfl (any_of HT_.out (by kernel_rfl)) (fun _ _ _ h => h) (Or.inr ⟨by rfl, rfl⟩) ?_ ?_
                        rotate_left
                        · simp only [Act.put, List.setIfInBounds_toArray, List.set_cons_zero, List.set_cons_succ, i64_w, i32_w]
                          rfl
                        refine pure_ (i := 16) (N := some 92) (v := ?_) (a' := ?_) #[true, true, true, true, true, true, true, true, true, true, true, true, true, true, true, true, true, false] rfl rfl (any_of HT_.out (by kernel_rfl)) (fun _ _ _ h => h) (Or.inl ⟨by rfl, ?_⟩) ?_ ?_
                        rotate_left
                        · intro w'
                          go_simp
                          with_reducible rfl
                        rotate_left
                        · simp only [Act.put, List.setIfInBounds_toArray, List.set_cons_zero, List.set_cons_succ, i64_w, i32_w]
                          rfl
                        refine pure_ (i := 17) (N := some 8) (v := ?_) (a' := ?_) #[true, true, true, true, true, true, true, true, true, true, true, true, true, true, true, true, true, true] rfl rfl (any_of HT_.out (by kernel_rfl)) (fun _ _ _ h => h) (Or.inl ⟨by rfl, ?_⟩) ?_ ?_
                        rotate_left
                        · intro w'
                          go_simp
                          with_reducible rfl
                        rotate_left
                        · simp only [Act.put, List.setIfInBounds_toArray, List.set_cons_zero, List.set_cons_succ, i64_w, i32_w]
                          rfl
                        refine done_ (done_of HT_.out (by kernel_rfl)) ?_
                        try go_wp2
                        go_ret
                        exact ⟨by first | rfl | (simp [errW_none, errW_some] <;> rfl) | (simp only [← hji9]; first | rfl | (simp [errW_none, errW_some] <;> rfl)) | (simp [*, errW_none, errW_some] <;> rfl), by repeat (first | (with_reducible first | exact HB.out | apply below_alloc | apply pw_below_drewN | apply below_drew1 | refine below_set ?_ GE101.out | refine below_set ?_ GE107.out | refine below_set ?_ GE118.out) | exact HB.out)⟩
  · replace c6 := Bool.eq_false_iff.mpr c6
    subst c6
    have H1 : (some false) = some r := by rw [if_neg (show ¬ (false = true) by decide)] at H; exact H
    clear H
    have H := H1
    clear H1
    obtain rfl := Option.some.inj H
    go_enter Tryd.func8, Tryd.ntmps8
    go_wp2_with (first | ((with_reducible refine gate_dst (N := 9) rfl ?_); refine box_event ?hg (N := 9) ?hd (cs := #[.int .i64 0, .int .i64 0]) (t := 27) ?hr ?_; (case hd => rfl); (case hg => rfl); (case hr => first | (go_simp; done) | (go_simp; rfl)); intro gb101 hg w116 hbox hb; have n0_ := Aside0.mk (below_step (by repeat (first | (with_reducible first | exact HB.out | apply below_alloc | apply pw_below_drewN | apply below_drew1) | exact HB.out)) hb); have n1_ := Aside0.mk (hbox); have n2_ := Aside0.mk ((by rw [hg]; exact (below_size (by repeat (first | (with_reducible first | exact HB.out | apply below_alloc | apply pw_below_drewN | apply below_drew1) | exact HB.out))) : w.heap.size ≤ gb101)); have n3_ := Aside0.mk ((by rw [hg]; exact (below_size (by repeat (first | (with_reducible first | exact HB.out | apply below_alloc | apply pw_below_drewN | apply below_drew1) | exact HB.out))) : w.heap.size ≤ gb101)); clear HB; have HB := n0_; have BK101 := n1_; have GW101 := n2_; have GE101 := n3_; clear n0_ n1_ n2_ n3_; clear hb hbox hg; have hcz117_0 : w116.cell? ⟨gb101, 0, none⟩ = some (.int .i64 0) := (blk_cell BK101.out 0).trans rfl; have hcz117_1 : w116.cell? ⟨gb101, 1, none⟩ = some (.int .i64 0) := (blk_cell BK101.out 1).trans rfl; have hfz117_0 := blk_frozen BK101.out 0; have hfz117_1 := blk_frozen BK101.out 1) | ((with_reducible refine gate_callee (f := 10) rfl ?_); refine goesL_ (some 24) rfl rfl Tryd.func10 (by kernel_rfl) rfl #[] rfl (by (try simp only [List.map_toArray, List.map_cons, List.map_nil]); first | done | rfl | (simp only [List.length_drop, List.length_take]; rfl)) ?_; (with_reducible refine (entrepotlaw02_shown.calls k  false _ (Tabs.kept HT0.out (by repeat (first | (with_reducible first | exact HB.out | apply below_alloc | apply pw_below_drewN | apply below_drew1 | refine below_set ?_ GE101.out) | exact HB.out))) A5.out).mono ?_); rintro e w118 ⟨rfl, hb⟩; refine ⟨_, rfl, ?_⟩; have n0_ := Aside0.mk (blk_below (g := gb101) (o := .cells #[.int .i64 (wrap64 (Int.tdiv (wrap64 (a0)) 32)), .int .i64 (Int.tmod (wrap64 (a1)) 4)] 27 (0, 0)) (by (with_reducible repeat (first | refine blk_drewN ?_ _ | refine blk_drew ?_ | refine blk_alloc ?_ _)); refine blk_put (cs := #[.int .i64 (wrap64 (Int.tdiv (wrap64 (a0)) 32)), .int .i64 0]) ?_ 1 _ rfl; (with_reducible repeat (first | refine blk_drewN ?_ _ | refine blk_drew ?_ | refine blk_alloc ?_ _)); refine blk_put (cs := #[.int .i64 0, .int .i64 0]) ?_ 0 _ rfl; (with_reducible repeat (first | refine blk_drewN ?_ _ | refine blk_drew ?_ | refine blk_alloc ?_ _)); exact BK101.out) hb); have n1_ := Aside0.mk (below_step (by repeat (first | (with_reducible first | exact HB.out | apply below_alloc | apply pw_below_drewN | apply below_drew1 | refine below_set ?_ GE101.out) | exact HB.out)) hb); clear BK101; clear HB; have BK101 := n0_; have HB := n1_; clear n0_ n1_; (try clear hb); (try clear hb2); (try clear hk); (try clear hi)))
    go_ret
    exact ⟨by first | rfl | (simp [errW_none, errW_some] <;> rfl) | (simp [*, errW_none, errW_some] <;> rfl), by repeat (first | (with_reducible first | exact HB.out | apply below_alloc | apply pw_below_drewN | apply below_drew1 | refine below_set ?_ GE101.out) | exact HB.out)⟩

end Go.Proofs.YtldllfadidepaaaDoor.P
namespace Go.Proofs.YtldllfadidepaaaDoor.P
open Go.RowKit
def entrepotlaw02_FixedNoughts.Pure : Prop := ∀ (a0 : Int) (a1 : Int) (a2 : Int) (a3 : Int), (Lit.int .i32 a0).wf = true → (Lit.int .u8 a1).wf = true → (Lit.int .u8 a2).wf = true → (Lit.int .u8 a3).wf = true → ∃ k, entrepotlaw02_FixedNoughts.f k a0 a1 a2 a3 = some true
end Go.Proofs.YtldllfadidepaaaDoor.P
namespace Go.Proofs.YtldllfadidepaaaDoor.Sp

theorem pow_pos' (n : Nat) : (0 : Int) < 10 ^ n := Int.pow_pos (by decide)
theorem quo_hi {c p B : Int} (hp : 1 ≤ p) (hB : 0 ≤ B) (h : p * c ≤ B) : c ≤ B := by
  by_cases h0 : c ≤ 0
  · omega
  · have := Int.mul_le_mul_of_nonneg_right hp (show 0 ≤ c by omega)
    omega
theorem quo_lo {c p B : Int} (hp : 1 ≤ p) (hB : 0 ≤ B) (h : -B ≤ p * c) : -B ≤ c := by
  have := quo_hi (c := -c) hp hB (by rw [Int.mul_neg]; omega)
  omega
theorem pow_cast (n : Nat) : ((10 ^ n : Nat) : Int) = (10 : Int) ^ n := by simp
theorem pow_le' {a b : Nat} (h : a ≤ b) : (10 : Int) ^ a ≤ 10 ^ b := by
  rw [← pow_cast, ← pow_cast]
  exact Int.ofNat_le.2 (Nat.pow_le_pow_right (by omega) h)
theorem pow_add' (a b : Nat) : (10 : Int) ^ (a + b) = 10 ^ a * 10 ^ b := Int.pow_add ..
theorem tmod_dvd (m : Int) : m.tmod 10 = 0 ↔ (10 : Int) ∣ m := (Int.dvd_iff_tmod_eq_zero).symm

theorem least_ex (s : Nat) : ∀ (m : Int), ∃ (a : Int) (t : Nat), least m s = (a, (t : Int)) ∧ t ≤ s ∧ m = a * 10 ^ (s - t) ∧ (t = 0 ∨ ¬ (10 : Int) ∣ a) := by
  induction s with
  | zero => intro m; exact ⟨m, 0, rfl, Nat.le_refl _, by simp, .inl rfl⟩
  | succ s ih =>
    intro m
    by_cases h : m.tmod 10 = 0
    · obtain ⟨a, t, h1, h2, h3, h4⟩ := ih (m.tdiv 10)
      refine ⟨a, t, by rw [least, if_pos h, h1], by omega, ?_, h4⟩
      have hd := (tmod_dvd m).1 h
      have hm : m = m.tdiv 10 * 10 := (Int.tdiv_mul_cancel hd).symm
      rw [hm, h3, show s + 1 - t = (s - t) + 1 from by omega, Int.pow_succ, Int.mul_assoc]
    · exact ⟨m, s + 1, by rw [least, if_neg h], Nat.le_refl _, by simp, .inr fun hd => h ((tmod_dvd m).2 hd)⟩

/-- a number as so many of the least places -/
def mil (m : Int) (s : Nat) : Int := m * 10 ^ (6 - s)
theorem mil_least {m a : Int} {s t : Nat} (hs : s ≤ 6) (ht : t ≤ s) (h : m = a * 10 ^ (s - t)) : mil m s = mil a t := by
  unfold mil
  rw [h, Int.mul_assoc, ← pow_add', show s - t + (6 - s) = 6 - t from by omega]

theorem dvd_of_mul {a b : Int} {i j : Nat} (h : a * 10 ^ i = b * 10 ^ (i + j + 1)) : (10 : Int) ∣ a := by
  rw [show i + j + 1 = i + (j + 1) from by omega, pow_add', ← Int.mul_assoc, Int.mul_right_comm] at h
  have := Int.eq_of_mul_eq_mul_right (Int.ne_of_gt (pow_pos' i)) h
  rw [this, Int.pow_succ, ← Int.mul_assoc]
  exact Int.dvd_mul_left _ _

theorem mil_inj {a b : Int} {t u : Nat} (ht : t ≤ 6) (hu : u ≤ 6) (ha : t = 0 ∨ ¬ (10 : Int) ∣ a) (hb : u = 0 ∨ ¬ (10 : Int) ∣ b) (h : mil a t = mil b u) : a = b ∧ t = u := by
  unfold mil at h
  rcases Nat.lt_trichotomy t u with hl | hl | hl
  · exfalso
    rcases hb with hb | hb
    · omega
    · refine hb (dvd_of_mul (i := 6 - u) (j := u - t - 1) (a := b) (b := a) ?_)
      rw [← h]; congr 2; omega
  · subst hl
    exact ⟨Int.eq_of_mul_eq_mul_right (Int.ne_of_gt (pow_pos' _)) h, rfl⟩
  · exfalso
    rcases ha with ha | ha
    · omega
    · refine ha (dvd_of_mul (i := 6 - t) (j := t - u - 1) (a := a) (b := b) ?_)
      rw [h]; congr 2; omega

theorem least_inj {m n : Int} {s t : Nat} (hs : s ≤ 6) (ht : t ≤ 6) : mil m s = mil n t ↔ least m s = least n t := by
  obtain ⟨a, u, h1, h2, h3, h4⟩ := least_ex s m
  obtain ⟨b, v, k1, k2, k3, k4⟩ := least_ex t n
  rw [h1, k1, mil_least hs h2 h3, mil_least ht k2 k3]
  constructor
  · intro h
    obtain ⟨e1, e2⟩ := mil_inj (by omega) (by omega) h4 k4 h
    rw [e1, e2]
  · intro h
    have e1 : a = b := congrArg Prod.fst h
    have e2 : (u : Int) = v := congrArg Prod.snd h
    have e3 : u = v := by omega
    rw [e1, e3]

/-- how two numbers compare -/
def sig (x y : Int) : Int := if x < y then -1 else if y < x then 1 else 0
def cmpS (m : Int) (s : Nat) (n : Int) (t : Nat) : Int := sig (mil m s) (mil n t)
theorem sig_scale (x y : Int) (k : Nat) : sig (x * 10 ^ k) (y * 10 ^ k) = sig x y := by
  have hp := pow_pos' k
  unfold sig
  have h1 : x * 10 ^ k < y * 10 ^ k ↔ x < y := Int.mul_lt_mul_right hp
  have h2 : y * 10 ^ k < x * 10 ^ k ↔ y < x := Int.mul_lt_mul_right hp
  simp only [h1, h2]
theorem cmp_at (m n : Int) (s t k : Nat) (hs : s ≤ k) (ht : t ≤ k) (hk : k ≤ 6) : sig (m * 10 ^ (k - s)) (n * 10 ^ (k - t)) = cmpS m s n t := by
  unfold cmpS mil
  rw [show 6 - s = (k - s) + (6 - k) from by omega, show 6 - t = (k - t) + (6 - k) from by omega, pow_add', pow_add', ← Int.mul_assoc, ← Int.mul_assoc, sig_scale]
theorem sig_zero (x y : Int) : sig x y = 0 ↔ x = y := by unfold sig; repeat' split
                                                         all_goals omega
theorem sig_swap (x y : Int) : sig x y = - sig y x := by unfold sig; repeat' split
                                                         all_goals omega
theorem sig_le (x y : Int) : sig x y ≤ 0 ↔ x ≤ y := by unfold sig; repeat' split
                                                       all_goals omega
theorem sig_bd (x y : Int) : -1 ≤ sig x y ∧ sig x y ≤ 1 := by unfold sig; repeat' split
                                                              all_goals omega

/-- a number in another scale (0 to 6), or the error -/
def toS (m : Int) (s : Nat) (x : Nat) : Int × Int :=
  if (10 : Int) ^ (6 - x) ∣ mil m s then (if fitsB (mil m s / 10 ^ (6 - x)) = true then (mil m s / 10 ^ (6 - x), 0) else (0, 2)) else (0, 21)

theorem mil_dvd {a : Int} {t x : Nat} (ht : t ≤ 6) (hx : x ≤ 6) (ha : t = 0 ∨ ¬ (10 : Int) ∣ a) : (10 : Int) ^ (6 - x) ∣ mil a t ↔ t ≤ x := by
  unfold mil
  constructor
  · intro h
    refine Nat.le_of_not_lt fun hl => ?_
    rcases ha with ha | ha
    · omega
    · obtain ⟨c, hc⟩ := h
      refine ha (dvd_of_mul (i := 6 - t) (j := t - x - 1) (b := c) ?_)
      rw [hc, Int.mul_comm]; congr 2; omega
  · intro h
    rw [show 6 - t = (6 - x) + (x - t) from by omega, pow_add', ← Int.mul_assoc]
    exact ⟨a * 10 ^ (x - t), by rw [Int.mul_comm a, Int.mul_assoc]⟩
theorem mil_div {a : Int} {t x : Nat} (ht : t ≤ x) (hx : x ≤ 6) : mil a t / 10 ^ (6 - x) = a * 10 ^ (x - t) := by
  unfold mil
  rw [show 6 - t = (x - t) + (6 - x) from by omega, pow_add', ← Int.mul_assoc]
  exact Int.mul_ediv_cancel _ (Int.ne_of_gt (pow_pos' _))
theorem toS_eq (m : Int) (s x : Nat) (hs : s ≤ 6) (hx : x ≤ 6) : toS m s x =
    if (x : Int) < (least m s).2 then (0, 21) else if fitsB ((least m s).1 * 10 ^ (x - (least m s).2.toNat)) = true then ((least m s).1 * 10 ^ (x - (least m s).2.toNat), 0) else (0, 2) := by
  obtain ⟨a, t, h1, h2, h3, h4⟩ := least_ex s m
  unfold toS
  rw [h1, mil_least hs h2 h3]
  simp only [Int.toNat_natCast]
  by_cases hl : t ≤ x
  · rw [if_pos ((mil_dvd (by omega) hx h4).2 hl), mil_div hl hx, if_neg (show ¬ ((x : Int) < (t : Int)) by omega)]
  · rw [if_neg (fun h => hl ((mil_dvd (by omega) hx h4).1 h)), if_pos (by omega)]
theorem toS_ok (m : Int) (s x : Nat) (h : (toS m s x).2 = 0) : mil (toS m s x).1 x = mil m s := by
  unfold toS at h ⊢
  split at h
  · rename_i hd
    rw [if_pos hd]
    split at h
    · rename_i hf
      rw [if_pos hf]
      exact Int.ediv_mul_cancel hd
    · simp at h
  · simp at h
theorem fits_bd {m : Int} (h : fitsB m = true) : -100000000 ≤ m ∧ m ≤ 100000000 := by unfold fitsB at h; simpa using h
theorem toS_fit (m : Int) (s x : Nat) : -100000000 ≤ (toS m s x).1 ∧ (toS m s x).1 ≤ 100000000 := by
  unfold toS
  split
  · split
    · rename_i h; exact fits_bd h
    · decide
  · decide
end Go.Proofs.YtldllfadidepaaaDoor.Sp
namespace Go.Proofs.YtldllfadidepaaaDoor.P
open Go.RowKit Go.Proofs.YtldllfadidepaaaDoor.Sp Go.Proofs.YtldllfadidepaaaDoorW.PrintWords Go.Proofs.YtldllfadidepaaaDoorW.PrintLast Go.Proofs.YtldllfadidepaaaDoorW.PrintMore
set_option linter.unusedSimpArgs false

theorem w64 {n : Int} (h1 : -9223372036854775808 ≤ n) (h2 : n ≤ 9223372036854775807) : wrap64 n = n := by unfold wrap64; omega
theorem succ_of {k n : Nat} (h : n < k) : ∃ m, k = m + 1 ∧ n ≤ m := ⟨k - 1, by omega, by omega⟩

theorem tens_l (n : Nat) (hn : n ≤ 18) (d : Nat) : ∀ (i k : Nat), i + d = n → d < k → fixed_tens.l0 k (10 ^ i) n i = some (10 ^ n) := by
  induction d with
  | zero =>
    intro i k hi hk
    obtain ⟨k, rfl, hk⟩ := succ_of hk
    simp only [fixed_tens.l0]
    rw [if_neg (by omega)]
    rw [show i = n from by omega]
  | succ d ih =>
    intro i k hi hk
    obtain ⟨k, rfl, hk⟩ := succ_of hk
    simp only [fixed_tens.l0]
    rw [if_pos (by omega)]
    have hb : (10 : Int) ^ (i + 1) ≤ 10 ^ 18 := pow_le' (by omega)
    have hp := pow_pos' (i + 1)
    rw [← Int.pow_succ, w64 (by omega) (by omega), w64 (by omega) (by omega)]
    exact ih (i + 1) k (by omega) (by omega)
theorem tens_eq (n : Nat) (hn : n ≤ 18) (k : Nat) (hk : 100 ≤ k) : fixed_tens.f k n = some (10 ^ n) := by
  have := tens_l n hn n 0 k (by omega) (by omega)
  simpa [fixed_tens.f] using this

theorem Least_eq (m : Int) (s : Nat) (hs : s ≤ 50) (h1 : -1000000000000000000 < m) (h2 : m < 1000000000000000000) : ∀ (k : Nat), s < k → fixed_Least.f k m s = some (least m s) := by
  have mono := fun k => fixed_Least.mono m s k
  intro k hk
  induction k with
  | zero => omega
  | succ k ih =>
    by_cases h : s = k
    · subst h; exact Fx.leastF s (by omega) m h1 h2
    · exact mono k _ (ih (by omega))

theorem cmpc_eq (x y : Int) : cmp_Compare_int.f x y = some (sig x y) := by
  unfold cmp_Compare_int.f cmp_isNaN_int.f sig
  simp only [Option.bind_some, bne_self_eq_false, decide_false, Bool.false_eq_true, if_false, ne_eq, not_true_eq_false]
  by_cases h1 : x < y
  · simp [h1]
  · by_cases h2 : y < x
    · simp [h1, h2]
    · simp [h1, h2]

/-- a number that the laws speak of -/
structure NumOk (m : Int) (s : Nat) : Prop where
  lo : -1000000000000 ≤ m
  hi : m ≤ 1000000000000
  sc : s ≤ 6

theorem mul_bd {m p : Int} {b c : Int} (h1 : -b ≤ m) (h2 : m ≤ b) (hp : 0 < p) (hc : p ≤ c) (hb : 0 ≤ b) : -(b * c) ≤ m * p ∧ m * p ≤ b * c := by
  have e1 : m * p ≤ b * p := Int.mul_le_mul_of_nonneg_right h2 (Int.le_of_lt hp)
  have e2 : -b * p ≤ m * p := Int.mul_le_mul_of_nonneg_right h1 (Int.le_of_lt hp)
  have e3 : b * p ≤ b * c := Int.mul_le_mul_of_nonneg_left hc hb
  have e4 : -b * p = -(b * p) := Int.neg_mul ..
  omega
theorem NumOk.bd {m : Int} {s : Nat} (h : NumOk m s) (k : Nat) (hk : k ≤ 6) : -1000000000000000000 ≤ m * 10 ^ k ∧ m * 10 ^ k ≤ 1000000000000000000 := by
  have hp := pow_pos' k
  have hc : (10 : Int) ^ k ≤ 10 ^ 6 := pow_le' hk
  have := mul_bd (b := 1000000000000) (c := 1000000) h.lo h.hi hp (by simpa using hc) (by decide)
  omega

theorem Cmp_eq {m n : Int} {s t : Nat} (hm : NumOk m s) (hn : NumOk n t) (k : Nat) (hk : 100 ≤ k) : fixed_Cmp.f k m s n t = some (cmpS m s n t) := by
  unfold fixed_Cmp.f
  have h1 := hm.sc
  have h2 := hn.sc
  have hx : mx (s : Int) (t : Int) = ((max s t : Nat) : Int) := by unfold mx; omega
  rw [hx]
  rw [show wrap64 (((max s t : Nat) : Int) - (s : Int)) = ((max s t - s : Nat) : Int) from by rw [w64 (by omega) (by omega)]; omega]
  rw [show wrap64 (((max s t : Nat) : Int) - (t : Int)) = ((max s t - t : Nat) : Int) from by rw [w64 (by omega) (by omega)]; omega]
  rw [tens_eq _ (by omega) k hk, tens_eq _ (by omega) k hk]
  simp only [Option.bind_some]
  have b1 := hm.bd (max s t - s) (by omega)
  have b2 := hn.bd (max s t - t) (by omega)
  rw [w64 (by omega) (by omega), w64 (by omega) (by omega), cmpc_eq, cmp_at m n s t (max s t) (by omega) (by omega) (by omega)]
  rfl

theorem To_no (m s x : Int) (hx : x < 0 ∨ 6 < x) (k : Nat) (hk : 0 < k) : fixed_To.f k m s x = some (0, 1) := by
  obtain ⟨k, rfl, hk⟩ := succ_of hk
  unfold fixed_To.f
  by_cases h : x < 0
  · rw [if_pos h]; simp only [fixed_To.j0, if_true]
  · rw [if_neg h]; simp only [fixed_To.j0]; rw [if_pos (by simpa using hx.resolve_left h)]

theorem To_eq {m : Int} {s x : Nat} (hm : NumOk m s) (hx : x ≤ 6) (k : Nat) (hk : 200 ≤ k) : fixed_To.f k m s x = some (toS m s x) := by
  obtain ⟨k, rfl, hk⟩ := succ_of (Nat.lt_of_lt_of_le (by omega : 199 < 200) hk)
  have h1 := hm.sc
  unfold fixed_To.f
  rw [if_neg (by omega)]
  simp only [fixed_To.j0]
  rw [if_neg (by simp; omega)]
  rw [show wrap64 (6 - (s : Int)) = ((6 - s : Nat) : Int) from by rw [w64 (by omega) (by omega)]; omega]
  rw [show wrap64 (6 - (x : Int)) = ((6 - x : Nat) : Int) from by rw [w64 (by omega) (by omega)]; omega]
  rw [tens_eq _ (by omega) k (by omega), tens_eq _ (by omega) k (by omega)]
  simp only [Option.bind_some]
  have b1 := hm.bd (6 - s) (by omega)
  have hp := pow_pos' (6 - x)
  rw [if_neg (by omega), w64 (by omega) (by omega)]
  unfold toS
  have hd : (m * 10 ^ (6 - s)).tmod (10 ^ (6 - x)) = 0 ↔ (10 : Int) ^ (6 - x) ∣ mil m s := (Int.dvd_iff_tmod_eq_zero).symm
  by_cases h : (10 : Int) ^ (6 - x) ∣ mil m s
  · rw [if_pos (hd.2 h), if_pos h, show (m * 10 ^ (6 - s)).tdiv (10 ^ (6 - x)) = mil m s / 10 ^ (6 - x) from Int.tdiv_eq_ediv_of_dvd h]
    have hb : -1000000000000000000 ≤ mil m s / 10 ^ (6 - x) ∧ mil m s / 10 ^ (6 - x) ≤ 1000000000000000000 := by
      obtain ⟨c, hc⟩ := h
      have e : mil m s / 10 ^ (6 - x) = c := by rw [hc]; exact Int.mul_ediv_cancel_left _ (Int.ne_of_gt hp)
      rw [e]
      have hm' : mil m s = m * 10 ^ (6 - s) := rfl
      rw [← hm', hc] at b1
      have hp1 : 1 ≤ (10 : Int) ^ (6 - x) := hp
      exact ⟨quo_lo hp1 (by decide) b1.1, quo_hi hp1 (by decide) b1.2⟩
    rw [w64 (by omega) (by omega)]
    have hf : fixed_fits.f (mil m s / 10 ^ (6 - x)) = some (fitsB (mil m s / 10 ^ (6 - x))) := by
      unfold fixed_fits.f fitsB
      by_cases h : (-100000000 : Int) ≤ mil m s / 10 ^ (6 - x)
      · rw [if_pos h]; simp [h]
      · rw [if_neg h]; simp [h]
    rw [hf]
    simp only [Option.bind_some]
    cases fitsB (mil m s / 10 ^ (6 - x)) <;> rfl
  · rw [if_neg (fun e => h (hd.1 e)), if_neg h]
end Go.Proofs.YtldllfadidepaaaDoor.P
namespace Go.Proofs.YtldllfadidepaaaDoor.P
open Go.RowKit Go.Proofs.YtldllfadidepaaaDoorW.PrintWords Go.Proofs.YtldllfadidepaaaDoorW.PrintLast Go.Proofs.YtldllfadidepaaaDoorW.PrintMore
attribute [local go_sem] max2_int min2_int max_two min_two max_three min_three max_four min_four   -- for this text's walks alone
set_option linter.unusedVariables false
set_option linter.unusedSimpArgs false

/-! ### entrepotlaw02_good: function 15 -/
def entrepotlaw02_good.f (a0_0 : Int) (a0_1 : Int) : Option (Bool) := if a0_1 ≥ 0 then (if a0_1 ≤ 6 then (if a0_0 ≥ (-1000000000000) then (some (decide (a0_0 ≤ 1000000000000))) else (some false)) else (some false)) else (some false)
set_option maxHeartbeats 8000000 in
set_option maxRecDepth 100000 in
theorem entrepotlaw02_good.calls (a0_0 : Int) (a0_1 : Int) (r : Bool) (w : World) (h : entrepotlaw02_good.f a0_0 a0_1 = some r) :
    Calls Tryd.prog 15 #[.agg #[.int .i64 a0_0, .int .i64 a0_1]] w fun e w' => e = .returned (.bool r) ∧ Below w.heap.size w w' := by
  have hu27 := Tryd.underlying27
  have HB := Aside0.mk (Below.refl w.heap.size w)
  have H : (if a0_1 ≥ 0 then (if a0_1 ≤ 6 then (if a0_0 ≥ (-1000000000000) then (some (decide (a0_0 ≤ 1000000000000))) else (some false)) else (some false)) else (some false)) = some r := h
  clear h
  by_cases c2 : a0_1 ≥ 0
  · rw [if_pos c2] at H
    have c2b0 : decide (0 ≤ a0_1) = true := decide_eq_true c2
    clear c2
    by_cases c3 : a0_1 ≤ 6
    · rw [if_pos c3] at H
      have c3b0 : decide (a0_1 ≤ 6) = true := decide_eq_true c3
      clear c3
      by_cases c4 : a0_0 ≥ (-1000000000000)
      · rw [if_pos c4] at H
        have c4b0 : decide ((-1000000000000) ≤ a0_0) = true := decide_eq_true c4
        clear c4
        obtain rfl := Option.some.inj H
        go_enter Tryd.func15, Tryd.ntmps15
        go_wp2_with (first | ((with_reducible refine gate_dst (N := 1) rfl ?_); refine box_event ?hg (N := 1) ?hd (cs := #[.int .i64 a0_0, .int .i64 a0_1]) (t := 27) ?hr ?_; (case hd => rfl); (case hg => rfl); (case hr => first | (go_simp; done) | (go_simp; rfl)); intro gb101 hg w5 hbox hb; have n0_ := Aside0.mk (below_step (by repeat (first | (with_reducible first | exact HB.out | apply below_alloc | apply pw_below_drewN | apply below_drew1) | exact HB.out)) hb); have n1_ := Aside0.mk (hbox); have n2_ := Aside0.mk ((by rw [hg]; exact (below_size (by repeat (first | (with_reducible first | exact HB.out | apply below_alloc | apply pw_below_drewN | apply below_drew1) | exact HB.out))) : w.heap.size ≤ gb101)); have n3_ := Aside0.mk ((by rw [hg]; exact (below_size (by repeat (first | (with_reducible first | exact HB.out | apply below_alloc | apply pw_below_drewN | apply below_drew1) | exact HB.out))) : w.heap.size ≤ gb101)); clear HB; have HB := n0_; have BK101 := n1_; have GW101 := n2_; have GE101 := n3_; clear n0_ n1_ n2_ n3_; clear hb hbox hg; have hcz6_0 : w5.cell? ⟨gb101, 0, none⟩ = some (.int .i64 a0_0) := (blk_cell BK101.out 0).trans rfl; have hcz6_1 : w5.cell? ⟨gb101, 1, none⟩ = some (.int .i64 a0_1) := (blk_cell BK101.out 1).trans rfl; have hfz6_0 := blk_frozen BK101.out 0; have hfz6_1 := blk_frozen BK101.out 1))
        go_ret
        exact ⟨by first | rfl | (simp [errW_none, errW_some] <;> rfl) | (simp [*, errW_none, errW_some] <;> rfl), by repeat (first | (with_reducible first | exact HB.out | apply below_alloc | apply pw_below_drewN | apply below_drew1 | refine below_set ?_ GE101.out) | exact HB.out)⟩
      · rw [if_neg c4] at H
        have c4b0 : decide ((-1000000000000) ≤ a0_0) = false := decide_eq_false c4
        clear c4
        obtain rfl := Option.some.inj H
        go_enter Tryd.func15, Tryd.ntmps15
        go_wp2_with (first | ((with_reducible refine gate_dst (N := 1) rfl ?_); refine box_event ?hg (N := 1) ?hd (cs := #[.int .i64 a0_0, .int .i64 a0_1]) (t := 27) ?hr ?_; (case hd => rfl); (case hg => rfl); (case hr => first | (go_simp; done) | (go_simp; rfl)); intro gb101 hg w7 hbox hb; have n0_ := Aside0.mk (below_step (by repeat (first | (with_reducible first | exact HB.out | apply below_alloc | apply pw_below_drewN | apply below_drew1) | exact HB.out)) hb); have n1_ := Aside0.mk (hbox); have n2_ := Aside0.mk ((by rw [hg]; exact (below_size (by repeat (first | (with_reducible first | exact HB.out | apply below_alloc | apply pw_below_drewN | apply below_drew1) | exact HB.out))) : w.heap.size ≤ gb101)); have n3_ := Aside0.mk ((by rw [hg]; exact (below_size (by repeat (first | (with_reducible first | exact HB.out | apply below_alloc | apply pw_below_drewN | apply below_drew1) | exact HB.out))) : w.heap.size ≤ gb101)); clear HB; have HB := n0_; have BK101 := n1_; have GW101 := n2_; have GE101 := n3_; clear n0_ n1_ n2_ n3_; clear hb hbox hg; have hcz8_0 : w7.cell? ⟨gb101, 0, none⟩ = some (.int .i64 a0_0) := (blk_cell BK101.out 0).trans rfl; have hcz8_1 : w7.cell? ⟨gb101, 1, none⟩ = some (.int .i64 a0_1) := (blk_cell BK101.out 1).trans rfl; have hfz8_0 := blk_frozen BK101.out 0; have hfz8_1 := blk_frozen BK101.out 1))
        go_ret
        exact ⟨by first | rfl | (simp [errW_none, errW_some] <;> rfl) | (simp [*, errW_none, errW_some] <;> rfl), by repeat (first | (with_reducible first | exact HB.out | apply below_alloc | apply pw_below_drewN | apply below_drew1 | refine below_set ?_ GE101.out) | exact HB.out)⟩
    · rw [if_neg c3] at H
      have c3b0 : decide (a0_1 ≤ 6) = false := decide_eq_false c3
      clear c3
      obtain rfl := Option.some.inj H
      go_enter Tryd.func15, Tryd.ntmps15
      go_wp2_with (first | ((with_reducible refine gate_dst (N := 1) rfl ?_); refine box_event ?hg (N := 1) ?hd (cs := #[.int .i64 a0_0, .int .i64 a0_1]) (t := 27) ?hr ?_; (case hd => rfl); (case hg => rfl); (case hr => first | (go_simp; done) | (go_simp; rfl)); intro gb101 hg w9 hbox hb; have n0_ := Aside0.mk (below_step (by repeat (first | (with_reducible first | exact HB.out | apply below_alloc | apply pw_below_drewN | apply below_drew1) | exact HB.out)) hb); have n1_ := Aside0.mk (hbox); have n2_ := Aside0.mk ((by rw [hg]; exact (below_size (by repeat (first | (with_reducible first | exact HB.out | apply below_alloc | apply pw_below_drewN | apply below_drew1) | exact HB.out))) : w.heap.size ≤ gb101)); have n3_ := Aside0.mk ((by rw [hg]; exact (below_size (by repeat (first | (with_reducible first | exact HB.out | apply below_alloc | apply pw_below_drewN | apply below_drew1) | exact HB.out))) : w.heap.size ≤ gb101)); clear HB; have HB := n0_; have BK101 := n1_; have GW101 := n2_; have GE101 := n3_; clear n0_ n1_ n2_ n3_; clear hb hbox hg; have hcz10_0 : w9.cell? ⟨gb101, 0, none⟩ = some (.int .i64 a0_0) := (blk_cell BK101.out 0).trans rfl; have hcz10_1 : w9.cell? ⟨gb101, 1, none⟩ = some (.int .i64 a0_1) := (blk_cell BK101.out 1).trans rfl; have hfz10_0 := blk_frozen BK101.out 0; have hfz10_1 := blk_frozen BK101.out 1))
      go_ret
      exact ⟨by first | rfl | (simp [errW_none, errW_some] <;> rfl) | (simp [*, errW_none, errW_some] <;> rfl), by repeat (first | (with_reducible first | exact HB.out | apply below_alloc | apply pw_below_drewN | apply below_drew1 | refine below_set ?_ GE101.out) | exact HB.out)⟩
  · rw [if_neg c2] at H
    have c2b0 : decide (0 ≤ a0_1) = false := decide_eq_false c2
    clear c2
    obtain rfl := Option.some.inj H
    go_enter Tryd.func15, Tryd.ntmps15
    go_wp2_with (first | ((with_reducible refine gate_dst (N := 1) rfl ?_); refine box_event ?hg (N := 1) ?hd (cs := #[.int .i64 a0_0, .int .i64 a0_1]) (t := 27) ?hr ?_; (case hd => rfl); (case hg => rfl); (case hr => first | (go_simp; done) | (go_simp; rfl)); intro gb101 hg w11 hbox hb; have n0_ := Aside0.mk (below_step (by repeat (first | (with_reducible first | exact HB.out | apply below_alloc | apply pw_below_drewN | apply below_drew1) | exact HB.out)) hb); have n1_ := Aside0.mk (hbox); have n2_ := Aside0.mk ((by rw [hg]; exact (below_size (by repeat (first | (with_reducible first | exact HB.out | apply below_alloc | apply pw_below_drewN | apply below_drew1) | exact HB.out))) : w.heap.size ≤ gb101)); have n3_ := Aside0.mk ((by rw [hg]; exact (below_size (by repeat (first | (with_reducible first | exact HB.out | apply below_alloc | apply pw_below_drewN | apply below_drew1) | exact HB.out))) : w.heap.size ≤ gb101)); clear HB; have HB := n0_; have BK101 := n1_; have GW101 := n2_; have GE101 := n3_; clear n0_ n1_ n2_ n3_; clear hb hbox hg; have hcz12_0 : w11.cell? ⟨gb101, 0, none⟩ = some (.int .i64 a0_0) := (blk_cell BK101.out 0).trans rfl; have hcz12_1 : w11.cell? ⟨gb101, 1, none⟩ = some (.int .i64 a0_1) := (blk_cell BK101.out 1).trans rfl; have hfz12_0 := blk_frozen BK101.out 0; have hfz12_1 := blk_frozen BK101.out 1))
    go_ret
    exact ⟨by first | rfl | (simp [errW_none, errW_some] <;> rfl) | (simp [*, errW_none, errW_some] <;> rfl), by repeat (first | (with_reducible first | exact HB.out | apply below_alloc | apply pw_below_drewN | apply below_drew1 | refine below_set ?_ GE101.out) | exact HB.out)⟩

end Go.Proofs.YtldllfadidepaaaDoor.P
namespace Go.Proofs.YtldllfadidepaaaDoor.P
open Go.RowKit Go.Proofs.YtldllfadidepaaaDoor.Sp Go.Proofs.YtldllfadidepaaaDoorW.PrintWords Go.Proofs.YtldllfadidepaaaDoorW.PrintLast Go.Proofs.YtldllfadidepaaaDoorW.PrintMore
set_option linter.unusedSimpArgs false

theorem print_five : printS (-5) 2 = [45, 48, 46, 48, 53] := by
  unfold printS padS
  rw [show (-5 : Int).natAbs = 5 from rfl, Lib.decDigits_one (by decide)]
  rfl
theorem shown_eq (k : Nat) (hk : 200 ≤ k) : entrepotlaw02_shown.f k = some true := by
  unfold entrepotlaw02_shown.f
  have e1 : fixed_Read.f (⟨#[45, 49, 50, 46, 53, 48]⟩ : ByteArray) = some (-125, 1, 0) := by
    unfold fixed_Read.f
    rw [if_pos (by decide)]
    exact congrArg some (by decide : readS [45, 49, 50, 46, 53, 48] = (-125, 1, 0))
  have e2 : fixed_Int.f (⟨#[48, 49, 48, 48]⟩ : ByteArray) = some (100, 0) := by
    unfold fixed_Int.f
    rw [if_pos (by decide)]
    exact congrArg some (by decide : intS [48, 49, 48, 48] = (100, 0))
  have e3 : fixed_To.f k (-125) 1 3 = some (-12500, 0) := by
    have := To_eq (m := -125) (s := 1) (x := 3) ⟨by decide, by decide, by decide⟩ (by decide) k hk
    rw [show ((1 : Nat) : Int) = 1 from rfl, show ((3 : Nat) : Int) = 3 from rfl] at this
    rw [this]
    exact congrArg some (by decide)
  have e4 : fixed_Print.f (-5) 2 = some ⟨#[45, 48, 46, 48, 53]⟩ := by
    unfold fixed_Print.f
    rw [if_pos (by decide), show (2 : Int).toNat = 2 from rfl, print_five]
  have e5 : fixed_Cmp.f k (-125) 1 (-12) 0 = some (-1) := by
    have := Cmp_eq (m := -125) (s := 1) (n := -12) (t := 0) ⟨by decide, by decide, by decide⟩ ⟨by decide, by decide, by decide⟩ k (by omega)
    rw [show ((1 : Nat) : Int) = 1 from rfl, show ((0 : Nat) : Int) = 0 from rfl] at this
    rw [this]
    exact congrArg some (by decide)
  rw [e1]
  simp only [Option.bind_some]
  rw [e2]
  simp only [Option.bind_some]
  rw [e3]
  simp only [Option.bind_some]
  rw [if_pos trivial, if_pos (by decide), if_pos trivial, if_pos trivial, if_pos trivial, if_pos trivial, e4]
  simp only [Option.bind_some]
  rw [if_pos (by rw [ByteArray.toList_eq]), e5]
  rfl
theorem good_yes {m s : Int} (h : entrepotlaw02_good.f m s = some true) : ∃ t : Nat, s = (t : Int) ∧ NumOk m t := by
  unfold entrepotlaw02_good.f at h
  split at h
  · split at h
    · split at h
      · have h' : m ≤ 1000000000000 := by simpa using h
        exact ⟨s.toNat, by omega, by omega, h', by omega⟩
      · simp at h
    · simp at h
  · simp at h
theorem good_some (m s : Int) : ∃ b, entrepotlaw02_good.f m s = some b := by
  unfold entrepotlaw02_good.f
  repeat' split
  all_goals exact ⟨_, rfl⟩
theorem NumOk.small {m : Int} {s : Nat} (h : NumOk m s) : -1000000000000000000 < m ∧ m < 1000000000000000000 := ⟨by have := h.lo; omega, by have := h.hi; omega⟩
theorem NumOk.least {m : Int} {s : Nat} (h : NumOk m s) (k : Nat) (hk : 100 ≤ k) : fixed_Least.f k m s = some (least m s) :=
  Least_eq m s (by have := h.sc; omega) h.small.1 h.small.2 k (by have := h.sc; omega)
end Go.Proofs.YtldllfadidepaaaDoor.P
namespace Go.Proofs.YtldllfadidepaaaDoor.Sp
set_option linter.unusedSimpArgs false
set_option linter.unusedVariables false

theorem dv_snoc (l : List UInt8) (c : UInt8) : dv (l ++ [c]) = 10 * dv l + (c.toNat - 48) := by simp [dv]
theorem dv_fold (l : List UInt8) : ∀ acc, l.foldl (fun n c => 10 * n + (c.toNat - 48)) acc = acc * 10 ^ l.length + dv l := by
  induction l with
  | nil => intro acc; simp [dv]
  | cons c r ih =>
    intro acc
    simp only [List.foldl_cons, List.length_cons, dv]
    rw [ih, ih (10 * 0 + (c.toNat - 48)), Nat.pow_succ, Nat.mul_comm (10 ^ r.length) 10, ← Nat.mul_assoc, Nat.add_mul, Nat.mul_comm 10 acc]
    simp
    omega
theorem dv_app (a b : List UInt8) : dv (a ++ b) = dv a * 10 ^ b.length + dv b := by
  unfold dv
  rw [List.foldl_append, dv_fold]
  rfl
theorem dv_nought (n : Nat) (l : List UInt8) : dv (List.replicate n 48 ++ l) = dv l := by
  have h : dv (List.replicate n (48 : UInt8)) = 0 := by
    induction n with
    | zero => rfl
    | succ n ih => rw [List.replicate_succ', dv_snoc, ih]; rfl
  rw [dv_app, h]; simp
theorem dv_dec (u : Nat) : dv (Lib.decDigits u) = u := by
  induction u using Nat.strongRecOn with
  | _ u ih =>
    by_cases h : u < 10
    · rw [Lib.decDigits_one h]
      simp [dv]
      omega
    · rw [Lib.decDigits, dif_neg h, dv_snoc, ih (u / 10) (by omega)]
      simp
      omega
theorem dec_dig (u : Nat) : ∀ c ∈ Lib.decDigits u, dig c = true := by
  induction u using Nat.strongRecOn with
  | _ u ih =>
    by_cases h : u < 10
    · rw [Lib.decDigits_one h]
      intro c hc
      simp only [List.mem_singleton] at hc
      subst hc
      simp [dig]; omega
    · rw [Lib.decDigits, dif_neg h]
      intro c hc
      rcases List.mem_append.1 hc with hc | hc
      · exact ih (u / 10) (by omega) c hc
      · simp only [List.mem_singleton] at hc
        subst hc
        simp [dig]; omega
theorem dec_ne (u : Nat) : Lib.decDigits u ≠ [] := by
  intro h
  have := Lib.decDigits_length u
  rw [h] at this
  have := Lib.nDigits_pos u
  simp at *
  omega
theorem pad_dig (m : Int) (s : Nat) : ∀ c ∈ padS m s, dig c = true := by
  intro c hc
  unfold padS at hc
  rcases List.mem_append.1 hc with hc | hc
  · rw [List.mem_replicate] at hc; rw [hc.2]; decide
  · exact dec_dig _ c hc
theorem pad_dv (m : Int) (s : Nat) : dv (padS m s) = m.natAbs := by unfold padS; rw [dv_nought, dv_dec]
theorem pad_len (m : Int) (s : Nat) : (padS m s).length = max (s + 1) (Lib.nDigits m.natAbs) := by
  unfold padS
  rw [List.length_append, List.length_replicate, Lib.decDigits_length]
  omega

theorem not_pre {l : List UInt8} {c : UInt8} {k : UInt8} (h : l.head? ≠ some k) : Lib.hasPrefix l [k] = false := by
  unfold Lib.hasPrefix
  cases l with
  | nil => rfl
  | cons a r =>
    have : a ≠ k := fun e => h (by rw [e]; rfl)
    simp [List.isPrefixOf, Ne.symm this]
theorem pre_cons (r : List UInt8) (k : UInt8) : Lib.hasPrefix (k :: r) [k] = true := by simp [Lib.hasPrefix, List.isPrefixOf]
theorem trim_cons (r : List UInt8) (k : UInt8) : Lib.trimPrefix (k :: r) [k] = r := by unfold Lib.trimPrefix; rw [if_pos (pre_cons r k)]; rfl
theorem trim_not {l : List UInt8} {k : UInt8} (h : Lib.hasPrefix l [k] = false) : Lib.trimPrefix l [k] = l := by unfold Lib.trimPrefix; rw [if_neg (by rw [h]; simp)]
theorem tw_stop {a r : List UInt8} (ha : ∀ c ∈ a, dig c = true) (hr : ∀ c, r.head? = some c → dig c = false) : (a ++ r).takeWhile dig = a ∧ (a ++ r).dropWhile dig = r := by
  induction a with
  | nil =>
    cases r with
    | nil => exact ⟨rfl, rfl⟩
    | cons c t => have := hr c rfl; simp [List.takeWhile_cons, List.dropWhile_cons, this]
  | cons c t ih =>
    obtain ⟨h1, h2⟩ := ih (fun x hx => ha x (by simp [hx]))
    have := ha c (by simp)
    simp [List.takeWhile_cons, List.dropWhile_cons, this, h1, h2]

def sgnT (neg : Bool) : List UInt8 := if neg = true then [45] else []
theorem sgnT_trim (neg : Bool) (b : List UInt8) (hb : b.head? ≠ some 45) : Lib.trimPrefix (sgnT neg ++ b) [45] = b ∧ Lib.hasPrefix (sgnT neg ++ b) [45] = neg := by
  cases neg with
  | true => exact ⟨trim_cons b 45, pre_cons b 45⟩
  | false =>
    have h := not_pre (c := 0) hb
    exact ⟨trim_not h, h⟩
theorem head_app {a b : List UInt8} (ha : a ≠ []) : (a ++ b).head? = a.head? := by cases a with
  | nil => exact absurd rfl ha
  | cons _ _ => rfl
theorem head_dig {a : List UInt8} (h : ∀ c ∈ a, dig c = true) : a.head? ≠ some 45 := by
  cases a with
  | nil => simp
  | cons c t => intro e; have := h c (by simp); simp at e; subst e; simp [dig] at this

/-- a text with a point is read -/
theorem read_point (neg : Bool) (a b : List UInt8) (ha : ∀ c ∈ a, dig c = true) (hb : ∀ c ∈ b, dig c = true) (ha0 : a ≠ []) (hb0 : b ≠ []) (ha1 : a.length ≤ 12) (hb1 : b.length ≤ 6) :
    readS (sgnT neg ++ (a ++ 46 :: b)) = finS neg (a ++ b) b.length := by
  obtain ⟨h1, h2⟩ := sgnT_trim neg (a ++ 46 :: b) (by rw [head_app ha0]; exact head_dig ha)
  obtain ⟨h3, h4⟩ := tw_stop (r := 46 :: b) ha (by intro c hc; simp at hc; subst hc; decide)
  obtain ⟨h5, h6⟩ := tw_stop (r := []) hb (by intro c hc; simp at hc)
  rw [List.append_nil] at h5 h6
  unfold readS
  rw [h1, h2, h3, h4, pre_cons, trim_cons, h5, h6, if_neg (by simp [ha0]; omega), if_pos rfl, if_neg (by simp [hb0]; omega), if_neg (by simp)]
/-- a text without a point is read -/
theorem read_whole (neg : Bool) (a : List UInt8) (ha : ∀ c ∈ a, dig c = true) (ha0 : a ≠ []) (ha1 : a.length ≤ 12) : readS (sgnT neg ++ a) = finS neg a 0 := by
  obtain ⟨h1, h2⟩ := sgnT_trim neg a (head_dig ha)
  obtain ⟨h3, h4⟩ := tw_stop (r := []) ha (by intro c hc; simp at hc)
  rw [List.append_nil] at h3 h4
  unfold readS
  rw [h1, h2, h3, h4, if_neg (by simp [ha0]; omega), if_neg (by decide), if_neg (by simp)]
theorem read_long (neg : Bool) (a : List UInt8) (ha : ∀ c ∈ a, dig c = true) (ha1 : 12 < a.length) : readS (sgnT neg ++ a) = (0, 0, 20) := by
  obtain ⟨h1, h2⟩ := sgnT_trim neg a (head_dig ha)
  obtain ⟨h3, h4⟩ := tw_stop (r := []) ha (by intro c hc; simp at hc)
  rw [List.append_nil] at h3 h4
  unfold readS
  rw [h1, h3, if_pos (.inr ha1)]
theorem int_whole (neg : Bool) (a : List UInt8) (ha : ∀ c ∈ a, dig c = true) (ha0 : a ≠ []) (ha1 : a.length ≤ 12) : intS (sgnT neg ++ a) = if fitsB (sgn neg a) = true then (sgn neg a, 0) else (0, 2) := by
  obtain ⟨h1, h2⟩ := sgnT_trim neg a (head_dig ha)
  obtain ⟨h3, h4⟩ := tw_stop (r := []) ha (by intro c hc; simp at hc)
  rw [List.append_nil] at h3 h4
  unfold intS
  rw [h1, h2, h3, h4, if_neg (by simp [ha0]; omega), if_neg (by simp)]
theorem int_point (neg : Bool) (a b : List UInt8) (ha : ∀ c ∈ a, dig c = true) (ha0 : a ≠ []) (ha1 : a.length ≤ 12) :
    intS (sgnT neg ++ (a ++ 46 :: b)) = (0, 20) := by
  obtain ⟨h1, h2⟩ := sgnT_trim neg (a ++ 46 :: b) (by rw [head_app ha0]; exact head_dig ha)
  obtain ⟨h3, h4⟩ := tw_stop (r := 46 :: b) ha (by intro c hc; simp at hc; subst hc; decide)
  unfold intS
  rw [h1, h3, h4, if_neg (by simp [ha0]; omega), if_pos (by simp)]

/-- what is printed, in parts -/
theorem print_parts (m : Int) (s : Nat) (hs : 0 < s) : ∃ a b : List UInt8, printS m s = sgnT (decide (m < 0)) ++ (a ++ 46 :: b) ∧ a ++ b = padS m s ∧ b.length = s ∧ a ≠ [] ∧ a.length = (padS m s).length - s := by
  have hl := pad_len m s
  refine ⟨(padS m s).take ((padS m s).length - s), (padS m s).drop ((padS m s).length - s), ?_, List.take_append_drop _ _, ?_, ?_, ?_⟩
  · unfold printS sgnT
    rw [if_pos hs]
    by_cases h : m < 0 <;> simp [h]
  · rw [List.length_drop]; omega
  · intro h
    have := congrArg List.length h
    rw [List.length_take] at this
    simp at this
    omega
  · rw [List.length_take]; omega
theorem print_zero (m : Int) : printS m 0 = sgnT (decide (m < 0)) ++ Lib.decDigits m.natAbs := by
  unfold printS sgnT padS
  have h : 0 + 1 - (Lib.decDigits m.natAbs).length = 0 := by
    rw [Lib.decDigits_length]; have := Lib.nDigits_pos m.natAbs; omega
  rw [h, if_neg (Nat.lt_irrefl 0)]
  by_cases h : m < 0 <;> simp [h]
theorem sgn_abs (m : Int) (l : List UInt8) (h : dv l = m.natAbs) : sgn (decide (m < 0)) l = m := by
  unfold sgn
  rw [h]
  by_cases hm : m < 0
  · rw [if_pos (by simpa using hm)]; omega
  · rw [if_neg (by simpa using hm)]; omega
theorem nd_bd {k u : Nat} (h : u < 10 ^ (k + 1)) : Lib.nDigits u ≤ k + 1 := by
  induction k generalizing u with
  | zero => rw [Lib.nDigits_small (by simpa using h)]; exact Nat.le_refl _
  | succ k ih =>
    by_cases h1 : u < 10
    · rw [Lib.nDigits_small h1]; omega
    · rw [Lib.nDigits_big h1]
      have := ih (u := u / 10) (by rw [Nat.pow_succ] at h; omega)
      omega
/-- what is printed is read back -/
theorem read_print (m : Int) (s : Nat) (h1 : -1000000000000 ≤ m) (h2 : m ≤ 1000000000000) (hs : s ≤ 6) (h0 : 0 < s ∨ -1000000000000 < m ∧ m < 1000000000000) :
    readS (printS m s) = if fitsB (least m s).1 = true then ((least m s).1, (least m s).2, 0) else (0, 0, 2) := by
  have hnd : Lib.nDigits m.natAbs ≤ 13 := nd_bd (k := 12) (by omega)
  by_cases h : 0 < s
  · obtain ⟨a, b, e1, e2, e3, e4, e5⟩ := print_parts m s h
    have hl := pad_len m s
    have hd := pad_dig m s
    rw [← e2] at hd
    rw [e1, read_point _ a b (fun c hc => hd c (by simp [hc])) (fun c hc => hd c (by simp [hc])) e4 (by intro e; rw [e] at e3; simp at e3; omega) (by omega) (by omega), e2, e3]
    unfold finS
    rw [sgn_abs m _ (pad_dv m s)]
  · have hs0 : s = 0 := by omega
    subst hs0
    have hnd' : Lib.nDigits m.natAbs ≤ 12 := nd_bd (k := 11) (by omega)
    rw [print_zero, read_whole _ _ (dec_dig _) (dec_ne _) (by rw [Lib.decDigits_length]; exact hnd')]
    unfold finS
    rw [sgn_abs m _ (dv_dec _)]
theorem least_up (m : Int) (s : Nat) : ∀ j, least (m * 10 ^ j) (s + j) = least m s
  | 0 => by simp
  | j + 1 => by
    rw [← Nat.add_assoc, least, Int.pow_succ, ← Int.mul_assoc, if_pos (Int.mul_tmod_left _ _), Int.mul_tdiv_cancel _ (by decide)]
    exact least_up m s j
theorem ba_app (a b : List UInt8) : (⟨a.toArray⟩ : ByteArray) ++ ⟨b.toArray⟩ = ⟨(a ++ b).toArray⟩ := by
  apply ByteArray.ext
  rw [ByteArray.data_append]
  simp
theorem ba_size (a : List UInt8) : (⟨a.toArray⟩ : ByteArray).size = a.length := by
  show a.toArray.size = _
  exact List.size_toArray
/-- the text of a number with a point, whether it has places or not -/
theorem abs_parts (m : Int) (hm : 0 ≤ m) (s : Nat) : ∃ a b : List UInt8, printS m s ++ (if s = 0 then [46] else []) = a ++ 46 :: b ∧ a ++ b = padS m s ∧ b.length = s ∧ a ≠ [] ∧ a.length = (padS m s).length - s := by
  by_cases hs : 0 < s
  · obtain ⟨a, b, e1, e2, e3, e4, e5⟩ := print_parts m s hs
    refine ⟨a, b, ?_, e2, e3, e4, e5⟩
    rw [e1, if_neg (by omega)]
    unfold sgnT
    rw [if_neg (by simpa using hm)]
    simp
  · have hs0 : s = 0 := by omega
    subst hs0
    have hp : padS m 0 = Lib.decDigits m.natAbs := by
      unfold padS
      rw [show 0 + 1 - (Lib.decDigits m.natAbs).length = 0 from by rw [Lib.decDigits_length]; have := Lib.nDigits_pos m.natAbs; omega]
      rfl
    refine ⟨Lib.decDigits m.natAbs, [], ?_, by rw [hp]; simp, rfl, dec_ne _, by rw [hp]; simp⟩
    rw [print_zero, if_pos rfl]
    unfold sgnT
    rw [if_neg (by simpa using hm)]
    simp
/-- noughts ahead and behind change nothing -/
theorem read_noughts (m : Int) (s i j : Nat) (a b : List UInt8) (h1 : -67108864 ≤ m) (h2 : m ≤ 67108864) (hs : s ≤ 3) (hi : i ≤ 3) (hj : 0 < j) (hj3 : j ≤ 3)
    (hab : a ++ b = padS (if m < -m then -m else m) s) (hb : b.length = s) (ha : a ≠ []) (hal : a.length = (padS (if m < -m then -m else m) s).length - s) :
    readS (sgnT (decide (m < 0)) ++ ((List.replicate i 48 ++ a) ++ 46 :: (b ++ List.replicate j 48))) = ((least m s).1, (least m s).2, 0) := by
  have hna : (if m < -m then -m else m).natAbs = m.natAbs := by split <;> omega
  have hnd : Lib.nDigits m.natAbs ≤ 8 := nd_bd (k := 7) (by omega)
  have hl := pad_len (if m < -m then -m else m) s
  have hd := pad_dig (if m < -m then -m else m) s
  rw [hna] at hl
  rw [← hab] at hd
  have hrep : ∀ k, ∀ c ∈ List.replicate k (48 : UInt8), dig c = true := by intro k c hc; rw [List.mem_replicate] at hc; rw [hc.2]; decide
  have d1 : ∀ c ∈ List.replicate i 48 ++ a, dig c = true := by
    intro c hc; rcases List.mem_append.1 hc with hc | hc
    · exact hrep i c hc
    · exact hd c (by simp [hc])
  have d2 : ∀ c ∈ b ++ List.replicate j 48, dig c = true := by
    intro c hc; rcases List.mem_append.1 hc with hc | hc
    · exact hd c (by simp [hc])
    · exact hrep j c hc
  rw [read_point _ _ _ d1 d2 (by simp [ha]) (by intro e; have := congrArg List.length e; simp at this; omega) (by simp; omega) (by simp; omega)]
  have hdv : dv ((List.replicate i 48 ++ a) ++ (b ++ List.replicate j 48)) = m.natAbs * 10 ^ j := by
    rw [← List.append_assoc, List.append_assoc (List.replicate i 48), hab, dv_app, dv_nought, pad_dv, hna, List.length_replicate]
    have : dv (List.replicate j (48 : UInt8)) = 0 := by have := dv_nought j []; simpa [dv] using this
    rw [this]; rfl
  have hsg : sgn (decide (m < 0)) ((List.replicate i 48 ++ a) ++ (b ++ List.replicate j 48)) = m * 10 ^ j := by
    unfold sgn
    rw [hdv]
    have hc : ((m.natAbs * 10 ^ j : Nat) : Int) = (m.natAbs : Int) * 10 ^ j := by push_cast; rfl
    rw [hc]
    by_cases hm : m < 0
    · rw [if_pos (by simpa using hm), ← Int.neg_mul, show -(m.natAbs : Int) = m from by omega]
    · rw [if_neg (by simpa using hm), show (m.natAbs : Int) = m from by omega]
  unfold finS
  rw [hsg, List.length_append, List.length_replicate, hb, least_up]
  have hf : fitsB (least m s).1 = true := by
    obtain ⟨x, u, e1, e2, e3, e4⟩ := least_ex s m
    rw [e1]
    have h3 := quo_hi (p := 10 ^ (s - u)) (c := x) (B := 67108864) (pow_pos' _) (by decide) (by rw [Int.mul_comm, ← e3]; exact h2)
    have h4 := quo_lo (p := 10 ^ (s - u)) (c := x) (B := 67108864) (pow_pos' _) (by decide) (by rw [Int.mul_comm, ← e3]; exact h1)
    unfold fitsB; simp; omega
  rw [if_pos hf]
/-- whole numbers, and numbers -/
theorem whole_yes {l : List UInt8} (h : (intS l).2 = 0) : readS l = ((intS l).1, 0, 0) ∧ -100000000 ≤ (intS l).1 ∧ (intS l).1 ≤ 100000000 := by
  unfold intS at h ⊢
  split at h
  · simp at h
  · rename_i h1
    split at h
    · simp at h
    · rename_i h2
      rw [if_neg h1, if_neg h2]
      simp only [ne_eq, Decidable.not_not] at h2
      split at h
      · rename_i h3
        rw [if_pos h3]
        refine ⟨?_, fits_bd h3⟩
        unfold readS
        rw [if_neg h1, h2, if_neg (by decide), if_neg (by simp)]
        unfold finS
        rw [show (least (sgn (Lib.hasPrefix l [45]) ((Lib.trimPrefix l [45]).takeWhile dig)) 0) = (sgn (Lib.hasPrefix l [45]) ((Lib.trimPrefix l [45]).takeWhile dig), 0) from rfl, if_pos h3]
      · simp at h
theorem read_err {l : List UInt8} (h : (readS l).2.2 ≠ 0) : (readS l).1 = 0 ∧ (readS l).2.1 = 0 := by
  unfold readS finS at h ⊢
  repeat' split
  all_goals simp_all
theorem int_err {l : List UInt8} (h : (intS l).2 ≠ 0) : (intS l).1 = 0 := by
  unfold intS at h ⊢
  repeat' split
  all_goals simp_all
theorem whole_no {l : List UInt8} (h : (intS l).2 ≠ 0) (hr : (readS l).2.2 = 0) : (intS l).2 = 20 := by
  unfold intS at h ⊢
  split at h
  · rename_i h1; rw [if_pos h1]
  · rename_i h1
    split at h
    · rename_i h2; rw [if_neg h1, if_pos h2]
    · rename_i h2
      exfalso
      simp only [ne_eq, Decidable.not_not] at h2
      split at h
      · simp at h
      · rename_i h3
        unfold readS at hr
        rw [if_neg h1, h2, if_neg (by decide), if_neg (by simp)] at hr
        unfold finS at hr
        rw [show (least (sgn (Lib.hasPrefix l [45]) ((Lib.trimPrefix l [45]).takeWhile dig)) 0) = (sgn (Lib.hasPrefix l [45]) ((Lib.trimPrefix l [45]).takeWhile dig), 0) from rfl, if_neg h3] at hr
        simp at hr
end Go.Proofs.YtldllfadidepaaaDoor.Sp
namespace Go.Proofs.YtldllfadidepaaaDoor.Pure
open Go.RowKit Go.Proofs.YtldllfadidepaaaDoor.P Go.Proofs.YtldllfadidepaaaDoor.Sp Go.Proofs.YtldllfadidepaaaDoorW.PrintWords Go.Proofs.YtldllfadidepaaaDoorW.PrintLast Go.Proofs.YtldllfadidepaaaDoorW.PrintMore
theorem nought_tail (m : Int) (s : Nat) (T : List UInt8) (y : Int) (J : Nat) (hJ : wrap64 (1 + Int.tmod (wrap64 y) 3) = (J : Int)) (hJ3 : J ≤ 3) (hm1 : -67108864 ≤ m) (hm2 : m ≤ 67108864) (hs : s ≤ 3) (hT : T.length ≤ 100)
    (hR : readS (sgnT (decide (m < 0)) ++ (T ++ List.replicate J 48)) = ((least m s).1, (least m s).2, 0)) (d : Nat) : ∀ (j k : Nat), j + d = J → 200 + d ≤ k →
    entrepotlaw02_FixedNoughts.l1 k y 0 ⟨(T ++ List.replicate j 48).toArray⟩ j m s (least m s).1 (least m s).2 = some true := by
  induction d with
  | zero =>
    intro j k hj hk
    obtain ⟨k, rfl, hk⟩ := succ_of (Nat.lt_of_lt_of_le (by omega : 199 < 200) (show 200 ≤ k by omega))
    have hjJ : j = J := by omega
    subst hjJ
    simp only [entrepotlaw02_FixedNoughts.l1]
    rw [hJ, if_neg (by omega)]
    have hl : (T ++ List.replicate j 48).length ≤ 110 := by simp; omega
    have hLe := Least_eq m s (by omega) (by omega) (by omega) k (by omega)
    have fin : ∀ z : List UInt8, z.length ≤ 1000 → readS z = ((least m s).1, (least m s).2, 0) → fixed_Read.f ⟨z.toArray⟩ = some ((least m s).1, (least m s).2, 0) := by
      intro z hz hr
      unfold fixed_Read.f
      rw [if_pos (by rw [ba_size]; omega)]
      exact congrArg some hr
    by_cases hm : m < 0
    · rw [if_pos hm, if_pos (by rw [ba_size]; omega)]
      have e : (⟨#[45]⟩ : ByteArray) ++ ⟨(T ++ List.replicate j 48).toArray⟩ = ⟨([45] ++ (T ++ List.replicate j 48)).toArray⟩ := ba_app [45] _
      rw [e, fin _ (by simp; omega) (by have := hR; unfold sgnT at this; rwa [if_pos (by simpa using hm)] at this)]
      simp only [Option.bind_some]
      rw [if_pos trivial, if_pos trivial, if_pos (by simp), hLe]
      simp
    · rw [if_neg hm]
      rw [fin _ (by omega) (by have := hR; unfold sgnT at this; rw [if_neg (by simpa using hm)] at this; simpa using this)]
      simp only [Option.bind_some]
      rw [if_pos trivial, if_pos trivial, if_pos (by simp), hLe]
      simp
  | succ d ih =>
    intro j k hj hk
    obtain ⟨k, rfl, hk⟩ := succ_of (Nat.lt_of_lt_of_le (by omega : 200 + d < 200 + (d + 1)) hk)
    simp only [entrepotlaw02_FixedNoughts.l1]
    rw [hJ, if_pos (by omega), if_pos (by rw [ba_size]; simp; omega)]
    have e : (⟨(T ++ List.replicate j 48).toArray⟩ : ByteArray) ++ ⟨#[48]⟩ = ⟨(T ++ List.replicate (j + 1) 48).toArray⟩ := by
      rw [List.replicate_succ', ← List.append_assoc]; exact ba_app _ [48]
    rw [e, w64 (by omega) (by omega)]
    exact ih (j + 1) k (by omega) (by omega)
theorem nought_head (m : Int) (s : Nat) (T : List UInt8) (x y : Int) (I J : Nat) (hI : Int.tmod (wrap64 x) 4 = (I : Int)) (hI3 : I ≤ 3) (hJ : wrap64 (1 + Int.tmod (wrap64 y) 3) = (J : Int)) (hJ3 : J ≤ 3) (hm1 : -67108864 ≤ m) (hm2 : m ≤ 67108864) (hs : s ≤ 3) (hT : T.length ≤ 50)
    (hR : readS (sgnT (decide (m < 0)) ++ ((List.replicate I 48 ++ T) ++ List.replicate J 48)) = ((least m s).1, (least m s).2, 0)) (d : Nat) : ∀ (i k : Nat), i + d = I → 400 + d ≤ k →
    entrepotlaw02_FixedNoughts.l0 k x y 0 ⟨(List.replicate i 48 ++ T).toArray⟩ i m s (least m s).1 (least m s).2 = some true := by
  induction d with
  | zero =>
    intro i k hi hk
    obtain ⟨k, rfl, hk⟩ := succ_of (Nat.lt_of_lt_of_le (by omega : 399 < 400) (show 400 ≤ k by omega))
    have hiI : i = I := by omega
    subst hiI
    simp only [entrepotlaw02_FixedNoughts.l0]
    rw [hI, if_neg (by omega)]
    have := nought_tail m s (List.replicate i 48 ++ T) y J hJ hJ3 hm1 hm2 hs (by simp; omega) hR J 0 k (by omega) (by omega)
    simpa using this
  | succ d ih =>
    intro i k hi hk
    obtain ⟨k, rfl, hk⟩ := succ_of (Nat.lt_of_lt_of_le (by omega : 400 + d < 400 + (d + 1)) hk)
    simp only [entrepotlaw02_FixedNoughts.l0]
    rw [hI, if_pos (by omega), if_pos (by rw [ba_size]; simp; omega)]
    have e : (⟨#[48]⟩ : ByteArray) ++ ⟨(List.replicate i 48 ++ T).toArray⟩ = ⟨(List.replicate (i + 1) 48 ++ T).toArray⟩ := ba_app [48] _
    rw [e, w64 (by omega) (by omega)]
    exact ih (i + 1) k (by omega) (by omega)
theorem FixedNoughts : entrepotlaw02_FixedNoughts.Pure := by
  intro a0 a1 x y h1 h2 h3 h4
  refine ⟨1000, ?_⟩
  obtain ⟨b1, b2⟩ := bounds_i32 h1
  obtain ⟨c1, c2⟩ := bounds_u8 h2
  obtain ⟨d1, d2⟩ := bounds_u8 h3
  obtain ⟨e1, e2⟩ := bounds_u8 h4
  unfold entrepotlaw02_FixedNoughts.f
  rw [shown_eq 1000 (by decide)]
  simp only [Option.bind_some, if_true]
  rw [w64 (n := a0) (by omega) (by omega)]
  have htd : (a0.tdiv 32).natAbs = a0.natAbs / 32 := Int.natAbs_tdiv a0 32
  have tmz : ∀ (z n : Int), 0 ≤ z → Int.tmod z n = z % n := fun z n hz => Int.tmod_eq_emod_of_nonneg hz
  generalize hm : wrap64 (a0.tdiv 32) = m
  have hm1 : -67108864 ≤ m := by rw [← hm, w64 (by omega) (by omega)]; omega
  have hm2 : m ≤ 67108864 := by rw [← hm, w64 (by omega) (by omega)]; omega
  obtain ⟨s, hs⟩ := Int.eq_ofNat_of_zero_le (show 0 ≤ Int.tmod (wrap64 a1) 4 by rw [w64 (by omega) (by omega), tmz _ _ (by omega)]; omega)
  have hs3 : s ≤ 3 := by have : Int.tmod (wrap64 a1) 4 < 4 := by rw [w64 (by omega) (by omega), tmz _ _ (by omega)]; omega
                         omega
  obtain ⟨I, hI⟩ := Int.eq_ofNat_of_zero_le (show 0 ≤ Int.tmod (wrap64 x) 4 by rw [w64 (by omega) (by omega), tmz _ _ (by omega)]; omega)
  have hI3 : I ≤ 3 := by have : Int.tmod (wrap64 x) 4 < 4 := by rw [w64 (by omega) (by omega), tmz _ _ (by omega)]; omega
                         omega
  obtain ⟨J0, hJ0⟩ := Int.eq_ofNat_of_zero_le (show 0 ≤ Int.tmod (wrap64 y) 3 by rw [w64 (by omega) (by omega), tmz _ _ (by omega)]; omega)
  have hJ3 : J0 ≤ 2 := by have : Int.tmod (wrap64 y) 3 < 3 := by rw [w64 (by omega) (by omega), tmz _ _ (by omega)]; omega
                          omega
  have hJ : wrap64 (1 + Int.tmod (wrap64 y) 3) = ((J0 + 1 : Nat) : Int) := by rw [hJ0, w64 (by omega) (by omega)]; omega
  rw [hs]
  have hmx : mx m (wrap64 (-m)) = (if m < -m then -m else m) := by rw [w64 (by omega) (by omega)]; rfl
  rw [hmx]
  have hp1 : fixed_Print.f m s = some ⟨(printS m s).toArray⟩ := by unfold fixed_Print.f; rw [if_pos (by omega)]; rfl
  have hp2 : fixed_Print.f (if m < -m then -m else m) s = some ⟨(printS (if m < -m then -m else m) s).toArray⟩ := by unfold fixed_Print.f; rw [if_pos (by split <;> omega)]; rfl
  rw [hp1]
  simp only [Option.bind_some]
  have hrp := read_print m s (by omega) (by omega) (by omega) (.inr (by omega))
  have hfit : fitsB (least m s).1 = true := by
    obtain ⟨a, u, e1, e2, e3, e4⟩ := least_ex s m
    rw [e1]
    have h3 := quo_hi (p := 10 ^ (s - u)) (c := a) (B := 67108864) (pow_pos' _) (by decide) (by rw [Int.mul_comm, ← e3]; exact hm2)
    have h4 := quo_lo (p := 10 ^ (s - u)) (c := a) (B := 67108864) (pow_pos' _) (by decide) (by rw [Int.mul_comm, ← e3]; exact hm1)
    unfold fitsB; simp; omega
  rw [if_pos hfit] at hrp
  have hnd : Lib.nDigits m.natAbs ≤ 13 := nd_bd (k := 12) (by omega)
  have hl := pad_len m s
  have hsz : (printS m s).length ≤ 100 := by
    unfold printS
    split <;> split <;> simp [List.length_take, List.length_drop] <;> omega
  have hr1 : fixed_Read.f ⟨(printS m s).toArray⟩ = some ((least m s).1, (least m s).2, 0) := by
    unfold fixed_Read.f
    rw [if_pos (by rw [ba_size]; omega)]
    exact congrArg some hrp
  rw [hr1]
  simp only [Option.bind_some]
  rw [hp2]
  simp only [Option.bind_some]
  obtain ⟨A, Bt, f1, f2, f3, f4, f5⟩ := abs_parts (if m < -m then -m else m) (by split <;> omega) s
  have hna : (if m < -m then -m else m).natAbs = m.natAbs := by split <;> omega
  have hl2 := pad_len (if m < -m then -m else m) s
  rw [hna] at hl2
  have hRR := read_noughts m s I (J0 + 1) A Bt hm1 hm2 hs3 hI3 (by omega) (by omega) f2 f3 f4 f5
  have hTl : (A ++ 46 :: Bt).length ≤ 50 := by simp; omega
  have key := nought_head m s (A ++ 46 :: Bt) x y I (J0 + 1) hI hI3 hJ (by omega) hm1 hm2 hs3 hTl (by simpa using hRR) I 0 999 (by omega) (by omega)
  have key' : entrepotlaw02_FixedNoughts.j0 1000 x y 0 ⟨(A ++ 46 :: Bt).toArray⟩ m s (least m s).1 (least m s).2 = some true := by
    simp only [entrepotlaw02_FixedNoughts.j0]
    simpa using key
  by_cases h0 : s = 0
  · rw [if_pos (by omega), if_pos (by
      rw [ba_size]
      have := congrArg List.length f1
      simp at this hTl
      omega)]
    have e : (⟨(printS (if m < -m then -m else m) s).toArray⟩ : ByteArray) ++ ⟨#[46]⟩ = ⟨(A ++ 46 :: Bt).toArray⟩ := by
      rw [← f1, if_pos h0]; exact ba_app _ [46]
    rw [e]
    exact key'
  · rw [if_neg (by omega)]
    rw [if_neg h0, List.append_nil] at f1
    rw [f1]
    exact key'
end Go.Proofs.YtldllfadidepaaaDoor.Pure
