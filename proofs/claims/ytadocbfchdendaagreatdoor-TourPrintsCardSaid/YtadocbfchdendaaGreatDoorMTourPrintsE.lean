/- TourPrints holds for every input: the law returns true, and its arguments read as they read. Its condition: the library's tables and errors that the row lists lie as the program's text lays them (the card ties this). -/
import Derived.Test.YtadocbfchdendaaGreatDoorMTourPrintsD
import Derived.Test.YtadocbfchdendaaGreatDoorMTourPrintsA
import Derived.ChangeArms
import Derived.DataReads
import Derived.WideShapes
import Derived.OpenShut
import Derived.Test.YtadocbfchdendaaGreatDoorRows
import Derived.Test.YtadocbfchdendaaGreatDoorCards
import Derived.Test.YtadocbfchdendaaGreatDoorTie
import Derived.WalkKit
import Derived.ProofKit
import Derived.ShutString
import Derived.ChangeOld
import Derived.Below
import Derived.SizedLaws
import Derived.LaidMore
import Derived.Lay
import Derived.SevenTiedAt
import Derived.Lib.SmallJoins
import Derived.Stop.LaidErr
import Derived.Lib.LaidTab
import Derived.Carry
import Derived.Stop.Joined
set_option linter.unusedVariables false
set_option linter.unusedSimpArgs false
set_option linter.unusedSimpArgs false
namespace Go.Proofs.YtadocbfchdendaaGreatDoor.Pure
open Go.RowKit Go.Proofs.YtadocbfchdendaaGreatDoor.P Go.Proofs.YtadocbfchdendaaGreatDoor.Cu
theorem TourPrints : entrepotlaw16_TourPrints.Pure := by
  intro name l cost hash _ hl _
  refine ⟨1000000, ?_⟩
  obtain ⟨K, hK⟩ : ∃ K, (1000000 : Nat) = K + 1 := ⟨999999, rfl⟩
  rw [hK]
  have hK2 : 900000 < K := by omega
  clear hK
  have hno : entrepotlaw16_TourPrints.j0 (K + 1) name cost hash true l = some true := by
    rw [entrepotlaw16_TourPrints.j0, if_pos rfl, up16 K (by omega)]
    rfl
  unfold entrepotlaw16_TourPrints.f
  by_cases h1 : (name.size : Int) > 100
  · rw [if_pos h1]; exact hno
  · rw [if_neg h1]
    rcases long_eq l (K + 1) (by omega) with hb | ⟨hb, h60, h45⟩
    · rw [hb]
      simp only [Option.bind_some, if_true]
      exact hno
    · rw [hb]
      simp only [Option.bind_some, Bool.false_eq_true, if_false]
      rw [up16 (K + 1) (by omega)]
      simp only [Option.bind_some, Bool.not_true]
      rw [entrepotlaw16_TourPrints.j0, if_neg (by decide), ptour_eq name (by omega) l K (by omega)]
      simp only [Option.bind_some, entrepotlaw16_its.f]
      rw [rptour_eq name (by omega) l K (by omega)]
      simp only [Option.bind_some, if_true]
      obtain ⟨K, rfl, hK⟩ := succ' hK2
      have hj1 : entrepotlaw16_TourPrints.j1 (K + 1) cost hash true l = some true := by rw [entrepotlaw16_TourPrints.j1, if_pos rfl]
      rcases small_eq l h60 h45 (K + 1) (by omega) with hs | ⟨hs, hsm⟩
      · rw [hs]
        simp only [Option.bind_some, Bool.false_eq_true, if_false]
        exact hj1
      · rw [hs]
        simp only [Option.bind_some, if_true]
        by_cases h2 : cost < -1
        · rw [if_pos h2]; exact hj1
        · rw [if_neg h2]
          cases h3 : decide (cost > 100000000) with
          | true => exact hj1
          | false =>
            have h4 : ¬ cost > 100000000 := by simpa using h3
            rw [entrepotlaw16_TourPrints.j1, if_neg (by decide), (proutes_eq l cost hash h60 (fun r hr => ⟨h45 r hr, hsm r hr⟩) (by omega) (by omega)).1]
            simp only [Option.bind_some, entrepotlaw16_its.f]
            rw [rroutes_eq l cost hash h60 (fun r hr => ⟨h45 r hr, hsm r hr⟩) (by omega) (by omega) K (by omega)]
            simp
end Go.Proofs.YtadocbfchdendaaGreatDoor.Pure
namespace Go.Proofs.YtadocbfchdendaaGreatDoor.Op
open Go Go.RowKit Go.Proofs.YtadocbfchdendaaGreatDoorW.PrintWords
set_option linter.unusedSimpArgs false
section
variable {H : Type} {enc : TypeId × Value → H} {P : Program} {w : World}
def Opens (enc : TypeId × Value → H) (P : Program) (w : World) {α : Type} (t : TypeId) (d : Kd α) (Q : α → Prop) : Prop :=
  d.sz = P.cellsOf t ∧ ∀ (n : Nat) (cs : List Value) x, DataW.trod enc P w 0 (fun _ => true) true n t cs = some x → ∃ v, d.K w v cs ∧ Q v
theorem opens_int {t : TypeId} {k : IntKind} (ht : P.underlying t = some (.int k)) (hc : P.cellsOf t = 1) : Opens enc P w t (Kd.int k) (fun v => (Lit.int k v).wf = true) := by
  refine ⟨hc.symm, fun n cs x h => ?_⟩
  obtain ⟨v, e, _, hw⟩ := DataW.trod_int ht h
  exact ⟨v, e, hw⟩
theorem add_assoc' (a : Addr) (i j : Nat) : (a.add i).add j = a.add (i + j) := by
  unfold Addr.add
  by_cases h1 : i = 0 <;> by_cases h2 : j = 0 <;> simp [h1, h2, Nat.add_assoc]
theorem exists_list {α : Type} (p : Nat → α → Prop) (n : Nat) (h : ∀ i, i < n → ∃ v, p i v) : ∃ l : List α, l.length = n ∧ ∀ i v, l[i]? = some v → p i v := by
  induction n with
  | zero => exact ⟨[], rfl, fun i v h => by simp at h⟩
  | succ n ih =>
    obtain ⟨l, hl, hp⟩ := ih (fun i hi => h i (by omega))
    obtain ⟨v, hv⟩ := h n (by omega)
    refine ⟨l ++ [v], by simp [hl], fun i u hu => ?_⟩
    by_cases e : i < n
    · rw [List.getElem?_append_left (by omega)] at hu
      exact hp i u hu
    · rw [List.getElem?_append_right (by omega)] at hu
      have e' : i = n := by
        have := (List.getElem?_eq_some_iff.1 hu).1
        simp at this; omega
      subst e'
      rw [hl, Nat.sub_self] at hu
      obtain rfl : v = u := by simpa using hu
      exact hv
theorem opens_slice {α : Type} {t e : TypeId} {d : Kd α} {Q : α → Prop} (ht : P.underlying t = some (.slice e)) (hc : P.cellsOf t = 1) (he : Opens enc P w e d Q) (e' : Nat) :
    Opens enc P w t (Kd.slice e' d) (fun l => l.length ≤ maxLen ∧ ∀ v ∈ l, Q v) := by
  refine ⟨hc.symm, fun n cs x h => ?_⟩
  rcases DataW.trod_slice ht h with ⟨rfl, _⟩ | ⟨a, len, cap, elems, rest, m, _, rfl, _, _, hl, hm, hn, hel, _⟩
  · refine ⟨[], ⟨none, 0, rfl, Nat.le_refl _, ?_⟩, Nat.zero_le _, by simp⟩
    exact ⟨rfl, by simp, fun h0 => absurd h0 (by simp)⟩
  · obtain ⟨l, hll, hp⟩ := exists_list (fun i v => ∃ c, w.cells? 0 (a.add (i * P.cellsOf e)) (P.cellsOf e) = some c ∧ d.K w v c ∧ Q v) len (by
      intro i hi
      have h1 := hel i hi
      obtain ⟨y, hy⟩ : ∃ y, elems[i]? = some y := ⟨_, List.getElem?_eq_getElem (by omega)⟩
      rw [hy] at h1
      obtain ⟨c, h2, h3⟩ := Option.bind_eq_some_iff.1 h1
      obtain ⟨v, h4, h5⟩ := he.2 m c y h3
      exact ⟨v, c, h2, h4, h5⟩)
    subst hll
    have hm' : l.length ≤ maxLen := Nat.le_trans hl hm
    refine ⟨l, ⟨some a, cap, rfl, hl, rfl, (by unfold maxLen at hm'; omega), fun _ => ⟨a, rfl, fun j p hj => ?_⟩⟩, hm', fun v hv => ?_⟩
    · obtain ⟨c, h2, h4, _⟩ := hp j p hj
      refine ⟨c, d.K_len h4, h4, fun i u hu => ?_⟩
      obtain ⟨_, h6, h7⟩ := World.cells?_some h2
      have hi : i < P.cellsOf e := by rw [← h6]; exact (List.getElem?_eq_some_iff.1 hu).1
      have := (h7 i hi).trans hu
      rw [he.1]
      rwa [show (a.add (j * P.cellsOf e)).add i = a.add (j * P.cellsOf e + i) from add_assoc' _ _ _] at this
    · obtain ⟨i, hi⟩ := List.mem_iff_getElem?.1 hv
      obtain ⟨_, _, _, h5⟩ := hp i v hi
      exact h5
def OpensF (enc : TypeId × Value → H) (P : Program) (w : World) {α : Type} (fs : List Field) (off : Nat) (d : Kd α) (Q : α → Prop) : Prop :=
  ∀ (n : Nat) (cs : List Value) (xs : List (DataW H × List MemPlace)), xs.length = fs.length → (∀ (i : Nat) (f : Field), fs[i]? = some f → DataW.trod enc P w 0 (fun _ => true) true n f.type ((cs.drop f.offset).take (P.cellsOf f.type)) = xs[i]?) →
    cs.length = off + d.sz → ∃ v, d.K w v (cs.drop off) ∧ Q v
theorem opens_last {α : Type} {f : Field} {off : Nat} {d : Kd α} {Q : α → Prop} (ho : f.offset = off) (h : Opens enc P w f.type d Q) : OpensF enc P w [f] off d Q := by
  intro n cs xs hl hx hc
  subst ho
  obtain ⟨y, hy⟩ : ∃ y, xs[0]? = some y := ⟨_, List.getElem?_eq_getElem (by simp [hl])⟩
  have h1 := hx 0 f rfl
  rw [hy] at h1
  have h2 := h.2 _ _ _ h1
  rwa [← h.1, List.take_of_length_le (by rw [List.length_drop]; omega)] at h2
theorem opens_plain {α : Type} {t : TypeId} {fs : Array Field} {d : Kd α} {Q : α → Prop} (ht : P.underlying t = some (.struct fs)) (hc : d.sz = P.cellsOf t) (hf : OpensF enc P w fs.toList 0 d Q) : Opens enc P w t d Q := by
  refine ⟨hc, fun n cs x h => ?_⟩
  obtain ⟨xs, m, _, _, hl, hlen, hx⟩ := DataW.trod_struct ht h
  obtain ⟨v, hv, qv⟩ := hf m cs xs (by simpa using hlen) (fun i f hi => hx i f (by simpa using hi)) (by rw [hl, hc, Nat.zero_add])
  exact ⟨v, by simpa using hv, qv⟩
theorem arg_struct {α : Type} {t : TypeId} {fs : Array Field} {d : Kd α} {Q : α → Prop} {r : Reach} {b : Nat} {v : Value} {D : DataW H} {p : List MemPlace} (ht : P.underlying t = some (.struct fs)) (ho : Opens enc P w t d Q)
    (hv : Value.okWide P w r b t v) (h : DataW.Trod enc P w 0 (fun _ => true) true t v D p) : ∃ cs x, v = .agg cs ∧ d.K w x cs.toList ∧ Q x := by
  obtain ⟨cs, rfl, _⟩ := WideShapes.okWide_struct ht hv
  obtain ⟨n, hn⟩ := h
  obtain ⟨x, hx, hQ⟩ := ho.2 n _ _ hn
  exact ⟨cs, x, rfl, by simpa [Value.cells] using hx, hQ⟩
end
end Go.Proofs.YtadocbfchdendaaGreatDoor.Op
namespace Go.Proofs.YtadocbfchdendaaGreatDoor.lawTourPrints
open Go Go.ChangeShapes Go.WideShapes Go.ChangeAt Go.RowKit
open Go.ChangeMaps (open_string shut_string)
open Go.Proofs.YtadocbfchdendaaGreatDoorW.PrintWords Go.Proofs.YtadocbfchdendaaGreatDoor.P
set_option linter.unusedVariables false
set_option linter.unusedSimpArgs false
theorem own : ownKnob Tryz.prog.godebug = none := by kernel_rfl
theorem laidOut : laidOutB Tryz.prog = true := by kernel_rfl
theorem tabs {W : World} (h : laidMetH Tryz.prog [("math/bits.deBruijn32tab", Rows.laid_math_bits_deBruijn32tab), ("math/bits.deBruijn64tab", Rows.laid_math_bits_deBruijn64tab), ("internal/strconv.uint64pow10", Rows.laid_internal_strconv_uint64pow10), ("unicode/utf8.acceptRanges", Rows.laid_unicode_utf8_acceptRanges), ("strconv.ErrRange", Rows.laid_strconv_ErrRange), ("strconv.ErrSyntax", Rows.laid_strconv_ErrSyntax), ("unicode/utf8.first", Rows.laid_unicode_utf8_first)] W) : Tabs W := by
  rw [MakeChecks.laidMetH_plain _ _ _ (by kernel_rfl)] at h
  have h := h.tail
  have h := h.tail
  exact Lib.tabBelow_of_tabIs (Lib.tabIs_of_head (k := .u64) (zs := Lib.pow10Tab) (g := 1) (t := 213) (e := 119) (n := 20) (by kernel_rfl) (by kernel_rfl) Tryz.underlying213 Tryz.underlying119 (by kernel_rfl) (by kernel_rfl) h)
set_option maxRecDepth 100000 in
theorem lifted (os : Os) (started : os.Started) (H : Type) (enc : TypeId × Value → H) :
    ReturnsInHanded {} Tryz.checked os 11 .any (fun w args => (Rows.tourPrintsSpec.pre enc Tryz.prog Tryz.f11 [] false w args ∧ laidMetH Tryz.prog [("math/bits.deBruijn32tab", Rows.laid_math_bits_deBruijn32tab), ("math/bits.deBruijn64tab", Rows.laid_math_bits_deBruijn64tab), ("internal/strconv.uint64pow10", Rows.laid_internal_strconv_uint64pow10), ("unicode/utf8.acceptRanges", Rows.laid_unicode_utf8_acceptRanges), ("strconv.ErrRange", Rows.laid_strconv_ErrRange), ("strconv.ErrSyntax", Rows.laid_strconv_ErrSyntax), ("unicode/utf8.first", Rows.laid_unicode_utf8_first)] w) ∧ sizedMet enc Tryz.prog Tryz.f11 (OpenSpec.ofChange Rows.tourPrintsSpec) false w args)
      (Rows.tourPrintsSpec.post enc Tryz.prog Tryz.f11 false true false false) := by
  refine returnsInHanded_of_change_and (C := Tryz.checked) (X := fun w _ => laidMetH Tryz.prog [("math/bits.deBruijn32tab", Rows.laid_math_bits_deBruijn32tab), ("math/bits.deBruijn64tab", Rows.laid_math_bits_deBruijn64tab), ("internal/strconv.uint64pow10", Rows.laid_internal_strconv_uint64pow10), ("unicode/utf8.acceptRanges", Rows.laid_unicode_utf8_acceptRanges), ("strconv.ErrRange", Rows.laid_strconv_ErrRange), ("strconv.ErrSyntax", Rows.laid_strconv_ErrSyntax), ("unicode/utf8.first", Rows.laid_unicode_utf8_first)] w) (fun _ _ _ hh h => h.of_heap hh) own started (by kernel_rfl) Tryz.func11
    (ChangeSpec.witness_shaped (enc := enc) (C := Tryz.checked) (os := os) (X := fun w _ => laidMetH Tryz.prog [("math/bits.deBruijn32tab", Rows.laid_math_bits_deBruijn32tab), ("math/bits.deBruijn64tab", Rows.laid_math_bits_deBruijn64tab), ("internal/strconv.uint64pow10", Rows.laid_internal_strconv_uint64pow10), ("unicode/utf8.acceptRanges", Rows.laid_unicode_utf8_acceptRanges), ("strconv.ErrRange", Rows.laid_strconv_ErrRange), ("strconv.ErrSyntax", Rows.laid_strconv_ErrSyntax), ("unicode/utf8.first", Rows.laid_unicode_utf8_first)] w) false (World.laidAll Tryz.prog os [("math/bits.deBruijn32tab", Rows.laid_math_bits_deBruijn32tab), ("math/bits.deBruijn64tab", Rows.laid_math_bits_deBruijn64tab), ("internal/strconv.uint64pow10", Rows.laid_internal_strconv_uint64pow10), ("unicode/utf8.acceptRanges", Rows.laid_unicode_utf8_acceptRanges), ("strconv.ErrRange", Rows.laid_strconv_ErrRange), ("strconv.ErrSyntax", Rows.laid_strconv_ErrSyntax), ("unicode/utf8.first", Rows.laid_unicode_utf8_first)]) #[.string ByteArray.empty, .agg #[.slice none 0 0], .int .i64 0, .bool false] 8 (World.laidAll_os _ _ _) (World.shaped_of_ZipB (by kernel_rfl) (by kernel_rfl)) (by kernel_rfl) (by kernel_rfl) (by kernel_rfl) (by rw [MakeChecks.laidMetH_plain _ _ _ (by kernel_rfl)]; exact laidMet_laidAll _ (by kernel_rfl) (by kernel_rfl))) ?_
  intro W base args ds gs before hval0 hW _ hsz0 hL _
  have hsz : (DataW.weightsEach Tryz.prog (Tryz.f11.params.toList ++ Rows.tourPrintsSpec.plain.varTypes Tryz.prog) (ds ++ gs)).all (· ≤ reachBytes) = true := hsz0
  have hval : ∀ (j : Nat) t v, Tryz.f11.params[j]? = some t → args[j]? = some v → Value.okWide Tryz.prog W .any base t v := hval0
  have hW' := hW
  obtain ⟨p, q, hA0, hV, rfl, hfz, hnd⟩ := hW
  have hA : DataW.TrodAll enc Tryz.prog W 0 (fun _ => true) true Tryz.f11.params.toList args.toList ds p := hA0
  rw [Tryz.params11] at hA hval hsz
  obtain ⟨v0, vs0, d0, ds0, p0, q0, hargs, rfl, rfl, h0, r0⟩ := trodAll_cons hA
  obtain ⟨v1, vs1, d1, ds1, p1, q1, rfl, rfl, rfl, h1, r1⟩ := trodAll_cons r0
  obtain ⟨v2, vs2, d2, ds2, p2, q2, rfl, rfl, rfl, h2, r2⟩ := trodAll_cons r1
  obtain ⟨v3, vs3, d3, ds3, p3, q3, rfl, rfl, rfl, h3, r3⟩ := trodAll_cons r2
  obtain ⟨rfl, rfl, rfl⟩ := trodAll_nil r3
  obtain rfl : args = #[v0, v1, v2, v3] := by cases args; simp_all
  obtain ⟨rfl, rfl⟩ := trodVars_none hV
  have k0 := h0
  have lt0 : ∀ x ∈ p0, x.block < W.heap.size := by obtain ⟨m, hm⟩ := k0; exact DataW.trod_lt m _ _ _ hm
  obtain ⟨a0, rfl, rfl, rfl, y0⟩ := open_string Tryz.underlying9 (hval 0 9 v0 rfl rfl) h0
  have wa0 : a0.size ≤ 140737488351232 := by
    have z := sized_string hsz (j := 0) (t := 9) rfl rfl
    rw [Array.length_toList] at z
    exact z
  have k1 := h1
  have lt1 : ∀ x ∈ p1, x.block < W.heap.size := by obtain ⟨m, hm⟩ := k1; exact DataW.trod_lt m _ _ _ hm
  obtain ⟨cs1, a1_0, rfl, hk1, wa1_0⟩ := Op.arg_struct (Q := fun (x : List (List (Int))) => (x.length ≤ maxLen ∧ ∀ v0 ∈ x, (v0.length ≤ maxLen ∧ ∀ v1 ∈ v0, (Lit.int .i64 v1).wf = true))) Tryz.underlying70 (Op.opens_plain Tryz.underlying70 (by kernel_rfl) (Op.opens_last rfl (Op.opens_slice Tryz.underlying68 (by kernel_rfl) (Op.opens_slice Tryz.underlying38 (by kernel_rfl) (Op.opens_int Tryz.underlying3 (by kernel_rfl)) 3) 38)) : Op.Opens enc Tryz.prog W 70 (Kd.slice 38 (Kd.slice 3 (Kd.int .i64))) _) (hval 1 70 v1 rfl rfl) h1
  obtain ⟨A1_0, c1_0, hcs1, hc1_0, hr1_0⟩ := hk1
  have ecs1 := congrArg List.toArray hcs1
  rw [Array.toArray_toList] at ecs1
  obtain rfl : cs1 = #[.slice A1_0 a1_0.length c1_0] := ecs1
  have k2 := h2
  have lt2 : ∀ x ∈ p2, x.block < W.heap.size := by obtain ⟨m, hm⟩ := k2; exact DataW.trod_lt m _ _ _ hm
  obtain ⟨a2, rfl, rfl, rfl, wa2⟩ := open_int Tryz.underlying3 (hval 2 3 v2 rfl rfl) h2
  have k3 := h3
  have lt3 : ∀ x ∈ p3, x.block < W.heap.size := by obtain ⟨m, hm⟩ := k3; exact DataW.trod_lt m _ _ _ hm
  obtain ⟨a3, rfl, rfl, rfl⟩ := open_bool Tryz.underlying4 (hval 3 4 v3 rfl rfl) h3
  clear hA0 hval0 hsz0 hsz
  obtain ⟨k, hk⟩ := Pure.TourPrints a0 a1_0 a2 a3 wa0 wa1_0 wa2
  refine (P.entrepotlaw16_TourPrints.calls k a0 A1_0 c1_0 a1_0 a2 a3 true W hr1_0 hc1_0 (tabs hL) hk).mono fun e W' hp => ?_
  obtain ⟨he, hb⟩ := hp
  subst he
  have bel : Below W.heap.size W W' := hb
  exact ⟨_, rfl, _, _, _, [], _, [], hW', trodAll_mk1 (shut_bool Tryz.underlying4 _), trodAll_cons_mk (Below.trod laidOut (by kernel_rfl) (of_decide_eq_true (by kernel_rfl)) k0 bel lt0) (trodAll_cons_mk (Below.trod laidOut (by kernel_rfl) (of_decide_eq_true (by kernel_rfl)) k1 bel lt1) (trodAll_cons_mk (Below.trod laidOut (by kernel_rfl) (of_decide_eq_true (by kernel_rfl)) k2 bel lt2) (trodAll_cons_mk (Below.trod laidOut (by kernel_rfl) (of_decide_eq_true (by kernel_rfl)) k3 bel lt3) trodAll_mk0))), rfl, bel.frame _, fun h => by cases h⟩
theorem over : Rows.tourPrintsRow.holds Tryz.pinned (OpenSpec.ofChange Rows.tourPrintsSpec) :=
  OpenClaim.holds_of_wide 11 Tryz.f11 rfl rfl rfl rfl rfl rfl rfl ⟨rfl, rfl, rfl, rfl, rfl⟩ rfl rfl rfl rfl rfl (by kernel_rfl) Tryz.func11 (by kernel_rfl)
    (of_decide_eq_true (by kernel_rfl)) (by unfold Func.isWrapper; first | (rw [if_pos (by decide +kernel)]; kernel_rfl) | (rw [if_neg (by decide +kernel)]; exact ⟨rfl, rfl⟩))
    (fun os started H enc _ => lifted os started H enc)
theorem card_holds : Rows.TourPrintsCardSaid :=
  Claim7.holds_tied_plain_at .later [] [.data, .data, .data, .data, .sentinel, .sentinel, .pinned] true (true, "50ff171a6ebaa1dc44acd7db4d9128ea4c6fd5289ca809cb7593c385ab16d17b") true
    over (fun _ h => by cases h) (by kernel_rfl) (fun _ h => by cases h) tourPrints_row_tie rfl ⟨rfl, rfl⟩ (by kernel_rfl) rfl
    (fun f fn hf hfn => by
      obtain rfl : f = 11 := Option.some.inj ((show Tryz.prog.funcNamed "entrepot/entrepotlaw16.TourPrints" = some 11 by kernel_rfl).symm.trans hf) |>.symm
      obtain rfl : fn = Tryz.f11 := (Option.some.inj (Tryz.func11.symm.trans hfn)).symm
      exact ⟨by kernel_rfl, fun j t ht => by
        rw [Tryz.params11] at ht
        have hm : t ∈ [9, 70, 3, 4] := by simpa using Array.mem_of_getElem? ht
        have hall : ([9, 70, 3, 4].all fun u => !Tryz.prog.wantsStandIn u) = true := by kernel_rfl
        exact (show Tryz.prog.wantsStandIn t = false by simpa using List.all_eq_true.1 hall t hm)⟩)
    (by kernel_rfl)
#print axioms card_holds
end Go.Proofs.YtadocbfchdendaaGreatDoor.lawTourPrints
namespace Go.Proofs.YtadocbfchdendaaGreatDoor
theorem lawTourPrints_holds : Rows.TourPrintsCardSaid := lawTourPrints.card_holds
end Go.Proofs.YtadocbfchdendaaGreatDoor
