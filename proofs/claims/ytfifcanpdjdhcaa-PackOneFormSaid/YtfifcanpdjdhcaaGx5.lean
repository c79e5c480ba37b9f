-- Written by gprint.py, a program of this session, over the kit's print of the loaded functions. Not trusted: Lean checks it.
import Derived.Test.YtfifcanpdjdhcaaGx0
import Derived.Test.YtfifcanpdjdhcaaGx1
import Derived.Test.YtfifcanpdjdhcaaGx3
import Derived.Test.YtfifcanpdjdhcaaGx4
namespace Go.Proofs.Ytfifcanpdjdhcaa.G
open Go.RowKit Go.Proofs.YtfifcanpdjdhcaaW.PrintWords Go.Proofs.YtfifcanpdjdhcaaW.PrintLast Go.Proofs.YtfifcanpdjdhcaaW.PrintMore Go.Proofs.Ytfifcanpdjdhcaa.Joins
attribute [local go_sem] max2_int min2_int max_two min_two max_three min_three max_four min_four   -- for this text's walks alone
set_option linter.unusedVariables false
set_option linter.unusedSimpArgs false

/-! ### odysseylaw03_PackOneForm: function 9 -/
mutual
def odysseylaw03_PackOneForm.j1 : Nat → ByteArray → Int → Option (Bool)
  | 0, _, _ => none
  | k + 1, x0, x1 => (pack_TakeList.f k x0 x1).bind fun bt204 => (if bt204.2.2 = 0 then (if x1 < 0 then (odysseylaw03_PackOneForm.j2 k x0 x1 bt204.2.1 bt204.1 true) else (if bt204.2.1 ≤ x1 then (odysseylaw03_PackOneForm.j2 k x0 x1 bt204.2.1 bt204.1 true) else (odysseylaw03_PackOneForm.j2 k x0 x1 bt204.2.1 bt204.1 (decide (bt204.2.1 > (x0.size : Int)))))) else ((odysseylaw03_live.f k).bind fun t217 => (some t217)))
def odysseylaw03_PackOneForm.j2 : Nat → ByteArray → Int → Int → List ByteArray → Bool → Option (Bool)
  | 0, _, _, _, _, _ => none
  | k + 1, x0, x1, x6, x13, x91 => if x91 = true then (some false) else ((pack_List.f k x13).bind fun bt209 => (if 0 ≤ (wrap64 (x6 - 1)) then (if (wrap64 (x6 - 1)) ≤ (x0.size : Int) then ((pack_TakeList.f k (x0.extract 0 ((wrap64 (x6 - 1)) : Int).toNat) x1).bind fun bt211 => (if 0 ≤ x1 then (if x1 ≤ x6 then (if x6 ≤ (x0.size : Int) then (if bt209.1.toList = (x0.extract (x1 : Int).toNat (x6 : Int).toNat).toList then (if bt209.2 = 0 then (if bt211.2.2 = 31 then ((odysseylaw03_live.f k).bind fun t216 => (some t216)) else (some false)) else (some false)) else (some false)) else (none)) else (none)) else (none))) else (none)) else (none)))
def odysseylaw03_PackOneForm.j0 : Nat → ByteArray → Int → Int → Int → Bool → Option (Bool)
  | 0, _, _, _, _, _ => none
  | k + 1, x0, x1, x5, x6, x40 => if x40 = true then (some false) else ((pack_Num.f k x5).bind fun bt199 => (if 0 ≤ (wrap64 (x6 - 1)) then (if (wrap64 (x6 - 1)) ≤ (x0.size : Int) then ((pack_TakeNum.f k (x0.extract 0 ((wrap64 (x6 - 1)) : Int).toNat) x1).bind fun bt201 => (if 0 ≤ x1 then (if x1 ≤ x6 then (if x6 ≤ (x0.size : Int) then (if bt199.1.toList = (x0.extract (x1 : Int).toNat (x6 : Int).toNat).toList then (if bt199.2 = 0 then (if bt201.2.2 = 31 then (odysseylaw03_PackOneForm.j1 k x0 x1) else (some false)) else (some false)) else (some false)) else (none)) else (none)) else (none))) else (none)) else (none)))
end
def odysseylaw03_PackOneForm.f (k : Nat) (a0 : ByteArray) (a1 : Int) : Option (Bool) := (pack_TakeNum.f k a0 a1).bind fun bt196 => (if bt196.2.2 = 0 then (if a1 < 0 then (odysseylaw03_PackOneForm.j0 k a0 a1 bt196.1 bt196.2.1 true) else (if bt196.2.1 ≤ a1 then (odysseylaw03_PackOneForm.j0 k a0 a1 bt196.1 bt196.2.1 true) else (odysseylaw03_PackOneForm.j0 k a0 a1 bt196.1 bt196.2.1 (decide (bt196.2.1 > (a0.size : Int)))))) else (odysseylaw03_PackOneForm.j1 k a0 a1))
theorem odysseylaw03_PackOneForm.mono_l : ∀ k, (∀ y0 y1, LeO (odysseylaw03_PackOneForm.j1 k y0 y1) (odysseylaw03_PackOneForm.j1 (k + 1) y0 y1)) ∧ (∀ y0 y1 y2 y3 y4, LeO (odysseylaw03_PackOneForm.j2 k y0 y1 y2 y3 y4) (odysseylaw03_PackOneForm.j2 (k + 1) y0 y1 y2 y3 y4)) ∧ (∀ y0 y1 y2 y3 y4, LeO (odysseylaw03_PackOneForm.j0 k y0 y1 y2 y3 y4) (odysseylaw03_PackOneForm.j0 (k + 1) y0 y1 y2 y3 y4))
  | 0 => ⟨fun _ _ r h => by simp [odysseylaw03_PackOneForm.j1] at h, fun _ _ _ _ _ r h => by simp [odysseylaw03_PackOneForm.j2] at h, fun _ _ _ _ _ r h => by simp [odysseylaw03_PackOneForm.j0] at h⟩
  | k + 1 => by
    obtain ⟨ih0, ih1, ih2⟩ := odysseylaw03_PackOneForm.mono_l k
    refine ⟨?_, ?_, ?_⟩
    · intro y0 y1
      unfold odysseylaw03_PackOneForm.j1
      repeat' first
      | (with_reducible exact ih0 _ _)
      | (with_reducible exact ih1 _ _ _ _ _)
      | (with_reducible exact ih2 _ _ _ _ _)
      | (with_reducible exact odysseylaw03_live.mono _)
      | (with_reducible exact pack_List.mono _ _)
      | (with_reducible exact pack_Num.mono _ _)
      | (with_reducible exact pack_TakeList.mono _ _ _)
      | (with_reducible exact pack_TakeNum.mono _ _ _)
      | (with_reducible exact LeO.refl _)
      | (with_reducible exact LeO.none _)
      | (with_reducible refine LeO.ite ?_ ?_)
      | (with_reducible refine LeO.bind ?_ (fun _ => ?_))
      | exact ih0 _ _
      | exact ih1 _ _ _ _ _
      | exact ih2 _ _ _ _ _
      | exact odysseylaw03_live.mono _
      | exact pack_List.mono _ _
      | exact pack_Num.mono _ _
      | exact pack_TakeList.mono _ _ _
      | exact pack_TakeNum.mono _ _ _
      | exact LeO.none _
      | refine LeO.ite ?_ ?_
      | refine LeO.bind ?_ (fun _ => ?_)
    · intro y0 y1 y2 y3 y4
      unfold odysseylaw03_PackOneForm.j2
      repeat' first
      | (with_reducible exact ih0 _ _)
      | (with_reducible exact ih1 _ _ _ _ _)
      | (with_reducible exact ih2 _ _ _ _ _)
      | (with_reducible exact odysseylaw03_live.mono _)
      | (with_reducible exact pack_List.mono _ _)
      | (with_reducible exact pack_Num.mono _ _)
      | (with_reducible exact pack_TakeList.mono _ _ _)
      | (with_reducible exact pack_TakeNum.mono _ _ _)
      | (with_reducible exact LeO.refl _)
      | (with_reducible exact LeO.none _)
      | (with_reducible refine LeO.ite ?_ ?_)
      | (with_reducible refine LeO.bind ?_ (fun _ => ?_))
      | exact ih0 _ _
      | exact ih1 _ _ _ _ _
      | exact ih2 _ _ _ _ _
      | exact odysseylaw03_live.mono _
      | exact pack_List.mono _ _
      | exact pack_Num.mono _ _
      | exact pack_TakeList.mono _ _ _
      | exact pack_TakeNum.mono _ _ _
      | exact LeO.none _
      | refine LeO.ite ?_ ?_
      | refine LeO.bind ?_ (fun _ => ?_)
    · intro y0 y1 y2 y3 y4
      unfold odysseylaw03_PackOneForm.j0
      repeat' first
      | (with_reducible exact ih0 _ _)
      | (with_reducible exact ih1 _ _ _ _ _)
      | (with_reducible exact ih2 _ _ _ _ _)
      | (with_reducible exact odysseylaw03_live.mono _)
      | (with_reducible exact pack_List.mono _ _)
      | (with_reducible exact pack_Num.mono _ _)
      | (with_reducible exact pack_TakeList.mono _ _ _)
      | (with_reducible exact pack_TakeNum.mono _ _ _)
      | (with_reducible exact LeO.refl _)
      | (with_reducible exact LeO.none _)
      | (with_reducible refine LeO.ite ?_ ?_)
      | (with_reducible refine LeO.bind ?_ (fun _ => ?_))
      | exact ih0 _ _
      | exact ih1 _ _ _ _ _
      | exact ih2 _ _ _ _ _
      | exact odysseylaw03_live.mono _
      | exact pack_List.mono _ _
      | exact pack_Num.mono _ _
      | exact pack_TakeList.mono _ _ _
      | exact pack_TakeNum.mono _ _ _
      | exact LeO.none _
      | refine LeO.ite ?_ ?_
      | refine LeO.bind ?_ (fun _ => ?_)
theorem odysseylaw03_PackOneForm.mono : ∀ a0 a1 k, LeO (odysseylaw03_PackOneForm.f k a0 a1) (odysseylaw03_PackOneForm.f (k + 1) a0 a1) := by
  intro a0 a1 k
  obtain ⟨ih0, ih1, ih2⟩ := odysseylaw03_PackOneForm.mono_l k
  unfold odysseylaw03_PackOneForm.f
  repeat' first
      | (with_reducible exact ih0 _ _)
      | (with_reducible exact ih1 _ _ _ _ _)
      | (with_reducible exact ih2 _ _ _ _ _)
      | (with_reducible exact odysseylaw03_live.mono _)
      | (with_reducible exact pack_List.mono _ _)
      | (with_reducible exact pack_Num.mono _ _)
      | (with_reducible exact pack_TakeList.mono _ _ _)
      | (with_reducible exact pack_TakeNum.mono _ _ _)
      | (with_reducible exact LeO.refl _)
      | (with_reducible exact LeO.none _)
      | (with_reducible refine LeO.ite ?_ ?_)
      | (with_reducible refine LeO.bind ?_ (fun _ => ?_))
      | exact ih0 _ _
      | exact ih1 _ _ _ _ _
      | exact ih2 _ _ _ _ _
      | exact odysseylaw03_live.mono _
      | exact pack_List.mono _ _
      | exact pack_Num.mono _ _
      | exact pack_TakeList.mono _ _ _
      | exact pack_TakeNum.mono _ _ _
      | exact LeO.none _
      | refine LeO.ite ?_ ?_
      | refine LeO.bind ?_ (fun _ => ?_)
set_option maxHeartbeats 8000000 in
set_option maxRecDepth 100000 in
theorem odysseylaw03_PackOneForm.calls (k : Nat) (a0 : ByteArray) (a1 : Int) (r : Bool) (w : World) (hr_ : Aside0 (r = true)) (h : odysseylaw03_PackOneForm.f k a0 a1 = some r) :
    Calls Try.prog 9 #[.string a0, .int .i64 a1] w fun e w' => e = .returned (.bool r) ∧ Below w.heap.size w w' := by
  have HB := Aside0.mk (Below.refl w.heap.size w)
  have H : ((pack_TakeNum.f k a0 a1).bind fun bt196 => (if bt196.2.2 = 0 then (if a1 < 0 then (odysseylaw03_PackOneForm.j0 k a0 a1 bt196.1 bt196.2.1 true) else (if bt196.2.1 ≤ a1 then (odysseylaw03_PackOneForm.j0 k a0 a1 bt196.1 bt196.2.1 true) else (odysseylaw03_PackOneForm.j0 k a0 a1 bt196.1 bt196.2.1 (decide (bt196.2.1 > (a0.size : Int)))))) else (odysseylaw03_PackOneForm.j1 k a0 a1))) = some r := h
  clear h
  replace H := Option.bind_eq_some_iff.mp H
  obtain ⟨⟨t196, t197, t198⟩, A30, H⟩ := H
  replace H : (if t198 = 0 then (if a1 < 0 then (odysseylaw03_PackOneForm.j0 k a0 a1 t196 t197 true) else (if t197 ≤ a1 then (odysseylaw03_PackOneForm.j0 k a0 a1 t196 t197 true) else (odysseylaw03_PackOneForm.j0 k a0 a1 t196 t197 (decide (t197 > (a0.size : Int)))))) else (odysseylaw03_PackOneForm.j1 k a0 a1)) = some r := H
  have A3 := Aside0.mk A30
  clear A30
  have HC4 := Aside0.mk H
  clear H
  go_enter Try.func9, Try.ntmps9
  go_upto_if 27 with (first | ((with_reducible refine gate_callee (f := 13) rfl ?_); refine goesL_ (some 22) rfl rfl Try.func13 (by kernel_rfl) rfl #[.string a0, .int .i64 a1] rfl (by (try simp only [List.map_toArray, List.map_cons, List.map_nil]); first | done | rfl | (simp only [List.length_drop, List.length_take]; rfl)) ?_; (with_reducible refine (pack_TakeNum.calls k a0 a1 t196 t197 t198 _ A3.out).mono ?_); rintro e w5 ⟨rfl, hb⟩; refine ⟨_, rfl, ?_⟩; have n0_ := Aside0.mk (below_step (by repeat (first | (with_reducible first | exact HB.out | apply below_alloc | apply pw_below_drewN | apply below_drew1) | exact HB.out)) hb); clear HB; have HB := n0_; clear n0_; (try clear hb); (try clear hb2); (try clear hk); (try clear hi)))
  (try simp only [Act.put, List.setIfInBounds_toArray, List.set_cons_zero, List.set_cons_succ])
  go_cut [] (fun wc => ∃ (kq : Nat), Aside0 (odysseylaw03_PackOneForm.j1 kq a0 a1 = some r) ∧ Aside0 (kq ≤ k) ∧ Aside0 (Below w.heap.size w wc))
  case first =>
    have H := HC4.out
    clear HC4
    by_cases c6 : t198 = 0
    · rw [if_pos c6] at H
      have c6b0 : (t198 == 0) = true := beq_iff_eq.mpr c6
      have c6b1 : (t198 != 0) = false := bne_eq_false_iff_eq.mpr c6
      clear c6
      (first | rw [c6b0] | (simp only [i64_w, i32_w]; rw [c6b0]) | skip)
      have HC7 := Aside0.mk H
      clear H
      go_upto_region 3 with (fail)
      go_cut [40] (fun v40 wc => ∃ (kq : Nat) (x40_6 : Bool), v40 = .bool x40_6 ∧ Aside0 (odysseylaw03_PackOneForm.j0 kq a0 a1 t196 t197 x40_6 = some r) ∧ Aside0 (kq ≤ k) ∧ Aside0 (Below w.heap.size w wc))
      case first =>
        have H := HC7.out
        clear HC7
        by_cases c8 : a1 < 0
        · rw [if_pos c8] at H
          have c8b0 : decide (a1 < 0) = true := decide_eq_true c8
          clear c8
          (first | rw [c8b0] | (simp only [i64_w, i32_w]; rw [c8b0]) | skip)
          have H' := Aside0.mk H
          clear H
          go_wp2
          go_meet
          case rel => exact ⟨_, (true), (by first | rfl | (simp; done) | (simp [*]; done)), H', ⟨by first | omega | exact Nat.le_refl _⟩, ⟨by repeat (first | (with_reducible first | exact HB.out | apply below_alloc | apply pw_below_drewN | apply below_drew1) | exact HB.out)⟩⟩
        · rw [if_neg c8] at H
          have c8b0 : decide (a1 < 0) = false := decide_eq_false c8
          clear c8
          (first | rw [c8b0] | (simp only [i64_w, i32_w]; rw [c8b0]) | skip)
          by_cases c9 : t197 ≤ a1
          · rw [if_pos c9] at H
            have c9b0 : decide (t197 ≤ a1) = true := decide_eq_true c9
            clear c9
            have H' := Aside0.mk H
            clear H
            go_wp2
            go_meet
            case rel => exact ⟨_, (true), (by first | rfl | (simp; done) | (simp [*]; done)), H', ⟨by first | omega | exact Nat.le_refl _⟩, ⟨by repeat (first | (with_reducible first | exact HB.out | apply below_alloc | apply pw_below_drewN | apply below_drew1) | exact HB.out)⟩⟩
          · rw [if_neg c9] at H
            have c9b0 : decide (t197 ≤ a1) = false := decide_eq_false c9
            clear c9
            have H' := Aside0.mk H
            clear H
            go_wp2
            go_meet
            case rel => exact ⟨_, (decide (t197 > (a0.size : Int))), (by first | rfl | (simp; done) | (simp [*]; done)), H', ⟨by first | omega | exact Nat.le_refl _⟩, ⟨by repeat (first | (with_reducible first | exact HB.out | apply below_alloc | apply pw_below_drewN | apply below_drew1) | exact HB.out)⟩⟩
      case rest =>
        clear HC7
        try clear c1
        try clear p2
        try clear c6
        try clear c6b0
        try clear c6b1
        try clear c8
        try clear c8b0
        try clear c9
        try clear c9b0
        obtain ⟨kq, x40_6, rfl, HA, HJ6, HB⟩ := hcut
        cases kq with
        | zero => exact absurd HA.out (by simp [odysseylaw03_PackOneForm.j0])
        | succ kj6 =>
          have H := HA.out
          clear HA
          simp only [odysseylaw03_PackOneForm.j0] at H
          by_cases c10 : x40_6 = true
          · subst c10
            have H1 : (some false) = some r := by rw [if_pos rfl] at H; exact H
            clear H
            have H := H1
            clear H1
            exact absurd ((Option.some.inj H).trans hr_.out) (by decide)
          · replace c10 := Bool.eq_false_iff.mpr c10
            subst c10
            have H1 : ((pack_Num.f kj6 t196).bind fun bt199 => (if 0 ≤ (wrap64 (t197 - 1)) then (if (wrap64 (t197 - 1)) ≤ (a0.size : Int) then ((pack_TakeNum.f kj6 (a0.extract 0 ((wrap64 (t197 - 1)) : Int).toNat) a1).bind fun bt201 => (if 0 ≤ a1 then (if a1 ≤ t197 then (if t197 ≤ (a0.size : Int) then (if bt199.1.toList = (a0.extract (a1 : Int).toNat (t197 : Int).toNat).toList then (if bt199.2 = 0 then (if bt201.2.2 = 31 then (odysseylaw03_PackOneForm.j1 kj6 a0 a1) else (some false)) else (some false)) else (some false)) else (none)) else (none)) else (none))) else (none)) else (none))) = some r := by rw [if_neg (show ¬ (false = true) by decide)] at H; exact H
            clear H
            have H := H1
            clear H1
            replace H := Option.bind_eq_some_iff.mp H
            obtain ⟨⟨t199, t200⟩, A110, H⟩ := H
            replace H : (if 0 ≤ (wrap64 (t197 - 1)) then (if (wrap64 (t197 - 1)) ≤ (a0.size : Int) then ((pack_TakeNum.f kj6 (a0.extract 0 ((wrap64 (t197 - 1)) : Int).toNat) a1).bind fun bt201 => (if 0 ≤ a1 then (if a1 ≤ t197 then (if t197 ≤ (a0.size : Int) then (if t199.toList = (a0.extract (a1 : Int).toNat (t197 : Int).toNat).toList then (if t200 = 0 then (if bt201.2.2 = 31 then (odysseylaw03_PackOneForm.j1 kj6 a0 a1) else (some false)) else (some false)) else (some false)) else (none)) else (none)) else (none))) else (none)) else (none)) = some r := H
            have A11 := Aside0.mk A110
            clear A110
            obtain ⟨ji12, hji12⟩ : ∃ j_ : Int, (wrap64 (t197 - 1)) = j_ := ⟨_, rfl⟩
            replace H : (if 0 ≤ (ji12) then (if (ji12) ≤ (a0.size : Int) then ((pack_TakeNum.f kj6 (a0.extract 0 ((ji12) : Int).toNat) a1).bind fun bt201 => (if 0 ≤ a1 then (if a1 ≤ t197 then (if t197 ≤ (a0.size : Int) then (if t199.toList = (a0.extract (a1 : Int).toNat (t197 : Int).toNat).toList then (if t200 = 0 then (if bt201.2.2 = 31 then (odysseylaw03_PackOneForm.j1 kj6 a0 a1) else (some false)) else (some false)) else (some false)) else (none)) else (none)) else (none))) else (none)) else (none)) = some r := by first | (rw [hji12] at H; exact H) | (simp only [hji12] at H ⊢; exact H)
            (try rw [hji12] at A11)
            have hji12w : (IntKind.i64.wrap (t197 - 1)) = ji12 := (i64_w _).trans hji12
            by_cases c13 : 0 ≤ (ji12)
            · rw [if_pos c13] at H
              have c13b0 := eq_true c13
              have c13b1 : decide (0 ≤ (ji12)) = true := decide_eq_true c13
              clear c13
              by_cases c14 : (ji12) ≤ (a0.size : Int)
              · rw [if_pos c14] at H
                have c14b0 := eq_true c14
                have c14b1 : decide ((ji12) ≤ (a0.size : Int)) = true := decide_eq_true c14
                clear c14
                replace H := Option.bind_eq_some_iff.mp H
                obtain ⟨⟨t201, t202, t203⟩, A150, H⟩ := H
                replace H : (if 0 ≤ a1 then (if a1 ≤ t197 then (if t197 ≤ (a0.size : Int) then (if t199.toList = (a0.extract (a1 : Int).toNat (t197 : Int).toNat).toList then (if t200 = 0 then (if t203 = 31 then (odysseylaw03_PackOneForm.j1 kj6 a0 a1) else (some false)) else (some false)) else (some false)) else (none)) else (none)) else (none)) = some r := H
                have A15 := Aside0.mk A150
                clear A150
                by_cases c16 : 0 ≤ a1
                · rw [if_pos c16] at H
                  have c16b0 := eq_true c16
                  have c16b1 : decide (0 ≤ a1) = true := decide_eq_true c16
                  clear c16
                  by_cases c17 : a1 ≤ t197
                  · rw [if_pos c17] at H
                    have c17b0 := eq_true c17
                    have c17b1 : decide (a1 ≤ t197) = true := decide_eq_true c17
                    clear c17
                    by_cases c18 : t197 ≤ (a0.size : Int)
                    · rw [if_pos c18] at H
                      have c18b0 := eq_true c18
                      have c18b1 : decide (t197 ≤ (a0.size : Int)) = true := decide_eq_true c18
                      clear c18
                      by_cases c19 : t199.toList = (a0.extract (a1 : Int).toNat (t197 : Int).toNat).toList
                      · rw [if_pos c19] at H
                        have c19b0 : (t199.toList == (a0.extract (a1 : Int).toNat (t197 : Int).toNat).toList) = true := beq_iff_eq.mpr c19
                        have c19b1 : (t199.toList != (a0.extract (a1 : Int).toNat (t197 : Int).toNat).toList) = false := bne_eq_false_iff_eq.mpr c19
                        clear c19
                        by_cases c20 : t200 = 0
                        · rw [if_pos c20] at H
                          have c20b0 : (t200 == 0) = true := beq_iff_eq.mpr c20
                          have c20b1 : (t200 != 0) = false := bne_eq_false_iff_eq.mpr c20
                          clear c20
                          by_cases c21 : t203 = 31
                          · rw [if_pos c21] at H
                            have c21b0 : (t203 == 31) = true := beq_iff_eq.mpr c21
                            have c21b1 : (t203 != 31) = false := bne_eq_false_iff_eq.mpr c21
                            clear c21
                            have H' := Aside0.mk H
                            clear H
                            go_wp2_with (first | ((with_reducible refine gate_callee (f := 10) rfl ?_); refine goesL_ (some 43) rfl rfl Try.func10 (by kernel_rfl) rfl #[.int .i64 t196] rfl (by (try simp only [List.map_toArray, List.map_cons, List.map_nil]); first | done | rfl | (simp only [List.length_drop, List.length_take]; rfl)) ?_; (with_reducible refine (pack_Num.calls kj6 t196 t199 t200 _ A11.out).mono ?_); rintro e w22 ⟨rfl, hb⟩; refine ⟨_, rfl, ?_⟩; have n0_ := Aside0.mk (below_step (by repeat (first | (with_reducible first | exact HB.out | apply below_alloc | apply pw_below_drewN | apply below_drew1) | exact HB.out)) hb); clear HB; have HB := n0_; clear n0_; (try clear hb); (try clear hb2); (try clear hk); (try clear hi)) | ((with_reducible refine gate_callee (f := 13) rfl ?_); refine goesL_ (some 52) rfl rfl Try.func13 (by kernel_rfl) rfl #[.string (a0.extract 0 ((ji12) : Int).toNat), .int .i64 a1] rfl (by (try simp only [List.map_toArray, List.map_cons, List.map_nil]); first | done | (simp only [hji12]; rfl) | rfl | (simp only [List.length_drop, List.length_take]; rfl)) ?_; (with_reducible refine (pack_TakeNum.calls kj6 (a0.extract 0 ((ji12) : Int).toNat) a1 t201 t202 t203 _ A15.out).mono ?_); rintro e w23 ⟨rfl, hb⟩; refine ⟨_, rfl, ?_⟩; have n0_ := Aside0.mk (below_step (by repeat (first | (with_reducible first | exact HB.out | apply below_alloc | apply pw_below_drewN | apply below_drew1) | exact HB.out)) hb); clear HB; have HB := n0_; clear n0_; (try clear hb); (try clear hb2); (try clear hk); (try clear hi)))
                            go_meet
                            case rel => exact ⟨_, H', ⟨by have := HJ6.out; first | omega | exact Nat.le_refl _⟩, ⟨by repeat (first | (with_reducible first | exact HB.out | apply below_alloc | apply pw_below_drewN | apply below_drew1) | exact HB.out)⟩⟩
                          · rw [if_neg c21] at H
                            have c21b0 : (t203 == 31) = false := beq_eq_false_iff_ne.mpr c21
                            have c21b1 : (t203 != 31) = true := bne_iff_ne.mpr c21
                            exact absurd ((Option.some.inj H).trans hr_.out) (by decide)
                        · rw [if_neg c20] at H
                          have c20b0 : (t200 == 0) = false := beq_eq_false_iff_ne.mpr c20
                          have c20b1 : (t200 != 0) = true := bne_iff_ne.mpr c20
                          exact absurd ((Option.some.inj H).trans hr_.out) (by decide)
                      · rw [if_neg c19] at H
                        have c19b0 : (t199.toList == (a0.extract (a1 : Int).toNat (t197 : Int).toNat).toList) = false := beq_eq_false_iff_ne.mpr c19
                        have c19b1 : (t199.toList != (a0.extract (a1 : Int).toNat (t197 : Int).toNat).toList) = true := bne_iff_ne.mpr c19
                        exact absurd ((Option.some.inj H).trans hr_.out) (by decide)
                    · rw [if_neg c18] at H
                      exact absurd H (by simp)
                  · rw [if_neg c17] at H
                    exact absurd H (by simp)
                · rw [if_neg c16] at H
                  exact absurd H (by simp)
              · rw [if_neg c14] at H
                exact absurd H (by simp)
            · rw [if_neg c13] at H
              exact absurd H (by simp)
    · rw [if_neg c6] at H
      have c6b0 : (t198 == 0) = false := beq_eq_false_iff_ne.mpr c6
      have c6b1 : (t198 != 0) = true := bne_iff_ne.mpr c6
      (first | rw [c6b0] | (simp only [i64_w, i32_w]; rw [c6b0]) | skip)
      have H' := Aside0.mk H
      clear H
      go_wp2
      go_meet
      case rel => exact ⟨_, H', ⟨by first | omega | exact Nat.le_refl _⟩, ⟨by repeat (first | (with_reducible first | exact HB.out | apply below_alloc | apply pw_below_drewN | apply below_drew1) | exact HB.out)⟩⟩
  case rest =>
    clear HC4
    try clear c1
    try clear c2
    try clear p2
    try clear c6
    try clear c6b0
    try clear c6b1
    try clear p6
    try clear c8
    try clear c8b0
    try clear c9
    try clear c9b0
    try clear c10
    try clear c13
    try clear c13b0
    try clear c13b1
    try clear c14
    try clear c14b0
    try clear c14b1
    try clear c16
    try clear c16b0
    try clear c16b1
    try clear c17
    try clear c17b0
    try clear c17b1
    try clear c18
    try clear c18b0
    try clear c18b1
    try clear c19
    try clear c19b0
    try clear c19b1
    try clear c20
    try clear c20b0
    try clear c20b1
    try clear c21
    try clear c21b0
    try clear c21b1
    try clear p2
    obtain ⟨kq, HA, HJ3, HB⟩ := hcut
    cases kq with
    | zero => exact absurd HA.out (by simp [odysseylaw03_PackOneForm.j1])
    | succ kj3 =>
      have H := HA.out
      clear HA
      simp only [odysseylaw03_PackOneForm.j1] at H
      replace H := Option.bind_eq_some_iff.mp H
      obtain ⟨⟨t204, t205, t206⟩, A240, H⟩ := H
      replace H : (if t206 = 0 then (if a1 < 0 then (odysseylaw03_PackOneForm.j2 kj3 a0 a1 t205 t204 true) else (if t205 ≤ a1 then (odysseylaw03_PackOneForm.j2 kj3 a0 a1 t205 t204 true) else (odysseylaw03_PackOneForm.j2 kj3 a0 a1 t205 t204 (decide (t205 > (a0.size : Int)))))) else ((odysseylaw03_live.f kj3).bind fun t217 => (some t217))) = some r := H
      have A24 := Aside0.mk A240
      clear A240
      by_cases c25 : t206 = 0
      · rw [if_pos c25] at H
        have c25b0 : (t206 == 0) = true := beq_iff_eq.mpr c25
        have c25b1 : (t206 != 0) = false := bne_eq_false_iff_eq.mpr c25
        clear c25
        have HC26 := Aside0.mk H
        clear H
        go_upto_region 11 with (first | ((with_reducible refine gate_callee (f := 17) rfl ?_); refine goesL_ (some 73) rfl rfl Try.func17 (by kernel_rfl) rfl #[.string a0, .int .i64 a1] rfl (by (try simp only [List.map_toArray, List.map_cons, List.map_nil]); first | done | rfl | (simp only [List.length_drop, List.length_take]; rfl)) ?_; (with_reducible refine (pack_TakeList.calls kj3 a0 a1 t204 t205 t206 _ A24.out).mono ?_); rintro e w27 ⟨v207, rfl, ho0, hb⟩; refine ⟨_, rfl, ?_⟩; have n0_ := Aside0.mk (Kd.R_lower ho0 (below_size (by repeat (first | (with_reducible first | exact HB.out | apply below_alloc | apply pw_below_drewN | apply below_drew1) | exact HB.out)))); have n1_ := Aside0.mk (below_step (by repeat (first | (with_reducible first | exact HB.out | apply below_alloc | apply pw_below_drewN | apply below_drew1) | exact HB.out)) hb); clear HB; have HO208 := n0_; have HB := n1_; clear n0_ n1_; (try clear hb); (try clear hb2); (try clear hk); (try clear hi); (try clear ho0)))
        (try simp only [Act.put, List.setIfInBounds_toArray, List.set_cons_zero, List.set_cons_succ])
        go_cut [91] (fun v91 wc => ∃ (kq : Nat) (x91_25 : Bool), v91 = .bool x91_25 ∧ Aside0 (odysseylaw03_PackOneForm.j2 kq a0 a1 t205 t204 x91_25 = some r) ∧ Aside0 (kq ≤ kj3) ∧ Aside0 (Kd.R Kd.string 9 wc w.heap.size (fun _ => True) v207 t204) ∧ Aside0 (Below w.heap.size w wc))
        case first =>
          have H := HC26.out
          clear HC26
          by_cases c28 : a1 < 0
          · rw [if_pos c28] at H
            have c28b0 : decide (a1 < 0) = true := decide_eq_true c28
            clear c28
            (first | rw [c28b0] | (simp only [i64_w, i32_w]; rw [c28b0]) | skip)
            have H' := Aside0.mk H
            clear H
            go_wp2
            go_meet
            case rel => exact ⟨_, (true), (by first | rfl | (simp; done) | (simp [*]; done)), H', ⟨by have := HJ3.out; first | omega | exact Nat.le_refl _⟩, ⟨by (with_reducible repeat (first | apply Kd.R_alloc | apply Kd.R_drewN | apply Kd.R_drew)); exact HO208.out⟩, ⟨by repeat (first | (with_reducible first | exact HB.out | apply below_alloc | apply pw_below_drewN | apply below_drew1) | exact HB.out)⟩⟩
          · rw [if_neg c28] at H
            have c28b0 : decide (a1 < 0) = false := decide_eq_false c28
            clear c28
            (first | rw [c28b0] | (simp only [i64_w, i32_w]; rw [c28b0]) | skip)
            by_cases c29 : t205 ≤ a1
            · rw [if_pos c29] at H
              have c29b0 : decide (t205 ≤ a1) = true := decide_eq_true c29
              clear c29
              have H' := Aside0.mk H
              clear H
              go_wp2
              go_meet
              case rel => exact ⟨_, (true), (by first | rfl | (simp; done) | (simp [*]; done)), H', ⟨by have := HJ3.out; first | omega | exact Nat.le_refl _⟩, ⟨by (with_reducible repeat (first | apply Kd.R_alloc | apply Kd.R_drewN | apply Kd.R_drew)); exact HO208.out⟩, ⟨by repeat (first | (with_reducible first | exact HB.out | apply below_alloc | apply pw_below_drewN | apply below_drew1) | exact HB.out)⟩⟩
            · rw [if_neg c29] at H
              have c29b0 : decide (t205 ≤ a1) = false := decide_eq_false c29
              clear c29
              have H' := Aside0.mk H
              clear H
              go_wp2
              go_meet
              case rel => exact ⟨_, (decide (t205 > (a0.size : Int))), (by first | rfl | (simp; done) | (simp [*]; done)), H', ⟨by have := HJ3.out; first | omega | exact Nat.le_refl _⟩, ⟨by (with_reducible repeat (first | apply Kd.R_alloc | apply Kd.R_drewN | apply Kd.R_drew)); exact HO208.out⟩, ⟨by repeat (first | (with_reducible first | exact HB.out | apply below_alloc | apply pw_below_drewN | apply below_drew1) | exact HB.out)⟩⟩
        case rest =>
          clear HC26
          try clear c1
          try clear c2
          try clear p2
          try clear c6
          try clear c6b0
          try clear c6b1
          try clear p6
          try clear c8
          try clear c8b0
          try clear c9
          try clear c9b0
          try clear c10
          try clear c13
          try clear c13b0
          try clear c13b1
          try clear c14
          try clear c14b0
          try clear c14b1
          try clear c16
          try clear c16b0
          try clear c16b1
          try clear c17
          try clear c17b0
          try clear c17b1
          try clear c18
          try clear c18b0
          try clear c18b1
          try clear c19
          try clear c19b0
          try clear c19b1
          try clear c20
          try clear c20b0
          try clear c20b1
          try clear c21
          try clear c21b0
          try clear c21b1
          try clear c25
          try clear c25b0
          try clear c25b1
          try clear c28
          try clear c28b0
          try clear c29
          try clear c29b0
          try clear p2
          try clear p6
          obtain ⟨kq, x91_25, rfl, HA, HJ25, HO_13, HB⟩ := hcut
          cases kq with
          | zero => exact absurd HA.out (by simp [odysseylaw03_PackOneForm.j2])
          | succ kj25 =>
            have H := HA.out
            clear HA
            simp only [odysseylaw03_PackOneForm.j2] at H
            by_cases c30 : x91_25 = true
            · subst c30
              have H1 : (some false) = some r := by rw [if_pos rfl] at H; exact H
              clear H
              have H := H1
              clear H1
              exact absurd ((Option.some.inj H).trans hr_.out) (by decide)
            · replace c30 := Bool.eq_false_iff.mpr c30
              subst c30
              have H1 : ((pack_List.f kj25 t204).bind fun bt209 => (if 0 ≤ (wrap64 (t205 - 1)) then (if (wrap64 (t205 - 1)) ≤ (a0.size : Int) then ((pack_TakeList.f kj25 (a0.extract 0 ((wrap64 (t205 - 1)) : Int).toNat) a1).bind fun bt211 => (if 0 ≤ a1 then (if a1 ≤ t205 then (if t205 ≤ (a0.size : Int) then (if bt209.1.toList = (a0.extract (a1 : Int).toNat (t205 : Int).toNat).toList then (if bt209.2 = 0 then (if bt211.2.2 = 31 then ((odysseylaw03_live.f kj25).bind fun t216 => (some t216)) else (some false)) else (some false)) else (some false)) else (none)) else (none)) else (none))) else (none)) else (none))) = some r := by rw [if_neg (show ¬ (false = true) by decide)] at H; exact H
              clear H
              have H := H1
              clear H1
              replace H := Option.bind_eq_some_iff.mp H
              obtain ⟨⟨t209, t210⟩, A310, H⟩ := H
              replace H : (if 0 ≤ (wrap64 (t205 - 1)) then (if (wrap64 (t205 - 1)) ≤ (a0.size : Int) then ((pack_TakeList.f kj25 (a0.extract 0 ((wrap64 (t205 - 1)) : Int).toNat) a1).bind fun bt211 => (if 0 ≤ a1 then (if a1 ≤ t205 then (if t205 ≤ (a0.size : Int) then (if t209.toList = (a0.extract (a1 : Int).toNat (t205 : Int).toNat).toList then (if t210 = 0 then (if bt211.2.2 = 31 then ((odysseylaw03_live.f kj25).bind fun t216 => (some t216)) else (some false)) else (some false)) else (some false)) else (none)) else (none)) else (none))) else (none)) else (none)) = some r := H
              have A31 := Aside0.mk A310
              clear A310
              obtain ⟨ji32, hji32⟩ : ∃ j_ : Int, (wrap64 (t205 - 1)) = j_ := ⟨_, rfl⟩
              replace H : (if 0 ≤ (ji32) then (if (ji32) ≤ (a0.size : Int) then ((pack_TakeList.f kj25 (a0.extract 0 ((ji32) : Int).toNat) a1).bind fun bt211 => (if 0 ≤ a1 then (if a1 ≤ t205 then (if t205 ≤ (a0.size : Int) then (if t209.toList = (a0.extract (a1 : Int).toNat (t205 : Int).toNat).toList then (if t210 = 0 then (if bt211.2.2 = 31 then ((odysseylaw03_live.f kj25).bind fun t216 => (some t216)) else (some false)) else (some false)) else (some false)) else (none)) else (none)) else (none))) else (none)) else (none)) = some r := by first | (rw [hji32] at H; exact H) | (simp only [hji32] at H ⊢; exact H)
              (try rw [hji32] at A31)
              have hji32w : (IntKind.i64.wrap (t205 - 1)) = ji32 := (i64_w _).trans hji32
              by_cases c33 : 0 ≤ (ji32)
              · rw [if_pos c33] at H
                have c33b0 := eq_true c33
                have c33b1 : decide (0 ≤ (ji32)) = true := decide_eq_true c33
                clear c33
                by_cases c34 : (ji32) ≤ (a0.size : Int)
                · rw [if_pos c34] at H
                  have c34b0 := eq_true c34
                  have c34b1 : decide ((ji32) ≤ (a0.size : Int)) = true := decide_eq_true c34
                  clear c34
                  replace H := Option.bind_eq_some_iff.mp H
                  obtain ⟨⟨t211, t212, t213⟩, A350, H⟩ := H
                  replace H : (if 0 ≤ a1 then (if a1 ≤ t205 then (if t205 ≤ (a0.size : Int) then (if t209.toList = (a0.extract (a1 : Int).toNat (t205 : Int).toNat).toList then (if t210 = 0 then (if t213 = 31 then ((odysseylaw03_live.f kj25).bind fun t216 => (some t216)) else (some false)) else (some false)) else (some false)) else (none)) else (none)) else (none)) = some r := H
                  have A35 := Aside0.mk A350
                  clear A350
                  by_cases c36 : 0 ≤ a1
                  · rw [if_pos c36] at H
                    have c36b0 := eq_true c36
                    have c36b1 : decide (0 ≤ a1) = true := decide_eq_true c36
                    clear c36
                    by_cases c37 : a1 ≤ t205
                    · rw [if_pos c37] at H
                      have c37b0 := eq_true c37
                      have c37b1 : decide (a1 ≤ t205) = true := decide_eq_true c37
                      clear c37
                      by_cases c38 : t205 ≤ (a0.size : Int)
                      · rw [if_pos c38] at H
                        have c38b0 := eq_true c38
                        have c38b1 : decide (t205 ≤ (a0.size : Int)) = true := decide_eq_true c38
                        clear c38
                        by_cases c39 : t209.toList = (a0.extract (a1 : Int).toNat (t205 : Int).toNat).toList
                        · rw [if_pos c39] at H
                          have c39b0 : (t209.toList == (a0.extract (a1 : Int).toNat (t205 : Int).toNat).toList) = true := beq_iff_eq.mpr c39
                          have c39b1 : (t209.toList != (a0.extract (a1 : Int).toNat (t205 : Int).toNat).toList) = false := bne_eq_false_iff_eq.mpr c39
                          clear c39
                          by_cases c40 : t210 = 0
                          · rw [if_pos c40] at H
                            have c40b0 : (t210 == 0) = true := beq_iff_eq.mpr c40
                            have c40b1 : (t210 != 0) = false := bne_eq_false_iff_eq.mpr c40
                            clear c40
                            by_cases c41 : t213 = 31
                            · rw [if_pos c41] at H
                              have c41b0 : (t213 == 31) = true := beq_iff_eq.mpr c41
                              have c41b1 : (t213 != 31) = false := bne_eq_false_iff_eq.mpr c41
                              clear c41
                              replace H := Option.bind_eq_some_iff.mp H
                              obtain ⟨t216, A420, H⟩ := H
                              replace H : (some t216) = some r := H
                              have A42 := Aside0.mk A420
                              clear A420
                              obtain rfl := Option.some.inj H
                              obtain ⟨Ao43, co43, eo43⟩ := Kd.R_slice HO_13.out
                              subst eo43
                              go_wp2_with (first | ((with_reducible refine gate_callee (f := 23) rfl ?_); refine goesL_ (some 94) rfl rfl Try.func23 (by kernel_rfl) rfl #[.slice Ao43 t204.length co43] rfl (by (try simp only [List.map_toArray, List.map_cons, List.map_nil]); first | done | rfl | (simp only [List.length_drop, List.length_take]; rfl)) ?_; (with_reducible refine (pack_List.calls kj25 _ _ t204 t209 t210 _ ?side1 ?side2 A31.out).mono ?_); (case side1 => repeat (first | exact (Kd.R_reads' HO_13.out).2.2 | (with_reducible refine Kd.C_alloc ?_ _) | (with_reducible refine Kd.C_drewN ?_ _) | (with_reducible refine Kd.C_drew ?_))); (case side2 => exact (Kd.R_reads' HO_13.out).2.1); rintro e w44 ⟨rfl, hb⟩; refine ⟨_, rfl, ?_⟩; have n0_ := Aside0.mk (Kd.R_below (by (with_reducible repeat (first | apply Kd.R_alloc | apply Kd.R_drewN | apply Kd.R_drew)); exact HO_13.out) hb); have n1_ := Aside0.mk (below_step (by repeat (first | (with_reducible first | exact HB.out | apply below_alloc | apply pw_below_drewN | apply below_drew1) | exact HB.out)) hb); clear HO_13; clear HB; have HO_13 := n0_; have HB := n1_; clear n0_ n1_; (try clear hb); (try clear hb2); (try clear hk); (try clear hi)) | ((with_reducible refine gate_callee (f := 17) rfl ?_); refine goesL_ (some 103) rfl rfl Try.func17 (by kernel_rfl) rfl #[.string (a0.extract 0 ((ji32) : Int).toNat), .int .i64 a1] rfl (by (try simp only [List.map_toArray, List.map_cons, List.map_nil]); first | done | (simp only [hji32]; rfl) | rfl | (simp only [List.length_drop, List.length_take]; rfl)) ?_; (with_reducible refine (pack_TakeList.calls kj25 (a0.extract 0 ((ji32) : Int).toNat) a1 t211 t212 t213 _ A35.out).mono ?_); rintro e w45 ⟨v214, rfl, ho0, hb⟩; refine ⟨_, rfl, ?_⟩; have n0_ := Aside0.mk (Kd.R_elder' (by (with_reducible repeat (first | apply Kd.R_alloc | apply Kd.R_drewN | apply Kd.R_drew)); exact HO_13.out) (Kd.R_base ho0) hb); have n1_ := Aside0.mk (Kd.R_lower (Kd.R_new' ho0 (Kd.R_lt (by (with_reducible repeat (first | apply Kd.R_alloc | apply Kd.R_drewN | apply Kd.R_drew)); exact HO_13.out))) (below_size (by repeat (first | (with_reducible first | exact HB.out | apply below_alloc | apply pw_below_drewN | apply below_drew1) | exact HB.out)))); have n2_ := Aside0.mk (below_step (by repeat (first | (with_reducible first | exact HB.out | apply below_alloc | apply pw_below_drewN | apply below_drew1) | exact HB.out)) hb); clear HO_13; clear HB; have HO_13 := n0_; have HO215 := n1_; have HB := n2_; clear n0_ n1_ n2_; (try clear hb); (try clear hb2); (try clear hk); (try clear hi); (try clear ho0)) | ((with_reducible refine gate_callee (f := 12) rfl ?_); refine goesL_ (some 121) rfl rfl Try.func12 (by kernel_rfl) rfl #[] rfl (by (try simp only [List.map_toArray, List.map_cons, List.map_nil]); first | done | rfl | (simp only [List.length_drop, List.length_take]; rfl)) ?_; (with_reducible refine (odysseylaw03_live.calls kj25  t216 _ A42.out).mono ?_); rintro e w46 ⟨rfl, hb⟩; refine ⟨_, rfl, ?_⟩; have n0_ := Aside0.mk (Kd.R_below (by (with_reducible repeat (first | apply Kd.R_alloc | apply Kd.R_drewN | apply Kd.R_drew)); exact HO_13.out) hb); have n1_ := Aside0.mk (Kd.R_below (by (with_reducible repeat (first | apply Kd.R_alloc | apply Kd.R_drewN | apply Kd.R_drew)); exact HO215.out) hb); have n2_ := Aside0.mk (below_step (by repeat (first | (with_reducible first | exact HB.out | apply below_alloc | apply pw_below_drewN | apply below_drew1) | exact HB.out)) hb); clear HO_13; clear HO215; clear HB; have HO_13 := n0_; have HO215 := n1_; have HB := n2_; clear n0_ n1_ n2_; (try clear hb); (try clear hb2); (try clear hk); (try clear hi)))
                              go_ret
                              exact ⟨by first | rfl | (simp [errW_none, errW_some] <;> rfl) | (simp only [← hji32]; first | rfl | (simp [errW_none, errW_some] <;> rfl)) | (simp [*, errW_none, errW_some] <;> rfl), by repeat (first | (with_reducible first | exact HB.out | apply below_alloc | apply pw_below_drewN | apply below_drew1) | exact HB.out)⟩
                            · rw [if_neg c41] at H
                              have c41b0 : (t213 == 31) = false := beq_eq_false_iff_ne.mpr c41
                              have c41b1 : (t213 != 31) = true := bne_iff_ne.mpr c41
                              exact absurd ((Option.some.inj H).trans hr_.out) (by decide)
                          · rw [if_neg c40] at H
                            have c40b0 : (t210 == 0) = false := beq_eq_false_iff_ne.mpr c40
                            have c40b1 : (t210 != 0) = true := bne_iff_ne.mpr c40
                            exact absurd ((Option.some.inj H).trans hr_.out) (by decide)
                        · rw [if_neg c39] at H
                          have c39b0 : (t209.toList == (a0.extract (a1 : Int).toNat (t205 : Int).toNat).toList) = false := beq_eq_false_iff_ne.mpr c39
                          have c39b1 : (t209.toList != (a0.extract (a1 : Int).toNat (t205 : Int).toNat).toList) = true := bne_iff_ne.mpr c39
                          exact absurd ((Option.some.inj H).trans hr_.out) (by decide)
                      · rw [if_neg c38] at H
                        exact absurd H (by simp)
                    · rw [if_neg c37] at H
                      exact absurd H (by simp)
                  · rw [if_neg c36] at H
                    exact absurd H (by simp)
                · rw [if_neg c34] at H
                  exact absurd H (by simp)
              · rw [if_neg c33] at H
                exact absurd H (by simp)
      · rw [if_neg c25] at H
        have c25b0 : (t206 == 0) = false := beq_eq_false_iff_ne.mpr c25
        have c25b1 : (t206 != 0) = true := bne_iff_ne.mpr c25
        replace H := Option.bind_eq_some_iff.mp H
        obtain ⟨t217, A470, H⟩ := H
        replace H : (some t217) = some r := H
        have A47 := Aside0.mk A470
        clear A470
        obtain rfl := Option.some.inj H
        go_wp2_with (first | ((with_reducible refine gate_callee (f := 17) rfl ?_); refine goesL_ (some 73) rfl rfl Try.func17 (by kernel_rfl) rfl #[.string a0, .int .i64 a1] rfl (by (try simp only [List.map_toArray, List.map_cons, List.map_nil]); first | done | rfl | (simp only [List.length_drop, List.length_take]; rfl)) ?_; (with_reducible refine (pack_TakeList.calls kj3 a0 a1 t204 t205 t206 _ A24.out).mono ?_); rintro e w48 ⟨v207, rfl, ho0, hb⟩; refine ⟨_, rfl, ?_⟩; have n0_ := Aside0.mk (Kd.R_lower ho0 (below_size (by repeat (first | (with_reducible first | exact HB.out | apply below_alloc | apply pw_below_drewN | apply below_drew1) | exact HB.out)))); have n1_ := Aside0.mk (below_step (by repeat (first | (with_reducible first | exact HB.out | apply below_alloc | apply pw_below_drewN | apply below_drew1) | exact HB.out)) hb); clear HB; have HO208 := n0_; have HB := n1_; clear n0_ n1_; (try clear hb); (try clear hb2); (try clear hk); (try clear hi); (try clear ho0)) | ((with_reducible refine gate_callee (f := 12) rfl ?_); refine goesL_ (some 121) rfl rfl Try.func12 (by kernel_rfl) rfl #[] rfl (by (try simp only [List.map_toArray, List.map_cons, List.map_nil]); first | done | rfl | (simp only [List.length_drop, List.length_take]; rfl)) ?_; (with_reducible refine (odysseylaw03_live.calls kj3  t217 _ A47.out).mono ?_); rintro e w49 ⟨rfl, hb⟩; refine ⟨_, rfl, ?_⟩; have n0_ := Aside0.mk (Kd.R_below (by (with_reducible repeat (first | apply Kd.R_alloc | apply Kd.R_drewN | apply Kd.R_drew)); exact HO208.out) hb); have n1_ := Aside0.mk (below_step (by repeat (first | (with_reducible first | exact HB.out | apply below_alloc | apply pw_below_drewN | apply below_drew1) | exact HB.out)) hb); clear HO208; clear HB; have HO208 := n0_; have HB := n1_; clear n0_ n1_; (try clear hb); (try clear hb2); (try clear hk); (try clear hi)))
        go_ret
        exact ⟨by first | rfl | (simp [errW_none, errW_some] <;> rfl) | (simp [*, errW_none, errW_some] <;> rfl), by repeat (first | (with_reducible first | exact HB.out | apply below_alloc | apply pw_below_drewN | apply below_drew1) | exact HB.out)⟩

/-- THE ONE PURE STATEMENT of odysseylaw03_PackOneForm: yours. -/
def odysseylaw03_PackOneForm.Pure : Prop := ∀ (a0 : ByteArray) (a1 : Int), a0.size ≤ 140737488351232 → (Lit.int .i64 a1).wf = true → ∃ k, odysseylaw03_PackOneForm.f k a0 a1 = some true
theorem odysseylaw03_PackOneForm.walk (P : odysseylaw03_PackOneForm.Pure) (a0 : ByteArray) (a1 : Int) (w : World) (w0 : a0.size ≤ 140737488351232) (w1 : (Lit.int .i64 a1).wf = true) :
    Calls Try.prog 9 #[.string a0, .int .i64 a1] w fun e w' => e = .returned (.bool true) ∧ Below w.heap.size w w' := by
  obtain ⟨k, h⟩ := P a0 a1 w0 w1
  refine (odysseylaw03_PackOneForm.calls k a0 a1 true w ⟨rfl⟩ h).mono ?_
  rintro e w' ⟨rfl, hd⟩
  exact ⟨rfl, hd⟩

end Go.Proofs.Ytfifcanpdjdhcaa.G
