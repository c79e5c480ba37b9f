-- Written by gprint.py, a program of this session, over the kit's print of the loaded functions. Not trusted: Lean checks it.
import Derived.Test.YtfifcanpdjdhcaaGx0
import Derived.Test.YtfifcanpdjdhcaaGx1
import Derived.Test.YtfifcanpdjdhcaaGx3
namespace Go.Proofs.Ytfifcanpdjdhcaa.G
open Go.RowKit Go.Proofs.YtfifcanpdjdhcaaW.PrintWords Go.Proofs.YtfifcanpdjdhcaaW.PrintLast Go.Proofs.YtfifcanpdjdhcaaW.PrintMore Go.Proofs.Ytfifcanpdjdhcaa.Joins
attribute [local go_sem] max2_int min2_int max_two min_two max_three min_three max_four min_four   -- for this text's walks alone
set_option linter.unusedVariables false
set_option linter.unusedSimpArgs false

/-! ### pack_TakeList: function 17 -/
def pack_TakeList.l0 : Nat → ByteArray → Int → List ByteArray → Int → Int → Option (List ByteArray × Int × Int)
  | 0, _, _, _, _, _ => none
  | k + 1, x0, x8, x10, x28, x29 => if x29 < x28 then ((pack_TakeText.f k x0 x8).bind fun bt175 => (if bt175.2.2 = 0 then (if x10.length < 8796093022208 then (pack_TakeList.l0 k x0 bt175.2.1 (x10 ++ [bt175.1]) x28 (wrap64 (x29 + 1))) else (none)) else (some (([] : List ByteArray), 0, bt175.2.2)))) else (some (x10, x8, 0))
def pack_TakeList.f (k : Nat) (a0 : ByteArray) (a1 : Int) : Option (List ByteArray × Int × Int) := (pack_TakeNum.f k a0 a1).bind fun bt172 => (if bt172.2.2 = 0 then (if bt172.1 > 4000 then (some (([] : List ByteArray), 0, 32)) else (pack_TakeList.l0 k a0 bt172.2.1 ([] : List ByteArray) bt172.1 0)) else (some (([] : List ByteArray), 0, bt172.2.2)))
theorem pack_TakeList.mono_l : ∀ k, (∀ y0 y1 y2 y3 y4, LeO (pack_TakeList.l0 k y0 y1 y2 y3 y4) (pack_TakeList.l0 (k + 1) y0 y1 y2 y3 y4))
  | 0 => fun _ _ _ _ _ r h => by simp [pack_TakeList.l0] at h
  | k + 1 => by
    have ih0 := pack_TakeList.mono_l k
    · intro y0 y1 y2 y3 y4
      unfold pack_TakeList.l0
      repeat' first
      | (with_reducible exact ih0 _ _ _ _ _)
      | (with_reducible exact pack_TakeNum.mono _ _ _)
      | (with_reducible exact pack_TakeText.mono _ _ _)
      | (with_reducible exact LeO.refl _)
      | (with_reducible exact LeO.none _)
      | (with_reducible refine LeO.ite ?_ ?_)
      | (with_reducible refine LeO.bind ?_ (fun _ => ?_))
      | exact ih0 _ _ _ _ _
      | exact pack_TakeNum.mono _ _ _
      | exact pack_TakeText.mono _ _ _
      | exact LeO.none _
      | refine LeO.ite ?_ ?_
      | refine LeO.bind ?_ (fun _ => ?_)
theorem pack_TakeList.mono : ∀ a0 a1 k, LeO (pack_TakeList.f k a0 a1) (pack_TakeList.f (k + 1) a0 a1) := by
  intro a0 a1 k
  have ih0 := pack_TakeList.mono_l k
  unfold pack_TakeList.f
  repeat' first
      | (with_reducible exact ih0 _ _ _ _ _)
      | (with_reducible exact pack_TakeNum.mono _ _ _)
      | (with_reducible exact pack_TakeText.mono _ _ _)
      | (with_reducible exact LeO.refl _)
      | (with_reducible exact LeO.none _)
      | (with_reducible refine LeO.ite ?_ ?_)
      | (with_reducible refine LeO.bind ?_ (fun _ => ?_))
      | exact ih0 _ _ _ _ _
      | exact pack_TakeNum.mono _ _ _
      | exact pack_TakeText.mono _ _ _
      | exact LeO.none _
      | refine LeO.ite ?_ ?_
      | refine LeO.bind ?_ (fun _ => ?_)
set_option maxHeartbeats 8000000 in
set_option maxRecDepth 100000 in
theorem pack_TakeList.calls (k : Nat) (a0 : ByteArray) (a1 : Int) (r1 : List ByteArray) (r2 : Int) (r3 : Int) (w : World) (h : pack_TakeList.f k a0 a1 = some (r1, r2, r3)) :
    Calls Try.prog 17 #[.string a0, .int .i64 a1] w fun e w' => ∃ v0_ : Value, e = .returned (.tuple #[v0_, .int .i64 r2, .int .i64 r3]) ∧ Kd.R Kd.string 9 w' w.heap.size (fun _ => True) v0_ r1 ∧ Below w.heap.size w w' := by
  have HB := Aside0.mk (Below.refl w.heap.size w)
  have H : ((pack_TakeNum.f k a0 a1).bind fun bt172 => (if bt172.2.2 = 0 then (if bt172.1 > 4000 then (some (([] : List ByteArray), 0, 32)) else (pack_TakeList.l0 k a0 bt172.2.1 ([] : List ByteArray) bt172.1 0)) else (some (([] : List ByteArray), 0, bt172.2.2)))) = some (r1, r2, r3) := h
  clear h
  replace H := Option.bind_eq_some_iff.mp H
  obtain ⟨⟨t172, t173, t174⟩, A30, H⟩ := H
  replace H : (if t174 = 0 then (if t172 > 4000 then (some (([] : List ByteArray), 0, 32)) else (pack_TakeList.l0 k a0 t173 ([] : List ByteArray) t172 0)) else (some (([] : List ByteArray), 0, t174))) = some (r1, r2, r3) := H
  have A3 := Aside0.mk A30
  clear A30
  by_cases c4 : t174 = 0
  · rw [if_pos c4] at H
    have c4b0 : (t174 == 0) = true := beq_iff_eq.mpr c4
    have c4b1 : (t174 != 0) = false := bne_eq_false_iff_eq.mpr c4
    clear c4
    by_cases c5 : t172 > 4000
    · rw [if_pos c5] at H
      have c5b0 : decide (4000 < t172) = true := decide_eq_true c5
      clear c5
      simp only [Option.some.injEq, Prod.mk.injEq] at H
      obtain ⟨rfl, rfl, rfl⟩ := H
      go_enter Try.func17, Try.ntmps17
      go_wp2_with (first | ((with_reducible refine gate_callee (f := 13) rfl ?_); refine goesL_ (some 17) rfl rfl Try.func13 (by kernel_rfl) rfl #[.string a0, .int .i64 a1] rfl (by (try simp only [List.map_toArray, List.map_cons, List.map_nil]); first | done | rfl | (simp only [List.length_drop, List.length_take]; rfl)) ?_; (with_reducible refine (pack_TakeNum.calls k a0 a1 t172 t173 t174 _ A3.out).mono ?_); rintro e w6 ⟨rfl, hb⟩; refine ⟨_, rfl, ?_⟩; have n0_ := Aside0.mk (below_step (by repeat (first | (with_reducible first | exact HB.out | apply below_alloc | apply pw_below_drewN | apply below_drew1) | exact HB.out)) hb); clear HB; have HB := n0_; clear n0_; (try clear hb); (try clear hb2); (try clear hk); (try clear hi)))
      go_ret3
      exact ⟨_, by first | rfl | (simp [errW_none, errW_some] <;> rfl) | (simp [*, errW_none, errW_some] <;> rfl), by first | exact Kd.R_nil _ _ _ _ _ | exact Kd.N_nil _ _ _ _ _ | exact Kd.V_nil _ _ _ _ _ | exact Kd.Q_nil _ _ _ _ _ | exact Kd.S_nil _ _ _ _ _, by repeat (first | (with_reducible first | exact HB.out | apply below_alloc | apply pw_below_drewN | apply below_drew1) | exact HB.out)⟩
    · rw [if_neg c5] at H
      have c5b0 : decide (4000 < t172) = false := decide_eq_false c5
      clear c5
      have H' := Aside0.mk H
      clear H
      go_enter Try.func17, Try.ntmps17
      go_wp2_with (first | ((with_reducible refine gate_callee (f := 13) rfl ?_); refine goesL_ (some 17) rfl rfl Try.func13 (by kernel_rfl) rfl #[.string a0, .int .i64 a1] rfl (by (try simp only [List.map_toArray, List.map_cons, List.map_nil]); first | done | rfl | (simp only [List.length_drop, List.length_take]; rfl)) ?_; (with_reducible refine (pack_TakeNum.calls k a0 a1 t172 t173 t174 _ A3.out).mono ?_); rintro e w7 ⟨rfl, hb⟩; refine ⟨_, rfl, ?_⟩; have n0_ := Aside0.mk (below_step (by repeat (first | (with_reducible first | exact HB.out | apply below_alloc | apply pw_below_drewN | apply below_drew1) | exact HB.out)) hb); clear HB; have HB := n0_; clear n0_; (try clear hb); (try clear hb2); (try clear hk); (try clear hi)))
      go_loopg [8, 10, 29] k (fun kq v8 v10 v29 w' => ∃ (x8_1 : Int) (x10_1 : List ByteArray) (x29_1 : Int), v8 = .int .i64 x8_1 ∧ v29 = .int .i64 x29_1 ∧ Aside0 (pack_TakeList.l0 kq a0 x8_1 x10_1 t172 x29_1 = some (r1, r2, r3)) ∧ Aside0 (kq ≤ k) ∧ Aside0 (Kd.R Kd.string 9 w' w.heap.size (fun _ => True) v10 x10_1) ∧ Aside0 (Below w.heap.size w w'))
      case atStart => exact ⟨(t173), (([] : List ByteArray)), (0), (by first | rfl | (simp; done) | (simp [*]; done)), (by first | rfl | (simp; done) | (simp [*]; done)), H', ⟨Nat.le_refl _⟩, ⟨by first | exact Kd.R_nil _ _ _ _ _ | exact Kd.N_nil _ _ _ _ _ | exact Kd.V_nil _ _ _ _ _ | exact Kd.Q_nil _ _ _ _ _ | exact Kd.S_nil _ _ _ _ _⟩, ⟨by repeat (first | (with_reducible first | exact HB.out | apply below_alloc | apply pw_below_drewN | apply below_drew1) | exact HB.out)⟩⟩
      case round =>
        clear H'
        try clear c1
        try clear p2
        try clear c4
        try clear c4b0
        try clear c4b1
        try clear c5
        try clear c5b0
        obtain ⟨x8_1, x10_1, x29_1, rfl, rfl, HA, HK1, HO_10, HB⟩ := hrel
        cases gk with
        | zero => exact absurd HA.out (by simp [pack_TakeList.l0])
        | succ k1 =>
          have H := HA.out
          clear HA
          simp only [pack_TakeList.l0] at H
          by_cases c8 : x29_1 < t172
          · rw [if_pos c8] at H
            have c8b0 : decide (x29_1 < t172) = true := decide_eq_true c8
            clear c8
            replace H := Option.bind_eq_some_iff.mp H
            obtain ⟨⟨t175, t176, t177⟩, A90, H⟩ := H
            replace H : (if t177 = 0 then (if x10_1.length < 8796093022208 then (pack_TakeList.l0 k1 a0 t176 (x10_1 ++ [t175]) t172 (wrap64 (x29_1 + 1))) else (none)) else (some (([] : List ByteArray), 0, t177))) = some (r1, r2, r3) := H
            have A9 := Aside0.mk A90
            clear A90
            by_cases c10 : t177 = 0
            · rw [if_pos c10] at H
              have c10b0 : (t177 == 0) = true := beq_iff_eq.mpr c10
              have c10b1 : (t177 != 0) = false := bne_eq_false_iff_eq.mpr c10
              clear c10
              by_cases c11 : x10_1.length < 8796093022208
              · rw [if_pos c11] at H
                have LMc11 := Aside0.mk c11
                clear c11
                obtain ⟨y178, hy178⟩ : ∃ y_ : List ByteArray, y_ = (x10_1 ++ [t175]) := ⟨_, rfl⟩
                replace H : (pack_TakeList.l0 k1 a0 t176 y178 t172 (wrap64 (x29_1 + 1))) = some (r1, r2, r3) := by first | (rw [hy178]; with_reducible exact H) | (have H2_ := (Option.bind_some _ _).symm.trans H; rw [hy178]; with_reducible exact H2_) | (have H2_ := (Option.bind_some _ _).symm.trans H; with_reducible exact H2_) | with_reducible exact H | (rw [hy178]; exact H) | exact H
                have Ny178 := Aside0.mk hy178
                clear hy178
                have H' := Aside0.mk H
                clear H
                go_wp2_with (first | ((with_reducible refine gate_callee (f := 15) rfl ?_); refine goesL_ (some 34) rfl rfl Try.func15 (by kernel_rfl) rfl #[.string a0, .int .i64 x8_1] rfl (by (try simp only [List.map_toArray, List.map_cons, List.map_nil]); first | done | rfl | (simp only [List.length_drop, List.length_take]; rfl)) ?_; (with_reducible refine (pack_TakeText.calls k1 a0 x8_1 t175 t176 t177 _ A9.out).mono ?_); rintro e w12 ⟨rfl, hb⟩; refine ⟨_, rfl, ?_⟩; have n0_ := Aside0.mk (Kd.R_below (by (with_reducible repeat (first | apply Kd.R_alloc | apply Kd.R_drewN | apply Kd.R_drew)); exact HO_10.out) hb); have n1_ := Aside0.mk (below_step (by repeat (first | (with_reducible first | exact HB.out | apply below_alloc | apply pw_below_drewN | apply below_drew1) | exact HB.out)) hb); clear HO_10; clear HB; have HO_10 := n0_; have HB := n1_; clear n0_ n1_; (try clear hb); (try clear hb2); (try clear hk); (try clear hi)) | ((with_reducible refine gate_builtin (b := .append) (xs := #[.tmp 41, .tmp 43]) rfl ?_); at_builtin; refine Kd.R_append Kd.string (w0 := w) w.heap.size rfl (.tmp 41) (.tmp 43) 27 9 (.string ⟨#[]⟩) 16 rfl Try.underlying27 info9 rfl (by decide) (by omega) u10 x10_1 t175 [.string t175] (fun _ => True) (fun _ => False) rfl rfl ?aP (fun _ hk => hk.elim) ?aF ?aO ?aB ?aS ?aL ?_; (case aP => exact rfl); (case aB => exact (by repeat (first | (with_reducible first | exact HB.out | apply below_alloc | apply pw_below_drewN | apply below_drew1) | exact HB.out))); (case aF => exact (fun _ _ => trivial)); (case aO => exact (by (with_reducible repeat (first | apply Kd.R_alloc | apply Kd.R_drewN | apply Kd.R_drew)); exact HO_10.out)); (case aS => exact (below_size (by repeat (first | (with_reducible first | exact HB.out | apply below_alloc | apply pw_below_drewN | apply below_drew1) | exact HB.out)))); (case aL => have := LMc11.out; omega); intro v179 w13 ho hb hg hat; rw [← Ny178.out] at ho; have n0_ := Aside0.mk (hb); have n1_ := Aside0.mk (ho); clear HB; clear HO_10; have HB := n0_; have HO180 := n1_; clear n0_ n1_; clear ho hb hg hat))
                go_roundg k1
                case measure => have := HK1.out; omega
                case rel => exact ⟨(t176), (y178), (wrap64 (x29_1 + 1)), (by first | rfl | (simp; done) | (simp [*]; done)), (by first | rfl | (simp; done) | (simp [*]; done)), H', ⟨by have := HK1.out; omega⟩, ⟨by (with_reducible repeat (first | apply Kd.R_alloc | apply Kd.R_drewN | apply Kd.R_drew)); exact HO180.out⟩, ⟨by repeat (first | (with_reducible first | exact HB.out | apply below_alloc | apply pw_below_drewN | apply below_drew1) | exact HB.out)⟩⟩
              · rw [if_neg c11] at H
                exact absurd H (by simp)
            · rw [if_neg c10] at H
              have c10b0 : (t177 == 0) = false := beq_eq_false_iff_ne.mpr c10
              have c10b1 : (t177 != 0) = true := bne_iff_ne.mpr c10
              simp only [Option.some.injEq, Prod.mk.injEq] at H
              obtain ⟨rfl, rfl, rfl⟩ := H
              go_wp2_with (first | ((with_reducible refine gate_callee (f := 15) rfl ?_); refine goesL_ (some 34) rfl rfl Try.func15 (by kernel_rfl) rfl #[.string a0, .int .i64 x8_1] rfl (by (try simp only [List.map_toArray, List.map_cons, List.map_nil]); first | done | rfl | (simp only [List.length_drop, List.length_take]; rfl)) ?_; (with_reducible refine (pack_TakeText.calls k1 a0 x8_1 t175 t176 t177 _ A9.out).mono ?_); rintro e w14 ⟨rfl, hb⟩; refine ⟨_, rfl, ?_⟩; have n0_ := Aside0.mk (Kd.R_below (by (with_reducible repeat (first | apply Kd.R_alloc | apply Kd.R_drewN | apply Kd.R_drew)); exact HO_10.out) hb); have n1_ := Aside0.mk (below_step (by repeat (first | (with_reducible first | exact HB.out | apply below_alloc | apply pw_below_drewN | apply below_drew1) | exact HB.out)) hb); clear HO_10; clear HB; have HO_10 := n0_; have HB := n1_; clear n0_ n1_; (try clear hb); (try clear hb2); (try clear hk); (try clear hi)))
              go_ret3
              exact ⟨_, by first | rfl | (simp [errW_none, errW_some] <;> rfl) | (simp [*, errW_none, errW_some] <;> rfl), by first | exact Kd.R_nil _ _ _ _ _ | exact Kd.N_nil _ _ _ _ _ | exact Kd.V_nil _ _ _ _ _ | exact Kd.Q_nil _ _ _ _ _ | exact Kd.S_nil _ _ _ _ _, by repeat (first | (with_reducible first | exact HB.out | apply below_alloc | apply pw_below_drewN | apply below_drew1) | exact HB.out)⟩
          · rw [if_neg c8] at H
            have c8b0 : decide (x29_1 < t172) = false := decide_eq_false c8
            clear c8
            simp only [Option.some.injEq, Prod.mk.injEq] at H
            obtain ⟨rfl, rfl, rfl⟩ := H
            go_wp2
            go_ret3
            exact ⟨_, by first | rfl | (simp [errW_none, errW_some] <;> rfl) | (simp [*, errW_none, errW_some] <;> rfl), by (with_reducible repeat (first | apply Kd.R_alloc | apply Kd.R_drewN | apply Kd.R_drew)); exact HO_10.out, by repeat (first | (with_reducible first | exact HB.out | apply below_alloc | apply pw_below_drewN | apply below_drew1) | exact HB.out)⟩
  · rw [if_neg c4] at H
    have c4b0 : (t174 == 0) = false := beq_eq_false_iff_ne.mpr c4
    have c4b1 : (t174 != 0) = true := bne_iff_ne.mpr c4
    simp only [Option.some.injEq, Prod.mk.injEq] at H
    obtain ⟨rfl, rfl, rfl⟩ := H
    go_enter Try.func17, Try.ntmps17
    go_wp2_with (first | ((with_reducible refine gate_callee (f := 13) rfl ?_); refine goesL_ (some 17) rfl rfl Try.func13 (by kernel_rfl) rfl #[.string a0, .int .i64 a1] rfl (by (try simp only [List.map_toArray, List.map_cons, List.map_nil]); first | done | rfl | (simp only [List.length_drop, List.length_take]; rfl)) ?_; (with_reducible refine (pack_TakeNum.calls k a0 a1 t172 t173 t174 _ A3.out).mono ?_); rintro e w15 ⟨rfl, hb⟩; refine ⟨_, rfl, ?_⟩; have n0_ := Aside0.mk (below_step (by repeat (first | (with_reducible first | exact HB.out | apply below_alloc | apply pw_below_drewN | apply below_drew1) | exact HB.out)) hb); clear HB; have HB := n0_; clear n0_; (try clear hb); (try clear hb2); (try clear hk); (try clear hi)))
    go_ret3
    exact ⟨_, by first | rfl | (simp [errW_none, errW_some] <;> rfl) | (simp [*, errW_none, errW_some] <;> rfl), by first | exact Kd.R_nil _ _ _ _ _ | exact Kd.N_nil _ _ _ _ _ | exact Kd.V_nil _ _ _ _ _ | exact Kd.Q_nil _ _ _ _ _ | exact Kd.S_nil _ _ _ _ _, by repeat (first | (with_reducible first | exact HB.out | apply below_alloc | apply pw_below_drewN | apply below_drew1) | exact HB.out)⟩

/-! ### odysseylaw03_PackBack: function 8 -/
def odysseylaw03_PackBack.j0 : Nat → List ByteArray → ByteArray → Option (Bool)
  | 0, _, _ => none
  | k + 1, x1, x2 => (pack_List.f k x1).bind fun bt186 => (if bt186.2 = 0 then (if x2.size + bt186.1.size ≤ 9223372036854775807 then (if (x2 ++ bt186.1).size + x2.size ≤ 9223372036854775807 then ((pack_TakeList.f k ((x2 ++ bt186.1) ++ x2) (x2.size : Int)).bind fun bt188 => ((odysseylaw03_same.f k bt188.1 x1).bind fun t193 => (if t193 = true then (if bt188.2.1 = (wrap64 ((x2.size : Int) + (bt186.1.size : Int))) then (if bt188.2.2 = 0 then ((odysseylaw03_live.f k).bind fun t194 => (some t194)) else (some false)) else (some false)) else (some false)))) else (none)) else (none)) else ((odysseylaw03_live.f k).bind fun t195 => (some t195)))
def odysseylaw03_PackBack.f (k : Nat) (a0 : Int) (l1 : List ByteArray) (a2 : ByteArray) : Option (Bool) := (pack_Num.f k a0).bind fun bt181 => (if bt181.2 = 0 then (if a2.size + bt181.1.size ≤ 9223372036854775807 then (if (a2 ++ bt181.1).size + a2.size ≤ 9223372036854775807 then ((pack_TakeNum.f k ((a2 ++ bt181.1) ++ a2) (a2.size : Int)).bind fun bt183 => (if bt183.1 = a0 then (if bt183.2.1 = (wrap64 ((a2.size : Int) + (bt181.1.size : Int))) then (if bt183.2.2 = 0 then (odysseylaw03_PackBack.j0 k l1 a2) else (some false)) else (some false)) else (some false))) else (none)) else (none)) else (odysseylaw03_PackBack.j0 k l1 a2))
theorem odysseylaw03_PackBack.mono_l : ∀ k, (∀ y0 y1, LeO (odysseylaw03_PackBack.j0 k y0 y1) (odysseylaw03_PackBack.j0 (k + 1) y0 y1))
  | 0 => fun _ _ r h => by simp [odysseylaw03_PackBack.j0] at h
  | k + 1 => by
    have ih0 := odysseylaw03_PackBack.mono_l k
    · intro y0 y1
      unfold odysseylaw03_PackBack.j0
      repeat' first
      | (with_reducible exact ih0 _ _)
      | (with_reducible exact odysseylaw03_live.mono _)
      | (with_reducible exact odysseylaw03_same.mono _ _ _)
      | (with_reducible exact pack_List.mono _ _)
      | (with_reducible exact pack_Num.mono _ _)
      | (with_reducible exact pack_TakeList.mono _ _ _)
      | (with_reducible exact pack_TakeNum.mono _ _ _)
      | (with_reducible exact LeO.refl _)
      | (with_reducible exact LeO.none _)
      | (with_reducible refine LeO.ite ?_ ?_)
      | (with_reducible refine LeO.bind ?_ (fun _ => ?_))
      | exact ih0 _ _
      | exact odysseylaw03_live.mono _
      | exact odysseylaw03_same.mono _ _ _
      | exact pack_List.mono _ _
      | exact pack_Num.mono _ _
      | exact pack_TakeList.mono _ _ _
      | exact pack_TakeNum.mono _ _ _
      | exact LeO.none _
      | refine LeO.ite ?_ ?_
      | refine LeO.bind ?_ (fun _ => ?_)
theorem odysseylaw03_PackBack.mono : ∀ a0 a1 a2 k, LeO (odysseylaw03_PackBack.f k a0 a1 a2) (odysseylaw03_PackBack.f (k + 1) a0 a1 a2) := by
  intro a0 a1 a2 k
  have ih0 := odysseylaw03_PackBack.mono_l k
  unfold odysseylaw03_PackBack.f
  repeat' first
      | (with_reducible exact ih0 _ _)
      | (with_reducible exact odysseylaw03_live.mono _)
      | (with_reducible exact odysseylaw03_same.mono _ _ _)
      | (with_reducible exact pack_List.mono _ _)
      | (with_reducible exact pack_Num.mono _ _)
      | (with_reducible exact pack_TakeList.mono _ _ _)
      | (with_reducible exact pack_TakeNum.mono _ _ _)
      | (with_reducible exact LeO.refl _)
      | (with_reducible exact LeO.none _)
      | (with_reducible refine LeO.ite ?_ ?_)
      | (with_reducible refine LeO.bind ?_ (fun _ => ?_))
      | exact ih0 _ _
      | exact odysseylaw03_live.mono _
      | exact odysseylaw03_same.mono _ _ _
      | exact pack_List.mono _ _
      | exact pack_Num.mono _ _
      | exact pack_TakeList.mono _ _ _
      | exact pack_TakeNum.mono _ _ _
      | exact LeO.none _
      | refine LeO.ite ?_ ?_
      | refine LeO.bind ?_ (fun _ => ?_)
set_option maxHeartbeats 8000000 in
set_option maxRecDepth 100000 in
theorem odysseylaw03_PackBack.calls (k : Nat) (a0 : Int) (A1 : Option Addr) (c1 : Nat) (l1 : List ByteArray) (a2 : ByteArray) (r : Bool) (w : World) (hr1 : Kd.C Kd.string w A1 l1.length l1) (hc1 : l1.length ≤ c1) (hr_ : Aside0 (r = true)) (h : odysseylaw03_PackBack.f k a0 l1 a2 = some r) :
    Calls Try.prog 8 #[.int .i64 a0, .slice A1 l1.length c1, .string a2] w fun e w' => e = .returned (.bool r) ∧ Below w.heap.size w w' := by
  have HR1 := Aside0.mk hr1
  have HC1 := Aside0.mk hc1
  clear hr1 hc1
  have HB := Aside0.mk (Below.refl w.heap.size w)
  have H : ((pack_Num.f k a0).bind fun bt181 => (if bt181.2 = 0 then (if a2.size + bt181.1.size ≤ 9223372036854775807 then (if (a2 ++ bt181.1).size + a2.size ≤ 9223372036854775807 then ((pack_TakeNum.f k ((a2 ++ bt181.1) ++ a2) (a2.size : Int)).bind fun bt183 => (if bt183.1 = a0 then (if bt183.2.1 = (wrap64 ((a2.size : Int) + (bt181.1.size : Int))) then (if bt183.2.2 = 0 then (odysseylaw03_PackBack.j0 k l1 a2) else (some false)) else (some false)) else (some false))) else (none)) else (none)) else (odysseylaw03_PackBack.j0 k l1 a2))) = some r := h
  clear h
  replace H := Option.bind_eq_some_iff.mp H
  obtain ⟨⟨t181, t182⟩, A40, H⟩ := H
  replace H : (if t182 = 0 then (if a2.size + t181.size ≤ 9223372036854775807 then (if (a2 ++ t181).size + a2.size ≤ 9223372036854775807 then ((pack_TakeNum.f k ((a2 ++ t181) ++ a2) (a2.size : Int)).bind fun bt183 => (if bt183.1 = a0 then (if bt183.2.1 = (wrap64 ((a2.size : Int) + (t181.size : Int))) then (if bt183.2.2 = 0 then (odysseylaw03_PackBack.j0 k l1 a2) else (some false)) else (some false)) else (some false))) else (none)) else (none)) else (odysseylaw03_PackBack.j0 k l1 a2)) = some r := H
  have A4 := Aside0.mk A40
  clear A40
  have HC5 := Aside0.mk H
  clear H
  go_enter Try.func8, Try.ntmps8
  go_upto_if 22 with (first | ((with_reducible refine gate_callee (f := 10) rfl ?_); refine goesL_ (some 18) rfl rfl Try.func10 (by kernel_rfl) rfl #[.int .i64 a0] rfl (by (try simp only [List.map_toArray, List.map_cons, List.map_nil]); first | done | rfl | (simp only [List.length_drop, List.length_take]; rfl)) ?_; (with_reducible refine (pack_Num.calls k a0 t181 t182 _ A4.out).mono ?_); rintro e w6 ⟨rfl, hb⟩; refine ⟨_, rfl, ?_⟩; have n0_ := Aside0.mk (below_step (by repeat (first | (with_reducible first | exact HB.out | apply below_alloc | apply pw_below_drewN | apply below_drew1) | exact HB.out)) hb); clear HB; have HB := n0_; clear n0_; (try clear hb); (try clear hb2); (try clear hk); (try clear hi)))
  (try simp only [Act.put, List.setIfInBounds_toArray, List.set_cons_zero, List.set_cons_succ])
  go_cut [] (fun wc => ∃ (kq : Nat), Aside0 (odysseylaw03_PackBack.j0 kq l1 a2 = some r) ∧ Aside0 (kq ≤ k) ∧ Aside0 (Below w.heap.size w wc))
  case first =>
    have H := HC5.out
    clear HC5
    by_cases c7 : t182 = 0
    · rw [if_pos c7] at H
      have c7b0 : (t182 == 0) = true := beq_iff_eq.mpr c7
      have c7b1 : (t182 != 0) = false := bne_eq_false_iff_eq.mpr c7
      clear c7
      (first | rw [c7b0] | (simp only [i64_w, i32_w]; rw [c7b0]) | skip)
      by_cases c8 : a2.size + t181.size ≤ 9223372036854775807
      · rw [if_pos c8] at H
        have c8b0 := eq_true c8
        have c8b1 : decide (a2.size + t181.size ≤ 9223372036854775807) = true := decide_eq_true c8
        try have c8b2 : (9223372036854775807 < a2.size + t181.size) = False := eq_false (Nat.not_lt.2 c8)
        by_cases c9 : (a2 ++ t181).size + a2.size ≤ 9223372036854775807
        · rw [if_pos c9] at H
          have c9b0 := eq_true c9
          have c9b1 : decide ((a2 ++ t181).size + a2.size ≤ 9223372036854775807) = true := decide_eq_true c9
          try have c9b2 : (9223372036854775807 < (a2 ++ t181).size + a2.size) = False := eq_false (Nat.not_lt.2 c9)
          replace H := Option.bind_eq_some_iff.mp H
          obtain ⟨⟨t183, t184, t185⟩, A100, H⟩ := H
          replace H : (if t183 = a0 then (if t184 = (wrap64 ((a2.size : Int) + (t181.size : Int))) then (if t185 = 0 then (odysseylaw03_PackBack.j0 k l1 a2) else (some false)) else (some false)) else (some false)) = some r := H
          have A10 := Aside0.mk A100
          clear A100
          by_cases c11 : t183 = a0
          · rw [if_pos c11] at H
            have c11b0 : (t183 == a0) = true := beq_iff_eq.mpr c11
            have c11b1 : (t183 != a0) = false := bne_eq_false_iff_eq.mpr c11
            clear c11
            by_cases c12 : t184 = (wrap64 ((a2.size : Int) + (t181.size : Int)))
            · rw [if_pos c12] at H
              have c12b0 : (t184 == (wrap64 ((a2.size : Int) + (t181.size : Int)))) = true := beq_iff_eq.mpr c12
              have c12b1 : (t184 != (wrap64 ((a2.size : Int) + (t181.size : Int)))) = false := bne_eq_false_iff_eq.mpr c12
              (try (have c12b2 : (t184 == (((a2.size : Int) + (t181.size : Int)))) = true := by have q_ : wrap64 ((a2.size : Int) + (t181.size : Int)) = ((a2.size : Int) + (t181.size : Int)) := (by unfold wrap64; first | omega | (simp only [decide_eq_true_eq] at *; omega)); rw [q_] at c12; exact beq_iff_eq.mpr c12))
              (try (have c12b3 : (t184 != (((a2.size : Int) + (t181.size : Int)))) = false := by have q_ : wrap64 ((a2.size : Int) + (t181.size : Int)) = ((a2.size : Int) + (t181.size : Int)) := (by unfold wrap64; first | omega | (simp only [decide_eq_true_eq] at *; omega)); rw [q_] at c12; exact bne_eq_false_iff_eq.mpr c12))
              clear c12
              by_cases c13 : t185 = 0
              · rw [if_pos c13] at H
                have c13b0 : (t185 == 0) = true := beq_iff_eq.mpr c13
                have c13b1 : (t185 != 0) = false := bne_eq_false_iff_eq.mpr c13
                clear c13
                have H' := Aside0.mk H
                clear H
                go_wp2_with (first | ((with_reducible refine gate_callee (f := 13) rfl ?_); refine goesL_ (some 31) rfl rfl Try.func13 (by kernel_rfl) rfl #[.string ((a2 ++ t181) ++ a2), .int .i64 (a2.size : Int)] rfl (by (try simp only [List.map_toArray, List.map_cons, List.map_nil]); first | done | rfl | (simp only [List.length_drop, List.length_take]; rfl)) ?_; (with_reducible refine (pack_TakeNum.calls k ((a2 ++ t181) ++ a2) (a2.size : Int) t183 t184 t185 _ A10.out).mono ?_); rintro e w14 ⟨rfl, hb⟩; refine ⟨_, rfl, ?_⟩; have n0_ := Aside0.mk (below_step (by repeat (first | (with_reducible first | exact HB.out | apply below_alloc | apply pw_below_drewN | apply below_drew1) | exact HB.out)) hb); clear HB; have HB := n0_; clear n0_; (try clear hb); (try clear hb2); (try clear hk); (try clear hi)))
                go_meet
                case rel => exact ⟨_, H', ⟨by first | omega | exact Nat.le_refl _⟩, ⟨by repeat (first | (with_reducible first | exact HB.out | apply below_alloc | apply pw_below_drewN | apply below_drew1) | exact HB.out)⟩⟩
              · rw [if_neg c13] at H
                have c13b0 : (t185 == 0) = false := beq_eq_false_iff_ne.mpr c13
                have c13b1 : (t185 != 0) = true := bne_iff_ne.mpr c13
                exact absurd ((Option.some.inj H).trans hr_.out) (by decide)
            · rw [if_neg c12] at H
              have c12b0 : (t184 == (wrap64 ((a2.size : Int) + (t181.size : Int)))) = false := beq_eq_false_iff_ne.mpr c12
              have c12b1 : (t184 != (wrap64 ((a2.size : Int) + (t181.size : Int)))) = true := bne_iff_ne.mpr c12
              (try (have c12b2 : (t184 == (((a2.size : Int) + (t181.size : Int)))) = false := by have q_ : wrap64 ((a2.size : Int) + (t181.size : Int)) = ((a2.size : Int) + (t181.size : Int)) := (by unfold wrap64; first | omega | (simp only [decide_eq_true_eq] at *; omega)); rw [q_] at c12; exact beq_eq_false_iff_ne.mpr c12))
              (try (have c12b3 : (t184 != (((a2.size : Int) + (t181.size : Int)))) = true := by have q_ : wrap64 ((a2.size : Int) + (t181.size : Int)) = ((a2.size : Int) + (t181.size : Int)) := (by unfold wrap64; first | omega | (simp only [decide_eq_true_eq] at *; omega)); rw [q_] at c12; exact bne_iff_ne.mpr c12))
              exact absurd ((Option.some.inj H).trans hr_.out) (by decide)
          · rw [if_neg c11] at H
            have c11b0 : (t183 == a0) = false := beq_eq_false_iff_ne.mpr c11
            have c11b1 : (t183 != a0) = true := bne_iff_ne.mpr c11
            exact absurd ((Option.some.inj H).trans hr_.out) (by decide)
        · rw [if_neg c9] at H
          exact absurd H (by simp)
      · rw [if_neg c8] at H
        exact absurd H (by simp)
    · rw [if_neg c7] at H
      have c7b0 : (t182 == 0) = false := beq_eq_false_iff_ne.mpr c7
      have c7b1 : (t182 != 0) = true := bne_iff_ne.mpr c7
      (first | rw [c7b0] | (simp only [i64_w, i32_w]; rw [c7b0]) | skip)
      have H' := Aside0.mk H
      clear H
      go_wp2
      go_meet
      case rel => exact ⟨_, H', ⟨by first | omega | exact Nat.le_refl _⟩, ⟨by repeat (first | (with_reducible first | exact HB.out | apply below_alloc | apply pw_below_drewN | apply below_drew1) | exact HB.out)⟩⟩
  case rest =>
    clear HC5
    try clear c1
    try clear p2
    try clear p6
    try clear c7
    try clear c7b0
    try clear c7b1
    try clear c8
    try clear c8b0
    try clear c8b1
    try clear c8b2
    try clear c9
    try clear c9b0
    try clear c9b1
    try clear c9b2
    try clear c10
    try clear c11
    try clear c11b0
    try clear c11b1
    try clear c12
    try clear c12b0
    try clear c12b1
    try clear c12b2
    try clear c13
    try clear c13b0
    try clear c13b1
    obtain ⟨kq, HA, HJ4, HB⟩ := hcut
    cases kq with
    | zero => exact absurd HA.out (by simp [odysseylaw03_PackBack.j0])
    | succ kj4 =>
      have H := HA.out
      clear HA
      simp only [odysseylaw03_PackBack.j0] at H
      replace H := Option.bind_eq_some_iff.mp H
      obtain ⟨⟨t186, t187⟩, A150, H⟩ := H
      replace H : (if t187 = 0 then (if a2.size + t186.size ≤ 9223372036854775807 then (if (a2 ++ t186).size + a2.size ≤ 9223372036854775807 then ((pack_TakeList.f kj4 ((a2 ++ t186) ++ a2) (a2.size : Int)).bind fun bt188 => ((odysseylaw03_same.f kj4 bt188.1 l1).bind fun t193 => (if t193 = true then (if bt188.2.1 = (wrap64 ((a2.size : Int) + (t186.size : Int))) then (if bt188.2.2 = 0 then ((odysseylaw03_live.f kj4).bind fun t194 => (some t194)) else (some false)) else (some false)) else (some false)))) else (none)) else (none)) else ((odysseylaw03_live.f kj4).bind fun t195 => (some t195))) = some r := H
      have A15 := Aside0.mk A150
      clear A150
      by_cases c16 : t187 = 0
      · rw [if_pos c16] at H
        have c16b0 : (t187 == 0) = true := beq_iff_eq.mpr c16
        have c16b1 : (t187 != 0) = false := bne_eq_false_iff_eq.mpr c16
        clear c16
        by_cases c17 : a2.size + t186.size ≤ 9223372036854775807
        · rw [if_pos c17] at H
          have c17b0 := eq_true c17
          have c17b1 : decide (a2.size + t186.size ≤ 9223372036854775807) = true := decide_eq_true c17
          try have c17b2 : (9223372036854775807 < a2.size + t186.size) = False := eq_false (Nat.not_lt.2 c17)
          by_cases c18 : (a2 ++ t186).size + a2.size ≤ 9223372036854775807
          · rw [if_pos c18] at H
            have c18b0 := eq_true c18
            have c18b1 : decide ((a2 ++ t186).size + a2.size ≤ 9223372036854775807) = true := decide_eq_true c18
            try have c18b2 : (9223372036854775807 < (a2 ++ t186).size + a2.size) = False := eq_false (Nat.not_lt.2 c18)
            replace H := Option.bind_eq_some_iff.mp H
            obtain ⟨⟨t188, t189, t190⟩, A190, H⟩ := H
            replace H : ((odysseylaw03_same.f kj4 t188 l1).bind fun t193 => (if t193 = true then (if t189 = (wrap64 ((a2.size : Int) + (t186.size : Int))) then (if t190 = 0 then ((odysseylaw03_live.f kj4).bind fun t194 => (some t194)) else (some false)) else (some false)) else (some false))) = some r := H
            have A19 := Aside0.mk A190
            clear A190
            replace H := Option.bind_eq_some_iff.mp H
            obtain ⟨t193, A200, H⟩ := H
            replace H : (if t193 = true then (if t189 = (wrap64 ((a2.size : Int) + (t186.size : Int))) then (if t190 = 0 then ((odysseylaw03_live.f kj4).bind fun t194 => (some t194)) else (some false)) else (some false)) else (some false)) = some r := H
            have A20 := Aside0.mk A200
            clear A200
            by_cases c21 : t193 = true
            · subst c21
              have H1 : (if t189 = (wrap64 ((a2.size : Int) + (t186.size : Int))) then (if t190 = 0 then ((odysseylaw03_live.f kj4).bind fun t194 => (some t194)) else (some false)) else (some false)) = some r := by rw [if_pos rfl] at H; exact H
              clear H
              have H := H1
              clear H1
              by_cases c22 : t189 = (wrap64 ((a2.size : Int) + (t186.size : Int)))
              · rw [if_pos c22] at H
                have c22b0 : (t189 == (wrap64 ((a2.size : Int) + (t186.size : Int)))) = true := beq_iff_eq.mpr c22
                have c22b1 : (t189 != (wrap64 ((a2.size : Int) + (t186.size : Int)))) = false := bne_eq_false_iff_eq.mpr c22
                (try (have c22b2 : (t189 == (((a2.size : Int) + (t186.size : Int)))) = true := by have q_ : wrap64 ((a2.size : Int) + (t186.size : Int)) = ((a2.size : Int) + (t186.size : Int)) := (by unfold wrap64; first | omega | (simp only [decide_eq_true_eq] at *; omega)); rw [q_] at c22; exact beq_iff_eq.mpr c22))
                (try (have c22b3 : (t189 != (((a2.size : Int) + (t186.size : Int)))) = false := by have q_ : wrap64 ((a2.size : Int) + (t186.size : Int)) = ((a2.size : Int) + (t186.size : Int)) := (by unfold wrap64; first | omega | (simp only [decide_eq_true_eq] at *; omega)); rw [q_] at c22; exact bne_eq_false_iff_eq.mpr c22))
                clear c22
                by_cases c23 : t190 = 0
                · rw [if_pos c23] at H
                  have c23b0 : (t190 == 0) = true := beq_iff_eq.mpr c23
                  have c23b1 : (t190 != 0) = false := bne_eq_false_iff_eq.mpr c23
                  clear c23
                  replace H := Option.bind_eq_some_iff.mp H
                  obtain ⟨t194, A240, H⟩ := H
                  replace H : (some t194) = some r := H
                  have A24 := Aside0.mk A240
                  clear A240
                  obtain rfl := Option.some.inj H
                  go_wp2_with (first | ((with_reducible refine gate_callee (f := 23) rfl ?_); refine goesL_ (some 53) rfl rfl Try.func23 (by kernel_rfl) rfl #[.slice A1 l1.length c1] rfl (by (try simp only [List.map_toArray, List.map_cons, List.map_nil]); first | done | rfl | (simp only [List.length_drop, List.length_take]; rfl)) ?_; (with_reducible refine (pack_List.calls kj4 _ _ l1 t186 t187 _ ?side1 ?side2 A15.out).mono ?_); (case side1 => repeat (first | exact (Kd.C_below HR1.out HB.out) | (with_reducible refine Kd.C_alloc ?_ _) | (with_reducible refine Kd.C_drewN ?_ _) | (with_reducible refine Kd.C_drew ?_))); (case side2 => exact HC1.out); rintro e w25 ⟨rfl, hb⟩; refine ⟨_, rfl, ?_⟩; have n0_ := Aside0.mk (below_step (by repeat (first | (with_reducible first | exact HB.out | apply below_alloc | apply pw_below_drewN | apply below_drew1) | exact HB.out)) hb); clear HB; have HB := n0_; clear n0_; (try clear hb); (try clear hb2); (try clear hk); (try clear hi)) | ((with_reducible refine gate_callee (f := 17) rfl ?_); refine goesL_ (some 66) rfl rfl Try.func17 (by kernel_rfl) rfl #[.string ((a2 ++ t186) ++ a2), .int .i64 (a2.size : Int)] rfl (by (try simp only [List.map_toArray, List.map_cons, List.map_nil]); first | done | rfl | (simp only [List.length_drop, List.length_take]; rfl)) ?_; (with_reducible refine (pack_TakeList.calls kj4 ((a2 ++ t186) ++ a2) (a2.size : Int) t188 t189 t190 _ A19.out).mono ?_); rintro e w26 ⟨v191, rfl, ho0, hb⟩; refine ⟨_, rfl, ?_⟩; have n0_ := Aside0.mk (Kd.R_lower ho0 (below_size (by repeat (first | (with_reducible first | exact HB.out | apply below_alloc | apply pw_below_drewN | apply below_drew1) | exact HB.out)))); have n1_ := Aside0.mk (below_step (by repeat (first | (with_reducible first | exact HB.out | apply below_alloc | apply pw_below_drewN | apply below_drew1) | exact HB.out)) hb); clear HB; have HO192 := n0_; have HB := n1_; clear n0_ n1_; (try clear hb); (try clear hb2); (try clear hk); (try clear hi); (try clear ho0); obtain ⟨Ao27, co27, eo27⟩ := Kd.R_slice HO192.out; subst eo27) | ((with_reducible refine gate_callee (f := 19) rfl ?_); refine goesL_ (some 72) rfl rfl Try.func19 (by kernel_rfl) rfl #[.slice Ao27 t188.length co27, .slice A1 l1.length c1] rfl (by (try simp only [List.map_toArray, List.map_cons, List.map_nil]); first | done | rfl | (simp only [List.length_drop, List.length_take]; rfl)) ?_; (with_reducible refine (odysseylaw03_same.calls kj4 _ _ t188 _ _ l1 true _ ?side1 ?side2 ?side3 ?side4 A20.out).mono ?_); (case side1 => repeat (first | exact (Kd.R_reads' HO192.out).2.2 | (with_reducible refine Kd.C_alloc ?_ _) | (with_reducible refine Kd.C_drewN ?_ _) | (with_reducible refine Kd.C_drew ?_))); (case side2 => exact (Kd.R_reads' HO192.out).2.1); (case side3 => repeat (first | exact (Kd.C_below HR1.out HB.out) | (with_reducible refine Kd.C_alloc ?_ _) | (with_reducible refine Kd.C_drewN ?_ _) | (with_reducible refine Kd.C_drew ?_))); (case side4 => exact HC1.out); rintro e w' ⟨rfl, ⟨nd, rfl⟩⟩; refine ⟨_, rfl, ?_⟩) | ((with_reducible refine gate_callee (f := 12) rfl ?_); refine goesL_ (some 87) rfl rfl Try.func12 (by kernel_rfl) rfl #[] rfl (by (try simp only [List.map_toArray, List.map_cons, List.map_nil]); first | done | rfl | (simp only [List.length_drop, List.length_take]; rfl)) ?_; (with_reducible refine (odysseylaw03_live.calls kj4  t194 _ A24.out).mono ?_); rintro e w28 ⟨rfl, hb⟩; refine ⟨_, rfl, ?_⟩; have n0_ := Aside0.mk (Kd.R_below (by (with_reducible repeat (first | apply Kd.R_alloc | apply Kd.R_drewN | apply Kd.R_drew)); exact HO192.out) hb); have n1_ := Aside0.mk (below_step (by repeat (first | (with_reducible first | exact HB.out | apply below_alloc | apply pw_below_drewN | apply below_drew1) | exact HB.out)) hb); clear HO192; clear HB; have HO192 := n0_; have HB := n1_; clear n0_ n1_; (try clear hb); (try clear hb2); (try clear hk); (try clear hi)))
                  go_ret
                  exact ⟨by first | rfl | (simp [errW_none, errW_some] <;> rfl) | (simp [*, errW_none, errW_some] <;> rfl), by repeat (first | (with_reducible first | exact HB.out | apply below_alloc | apply pw_below_drewN | apply below_drew1) | exact HB.out)⟩
                · rw [if_neg c23] at H
                  have c23b0 : (t190 == 0) = false := beq_eq_false_iff_ne.mpr c23
                  have c23b1 : (t190 != 0) = true := bne_iff_ne.mpr c23
                  exact absurd ((Option.some.inj H).trans hr_.out) (by decide)
              · rw [if_neg c22] at H
                have c22b0 : (t189 == (wrap64 ((a2.size : Int) + (t186.size : Int)))) = false := beq_eq_false_iff_ne.mpr c22
                have c22b1 : (t189 != (wrap64 ((a2.size : Int) + (t186.size : Int)))) = true := bne_iff_ne.mpr c22
                (try (have c22b2 : (t189 == (((a2.size : Int) + (t186.size : Int)))) = false := by have q_ : wrap64 ((a2.size : Int) + (t186.size : Int)) = ((a2.size : Int) + (t186.size : Int)) := (by unfold wrap64; first | omega | (simp only [decide_eq_true_eq] at *; omega)); rw [q_] at c22; exact beq_eq_false_iff_ne.mpr c22))
                (try (have c22b3 : (t189 != (((a2.size : Int) + (t186.size : Int)))) = true := by have q_ : wrap64 ((a2.size : Int) + (t186.size : Int)) = ((a2.size : Int) + (t186.size : Int)) := (by unfold wrap64; first | omega | (simp only [decide_eq_true_eq] at *; omega)); rw [q_] at c22; exact bne_iff_ne.mpr c22))
                exact absurd ((Option.some.inj H).trans hr_.out) (by decide)
            · replace c21 := Bool.eq_false_iff.mpr c21
              subst c21
              have H1 : (some false) = some r := by rw [if_neg (show ¬ (false = true) by decide)] at H; exact H
              clear H
              have H := H1
              clear H1
              exact absurd ((Option.some.inj H).trans hr_.out) (by decide)
          · rw [if_neg c18] at H
            exact absurd H (by simp)
        · rw [if_neg c17] at H
          exact absurd H (by simp)
      · rw [if_neg c16] at H
        have c16b0 : (t187 == 0) = false := beq_eq_false_iff_ne.mpr c16
        have c16b1 : (t187 != 0) = true := bne_iff_ne.mpr c16
        replace H := Option.bind_eq_some_iff.mp H
        obtain ⟨t195, A290, H⟩ := H
        replace H : (some t195) = some r := H
        have A29 := Aside0.mk A290
        clear A290
        obtain rfl := Option.some.inj H
        go_wp2_with (first | ((with_reducible refine gate_callee (f := 23) rfl ?_); refine goesL_ (some 53) rfl rfl Try.func23 (by kernel_rfl) rfl #[.slice A1 l1.length c1] rfl (by (try simp only [List.map_toArray, List.map_cons, List.map_nil]); first | done | rfl | (simp only [List.length_drop, List.length_take]; rfl)) ?_; (with_reducible refine (pack_List.calls kj4 _ _ l1 t186 t187 _ ?side1 ?side2 A15.out).mono ?_); (case side1 => repeat (first | exact (Kd.C_below HR1.out HB.out) | (with_reducible refine Kd.C_alloc ?_ _) | (with_reducible refine Kd.C_drewN ?_ _) | (with_reducible refine Kd.C_drew ?_))); (case side2 => exact HC1.out); rintro e w30 ⟨rfl, hb⟩; refine ⟨_, rfl, ?_⟩; have n0_ := Aside0.mk (below_step (by repeat (first | (with_reducible first | exact HB.out | apply below_alloc | apply pw_below_drewN | apply below_drew1) | exact HB.out)) hb); clear HB; have HB := n0_; clear n0_; (try clear hb); (try clear hb2); (try clear hk); (try clear hi)) | ((with_reducible refine gate_callee (f := 12) rfl ?_); refine goesL_ (some 87) rfl rfl Try.func12 (by kernel_rfl) rfl #[] rfl (by (try simp only [List.map_toArray, List.map_cons, List.map_nil]); first | done | rfl | (simp only [List.length_drop, List.length_take]; rfl)) ?_; (with_reducible refine (odysseylaw03_live.calls kj4  t195 _ A29.out).mono ?_); rintro e w31 ⟨rfl, hb⟩; refine ⟨_, rfl, ?_⟩; have n0_ := Aside0.mk (below_step (by repeat (first | (with_reducible first | exact HB.out | apply below_alloc | apply pw_below_drewN | apply below_drew1) | exact HB.out)) hb); clear HB; have HB := n0_; clear n0_; (try clear hb); (try clear hb2); (try clear hk); (try clear hi)))
        go_ret
        exact ⟨by first | rfl | (simp [errW_none, errW_some] <;> rfl) | (simp [*, errW_none, errW_some] <;> rfl), by repeat (first | (with_reducible first | exact HB.out | apply below_alloc | apply pw_below_drewN | apply below_drew1) | exact HB.out)⟩

end Go.Proofs.Ytfifcanpdjdhcaa.G
