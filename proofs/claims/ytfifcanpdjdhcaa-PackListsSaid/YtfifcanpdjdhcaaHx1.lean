-- Written by gprint.py, a program of this session, over the kit's print of the loaded functions. Not trusted: Lean checks it.
import Derived.Test.YtfifcanpdjdhcaaHx0
namespace Go.Proofs.Ytfifcanpdjdhcaa.H
open Go.RowKit Go.Proofs.YtfifcanpdjdhcaaW.PrintWords Go.Proofs.YtfifcanpdjdhcaaW.PrintLast Go.Proofs.YtfifcanpdjdhcaaW.PrintMore Go.Proofs.Ytfifcanpdjdhcaa.RefList Go.Proofs.Ytfifcanpdjdhcaa.G
attribute [local go_sem] max2_int min2_int max_two min_two max_three min_three max_four min_four   -- for this text's walks alone
set_option linter.unusedVariables false
set_option linter.unusedSimpArgs false

/-! ### odysseylaw03_PackLists: function 7 -/
def odysseylaw03_PackLists.f (k : Nat) (l0 : List ByteArray) : Option (Bool) := (odysseylaw03_copied.f l0).bind fun t101 => ((pack_List.f k t101).bind fun bt104 => ((odysseyref03_List.f l0).bind fun bt106 => (if bt104.1.toList = bt106.1.toList then (if bt104.2 = bt106.2 then ((odysseylaw03_same.f k t101 l0).bind fun t108 => (if t108 = true then ((odysseylaw03_live.f k).bind fun t109 => (some t109)) else (some false))) else (some false)) else (some false))))
theorem odysseylaw03_PackLists.mono : ∀ a0 k, LeO (odysseylaw03_PackLists.f k a0) (odysseylaw03_PackLists.f (k + 1) a0) := by
  intro a0 k
  unfold odysseylaw03_PackLists.f
  repeat' first
      | (with_reducible exact odysseylaw03_live.mono _)
      | (with_reducible exact odysseylaw03_same.mono _ _ _)
      | (with_reducible exact pack_List.mono _ _)
      | (with_reducible exact LeO.refl _)
      | (with_reducible exact LeO.none _)
      | (with_reducible refine LeO.ite ?_ ?_)
      | (with_reducible refine LeO.bind ?_ (fun _ => ?_))
      | exact odysseylaw03_live.mono _
      | exact odysseylaw03_same.mono _ _ _
      | exact pack_List.mono _ _
      | exact LeO.none _
      | refine LeO.ite ?_ ?_
      | refine LeO.bind ?_ (fun _ => ?_)
set_option maxHeartbeats 8000000 in
set_option maxRecDepth 100000 in
theorem odysseylaw03_PackLists.calls (k : Nat) (A0 : Option Addr) (c0 : Nat) (l0 : List ByteArray) (r : Bool) (w : World) (hr0 : Kd.C Kd.string w A0 l0.length l0) (hc0 : l0.length ≤ c0) (hr_ : Aside0 (r = true)) (h : odysseylaw03_PackLists.f k l0 = some r) :
    Calls Try.prog 7 #[.slice A0 l0.length c0] w fun e w' => e = .returned (.bool r) ∧ Below w.heap.size w w' := by
  have HR0 := Aside0.mk hr0
  have HC0 := Aside0.mk hc0
  clear hr0 hc0
  have HB := Aside0.mk (Below.refl w.heap.size w)
  have H : ((odysseylaw03_copied.f l0).bind fun t101 => ((pack_List.f k t101).bind fun bt104 => ((odysseyref03_List.f l0).bind fun bt106 => (if bt104.1.toList = bt106.1.toList then (if bt104.2 = bt106.2 then ((odysseylaw03_same.f k t101 l0).bind fun t108 => (if t108 = true then ((odysseylaw03_live.f k).bind fun t109 => (some t109)) else (some false))) else (some false)) else (some false))))) = some r := h
  clear h
  replace H := Option.bind_eq_some_iff.mp H
  obtain ⟨t101, A20, H⟩ := H
  replace H : ((pack_List.f k t101).bind fun bt104 => ((odysseyref03_List.f l0).bind fun bt106 => (if bt104.1.toList = bt106.1.toList then (if bt104.2 = bt106.2 then ((odysseylaw03_same.f k t101 l0).bind fun t108 => (if t108 = true then ((odysseylaw03_live.f k).bind fun t109 => (some t109)) else (some false))) else (some false)) else (some false)))) = some r := H
  have A2 := Aside0.mk A20
  clear A20
  replace H := Option.bind_eq_some_iff.mp H
  obtain ⟨⟨t104, t105⟩, A30, H⟩ := H
  replace H : ((odysseyref03_List.f l0).bind fun bt106 => (if t104.toList = bt106.1.toList then (if t105 = bt106.2 then ((odysseylaw03_same.f k t101 l0).bind fun t108 => (if t108 = true then ((odysseylaw03_live.f k).bind fun t109 => (some t109)) else (some false))) else (some false)) else (some false))) = some r := H
  have A3 := Aside0.mk A30
  clear A30
  replace H := Option.bind_eq_some_iff.mp H
  obtain ⟨⟨t106, t107⟩, A40, H⟩ := H
  replace H : (if t104.toList = t106.toList then (if t105 = t107 then ((odysseylaw03_same.f k t101 l0).bind fun t108 => (if t108 = true then ((odysseylaw03_live.f k).bind fun t109 => (some t109)) else (some false))) else (some false)) else (some false)) = some r := H
  have A4 := Aside0.mk A40
  clear A40
  by_cases c5 : t104.toList = t106.toList
  · rw [if_pos c5] at H
    have c5b0 : (t104.toList == t106.toList) = true := beq_iff_eq.mpr c5
    have c5b1 : (t104.toList != t106.toList) = false := bne_eq_false_iff_eq.mpr c5
    clear c5
    by_cases c6 : t105 = t107
    · rw [if_pos c6] at H
      have c6b0 : (t105 == t107) = true := beq_iff_eq.mpr c6
      have c6b1 : (t105 != t107) = false := bne_eq_false_iff_eq.mpr c6
      clear c6
      replace H := Option.bind_eq_some_iff.mp H
      obtain ⟨t108, A70, H⟩ := H
      replace H : (if t108 = true then ((odysseylaw03_live.f k).bind fun t109 => (some t109)) else (some false)) = some r := H
      have A7 := Aside0.mk A70
      clear A70
      by_cases c8 : t108 = true
      · subst c8
        have H1 : ((odysseylaw03_live.f k).bind fun t109 => (some t109)) = some r := by rw [if_pos rfl] at H; exact H
        clear H
        have H := H1
        clear H1
        replace H := Option.bind_eq_some_iff.mp H
        obtain ⟨t109, A90, H⟩ := H
        replace H : (some t109) = some r := H
        have A9 := Aside0.mk A90
        clear A90
        obtain rfl := Option.some.inj H
        go_enter Try.func7, Try.ntmps7
        go_wp2_with (first | ((with_reducible refine gate_callee (f := 22) rfl ?_); refine goesL_ (some 9) rfl rfl Try.func22 (by kernel_rfl) rfl #[.slice A0 l0.length c0] rfl (by (try simp only [List.map_toArray, List.map_cons, List.map_nil]); first | done | rfl | (simp only [List.length_drop, List.length_take]; rfl)) ?_; (with_reducible refine (odysseylaw03_copied.calls _ _ l0 t101 _ ?side1 ?side2 A2.out).mono ?_); (case side1 => repeat (first | exact HR0.out | (with_reducible refine Kd.C_alloc ?_ _) | (with_reducible refine Kd.C_drewN ?_ _) | (with_reducible refine Kd.C_drew ?_))); (case side2 => exact HC0.out); rintro e w10 ⟨v102, rfl, ho0, hb⟩; refine ⟨_, rfl, ?_⟩; have n0_ := Aside0.mk (Kd.R_lower ho0 (below_size (by repeat (first | (with_reducible first | exact HB.out | apply below_alloc | apply pw_below_drewN | apply below_drew1) | exact HB.out)))); have n1_ := Aside0.mk (below_step (by repeat (first | (with_reducible first | exact HB.out | apply below_alloc | apply pw_below_drewN | apply below_drew1) | exact HB.out)) hb); clear HB; have HO103 := n0_; have HB := n1_; clear n0_ n1_; (try clear hb); (try clear hb2); (try clear hk); (try clear hi); (try clear ho0); obtain ⟨Ao11, co11, eo11⟩ := Kd.R_slice HO103.out; subst eo11) | ((with_reducible refine gate_callee (f := 23) rfl ?_); refine goesL_ (some 12) rfl rfl Try.func23 (by kernel_rfl) rfl #[.slice Ao11 t101.length co11] rfl (by (try simp only [List.map_toArray, List.map_cons, List.map_nil]); first | done | rfl | (simp only [List.length_drop, List.length_take]; rfl)) ?_; (with_reducible refine (pack_List.calls k _ _ t101 t104 t105 _ ?side1 ?side2 A3.out).mono ?_); (case side1 => repeat (first | exact (Kd.R_reads' HO103.out).2.2 | (with_reducible refine Kd.C_alloc ?_ _) | (with_reducible refine Kd.C_drewN ?_ _) | (with_reducible refine Kd.C_drew ?_))); (case side2 => exact (Kd.R_reads' HO103.out).2.1); rintro e w12 ⟨rfl, hb⟩; refine ⟨_, rfl, ?_⟩; have n0_ := Aside0.mk (Kd.R_below (by (with_reducible repeat (first | apply Kd.R_alloc | apply Kd.R_drewN | apply Kd.R_drew)); exact HO103.out) hb); have n1_ := Aside0.mk (below_step (by repeat (first | (with_reducible first | exact HB.out | apply below_alloc | apply pw_below_drewN | apply below_drew1) | exact HB.out)) hb); clear HO103; clear HB; have HO103 := n0_; have HB := n1_; clear n0_ n1_; (try clear hb); (try clear hb2); (try clear hk); (try clear hi)) | ((with_reducible refine gate_callee (f := 24) rfl ?_); refine goesL_ (some 17) rfl rfl Try.func24 (by kernel_rfl) rfl #[.slice A0 l0.length c0] rfl (by (try simp only [List.map_toArray, List.map_cons, List.map_nil]); first | done | rfl | (simp only [List.length_drop, List.length_take]; rfl)) ?_; (with_reducible refine (odysseyref03_List.calls _ _ l0 t106 t107 _ ?side1 ?side2 A4.out).mono ?_); (case side1 => repeat (first | exact (Kd.C_below HR0.out HB.out) | (with_reducible refine Kd.C_alloc ?_ _) | (with_reducible refine Kd.C_drewN ?_ _) | (with_reducible refine Kd.C_drew ?_))); (case side2 => exact HC0.out); rintro e w13 ⟨rfl, hb⟩; refine ⟨_, rfl, ?_⟩; have n0_ := Aside0.mk (Kd.R_below (by (with_reducible repeat (first | apply Kd.R_alloc | apply Kd.R_drewN | apply Kd.R_drew)); exact HO103.out) hb); have n1_ := Aside0.mk (below_step (by repeat (first | (with_reducible first | exact HB.out | apply below_alloc | apply pw_below_drewN | apply below_drew1) | exact HB.out)) hb); clear HO103; clear HB; have HO103 := n0_; have HB := n1_; clear n0_ n1_; (try clear hb); (try clear hb2); (try clear hk); (try clear hi)) | (go_at_call 19; (with_reducible refine (odysseylaw03_same.calls k _ _ t101 _ _ l0 true _ ?side1 ?side2 ?side3 ?side4 A7.out).mono ?_); (case side1 => repeat (first | exact (Kd.R_reads' HO103.out).2.2 | (with_reducible refine Kd.C_alloc ?_ _) | (with_reducible refine Kd.C_drewN ?_ _) | (with_reducible refine Kd.C_drew ?_))); (case side2 => exact (Kd.R_reads' HO103.out).2.1); (case side3 => repeat (first | exact (Kd.C_below HR0.out HB.out) | (with_reducible refine Kd.C_alloc ?_ _) | (with_reducible refine Kd.C_drewN ?_ _) | (with_reducible refine Kd.C_drew ?_))); (case side4 => exact HC0.out); rintro e w' ⟨rfl, ⟨nd, rfl⟩⟩) | (go_at_call 12; (with_reducible refine (odysseylaw03_live.calls k  t109 _ A9.out).mono ?_); rintro e w14 ⟨rfl, hb⟩; have n0_ := Aside0.mk (Kd.R_below (by (with_reducible repeat (first | apply Kd.R_alloc | apply Kd.R_drewN | apply Kd.R_drew)); exact HO103.out) hb); have n1_ := Aside0.mk (below_step (by repeat (first | (with_reducible first | exact HB.out | apply below_alloc | apply pw_below_drewN | apply below_drew1) | exact HB.out)) hb); clear HO103; clear HB; have HO103 := n0_; have HB := n1_; clear n0_ n1_; (try clear hb); (try clear hb2); (try clear hk); (try clear hi)))
        go_ret
        exact ⟨by first | rfl | (simp [errW_none, errW_some] <;> rfl) | (simp [*, errW_none, errW_some] <;> rfl), by repeat (first | (with_reducible first | exact HB.out | apply below_alloc | apply pw_below_drewN | apply below_drew1) | exact HB.out)⟩
      · replace c8 := Bool.eq_false_iff.mpr c8
        subst c8
        have H1 : (some false) = some r := by rw [if_neg (show ¬ (false = true) by decide)] at H; exact H
        clear H
        have H := H1
        clear H1
        exact absurd ((Option.some.inj H).trans hr_.out) (by decide)
    · rw [if_neg c6] at H
      have c6b0 : (t105 == t107) = false := beq_eq_false_iff_ne.mpr c6
      have c6b1 : (t105 != t107) = true := bne_iff_ne.mpr c6
      exact absurd ((Option.some.inj H).trans hr_.out) (by decide)
  · rw [if_neg c5] at H
    have c5b0 : (t104.toList == t106.toList) = false := beq_eq_false_iff_ne.mpr c5
    have c5b1 : (t104.toList != t106.toList) = true := bne_iff_ne.mpr c5
    exact absurd ((Option.some.inj H).trans hr_.out) (by decide)

end Go.Proofs.Ytfifcanpdjdhcaa.H
