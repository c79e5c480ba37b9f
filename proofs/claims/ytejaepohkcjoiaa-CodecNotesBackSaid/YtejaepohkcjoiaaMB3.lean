/- Several texts in one, in build order: Gx4, CmpWalk, Cmp2, CdTabs, CdL6, CdL8, RowCodecNotesBack. -/
import Derived.Test.YtejaepohkcjoiaaMA2
import Derived.Laws.BitsLemmas
import Derived.Laws.BitsAll
import Derived.Laws.Shifts
import Derived.Lib.OthersKept
import Derived.WalkSmall
import Derived.KernelRfl
import Derived.Test.YtejaepohkcjoiaaRows
import Derived.HandedShaped
import Derived.WalkKit
import Derived.ProofKit
import Derived.OpenShut
import Derived.ShutString
import Derived.ChangeOld
import Derived.Below
import Derived.SizedLaws
import Derived.Carry
-- Written by gprint.py, a program of this session, over the kit's print of the loaded functions. Not trusted: Lean checks it.
namespace Go.Proofs.Ytejaepohkcjoiaa.G
open Go.RowKit Go.Proofs.YtejaepohkcjoiaaW.PrintWords Go.Proofs.YtejaepohkcjoiaaW.PrintLast Go.Proofs.YtejaepohkcjoiaaW.PrintMore Go.Proofs.Ytejaepohkcjoiaa.Joins
attribute [local go_sem] max2_int min2_int max_two min_two max_three min_three max_four min_four   -- for this text's walks alone
set_option linter.unusedVariables false
set_option linter.unusedSimpArgs false

/-! ### odysseylaw07_sameLetter: function 13 -/
def odysseylaw07_sameLetter.f (k : Nat) (a0_0 : Int) (a0_1 : Int) (a0_2 : Int) (a0_3 : Int) (a0_4 : Int) (l0_5 : List ByteArray) (a1_0 : Int) (a1_1 : Int) (a1_2 : Int) (a1_3 : Int) (a1_4 : Int) (l1_5 : List ByteArray) : Option (Bool) := if a0_0 = a1_0 then (if a0_1 = a1_1 then (if a0_2 = a1_2 then (if a0_3 = a1_3 then (if a0_4 = a1_4 then ((odysseylaw07_same.f k l0_5 l1_5).bind fun t160 => (some t160)) else (some false)) else (some false)) else (some false)) else (some false)) else (some false)
theorem odysseylaw07_sameLetter.mono : ∀ a0 a1 a2 a3 a4 a5 a6 a7 a8 a9 a10 a11 k, LeO (odysseylaw07_sameLetter.f k a0 a1 a2 a3 a4 a5 a6 a7 a8 a9 a10 a11) (odysseylaw07_sameLetter.f (k + 1) a0 a1 a2 a3 a4 a5 a6 a7 a8 a9 a10 a11) := by
  intro a0 a1 a2 a3 a4 a5 a6 a7 a8 a9 a10 a11 k
  unfold odysseylaw07_sameLetter.f
  repeat' first
      | (with_reducible exact odysseylaw07_same.mono _ _ _)
      | (with_reducible exact LeO.refl _)
      | (with_reducible exact LeO.none _)
      | (with_reducible refine LeO.ite ?_ ?_)
      | (with_reducible refine LeO.bind ?_ (fun _ => ?_))
      | exact odysseylaw07_same.mono _ _ _
      | exact LeO.none _
      | refine LeO.ite ?_ ?_
      | refine LeO.bind ?_ (fun _ => ?_)
set_option maxHeartbeats 8000000 in
set_option maxRecDepth 100000 in
theorem odysseylaw07_sameLetter.calls (k : Nat) (a0_0 : Int) (a0_1 : Int) (a0_2 : Int) (a0_3 : Int) (a0_4 : Int) (A0_5 : Option Addr) (c0_5 : Nat) (l0_5 : List ByteArray) (a1_0 : Int) (a1_1 : Int) (a1_2 : Int) (a1_3 : Int) (a1_4 : Int) (A1_5 : Option Addr) (c1_5 : Nat) (l1_5 : List ByteArray) (r : Bool) (w : World) (hr0_5 : Kd.C Kd.string w A0_5 l0_5.length l0_5) (hc0_5 : l0_5.length ≤ c0_5) (hr1_5 : Kd.C Kd.string w A1_5 l1_5.length l1_5) (hc1_5 : l1_5.length ≤ c1_5) (h : odysseylaw07_sameLetter.f k a0_0 a0_1 a0_2 a0_3 a0_4 l0_5 a1_0 a1_1 a1_2 a1_3 a1_4 l1_5 = some r) :
    Calls Try.prog 13 #[.agg #[.int .i64 a0_0, .int .i64 a0_1, .int .i64 a0_2, .int .i64 a0_3, .int .i64 a0_4, .slice A0_5 l0_5.length c0_5], .agg #[.int .i64 a1_0, .int .i64 a1_1, .int .i64 a1_2, .int .i64 a1_3, .int .i64 a1_4, .slice A1_5 l1_5.length c1_5]] w fun e w' => e = .returned (.bool r) ∧ Below w.heap.size w w' := by
  have hu24 := Try.underlying24
  have HR0_5 := Aside0.mk hr0_5
  have HC0_5 := Aside0.mk hc0_5
  clear hr0_5 hc0_5
  have HR1_5 := Aside0.mk hr1_5
  have HC1_5 := Aside0.mk hc1_5
  clear hr1_5 hc1_5
  have HB := Aside0.mk (Below.refl w.heap.size w)
  have H : (if a0_0 = a1_0 then (if a0_1 = a1_1 then (if a0_2 = a1_2 then (if a0_3 = a1_3 then (if a0_4 = a1_4 then ((odysseylaw07_same.f k l0_5 l1_5).bind fun t160 => (some t160)) else (some false)) else (some false)) else (some false)) else (some false)) else (some false)) = some r := h
  clear h
  by_cases c3 : a0_0 = a1_0
  · rw [if_pos c3] at H
    have c3b0 : (a0_0 == a1_0) = true := beq_iff_eq.mpr c3
    have c3b1 : (a0_0 != a1_0) = false := bne_eq_false_iff_eq.mpr c3
    clear c3
    by_cases c4 : a0_1 = a1_1
    · rw [if_pos c4] at H
      have c4b0 : (a0_1 == a1_1) = true := beq_iff_eq.mpr c4
      have c4b1 : (a0_1 != a1_1) = false := bne_eq_false_iff_eq.mpr c4
      clear c4
      by_cases c5 : a0_2 = a1_2
      · rw [if_pos c5] at H
        have c5b0 : (a0_2 == a1_2) = true := beq_iff_eq.mpr c5
        have c5b1 : (a0_2 != a1_2) = false := bne_eq_false_iff_eq.mpr c5
        clear c5
        by_cases c6 : a0_3 = a1_3
        · rw [if_pos c6] at H
          have c6b0 : (a0_3 == a1_3) = true := beq_iff_eq.mpr c6
          have c6b1 : (a0_3 != a1_3) = false := bne_eq_false_iff_eq.mpr c6
          clear c6
          by_cases c7 : a0_4 = a1_4
          · rw [if_pos c7] at H
            have c7b0 : (a0_4 == a1_4) = true := beq_iff_eq.mpr c7
            have c7b1 : (a0_4 != a1_4) = false := bne_eq_false_iff_eq.mpr c7
            clear c7
            replace H := Option.bind_eq_some_iff.mp H
            obtain ⟨t160, A80, H⟩ := H
            replace H : (some t160) = some r := H
            have A8 := Aside0.mk A80
            clear A80
            obtain rfl := Option.some.inj H
            go_enter Try.func13, Try.ntmps13
            go_wp2_with (first | ((with_reducible refine gate_dst (N := 2) rfl ?_); refine box_event ?hg (N := 2) ?hd (cs := #[.int .i64 a0_0, .int .i64 a0_1, .int .i64 a0_2, .int .i64 a0_3, .int .i64 a0_4, .slice A0_5 l0_5.length c0_5]) (t := 24) ?hr ?_; (case hd => rfl); (case hg => rfl); (case hr => first | (go_simp; done) | (go_simp; rfl)); intro gb158 hg w9 hbox hb; have n0_ := Aside0.mk (below_step (by repeat (first | (with_reducible first | exact HB.out | apply below_alloc | apply pw_below_drewN | apply below_drew1) | exact HB.out)) hb); have n1_ := Aside0.mk (hbox); have n2_ := Aside0.mk ((by rw [hg]; exact (below_size (by repeat (first | (with_reducible first | exact HB.out | apply below_alloc | apply pw_below_drewN | apply below_drew1) | exact HB.out))) : w.heap.size ≤ gb158)); have n3_ := Aside0.mk ((by rw [hg]; exact (below_size (by repeat (first | (with_reducible first | exact HB.out | apply below_alloc | apply pw_below_drewN | apply below_drew1) | exact HB.out))) : w.heap.size ≤ gb158)); clear HB; have HB := n0_; have BK158 := n1_; have GW158 := n2_; have GE158 := n3_; clear n0_ n1_ n2_ n3_; clear hb hbox hg) | ((with_reducible refine gate_dst (N := 3) rfl ?_); refine box_event ?hg (N := 3) ?hd (cs := #[.int .i64 a1_0, .int .i64 a1_1, .int .i64 a1_2, .int .i64 a1_3, .int .i64 a1_4, .slice A1_5 l1_5.length c1_5]) (t := 24) ?hr ?_; (case hd => rfl); (case hg => rfl); (case hr => first | (go_simp; done) | (go_simp; rfl)); intro gb159 hg w10 hbox hb; have n0_ := Aside0.mk (blk_below (g := gb158) (o := .cells #[.int .i64 a0_0, .int .i64 a0_1, .int .i64 a0_2, .int .i64 a0_3, .int .i64 a0_4, .slice A0_5 l0_5.length c0_5] 24 (0, 0)) (by (with_reducible repeat (first | refine blk_drewN ?_ _ | refine blk_drew ?_ | refine blk_alloc ?_ _)); exact BK158.out) hb); have n1_ := Aside0.mk (below_step (by repeat (first | (with_reducible first | exact HB.out | apply below_alloc | apply pw_below_drewN | apply below_drew1 | refine below_set ?_ GE158.out) | exact HB.out)) hb); have n2_ := Aside0.mk (hbox); have n3_ := Aside0.mk ((by rw [hg]; exact (below_size (by repeat (first | (with_reducible first | exact HB.out | apply below_alloc | apply pw_below_drewN | apply below_drew1 | refine below_set ?_ GE158.out) | exact HB.out))) : w.heap.size ≤ gb159)); have n4_ := Aside0.mk ((by rw [hg]; exact (below_size (by repeat (first | (with_reducible first | exact HB.out | apply below_alloc | apply pw_below_drewN | apply below_drew1 | refine below_set ?_ GE158.out) | exact HB.out))) : w.heap.size ≤ gb159)); have n5_ := Aside0.mk ((by rw [hg]; exact Nat.ne_of_lt (blk_lt (g := gb158) (o := .cells #[.int .i64 a0_0, .int .i64 a0_1, .int .i64 a0_2, .int .i64 a0_3, .int .i64 a0_4, .slice A0_5 l0_5.length c0_5] 24 (0, 0)) (by (with_reducible repeat (first | refine blk_drewN ?_ _ | refine blk_drew ?_ | refine blk_alloc ?_ _)); exact BK158.out)) : gb158 ≠ gb159)); have n6_ := Aside0.mk ((by rw [hg]; exact Nat.ne_of_gt (blk_lt (g := gb158) (o := .cells #[.int .i64 a0_0, .int .i64 a0_1, .int .i64 a0_2, .int .i64 a0_3, .int .i64 a0_4, .slice A0_5 l0_5.length c0_5] 24 (0, 0)) (by (with_reducible repeat (first | refine blk_drewN ?_ _ | refine blk_drew ?_ | refine blk_alloc ?_ _)); exact BK158.out)) : gb159 ≠ gb158)); clear BK158; clear HB; have BK158 := n0_; have HB := n1_; have BK159 := n2_; have GW159 := n3_; have GE159 := n4_; have NB158_159 := n5_; have NB159_158 := n6_; clear n0_ n1_ n2_ n3_ n4_ n5_ n6_; clear hb hbox hg; have hnb11 := NB158_159.out; have hnc11 := NB159_158.out; have hcz12_0 : w10.cell? ⟨gb158, 0, none⟩ = some (.int .i64 a0_0) := (blk_cell BK158.out 0).trans rfl; have hcz12_1 : w10.cell? ⟨gb158, 1, none⟩ = some (.int .i64 a0_1) := (blk_cell BK158.out 1).trans rfl; have hcz12_2 : w10.cell? ⟨gb158, 2, none⟩ = some (.int .i64 a0_2) := (blk_cell BK158.out 2).trans rfl; have hcz12_3 : w10.cell? ⟨gb158, 3, none⟩ = some (.int .i64 a0_3) := (blk_cell BK158.out 3).trans rfl; have hcz12_4 : w10.cell? ⟨gb158, 4, none⟩ = some (.int .i64 a0_4) := (blk_cell BK158.out 4).trans rfl; have hcz12_5 : w10.cell? ⟨gb158, 5, none⟩ = some (.slice A0_5 l0_5.length c0_5) := (blk_cell BK158.out 5).trans rfl; have hfz12_0 := blk_frozen BK158.out 0; have hfz12_1 := blk_frozen BK158.out 1; have hfz12_2 := blk_frozen BK158.out 2; have hfz12_3 := blk_frozen BK158.out 3; have hfz12_4 := blk_frozen BK158.out 4; have hfz12_5 := blk_frozen BK158.out 5; have hcz13_0 : w10.cell? ⟨gb159, 0, none⟩ = some (.int .i64 a1_0) := (blk_cell BK159.out 0).trans rfl; have hcz13_1 : w10.cell? ⟨gb159, 1, none⟩ = some (.int .i64 a1_1) := (blk_cell BK159.out 1).trans rfl; have hcz13_2 : w10.cell? ⟨gb159, 2, none⟩ = some (.int .i64 a1_2) := (blk_cell BK159.out 2).trans rfl; have hcz13_3 : w10.cell? ⟨gb159, 3, none⟩ = some (.int .i64 a1_3) := (blk_cell BK159.out 3).trans rfl; have hcz13_4 : w10.cell? ⟨gb159, 4, none⟩ = some (.int .i64 a1_4) := (blk_cell BK159.out 4).trans rfl; have hcz13_5 : w10.cell? ⟨gb159, 5, none⟩ = some (.slice A1_5 l1_5.length c1_5) := (blk_cell BK159.out 5).trans rfl; have hfz13_0 := blk_frozen BK159.out 0; have hfz13_1 := blk_frozen BK159.out 1; have hfz13_2 := blk_frozen BK159.out 2; have hfz13_3 := blk_frozen BK159.out 3; have hfz13_4 := blk_frozen BK159.out 4; have hfz13_5 := blk_frozen BK159.out 5) | (go_at_call 29; (with_reducible refine (odysseylaw07_same.calls k _ _ l0_5 _ _ l1_5 t160 _ ?side1 ?side2 ?side3 ?side4 A8.out).mono ?_); (case side1 => repeat (first | exact (Kd.C_below HR0_5.out HB.out) | (with_reducible refine Kd.C_alloc ?_ _) | (with_reducible refine Kd.C_drewN ?_ _) | (with_reducible refine Kd.C_drew ?_))); (case side2 => exact HC0_5.out); (case side3 => repeat (first | exact (Kd.C_below HR1_5.out HB.out) | (with_reducible refine Kd.C_alloc ?_ _) | (with_reducible refine Kd.C_drewN ?_ _) | (with_reducible refine Kd.C_drew ?_))); (case side4 => exact HC1_5.out); rintro e w' ⟨rfl, ⟨nd, rfl⟩⟩))
            go_ret
            exact ⟨by first | rfl | (simp [errW_none, errW_some] <;> rfl) | (simp [*, errW_none, errW_some] <;> rfl), by repeat (first | (with_reducible first | exact HB.out | apply below_alloc | apply pw_below_drewN | apply below_drew1 | refine below_set ?_ GE158.out | refine below_set ?_ GE159.out) | exact HB.out)⟩
          · rw [if_neg c7] at H
            have c7b0 : (a0_4 == a1_4) = false := beq_eq_false_iff_ne.mpr c7
            have c7b1 : (a0_4 != a1_4) = true := bne_iff_ne.mpr c7
            obtain rfl := Option.some.inj H
            go_enter Try.func13, Try.ntmps13
            go_wp2_with (first | ((with_reducible refine gate_dst (N := 2) rfl ?_); refine box_event ?hg (N := 2) ?hd (cs := #[.int .i64 a0_0, .int .i64 a0_1, .int .i64 a0_2, .int .i64 a0_3, .int .i64 a0_4, .slice A0_5 l0_5.length c0_5]) (t := 24) ?hr ?_; (case hd => rfl); (case hg => rfl); (case hr => first | (go_simp; done) | (go_simp; rfl)); intro gb158 hg w14 hbox hb; have n0_ := Aside0.mk (below_step (by repeat (first | (with_reducible first | exact HB.out | apply below_alloc | apply pw_below_drewN | apply below_drew1) | exact HB.out)) hb); have n1_ := Aside0.mk (hbox); have n2_ := Aside0.mk ((by rw [hg]; exact (below_size (by repeat (first | (with_reducible first | exact HB.out | apply below_alloc | apply pw_below_drewN | apply below_drew1) | exact HB.out))) : w.heap.size ≤ gb158)); have n3_ := Aside0.mk ((by rw [hg]; exact (below_size (by repeat (first | (with_reducible first | exact HB.out | apply below_alloc | apply pw_below_drewN | apply below_drew1) | exact HB.out))) : w.heap.size ≤ gb158)); clear HB; have HB := n0_; have BK158 := n1_; have GW158 := n2_; have GE158 := n3_; clear n0_ n1_ n2_ n3_; clear hb hbox hg) | ((with_reducible refine gate_dst (N := 3) rfl ?_); refine box_event ?hg (N := 3) ?hd (cs := #[.int .i64 a1_0, .int .i64 a1_1, .int .i64 a1_2, .int .i64 a1_3, .int .i64 a1_4, .slice A1_5 l1_5.length c1_5]) (t := 24) ?hr ?_; (case hd => rfl); (case hg => rfl); (case hr => first | (go_simp; done) | (go_simp; rfl)); intro gb159 hg w15 hbox hb; have n0_ := Aside0.mk (blk_below (g := gb158) (o := .cells #[.int .i64 a0_0, .int .i64 a0_1, .int .i64 a0_2, .int .i64 a0_3, .int .i64 a0_4, .slice A0_5 l0_5.length c0_5] 24 (0, 0)) (by (with_reducible repeat (first | refine blk_drewN ?_ _ | refine blk_drew ?_ | refine blk_alloc ?_ _)); exact BK158.out) hb); have n1_ := Aside0.mk (below_step (by repeat (first | (with_reducible first | exact HB.out | apply below_alloc | apply pw_below_drewN | apply below_drew1 | refine below_set ?_ GE158.out) | exact HB.out)) hb); have n2_ := Aside0.mk (hbox); have n3_ := Aside0.mk ((by rw [hg]; exact (below_size (by repeat (first | (with_reducible first | exact HB.out | apply below_alloc | apply pw_below_drewN | apply below_drew1 | refine below_set ?_ GE158.out) | exact HB.out))) : w.heap.size ≤ gb159)); have n4_ := Aside0.mk ((by rw [hg]; exact (below_size (by repeat (first | (with_reducible first | exact HB.out | apply below_alloc | apply pw_below_drewN | apply below_drew1 | refine below_set ?_ GE158.out) | exact HB.out))) : w.heap.size ≤ gb159)); have n5_ := Aside0.mk ((by rw [hg]; exact Nat.ne_of_lt (blk_lt (g := gb158) (o := .cells #[.int .i64 a0_0, .int .i64 a0_1, .int .i64 a0_2, .int .i64 a0_3, .int .i64 a0_4, .slice A0_5 l0_5.length c0_5] 24 (0, 0)) (by (with_reducible repeat (first | refine blk_drewN ?_ _ | refine blk_drew ?_ | refine blk_alloc ?_ _)); exact BK158.out)) : gb158 ≠ gb159)); have n6_ := Aside0.mk ((by rw [hg]; exact Nat.ne_of_gt (blk_lt (g := gb158) (o := .cells #[.int .i64 a0_0, .int .i64 a0_1, .int .i64 a0_2, .int .i64 a0_3, .int .i64 a0_4, .slice A0_5 l0_5.length c0_5] 24 (0, 0)) (by (with_reducible repeat (first | refine blk_drewN ?_ _ | refine blk_drew ?_ | refine blk_alloc ?_ _)); exact BK158.out)) : gb159 ≠ gb158)); clear BK158; clear HB; have BK158 := n0_; have HB := n1_; have BK159 := n2_; have GW159 := n3_; have GE159 := n4_; have NB158_159 := n5_; have NB159_158 := n6_; clear n0_ n1_ n2_ n3_ n4_ n5_ n6_; clear hb hbox hg; have hnb16 := NB158_159.out; have hnc16 := NB159_158.out; have hcz17_0 : w15.cell? ⟨gb158, 0, none⟩ = some (.int .i64 a0_0) := (blk_cell BK158.out 0).trans rfl; have hcz17_1 : w15.cell? ⟨gb158, 1, none⟩ = some (.int .i64 a0_1) := (blk_cell BK158.out 1).trans rfl; have hcz17_2 : w15.cell? ⟨gb158, 2, none⟩ = some (.int .i64 a0_2) := (blk_cell BK158.out 2).trans rfl; have hcz17_3 : w15.cell? ⟨gb158, 3, none⟩ = some (.int .i64 a0_3) := (blk_cell BK158.out 3).trans rfl; have hcz17_4 : w15.cell? ⟨gb158, 4, none⟩ = some (.int .i64 a0_4) := (blk_cell BK158.out 4).trans rfl; have hcz17_5 : w15.cell? ⟨gb158, 5, none⟩ = some (.slice A0_5 l0_5.length c0_5) := (blk_cell BK158.out 5).trans rfl; have hfz17_0 := blk_frozen BK158.out 0; have hfz17_1 := blk_frozen BK158.out 1; have hfz17_2 := blk_frozen BK158.out 2; have hfz17_3 := blk_frozen BK158.out 3; have hfz17_4 := blk_frozen BK158.out 4; have hfz17_5 := blk_frozen BK158.out 5; have hcz18_0 : w15.cell? ⟨gb159, 0, none⟩ = some (.int .i64 a1_0) := (blk_cell BK159.out 0).trans rfl; have hcz18_1 : w15.cell? ⟨gb159, 1, none⟩ = some (.int .i64 a1_1) := (blk_cell BK159.out 1).trans rfl; have hcz18_2 : w15.cell? ⟨gb159, 2, none⟩ = some (.int .i64 a1_2) := (blk_cell BK159.out 2).trans rfl; have hcz18_3 : w15.cell? ⟨gb159, 3, none⟩ = some (.int .i64 a1_3) := (blk_cell BK159.out 3).trans rfl; have hcz18_4 : w15.cell? ⟨gb159, 4, none⟩ = some (.int .i64 a1_4) := (blk_cell BK159.out 4).trans rfl; have hcz18_5 : w15.cell? ⟨gb159, 5, none⟩ = some (.slice A1_5 l1_5.length c1_5) := (blk_cell BK159.out 5).trans rfl; have hfz18_0 := blk_frozen BK159.out 0; have hfz18_1 := blk_frozen BK159.out 1; have hfz18_2 := blk_frozen BK159.out 2; have hfz18_3 := blk_frozen BK159.out 3; have hfz18_4 := blk_frozen BK159.out 4; have hfz18_5 := blk_frozen BK159.out 5))
            go_ret
            exact ⟨by first | rfl | (simp [errW_none, errW_some] <;> rfl) | (simp [*, errW_none, errW_some] <;> rfl), by repeat (first | (with_reducible first | exact HB.out | apply below_alloc | apply pw_below_drewN | apply below_drew1 | refine below_set ?_ GE158.out | refine below_set ?_ GE159.out) | exact HB.out)⟩
        · rw [if_neg c6] at H
          have c6b0 : (a0_3 == a1_3) = false := beq_eq_false_iff_ne.mpr c6
          have c6b1 : (a0_3 != a1_3) = true := bne_iff_ne.mpr c6
          obtain rfl := Option.some.inj H
          go_enter Try.func13, Try.ntmps13
          go_wp2_with (first | ((with_reducible refine gate_dst (N := 2) rfl ?_); refine box_event ?hg (N := 2) ?hd (cs := #[.int .i64 a0_0, .int .i64 a0_1, .int .i64 a0_2, .int .i64 a0_3, .int .i64 a0_4, .slice A0_5 l0_5.length c0_5]) (t := 24) ?hr ?_; (case hd => rfl); (case hg => rfl); (case hr => first | (go_simp; done) | (go_simp; rfl)); intro gb158 hg w19 hbox hb; have n0_ := Aside0.mk (below_step (by repeat (first | (with_reducible first | exact HB.out | apply below_alloc | apply pw_below_drewN | apply below_drew1) | exact HB.out)) hb); have n1_ := Aside0.mk (hbox); have n2_ := Aside0.mk ((by rw [hg]; exact (below_size (by repeat (first | (with_reducible first | exact HB.out | apply below_alloc | apply pw_below_drewN | apply below_drew1) | exact HB.out))) : w.heap.size ≤ gb158)); have n3_ := Aside0.mk ((by rw [hg]; exact (below_size (by repeat (first | (with_reducible first | exact HB.out | apply below_alloc | apply pw_below_drewN | apply below_drew1) | exact HB.out))) : w.heap.size ≤ gb158)); clear HB; have HB := n0_; have BK158 := n1_; have GW158 := n2_; have GE158 := n3_; clear n0_ n1_ n2_ n3_; clear hb hbox hg) | ((with_reducible refine gate_dst (N := 3) rfl ?_); refine box_event ?hg (N := 3) ?hd (cs := #[.int .i64 a1_0, .int .i64 a1_1, .int .i64 a1_2, .int .i64 a1_3, .int .i64 a1_4, .slice A1_5 l1_5.length c1_5]) (t := 24) ?hr ?_; (case hd => rfl); (case hg => rfl); (case hr => first | (go_simp; done) | (go_simp; rfl)); intro gb159 hg w20 hbox hb; have n0_ := Aside0.mk (blk_below (g := gb158) (o := .cells #[.int .i64 a0_0, .int .i64 a0_1, .int .i64 a0_2, .int .i64 a0_3, .int .i64 a0_4, .slice A0_5 l0_5.length c0_5] 24 (0, 0)) (by (with_reducible repeat (first | refine blk_drewN ?_ _ | refine blk_drew ?_ | refine blk_alloc ?_ _)); exact BK158.out) hb); have n1_ := Aside0.mk (below_step (by repeat (first | (with_reducible first | exact HB.out | apply below_alloc | apply pw_below_drewN | apply below_drew1 | refine below_set ?_ GE158.out) | exact HB.out)) hb); have n2_ := Aside0.mk (hbox); have n3_ := Aside0.mk ((by rw [hg]; exact (below_size (by repeat (first | (with_reducible first | exact HB.out | apply below_alloc | apply pw_below_drewN | apply below_drew1 | refine below_set ?_ GE158.out) | exact HB.out))) : w.heap.size ≤ gb159)); have n4_ := Aside0.mk ((by rw [hg]; exact (below_size (by repeat (first | (with_reducible first | exact HB.out | apply below_alloc | apply pw_below_drewN | apply below_drew1 | refine below_set ?_ GE158.out) | exact HB.out))) : w.heap.size ≤ gb159)); have n5_ := Aside0.mk ((by rw [hg]; exact Nat.ne_of_lt (blk_lt (g := gb158) (o := .cells #[.int .i64 a0_0, .int .i64 a0_1, .int .i64 a0_2, .int .i64 a0_3, .int .i64 a0_4, .slice A0_5 l0_5.length c0_5] 24 (0, 0)) (by (with_reducible repeat (first | refine blk_drewN ?_ _ | refine blk_drew ?_ | refine blk_alloc ?_ _)); exact BK158.out)) : gb158 ≠ gb159)); have n6_ := Aside0.mk ((by rw [hg]; exact Nat.ne_of_gt (blk_lt (g := gb158) (o := .cells #[.int .i64 a0_0, .int .i64 a0_1, .int .i64 a0_2, .int .i64 a0_3, .int .i64 a0_4, .slice A0_5 l0_5.length c0_5] 24 (0, 0)) (by (with_reducible repeat (first | refine blk_drewN ?_ _ | refine blk_drew ?_ | refine blk_alloc ?_ _)); exact BK158.out)) : gb159 ≠ gb158)); clear BK158; clear HB; have BK158 := n0_; have HB := n1_; have BK159 := n2_; have GW159 := n3_; have GE159 := n4_; have NB158_159 := n5_; have NB159_158 := n6_; clear n0_ n1_ n2_ n3_ n4_ n5_ n6_; clear hb hbox hg; have hnb21 := NB158_159.out; have hnc21 := NB159_158.out; have hcz22_0 : w20.cell? ⟨gb158, 0, none⟩ = some (.int .i64 a0_0) := (blk_cell BK158.out 0).trans rfl; have hcz22_1 : w20.cell? ⟨gb158, 1, none⟩ = some (.int .i64 a0_1) := (blk_cell BK158.out 1).trans rfl; have hcz22_2 : w20.cell? ⟨gb158, 2, none⟩ = some (.int .i64 a0_2) := (blk_cell BK158.out 2).trans rfl; have hcz22_3 : w20.cell? ⟨gb158, 3, none⟩ = some (.int .i64 a0_3) := (blk_cell BK158.out 3).trans rfl; have hcz22_4 : w20.cell? ⟨gb158, 4, none⟩ = some (.int .i64 a0_4) := (blk_cell BK158.out 4).trans rfl; have hcz22_5 : w20.cell? ⟨gb158, 5, none⟩ = some (.slice A0_5 l0_5.length c0_5) := (blk_cell BK158.out 5).trans rfl; have hfz22_0 := blk_frozen BK158.out 0; have hfz22_1 := blk_frozen BK158.out 1; have hfz22_2 := blk_frozen BK158.out 2; have hfz22_3 := blk_frozen BK158.out 3; have hfz22_4 := blk_frozen BK158.out 4; have hfz22_5 := blk_frozen BK158.out 5; have hcz23_0 : w20.cell? ⟨gb159, 0, none⟩ = some (.int .i64 a1_0) := (blk_cell BK159.out 0).trans rfl; have hcz23_1 : w20.cell? ⟨gb159, 1, none⟩ = some (.int .i64 a1_1) := (blk_cell BK159.out 1).trans rfl; have hcz23_2 : w20.cell? ⟨gb159, 2, none⟩ = some (.int .i64 a1_2) := (blk_cell BK159.out 2).trans rfl; have hcz23_3 : w20.cell? ⟨gb159, 3, none⟩ = some (.int .i64 a1_3) := (blk_cell BK159.out 3).trans rfl; have hcz23_4 : w20.cell? ⟨gb159, 4, none⟩ = some (.int .i64 a1_4) := (blk_cell BK159.out 4).trans rfl; have hcz23_5 : w20.cell? ⟨gb159, 5, none⟩ = some (.slice A1_5 l1_5.length c1_5) := (blk_cell BK159.out 5).trans rfl; have hfz23_0 := blk_frozen BK159.out 0; have hfz23_1 := blk_frozen BK159.out 1; have hfz23_2 := blk_frozen BK159.out 2; have hfz23_3 := blk_frozen BK159.out 3; have hfz23_4 := blk_frozen BK159.out 4; have hfz23_5 := blk_frozen BK159.out 5))
          go_ret
          exact ⟨by first | rfl | (simp [errW_none, errW_some] <;> rfl) | (simp [*, errW_none, errW_some] <;> rfl), by repeat (first | (with_reducible first | exact HB.out | apply below_alloc | apply pw_below_drewN | apply below_drew1 | refine below_set ?_ GE158.out | refine below_set ?_ GE159.out) | exact HB.out)⟩
      · rw [if_neg c5] at H
        have c5b0 : (a0_2 == a1_2) = false := beq_eq_false_iff_ne.mpr c5
        have c5b1 : (a0_2 != a1_2) = true := bne_iff_ne.mpr c5
        obtain rfl := Option.some.inj H
        go_enter Try.func13, Try.ntmps13
        go_wp2_with (first | ((with_reducible refine gate_dst (N := 2) rfl ?_); refine box_event ?hg (N := 2) ?hd (cs := #[.int .i64 a0_0, .int .i64 a0_1, .int .i64 a0_2, .int .i64 a0_3, .int .i64 a0_4, .slice A0_5 l0_5.length c0_5]) (t := 24) ?hr ?_; (case hd => rfl); (case hg => rfl); (case hr => first | (go_simp; done) | (go_simp; rfl)); intro gb158 hg w24 hbox hb; have n0_ := Aside0.mk (below_step (by repeat (first | (with_reducible first | exact HB.out | apply below_alloc | apply pw_below_drewN | apply below_drew1) | exact HB.out)) hb); have n1_ := Aside0.mk (hbox); have n2_ := Aside0.mk ((by rw [hg]; exact (below_size (by repeat (first | (with_reducible first | exact HB.out | apply below_alloc | apply pw_below_drewN | apply below_drew1) | exact HB.out))) : w.heap.size ≤ gb158)); have n3_ := Aside0.mk ((by rw [hg]; exact (below_size (by repeat (first | (with_reducible first | exact HB.out | apply below_alloc | apply pw_below_drewN | apply below_drew1) | exact HB.out))) : w.heap.size ≤ gb158)); clear HB; have HB := n0_; have BK158 := n1_; have GW158 := n2_; have GE158 := n3_; clear n0_ n1_ n2_ n3_; clear hb hbox hg) | ((with_reducible refine gate_dst (N := 3) rfl ?_); refine box_event ?hg (N := 3) ?hd (cs := #[.int .i64 a1_0, .int .i64 a1_1, .int .i64 a1_2, .int .i64 a1_3, .int .i64 a1_4, .slice A1_5 l1_5.length c1_5]) (t := 24) ?hr ?_; (case hd => rfl); (case hg => rfl); (case hr => first | (go_simp; done) | (go_simp; rfl)); intro gb159 hg w25 hbox hb; have n0_ := Aside0.mk (blk_below (g := gb158) (o := .cells #[.int .i64 a0_0, .int .i64 a0_1, .int .i64 a0_2, .int .i64 a0_3, .int .i64 a0_4, .slice A0_5 l0_5.length c0_5] 24 (0, 0)) (by (with_reducible repeat (first | refine blk_drewN ?_ _ | refine blk_drew ?_ | refine blk_alloc ?_ _)); exact BK158.out) hb); have n1_ := Aside0.mk (below_step (by repeat (first | (with_reducible first | exact HB.out | apply below_alloc | apply pw_below_drewN | apply below_drew1 | refine below_set ?_ GE158.out) | exact HB.out)) hb); have n2_ := Aside0.mk (hbox); have n3_ := Aside0.mk ((by rw [hg]; exact (below_size (by repeat (first | (with_reducible first | exact HB.out | apply below_alloc | apply pw_below_drewN | apply below_drew1 | refine below_set ?_ GE158.out) | exact HB.out))) : w.heap.size ≤ gb159)); have n4_ := Aside0.mk ((by rw [hg]; exact (below_size (by repeat (first | (with_reducible first | exact HB.out | apply below_alloc | apply pw_below_drewN | apply below_drew1 | refine below_set ?_ GE158.out) | exact HB.out))) : w.heap.size ≤ gb159)); have n5_ := Aside0.mk ((by rw [hg]; exact Nat.ne_of_lt (blk_lt (g := gb158) (o := .cells #[.int .i64 a0_0, .int .i64 a0_1, .int .i64 a0_2, .int .i64 a0_3, .int .i64 a0_4, .slice A0_5 l0_5.length c0_5] 24 (0, 0)) (by (with_reducible repeat (first | refine blk_drewN ?_ _ | refine blk_drew ?_ | refine blk_alloc ?_ _)); exact BK158.out)) : gb158 ≠ gb159)); have n6_ := Aside0.mk ((by rw [hg]; exact Nat.ne_of_gt (blk_lt (g := gb158) (o := .cells #[.int .i64 a0_0, .int .i64 a0_1, .int .i64 a0_2, .int .i64 a0_3, .int .i64 a0_4, .slice A0_5 l0_5.length c0_5] 24 (0, 0)) (by (with_reducible repeat (first | refine blk_drewN ?_ _ | refine blk_drew ?_ | refine blk_alloc ?_ _)); exact BK158.out)) : gb159 ≠ gb158)); clear BK158; clear HB; have BK158 := n0_; have HB := n1_; have BK159 := n2_; have GW159 := n3_; have GE159 := n4_; have NB158_159 := n5_; have NB159_158 := n6_; clear n0_ n1_ n2_ n3_ n4_ n5_ n6_; clear hb hbox hg; have hnb26 := NB158_159.out; have hnc26 := NB159_158.out; have hcz27_0 : w25.cell? ⟨gb158, 0, none⟩ = some (.int .i64 a0_0) := (blk_cell BK158.out 0).trans rfl; have hcz27_1 : w25.cell? ⟨gb158, 1, none⟩ = some (.int .i64 a0_1) := (blk_cell BK158.out 1).trans rfl; have hcz27_2 : w25.cell? ⟨gb158, 2, none⟩ = some (.int .i64 a0_2) := (blk_cell BK158.out 2).trans rfl; have hcz27_3 : w25.cell? ⟨gb158, 3, none⟩ = some (.int .i64 a0_3) := (blk_cell BK158.out 3).trans rfl; have hcz27_4 : w25.cell? ⟨gb158, 4, none⟩ = some (.int .i64 a0_4) := (blk_cell BK158.out 4).trans rfl; have hcz27_5 : w25.cell? ⟨gb158, 5, none⟩ = some (.slice A0_5 l0_5.length c0_5) := (blk_cell BK158.out 5).trans rfl; have hfz27_0 := blk_frozen BK158.out 0; have hfz27_1 := blk_frozen BK158.out 1; have hfz27_2 := blk_frozen BK158.out 2; have hfz27_3 := blk_frozen BK158.out 3; have hfz27_4 := blk_frozen BK158.out 4; have hfz27_5 := blk_frozen BK158.out 5; have hcz28_0 : w25.cell? ⟨gb159, 0, none⟩ = some (.int .i64 a1_0) := (blk_cell BK159.out 0).trans rfl; have hcz28_1 : w25.cell? ⟨gb159, 1, none⟩ = some (.int .i64 a1_1) := (blk_cell BK159.out 1).trans rfl; have hcz28_2 : w25.cell? ⟨gb159, 2, none⟩ = some (.int .i64 a1_2) := (blk_cell BK159.out 2).trans rfl; have hcz28_3 : w25.cell? ⟨gb159, 3, none⟩ = some (.int .i64 a1_3) := (blk_cell BK159.out 3).trans rfl; have hcz28_4 : w25.cell? ⟨gb159, 4, none⟩ = some (.int .i64 a1_4) := (blk_cell BK159.out 4).trans rfl; have hcz28_5 : w25.cell? ⟨gb159, 5, none⟩ = some (.slice A1_5 l1_5.length c1_5) := (blk_cell BK159.out 5).trans rfl; have hfz28_0 := blk_frozen BK159.out 0; have hfz28_1 := blk_frozen BK159.out 1; have hfz28_2 := blk_frozen BK159.out 2; have hfz28_3 := blk_frozen BK159.out 3; have hfz28_4 := blk_frozen BK159.out 4; have hfz28_5 := blk_frozen BK159.out 5))
        go_ret
        exact ⟨by first | rfl | (simp [errW_none, errW_some] <;> rfl) | (simp [*, errW_none, errW_some] <;> rfl), by repeat (first | (with_reducible first | exact HB.out | apply below_alloc | apply pw_below_drewN | apply below_drew1 | refine below_set ?_ GE158.out | refine below_set ?_ GE159.out) | exact HB.out)⟩
    · rw [if_neg c4] at H
      have c4b0 : (a0_1 == a1_1) = false := beq_eq_false_iff_ne.mpr c4
      have c4b1 : (a0_1 != a1_1) = true := bne_iff_ne.mpr c4
      obtain rfl := Option.some.inj H
      go_enter Try.func13, Try.ntmps13
      go_wp2_with (first | ((with_reducible refine gate_dst (N := 2) rfl ?_); refine box_event ?hg (N := 2) ?hd (cs := #[.int .i64 a0_0, .int .i64 a0_1, .int .i64 a0_2, .int .i64 a0_3, .int .i64 a0_4, .slice A0_5 l0_5.length c0_5]) (t := 24) ?hr ?_; (case hd => rfl); (case hg => rfl); (case hr => first | (go_simp; done) | (go_simp; rfl)); intro gb158 hg w29 hbox hb; have n0_ := Aside0.mk (below_step (by repeat (first | (with_reducible first | exact HB.out | apply below_alloc | apply pw_below_drewN | apply below_drew1) | exact HB.out)) hb); have n1_ := Aside0.mk (hbox); have n2_ := Aside0.mk ((by rw [hg]; exact (below_size (by repeat (first | (with_reducible first | exact HB.out | apply below_alloc | apply pw_below_drewN | apply below_drew1) | exact HB.out))) : w.heap.size ≤ gb158)); have n3_ := Aside0.mk ((by rw [hg]; exact (below_size (by repeat (first | (with_reducible first | exact HB.out | apply below_alloc | apply pw_below_drewN | apply below_drew1) | exact HB.out))) : w.heap.size ≤ gb158)); clear HB; have HB := n0_; have BK158 := n1_; have GW158 := n2_; have GE158 := n3_; clear n0_ n1_ n2_ n3_; clear hb hbox hg) | ((with_reducible refine gate_dst (N := 3) rfl ?_); refine box_event ?hg (N := 3) ?hd (cs := #[.int .i64 a1_0, .int .i64 a1_1, .int .i64 a1_2, .int .i64 a1_3, .int .i64 a1_4, .slice A1_5 l1_5.length c1_5]) (t := 24) ?hr ?_; (case hd => rfl); (case hg => rfl); (case hr => first | (go_simp; done) | (go_simp; rfl)); intro gb159 hg w30 hbox hb; have n0_ := Aside0.mk (blk_below (g := gb158) (o := .cells #[.int .i64 a0_0, .int .i64 a0_1, .int .i64 a0_2, .int .i64 a0_3, .int .i64 a0_4, .slice A0_5 l0_5.length c0_5] 24 (0, 0)) (by (with_reducible repeat (first | refine blk_drewN ?_ _ | refine blk_drew ?_ | refine blk_alloc ?_ _)); exact BK158.out) hb); have n1_ := Aside0.mk (below_step (by repeat (first | (with_reducible first | exact HB.out | apply below_alloc | apply pw_below_drewN | apply below_drew1 | refine below_set ?_ GE158.out) | exact HB.out)) hb); have n2_ := Aside0.mk (hbox); have n3_ := Aside0.mk ((by rw [hg]; exact (below_size (by repeat (first | (with_reducible first | exact HB.out | apply below_alloc | apply pw_below_drewN | apply below_drew1 | refine below_set ?_ GE158.out) | exact HB.out))) : w.heap.size ≤ gb159)); have n4_ := Aside0.mk ((by rw [hg]; exact (below_size (by repeat (first | (with_reducible first | exact HB.out | apply below_alloc | apply pw_below_drewN | apply below_drew1 | refine below_set ?_ GE158.out) | exact HB.out))) : w.heap.size ≤ gb159)); have n5_ := Aside0.mk ((by rw [hg]; exact Nat.ne_of_lt (blk_lt (g := gb158) (o := .cells #[.int .i64 a0_0, .int .i64 a0_1, .int .i64 a0_2, .int .i64 a0_3, .int .i64 a0_4, .slice A0_5 l0_5.length c0_5] 24 (0, 0)) (by (with_reducible repeat (first | refine blk_drewN ?_ _ | refine blk_drew ?_ | refine blk_alloc ?_ _)); exact BK158.out)) : gb158 ≠ gb159)); have n6_ := Aside0.mk ((by rw [hg]; exact Nat.ne_of_gt (blk_lt (g := gb158) (o := .cells #[.int .i64 a0_0, .int .i64 a0_1, .int .i64 a0_2, .int .i64 a0_3, .int .i64 a0_4, .slice A0_5 l0_5.length c0_5] 24 (0, 0)) (by (with_reducible repeat (first | refine blk_drewN ?_ _ | refine blk_drew ?_ | refine blk_alloc ?_ _)); exact BK158.out)) : gb159 ≠ gb158)); clear BK158; clear HB; have BK158 := n0_; have HB := n1_; have BK159 := n2_; have GW159 := n3_; have GE159 := n4_; have NB158_159 := n5_; have NB159_158 := n6_; clear n0_ n1_ n2_ n3_ n4_ n5_ n6_; clear hb hbox hg; have hnb31 := NB158_159.out; have hnc31 := NB159_158.out; have hcz32_0 : w30.cell? ⟨gb158, 0, none⟩ = some (.int .i64 a0_0) := (blk_cell BK158.out 0).trans rfl; have hcz32_1 : w30.cell? ⟨gb158, 1, none⟩ = some (.int .i64 a0_1) := (blk_cell BK158.out 1).trans rfl; have hcz32_2 : w30.cell? ⟨gb158, 2, none⟩ = some (.int .i64 a0_2) := (blk_cell BK158.out 2).trans rfl; have hcz32_3 : w30.cell? ⟨gb158, 3, none⟩ = some (.int .i64 a0_3) := (blk_cell BK158.out 3).trans rfl; have hcz32_4 : w30.cell? ⟨gb158, 4, none⟩ = some (.int .i64 a0_4) := (blk_cell BK158.out 4).trans rfl; have hcz32_5 : w30.cell? ⟨gb158, 5, none⟩ = some (.slice A0_5 l0_5.length c0_5) := (blk_cell BK158.out 5).trans rfl; have hfz32_0 := blk_frozen BK158.out 0; have hfz32_1 := blk_frozen BK158.out 1; have hfz32_2 := blk_frozen BK158.out 2; have hfz32_3 := blk_frozen BK158.out 3; have hfz32_4 := blk_frozen BK158.out 4; have hfz32_5 := blk_frozen BK158.out 5; have hcz33_0 : w30.cell? ⟨gb159, 0, none⟩ = some (.int .i64 a1_0) := (blk_cell BK159.out 0).trans rfl; have hcz33_1 : w30.cell? ⟨gb159, 1, none⟩ = some (.int .i64 a1_1) := (blk_cell BK159.out 1).trans rfl; have hcz33_2 : w30.cell? ⟨gb159, 2, none⟩ = some (.int .i64 a1_2) := (blk_cell BK159.out 2).trans rfl; have hcz33_3 : w30.cell? ⟨gb159, 3, none⟩ = some (.int .i64 a1_3) := (blk_cell BK159.out 3).trans rfl; have hcz33_4 : w30.cell? ⟨gb159, 4, none⟩ = some (.int .i64 a1_4) := (blk_cell BK159.out 4).trans rfl; have hcz33_5 : w30.cell? ⟨gb159, 5, none⟩ = some (.slice A1_5 l1_5.length c1_5) := (blk_cell BK159.out 5).trans rfl; have hfz33_0 := blk_frozen BK159.out 0; have hfz33_1 := blk_frozen BK159.out 1; have hfz33_2 := blk_frozen BK159.out 2; have hfz33_3 := blk_frozen BK159.out 3; have hfz33_4 := blk_frozen BK159.out 4; have hfz33_5 := blk_frozen BK159.out 5))
      go_ret
      exact ⟨by first | rfl | (simp [errW_none, errW_some] <;> rfl) | (simp [*, errW_none, errW_some] <;> rfl), by repeat (first | (with_reducible first | exact HB.out | apply below_alloc | apply pw_below_drewN | apply below_drew1 | refine below_set ?_ GE158.out | refine below_set ?_ GE159.out) | exact HB.out)⟩
  · rw [if_neg c3] at H
    have c3b0 : (a0_0 == a1_0) = false := beq_eq_false_iff_ne.mpr c3
    have c3b1 : (a0_0 != a1_0) = true := bne_iff_ne.mpr c3
    obtain rfl := Option.some.inj H
    go_enter Try.func13, Try.ntmps13
    go_wp2_with (first | ((with_reducible refine gate_dst (N := 2) rfl ?_); refine box_event ?hg (N := 2) ?hd (cs := #[.int .i64 a0_0, .int .i64 a0_1, .int .i64 a0_2, .int .i64 a0_3, .int .i64 a0_4, .slice A0_5 l0_5.length c0_5]) (t := 24) ?hr ?_; (case hd => rfl); (case hg => rfl); (case hr => first | (go_simp; done) | (go_simp; rfl)); intro gb158 hg w34 hbox hb; have n0_ := Aside0.mk (below_step (by repeat (first | (with_reducible first | exact HB.out | apply below_alloc | apply pw_below_drewN | apply below_drew1) | exact HB.out)) hb); have n1_ := Aside0.mk (hbox); have n2_ := Aside0.mk ((by rw [hg]; exact (below_size (by repeat (first | (with_reducible first | exact HB.out | apply below_alloc | apply pw_below_drewN | apply below_drew1) | exact HB.out))) : w.heap.size ≤ gb158)); have n3_ := Aside0.mk ((by rw [hg]; exact (below_size (by repeat (first | (with_reducible first | exact HB.out | apply below_alloc | apply pw_below_drewN | apply below_drew1) | exact HB.out))) : w.heap.size ≤ gb158)); clear HB; have HB := n0_; have BK158 := n1_; have GW158 := n2_; have GE158 := n3_; clear n0_ n1_ n2_ n3_; clear hb hbox hg) | ((with_reducible refine gate_dst (N := 3) rfl ?_); refine box_event ?hg (N := 3) ?hd (cs := #[.int .i64 a1_0, .int .i64 a1_1, .int .i64 a1_2, .int .i64 a1_3, .int .i64 a1_4, .slice A1_5 l1_5.length c1_5]) (t := 24) ?hr ?_; (case hd => rfl); (case hg => rfl); (case hr => first | (go_simp; done) | (go_simp; rfl)); intro gb159 hg w35 hbox hb; have n0_ := Aside0.mk (blk_below (g := gb158) (o := .cells #[.int .i64 a0_0, .int .i64 a0_1, .int .i64 a0_2, .int .i64 a0_3, .int .i64 a0_4, .slice A0_5 l0_5.length c0_5] 24 (0, 0)) (by (with_reducible repeat (first | refine blk_drewN ?_ _ | refine blk_drew ?_ | refine blk_alloc ?_ _)); exact BK158.out) hb); have n1_ := Aside0.mk (below_step (by repeat (first | (with_reducible first | exact HB.out | apply below_alloc | apply pw_below_drewN | apply below_drew1 | refine below_set ?_ GE158.out) | exact HB.out)) hb); have n2_ := Aside0.mk (hbox); have n3_ := Aside0.mk ((by rw [hg]; exact (below_size (by repeat (first | (with_reducible first | exact HB.out | apply below_alloc | apply pw_below_drewN | apply below_drew1 | refine below_set ?_ GE158.out) | exact HB.out))) : w.heap.size ≤ gb159)); have n4_ := Aside0.mk ((by rw [hg]; exact (below_size (by repeat (first | (with_reducible first | exact HB.out | apply below_alloc | apply pw_below_drewN | apply below_drew1 | refine below_set ?_ GE158.out) | exact HB.out))) : w.heap.size ≤ gb159)); have n5_ := Aside0.mk ((by rw [hg]; exact Nat.ne_of_lt (blk_lt (g := gb158) (o := .cells #[.int .i64 a0_0, .int .i64 a0_1, .int .i64 a0_2, .int .i64 a0_3, .int .i64 a0_4, .slice A0_5 l0_5.length c0_5] 24 (0, 0)) (by (with_reducible repeat (first | refine blk_drewN ?_ _ | refine blk_drew ?_ | refine blk_alloc ?_ _)); exact BK158.out)) : gb158 ≠ gb159)); have n6_ := Aside0.mk ((by rw [hg]; exact Nat.ne_of_gt (blk_lt (g := gb158) (o := .cells #[.int .i64 a0_0, .int .i64 a0_1, .int .i64 a0_2, .int .i64 a0_3, .int .i64 a0_4, .slice A0_5 l0_5.length c0_5] 24 (0, 0)) (by (with_reducible repeat (first | refine blk_drewN ?_ _ | refine blk_drew ?_ | refine blk_alloc ?_ _)); exact BK158.out)) : gb159 ≠ gb158)); clear BK158; clear HB; have BK158 := n0_; have HB := n1_; have BK159 := n2_; have GW159 := n3_; have GE159 := n4_; have NB158_159 := n5_; have NB159_158 := n6_; clear n0_ n1_ n2_ n3_ n4_ n5_ n6_; clear hb hbox hg; have hnb36 := NB158_159.out; have hnc36 := NB159_158.out; have hcz37_0 : w35.cell? ⟨gb158, 0, none⟩ = some (.int .i64 a0_0) := (blk_cell BK158.out 0).trans rfl; have hcz37_1 : w35.cell? ⟨gb158, 1, none⟩ = some (.int .i64 a0_1) := (blk_cell BK158.out 1).trans rfl; have hcz37_2 : w35.cell? ⟨gb158, 2, none⟩ = some (.int .i64 a0_2) := (blk_cell BK158.out 2).trans rfl; have hcz37_3 : w35.cell? ⟨gb158, 3, none⟩ = some (.int .i64 a0_3) := (blk_cell BK158.out 3).trans rfl; have hcz37_4 : w35.cell? ⟨gb158, 4, none⟩ = some (.int .i64 a0_4) := (blk_cell BK158.out 4).trans rfl; have hcz37_5 : w35.cell? ⟨gb158, 5, none⟩ = some (.slice A0_5 l0_5.length c0_5) := (blk_cell BK158.out 5).trans rfl; have hfz37_0 := blk_frozen BK158.out 0; have hfz37_1 := blk_frozen BK158.out 1; have hfz37_2 := blk_frozen BK158.out 2; have hfz37_3 := blk_frozen BK158.out 3; have hfz37_4 := blk_frozen BK158.out 4; have hfz37_5 := blk_frozen BK158.out 5; have hcz38_0 : w35.cell? ⟨gb159, 0, none⟩ = some (.int .i64 a1_0) := (blk_cell BK159.out 0).trans rfl; have hcz38_1 : w35.cell? ⟨gb159, 1, none⟩ = some (.int .i64 a1_1) := (blk_cell BK159.out 1).trans rfl; have hcz38_2 : w35.cell? ⟨gb159, 2, none⟩ = some (.int .i64 a1_2) := (blk_cell BK159.out 2).trans rfl; have hcz38_3 : w35.cell? ⟨gb159, 3, none⟩ = some (.int .i64 a1_3) := (blk_cell BK159.out 3).trans rfl; have hcz38_4 : w35.cell? ⟨gb159, 4, none⟩ = some (.int .i64 a1_4) := (blk_cell BK159.out 4).trans rfl; have hcz38_5 : w35.cell? ⟨gb159, 5, none⟩ = some (.slice A1_5 l1_5.length c1_5) := (blk_cell BK159.out 5).trans rfl; have hfz38_0 := blk_frozen BK159.out 0; have hfz38_1 := blk_frozen BK159.out 1; have hfz38_2 := blk_frozen BK159.out 2; have hfz38_3 := blk_frozen BK159.out 3; have hfz38_4 := blk_frozen BK159.out 4; have hfz38_5 := blk_frozen BK159.out 5))
    go_ret
    exact ⟨by first | rfl | (simp [errW_none, errW_some] <;> rfl) | (simp [*, errW_none, errW_some] <;> rfl), by repeat (first | (with_reducible first | exact HB.out | apply below_alloc | apply pw_below_drewN | apply below_drew1 | refine below_set ?_ GE158.out | refine below_set ?_ GE159.out) | exact HB.out)⟩

/-! ### odysseylaw07_sameEvent: function 17 -/
def odysseylaw07_sameEvent.f (k : Nat) (a0_0 : Int) (a0_1 : Int) (a0_2 : Int) (l0_3 : List ByteArray) (a1_0 : Int) (a1_1 : Int) (a1_2 : Int) (l1_3 : List ByteArray) : Option (Bool) := if a0_0 = a1_0 then (if a0_1 = a1_1 then (if a0_2 = a1_2 then ((odysseylaw07_same.f k l0_3 l1_3).bind fun t163 => (some t163)) else (some false)) else (some false)) else (some false)
theorem odysseylaw07_sameEvent.mono : ∀ a0 a1 a2 a3 a4 a5 a6 a7 k, LeO (odysseylaw07_sameEvent.f k a0 a1 a2 a3 a4 a5 a6 a7) (odysseylaw07_sameEvent.f (k + 1) a0 a1 a2 a3 a4 a5 a6 a7) := by
  intro a0 a1 a2 a3 a4 a5 a6 a7 k
  unfold odysseylaw07_sameEvent.f
  repeat' first
      | (with_reducible exact odysseylaw07_same.mono _ _ _)
      | (with_reducible exact LeO.refl _)
      | (with_reducible exact LeO.none _)
      | (with_reducible refine LeO.ite ?_ ?_)
      | (with_reducible refine LeO.bind ?_ (fun _ => ?_))
      | exact odysseylaw07_same.mono _ _ _
      | exact LeO.none _
      | refine LeO.ite ?_ ?_
      | refine LeO.bind ?_ (fun _ => ?_)
set_option maxHeartbeats 8000000 in
set_option maxRecDepth 100000 in
theorem odysseylaw07_sameEvent.calls (k : Nat) (a0_0 : Int) (a0_1 : Int) (a0_2 : Int) (A0_3 : Option Addr) (c0_3 : Nat) (l0_3 : List ByteArray) (a1_0 : Int) (a1_1 : Int) (a1_2 : Int) (A1_3 : Option Addr) (c1_3 : Nat) (l1_3 : List ByteArray) (r : Bool) (w : World) (hr0_3 : Kd.C Kd.string w A0_3 l0_3.length l0_3) (hc0_3 : l0_3.length ≤ c0_3) (hr1_3 : Kd.C Kd.string w A1_3 l1_3.length l1_3) (hc1_3 : l1_3.length ≤ c1_3) (h : odysseylaw07_sameEvent.f k a0_0 a0_1 a0_2 l0_3 a1_0 a1_1 a1_2 l1_3 = some r) :
    Calls Try.prog 17 #[.agg #[.int .i64 a0_0, .int .i64 a0_1, .int .i64 a0_2, .slice A0_3 l0_3.length c0_3], .agg #[.int .i64 a1_0, .int .i64 a1_1, .int .i64 a1_2, .slice A1_3 l1_3.length c1_3]] w fun e w' => e = .returned (.bool r) ∧ Below w.heap.size w w' := by
  have hu33 := Try.underlying33
  have HR0_3 := Aside0.mk hr0_3
  have HC0_3 := Aside0.mk hc0_3
  clear hr0_3 hc0_3
  have HR1_3 := Aside0.mk hr1_3
  have HC1_3 := Aside0.mk hc1_3
  clear hr1_3 hc1_3
  have HB := Aside0.mk (Below.refl w.heap.size w)
  have H : (if a0_0 = a1_0 then (if a0_1 = a1_1 then (if a0_2 = a1_2 then ((odysseylaw07_same.f k l0_3 l1_3).bind fun t163 => (some t163)) else (some false)) else (some false)) else (some false)) = some r := h
  clear h
  by_cases c3 : a0_0 = a1_0
  · rw [if_pos c3] at H
    have c3b0 : (a0_0 == a1_0) = true := beq_iff_eq.mpr c3
    have c3b1 : (a0_0 != a1_0) = false := bne_eq_false_iff_eq.mpr c3
    clear c3
    by_cases c4 : a0_1 = a1_1
    · rw [if_pos c4] at H
      have c4b0 : (a0_1 == a1_1) = true := beq_iff_eq.mpr c4
      have c4b1 : (a0_1 != a1_1) = false := bne_eq_false_iff_eq.mpr c4
      clear c4
      by_cases c5 : a0_2 = a1_2
      · rw [if_pos c5] at H
        have c5b0 : (a0_2 == a1_2) = true := beq_iff_eq.mpr c5
        have c5b1 : (a0_2 != a1_2) = false := bne_eq_false_iff_eq.mpr c5
        clear c5
        replace H := Option.bind_eq_some_iff.mp H
        obtain ⟨t163, A60, H⟩ := H
        replace H : (some t163) = some r := H
        have A6 := Aside0.mk A60
        clear A60
        obtain rfl := Option.some.inj H
        go_enter Try.func17, Try.ntmps17
        go_wp2_with (first | ((with_reducible refine gate_dst (N := 2) rfl ?_); refine box_event ?hg (N := 2) ?hd (cs := #[.int .i64 a0_0, .int .i64 a0_1, .int .i64 a0_2, .slice A0_3 l0_3.length c0_3]) (t := 33) ?hr ?_; (case hd => rfl); (case hg => rfl); (case hr => first | (go_simp; done) | (go_simp; rfl)); intro gb161 hg w7 hbox hb; have n0_ := Aside0.mk (below_step (by repeat (first | (with_reducible first | exact HB.out | apply below_alloc | apply pw_below_drewN | apply below_drew1) | exact HB.out)) hb); have n1_ := Aside0.mk (hbox); have n2_ := Aside0.mk ((by rw [hg]; exact (below_size (by repeat (first | (with_reducible first | exact HB.out | apply below_alloc | apply pw_below_drewN | apply below_drew1) | exact HB.out))) : w.heap.size ≤ gb161)); have n3_ := Aside0.mk ((by rw [hg]; exact (below_size (by repeat (first | (with_reducible first | exact HB.out | apply below_alloc | apply pw_below_drewN | apply below_drew1) | exact HB.out))) : w.heap.size ≤ gb161)); clear HB; have HB := n0_; have BK161 := n1_; have GW161 := n2_; have GE161 := n3_; clear n0_ n1_ n2_ n3_; clear hb hbox hg) | ((with_reducible refine gate_dst (N := 3) rfl ?_); refine box_event ?hg (N := 3) ?hd (cs := #[.int .i64 a1_0, .int .i64 a1_1, .int .i64 a1_2, .slice A1_3 l1_3.length c1_3]) (t := 33) ?hr ?_; (case hd => rfl); (case hg => rfl); (case hr => first | (go_simp; done) | (go_simp; rfl)); intro gb162 hg w8 hbox hb; have n0_ := Aside0.mk (blk_below (g := gb161) (o := .cells #[.int .i64 a0_0, .int .i64 a0_1, .int .i64 a0_2, .slice A0_3 l0_3.length c0_3] 33 (0, 0)) (by (with_reducible repeat (first | refine blk_drewN ?_ _ | refine blk_drew ?_ | refine blk_alloc ?_ _)); exact BK161.out) hb); have n1_ := Aside0.mk (below_step (by repeat (first | (with_reducible first | exact HB.out | apply below_alloc | apply pw_below_drewN | apply below_drew1 | refine below_set ?_ GE161.out) | exact HB.out)) hb); have n2_ := Aside0.mk (hbox); have n3_ := Aside0.mk ((by rw [hg]; exact (below_size (by repeat (first | (with_reducible first | exact HB.out | apply below_alloc | apply pw_below_drewN | apply below_drew1 | refine below_set ?_ GE161.out) | exact HB.out))) : w.heap.size ≤ gb162)); have n4_ := Aside0.mk ((by rw [hg]; exact (below_size (by repeat (first | (with_reducible first | exact HB.out | apply below_alloc | apply pw_below_drewN | apply below_drew1 | refine below_set ?_ GE161.out) | exact HB.out))) : w.heap.size ≤ gb162)); have n5_ := Aside0.mk ((by rw [hg]; exact Nat.ne_of_lt (blk_lt (g := gb161) (o := .cells #[.int .i64 a0_0, .int .i64 a0_1, .int .i64 a0_2, .slice A0_3 l0_3.length c0_3] 33 (0, 0)) (by (with_reducible repeat (first | refine blk_drewN ?_ _ | refine blk_drew ?_ | refine blk_alloc ?_ _)); exact BK161.out)) : gb161 ≠ gb162)); have n6_ := Aside0.mk ((by rw [hg]; exact Nat.ne_of_gt (blk_lt (g := gb161) (o := .cells #[.int .i64 a0_0, .int .i64 a0_1, .int .i64 a0_2, .slice A0_3 l0_3.length c0_3] 33 (0, 0)) (by (with_reducible repeat (first | refine blk_drewN ?_ _ | refine blk_drew ?_ | refine blk_alloc ?_ _)); exact BK161.out)) : gb162 ≠ gb161)); clear BK161; clear HB; have BK161 := n0_; have HB := n1_; have BK162 := n2_; have GW162 := n3_; have GE162 := n4_; have NB161_162 := n5_; have NB162_161 := n6_; clear n0_ n1_ n2_ n3_ n4_ n5_ n6_; clear hb hbox hg; have hnb9 := NB161_162.out; have hnc9 := NB162_161.out; have hcz10_0 : w8.cell? ⟨gb161, 0, none⟩ = some (.int .i64 a0_0) := (blk_cell BK161.out 0).trans rfl; have hcz10_1 : w8.cell? ⟨gb161, 1, none⟩ = some (.int .i64 a0_1) := (blk_cell BK161.out 1).trans rfl; have hcz10_2 : w8.cell? ⟨gb161, 2, none⟩ = some (.int .i64 a0_2) := (blk_cell BK161.out 2).trans rfl; have hcz10_3 : w8.cell? ⟨gb161, 3, none⟩ = some (.slice A0_3 l0_3.length c0_3) := (blk_cell BK161.out 3).trans rfl; have hfz10_0 := blk_frozen BK161.out 0; have hfz10_1 := blk_frozen BK161.out 1; have hfz10_2 := blk_frozen BK161.out 2; have hfz10_3 := blk_frozen BK161.out 3; have hcz11_0 : w8.cell? ⟨gb162, 0, none⟩ = some (.int .i64 a1_0) := (blk_cell BK162.out 0).trans rfl; have hcz11_1 : w8.cell? ⟨gb162, 1, none⟩ = some (.int .i64 a1_1) := (blk_cell BK162.out 1).trans rfl; have hcz11_2 : w8.cell? ⟨gb162, 2, none⟩ = some (.int .i64 a1_2) := (blk_cell BK162.out 2).trans rfl; have hcz11_3 : w8.cell? ⟨gb162, 3, none⟩ = some (.slice A1_3 l1_3.length c1_3) := (blk_cell BK162.out 3).trans rfl; have hfz11_0 := blk_frozen BK162.out 0; have hfz11_1 := blk_frozen BK162.out 1; have hfz11_2 := blk_frozen BK162.out 2; have hfz11_3 := blk_frozen BK162.out 3) | (go_at_call 29; (with_reducible refine (odysseylaw07_same.calls k _ _ l0_3 _ _ l1_3 t163 _ ?side1 ?side2 ?side3 ?side4 A6.out).mono ?_); (case side1 => repeat (first | exact (Kd.C_below HR0_3.out HB.out) | (with_reducible refine Kd.C_alloc ?_ _) | (with_reducible refine Kd.C_drewN ?_ _) | (with_reducible refine Kd.C_drew ?_))); (case side2 => exact HC0_3.out); (case side3 => repeat (first | exact (Kd.C_below HR1_3.out HB.out) | (with_reducible refine Kd.C_alloc ?_ _) | (with_reducible refine Kd.C_drewN ?_ _) | (with_reducible refine Kd.C_drew ?_))); (case side4 => exact HC1_3.out); rintro e w' ⟨rfl, ⟨nd, rfl⟩⟩))
        go_ret
        exact ⟨by first | rfl | (simp [errW_none, errW_some] <;> rfl) | (simp [*, errW_none, errW_some] <;> rfl), by repeat (first | (with_reducible first | exact HB.out | apply below_alloc | apply pw_below_drewN | apply below_drew1 | refine below_set ?_ GE161.out | refine below_set ?_ GE162.out) | exact HB.out)⟩
      · rw [if_neg c5] at H
        have c5b0 : (a0_2 == a1_2) = false := beq_eq_false_iff_ne.mpr c5
        have c5b1 : (a0_2 != a1_2) = true := bne_iff_ne.mpr c5
        obtain rfl := Option.some.inj H
        go_enter Try.func17, Try.ntmps17
        go_wp2_with (first | ((with_reducible refine gate_dst (N := 2) rfl ?_); refine box_event ?hg (N := 2) ?hd (cs := #[.int .i64 a0_0, .int .i64 a0_1, .int .i64 a0_2, .slice A0_3 l0_3.length c0_3]) (t := 33) ?hr ?_; (case hd => rfl); (case hg => rfl); (case hr => first | (go_simp; done) | (go_simp; rfl)); intro gb161 hg w12 hbox hb; have n0_ := Aside0.mk (below_step (by repeat (first | (with_reducible first | exact HB.out | apply below_alloc | apply pw_below_drewN | apply below_drew1) | exact HB.out)) hb); have n1_ := Aside0.mk (hbox); have n2_ := Aside0.mk ((by rw [hg]; exact (below_size (by repeat (first | (with_reducible first | exact HB.out | apply below_alloc | apply pw_below_drewN | apply below_drew1) | exact HB.out))) : w.heap.size ≤ gb161)); have n3_ := Aside0.mk ((by rw [hg]; exact (below_size (by repeat (first | (with_reducible first | exact HB.out | apply below_alloc | apply pw_below_drewN | apply below_drew1) | exact HB.out))) : w.heap.size ≤ gb161)); clear HB; have HB := n0_; have BK161 := n1_; have GW161 := n2_; have GE161 := n3_; clear n0_ n1_ n2_ n3_; clear hb hbox hg) | ((with_reducible refine gate_dst (N := 3) rfl ?_); refine box_event ?hg (N := 3) ?hd (cs := #[.int .i64 a1_0, .int .i64 a1_1, .int .i64 a1_2, .slice A1_3 l1_3.length c1_3]) (t := 33) ?hr ?_; (case hd => rfl); (case hg => rfl); (case hr => first | (go_simp; done) | (go_simp; rfl)); intro gb162 hg w13 hbox hb; have n0_ := Aside0.mk (blk_below (g := gb161) (o := .cells #[.int .i64 a0_0, .int .i64 a0_1, .int .i64 a0_2, .slice A0_3 l0_3.length c0_3] 33 (0, 0)) (by (with_reducible repeat (first | refine blk_drewN ?_ _ | refine blk_drew ?_ | refine blk_alloc ?_ _)); exact BK161.out) hb); have n1_ := Aside0.mk (below_step (by repeat (first | (with_reducible first | exact HB.out | apply below_alloc | apply pw_below_drewN | apply below_drew1 | refine below_set ?_ GE161.out) | exact HB.out)) hb); have n2_ := Aside0.mk (hbox); have n3_ := Aside0.mk ((by rw [hg]; exact (below_size (by repeat (first | (with_reducible first | exact HB.out | apply below_alloc | apply pw_below_drewN | apply below_drew1 | refine below_set ?_ GE161.out) | exact HB.out))) : w.heap.size ≤ gb162)); have n4_ := Aside0.mk ((by rw [hg]; exact (below_size (by repeat (first | (with_reducible first | exact HB.out | apply below_alloc | apply pw_below_drewN | apply below_drew1 | refine below_set ?_ GE161.out) | exact HB.out))) : w.heap.size ≤ gb162)); have n5_ := Aside0.mk ((by rw [hg]; exact Nat.ne_of_lt (blk_lt (g := gb161) (o := .cells #[.int .i64 a0_0, .int .i64 a0_1, .int .i64 a0_2, .slice A0_3 l0_3.length c0_3] 33 (0, 0)) (by (with_reducible repeat (first | refine blk_drewN ?_ _ | refine blk_drew ?_ | refine blk_alloc ?_ _)); exact BK161.out)) : gb161 ≠ gb162)); have n6_ := Aside0.mk ((by rw [hg]; exact Nat.ne_of_gt (blk_lt (g := gb161) (o := .cells #[.int .i64 a0_0, .int .i64 a0_1, .int .i64 a0_2, .slice A0_3 l0_3.length c0_3] 33 (0, 0)) (by (with_reducible repeat (first | refine blk_drewN ?_ _ | refine blk_drew ?_ | refine blk_alloc ?_ _)); exact BK161.out)) : gb162 ≠ gb161)); clear BK161; clear HB; have BK161 := n0_; have HB := n1_; have BK162 := n2_; have GW162 := n3_; have GE162 := n4_; have NB161_162 := n5_; have NB162_161 := n6_; clear n0_ n1_ n2_ n3_ n4_ n5_ n6_; clear hb hbox hg; have hnb14 := NB161_162.out; have hnc14 := NB162_161.out; have hcz15_0 : w13.cell? ⟨gb161, 0, none⟩ = some (.int .i64 a0_0) := (blk_cell BK161.out 0).trans rfl; have hcz15_1 : w13.cell? ⟨gb161, 1, none⟩ = some (.int .i64 a0_1) := (blk_cell BK161.out 1).trans rfl; have hcz15_2 : w13.cell? ⟨gb161, 2, none⟩ = some (.int .i64 a0_2) := (blk_cell BK161.out 2).trans rfl; have hcz15_3 : w13.cell? ⟨gb161, 3, none⟩ = some (.slice A0_3 l0_3.length c0_3) := (blk_cell BK161.out 3).trans rfl; have hfz15_0 := blk_frozen BK161.out 0; have hfz15_1 := blk_frozen BK161.out 1; have hfz15_2 := blk_frozen BK161.out 2; have hfz15_3 := blk_frozen BK161.out 3; have hcz16_0 : w13.cell? ⟨gb162, 0, none⟩ = some (.int .i64 a1_0) := (blk_cell BK162.out 0).trans rfl; have hcz16_1 : w13.cell? ⟨gb162, 1, none⟩ = some (.int .i64 a1_1) := (blk_cell BK162.out 1).trans rfl; have hcz16_2 : w13.cell? ⟨gb162, 2, none⟩ = some (.int .i64 a1_2) := (blk_cell BK162.out 2).trans rfl; have hcz16_3 : w13.cell? ⟨gb162, 3, none⟩ = some (.slice A1_3 l1_3.length c1_3) := (blk_cell BK162.out 3).trans rfl; have hfz16_0 := blk_frozen BK162.out 0; have hfz16_1 := blk_frozen BK162.out 1; have hfz16_2 := blk_frozen BK162.out 2; have hfz16_3 := blk_frozen BK162.out 3))
        go_ret
        exact ⟨by first | rfl | (simp [errW_none, errW_some] <;> rfl) | (simp [*, errW_none, errW_some] <;> rfl), by repeat (first | (with_reducible first | exact HB.out | apply below_alloc | apply pw_below_drewN | apply below_drew1 | refine below_set ?_ GE161.out | refine below_set ?_ GE162.out) | exact HB.out)⟩
    · rw [if_neg c4] at H
      have c4b0 : (a0_1 == a1_1) = false := beq_eq_false_iff_ne.mpr c4
      have c4b1 : (a0_1 != a1_1) = true := bne_iff_ne.mpr c4
      obtain rfl := Option.some.inj H
      go_enter Try.func17, Try.ntmps17
      go_wp2_with (first | ((with_reducible refine gate_dst (N := 2) rfl ?_); refine box_event ?hg (N := 2) ?hd (cs := #[.int .i64 a0_0, .int .i64 a0_1, .int .i64 a0_2, .slice A0_3 l0_3.length c0_3]) (t := 33) ?hr ?_; (case hd => rfl); (case hg => rfl); (case hr => first | (go_simp; done) | (go_simp; rfl)); intro gb161 hg w17 hbox hb; have n0_ := Aside0.mk (below_step (by repeat (first | (with_reducible first | exact HB.out | apply below_alloc | apply pw_below_drewN | apply below_drew1) | exact HB.out)) hb); have n1_ := Aside0.mk (hbox); have n2_ := Aside0.mk ((by rw [hg]; exact (below_size (by repeat (first | (with_reducible first | exact HB.out | apply below_alloc | apply pw_below_drewN | apply below_drew1) | exact HB.out))) : w.heap.size ≤ gb161)); have n3_ := Aside0.mk ((by rw [hg]; exact (below_size (by repeat (first | (with_reducible first | exact HB.out | apply below_alloc | apply pw_below_drewN | apply below_drew1) | exact HB.out))) : w.heap.size ≤ gb161)); clear HB; have HB := n0_; have BK161 := n1_; have GW161 := n2_; have GE161 := n3_; clear n0_ n1_ n2_ n3_; clear hb hbox hg) | ((with_reducible refine gate_dst (N := 3) rfl ?_); refine box_event ?hg (N := 3) ?hd (cs := #[.int .i64 a1_0, .int .i64 a1_1, .int .i64 a1_2, .slice A1_3 l1_3.length c1_3]) (t := 33) ?hr ?_; (case hd => rfl); (case hg => rfl); (case hr => first | (go_simp; done) | (go_simp; rfl)); intro gb162 hg w18 hbox hb; have n0_ := Aside0.mk (blk_below (g := gb161) (o := .cells #[.int .i64 a0_0, .int .i64 a0_1, .int .i64 a0_2, .slice A0_3 l0_3.length c0_3] 33 (0, 0)) (by (with_reducible repeat (first | refine blk_drewN ?_ _ | refine blk_drew ?_ | refine blk_alloc ?_ _)); exact BK161.out) hb); have n1_ := Aside0.mk (below_step (by repeat (first | (with_reducible first | exact HB.out | apply below_alloc | apply pw_below_drewN | apply below_drew1 | refine below_set ?_ GE161.out) | exact HB.out)) hb); have n2_ := Aside0.mk (hbox); have n3_ := Aside0.mk ((by rw [hg]; exact (below_size (by repeat (first | (with_reducible first | exact HB.out | apply below_alloc | apply pw_below_drewN | apply below_drew1 | refine below_set ?_ GE161.out) | exact HB.out))) : w.heap.size ≤ gb162)); have n4_ := Aside0.mk ((by rw [hg]; exact (below_size (by repeat (first | (with_reducible first | exact HB.out | apply below_alloc | apply pw_below_drewN | apply below_drew1 | refine below_set ?_ GE161.out) | exact HB.out))) : w.heap.size ≤ gb162)); have n5_ := Aside0.mk ((by rw [hg]; exact Nat.ne_of_lt (blk_lt (g := gb161) (o := .cells #[.int .i64 a0_0, .int .i64 a0_1, .int .i64 a0_2, .slice A0_3 l0_3.length c0_3] 33 (0, 0)) (by (with_reducible repeat (first | refine blk_drewN ?_ _ | refine blk_drew ?_ | refine blk_alloc ?_ _)); exact BK161.out)) : gb161 ≠ gb162)); have n6_ := Aside0.mk ((by rw [hg]; exact Nat.ne_of_gt (blk_lt (g := gb161) (o := .cells #[.int .i64 a0_0, .int .i64 a0_1, .int .i64 a0_2, .slice A0_3 l0_3.length c0_3] 33 (0, 0)) (by (with_reducible repeat (first | refine blk_drewN ?_ _ | refine blk_drew ?_ | refine blk_alloc ?_ _)); exact BK161.out)) : gb162 ≠ gb161)); clear BK161; clear HB; have BK161 := n0_; have HB := n1_; have BK162 := n2_; have GW162 := n3_; have GE162 := n4_; have NB161_162 := n5_; have NB162_161 := n6_; clear n0_ n1_ n2_ n3_ n4_ n5_ n6_; clear hb hbox hg; have hnb19 := NB161_162.out; have hnc19 := NB162_161.out; have hcz20_0 : w18.cell? ⟨gb161, 0, none⟩ = some (.int .i64 a0_0) := (blk_cell BK161.out 0).trans rfl; have hcz20_1 : w18.cell? ⟨gb161, 1, none⟩ = some (.int .i64 a0_1) := (blk_cell BK161.out 1).trans rfl; have hcz20_2 : w18.cell? ⟨gb161, 2, none⟩ = some (.int .i64 a0_2) := (blk_cell BK161.out 2).trans rfl; have hcz20_3 : w18.cell? ⟨gb161, 3, none⟩ = some (.slice A0_3 l0_3.length c0_3) := (blk_cell BK161.out 3).trans rfl; have hfz20_0 := blk_frozen BK161.out 0; have hfz20_1 := blk_frozen BK161.out 1; have hfz20_2 := blk_frozen BK161.out 2; have hfz20_3 := blk_frozen BK161.out 3; have hcz21_0 : w18.cell? ⟨gb162, 0, none⟩ = some (.int .i64 a1_0) := (blk_cell BK162.out 0).trans rfl; have hcz21_1 : w18.cell? ⟨gb162, 1, none⟩ = some (.int .i64 a1_1) := (blk_cell BK162.out 1).trans rfl; have hcz21_2 : w18.cell? ⟨gb162, 2, none⟩ = some (.int .i64 a1_2) := (blk_cell BK162.out 2).trans rfl; have hcz21_3 : w18.cell? ⟨gb162, 3, none⟩ = some (.slice A1_3 l1_3.length c1_3) := (blk_cell BK162.out 3).trans rfl; have hfz21_0 := blk_frozen BK162.out 0; have hfz21_1 := blk_frozen BK162.out 1; have hfz21_2 := blk_frozen BK162.out 2; have hfz21_3 := blk_frozen BK162.out 3))
      go_ret
      exact ⟨by first | rfl | (simp [errW_none, errW_some] <;> rfl) | (simp [*, errW_none, errW_some] <;> rfl), by repeat (first | (with_reducible first | exact HB.out | apply below_alloc | apply pw_below_drewN | apply below_drew1 | refine below_set ?_ GE161.out | refine below_set ?_ GE162.out) | exact HB.out)⟩
  · rw [if_neg c3] at H
    have c3b0 : (a0_0 == a1_0) = false := beq_eq_false_iff_ne.mpr c3
    have c3b1 : (a0_0 != a1_0) = true := bne_iff_ne.mpr c3
    obtain rfl := Option.some.inj H
    go_enter Try.func17, Try.ntmps17
    go_wp2_with (first | ((with_reducible refine gate_dst (N := 2) rfl ?_); refine box_event ?hg (N := 2) ?hd (cs := #[.int .i64 a0_0, .int .i64 a0_1, .int .i64 a0_2, .slice A0_3 l0_3.length c0_3]) (t := 33) ?hr ?_; (case hd => rfl); (case hg => rfl); (case hr => first | (go_simp; done) | (go_simp; rfl)); intro gb161 hg w22 hbox hb; have n0_ := Aside0.mk (below_step (by repeat (first | (with_reducible first | exact HB.out | apply below_alloc | apply pw_below_drewN | apply below_drew1) | exact HB.out)) hb); have n1_ := Aside0.mk (hbox); have n2_ := Aside0.mk ((by rw [hg]; exact (below_size (by repeat (first | (with_reducible first | exact HB.out | apply below_alloc | apply pw_below_drewN | apply below_drew1) | exact HB.out))) : w.heap.size ≤ gb161)); have n3_ := Aside0.mk ((by rw [hg]; exact (below_size (by repeat (first | (with_reducible first | exact HB.out | apply below_alloc | apply pw_below_drewN | apply below_drew1) | exact HB.out))) : w.heap.size ≤ gb161)); clear HB; have HB := n0_; have BK161 := n1_; have GW161 := n2_; have GE161 := n3_; clear n0_ n1_ n2_ n3_; clear hb hbox hg) | ((with_reducible refine gate_dst (N := 3) rfl ?_); refine box_event ?hg (N := 3) ?hd (cs := #[.int .i64 a1_0, .int .i64 a1_1, .int .i64 a1_2, .slice A1_3 l1_3.length c1_3]) (t := 33) ?hr ?_; (case hd => rfl); (case hg => rfl); (case hr => first | (go_simp; done) | (go_simp; rfl)); intro gb162 hg w23 hbox hb; have n0_ := Aside0.mk (blk_below (g := gb161) (o := .cells #[.int .i64 a0_0, .int .i64 a0_1, .int .i64 a0_2, .slice A0_3 l0_3.length c0_3] 33 (0, 0)) (by (with_reducible repeat (first | refine blk_drewN ?_ _ | refine blk_drew ?_ | refine blk_alloc ?_ _)); exact BK161.out) hb); have n1_ := Aside0.mk (below_step (by repeat (first | (with_reducible first | exact HB.out | apply below_alloc | apply pw_below_drewN | apply below_drew1 | refine below_set ?_ GE161.out) | exact HB.out)) hb); have n2_ := Aside0.mk (hbox); have n3_ := Aside0.mk ((by rw [hg]; exact (below_size (by repeat (first | (with_reducible first | exact HB.out | apply below_alloc | apply pw_below_drewN | apply below_drew1 | refine below_set ?_ GE161.out) | exact HB.out))) : w.heap.size ≤ gb162)); have n4_ := Aside0.mk ((by rw [hg]; exact (below_size (by repeat (first | (with_reducible first | exact HB.out | apply below_alloc | apply pw_below_drewN | apply below_drew1 | refine below_set ?_ GE161.out) | exact HB.out))) : w.heap.size ≤ gb162)); have n5_ := Aside0.mk ((by rw [hg]; exact Nat.ne_of_lt (blk_lt (g := gb161) (o := .cells #[.int .i64 a0_0, .int .i64 a0_1, .int .i64 a0_2, .slice A0_3 l0_3.length c0_3] 33 (0, 0)) (by (with_reducible repeat (first | refine blk_drewN ?_ _ | refine blk_drew ?_ | refine blk_alloc ?_ _)); exact BK161.out)) : gb161 ≠ gb162)); have n6_ := Aside0.mk ((by rw [hg]; exact Nat.ne_of_gt (blk_lt (g := gb161) (o := .cells #[.int .i64 a0_0, .int .i64 a0_1, .int .i64 a0_2, .slice A0_3 l0_3.length c0_3] 33 (0, 0)) (by (with_reducible repeat (first | refine blk_drewN ?_ _ | refine blk_drew ?_ | refine blk_alloc ?_ _)); exact BK161.out)) : gb162 ≠ gb161)); clear BK161; clear HB; have BK161 := n0_; have HB := n1_; have BK162 := n2_; have GW162 := n3_; have GE162 := n4_; have NB161_162 := n5_; have NB162_161 := n6_; clear n0_ n1_ n2_ n3_ n4_ n5_ n6_; clear hb hbox hg; have hnb24 := NB161_162.out; have hnc24 := NB162_161.out; have hcz25_0 : w23.cell? ⟨gb161, 0, none⟩ = some (.int .i64 a0_0) := (blk_cell BK161.out 0).trans rfl; have hcz25_1 : w23.cell? ⟨gb161, 1, none⟩ = some (.int .i64 a0_1) := (blk_cell BK161.out 1).trans rfl; have hcz25_2 : w23.cell? ⟨gb161, 2, none⟩ = some (.int .i64 a0_2) := (blk_cell BK161.out 2).trans rfl; have hcz25_3 : w23.cell? ⟨gb161, 3, none⟩ = some (.slice A0_3 l0_3.length c0_3) := (blk_cell BK161.out 3).trans rfl; have hfz25_0 := blk_frozen BK161.out 0; have hfz25_1 := blk_frozen BK161.out 1; have hfz25_2 := blk_frozen BK161.out 2; have hfz25_3 := blk_frozen BK161.out 3; have hcz26_0 : w23.cell? ⟨gb162, 0, none⟩ = some (.int .i64 a1_0) := (blk_cell BK162.out 0).trans rfl; have hcz26_1 : w23.cell? ⟨gb162, 1, none⟩ = some (.int .i64 a1_1) := (blk_cell BK162.out 1).trans rfl; have hcz26_2 : w23.cell? ⟨gb162, 2, none⟩ = some (.int .i64 a1_2) := (blk_cell BK162.out 2).trans rfl; have hcz26_3 : w23.cell? ⟨gb162, 3, none⟩ = some (.slice A1_3 l1_3.length c1_3) := (blk_cell BK162.out 3).trans rfl; have hfz26_0 := blk_frozen BK162.out 0; have hfz26_1 := blk_frozen BK162.out 1; have hfz26_2 := blk_frozen BK162.out 2; have hfz26_3 := blk_frozen BK162.out 3))
    go_ret
    exact ⟨by first | rfl | (simp [errW_none, errW_some] <;> rfl) | (simp [*, errW_none, errW_some] <;> rfl), by repeat (first | (with_reducible first | exact HB.out | apply below_alloc | apply pw_below_drewN | apply below_drew1 | refine below_set ?_ GE161.out | refine below_set ?_ GE162.out) | exact HB.out)⟩

end Go.Proofs.Ytejaepohkcjoiaa.G

/- unicode/utf8.decodeRuneInStringSlow, DecodeRuneInString and name.Compare over tables of whatever content: the walks, by hand. -/
namespace Go.Proofs.Ytejaepohkcjoiaa.CmpWalk
open Go.Proofs.Ytejaepohkcjoiaa.Nm (byte byte_lt byte_at)
open Go.RowKit Go.IntWalk Go.Proofs.YtejaepohkcjoiaaW.PrintWords Go.Proofs.YtejaepohkcjoiaaW.PrintMore

/-- What the two tables of unicode/utf8 hold. -/
structure Utabs where
  first : Nat → Nat
  lo : Nat → Nat
  hi : Nat → Nat
  first8 : ∀ i, first i < 256
  lo8 : ∀ i, lo i < 256
  hi8 : ∀ i, hi i < 256
structure TabsRaw (T : Utabs) (w : World) : Prop where
  first : ∀ i, i < 256 → w.cell? ⟨0, i, none⟩ = some (.int .u8 (T.first i))
  lo : ∀ i, i < 16 → w.cell? ⟨1, i * 2, none⟩ = some (.int .u8 (T.lo i))
  hi : ∀ i, i < 16 → w.cell? ⟨1, i * 2 + 1, none⟩ = some (.int .u8 (T.hi i))

/-- What is decoded. -/
def decT (T : Utabs) (s : ByteArray) : Nat × Nat :=
  let x := T.first (byte s 0)
  if 240 ≤ x then (if x % 2 = 1 then 65533 else byte s 0, 1)
  else if s.size < x % 8 then (65533, 1)
  else if byte s 1 < T.lo (x / 16) ∨ T.hi (x / 16) < byte s 1 then (65533, 1)
  else if x % 8 ≤ 2 then (byte s 0 % 32 * 64 + byte s 1 % 64, 2)
  else if byte s 2 < 128 ∨ 191 < byte s 2 then (65533, 1)
  else if x % 8 ≤ 3 then (byte s 0 % 16 * 4096 + byte s 1 % 64 * 64 + byte s 2 % 64, 3)
  else if byte s 3 < 128 ∨ 191 < byte s 3 then (65533, 1)
  else (byte s 0 % 8 * 262144 + byte s 1 % 64 * 4096 + byte s 2 % 64 * 64 + byte s 3 % 64, 4)

theorem two_eq {a b a' b' : Int} (h1 : a = a') (h2 : b = b') : Ending.returned (.tuple #[.int .i32 a, .int .i64 b]) = Ending.returned (.tuple #[.int .i32 a', .int .i64 b']) := by rw [h1, h2]
theorem mask_odd (x : Nat) (ho : x % 2 = 1) : wrap32 ((x : Int) * 2147483648) / 2147483648 = -1 := by unfold wrap32; omega
theorem mask_even (x : Nat) (ho : ¬ x % 2 = 1) : wrap32 ((x : Int) * 2147483648) / 2147483648 = 0 := by unfold wrap32; omega
theorem high_odd (b : Nat) (h : b < 256) : Go.bits .or .i32 (Go.bits .andNot .i32 (b : Int) (-1)) (Go.bits .and .i32 65533 (-1)) = 65533 := by
  have : ∀ b : Fin 256, Go.bits .or .i32 (Go.bits .andNot .i32 ((b : Nat) : Int) (-1)) (Go.bits .and .i32 65533 (-1)) = 65533 := by decide +kernel
  exact this ⟨b, h⟩
theorem high_even (b : Nat) (h : b < 256) : Go.bits .or .i32 (Go.bits .andNot .i32 (b : Int) 0) (Go.bits .and .i32 65533 0) = (b : Int) := by
  have : ∀ b : Fin 256, Go.bits .or .i32 (Go.bits .andNot .i32 ((b : Nat) : Int) 0) (Go.bits .and .i32 65533 0) = ((b : Nat) : Int) := by decide +kernel
  exact this ⟨b, h⟩

set_option maxHeartbeats 1000000 in
set_option maxRecDepth 100000 in
theorem slow_calls (T : Utabs) (s : ByteArray) (w : World) (hT : TabsRaw T w) (h2 : 2 ≤ s.size) (hs : s.size ≤ 9000000000000000000) :
    Calls Try.prog 95 #[.string s] w fun e w' => e = .returned (.tuple #[.int .i32 (decT T s).1, .int .i64 (decT T s).2]) ∧ Below w.heap.size w w' := by
  have hx8 := T.first8 (byte s 0)
  have hb0 := byte_at s 0 (by omega)
  have hb1 := byte_at s 1 (by omega)
  have hl0 := byte_lt s 0
  have hc := hT.first (byte s 0) hl0
  have hlo := hT.lo (T.first (byte s 0) / 16) (by omega)
  have hhi := hT.hi (T.first (byte s 0) / 16) (by omega)
  have hlt0 : 0 < w.heap.size := World.block_lt_of_cell? w _ hc
  have hlt1 : 1 < w.heap.size := World.block_lt_of_cell? w _ hlo
  have HD : Aside0 (decT T s = decT T s) := ⟨rfl⟩
  by_cases h240 : 240 ≤ T.first (byte s 0)
  · have hd : decT T s = (if T.first (byte s 0) % 2 = 1 then 65533 else byte s 0, 1) := by
      unfold decT; simp only; rw [if_pos h240]
    generalize hxx : T.first (byte s 0) = x at *
    have HDD := Aside0.mk hd
    clear hd HD hT hlo hhi hxx
    have hge : decide ((240 : Int) ≤ (x : Int)) = true := decide_eq_true (by omega)
    have hne : decide ((s.size : Int) < 1) = false := decide_eq_false (by omega)
    go_enter Try.func95, Try.ntmps95
    go_wp2
    go_ret2
    rw [HDD.out]
    refine ⟨?_, Below.refl _ _⟩
    refine congrArg Ending.returned (congrArg Value.tuple ?_)
    refine congrArg (fun v => #[Value.int .i32 v, Value.int .i64 1]) ?_
    by_cases ho : x % 2 = 1
    · rw [mask_odd x ho, high_odd _ hl0, if_pos ho]; rfl
    · rw [mask_even x ho, high_even _ hl0, if_neg ho]
  · have hd : decT T s = if s.size < T.first (byte s 0) % 8 then (65533, 1)
        else if byte s 1 < T.lo (T.first (byte s 0) / 16) ∨ T.hi (T.first (byte s 0) / 16) < byte s 1 then (65533, 1)
        else if T.first (byte s 0) % 8 ≤ 2 then (byte s 0 % 32 * 64 + byte s 1 % 64, 2)
        else if byte s 2 < 128 ∨ 191 < byte s 2 then (65533, 1)
        else if T.first (byte s 0) % 8 ≤ 3 then (byte s 0 % 16 * 4096 + byte s 1 % 64 * 64 + byte s 2 % 64, 3)
        else if byte s 3 < 128 ∨ 191 < byte s 3 then (65533, 1)
        else (byte s 0 % 8 * 262144 + byte s 1 % 64 * 4096 + byte s 2 % 64 * 64 + byte s 3 % 64, 4) := by
      unfold decT; simp only; rw [if_neg h240]
    have hlo8 := T.lo8 (T.first (byte s 0) / 16)
    have hhi8 := T.hi8 (T.first (byte s 0) / 16)
    generalize T.lo (T.first (byte s 0) / 16) = lo at *
    generalize T.hi (T.first (byte s 0) / 16) = hi at *
    generalize hxx : T.first (byte s 0) = x at *
    have HDD := Aside0.mk hd
    clear hd HD hT hxx
    have hge : decide ((240 : Int) ≤ (x : Int)) = false := decide_eq_false (by omega)
    have hne : decide ((s.size : Int) < 1) = false := decide_eq_false (by omega)
    go_enter Try.func95, Try.ntmps95
    go_wp2
    all_goals
      go_ret2
      rw [HDD.out]
      clear hb0 hb1 HDD hlo hhi hc
      (try simp only [byte_at] at *)
      repeat (first | rw [if_pos (by omega)] | rw [if_neg (by omega)])
      refine ⟨two_eq ?_ ?_, ?_⟩
    all_goals first | rfl | (exact (Below.refl _ _).alloc (Nat.le_refl _) _) | (simp; done) | (simp; omega)

/-- What DecodeRuneInString tells of a text that is not empty. -/
def decA (T : Utabs) (s : ByteArray) : Nat × Nat := if byte s 0 < 128 then (byte s 0, 1) else decT T s

theorem decT_bounds (T : Utabs) (s : ByteArray) (h2 : 2 ≤ s.size) : (decT T s).1 ≤ 2147483647 ∧ 1 ≤ (decT T s).2 ∧ (decT T s).2 ≤ s.size := by
  have h0 := byte_lt s 0; have h1 := byte_lt s 1; have h2 := byte_lt s 2; have h3 := byte_lt s 3
  unfold decT
  simp only
  repeat' split
  all_goals simp only
  all_goals omega
theorem decA_bounds (T : Utabs) (s : ByteArray) (h : 0 < s.size) (h2 : byte s 0 < 128 ∨ 2 ≤ s.size) : (decA T s).1 ≤ 2147483647 ∧ 1 ≤ (decA T s).2 ∧ (decA T s).2 ≤ s.size := by
  unfold decA
  by_cases h0 : byte s 0 < 128
  · rw [if_pos h0]; simp only; omega
  · rw [if_neg h0]; exact decT_bounds T s (by omega)

/-- A text all of whose runes may stand in a name: what is decoded and may stand in a name is the rune, with its own width. -/
theorem decA_name (T : Utabs) {s : ByteArray} (h : 0 < s.size) (hn : Nm.AllName s) (hr : Nm.nameRune (decA T s).1 = true) : Nm.AllName (s.extract (decA T s).2 s.size) := by
  have hf : Nm.nameRune (Utf8.decode s 0).1 = true := hn _ (by rw [Nm.runes_first h]; exact List.mem_cons_self)
  have hrest : Nm.AllName (s.extract (Utf8.decode s 0).2 s.size) := by
    intro r hm
    rw [Nm.runes_extract] at hm
    exact hn r (by rw [Nm.runes_first h]; exact List.mem_cons_of_mem _ hm)
  rcases Nm.decode_first h hf with ⟨h0, hd⟩ | ⟨h2, hd, hb⟩
  · have : (decA T s).2 = (Utf8.decode s 0).2 := by unfold decA; rw [if_pos h0, hd]
    rw [this]
    exact hrest
  · have hne : ¬ byte s 0 < 128 := by omega
    have : (decA T s).2 = 2 := by
      unfold decA at hr ⊢
      rw [if_neg hne] at hr ⊢
      have h1 := byte_lt s 1; have h3 := byte_lt s 2; have h4 := byte_lt s 3
      rw [Nm.nameRune_iff] at hr
      unfold decT at hr ⊢
      simp only at hr ⊢
      repeat' split
      all_goals rename_i hcs
      all_goals simp_all
      all_goals omega
    rw [this, ← hd]
    exact hrest
theorem first_two {s : ByteArray} (h : 0 < s.size) (hn : Nm.AllName s) : byte s 0 < 128 ∨ 2 ≤ s.size := by
  have hf : Nm.nameRune (Utf8.decode s 0).1 = true := hn _ (by rw [Nm.runes_first h]; exact List.mem_cons_self)
  rcases Nm.decode_first h hf with ⟨h0, _⟩ | ⟨h2, _⟩
  · exact Or.inl h0
  · exact Or.inr h2

set_option maxHeartbeats 1000000 in
set_option maxRecDepth 100000 in
theorem dec_calls (T : Utabs) (s : ByteArray) (w : World) (hT : TabsRaw T w) (h : 0 < s.size) (h2 : byte s 0 < 128 ∨ 2 ≤ s.size) (hs : s.size ≤ 9000000000000000000) :
    Calls Try.prog 93 #[.string s] w fun e w' => e = .returned (.tuple #[.int .i32 (decA T s).1, .int .i64 (decA T s).2]) ∧ Below w.heap.size w w' := by
  have hb0 := byte_at s 0 h
  have hne : s.toList.isEmpty = false := by
    rw [ByteArray.toList_eq]
    cases hc : s.data.toList with
    | nil =>
      have : s.data.toList.length = s.size := by simp
      rw [hc] at this
      simp at this
      omega
    | cons a b => rfl
  by_cases h0 : byte s 0 < 128
  · have hd : decA T s = (byte s 0, 1) := by unfold decA; rw [if_pos h0]
    have HD := Aside0.mk hd
    clear hd hT
    go_enter Try.func93, Try.ntmps93
    go_wp2
    all_goals
      go_ret2
      rw [HD.out]
      exact ⟨rfl, Below.refl _ _⟩
  · have hd : decA T s = decT T s := by unfold decA; rw [if_neg h0]
    have HS := slow_calls T s w hT (by omega) hs
    have HD := Aside0.mk hd
    clear hd hT
    go_enter Try.func93, Try.ntmps93
    go_wp2_with (go_at_call 95; refine HS.mono ?_; rintro e w1 ⟨rfl, hb⟩)
    all_goals
      go_ret2
      rw [HD.out]
      exact ⟨rfl, hb⟩

end Go.Proofs.Ytejaepohkcjoiaa.CmpWalk

/- name.Compare over tables of whatever content: the walk, by hand. -/
namespace Go.Proofs.Ytejaepohkcjoiaa.Cmp2
open Go.Proofs.Ytejaepohkcjoiaa.Nm (byte byte_lt byte_at)
open Go.RowKit Go.IntWalk Go.Proofs.YtejaepohkcjoiaaW.PrintWords Go.Proofs.YtejaepohkcjoiaaW.PrintMore Go.Proofs.Ytejaepohkcjoiaa.CmpWalk

/-- name.Compare, as the tables have it. -/
def cmpF (T : Utabs) : List Int → ByteArray → Int
  | [], b => if b.size = 0 then 0 else -1
  | x :: l, b => if b.size = 0 then 1 else if x < (decA T b).1 then -1 else if ((decA T b).1 : Int) < x then 1 else cmpF T l (b.extract (decA T b).2 b.size)

theorem empty_size {s : ByteArray} (h : s.size = 0) : s.toList.isEmpty = true := by
  rw [ByteArray.toList_eq]
  have : s.data.toList.length = s.size := by simp
  rw [h] at this
  rw [List.eq_nil_of_length_eq_zero this]
  rfl
theorem some_size {s : ByteArray} (h : ¬ s.size = 0) : s.toList.isEmpty = false := by
  rw [ByteArray.toList_eq]
  cases hc : s.data.toList with
  | nil =>
    have : s.data.toList.length = s.size := by simp
    rw [hc] at this
    simp at this
    omega
  | cons a b => rfl

theorem tabs_below {T : Utabs} {w w1 : World} (h : TabsRaw T w) (hb : Below w.heap.size w w1) : TabsRaw T w1 :=
  ⟨fun i hi => (hb.cell (World.block_lt_of_cell? w _ (h.first i hi))).trans (h.first i hi), fun i hi => (hb.cell (World.block_lt_of_cell? w _ (h.lo i hi))).trans (h.lo i hi), fun i hi => (hb.cell (World.block_lt_of_cell? w _ (h.hi i hi))).trans (h.hi i hi)⟩

/-- What holds at the loop's head. -/
def Head (T : Utabs) (w : World) (a b : ByteArray) (v1 : Value) (wr : World) : Prop :=
  ∃ (pos : Nat) (c : ByteArray), v1 = .string c ∧ wr.heap[w.heap.size]? = some (.stringIter a pos) ∧ Below w.heap.size w wr ∧ c.size ≤ b.size ∧ Nm.AllName c ∧ (∀ r ∈ Nm.from_ a pos, Nm.nameRune r = true) ∧ cmpF T (Nm.runes a) b = cmpF T (Nm.from_ a pos) c

set_option maxHeartbeats 2000000 in
set_option maxRecDepth 100000 in
theorem cmp_calls (T : Utabs) (a b : ByteArray) (w : World) (hT : TabsRaw T w) (ha : Nm.AllName a) (hb : Nm.AllName b) (hsb : b.size ≤ 9000000000000000000) :
    Calls Try.prog 88 #[.string a, .string b] w fun e w' => e = .returned (.int .i64 (cmpF T (Nm.runes a) b)) ∧ Below w.heap.size w w' := by
  have HT := Aside0.mk hT
  have HA := Aside0.mk ha
  have HNB := Aside0.mk hb
  have HSB := Aside0.mk hsb
  clear hT ha hb hsb
  go_enter Try.func88, Try.ntmps88
  go_wp2
  go_loopw [1] (fun v1 wr => Head T w a b v1 wr) (fun _ wr => a.size - wr.iterPos w.heap.size)
  case atStart => exact ⟨0, b, rfl, World.iter_heap w a 0, (Below.refl _ _).alloc (Nat.le_refl _) _, Nat.le_refl _, HNB.out, HA.out, by rw [Nm.from_zero]⟩
  case round =>
    obtain ⟨pos, c, rfl, hit, hB, hsz, hn, hfr, hc⟩ := hrel
    have hpos0 := iterPos_of hit
    have HB := Aside0.mk hB
    have HC := Aside0.mk hc
    have HN := Aside0.mk hn
    have HFR := Aside0.mk hfr
    clear hfr
    have HIT := Aside0.mk hit
    clear hc hn hB
    by_cases hlt : pos < a.size
    · have hnext := fun ty => Lib.run_next_any_at (P := Try.prog) wr w.heap.size a pos ty hit hlt
      have hle := decode_le a pos
      have hposd := Nm.decode_pos a pos
      have hrun := Nm.from_step a pos hlt
      clear hit hpos0
      have hdn : Nm.nameRune ((Utf8.decode a pos).1 : Int) = true := by
        have hall : ∀ r ∈ Nm.from_ a pos, Nm.nameRune r = true := HFR.out
        exact hall _ (by rw [hrun]; exact List.mem_cons_self)
      have hrest : ∀ r ∈ Nm.from_ a (pos + (Utf8.decode a pos).2), Nm.nameRune r = true := by
        intro r hr
        exact HFR.out r (by rw [hrun]; exact List.mem_cons_of_mem _ hr)
      have HREST := Aside0.mk hrest
      clear hrest
      generalize (Utf8.decode a pos).1 = x at *
      generalize (Utf8.decode a pos).2 = d at *
      have hbelow : ∀ p, Below w.heap.size w (wr.iterAt w.heap.size a p) := fun p => Lib.below_iterAt HB.out (Nat.le_refl _) a p
      have HBW := Aside0.mk hbelow
      have hit2 := Lib.iterAt_heap wr w.heap.size a pos (pos + d) HIT.out
      have HIT2 := Aside0.mk hit2
      clear hbelow hit2
      by_cases hz : c.size = 0
      · have hz0 := empty_size hz
        have hfin : cmpF T (Nm.from_ a pos) c = 1 := by rw [hrun, cmpF, if_pos hz]
        have HF := Aside0.mk hfin
        clear hfin hrun hz
        go_wp2
        go_ret
        rw [HC.out, HF.out]
        exact ⟨rfl, HBW.out _⟩
      · have hz0 := some_size hz
        have hcp : 0 < c.size := by omega
        have h2 := first_two hcp HN.out
        have hbd := decA_bounds T c hcp h2
        have hstep := decA_name T hcp HN.out
        have HDEC := fun W (hW : TabsRaw T W) => dec_calls T c W hW hcp h2 (Nat.le_trans hsz HSB.out)
        have hfin : cmpF T (Nm.from_ a pos) c = if (x : Int) < (decA T c).1 then -1 else if ((decA T c).1 : Int) < (x : Int) then 1 else cmpF T (Nm.from_ a (pos + d)) (c.extract (decA T c).2 c.size) := by rw [hrun, cmpF, if_neg hz]
        have hext : (c.extract (decA T c).2 c.size).size ≤ b.size := by rw [ByteArray.size_extract]; omega
        have HF := Aside0.mk hfin
        have HST := Aside0.mk hstep
        have HEX := Aside0.mk hext
        clear hfin hrun hz h2 hstep hext
        generalize hy : (decA T c).1 = y at *
        generalize hq : (decA T c).2 = q at *
        clear hy hq
        by_cases hlt1 : (x : Int) < (y : Int)
        · have hl1 : decide (x < y) = true := decide_eq_true (by omega)
          go_wp2_with (go_at_call 93; refine (HDEC _ (tabs_below HT.out (HBW.out _))).mono ?_; rintro e w1 ⟨rfl, hb1⟩)
          go_ret
          rw [HC.out, HF.out, if_pos hlt1]
          exact ⟨rfl, (HBW.out _).trans (hb1.mono (HBW.out _).size)⟩
        · have hl1 : decide (x < y) = false := decide_eq_false (by omega)
          by_cases hlt2 : (y : Int) < (x : Int)
          · have hl2 : decide (y < x) = true := decide_eq_true (by omega)
            go_wp2_with (go_at_call 93; refine (HDEC _ (tabs_below HT.out (HBW.out _))).mono ?_; rintro e w1 ⟨rfl, hb1⟩)
            go_ret
            rw [HC.out, HF.out, if_neg (by omega), if_pos (by omega)]
            exact ⟨rfl, (HBW.out _).trans (hb1.mono (HBW.out _).size)⟩
          · have hl2 : decide (y < x) = false := decide_eq_false (by omega)
            have hxy : x = y := by omega
            have HXY := Aside0.mk hxy
            clear hxy
            go_wp2_with (go_at_call 93; refine (HDEC _ (tabs_below HT.out (HBW.out _))).mono ?_; rintro e w1 ⟨rfl, hb1⟩)
            have hkeep : w1.heap[w.heap.size]? = some (.stringIter a (pos + d)) := (hb1.block _ (Array.getElem?_eq_some_iff.1 HIT2.out).1).trans HIT2.out
            go_roundw
            case rel =>
              refine ⟨pos + d, c.extract q c.size, rfl, hkeep, (HBW.out _).trans (hb1.mono (HBW.out _).size), HEX.out, HST.out (by rw [← HXY.out]; exact hdn), HREST.out, ?_⟩
              rw [HC.out, HF.out, if_neg (by omega), if_neg (by omega)]
            case measure => rw [iterPos_of hkeep, iterPos_of HIT.out]; omega
    · have hnext := fun ty => Lib.run_next_end_at (P := Try.prog) wr w.heap.size a pos ty hit hlt
      have hend := Nm.from_end a pos (by omega)
      by_cases hz : c.size = 0
      · have hz0 := empty_size hz
        have hfin : cmpF T (Nm.from_ a pos) c = 0 := by rw [hend, cmpF, if_pos hz]
        have HF := Aside0.mk hfin
        clear hfin hend hz hit hpos0
        go_wp2
        go_ret
        rw [HC.out, HF.out]
        exact ⟨rfl, HB.out⟩
      · have hz0 := some_size hz
        have hfin : cmpF T (Nm.from_ a pos) c = -1 := by rw [hend, cmpF, if_neg hz]
        have HF := Aside0.mk hfin
        clear hfin hend hz hit hpos0
        go_wp2
        go_ret
        rw [HC.out, HF.out]
        exact ⟨rfl, HB.out⟩
end Go.Proofs.Ytejaepohkcjoiaa.Cmp2

/- The tables of unicode/utf8, of whatever content, off the shape of the world in which a row begins. -/
namespace Go.Proofs.Ytejaepohkcjoiaa.Tabs
open Go.RowKit Go.Proofs.Ytejaepohkcjoiaa.CmpWalk

set_option maxRecDepth 100000 in
theorem cells_u8 {w : World} {g t n : Nat} (h : w.ShapedOpen Try.prog) (hg : g < Try.prog.globals.size)
    (h0 : ((begin Try.prog (fun _ _ => 0) default).world.heap[g]?).bind Obj.row? = some (Array.replicate n (.int .u8 0), t)) (hb : Try.prog.buildable t = true)
    (hc : Try.prog.cellTypes Try.prog.depth t = some (List.replicate n 5)) (i : Nat) (hi : i < n) : ∃ m : Nat, m < 256 ∧ w.cell? ⟨g, i, none⟩ = some (.int .u8 m) := by
  obtain ⟨cs, hh, hs, hr⟩ := h.1 g _ t hg h0
  obtain ⟨ts, hts, _, hall⟩ := hr hb
  rw [hc] at hts
  cases hts
  have h1 : i < cs.size := by rw [hs]; simpa using hi
  obtain ⟨u, hu', hok⟩ := hall i cs[i] (by simp [h1])
  have : u = 5 := by
    have := List.mem_of_getElem? hu'
    exact List.eq_of_mem_replicate this
  subst this
  have hcell : w.cell? ⟨g, i, none⟩ = some cs[i] := by simp [World.cell?, hh, h1]
  rw [hcell]
  unfold Cell.ok at hok
  rw [Try.underlying5] at hok
  cases hv : cs[i] <;> rw [hv] at hok <;> simp at hok
  case int k' n =>
    obtain ⟨rfl, hn⟩ := hok
    have h2 : 0 ≤ n ∧ n < 256 := by
      have hn' : (0 : Int) ≤ n ∧ n ≤ 255 := hn
      omega
    refine ⟨n.toNat, by omega, ?_⟩
    congr 2
    omega

set_option maxRecDepth 100000 in
theorem tabs_of {w : World} (h : w.ShapedOpen Try.prog) : ∃ T : Utabs, TabsRaw T w := by
  have hf := cells_u8 (g := 0) (t := 133) (n := 256) h (by decide +kernel) (by kernel_rfl) (by kernel_rfl) (by kernel_rfl)
  have ha := cells_u8 (g := 1) (t := 136) (n := 32) h (by decide +kernel) (by kernel_rfl) (by kernel_rfl) (by kernel_rfl)
  refine ⟨⟨fun i => if h : i < 256 then (hf i h).choose else 0, fun i => if h : i * 2 < 32 then (ha (i * 2) h).choose else 0, fun i => if h : i * 2 + 1 < 32 then (ha (i * 2 + 1) h).choose else 0, ?_, ?_, ?_⟩, ?_, ?_, ?_⟩
  · intro i
    split
    · rename_i hlt; exact (hf i hlt).choose_spec.1
    · omega
  · intro i
    split
    · rename_i hlt; exact (ha _ hlt).choose_spec.1
    · omega
  · intro i
    split
    · rename_i hlt; exact (ha _ hlt).choose_spec.1
    · omega
  · intro i hi
    simp only [hi, dif_pos]
    exact (hf i hi).choose_spec.2
  · intro i hi
    have h2 : i * 2 < 32 := by omega
    simp only [h2, dif_pos]
    exact (ha _ h2).choose_spec.2
  · intro i hi
    have h2 : i * 2 + 1 < 32 := by omega
    simp only [h2, dif_pos]
    exact (ha _ h2).choose_spec.2

abbrev tabOf (T : Utabs) : Tab where
  cmp := fun a b => Cmp2.cmpF T (Nm.runes a) b
  At := TabsRaw T
  below := fun h hb => Cmp2.tabs_below h hb
  calls := fun a b w hT ha hb _ hsb => Cmp2.cmp_calls T a b w hT ha hb hsb
end Go.Proofs.Ytejaepohkcjoiaa.Tabs

/- law 07: CodecLettersBack: the walk, by hand. -/
namespace Go.Proofs.Ytejaepohkcjoiaa.CdLaw
open Go.RowKit Go.IntWalk Go.Proofs.Ytejaepohkcjoiaa.G Go.Proofs.YtejaepohkcjoiaaW.PrintWords Go.Proofs.YtejaepohkcjoiaaW.PrintLast Go.Proofs.YtejaepohkcjoiaaW.PrintMore Go.Proofs.Ytejaepohkcjoiaa.CdForm Go.Proofs.Ytejaepohkcjoiaa.Tabs Go.Proofs.Ytejaepohkcjoiaa.CdMay

theorem same_from (l : List ByteArray) (hl : l.length ≤ 4000) : ∀ (n i k : Nat), i + n = l.length → n < k → odysseylaw07_same.l0 k l l (i : Int) = some true
  | 0, i, k, h, hk => by
    obtain ⟨k, rfl⟩ : ∃ m, k = m + 1 := ⟨k - 1, by omega⟩
    rw [odysseylaw07_same.l0, if_neg (by omega)]
  | n + 1, i, k, h, hk => by
    obtain ⟨k, rfl⟩ : ∃ m, k = m + 1 := ⟨k - 1, by omega⟩
    rw [odysseylaw07_same.l0, if_pos (by omega), if_pos (by omega), if_pos (by omega), if_pos rfl, wrap64_in _ (by omega)]
    exact same_from l hl n (i + 1) k (by omega) (by omega)
theorem same_self (l : List ByteArray) (hl : l.length ≤ 4000) : odysseylaw07_same.f 4001 l l = some true := by
  rw [odysseylaw07_same.f, if_pos rfl]
  exact same_from l hl l.length 0 4001 (by omega) (by omega)
theorem sameL_self (d : CdLetter.D) (hl : d.keys.length ≤ 4000) : odysseylaw07_sameLetter.f 4001 d.kind d.part d.inst d.step d.sort d.keys d.kind d.part d.inst d.step d.sort d.keys = some true := by
  simp [odysseylaw07_sameLetter.f, same_self _ hl]
theorem sameE_self (d : CdEvent.D) (hl : d.keys.length ≤ 4000) : odysseylaw07_sameEvent.f 4001 d.kind d.inst d.step d.keys d.kind d.inst d.step d.keys = some true := by
  simp [odysseylaw07_sameEvent.f, same_self _ hl]
theorem en_len {n : Int} (h : 0 ≤ n ∧ n ≤ 1125899906842624) : (en n).length ≤ 8 := Pk.enc_len8 (by omega)
theorem whole_len {l : List ByteArray} (h : l.length ≤ 4000 ∧ ∀ t ∈ l, t.size ≤ 2000) : (Pk.whole l).length ≤ 8040000 := by
  have h1 := items_len l h.2
  have h2 := Pk.enc_len8 (n := l.length) (by omega)
  rw [Pk.whole, List.length_append]
  omega
theorem formL_len {d : CdLetter.D} (h : CdLetter.Fits d) : (CdLetter.form d).length ≤ 9000000 := by
  have h1 := en_len h.kind
  have h2 := en_len h.part
  have h3 := en_len h.inst
  have h4 := en_len h.step
  have h5 := en_len h.sort
  have h6 := whole_len h.keys
  simp only [CdLetter.form, List.length_append]
  split
  · simp only [List.length_nil]; omega
  · simp only [List.length_append]
    split
    · simp only [List.length_append]; omega
    · simp only [List.length_nil]; omega
theorem formE_len {d : CdEvent.D} (h : CdEvent.Fits d) : (CdEvent.form d).length ≤ 9000000 := by
  have h1 := en_len h.kind
  have h3 := en_len h.inst
  have h4 := en_len h.step
  have h6 := whole_len h.keys
  simp only [CdEvent.form, List.length_append]
  split
  · simp only [List.length_nil]; omega
  · simp only [List.length_append]
    split
    · omega
    · simp only [List.length_nil]; omega
theorem cut_last (s : ByteArray) (h : s.data.toList ≠ []) : s.data.toList = (s.extract 0 (s.size - 1)).data.toList ++ [s.data.toList.getLast h] := by
  have hl : s.data.toList.length = s.size := by simp
  rw [Pk.extract_list, List.drop_zero, Nat.sub_zero, ← hl, ← List.dropLast_eq_take]
  exact (List.dropLast_concat_getLast h).symm
theorem list_sizes {l : List ByteArray} (h : ∀ x ∈ l, x.size ≤ 140737488351232) : ∀ x ∈ l, x.size ≤ 9000000000000000000 := fun x hx => by have := h x hx; omega
variable [Tab]

set_option linter.unusedSimpArgs false in
set_option linter.unusedVariables false in
set_option maxHeartbeats 4000000 in
set_option maxRecDepth 100000 in
theorem back_no (A : Option Addr) (c : Nat) (l : CdLetter.D) (more : ByteArray) (w : World) (hc : l.keys.length ≤ c) (hC : Kd.C Kd.string w A l.keys.length l.keys) (hB : ∀ x ∈ l.keys, x.size ≤ 9000000000000000000) (hm : mayL l = false) (hT : Tab.At w) :
    Calls Try.prog 6 #[.agg (CdLetter.cells l (.slice A l.keys.length c)), .string more] w fun e w' => e = .returned (.bool true) ∧ Below w.heap.size w w' := by
  have HS := Aside0.mk (And.intro hC (And.intro hc (And.intro hB (And.intro hm hT))))
  clear hC hc hB hm hT
  obtain ⟨kind, part, inst, step, sort, keys⟩ := l
  go_enter Try.func6, Try.ntmps6
  simp only [CdLetter.cells]
  go_wp2_with fail
  refine (Letter_calls _ A c ⟨kind, part, inst, step, sort, keys⟩ (Kd.C_below HS.out.1 (below_1 w _)) HS.out.2.1 HS.out.2.2.1 (Tab.below HS.out.2.2.2.2 (below_1 w _))).mono ?_
  rw [HS.out.2.2.2.1]
  rintro e w1 ⟨rfl, hb⟩
  have HB := Aside0.mk (And.intro (below_on (below_1 w _) hb) (Tab.below (Tab.below HS.out.2.2.2.2 (below_1 w _)) hb))
  clear hb
  simp only [wres, Bool.false_eq_true, if_false]
  go_wp2_with fail
  refine (live_calls _ HB.out.2).mono ?_
  rintro e w2 ⟨rfl, hb⟩
  have HB2 := Aside0.mk (below_on HB.out.1 hb)
  clear hb
  go_wp2
  go_ret
  exact ⟨by simp, HB2.out⟩

set_option linter.unusedSimpArgs false in
set_option linter.unusedVariables false in
set_option maxHeartbeats 4000000 in
set_option maxRecDepth 100000 in
theorem back_yes (A : Option Addr) (c : Nat) (l : CdLetter.D) (more : ByteArray) (w : World) (hc : l.keys.length ≤ c) (hC : Kd.C Kd.string w A l.keys.length l.keys) (hB : ∀ x ∈ l.keys, x.size ≤ 9000000000000000000) (hmo : more.size ≤ 140737488351232) (hm : mayL l = true) (hT : Tab.At w) :
    Calls Try.prog 6 #[.agg (CdLetter.cells l (.slice A l.keys.length c)), .string more] w fun e w' => e = .returned (.bool true) ∧ Below w.heap.size w w' := by
  have HS := Aside0.mk (And.intro hC (And.intro hc (And.intro hB (And.intro hm hT))))
  have HL := Aside0.mk (sameL_self l (mayL_norm hm).1.keys.1)
  obtain ⟨s, hs⟩ : ∃ s : ByteArray, s = ⟨((⟨#[76]⟩ : ByteArray).data.toList ++ CdLetter.form l).toArray⟩ := ⟨_, rfl⟩
  have hsl : s.data.toList = 76 :: CdLetter.form l := by subst hs; rfl
  have HRF := Aside0.mk (enc_l hm hsl)
  have hsz : s.size ≤ 10000001 := by have := size_of hsl; have := formL_len (mayL_norm hm).1; omega
  clear hC hc hB hm hT
  obtain ⟨kind, part, inst, step, sort, keys⟩ := l
  go_enter Try.func6, Try.ntmps6
  simp only [CdLetter.cells]
  go_wp2_with fail
  refine (Letter_calls _ A c ⟨kind, part, inst, step, sort, keys⟩ (Kd.C_below HS.out.1 (below_1 w _)) HS.out.2.1 HS.out.2.2.1 (Tab.below HS.out.2.2.2.2 (below_1 w _))).mono ?_
  rw [HS.out.2.2.2.1]
  rintro e w1 ⟨rfl, hb⟩
  have HB := Aside0.mk (And.intro (below_on (below_1 w _) hb) (Tab.below (Tab.below HS.out.2.2.2.2 (below_1 w _)) hb))
  have HR := Aside0.mk (row_below hb (row_1' w _))
  clear hb
  simp only [wres, if_true, ← hs]
  clear hs
  go_wp2_with fail
  refine (ReadLetter_calls _ s (by omega) HB.out.2).mono ?_
  rw [HRF.out]
  rintro e w2 ⟨v, rfl, ⟨sv, rfl, hk⟩, hb⟩
  obtain ⟨A2, c2, rfl, hc2, hC2⟩ := Kd.R_reads hk
  have HB2 := Aside0.mk (And.intro (below_on HB.out.1 hb) (Tab.below HB.out.2 hb))
  have HR2 := Aside0.mk (row_below hb HR.out)
  have HC2 := Aside0.mk (And.intro hc2 hC2)
  have hs0_ : (w2.alloc (.cells #[.int .i64 kind, .int .i64 part, .int .i64 inst, .int .i64 step, .int .i64 sort, .slice A2 keys.length c2] 24)).cell? ⟨w.heap.size, 0, none⟩ = some (.int .i64 kind) := row_cell (row_below (below_1 w2 _) HR2.out) rfl
  have hs1_ : (w2.alloc (.cells #[.int .i64 kind, .int .i64 part, .int .i64 inst, .int .i64 step, .int .i64 sort, .slice A2 keys.length c2] 24)).cell? ⟨w.heap.size, 1, none⟩ = some (.int .i64 part) := row_cell (row_below (below_1 w2 _) HR2.out) rfl
  have hs2_ : (w2.alloc (.cells #[.int .i64 kind, .int .i64 part, .int .i64 inst, .int .i64 step, .int .i64 sort, .slice A2 keys.length c2] 24)).cell? ⟨w.heap.size, 2, none⟩ = some (.int .i64 inst) := row_cell (row_below (below_1 w2 _) HR2.out) rfl
  have hs3_ : (w2.alloc (.cells #[.int .i64 kind, .int .i64 part, .int .i64 inst, .int .i64 step, .int .i64 sort, .slice A2 keys.length c2] 24)).cell? ⟨w.heap.size, 3, none⟩ = some (.int .i64 step) := row_cell (row_below (below_1 w2 _) HR2.out) rfl
  have hs4_ : (w2.alloc (.cells #[.int .i64 kind, .int .i64 part, .int .i64 inst, .int .i64 step, .int .i64 sort, .slice A2 keys.length c2] 24)).cell? ⟨w.heap.size, 4, none⟩ = some (.int .i64 sort) := row_cell (row_below (below_1 w2 _) HR2.out) rfl
  have hs5_ : (w2.alloc (.cells #[.int .i64 kind, .int .i64 part, .int .i64 inst, .int .i64 step, .int .i64 sort, .slice A2 keys.length c2] 24)).cell? ⟨w.heap.size, 5, none⟩ = some (.slice A keys.length c) := row_cell (row_below (below_1 w2 _) HR2.out) rfl
  clear hb hk hc2 hC2
  simp only [CdLetter.cells]
  go_wp2_with fail
  have hba := below_1 w2 (.cells #[.int .i64 kind, .int .i64 part, .int .i64 inst, .int .i64 step, .int .i64 sort, .slice A2 keys.length c2] 24)
  refine (odysseylaw07_sameLetter.calls 4001 _ _ _ _ _ A c keys _ _ _ _ _ A2 c2 keys _ _ (Kd.C_below HS.out.1 (below_on HB2.out.1 hba)) HS.out.2.1 (Kd.C_below HC2.out.2 hba) HC2.out.1 HL.out).mono ?_
  rintro e w3 ⟨rfl, hb⟩
  have HB3 := Aside0.mk (And.intro (below_on (below_on HB2.out.1 hba) hb) (Tab.below (Tab.below HB2.out.2 hba) hb))
  clear hba hb hs0_ hs1_ hs2_ hs3_ hs4_ hs5_
  go_wp2_with fail
  refine (what_calls _ s (by omega) HB3.out.2).mono ?_
  rw [HRF.out]
  rintro e w4 ⟨rfl, hb⟩
  have HB4 := Aside0.mk (And.intro (below_on HB3.out.1 hb) (Tab.below HB3.out.2 hb))
  clear hb
  simp only [whatF]
  have hsp : 0 < s.size := by have := size_of hsl; omega
  have hse : s.toList.isEmpty = false := by rw [empty_iff]; simpa using (show ¬ s.size = 0 by omega)
  have HSL := Aside0.mk hsl
  have hw1 : wrap64 ((s.size : Int) - 1) = (s.size : Int) - 1 := wrap64_in _ (by omega)
  have hw2 : (0 : Int) ≤ (s.size : Int) - 1 := by omega
  have hw3 : (s.size : Int) - 1 ≤ (s.size : Int) := by omega
  have HT : Aside0 (asLetter (readF (s.extract 0 (s.size - 1))) = none) := ⟨cut_l HRF.out (b := s.data.toList.getLast (by rw [hsl]; simp)) (cut_last s (by rw [hsl]; simp))⟩
  clear hsl
  by_cases hmz : more.size = 0
  · have hme : more.toList.isEmpty = true := by rw [empty_iff]; simpa using hmz
    have HM0 := Aside0.mk hmz
    clear hmz
    go_wp2_with fail
    refine (ReadLetter_calls _ _ (by rw [ByteArray.size_extract]; omega) HB4.out.2).mono ?_
    rw [HT.out]
    rintro e w5 ⟨v, rfl, hv, hb⟩
    obtain rfl := hv
    have HB5 := Aside0.mk (And.intro (below_on HB4.out.1 hb) (Tab.below HB4.out.2 hb))
    clear hb
    go_wp2_with fail
    refine (live_calls _ HB5.out.2).mono ?_
    rintro e w6 ⟨rfl, hb⟩
    have HB6 := Aside0.mk (below_on HB5.out.1 hb)
    clear hb
    go_wp2
    go_ret
    exact ⟨by simp, HB6.out⟩
  · have hme : more.toList.isEmpty = false := by rw [empty_iff]; simpa using hmz
    have HM0 := Aside0.mk hmz
    clear hmz
    go_wp2_with fail
    have HN : Aside0 (readF (s ++ more) = none) := ⟨more_l HS.out.2.2.2.1 (more := more.data.toList) (by rw [ByteArray.data_append, Array.toList_append, HSL.out]; rfl) (by intro h; have := congrArg List.length h; simp at this; exact HM0.out (by rw [this]; rfl))⟩
    refine (ReadLetter_calls _ (s ++ more) (by rw [ByteArray.size_append]; omega) HB4.out.2).mono ?_
    rw [HN.out]
    rintro e w5 ⟨v, rfl, hv, hb⟩
    obtain rfl := hv
    have HB5 := Aside0.mk (And.intro (below_on HB4.out.1 hb) (Tab.below HB4.out.2 hb))
    clear hb
    go_wp2_with fail
    refine (ReadLetter_calls _ _ (by rw [ByteArray.size_extract]; omega) HB5.out.2).mono ?_
    rw [HT.out]
    rintro e w6 ⟨v, rfl, hv, hb⟩
    obtain rfl := hv
    have HB6 := Aside0.mk (And.intro (below_on HB5.out.1 hb) (Tab.below HB5.out.2 hb))
    clear hb
    go_wp2_with fail
    refine (live_calls _ HB6.out.2).mono ?_
    rintro e w7 ⟨rfl, hb⟩
    have HB7 := Aside0.mk (below_on HB6.out.1 hb)
    clear hb
    go_wp2
    go_ret
    exact ⟨by simp, HB7.out⟩

end Go.Proofs.Ytejaepohkcjoiaa.CdLaw
namespace Go.Proofs.Ytejaepohkcjoiaa.CdLaw
open Go.RowKit Go.Proofs.Ytejaepohkcjoiaa.Tabs Go.Proofs.Ytejaepohkcjoiaa.CdMay
theorem walk6 (cs0 : Array Value) (l : CdLetter.D) (more : ByteArray) (w : World) (hK : Opening.LetterK w l cs0.toList) (hB : Opening.LetterB l) (hmo : more.size ≤ 140737488351232) (hsh : w.ShapedOpen Try.prog) :
    Calls Try.prog 6 #[.agg cs0, .string more] w fun e w' => e = .returned (.bool true) ∧ Below w.heap.size w w' := by
  obtain ⟨T, hT⟩ := tabs_of hsh
  let _i : Tab := tabOf T
  obtain ⟨A, c, hcs, hc, hC⟩ := hK
  obtain rfl : cs0 = CdLetter.cells l (.slice A l.keys.length c) := Array.ext' hcs
  cases hm : mayL l
  · exact back_no A c l more w hc hC (list_sizes hB.2.2.2.2.2) hm hT
  · exact back_yes A c l more w hc hC (list_sizes hB.2.2.2.2.2) hmo hm hT
end Go.Proofs.Ytejaepohkcjoiaa.CdLaw

/- law 07: CodecNotesBack: the walk (written by wip/gen/mkl8.py). -/
namespace Go.Proofs.Ytejaepohkcjoiaa.CdLaw
open Go.RowKit Go.IntWalk Go.Proofs.Ytejaepohkcjoiaa.G Go.Proofs.YtejaepohkcjoiaaW.PrintWords Go.Proofs.YtejaepohkcjoiaaW.PrintLast Go.Proofs.YtejaepohkcjoiaaW.PrintMore Go.Proofs.Ytejaepohkcjoiaa.CdForm Go.Proofs.Ytejaepohkcjoiaa.Tabs Go.Proofs.Ytejaepohkcjoiaa.CdMay
attribute [local go_sem high] eqA38
theorem formN_len {d : CdNote.D} (h : CdNote.Fits d) : (CdNote.form d).length ≤ 9000000 := by
  have h1 := en_len h.kind
  have h2 := en_len h.inst
  have h3 := en_len h.step
  have h4 := en_len h.state
  have h5 := en_len h.part
  have h6 := en_len h.cause
  have h7 := en_len h.version
  have i1 := Pk.item_len (Nat.not_lt.1 h.key)
  have i2 := Pk.item_len (Nat.not_lt.1 h.name)
  have i3 := Pk.item_len (Nat.not_lt.1 h.text)
  simp only [CdNote.form, List.length_append]
  repeat' split
  all_goals (try simp only [List.length_append, List.length_nil])
  all_goals omega
theorem zero_more {s : ByteArray} {b : UInt8} {L : List UInt8} (h : s.data.toList = b :: L) : (s ++ (⟨#[0]⟩ : ByteArray)).data.toList = b :: (L ++ [0]) := by
  rw [ByteArray.data_append, Array.toList_append, h]
  rfl
theorem zero_size (s : ByteArray) : (s ++ (⟨#[0]⟩ : ByteArray)).size = s.size + 1 := by
  rw [ByteArray.size_append]
  rfl
theorem alloc_fst (w : World) (a b : Obj) : ((w.alloc a).alloc b).heap[w.heap.size]? = some a := row_below (below_1 (w.alloc a) b) (row_1' w a)
variable [Tab]

set_option linter.unusedSimpArgs false in
set_option linter.unusedVariables false in
set_option maxHeartbeats 4000000 in
set_option maxRecDepth 100000 in
theorem back_00 (A : Option Addr) (c : Nat) (v : CdEvent.D) (n : CdNote.D) (w : World) (hc : v.keys.length ≤ c) (hC : Kd.C Kd.string w A v.keys.length v.keys) (hB : ∀ x ∈ v.keys, x.size ≤ 9000000000000000000) (hs : n.key.size ≤ 9000000000000000000 ∧ n.name.size ≤ 9000000000000000000) (hv : mayE v = false) (hn : mayN n = false) (hT : Tab.At w) :
    Calls Try.prog 8 #[.agg (CdEvent.cells v (.slice A v.keys.length c)), .agg (CdNote.cells n)] w fun e w' => e = .returned (.bool true) ∧ Below w.heap.size w w' := by
  have HS := Aside0.mk (And.intro hC (And.intro hc (And.intro hB (And.intro hv hT))))
  have HN := Aside0.mk (And.intro hs hn)
  clear hC hc hB hs hv hn hT
  obtain ⟨vkind, vinst, vstep, vkeys⟩ := v
  obtain ⟨kind, inst, step, state, part, cause, key, name, version, text⟩ := n
  go_enter Try.func8, Try.ntmps8
  simp only [CdEvent.cells, CdNote.cells]
  go_wp2_with fail
  have hb2 := below_two w (.cells #[.int .i64 vkind, .int .i64 vinst, .int .i64 vstep, .slice A vkeys.length c] 33) (.cells #[.int .i64 kind, .int .i64 inst, .int .i64 step, .int .i64 state, .int .i64 part, .int .i64 cause, .string key, .string name, .int .i64 version, .string text] 38)
  refine (Event_calls _ A c ⟨vkind, vinst, vstep, vkeys⟩ (Kd.C_below HS.out.1 hb2) HS.out.2.1 HS.out.2.2.1 (Tab.below HS.out.2.2.2.2 hb2)).mono ?_
  rw [HS.out.2.2.2.1]
  rintro e w1 ⟨rfl, hb⟩
  have HB1 := Aside0.mk (And.intro (below_on hb2 hb) (Tab.below (Tab.below HS.out.2.2.2.2 hb2) hb))
  have HRV := Aside0.mk (row_below hb (alloc_fst w _ _))
  have HRN := Aside0.mk (row_below hb (alloc2 w _ _))
  clear hb hb2
  simp only [wres, Bool.false_eq_true, if_false]
  have ht0_ : w1.cell? ⟨w.heap.size + 1, 0, none⟩ = some (.int .i64 kind) := row_cell HRN.out rfl
  have ht1_ : w1.cell? ⟨w.heap.size + 1, 1, none⟩ = some (.int .i64 inst) := row_cell HRN.out rfl
  have ht2_ : w1.cell? ⟨w.heap.size + 1, 2, none⟩ = some (.int .i64 step) := row_cell HRN.out rfl
  have ht3_ : w1.cell? ⟨w.heap.size + 1, 3, none⟩ = some (.int .i64 state) := row_cell HRN.out rfl
  have ht4_ : w1.cell? ⟨w.heap.size + 1, 4, none⟩ = some (.int .i64 part) := row_cell HRN.out rfl
  have ht5_ : w1.cell? ⟨w.heap.size + 1, 5, none⟩ = some (.int .i64 cause) := row_cell HRN.out rfl
  have ht6_ : w1.cell? ⟨w.heap.size + 1, 6, none⟩ = some (.string key) := row_cell HRN.out rfl
  have ht7_ : w1.cell? ⟨w.heap.size + 1, 7, none⟩ = some (.string name) := row_cell HRN.out rfl
  have ht8_ : w1.cell? ⟨w.heap.size + 1, 8, none⟩ = some (.int .i64 version) := row_cell HRN.out rfl
  have ht9_ : w1.cell? ⟨w.heap.size + 1, 9, none⟩ = some (.string text) := row_cell HRN.out rfl
  go_wp2_with fail
  refine (Note_calls _ ⟨kind, inst, step, state, part, cause, key, name, version, text⟩ HN.out.1).mono ?_
  rw [HN.out.2]
  rintro e w2 ⟨rfl, hb⟩
  have HB2 := Aside0.mk (And.intro (below_on HB1.out.1 hb) (Tab.below HB1.out.2 hb))
  replace HRN := Aside0.mk (row_below hb HRN.out)
  clear hb ht0_ ht1_ ht2_ ht3_ ht4_ ht5_ ht6_ ht7_ ht8_ ht9_
  simp only [wres, Bool.false_eq_true, if_false]
  go_wp2_with fail
  refine (live_calls _ HB2.out.2).mono ?_
  rintro e w3 ⟨rfl, hb⟩
  have HB3 := Aside0.mk (below_on HB2.out.1 hb)
  clear hb
  go_wp2
  go_ret
  exact ⟨by simp, HB3.out⟩

set_option linter.unusedSimpArgs false in
set_option linter.unusedVariables false in
set_option maxHeartbeats 4000000 in
set_option maxRecDepth 100000 in
theorem back_01 (A : Option Addr) (c : Nat) (v : CdEvent.D) (n : CdNote.D) (w : World) (hc : v.keys.length ≤ c) (hC : Kd.C Kd.string w A v.keys.length v.keys) (hB : ∀ x ∈ v.keys, x.size ≤ 9000000000000000000) (hs : n.key.size ≤ 9000000000000000000 ∧ n.name.size ≤ 9000000000000000000) (hv : mayE v = false) (hn : mayN n = true) (hT : Tab.At w) :
    Calls Try.prog 8 #[.agg (CdEvent.cells v (.slice A v.keys.length c)), .agg (CdNote.cells n)] w fun e w' => e = .returned (.bool true) ∧ Below w.heap.size w w' := by
  have HS := Aside0.mk (And.intro hC (And.intro hc (And.intro hB (And.intro hv hT))))
  have HN := Aside0.mk (And.intro hs hn)
  obtain ⟨u, eu⟩ : ∃ u : ByteArray, u = ⟨((⟨#[78]⟩ : ByteArray).data.toList ++ CdNote.form n).toArray⟩ := ⟨_, rfl⟩
  have hul : u.data.toList = 78 :: CdNote.form n := by subst eu; rfl
  have HUF := Aside0.mk (enc_n hn hul)
  have HUM := Aside0.mk (more_n hn (zero_more hul) (by simp))
  have huz : u.size ≤ 10000001 := by have := size_of hul; have := formN_len (mayN_norm hn).1; omega
  clear hul
  clear hC hc hB hs hv hn hT
  obtain ⟨vkind, vinst, vstep, vkeys⟩ := v
  obtain ⟨kind, inst, step, state, part, cause, key, name, version, text⟩ := n
  go_enter Try.func8, Try.ntmps8
  simp only [CdEvent.cells, CdNote.cells]
  go_wp2_with fail
  have hb2 := below_two w (.cells #[.int .i64 vkind, .int .i64 vinst, .int .i64 vstep, .slice A vkeys.length c] 33) (.cells #[.int .i64 kind, .int .i64 inst, .int .i64 step, .int .i64 state, .int .i64 part, .int .i64 cause, .string key, .string name, .int .i64 version, .string text] 38)
  refine (Event_calls _ A c ⟨vkind, vinst, vstep, vkeys⟩ (Kd.C_below HS.out.1 hb2) HS.out.2.1 HS.out.2.2.1 (Tab.below HS.out.2.2.2.2 hb2)).mono ?_
  rw [HS.out.2.2.2.1]
  rintro e w1 ⟨rfl, hb⟩
  have HB1 := Aside0.mk (And.intro (below_on hb2 hb) (Tab.below (Tab.below HS.out.2.2.2.2 hb2) hb))
  have HRV := Aside0.mk (row_below hb (alloc_fst w _ _))
  have HRN := Aside0.mk (row_below hb (alloc2 w _ _))
  clear hb hb2
  simp only [wres, Bool.false_eq_true, if_false]
  have ht0_ : w1.cell? ⟨w.heap.size + 1, 0, none⟩ = some (.int .i64 kind) := row_cell HRN.out rfl
  have ht1_ : w1.cell? ⟨w.heap.size + 1, 1, none⟩ = some (.int .i64 inst) := row_cell HRN.out rfl
  have ht2_ : w1.cell? ⟨w.heap.size + 1, 2, none⟩ = some (.int .i64 step) := row_cell HRN.out rfl
  have ht3_ : w1.cell? ⟨w.heap.size + 1, 3, none⟩ = some (.int .i64 state) := row_cell HRN.out rfl
  have ht4_ : w1.cell? ⟨w.heap.size + 1, 4, none⟩ = some (.int .i64 part) := row_cell HRN.out rfl
  have ht5_ : w1.cell? ⟨w.heap.size + 1, 5, none⟩ = some (.int .i64 cause) := row_cell HRN.out rfl
  have ht6_ : w1.cell? ⟨w.heap.size + 1, 6, none⟩ = some (.string key) := row_cell HRN.out rfl
  have ht7_ : w1.cell? ⟨w.heap.size + 1, 7, none⟩ = some (.string name) := row_cell HRN.out rfl
  have ht8_ : w1.cell? ⟨w.heap.size + 1, 8, none⟩ = some (.int .i64 version) := row_cell HRN.out rfl
  have ht9_ : w1.cell? ⟨w.heap.size + 1, 9, none⟩ = some (.string text) := row_cell HRN.out rfl
  go_wp2_with fail
  refine (Note_calls _ ⟨kind, inst, step, state, part, cause, key, name, version, text⟩ HN.out.1).mono ?_
  rw [HN.out.2]
  rintro e w2 ⟨rfl, hb⟩
  have HB2 := Aside0.mk (And.intro (below_on HB1.out.1 hb) (Tab.below HB1.out.2 hb))
  replace HRN := Aside0.mk (row_below hb HRN.out)
  clear hb ht0_ ht1_ ht2_ ht3_ ht4_ ht5_ ht6_ ht7_ ht8_ ht9_
  simp only [wres, if_true, ← eu]
  clear eu
  go_wp2_with fail
  refine (ReadNote_calls _ u (by omega) HB2.out.2).mono ?_
  rw [HUF.out]
  rintro e w3 ⟨v, rfl, hv, hb⟩
  obtain rfl := hv
  have HB3 := Aside0.mk (And.intro (below_on HB2.out.1 hb) (Tab.below HB2.out.2 hb))
  replace HRN := Aside0.mk (row_below hb HRN.out)
  clear hb
  simp only [CdNote.cells]
  have hba := below_1 w3 (.cells #[.int .i64 kind, .int .i64 inst, .int .i64 step, .int .i64 state, .int .i64 part, .int .i64 cause, .string key, .string name, .int .i64 version, .string text] 38)
  have hs0_ : (w3.alloc (.cells #[.int .i64 kind, .int .i64 inst, .int .i64 step, .int .i64 state, .int .i64 part, .int .i64 cause, .string key, .string name, .int .i64 version, .string text] 38)).cell? ⟨w.heap.size + 1, 0, none⟩ = some (.int .i64 kind) := row_cell (row_below hba HRN.out) rfl
  have hs1_ : (w3.alloc (.cells #[.int .i64 kind, .int .i64 inst, .int .i64 step, .int .i64 state, .int .i64 part, .int .i64 cause, .string key, .string name, .int .i64 version, .string text] 38)).cell? ⟨w.heap.size + 1, 1, none⟩ = some (.int .i64 inst) := row_cell (row_below hba HRN.out) rfl
  have hs2_ : (w3.alloc (.cells #[.int .i64 kind, .int .i64 inst, .int .i64 step, .int .i64 state, .int .i64 part, .int .i64 cause, .string key, .string name, .int .i64 version, .string text] 38)).cell? ⟨w.heap.size + 1, 2, none⟩ = some (.int .i64 step) := row_cell (row_below hba HRN.out) rfl
  have hs3_ : (w3.alloc (.cells #[.int .i64 kind, .int .i64 inst, .int .i64 step, .int .i64 state, .int .i64 part, .int .i64 cause, .string key, .string name, .int .i64 version, .string text] 38)).cell? ⟨w.heap.size + 1, 3, none⟩ = some (.int .i64 state) := row_cell (row_below hba HRN.out) rfl
  have hs4_ : (w3.alloc (.cells #[.int .i64 kind, .int .i64 inst, .int .i64 step, .int .i64 state, .int .i64 part, .int .i64 cause, .string key, .string name, .int .i64 version, .string text] 38)).cell? ⟨w.heap.size + 1, 4, none⟩ = some (.int .i64 part) := row_cell (row_below hba HRN.out) rfl
  have hs5_ : (w3.alloc (.cells #[.int .i64 kind, .int .i64 inst, .int .i64 step, .int .i64 state, .int .i64 part, .int .i64 cause, .string key, .string name, .int .i64 version, .string text] 38)).cell? ⟨w.heap.size + 1, 5, none⟩ = some (.int .i64 cause) := row_cell (row_below hba HRN.out) rfl
  have hs6_ : (w3.alloc (.cells #[.int .i64 kind, .int .i64 inst, .int .i64 step, .int .i64 state, .int .i64 part, .int .i64 cause, .string key, .string name, .int .i64 version, .string text] 38)).cell? ⟨w.heap.size + 1, 6, none⟩ = some (.string key) := row_cell (row_below hba HRN.out) rfl
  have hs7_ : (w3.alloc (.cells #[.int .i64 kind, .int .i64 inst, .int .i64 step, .int .i64 state, .int .i64 part, .int .i64 cause, .string key, .string name, .int .i64 version, .string text] 38)).cell? ⟨w.heap.size + 1, 7, none⟩ = some (.string name) := row_cell (row_below hba HRN.out) rfl
  have hs8_ : (w3.alloc (.cells #[.int .i64 kind, .int .i64 inst, .int .i64 step, .int .i64 state, .int .i64 part, .int .i64 cause, .string key, .string name, .int .i64 version, .string text] 38)).cell? ⟨w.heap.size + 1, 8, none⟩ = some (.int .i64 version) := row_cell (row_below hba HRN.out) rfl
  have hs9_ : (w3.alloc (.cells #[.int .i64 kind, .int .i64 inst, .int .i64 step, .int .i64 state, .int .i64 part, .int .i64 cause, .string key, .string name, .int .i64 version, .string text] 38)).cell? ⟨w.heap.size + 1, 9, none⟩ = some (.string text) := row_cell (row_below hba HRN.out) rfl
  replace HB3 := Aside0.mk (And.intro (below_on HB3.out.1 hba) (Tab.below HB3.out.2 hba))
  clear hba
  go_wp2_with fail
  refine (what_calls _ u (by omega) HB3.out.2).mono ?_
  rw [HUF.out]
  rintro e w4 ⟨rfl, hb⟩
  have HB4 := Aside0.mk (And.intro (below_on HB3.out.1 hb) (Tab.below HB3.out.2 hb))
  clear hb hs0_ hs1_ hs2_ hs3_ hs4_ hs5_ hs6_ hs7_ hs8_ hs9_
  simp only [whatF]
  go_wp2_with fail
  refine (what_calls _ (u ++ (⟨#[0]⟩ : ByteArray)) (by rw [zero_size]; omega) HB4.out.2).mono ?_
  rw [HUM.out]
  rintro e w5 ⟨rfl, hb⟩
  have HB5 := Aside0.mk (And.intro (below_on HB4.out.1 hb) (Tab.below HB4.out.2 hb))
  clear hb
  simp only [whatF]
  go_wp2_with fail
  refine (live_calls _ HB5.out.2).mono ?_
  rintro e w6 ⟨rfl, hb⟩
  have HB6 := Aside0.mk (below_on HB5.out.1 hb)
  clear hb
  go_wp2
  go_ret
  exact ⟨by simp, HB6.out⟩

set_option linter.unusedSimpArgs false in
set_option linter.unusedVariables false in
set_option maxHeartbeats 4000000 in
set_option maxRecDepth 100000 in
theorem back_10 (A : Option Addr) (c : Nat) (v : CdEvent.D) (n : CdNote.D) (w : World) (hc : v.keys.length ≤ c) (hC : Kd.C Kd.string w A v.keys.length v.keys) (hB : ∀ x ∈ v.keys, x.size ≤ 9000000000000000000) (hs : n.key.size ≤ 9000000000000000000 ∧ n.name.size ≤ 9000000000000000000) (hv : mayE v = true) (hn : mayN n = false) (hT : Tab.At w) :
    Calls Try.prog 8 #[.agg (CdEvent.cells v (.slice A v.keys.length c)), .agg (CdNote.cells n)] w fun e w' => e = .returned (.bool true) ∧ Below w.heap.size w w' := by
  have HS := Aside0.mk (And.intro hC (And.intro hc (And.intro hB (And.intro hv hT))))
  have HN := Aside0.mk (And.intro hs hn)
  have HL := Aside0.mk (sameE_self v (mayE_norm hv).1.keys.1)
  obtain ⟨s, es⟩ : ∃ s : ByteArray, s = ⟨((⟨#[69]⟩ : ByteArray).data.toList ++ CdEvent.form v).toArray⟩ := ⟨_, rfl⟩
  have hsl : s.data.toList = 69 :: CdEvent.form v := by subst es; rfl
  have HRF := Aside0.mk (enc_e hv hsl)
  have HRM := Aside0.mk (more_e hv (zero_more hsl) (by simp))
  have hsz : s.size ≤ 10000001 := by have := size_of hsl; have := formE_len (mayE_norm hv).1; omega
  clear hsl
  clear hC hc hB hs hv hn hT
  obtain ⟨vkind, vinst, vstep, vkeys⟩ := v
  obtain ⟨kind, inst, step, state, part, cause, key, name, version, text⟩ := n
  go_enter Try.func8, Try.ntmps8
  simp only [CdEvent.cells, CdNote.cells]
  go_wp2_with fail
  have hb2 := below_two w (.cells #[.int .i64 vkind, .int .i64 vinst, .int .i64 vstep, .slice A vkeys.length c] 33) (.cells #[.int .i64 kind, .int .i64 inst, .int .i64 step, .int .i64 state, .int .i64 part, .int .i64 cause, .string key, .string name, .int .i64 version, .string text] 38)
  refine (Event_calls _ A c ⟨vkind, vinst, vstep, vkeys⟩ (Kd.C_below HS.out.1 hb2) HS.out.2.1 HS.out.2.2.1 (Tab.below HS.out.2.2.2.2 hb2)).mono ?_
  rw [HS.out.2.2.2.1]
  rintro e w1 ⟨rfl, hb⟩
  have HB1 := Aside0.mk (And.intro (below_on hb2 hb) (Tab.below (Tab.below HS.out.2.2.2.2 hb2) hb))
  have HRV := Aside0.mk (row_below hb (alloc_fst w _ _))
  have HRN := Aside0.mk (row_below hb (alloc2 w _ _))
  clear hb hb2
  simp only [wres, if_true, ← es]
  clear es
  go_wp2_with fail
  refine (ReadEvent_calls _ s (by omega) HB1.out.2).mono ?_
  rw [HRF.out]
  rintro e w2 ⟨v, rfl, ⟨sv, rfl, hk⟩, hb⟩
  obtain ⟨A2, c2, rfl, hc2, hC2⟩ := Kd.R_reads hk
  have HB2 := Aside0.mk (And.intro (below_on HB1.out.1 hb) (Tab.below HB1.out.2 hb))
  replace HRV := Aside0.mk (row_below hb HRV.out)
  replace HRN := Aside0.mk (row_below hb HRN.out)
  have HC2 := Aside0.mk (And.intro hc2 hC2)
  clear hb hk hc2 hC2
  simp only [CdEvent.cells]
  have hba := below_1 w2 (.cells #[.int .i64 vkind, .int .i64 vinst, .int .i64 vstep, .slice A2 vkeys.length c2] 33)
  have hs0_ : (w2.alloc (.cells #[.int .i64 vkind, .int .i64 vinst, .int .i64 vstep, .slice A2 vkeys.length c2] 33)).cell? ⟨w.heap.size, 0, none⟩ = some (.int .i64 vkind) := row_cell (row_below hba HRV.out) rfl
  have hs1_ : (w2.alloc (.cells #[.int .i64 vkind, .int .i64 vinst, .int .i64 vstep, .slice A2 vkeys.length c2] 33)).cell? ⟨w.heap.size, 1, none⟩ = some (.int .i64 vinst) := row_cell (row_below hba HRV.out) rfl
  have hs2_ : (w2.alloc (.cells #[.int .i64 vkind, .int .i64 vinst, .int .i64 vstep, .slice A2 vkeys.length c2] 33)).cell? ⟨w.heap.size, 2, none⟩ = some (.int .i64 vstep) := row_cell (row_below hba HRV.out) rfl
  have hs3_ : (w2.alloc (.cells #[.int .i64 vkind, .int .i64 vinst, .int .i64 vstep, .slice A2 vkeys.length c2] 33)).cell? ⟨w.heap.size, 3, none⟩ = some (.slice A vkeys.length c) := row_cell (row_below hba HRV.out) rfl
  replace HRN := Aside0.mk (row_below hba HRN.out)
  go_wp2_with fail
  refine (odysseylaw07_sameEvent.calls 4001 _ _ _ A c vkeys _ _ _ A2 c2 vkeys _ _ (Kd.C_below HS.out.1 (below_on HB2.out.1 hba)) HS.out.2.1 (Kd.C_below HC2.out.2 hba) HC2.out.1 HL.out).mono ?_
  rintro e w3 ⟨rfl, hb⟩
  have HB3 := Aside0.mk (And.intro (below_on (below_on HB2.out.1 hba) hb) (Tab.below (Tab.below HB2.out.2 hba) hb))
  replace HRN := Aside0.mk (row_below hb HRN.out)
  clear hba hb hs0_ hs1_ hs2_ hs3_
  go_wp2_with fail
  refine (what_calls _ s (by omega) HB3.out.2).mono ?_
  rw [HRF.out]
  rintro e w4 ⟨rfl, hb⟩
  have HB4 := Aside0.mk (And.intro (below_on HB3.out.1 hb) (Tab.below HB3.out.2 hb))
  replace HRN := Aside0.mk (row_below hb HRN.out)
  clear hb
  simp only [whatF]
  go_wp2_with fail
  refine (what_calls _ (s ++ (⟨#[0]⟩ : ByteArray)) (by rw [zero_size]; omega) HB4.out.2).mono ?_
  rw [HRM.out]
  rintro e w5 ⟨rfl, hb⟩
  have HB5 := Aside0.mk (And.intro (below_on HB4.out.1 hb) (Tab.below HB4.out.2 hb))
  replace HRN := Aside0.mk (row_below hb HRN.out)
  clear hb
  simp only [whatF]
  have ht0_ : w5.cell? ⟨w.heap.size + 1, 0, none⟩ = some (.int .i64 kind) := row_cell HRN.out rfl
  have ht1_ : w5.cell? ⟨w.heap.size + 1, 1, none⟩ = some (.int .i64 inst) := row_cell HRN.out rfl
  have ht2_ : w5.cell? ⟨w.heap.size + 1, 2, none⟩ = some (.int .i64 step) := row_cell HRN.out rfl
  have ht3_ : w5.cell? ⟨w.heap.size + 1, 3, none⟩ = some (.int .i64 state) := row_cell HRN.out rfl
  have ht4_ : w5.cell? ⟨w.heap.size + 1, 4, none⟩ = some (.int .i64 part) := row_cell HRN.out rfl
  have ht5_ : w5.cell? ⟨w.heap.size + 1, 5, none⟩ = some (.int .i64 cause) := row_cell HRN.out rfl
  have ht6_ : w5.cell? ⟨w.heap.size + 1, 6, none⟩ = some (.string key) := row_cell HRN.out rfl
  have ht7_ : w5.cell? ⟨w.heap.size + 1, 7, none⟩ = some (.string name) := row_cell HRN.out rfl
  have ht8_ : w5.cell? ⟨w.heap.size + 1, 8, none⟩ = some (.int .i64 version) := row_cell HRN.out rfl
  have ht9_ : w5.cell? ⟨w.heap.size + 1, 9, none⟩ = some (.string text) := row_cell HRN.out rfl
  go_wp2_with fail
  refine (Note_calls _ ⟨kind, inst, step, state, part, cause, key, name, version, text⟩ HN.out.1).mono ?_
  rw [HN.out.2]
  rintro e w6 ⟨rfl, hb⟩
  have HB6 := Aside0.mk (And.intro (below_on HB5.out.1 hb) (Tab.below HB5.out.2 hb))
  replace HRN := Aside0.mk (row_below hb HRN.out)
  clear hb ht0_ ht1_ ht2_ ht3_ ht4_ ht5_ ht6_ ht7_ ht8_ ht9_
  simp only [wres, Bool.false_eq_true, if_false]
  go_wp2_with fail
  refine (live_calls _ HB6.out.2).mono ?_
  rintro e w7 ⟨rfl, hb⟩
  have HB7 := Aside0.mk (below_on HB6.out.1 hb)
  clear hb
  go_wp2
  go_ret
  exact ⟨by simp, HB7.out⟩

set_option linter.unusedSimpArgs false in
set_option linter.unusedVariables false in
set_option maxHeartbeats 4000000 in
set_option maxRecDepth 100000 in
theorem back_11 (A : Option Addr) (c : Nat) (v : CdEvent.D) (n : CdNote.D) (w : World) (hc : v.keys.length ≤ c) (hC : Kd.C Kd.string w A v.keys.length v.keys) (hB : ∀ x ∈ v.keys, x.size ≤ 9000000000000000000) (hs : n.key.size ≤ 9000000000000000000 ∧ n.name.size ≤ 9000000000000000000) (hv : mayE v = true) (hn : mayN n = true) (hT : Tab.At w) :
    Calls Try.prog 8 #[.agg (CdEvent.cells v (.slice A v.keys.length c)), .agg (CdNote.cells n)] w fun e w' => e = .returned (.bool true) ∧ Below w.heap.size w w' := by
  have HS := Aside0.mk (And.intro hC (And.intro hc (And.intro hB (And.intro hv hT))))
  have HN := Aside0.mk (And.intro hs hn)
  have HL := Aside0.mk (sameE_self v (mayE_norm hv).1.keys.1)
  obtain ⟨s, es⟩ : ∃ s : ByteArray, s = ⟨((⟨#[69]⟩ : ByteArray).data.toList ++ CdEvent.form v).toArray⟩ := ⟨_, rfl⟩
  have hsl : s.data.toList = 69 :: CdEvent.form v := by subst es; rfl
  have HRF := Aside0.mk (enc_e hv hsl)
  have HRM := Aside0.mk (more_e hv (zero_more hsl) (by simp))
  have hsz : s.size ≤ 10000001 := by have := size_of hsl; have := formE_len (mayE_norm hv).1; omega
  clear hsl
  obtain ⟨u, eu⟩ : ∃ u : ByteArray, u = ⟨((⟨#[78]⟩ : ByteArray).data.toList ++ CdNote.form n).toArray⟩ := ⟨_, rfl⟩
  have hul : u.data.toList = 78 :: CdNote.form n := by subst eu; rfl
  have HUF := Aside0.mk (enc_n hn hul)
  have HUM := Aside0.mk (more_n hn (zero_more hul) (by simp))
  have huz : u.size ≤ 10000001 := by have := size_of hul; have := formN_len (mayN_norm hn).1; omega
  clear hul
  clear hC hc hB hs hv hn hT
  obtain ⟨vkind, vinst, vstep, vkeys⟩ := v
  obtain ⟨kind, inst, step, state, part, cause, key, name, version, text⟩ := n
  go_enter Try.func8, Try.ntmps8
  simp only [CdEvent.cells, CdNote.cells]
  go_wp2_with fail
  have hb2 := below_two w (.cells #[.int .i64 vkind, .int .i64 vinst, .int .i64 vstep, .slice A vkeys.length c] 33) (.cells #[.int .i64 kind, .int .i64 inst, .int .i64 step, .int .i64 state, .int .i64 part, .int .i64 cause, .string key, .string name, .int .i64 version, .string text] 38)
  refine (Event_calls _ A c ⟨vkind, vinst, vstep, vkeys⟩ (Kd.C_below HS.out.1 hb2) HS.out.2.1 HS.out.2.2.1 (Tab.below HS.out.2.2.2.2 hb2)).mono ?_
  rw [HS.out.2.2.2.1]
  rintro e w1 ⟨rfl, hb⟩
  have HB1 := Aside0.mk (And.intro (below_on hb2 hb) (Tab.below (Tab.below HS.out.2.2.2.2 hb2) hb))
  have HRV := Aside0.mk (row_below hb (alloc_fst w _ _))
  have HRN := Aside0.mk (row_below hb (alloc2 w _ _))
  clear hb hb2
  simp only [wres, if_true, ← es]
  clear es
  go_wp2_with fail
  refine (ReadEvent_calls _ s (by omega) HB1.out.2).mono ?_
  rw [HRF.out]
  rintro e w2 ⟨v, rfl, ⟨sv, rfl, hk⟩, hb⟩
  obtain ⟨A2, c2, rfl, hc2, hC2⟩ := Kd.R_reads hk
  have HB2 := Aside0.mk (And.intro (below_on HB1.out.1 hb) (Tab.below HB1.out.2 hb))
  replace HRV := Aside0.mk (row_below hb HRV.out)
  replace HRN := Aside0.mk (row_below hb HRN.out)
  have HC2 := Aside0.mk (And.intro hc2 hC2)
  clear hb hk hc2 hC2
  simp only [CdEvent.cells]
  have hba := below_1 w2 (.cells #[.int .i64 vkind, .int .i64 vinst, .int .i64 vstep, .slice A2 vkeys.length c2] 33)
  have hs0_ : (w2.alloc (.cells #[.int .i64 vkind, .int .i64 vinst, .int .i64 vstep, .slice A2 vkeys.length c2] 33)).cell? ⟨w.heap.size, 0, none⟩ = some (.int .i64 vkind) := row_cell (row_below hba HRV.out) rfl
  have hs1_ : (w2.alloc (.cells #[.int .i64 vkind, .int .i64 vinst, .int .i64 vstep, .slice A2 vkeys.length c2] 33)).cell? ⟨w.heap.size, 1, none⟩ = some (.int .i64 vinst) := row_cell (row_below hba HRV.out) rfl
  have hs2_ : (w2.alloc (.cells #[.int .i64 vkind, .int .i64 vinst, .int .i64 vstep, .slice A2 vkeys.length c2] 33)).cell? ⟨w.heap.size, 2, none⟩ = some (.int .i64 vstep) := row_cell (row_below hba HRV.out) rfl
  have hs3_ : (w2.alloc (.cells #[.int .i64 vkind, .int .i64 vinst, .int .i64 vstep, .slice A2 vkeys.length c2] 33)).cell? ⟨w.heap.size, 3, none⟩ = some (.slice A vkeys.length c) := row_cell (row_below hba HRV.out) rfl
  replace HRN := Aside0.mk (row_below hba HRN.out)
  go_wp2_with fail
  refine (odysseylaw07_sameEvent.calls 4001 _ _ _ A c vkeys _ _ _ A2 c2 vkeys _ _ (Kd.C_below HS.out.1 (below_on HB2.out.1 hba)) HS.out.2.1 (Kd.C_below HC2.out.2 hba) HC2.out.1 HL.out).mono ?_
  rintro e w3 ⟨rfl, hb⟩
  have HB3 := Aside0.mk (And.intro (below_on (below_on HB2.out.1 hba) hb) (Tab.below (Tab.below HB2.out.2 hba) hb))
  replace HRN := Aside0.mk (row_below hb HRN.out)
  clear hba hb hs0_ hs1_ hs2_ hs3_
  go_wp2_with fail
  refine (what_calls _ s (by omega) HB3.out.2).mono ?_
  rw [HRF.out]
  rintro e w4 ⟨rfl, hb⟩
  have HB4 := Aside0.mk (And.intro (below_on HB3.out.1 hb) (Tab.below HB3.out.2 hb))
  replace HRN := Aside0.mk (row_below hb HRN.out)
  clear hb
  simp only [whatF]
  go_wp2_with fail
  refine (what_calls _ (s ++ (⟨#[0]⟩ : ByteArray)) (by rw [zero_size]; omega) HB4.out.2).mono ?_
  rw [HRM.out]
  rintro e w5 ⟨rfl, hb⟩
  have HB5 := Aside0.mk (And.intro (below_on HB4.out.1 hb) (Tab.below HB4.out.2 hb))
  replace HRN := Aside0.mk (row_below hb HRN.out)
  clear hb
  simp only [whatF]
  have ht0_ : w5.cell? ⟨w.heap.size + 1, 0, none⟩ = some (.int .i64 kind) := row_cell HRN.out rfl
  have ht1_ : w5.cell? ⟨w.heap.size + 1, 1, none⟩ = some (.int .i64 inst) := row_cell HRN.out rfl
  have ht2_ : w5.cell? ⟨w.heap.size + 1, 2, none⟩ = some (.int .i64 step) := row_cell HRN.out rfl
  have ht3_ : w5.cell? ⟨w.heap.size + 1, 3, none⟩ = some (.int .i64 state) := row_cell HRN.out rfl
  have ht4_ : w5.cell? ⟨w.heap.size + 1, 4, none⟩ = some (.int .i64 part) := row_cell HRN.out rfl
  have ht5_ : w5.cell? ⟨w.heap.size + 1, 5, none⟩ = some (.int .i64 cause) := row_cell HRN.out rfl
  have ht6_ : w5.cell? ⟨w.heap.size + 1, 6, none⟩ = some (.string key) := row_cell HRN.out rfl
  have ht7_ : w5.cell? ⟨w.heap.size + 1, 7, none⟩ = some (.string name) := row_cell HRN.out rfl
  have ht8_ : w5.cell? ⟨w.heap.size + 1, 8, none⟩ = some (.int .i64 version) := row_cell HRN.out rfl
  have ht9_ : w5.cell? ⟨w.heap.size + 1, 9, none⟩ = some (.string text) := row_cell HRN.out rfl
  go_wp2_with fail
  refine (Note_calls _ ⟨kind, inst, step, state, part, cause, key, name, version, text⟩ HN.out.1).mono ?_
  rw [HN.out.2]
  rintro e w6 ⟨rfl, hb⟩
  have HB6 := Aside0.mk (And.intro (below_on HB5.out.1 hb) (Tab.below HB5.out.2 hb))
  replace HRN := Aside0.mk (row_below hb HRN.out)
  clear hb ht0_ ht1_ ht2_ ht3_ ht4_ ht5_ ht6_ ht7_ ht8_ ht9_
  simp only [wres, if_true, ← eu]
  clear eu
  go_wp2_with fail
  refine (ReadNote_calls _ u (by omega) HB6.out.2).mono ?_
  rw [HUF.out]
  rintro e w7 ⟨v, rfl, hv, hb⟩
  obtain rfl := hv
  have HB7 := Aside0.mk (And.intro (below_on HB6.out.1 hb) (Tab.below HB6.out.2 hb))
  replace HRN := Aside0.mk (row_below hb HRN.out)
  clear hb
  simp only [CdNote.cells]
  have hba := below_1 w7 (.cells #[.int .i64 kind, .int .i64 inst, .int .i64 step, .int .i64 state, .int .i64 part, .int .i64 cause, .string key, .string name, .int .i64 version, .string text] 38)
  have hs0_ : (w7.alloc (.cells #[.int .i64 kind, .int .i64 inst, .int .i64 step, .int .i64 state, .int .i64 part, .int .i64 cause, .string key, .string name, .int .i64 version, .string text] 38)).cell? ⟨w.heap.size + 1, 0, none⟩ = some (.int .i64 kind) := row_cell (row_below hba HRN.out) rfl
  have hs1_ : (w7.alloc (.cells #[.int .i64 kind, .int .i64 inst, .int .i64 step, .int .i64 state, .int .i64 part, .int .i64 cause, .string key, .string name, .int .i64 version, .string text] 38)).cell? ⟨w.heap.size + 1, 1, none⟩ = some (.int .i64 inst) := row_cell (row_below hba HRN.out) rfl
  have hs2_ : (w7.alloc (.cells #[.int .i64 kind, .int .i64 inst, .int .i64 step, .int .i64 state, .int .i64 part, .int .i64 cause, .string key, .string name, .int .i64 version, .string text] 38)).cell? ⟨w.heap.size + 1, 2, none⟩ = some (.int .i64 step) := row_cell (row_below hba HRN.out) rfl
  have hs3_ : (w7.alloc (.cells #[.int .i64 kind, .int .i64 inst, .int .i64 step, .int .i64 state, .int .i64 part, .int .i64 cause, .string key, .string name, .int .i64 version, .string text] 38)).cell? ⟨w.heap.size + 1, 3, none⟩ = some (.int .i64 state) := row_cell (row_below hba HRN.out) rfl
  have hs4_ : (w7.alloc (.cells #[.int .i64 kind, .int .i64 inst, .int .i64 step, .int .i64 state, .int .i64 part, .int .i64 cause, .string key, .string name, .int .i64 version, .string text] 38)).cell? ⟨w.heap.size + 1, 4, none⟩ = some (.int .i64 part) := row_cell (row_below hba HRN.out) rfl
  have hs5_ : (w7.alloc (.cells #[.int .i64 kind, .int .i64 inst, .int .i64 step, .int .i64 state, .int .i64 part, .int .i64 cause, .string key, .string name, .int .i64 version, .string text] 38)).cell? ⟨w.heap.size + 1, 5, none⟩ = some (.int .i64 cause) := row_cell (row_below hba HRN.out) rfl
  have hs6_ : (w7.alloc (.cells #[.int .i64 kind, .int .i64 inst, .int .i64 step, .int .i64 state, .int .i64 part, .int .i64 cause, .string key, .string name, .int .i64 version, .string text] 38)).cell? ⟨w.heap.size + 1, 6, none⟩ = some (.string key) := row_cell (row_below hba HRN.out) rfl
  have hs7_ : (w7.alloc (.cells #[.int .i64 kind, .int .i64 inst, .int .i64 step, .int .i64 state, .int .i64 part, .int .i64 cause, .string key, .string name, .int .i64 version, .string text] 38)).cell? ⟨w.heap.size + 1, 7, none⟩ = some (.string name) := row_cell (row_below hba HRN.out) rfl
  have hs8_ : (w7.alloc (.cells #[.int .i64 kind, .int .i64 inst, .int .i64 step, .int .i64 state, .int .i64 part, .int .i64 cause, .string key, .string name, .int .i64 version, .string text] 38)).cell? ⟨w.heap.size + 1, 8, none⟩ = some (.int .i64 version) := row_cell (row_below hba HRN.out) rfl
  have hs9_ : (w7.alloc (.cells #[.int .i64 kind, .int .i64 inst, .int .i64 step, .int .i64 state, .int .i64 part, .int .i64 cause, .string key, .string name, .int .i64 version, .string text] 38)).cell? ⟨w.heap.size + 1, 9, none⟩ = some (.string text) := row_cell (row_below hba HRN.out) rfl
  replace HB7 := Aside0.mk (And.intro (below_on HB7.out.1 hba) (Tab.below HB7.out.2 hba))
  clear hba
  go_wp2_with fail
  refine (what_calls _ u (by omega) HB7.out.2).mono ?_
  rw [HUF.out]
  rintro e w8 ⟨rfl, hb⟩
  have HB8 := Aside0.mk (And.intro (below_on HB7.out.1 hb) (Tab.below HB7.out.2 hb))
  clear hb hs0_ hs1_ hs2_ hs3_ hs4_ hs5_ hs6_ hs7_ hs8_ hs9_
  simp only [whatF]
  go_wp2_with fail
  refine (what_calls _ (u ++ (⟨#[0]⟩ : ByteArray)) (by rw [zero_size]; omega) HB8.out.2).mono ?_
  rw [HUM.out]
  rintro e w9 ⟨rfl, hb⟩
  have HB9 := Aside0.mk (And.intro (below_on HB8.out.1 hb) (Tab.below HB8.out.2 hb))
  clear hb
  simp only [whatF]
  go_wp2_with fail
  refine (live_calls _ HB9.out.2).mono ?_
  rintro e w10 ⟨rfl, hb⟩
  have HB10 := Aside0.mk (below_on HB9.out.1 hb)
  clear hb
  go_wp2
  go_ret
  exact ⟨by simp, HB10.out⟩

end Go.Proofs.Ytejaepohkcjoiaa.CdLaw
namespace Go.Proofs.Ytejaepohkcjoiaa.CdLaw
open Go.RowKit Go.Proofs.Ytejaepohkcjoiaa.Tabs Go.Proofs.Ytejaepohkcjoiaa.CdMay
theorem walk8 (cs0 : Array Value) (v : CdEvent.D) (cs1 : Array Value) (n : CdNote.D) (w : World) (hK : Opening.EventK w v cs0.toList) (hB : Opening.EventB v) (hK1 : Opening.NoteK w n cs1.toList) (hB1 : Opening.NoteB n) (hsh : w.ShapedOpen Try.prog) :
    Calls Try.prog 8 #[.agg cs0, .agg cs1] w fun e w' => e = .returned (.bool true) ∧ Below w.heap.size w w' := by
  obtain ⟨T, hT⟩ := tabs_of hsh
  let _i : Tab := tabOf T
  obtain ⟨A, c, hcs, hc, hC⟩ := hK
  obtain rfl : cs0 = CdEvent.cells v (.slice A v.keys.length c) := Array.ext' hcs
  obtain rfl : cs1 = CdNote.cells n := Array.ext' hK1
  have hs : n.key.size ≤ 9000000000000000000 ∧ n.name.size ≤ 9000000000000000000 := by
    obtain ⟨_, _, _, _, _, _, h1, h2, _⟩ := hB1
    omega
  have hl := list_sizes hB.2.2.2
  cases hv : mayE v
  · cases hn : mayN n
    · exact back_00 A c v n w hc hC hl hs hv hn hT
    · exact back_01 A c v n w hc hC hl hs hv hn hT
  · cases hn : mayN n
    · exact back_10 A c v n w hc hC hl hs hv hn hT
    · exact back_11 A c v n w hc hC hl hs hv hn hT
end Go.Proofs.Ytejaepohkcjoiaa.CdLaw

/- The row of the law CodecNotesBack, out of its walk. -/
namespace Go.Proofs.Ytejaepohkcjoiaa.codecNotesBack
open Go.ChangeShapes Go.WideShapes Go.ChangeAt Go.RowKit
open Go.ChangeMaps (open_string shut_string)
theorem own : ownKnob Try.prog.godebug = none := by kernel_rfl
theorem laidOut : laidOutB Try.prog = true := by kernel_rfl
set_option maxRecDepth 100000 in
theorem lifted (os : Os) (started : os.Started) (H : Type) (enc : TypeId × Value → H) :
    ReturnsInHanded {} Try.checked os 8 .any (Rows.codecNotesBackSpec.pre6 enc Try.prog Try.f8 Rows.codecNotesBackRow.domain false) (Rows.codecNotesBackSpec.post enc Try.prog Try.f8 false true false false) := by
  refine returnsInHanded_of_change_shaped (C := Try.checked) own started (by kernel_rfl) Try.func8
    (ChangeSpec.witness6 (enc := enc) (C := Try.checked) false ⟨#[], #[.agg #[(.int .i64 0), (.int .i64 0), (.int .i64 0), (.slice none 0 0)], .agg #[(.int .i64 0), (.int .i64 0), (.int .i64 0), (.int .i64 0), (.int .i64 0), (.int .i64 0), (.string ByteArray.empty), (.string ByteArray.empty), (.int .i64 0), (.string ByteArray.empty)]], []⟩ 8 (by kernel_rfl) (by kernel_rfl) (by kernel_rfl) (by kernel_rfl)) ?_
  intro W base args ds gs before hval0 hW hcnd hsz0 hsh _
  have hsz : (DataW.weightsEach Try.prog (Try.f8.params.toList ++ Rows.codecNotesBackSpec.plain.varTypes Try.prog) (ds ++ gs)).all (· ≤ reachBytes) = true := hsz0
  have hval : ∀ (j : Nat) t v, Try.f8.params[j]? = some t → args[j]? = some v → Value.okWide Try.prog W .any base t v := hval0
  have hW' := hW
  obtain ⟨p, q, hA0, hV, rfl, hfz, hnd⟩ := hW
  have hA : DataW.TrodAll enc Try.prog W 0 (fun _ => true) true Try.f8.params.toList args.toList ds p := hA0
  rw [Try.params8] at hA hval hsz
  obtain ⟨v0, vs0, d0, ds0, p0, q0, hargs, rfl, rfl, h0, r0⟩ := trodAll_cons hA
  obtain ⟨v1, vs1, d1, ds1, p1, q1, rfl, rfl, rfl, h1, r1⟩ := trodAll_cons r0
  obtain ⟨rfl, rfl, rfl⟩ := trodAll_nil r1
  obtain rfl : args = #[v0, v1] := by cases args; simp_all
  obtain ⟨rfl, rfl⟩ := trodVars_none hV
  have k0 := h0
  have lt0 : ∀ x ∈ p0, x.block < W.heap.size := by obtain ⟨m, hm⟩ := k0; exact DataW.trod_lt m _ _ _ hm
  obtain ⟨cs0, rfl, hs0⟩ := okWide_struct Try.underlying33 (hval 0 33 v0 rfl rfl)
  obtain ⟨a0, hK0, w0⟩ := Opening.openedK Opening.opens_Event hsz (j := 0) (t := 33) rfl rfl h0
  have k1 := h1
  have lt1 : ∀ x ∈ p1, x.block < W.heap.size := by obtain ⟨m, hm⟩ := k1; exact DataW.trod_lt m _ _ _ hm
  obtain ⟨cs1, rfl, hs1⟩ := okWide_struct Try.underlying38 (hval 1 38 v1 rfl rfl)
  obtain ⟨a1, hK1, w1⟩ := Opening.openedK Opening.opens_Note hsz (j := 1) (t := 38) rfl rfl h1
  clear hA0 hval0 hsz0 hsz
  refine (CdLaw.walk8 cs0 a0 cs1 a1 W hK0 w0 hK1 w1 hsh).mono fun e W' ⟨he, bel⟩ => ?_
  subst he
  exact ⟨_, rfl, _, _, _, [], _, [], hW', trodAll_mk1 (shut_bool Try.underlying4 _), (trodAll_cons_mk (Below.trod laidOut (by kernel_rfl) (of_decide_eq_true (by kernel_rfl)) k0 bel lt0) (trodAll_cons_mk (Below.trod laidOut (by kernel_rfl) (of_decide_eq_true (by kernel_rfl)) k1 bel lt1) trodAll_mk0)), rfl, bel.frame _, fun h => by cases h⟩
theorem over : Rows.codecNotesBackRow.holds Try.pinned (OpenSpec.ofChange Rows.codecNotesBackSpec) :=
  OpenClaim.holds_of_wide 8 Try.f8 rfl rfl rfl rfl rfl rfl rfl ⟨rfl, rfl, rfl, rfl, rfl⟩ rfl rfl rfl rfl rfl (by kernel_rfl) Try.func8 (by kernel_rfl)
    (of_decide_eq_true (by kernel_rfl)) (by unfold Func.isWrapper; first | (rw [if_pos (by decide +kernel)]; kernel_rfl) | (rw [if_neg (by decide +kernel)]; exact ⟨rfl, rfl⟩))
    (fun os started H enc _ => lifted os started H enc)
theorem proved : Rows.CodecNotesBackSaid := over
#print axioms proved
end Go.Proofs.Ytejaepohkcjoiaa.codecNotesBack
namespace Go.Proofs.Ytejaepohkcjoiaa
/-- The row, under a short name, for the claim. -/
theorem codecNotesBack_holds : Rows.CodecNotesBackSaid := codecNotesBack.proved
end Go.Proofs.Ytejaepohkcjoiaa
