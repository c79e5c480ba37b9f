-- PRINTED BY print.sh 35421559b90ae4d0a3588c463048766b98c2df88dd9212a6774a882060cdf62d: not written by this session
import Derived.Test.YtfifcanpdjdhcaaPPackTakesx0
import Derived.Test.YtfifcanpdjdhcaaPPackTakesx1
import Derived.Test.YtfifcanpdjdhcaaPPackTakesx2
namespace Go.Proofs.Ytfifcanpdjdhcaa.PPackTakes
open Go.RowKit Go.Proofs.YtfifcanpdjdhcaaW.PrintWords Go.Proofs.YtfifcanpdjdhcaaW.PrintLast Go.Proofs.YtfifcanpdjdhcaaW.PrintMore
attribute [local go_sem] max2_int min2_int max_two min_two max_three min_three max_four min_four   -- for this text's walks alone
set_option linter.unusedVariables false
set_option linter.unusedSimpArgs false

/-! ### odysseylaw03_same: function 19 -/
def odysseylaw03_same.l0 : Nat → List ByteArray → List ByteArray → Int → Option (Bool)
  | 0, _, _, _ => none
  | k + 1, x0, x1, x5 => if x5 < (x0.length : Int) then (if 0 ≤ x5 then (if x5 < (x1.length : Int) then (if (rdOf ByteArray.empty x0 x5).toList = (rdOf ByteArray.empty x1 x5).toList then (odysseylaw03_same.l0 k x0 x1 (wrap64 (x5 + 1))) else (some false)) else (none)) else (none)) else (some true)
def odysseylaw03_same.f (k : Nat) (l0 : List ByteArray) (l1 : List ByteArray) : Option (Bool) := if (l0.length : Int) = (l1.length : Int) then (odysseylaw03_same.l0 k l0 l1 0) else (some false)
theorem odysseylaw03_same.mono_l : ∀ k, (∀ y0 y1 y2, LeO (odysseylaw03_same.l0 k y0 y1 y2) (odysseylaw03_same.l0 (k + 1) y0 y1 y2))
  | 0 => fun _ _ _ r h => by simp [odysseylaw03_same.l0] at h
  | k + 1 => by
    have ih0 := odysseylaw03_same.mono_l k
    · intro y0 y1 y2
      unfold odysseylaw03_same.l0
      repeat' first
      | (with_reducible exact ih0 _ _ _)
      | (with_reducible exact LeO.refl _)
      | (with_reducible exact LeO.none _)
      | (with_reducible refine LeO.ite ?_ ?_)
      | (with_reducible refine LeO.bind ?_ (fun _ => ?_))
      | exact ih0 _ _ _
      | exact LeO.none _
      | refine LeO.ite ?_ ?_
      | refine LeO.bind ?_ (fun _ => ?_)
theorem odysseylaw03_same.mono : ∀ a0 a1 k, LeO (odysseylaw03_same.f k a0 a1) (odysseylaw03_same.f (k + 1) a0 a1) := by
  intro a0 a1 k
  have ih0 := odysseylaw03_same.mono_l k
  unfold odysseylaw03_same.f
  repeat' first
      | (with_reducible exact ih0 _ _ _)
      | (with_reducible exact LeO.refl _)
      | (with_reducible exact LeO.none _)
      | (with_reducible refine LeO.ite ?_ ?_)
      | (with_reducible refine LeO.bind ?_ (fun _ => ?_))
      | exact ih0 _ _ _
      | exact LeO.none _
      | refine LeO.ite ?_ ?_
      | refine LeO.bind ?_ (fun _ => ?_)
set_option maxHeartbeats 8000000 in
set_option maxRecDepth 100000 in
theorem odysseylaw03_same.calls (k : Nat) (A0 : Option Addr) (c0 : Nat) (l0 : List ByteArray) (A1 : Option Addr) (c1 : Nat) (l1 : List ByteArray) (r : Bool) (w : World) (hr0 : Kd.C Kd.string w A0 l0.length l0) (hc0 : l0.length ≤ c0) (hr1 : Kd.C Kd.string w A1 l1.length l1) (hc1 : l1.length ≤ c1) (h : odysseylaw03_same.f k l0 l1 = some r) :
    Calls Try.prog 19 #[.slice A0 l0.length c0, .slice A1 l1.length c1] w fun e w' => e = .returned (.bool r) ∧ Drawn0 w w' := by
  have HR0 := Aside0.mk hr0
  have HC0 := Aside0.mk hc0
  clear hr0 hc0
  have HR1 := Aside0.mk hr1
  have HC1 := Aside0.mk hc1
  clear hr1 hc1
  have H : (if (l0.length : Int) = (l1.length : Int) then (odysseylaw03_same.l0 k l0 l1 0) else (some false)) = some r := h
  clear h
  by_cases c3 : (l0.length : Int) = (l1.length : Int)
  · rw [if_pos c3] at H
    have c3b0 : ((l0.length : Int) == (l1.length : Int)) = true := beq_iff_eq.mpr c3
    have c3b1 : ((l0.length : Int) != (l1.length : Int)) = false := bne_eq_false_iff_eq.mpr c3
    have c3b2 : (l0.length == l1.length) = true := by first | simpa using c3 | (simp at c3 ⊢; omega)
    clear c3
    have H' := Aside0.mk H
    clear H
    go_enter Try.func19, Try.ntmps19
    go_wp2
    repeat (go_quiet (fail); try go_wp2)
    go_loopg [5] k (fun kq v5 w' => ∃ (x5_1 : Int), v5 = .int .i64 x5_1 ∧ Aside0 (odysseylaw03_same.l0 kq l0 l1 x5_1 = some r) ∧ Aside0 (kq ≤ k) ∧ Drawn0 w w')
    case atStart => exact ⟨(0), (by first | rfl | (simp; done) | (simp [*]; done)), H', ⟨Nat.le_refl _⟩, by repeat (first | exact Drawn0.refl _ | apply Drawn0.step)⟩
    case round =>
      clear H'
      try clear c1
      try clear p2
      try clear c3
      try clear c3b0
      try clear c3b1
      try clear c3b2
      obtain ⟨x5_1, rfl, HA, HK1, ⟨m1, rfl⟩⟩ := hrel
      cases gk with
      | zero => exact absurd HA.out (by simp [odysseylaw03_same.l0])
      | succ k1 =>
        have H := HA.out
        clear HA
        simp only [odysseylaw03_same.l0] at H
        by_cases c4 : x5_1 < (l0.length : Int)
        · rw [if_pos c4] at H
          have c4b0 : decide (x5_1 < (l0.length : Int)) = true := decide_eq_true c4
          clear c4
          by_cases c5 : 0 ≤ x5_1
          · rw [if_pos c5] at H
            have c5b0 : decide (0 ≤ x5_1) = true := decide_eq_true c5
            clear c5
            by_cases c6 : x5_1 < (l1.length : Int)
            · rw [if_pos c6] at H
              have c6b0 : decide (x5_1 < (l1.length : Int)) = true := decide_eq_true c6
              clear c6
              by_cases c7 : (rdOf ByteArray.empty l0 x5_1).toList = (rdOf ByteArray.empty l1 x5_1).toList
              · rw [if_pos c7] at H
                have c7b0 : ((rdOf ByteArray.empty l0 x5_1).toList == (rdOf ByteArray.empty l1 x5_1).toList) = true := beq_iff_eq.mpr c7
                have c7b1 : ((rdOf ByteArray.empty l0 x5_1).toList != (rdOf ByteArray.empty l1 x5_1).toList) = false := bne_eq_false_iff_eq.mpr c7
                clear c7
                have H' := Aside0.mk H
                clear H
                have p136 : 0 ≤ (x5_1 : Int) := of_decide_eq_true (by first | (with_reducible assumption) | assumption)
                have q136 : x5_1 < (l0.length : Int) := of_decide_eq_true (by first | (with_reducible assumption) | assumption)
                obtain ⟨ad136, e136, hx136_0⟩ := Kd.at_string HR0.out x5_1 p136 q136
                cases e136
                replace p136 := eq_true p136
                replace q136 := eq_true q136
                have p137 : 0 ≤ (x5_1 : Int) := of_decide_eq_true (by first | (with_reducible assumption) | assumption)
                have q137 : x5_1 < (l1.length : Int) := of_decide_eq_true (by first | (with_reducible assumption) | assumption)
                obtain ⟨ad137, e137, hx137_0⟩ := Kd.at_string HR1.out x5_1 p137 q137
                cases e137
                replace p137 := eq_true p137
                replace q137 := eq_true q137
                go_wp2
                repeat (go_quiet (fail); try go_wp2)
                go_roundg k1
                case measure => have := HK1.out; omega
                case rel => exact ⟨(wrap64 (x5_1 + 1)), (by first | rfl | (simp; done) | (simp [*]; done)), H', ⟨by have := HK1.out; omega⟩, by repeat (first | exact Drawn0.refl _ | apply Drawn0.step)⟩
              · rw [if_neg c7] at H
                have c7b0 : ((rdOf ByteArray.empty l0 x5_1).toList == (rdOf ByteArray.empty l1 x5_1).toList) = false := beq_eq_false_iff_ne.mpr c7
                have c7b1 : ((rdOf ByteArray.empty l0 x5_1).toList != (rdOf ByteArray.empty l1 x5_1).toList) = true := bne_iff_ne.mpr c7
                obtain rfl := Option.some.inj H
                have p136 : 0 ≤ (x5_1 : Int) := of_decide_eq_true (by first | (with_reducible assumption) | assumption)
                have q136 : x5_1 < (l0.length : Int) := of_decide_eq_true (by first | (with_reducible assumption) | assumption)
                obtain ⟨ad136, e136, hx136_0⟩ := Kd.at_string HR0.out x5_1 p136 q136
                cases e136
                replace p136 := eq_true p136
                replace q136 := eq_true q136
                have p137 : 0 ≤ (x5_1 : Int) := of_decide_eq_true (by first | (with_reducible assumption) | assumption)
                have q137 : x5_1 < (l1.length : Int) := of_decide_eq_true (by first | (with_reducible assumption) | assumption)
                obtain ⟨ad137, e137, hx137_0⟩ := Kd.at_string HR1.out x5_1 p137 q137
                cases e137
                replace p137 := eq_true p137
                replace q137 := eq_true q137
                go_wp2
                repeat (go_quiet (fail); try go_wp2)
                go_ret
                exact ⟨by first | rfl | (simp; done) | (simp [*]; done), by repeat (first | exact Drawn0.refl _ | apply Drawn0.step)⟩
            · rw [if_neg c6] at H
              exact absurd H (by simp)
          · rw [if_neg c5] at H
            exact absurd H (by simp)
        · rw [if_neg c4] at H
          have c4b0 : decide (x5_1 < (l0.length : Int)) = false := decide_eq_false c4
          clear c4
          obtain rfl := Option.some.inj H
          go_wp2
          repeat (go_quiet (fail); try go_wp2)
          go_ret
          exact ⟨by first | rfl | (simp; done) | (simp [*]; done), by repeat (first | exact Drawn0.refl _ | apply Drawn0.step)⟩
  · rw [if_neg c3] at H
    have c3b0 : ((l0.length : Int) == (l1.length : Int)) = false := beq_eq_false_iff_ne.mpr c3
    have c3b1 : ((l0.length : Int) != (l1.length : Int)) = true := bne_iff_ne.mpr c3
    have c3b2 : (l0.length == l1.length) = false := by first | simpa using c3 | (simp at c3 ⊢; omega)
    obtain rfl := Option.some.inj H
    go_enter Try.func19, Try.ntmps19
    go_wp2
    repeat (go_quiet (fail); try go_wp2)
    go_ret
    exact ⟨by first | rfl | (simp; done) | (simp [*]; done), by repeat (first | exact Drawn0.refl _ | apply Drawn0.step)⟩

/-! ### odysseylaw03_PackTakes: function 5 -/
mutual
def odysseylaw03_PackTakes.j0 : Nat → ByteArray → Int → Bool → Option (Bool)
  | 0, _, _, _ => none
  | k + 1, x0, x1, x50 => if x50 = true then (some false) else ((pack_TakeText.f k x0 x1).bind fun bt144 => ((odysseyref03_TakeText.f k x0 x1).bind fun bt147 => (if bt144.1.toList = bt147.1.toList then (if bt144.2.1 = bt147.2.1 then (odysseylaw03_PackTakes.j1 k x0 x1 (bt144.2.2 != bt147.2.2)) else (odysseylaw03_PackTakes.j1 k x0 x1 true)) else (odysseylaw03_PackTakes.j1 k x0 x1 true))))
def odysseylaw03_PackTakes.j1 : Nat → ByteArray → Int → Bool → Option (Bool)
  | 0, _, _, _ => none
  | k + 1, x0, x1, x77 => if x77 = true then (some false) else ((pack_TakeList.f k x0 x1).bind fun bt150 => ((odysseyref03_TakeList.f k x0 x1).bind fun bt155 => ((odysseylaw03_same.f k bt150.1 bt155.1).bind fun t160 => (if t160 = true then (if bt150.2.1 = bt155.2.1 then (odysseylaw03_PackTakes.j2 k x0 x1 bt150.1 bt155.1 bt155.2.1 bt155.2.2 (bt150.2.2 != bt155.2.2)) else (odysseylaw03_PackTakes.j2 k x0 x1 bt150.1 bt155.1 bt155.2.1 bt155.2.2 true)) else (odysseylaw03_PackTakes.j2 k x0 x1 bt150.1 bt155.1 bt155.2.1 bt155.2.2 true)))))
def odysseylaw03_PackTakes.j2 : Nat → ByteArray → Int → List ByteArray → List ByteArray → Int → Int → Bool → Option (Bool)
  | 0, _, _, _, _, _, _, _ => none
  | k + 1, x0, x1, x17, x20, x21, x22, x105 => if x105 = true then (some false) else (odysseylaw03_PackTakes.l0 k x0 x1 x17 x20 x21 x22 0)
def odysseylaw03_PackTakes.l0 : Nat → ByteArray → Int → List ByteArray → List ByteArray → Int → Int → Int → Option (Bool)
  | 0, _, _, _, _, _, _, _ => none
  | k + 1, x0, x1, x17, x20, x21, x22, x23 => if x23 < (x17.length : Int) then (if 0 ≤ x23 then (odysseylaw03_PackTakes.l0 k x0 x1 (x17.set (x23 : Int).toNat (⟨#[120]⟩ : ByteArray)) x20 x21 x22 (wrap64 (x23 + 1))) else (none)) else ((pack_TakeList.f k x0 x1).bind fun bt162 => ((odysseylaw03_same.f k bt162.1 x20).bind fun t167 => (if t167 = true then (if bt162.2.1 = x21 then (if bt162.2.2 = x22 then ((odysseylaw03_live.f k).bind fun t168 => (some t168)) else (some false)) else (some false)) else (some false))))
end
def odysseylaw03_PackTakes.f (k : Nat) (a0 : ByteArray) (a1 : Int) : Option (Bool) := (pack_TakeNum.f k a0 a1).bind fun bt138 => ((odysseyref03_TakeNum.f k a0 a1).bind fun bt141 => (if bt138.1 = bt141.1 then (if bt138.2.1 = bt141.2.1 then (odysseylaw03_PackTakes.j0 k a0 a1 (bt138.2.2 != bt141.2.2)) else (odysseylaw03_PackTakes.j0 k a0 a1 true)) else (odysseylaw03_PackTakes.j0 k a0 a1 true)))
theorem odysseylaw03_PackTakes.mono_l : ∀ k, (∀ y0 y1 y2, LeO (odysseylaw03_PackTakes.j0 k y0 y1 y2) (odysseylaw03_PackTakes.j0 (k + 1) y0 y1 y2)) ∧ (∀ y0 y1 y2, LeO (odysseylaw03_PackTakes.j1 k y0 y1 y2) (odysseylaw03_PackTakes.j1 (k + 1) y0 y1 y2)) ∧ (∀ y0 y1 y2 y3 y4 y5 y6, LeO (odysseylaw03_PackTakes.j2 k y0 y1 y2 y3 y4 y5 y6) (odysseylaw03_PackTakes.j2 (k + 1) y0 y1 y2 y3 y4 y5 y6)) ∧ (∀ y0 y1 y2 y3 y4 y5 y6, LeO (odysseylaw03_PackTakes.l0 k y0 y1 y2 y3 y4 y5 y6) (odysseylaw03_PackTakes.l0 (k + 1) y0 y1 y2 y3 y4 y5 y6))
  | 0 => ⟨fun _ _ _ r h => by simp [odysseylaw03_PackTakes.j0] at h, fun _ _ _ r h => by simp [odysseylaw03_PackTakes.j1] at h, fun _ _ _ _ _ _ _ r h => by simp [odysseylaw03_PackTakes.j2] at h, fun _ _ _ _ _ _ _ r h => by simp [odysseylaw03_PackTakes.l0] at h⟩
  | k + 1 => by
    obtain ⟨ih0, ih1, ih2, ih3⟩ := odysseylaw03_PackTakes.mono_l k
    refine ⟨?_, ?_, ?_, ?_⟩
    · intro y0 y1 y2
      unfold odysseylaw03_PackTakes.j0
      repeat' first
      | (with_reducible exact ih0 _ _ _)
      | (with_reducible exact ih1 _ _ _)
      | (with_reducible exact ih2 _ _ _ _ _ _ _)
      | (with_reducible exact ih3 _ _ _ _ _ _ _)
      | (with_reducible exact odysseylaw03_live.mono _)
      | (with_reducible exact odysseylaw03_same.mono _ _ _)
      | (with_reducible exact odysseyref03_TakeList.mono _ _ _)
      | (with_reducible exact odysseyref03_TakeNum.mono _ _ _)
      | (with_reducible exact odysseyref03_TakeText.mono _ _ _)
      | (with_reducible exact pack_TakeList.mono _ _ _)
      | (with_reducible exact pack_TakeNum.mono _ _ _)
      | (with_reducible exact pack_TakeText.mono _ _ _)
      | (with_reducible exact LeO.refl _)
      | (with_reducible exact LeO.none _)
      | (with_reducible refine LeO.ite ?_ ?_)
      | (with_reducible refine LeO.bind ?_ (fun _ => ?_))
      | exact ih0 _ _ _
      | exact ih1 _ _ _
      | exact ih2 _ _ _ _ _ _ _
      | exact ih3 _ _ _ _ _ _ _
      | exact odysseylaw03_live.mono _
      | exact odysseylaw03_same.mono _ _ _
      | exact odysseyref03_TakeList.mono _ _ _
      | exact odysseyref03_TakeNum.mono _ _ _
      | exact odysseyref03_TakeText.mono _ _ _
      | exact pack_TakeList.mono _ _ _
      | exact pack_TakeNum.mono _ _ _
      | exact pack_TakeText.mono _ _ _
      | exact LeO.none _
      | refine LeO.ite ?_ ?_
      | refine LeO.bind ?_ (fun _ => ?_)
    · intro y0 y1 y2
      unfold odysseylaw03_PackTakes.j1
      repeat' first
      | (with_reducible exact ih0 _ _ _)
      | (with_reducible exact ih1 _ _ _)
      | (with_reducible exact ih2 _ _ _ _ _ _ _)
      | (with_reducible exact ih3 _ _ _ _ _ _ _)
      | (with_reducible exact odysseylaw03_live.mono _)
      | (with_reducible exact odysseylaw03_same.mono _ _ _)
      | (with_reducible exact odysseyref03_TakeList.mono _ _ _)
      | (with_reducible exact odysseyref03_TakeNum.mono _ _ _)
      | (with_reducible exact odysseyref03_TakeText.mono _ _ _)
      | (with_reducible exact pack_TakeList.mono _ _ _)
      | (with_reducible exact pack_TakeNum.mono _ _ _)
      | (with_reducible exact pack_TakeText.mono _ _ _)
      | (with_reducible exact LeO.refl _)
      | (with_reducible exact LeO.none _)
      | (with_reducible refine LeO.ite ?_ ?_)
      | (with_reducible refine LeO.bind ?_ (fun _ => ?_))
      | exact ih0 _ _ _
      | exact ih1 _ _ _
      | exact ih2 _ _ _ _ _ _ _
      | exact ih3 _ _ _ _ _ _ _
      | exact odysseylaw03_live.mono _
      | exact odysseylaw03_same.mono _ _ _
      | exact odysseyref03_TakeList.mono _ _ _
      | exact odysseyref03_TakeNum.mono _ _ _
      | exact odysseyref03_TakeText.mono _ _ _
      | exact pack_TakeList.mono _ _ _
      | exact pack_TakeNum.mono _ _ _
      | exact pack_TakeText.mono _ _ _
      | exact LeO.none _
      | refine LeO.ite ?_ ?_
      | refine LeO.bind ?_ (fun _ => ?_)
    · intro y0 y1 y2 y3 y4 y5 y6
      unfold odysseylaw03_PackTakes.j2
      repeat' first
      | (with_reducible exact ih0 _ _ _)
      | (with_reducible exact ih1 _ _ _)
      | (with_reducible exact ih2 _ _ _ _ _ _ _)
      | (with_reducible exact ih3 _ _ _ _ _ _ _)
      | (with_reducible exact odysseylaw03_live.mono _)
      | (with_reducible exact odysseylaw03_same.mono _ _ _)
      | (with_reducible exact odysseyref03_TakeList.mono _ _ _)
      | (with_reducible exact odysseyref03_TakeNum.mono _ _ _)
      | (with_reducible exact odysseyref03_TakeText.mono _ _ _)
      | (with_reducible exact pack_TakeList.mono _ _ _)
      | (with_reducible exact pack_TakeNum.mono _ _ _)
      | (with_reducible exact pack_TakeText.mono _ _ _)
      | (with_reducible exact LeO.refl _)
      | (with_reducible exact LeO.none _)
      | (with_reducible refine LeO.ite ?_ ?_)
      | (with_reducible refine LeO.bind ?_ (fun _ => ?_))
      | exact ih0 _ _ _
      | exact ih1 _ _ _
      | exact ih2 _ _ _ _ _ _ _
      | exact ih3 _ _ _ _ _ _ _
      | exact odysseylaw03_live.mono _
      | exact odysseylaw03_same.mono _ _ _
      | exact odysseyref03_TakeList.mono _ _ _
      | exact odysseyref03_TakeNum.mono _ _ _
      | exact odysseyref03_TakeText.mono _ _ _
      | exact pack_TakeList.mono _ _ _
      | exact pack_TakeNum.mono _ _ _
      | exact pack_TakeText.mono _ _ _
      | exact LeO.none _
      | refine LeO.ite ?_ ?_
      | refine LeO.bind ?_ (fun _ => ?_)
    · intro y0 y1 y2 y3 y4 y5 y6
      unfold odysseylaw03_PackTakes.l0
      repeat' first
      | (with_reducible exact ih0 _ _ _)
      | (with_reducible exact ih1 _ _ _)
      | (with_reducible exact ih2 _ _ _ _ _ _ _)
      | (with_reducible exact ih3 _ _ _ _ _ _ _)
      | (with_reducible exact odysseylaw03_live.mono _)
      | (with_reducible exact odysseylaw03_same.mono _ _ _)
      | (with_reducible exact odysseyref03_TakeList.mono _ _ _)
      | (with_reducible exact odysseyref03_TakeNum.mono _ _ _)
      | (with_reducible exact odysseyref03_TakeText.mono _ _ _)
      | (with_reducible exact pack_TakeList.mono _ _ _)
      | (with_reducible exact pack_TakeNum.mono _ _ _)
      | (with_reducible exact pack_TakeText.mono _ _ _)
      | (with_reducible exact LeO.refl _)
      | (with_reducible exact LeO.none _)
      | (with_reducible refine LeO.ite ?_ ?_)
      | (with_reducible refine LeO.bind ?_ (fun _ => ?_))
      | exact ih0 _ _ _
      | exact ih1 _ _ _
      | exact ih2 _ _ _ _ _ _ _
      | exact ih3 _ _ _ _ _ _ _
      | exact odysseylaw03_live.mono _
      | exact odysseylaw03_same.mono _ _ _
      | exact odysseyref03_TakeList.mono _ _ _
      | exact odysseyref03_TakeNum.mono _ _ _
      | exact odysseyref03_TakeText.mono _ _ _
      | exact pack_TakeList.mono _ _ _
      | exact pack_TakeNum.mono _ _ _
      | exact pack_TakeText.mono _ _ _
      | exact LeO.none _
      | refine LeO.ite ?_ ?_
      | refine LeO.bind ?_ (fun _ => ?_)
theorem odysseylaw03_PackTakes.mono : ∀ a0 a1 k, LeO (odysseylaw03_PackTakes.f k a0 a1) (odysseylaw03_PackTakes.f (k + 1) a0 a1) := by
  intro a0 a1 k
  obtain ⟨ih0, ih1, ih2, ih3⟩ := odysseylaw03_PackTakes.mono_l k
  unfold odysseylaw03_PackTakes.f
  repeat' first
      | (with_reducible exact ih0 _ _ _)
      | (with_reducible exact ih1 _ _ _)
      | (with_reducible exact ih2 _ _ _ _ _ _ _)
      | (with_reducible exact ih3 _ _ _ _ _ _ _)
      | (with_reducible exact odysseylaw03_live.mono _)
      | (with_reducible exact odysseylaw03_same.mono _ _ _)
      | (with_reducible exact odysseyref03_TakeList.mono _ _ _)
      | (with_reducible exact odysseyref03_TakeNum.mono _ _ _)
      | (with_reducible exact odysseyref03_TakeText.mono _ _ _)
      | (with_reducible exact pack_TakeList.mono _ _ _)
      | (with_reducible exact pack_TakeNum.mono _ _ _)
      | (with_reducible exact pack_TakeText.mono _ _ _)
      | (with_reducible exact LeO.refl _)
      | (with_reducible exact LeO.none _)
      | (with_reducible refine LeO.ite ?_ ?_)
      | (with_reducible refine LeO.bind ?_ (fun _ => ?_))
      | exact ih0 _ _ _
      | exact ih1 _ _ _
      | exact ih2 _ _ _ _ _ _ _
      | exact ih3 _ _ _ _ _ _ _
      | exact odysseylaw03_live.mono _
      | exact odysseylaw03_same.mono _ _ _
      | exact odysseyref03_TakeList.mono _ _ _
      | exact odysseyref03_TakeNum.mono _ _ _
      | exact odysseyref03_TakeText.mono _ _ _
      | exact pack_TakeList.mono _ _ _
      | exact pack_TakeNum.mono _ _ _
      | exact pack_TakeText.mono _ _ _
      | exact LeO.none _
      | refine LeO.ite ?_ ?_
      | refine LeO.bind ?_ (fun _ => ?_)
set_option maxHeartbeats 8000000 in
set_option maxRecDepth 100000 in
theorem odysseylaw03_PackTakes.calls (k : Nat) (a0 : ByteArray) (a1 : Int) (r : Bool) (w : World) (h : odysseylaw03_PackTakes.f k a0 a1 = some r) :
    Calls Try.prog 5 #[.string a0, .int .i64 a1] w fun e w' => e = .returned (.bool r) ∧ Below w.heap.size w w' := by
  have HB := Aside0.mk (Below.refl w.heap.size w)
  have H : ((pack_TakeNum.f k a0 a1).bind fun bt138 => ((odysseyref03_TakeNum.f k a0 a1).bind fun bt141 => (if bt138.1 = bt141.1 then (if bt138.2.1 = bt141.2.1 then (odysseylaw03_PackTakes.j0 k a0 a1 (bt138.2.2 != bt141.2.2)) else (odysseylaw03_PackTakes.j0 k a0 a1 true)) else (odysseylaw03_PackTakes.j0 k a0 a1 true)))) = some r := h
  clear h
  replace H := Option.bind_eq_some_iff.mp H
  obtain ⟨⟨t138, t139, t140⟩, A30, H⟩ := H
  replace H : ((odysseyref03_TakeNum.f k a0 a1).bind fun bt141 => (if t138 = bt141.1 then (if t139 = bt141.2.1 then (odysseylaw03_PackTakes.j0 k a0 a1 (t140 != bt141.2.2)) else (odysseylaw03_PackTakes.j0 k a0 a1 true)) else (odysseylaw03_PackTakes.j0 k a0 a1 true))) = some r := H
  have A3 := Aside0.mk A30
  clear A30
  replace H := Option.bind_eq_some_iff.mp H
  obtain ⟨⟨t141, t142, t143⟩, A40, H⟩ := H
  replace H : (if t138 = t141 then (if t139 = t142 then (odysseylaw03_PackTakes.j0 k a0 a1 (t140 != t143)) else (odysseylaw03_PackTakes.j0 k a0 a1 true)) else (odysseylaw03_PackTakes.j0 k a0 a1 true)) = some r := H
  have A4 := Aside0.mk A40
  clear A40
  have HC5 := Aside0.mk H
  clear H
  go_enter Try.func5, Try.ntmps5
  go_upto_region 3 with (first | ((with_reducible refine gate_callee (f := 13) rfl ?_); refine goesL_ (some 27) rfl rfl Try.func13 (by kernel_rfl) rfl #[.string a0, .int .i64 a1] rfl (by (try simp only [List.map_toArray, List.map_cons, List.map_nil]); first | done | rfl | (simp only [List.length_drop, List.length_take]; rfl)) ?_; (with_reducible refine (pack_TakeNum.calls k a0 a1 t138 t139 t140 _ A3.out).mono ?_); rintro e w6 ⟨rfl, hb⟩; refine ⟨_, rfl, ?_⟩; have n0_ := Aside0.mk (below_step (by repeat (first | (with_reducible first | exact HB.out | apply below_alloc | apply pw_below_drewN | apply below_drew1) | exact HB.out)) hb); clear HB; have HB := n0_; clear n0_; (try clear hb); (try clear hb2); (try clear hk); (try clear hi)) | ((with_reducible refine gate_callee (f := 14) rfl ?_); refine goesL_ (some 34) rfl rfl Try.func14 (by kernel_rfl) rfl #[.string a0, .int .i64 a1] rfl (by (try simp only [List.map_toArray, List.map_cons, List.map_nil]); first | done | rfl | (simp only [List.length_drop, List.length_take]; rfl)) ?_; (with_reducible refine (odysseyref03_TakeNum.calls k a0 a1 t141 t142 t143 _ A4.out).mono ?_); rintro e w' ⟨rfl, ⟨nd, rfl⟩⟩; refine ⟨_, rfl, ?_⟩))
  (try simp only [Act.put, List.setIfInBounds_toArray, List.set_cons_zero, List.set_cons_succ])
  go_cut [50] (fun v50 wc => ∃ (kq : Nat) (x50_4 : Bool), v50 = .bool x50_4 ∧ Aside0 (odysseylaw03_PackTakes.j0 kq a0 a1 x50_4 = some r) ∧ Aside0 (kq ≤ k) ∧ Aside0 (Below w.heap.size w wc))
  case first =>
    have H := HC5.out
    clear HC5
    by_cases c7 : t138 = t141
    · rw [if_pos c7] at H
      have c7b0 : (t138 == t141) = true := beq_iff_eq.mpr c7
      have c7b1 : (t138 != t141) = false := bne_eq_false_iff_eq.mpr c7
      clear c7
      (first | rw [c7b0] | (simp only [i64_w, i32_w]; rw [c7b0]) | skip)
      by_cases c8 : t139 = t142
      · rw [if_pos c8] at H
        have c8b0 : (t139 == t142) = true := beq_iff_eq.mpr c8
        have c8b1 : (t139 != t142) = false := bne_eq_false_iff_eq.mpr c8
        clear c8
        have H' := Aside0.mk H
        clear H
        go_wp2
        go_meet
        case rel => exact ⟨_, ((t140 != t143)), (by first | rfl | (simp; done) | (simp [*]; done)), H', ⟨by first | omega | exact Nat.le_refl _⟩, ⟨by repeat (first | (with_reducible first | exact HB.out | apply below_alloc | apply pw_below_drewN | apply below_drew1) | exact HB.out)⟩⟩
      · rw [if_neg c8] at H
        have c8b0 : (t139 == t142) = false := beq_eq_false_iff_ne.mpr c8
        have c8b1 : (t139 != t142) = true := bne_iff_ne.mpr c8
        have H' := Aside0.mk H
        clear H
        go_wp2
        go_meet
        case rel => exact ⟨_, (true), (by first | rfl | (simp; done) | (simp [*]; done)), H', ⟨by first | omega | exact Nat.le_refl _⟩, ⟨by repeat (first | (with_reducible first | exact HB.out | apply below_alloc | apply pw_below_drewN | apply below_drew1) | exact HB.out)⟩⟩
    · rw [if_neg c7] at H
      have c7b0 : (t138 == t141) = false := beq_eq_false_iff_ne.mpr c7
      have c7b1 : (t138 != t141) = true := bne_iff_ne.mpr c7
      (first | rw [c7b0] | (simp only [i64_w, i32_w]; rw [c7b0]) | skip)
      have H' := Aside0.mk H
      clear H
      go_wp2
      go_meet
      case rel => exact ⟨_, (true), (by first | rfl | (simp; done) | (simp [*]; done)), H', ⟨by first | omega | exact Nat.le_refl _⟩, ⟨by repeat (first | (with_reducible first | exact HB.out | apply below_alloc | apply pw_below_drewN | apply below_drew1) | exact HB.out)⟩⟩
  case rest =>
    clear HC5
    try clear c1
    try clear p2
    try clear c5
    try clear c7
    try clear c7b0
    try clear c7b1
    try clear c8
    try clear c8b0
    try clear c8b1
    obtain ⟨kq, x50_4, rfl, HA, HJ4, HB⟩ := hcut
    cases kq with
    | zero => exact absurd HA.out (by simp [odysseylaw03_PackTakes.j0])
    | succ kj4 =>
      have H := HA.out
      clear HA
      simp only [odysseylaw03_PackTakes.j0] at H
      by_cases c9 : x50_4 = true
      · subst c9
        have H1 : (some false) = some r := by rw [if_pos rfl] at H; exact H
        clear H
        have H := H1
        clear H1
        obtain rfl := Option.some.inj H
        go_wp2
        go_ret
        exact ⟨by first | rfl | (simp [errW_none, errW_some] <;> rfl) | (simp [*, errW_none, errW_some] <;> rfl), by repeat (first | (with_reducible first | exact HB.out | apply below_alloc | apply pw_below_drewN | apply below_drew1) | exact HB.out)⟩
      · replace c9 := Bool.eq_false_iff.mpr c9
        subst c9
        have H1 : ((pack_TakeText.f kj4 a0 a1).bind fun bt144 => ((odysseyref03_TakeText.f kj4 a0 a1).bind fun bt147 => (if bt144.1.toList = bt147.1.toList then (if bt144.2.1 = bt147.2.1 then (odysseylaw03_PackTakes.j1 kj4 a0 a1 (bt144.2.2 != bt147.2.2)) else (odysseylaw03_PackTakes.j1 kj4 a0 a1 true)) else (odysseylaw03_PackTakes.j1 kj4 a0 a1 true)))) = some r := by rw [if_neg (show ¬ (false = true) by decide)] at H; exact H
        clear H
        have H := H1
        clear H1
        replace H := Option.bind_eq_some_iff.mp H
        obtain ⟨⟨t144, t145, t146⟩, A100, H⟩ := H
        replace H : ((odysseyref03_TakeText.f kj4 a0 a1).bind fun bt147 => (if t144.toList = bt147.1.toList then (if t145 = bt147.2.1 then (odysseylaw03_PackTakes.j1 kj4 a0 a1 (t146 != bt147.2.2)) else (odysseylaw03_PackTakes.j1 kj4 a0 a1 true)) else (odysseylaw03_PackTakes.j1 kj4 a0 a1 true))) = some r := H
        have A10 := Aside0.mk A100
        clear A100
        replace H := Option.bind_eq_some_iff.mp H
        obtain ⟨⟨t147, t148, t149⟩, A110, H⟩ := H
        replace H : (if t144.toList = t147.toList then (if t145 = t148 then (odysseylaw03_PackTakes.j1 kj4 a0 a1 (t146 != t149)) else (odysseylaw03_PackTakes.j1 kj4 a0 a1 true)) else (odysseylaw03_PackTakes.j1 kj4 a0 a1 true)) = some r := H
        have A11 := Aside0.mk A110
        clear A110
        have HC12 := Aside0.mk H
        clear H
        go_upto_region 7 with (first | ((with_reducible refine gate_callee (f := 15) rfl ?_); refine goesL_ (some 54) rfl rfl Try.func15 (by kernel_rfl) rfl #[.string a0, .int .i64 a1] rfl (by (try simp only [List.map_toArray, List.map_cons, List.map_nil]); first | done | rfl | (simp only [List.length_drop, List.length_take]; rfl)) ?_; (with_reducible refine (pack_TakeText.calls kj4 a0 a1 t144 t145 t146 _ A10.out).mono ?_); rintro e w13 ⟨rfl, hb⟩; refine ⟨_, rfl, ?_⟩; have n0_ := Aside0.mk (below_step (by repeat (first | (with_reducible first | exact HB.out | apply below_alloc | apply pw_below_drewN | apply below_drew1) | exact HB.out)) hb); clear HB; have HB := n0_; clear n0_; (try clear hb); (try clear hb2); (try clear hk); (try clear hi)) | ((with_reducible refine gate_callee (f := 16) rfl ?_); refine goesL_ (some 61) rfl rfl Try.func16 (by kernel_rfl) rfl #[.string a0, .int .i64 a1] rfl (by (try simp only [List.map_toArray, List.map_cons, List.map_nil]); first | done | rfl | (simp only [List.length_drop, List.length_take]; rfl)) ?_; (with_reducible refine (odysseyref03_TakeText.calls kj4 a0 a1 t147 t148 t149 _ A11.out).mono ?_); rintro e w' ⟨rfl, ⟨nd, rfl⟩⟩; refine ⟨_, rfl, ?_⟩))
        (try simp only [Act.put, List.setIfInBounds_toArray, List.set_cons_zero, List.set_cons_succ])
        go_cut [77] (fun v77 wc => ∃ (kq : Nat) (x77_11 : Bool), v77 = .bool x77_11 ∧ Aside0 (odysseylaw03_PackTakes.j1 kq a0 a1 x77_11 = some r) ∧ Aside0 (kq ≤ kj4) ∧ Aside0 (Below w.heap.size w wc))
        case first =>
          have H := HC12.out
          clear HC12
          by_cases c14 : t144.toList = t147.toList
          · rw [if_pos c14] at H
            have c14b0 : (t144.toList == t147.toList) = true := beq_iff_eq.mpr c14
            have c14b1 : (t144.toList != t147.toList) = false := bne_eq_false_iff_eq.mpr c14
            clear c14
            (first | rw [c14b0] | (simp only [i64_w, i32_w]; rw [c14b0]) | skip)
            by_cases c15 : t145 = t148
            · rw [if_pos c15] at H
              have c15b0 : (t145 == t148) = true := beq_iff_eq.mpr c15
              have c15b1 : (t145 != t148) = false := bne_eq_false_iff_eq.mpr c15
              clear c15
              have H' := Aside0.mk H
              clear H
              go_wp2
              go_meet
              case rel => exact ⟨_, ((t146 != t149)), (by first | rfl | (simp; done) | (simp [*]; done)), H', ⟨by have := HJ4.out; first | omega | exact Nat.le_refl _⟩, ⟨by repeat (first | (with_reducible first | exact HB.out | apply below_alloc | apply pw_below_drewN | apply below_drew1) | exact HB.out)⟩⟩
            · rw [if_neg c15] at H
              have c15b0 : (t145 == t148) = false := beq_eq_false_iff_ne.mpr c15
              have c15b1 : (t145 != t148) = true := bne_iff_ne.mpr c15
              have H' := Aside0.mk H
              clear H
              go_wp2
              go_meet
              case rel => exact ⟨_, (true), (by first | rfl | (simp; done) | (simp [*]; done)), H', ⟨by have := HJ4.out; first | omega | exact Nat.le_refl _⟩, ⟨by repeat (first | (with_reducible first | exact HB.out | apply below_alloc | apply pw_below_drewN | apply below_drew1) | exact HB.out)⟩⟩
          · rw [if_neg c14] at H
            have c14b0 : (t144.toList == t147.toList) = false := beq_eq_false_iff_ne.mpr c14
            have c14b1 : (t144.toList != t147.toList) = true := bne_iff_ne.mpr c14
            (first | rw [c14b0] | (simp only [i64_w, i32_w]; rw [c14b0]) | skip)
            have H' := Aside0.mk H
            clear H
            go_wp2
            go_meet
            case rel => exact ⟨_, (true), (by first | rfl | (simp; done) | (simp [*]; done)), H', ⟨by have := HJ4.out; first | omega | exact Nat.le_refl _⟩, ⟨by repeat (first | (with_reducible first | exact HB.out | apply below_alloc | apply pw_below_drewN | apply below_drew1) | exact HB.out)⟩⟩
        case rest =>
          clear HC12
          try clear c1
          try clear p2
          try clear c5
          try clear c7
          try clear c7b0
          try clear c7b1
          try clear c8
          try clear c8b0
          try clear c8b1
          try clear c9
          try clear c13
          try clear c14
          try clear c14b0
          try clear c14b1
          try clear c15
          try clear c15b0
          try clear c15b1
          try clear p2
          obtain ⟨kq, x77_11, rfl, HA, HJ11, HB⟩ := hcut
          cases kq with
          | zero => exact absurd HA.out (by simp [odysseylaw03_PackTakes.j1])
          | succ kj11 =>
            have H := HA.out
            clear HA
            simp only [odysseylaw03_PackTakes.j1] at H
            by_cases c16 : x77_11 = true
            · subst c16
              have H1 : (some false) = some r := by rw [if_pos rfl] at H; exact H
              clear H
              have H := H1
              clear H1
              obtain rfl := Option.some.inj H
              go_wp2
              go_ret
              exact ⟨by first | rfl | (simp [errW_none, errW_some] <;> rfl) | (simp [*, errW_none, errW_some] <;> rfl), by repeat (first | (with_reducible first | exact HB.out | apply below_alloc | apply pw_below_drewN | apply below_drew1) | exact HB.out)⟩
            · replace c16 := Bool.eq_false_iff.mpr c16
              subst c16
              have H1 : ((pack_TakeList.f kj11 a0 a1).bind fun bt150 => ((odysseyref03_TakeList.f kj11 a0 a1).bind fun bt155 => ((odysseylaw03_same.f kj11 bt150.1 bt155.1).bind fun t160 => (if t160 = true then (if bt150.2.1 = bt155.2.1 then (odysseylaw03_PackTakes.j2 kj11 a0 a1 bt150.1 bt155.1 bt155.2.1 bt155.2.2 (bt150.2.2 != bt155.2.2)) else (odysseylaw03_PackTakes.j2 kj11 a0 a1 bt150.1 bt155.1 bt155.2.1 bt155.2.2 true)) else (odysseylaw03_PackTakes.j2 kj11 a0 a1 bt150.1 bt155.1 bt155.2.1 bt155.2.2 true))))) = some r := by rw [if_neg (show ¬ (false = true) by decide)] at H; exact H
              clear H
              have H := H1
              clear H1
              replace H := Option.bind_eq_some_iff.mp H
              obtain ⟨⟨t150, t151, t152⟩, A170, H⟩ := H
              replace H : ((odysseyref03_TakeList.f kj11 a0 a1).bind fun bt155 => ((odysseylaw03_same.f kj11 t150 bt155.1).bind fun t160 => (if t160 = true then (if t151 = bt155.2.1 then (odysseylaw03_PackTakes.j2 kj11 a0 a1 t150 bt155.1 bt155.2.1 bt155.2.2 (t152 != bt155.2.2)) else (odysseylaw03_PackTakes.j2 kj11 a0 a1 t150 bt155.1 bt155.2.1 bt155.2.2 true)) else (odysseylaw03_PackTakes.j2 kj11 a0 a1 t150 bt155.1 bt155.2.1 bt155.2.2 true)))) = some r := H
              have A17 := Aside0.mk A170
              clear A170
              replace H := Option.bind_eq_some_iff.mp H
              obtain ⟨⟨t155, t156, t157⟩, A180, H⟩ := H
              replace H : ((odysseylaw03_same.f kj11 t150 t155).bind fun t160 => (if t160 = true then (if t151 = t156 then (odysseylaw03_PackTakes.j2 kj11 a0 a1 t150 t155 t156 t157 (t152 != t157)) else (odysseylaw03_PackTakes.j2 kj11 a0 a1 t150 t155 t156 t157 true)) else (odysseylaw03_PackTakes.j2 kj11 a0 a1 t150 t155 t156 t157 true))) = some r := H
              have A18 := Aside0.mk A180
              clear A180
              have HC19 := Aside0.mk H
              clear H
              go_upto_region 11 with (first | ((with_reducible refine gate_callee (f := 17) rfl ?_); refine goesL_ (some 81) rfl rfl Try.func17 (by kernel_rfl) rfl #[.string a0, .int .i64 a1] rfl (by (try simp only [List.map_toArray, List.map_cons, List.map_nil]); first | done | rfl | (simp only [List.length_drop, List.length_take]; rfl)) ?_; (with_reducible refine (pack_TakeList.calls kj11 a0 a1 t150 t151 t152 _ A17.out).mono ?_); rintro e w20 ⟨v153, rfl, ho0, hb⟩; refine ⟨_, rfl, ?_⟩; have n0_ := Aside0.mk (Kd.R_lower ho0 (below_size (by repeat (first | (with_reducible first | exact HB.out | apply below_alloc | apply pw_below_drewN | apply below_drew1) | exact HB.out)))); have n1_ := Aside0.mk (below_step (by repeat (first | (with_reducible first | exact HB.out | apply below_alloc | apply pw_below_drewN | apply below_drew1) | exact HB.out)) hb); clear HB; have HO154 := n0_; have HB := n1_; clear n0_ n1_; (try clear hb); (try clear hb2); (try clear hk); (try clear hi); (try clear ho0)) | ((with_reducible refine gate_callee (f := 18) rfl ?_); refine goesL_ (some 88) rfl rfl Try.func18 (by kernel_rfl) rfl #[.string a0, .int .i64 a1] rfl (by (try simp only [List.map_toArray, List.map_cons, List.map_nil]); first | done | rfl | (simp only [List.length_drop, List.length_take]; rfl)) ?_; (with_reducible refine (odysseyref03_TakeList.calls kj11 a0 a1 t155 t156 t157 _ A18.out).mono ?_); rintro e w21 ⟨v158, rfl, ho0, hb⟩; refine ⟨_, rfl, ?_⟩; have n0_ := Aside0.mk (Kd.R_elder' (by (with_reducible repeat (first | apply Kd.R_alloc | apply Kd.R_drewN | apply Kd.R_drew)); exact HO154.out) (Kd.R_base ho0) hb); have n1_ := Aside0.mk (Kd.R_lower (Kd.R_new' ho0 (Kd.R_lt (by (with_reducible repeat (first | apply Kd.R_alloc | apply Kd.R_drewN | apply Kd.R_drew)); exact HO154.out))) (below_size (by repeat (first | (with_reducible first | exact HB.out | apply below_alloc | apply pw_below_drewN | apply below_drew1) | exact HB.out)))); have n2_ := Aside0.mk (below_step (by repeat (first | (with_reducible first | exact HB.out | apply below_alloc | apply pw_below_drewN | apply below_drew1) | exact HB.out)) hb); clear HO154; clear HB; have HO154 := n0_; have HO159 := n1_; have HB := n2_; clear n0_ n1_ n2_; (try clear hb); (try clear hb2); (try clear hk); (try clear hi); (try clear ho0)))
              (try simp only [Act.put, List.setIfInBounds_toArray, List.set_cons_zero, List.set_cons_succ])
              go_cut [105] (fun v105 wc => ∃ (kq : Nat) (x105_18 : Bool), v105 = .bool x105_18 ∧ Aside0 (odysseylaw03_PackTakes.j2 kq a0 a1 t150 t155 t156 t157 x105_18 = some r) ∧ Aside0 (kq ≤ kj11) ∧ Aside0 (Kd.R Kd.string 9 wc w.heap.size (fun k_ => some k_ ≠ (v158 : Value).ownBlock) v153 t150) ∧ Aside0 (Kd.R Kd.string 9 wc w.heap.size (fun k_ => some k_ ≠ (v153 : Value).ownBlock) v158 t155) ∧ Aside0 (Below w.heap.size w wc))
              case first =>
                have H := HC19.out
                clear HC19
                replace H := Option.bind_eq_some_iff.mp H
                obtain ⟨t160, A220, H⟩ := H
                replace H : (if t160 = true then (if t151 = t156 then (odysseylaw03_PackTakes.j2 kj11 a0 a1 t150 t155 t156 t157 (t152 != t157)) else (odysseylaw03_PackTakes.j2 kj11 a0 a1 t150 t155 t156 t157 true)) else (odysseylaw03_PackTakes.j2 kj11 a0 a1 t150 t155 t156 t157 true)) = some r := H
                have A22 := Aside0.mk A220
                clear A220
                by_cases c23 : t160 = true
                · subst c23
                  have H1 : (if t151 = t156 then (odysseylaw03_PackTakes.j2 kj11 a0 a1 t150 t155 t156 t157 (t152 != t157)) else (odysseylaw03_PackTakes.j2 kj11 a0 a1 t150 t155 t156 t157 true)) = some r := by rw [if_pos rfl] at H; exact H
                  clear H
                  have H := H1
                  clear H1
                  by_cases c24 : t151 = t156
                  · rw [if_pos c24] at H
                    have c24b0 : (t151 == t156) = true := beq_iff_eq.mpr c24
                    have c24b1 : (t151 != t156) = false := bne_eq_false_iff_eq.mpr c24
                    clear c24
                    (first | rw [c24b0] | (simp only [i64_w, i32_w]; rw [c24b0]) | skip)
                    have H' := Aside0.mk H
                    clear H
                    obtain ⟨Ao25, co25, eo25⟩ := Kd.R_slice HO154.out
                    subst eo25
                    obtain ⟨Ao26, co26, eo26⟩ := Kd.R_slice HO159.out
                    subst eo26
                    go_wp2_with (first | ((with_reducible refine gate_callee (f := 19) rfl ?_); refine goesL_ (some 94) rfl rfl Try.func19 (by kernel_rfl) rfl #[.slice Ao25 t150.length co25, .slice Ao26 t155.length co26] rfl (by (try simp only [List.map_toArray, List.map_cons, List.map_nil]); first | done | rfl | (simp only [List.length_drop, List.length_take]; rfl)) ?_; (with_reducible refine (odysseylaw03_same.calls kj11 _ _ t150 _ _ t155 true _ ?side1 ?side2 ?side3 ?side4 A22.out).mono ?_); (case side1 => repeat (first | exact (Kd.R_reads' HO154.out).2.2 | (with_reducible refine Kd.C_alloc ?_ _) | (with_reducible refine Kd.C_drewN ?_ _) | (with_reducible refine Kd.C_drew ?_))); (case side2 => exact (Kd.R_reads' HO154.out).2.1); (case side3 => repeat (first | exact (Kd.R_reads' HO159.out).2.2 | (with_reducible refine Kd.C_alloc ?_ _) | (with_reducible refine Kd.C_drewN ?_ _) | (with_reducible refine Kd.C_drew ?_))); (case side4 => exact (Kd.R_reads' HO159.out).2.1); rintro e w' ⟨rfl, ⟨nd, rfl⟩⟩; refine ⟨_, rfl, ?_⟩))
                    go_meet
                    case rel => exact ⟨_, ((t152 != t157)), (by first | rfl | (simp; done) | (simp [*]; done)), H', ⟨by have := HJ4.out; have := HJ11.out; first | omega | exact Nat.le_refl _⟩, ⟨by (with_reducible repeat (first | apply Kd.R_alloc | apply Kd.R_drewN | apply Kd.R_drew)); exact Kd.R_mono HO154.out (fun _ hk => hk.2)⟩, ⟨by (with_reducible repeat (first | apply Kd.R_alloc | apply Kd.R_drewN | apply Kd.R_drew)); exact Kd.R_mono HO159.out (fun _ hk => hk.2)⟩, ⟨by repeat (first | (with_reducible first | exact HB.out | apply below_alloc | apply pw_below_drewN | apply below_drew1) | exact HB.out)⟩⟩
                  · rw [if_neg c24] at H
                    have c24b0 : (t151 == t156) = false := beq_eq_false_iff_ne.mpr c24
                    have c24b1 : (t151 != t156) = true := bne_iff_ne.mpr c24
                    (first | rw [c24b0] | (simp only [i64_w, i32_w]; rw [c24b0]) | skip)
                    have H' := Aside0.mk H
                    clear H
                    obtain ⟨Ao27, co27, eo27⟩ := Kd.R_slice HO154.out
                    subst eo27
                    obtain ⟨Ao28, co28, eo28⟩ := Kd.R_slice HO159.out
                    subst eo28
                    go_wp2_with (first | ((with_reducible refine gate_callee (f := 19) rfl ?_); refine goesL_ (some 94) rfl rfl Try.func19 (by kernel_rfl) rfl #[.slice Ao27 t150.length co27, .slice Ao28 t155.length co28] rfl (by (try simp only [List.map_toArray, List.map_cons, List.map_nil]); first | done | rfl | (simp only [List.length_drop, List.length_take]; rfl)) ?_; (with_reducible refine (odysseylaw03_same.calls kj11 _ _ t150 _ _ t155 true _ ?side1 ?side2 ?side3 ?side4 A22.out).mono ?_); (case side1 => repeat (first | exact (Kd.R_reads' HO154.out).2.2 | (with_reducible refine Kd.C_alloc ?_ _) | (with_reducible refine Kd.C_drewN ?_ _) | (with_reducible refine Kd.C_drew ?_))); (case side2 => exact (Kd.R_reads' HO154.out).2.1); (case side3 => repeat (first | exact (Kd.R_reads' HO159.out).2.2 | (with_reducible refine Kd.C_alloc ?_ _) | (with_reducible refine Kd.C_drewN ?_ _) | (with_reducible refine Kd.C_drew ?_))); (case side4 => exact (Kd.R_reads' HO159.out).2.1); rintro e w' ⟨rfl, ⟨nd, rfl⟩⟩; refine ⟨_, rfl, ?_⟩))
                    go_meet
                    case rel => exact ⟨_, (true), (by first | rfl | (simp; done) | (simp [*]; done)), H', ⟨by have := HJ4.out; have := HJ11.out; first | omega | exact Nat.le_refl _⟩, ⟨by (with_reducible repeat (first | apply Kd.R_alloc | apply Kd.R_drewN | apply Kd.R_drew)); exact Kd.R_mono HO154.out (fun _ hk => hk.2)⟩, ⟨by (with_reducible repeat (first | apply Kd.R_alloc | apply Kd.R_drewN | apply Kd.R_drew)); exact Kd.R_mono HO159.out (fun _ hk => hk.2)⟩, ⟨by repeat (first | (with_reducible first | exact HB.out | apply below_alloc | apply pw_below_drewN | apply below_drew1) | exact HB.out)⟩⟩
                · replace c23 := Bool.eq_false_iff.mpr c23
                  subst c23
                  have H1 : (odysseylaw03_PackTakes.j2 kj11 a0 a1 t150 t155 t156 t157 true) = some r := by rw [if_neg (show ¬ (false = true) by decide)] at H; exact H
                  clear H
                  have H := H1
                  clear H1
                  have H' := Aside0.mk H
                  clear H
                  obtain ⟨Ao29, co29, eo29⟩ := Kd.R_slice HO154.out
                  subst eo29
                  obtain ⟨Ao30, co30, eo30⟩ := Kd.R_slice HO159.out
                  subst eo30
                  go_wp2_with (first | ((with_reducible refine gate_callee (f := 19) rfl ?_); refine goesL_ (some 94) rfl rfl Try.func19 (by kernel_rfl) rfl #[.slice Ao29 t150.length co29, .slice Ao30 t155.length co30] rfl (by (try simp only [List.map_toArray, List.map_cons, List.map_nil]); first | done | rfl | (simp only [List.length_drop, List.length_take]; rfl)) ?_; (with_reducible refine (odysseylaw03_same.calls kj11 _ _ t150 _ _ t155 false _ ?side1 ?side2 ?side3 ?side4 A22.out).mono ?_); (case side1 => repeat (first | exact (Kd.R_reads' HO154.out).2.2 | (with_reducible refine Kd.C_alloc ?_ _) | (with_reducible refine Kd.C_drewN ?_ _) | (with_reducible refine Kd.C_drew ?_))); (case side2 => exact (Kd.R_reads' HO154.out).2.1); (case side3 => repeat (first | exact (Kd.R_reads' HO159.out).2.2 | (with_reducible refine Kd.C_alloc ?_ _) | (with_reducible refine Kd.C_drewN ?_ _) | (with_reducible refine Kd.C_drew ?_))); (case side4 => exact (Kd.R_reads' HO159.out).2.1); rintro e w' ⟨rfl, ⟨nd, rfl⟩⟩; refine ⟨_, rfl, ?_⟩))
                  go_meet
                  case rel => exact ⟨_, (true), (by first | rfl | (simp; done) | (simp [*]; done)), H', ⟨by have := HJ4.out; have := HJ11.out; first | omega | exact Nat.le_refl _⟩, ⟨by (with_reducible repeat (first | apply Kd.R_alloc | apply Kd.R_drewN | apply Kd.R_drew)); exact Kd.R_mono HO154.out (fun _ hk => hk.2)⟩, ⟨by (with_reducible repeat (first | apply Kd.R_alloc | apply Kd.R_drewN | apply Kd.R_drew)); exact Kd.R_mono HO159.out (fun _ hk => hk.2)⟩, ⟨by repeat (first | (with_reducible first | exact HB.out | apply below_alloc | apply pw_below_drewN | apply below_drew1) | exact HB.out)⟩⟩
              case rest =>
                clear HC19
                try clear c1
                try clear c2
                try clear p2
                try clear c5
                try clear c7
                try clear c7b0
                try clear c7b1
                try clear c8
                try clear c8b0
                try clear c8b1
                try clear c9
                try clear c13
                try clear c14
                try clear c14b0
                try clear c14b1
                try clear c15
                try clear c15b0
                try clear c15b1
                try clear c16
                try clear c17
                try clear c18
                try clear c19
                try clear c23
                try clear c24
                try clear c24b0
                try clear c24b1
                try clear p2
                obtain ⟨kq, x105_18, rfl, HA, HJ18, HO_17, HO_20, HB⟩ := hcut
                cases kq with
                | zero => exact absurd HA.out (by simp [odysseylaw03_PackTakes.j2])
                | succ kj18 =>
                  have H := HA.out
                  clear HA
                  simp only [odysseylaw03_PackTakes.j2] at H
                  by_cases c31 : x105_18 = true
                  · subst c31
                    have H1 : (some false) = some r := by rw [if_pos rfl] at H; exact H
                    clear H
                    have H := H1
                    clear H1
                    obtain rfl := Option.some.inj H
                    go_wp2
                    go_ret
                    exact ⟨by first | rfl | (simp [errW_none, errW_some] <;> rfl) | (simp [*, errW_none, errW_some] <;> rfl), by repeat (first | (with_reducible first | exact HB.out | apply below_alloc | apply pw_below_drewN | apply below_drew1) | exact HB.out)⟩
                  · replace c31 := Bool.eq_false_iff.mpr c31
                    subst c31
                    have H1 : (odysseylaw03_PackTakes.l0 kj18 a0 a1 t150 t155 t156 t157 0) = some r := by rw [if_neg (show ¬ (false = true) by decide)] at H; exact H
                    clear H
                    have H := H1
                    clear H1
                    have H' := Aside0.mk H
                    clear H
                    go_wp2
                    go_loopg [23] kj18 (fun kq v23 w' => ∃ (x17_4 : List ByteArray) (x23_4 : Int), v23 = .int .i64 x23_4 ∧ Aside0 (odysseylaw03_PackTakes.l0 kq a0 a1 x17_4 t155 t156 t157 x23_4 = some r) ∧ Aside0 (kq ≤ kj18) ∧ Aside0 (Kd.R Kd.string 9 w' w.heap.size (fun k_ => some k_ ≠ (v158 : Value).ownBlock) v153 x17_4) ∧ Aside0 (Kd.R Kd.string 9 w' w.heap.size (fun k_ => some k_ ≠ (v153 : Value).ownBlock) v158 t155) ∧ Aside0 (Below w.heap.size w w'))
                    case atStart => exact ⟨(t150), (0), (by first | rfl | (simp; done) | (simp [*]; done)), H', ⟨Nat.le_refl _⟩, ⟨by (with_reducible repeat (first | apply Kd.R_alloc | apply Kd.R_drewN | apply Kd.R_drew)); exact HO_17.out⟩, ⟨by (with_reducible repeat (first | apply Kd.R_alloc | apply Kd.R_drewN | apply Kd.R_drew)); exact HO_20.out⟩, ⟨by repeat (first | (with_reducible first | exact HB.out | apply below_alloc | apply pw_below_drewN | apply below_drew1) | exact HB.out)⟩⟩
                    case round =>
                      clear H'
                      try clear c1
                      try clear c2
                      try clear p2
                      try clear c3
                      try clear c5
                      try clear c7
                      try clear c7b0
                      try clear c7b1
                      try clear c8
                      try clear c8b0
                      try clear c8b1
                      try clear c9
                      try clear c13
                      try clear c14
                      try clear c14b0
                      try clear c14b1
                      try clear c15
                      try clear c15b0
                      try clear c15b1
                      try clear c16
                      try clear c17
                      try clear c18
                      try clear c19
                      try clear c23
                      try clear c24
                      try clear c24b0
                      try clear c24b1
                      try clear c31
                      try clear p2
                      obtain ⟨x17_4, x23_4, rfl, HA, HK4, HO_17, HO_20, HB⟩ := hrel
                      cases gk with
                      | zero => exact absurd HA.out (by simp [odysseylaw03_PackTakes.l0])
                      | succ k4 =>
                        have H := HA.out
                        clear HA
                        simp only [odysseylaw03_PackTakes.l0] at H
                        by_cases c32 : x23_4 < (x17_4.length : Int)
                        · rw [if_pos c32] at H
                          have c32b0 : decide (x23_4 < (x17_4.length : Int)) = true := decide_eq_true c32
                          clear c32
                          by_cases c33 : 0 ≤ x23_4
                          · rw [if_pos c33] at H
                            have c33b0 : decide (0 ≤ x23_4) = true := decide_eq_true c33
                            clear c33
                            obtain ⟨y161, hy161⟩ : ∃ y_ : List ByteArray, y_ = (x17_4.set (x23_4 : Int).toNat (⟨#[120]⟩ : ByteArray)) := ⟨_, rfl⟩
                            replace H : (odysseylaw03_PackTakes.l0 k4 a0 a1 y161 t155 t156 t157 (wrap64 (x23_4 + 1))) = some r := by first | (rw [hy161]; with_reducible exact H) | (have H2_ := (Option.bind_some _ _).symm.trans H; rw [hy161]; with_reducible exact H2_) | (have H2_ := (Option.bind_some _ _).symm.trans H; with_reducible exact H2_) | with_reducible exact H | (rw [hy161]; exact H) | exact H
                            have Ny161 := Aside0.mk hy161
                            clear hy161
                            have H' := Aside0.mk H
                            clear H
                            obtain ⟨Ao35, co35, eo35⟩ := Kd.R_slice HO_17.out
                            subst eo35
                            have p34 : 0 ≤ (x23_4 : Int) := of_decide_eq_true (by first | (with_reducible assumption) | assumption)
                            have q34 : (x23_4 : Int) < ((x17_4.length : Int) : Int) := of_decide_eq_true (by first | (with_reducible assumption) | assumption)
                            obtain ⟨go34, co34, eo34, gb34, gl34, cl34, HG34⟩ := Kd.R_form HO_17.out (by omega)
                            (first | cases eo34 | (injection eo34 with ea_ en_ ec_; (first | subst ea_ | (injection ea_ with ea_; subst ea_)); subst ec_; clear en_))
                            have GB34 := Aside0.mk gb34
                            have GG34 := Aside0.mk HG34
                            clear gb34 gl34 HG34
                            obtain ⟨hx34_0, hf34_0⟩ := Kd.R_celln (⟨#[]⟩ : ByteArray) HO_17.out (x23_4 : Int) p34 q34
                            replace p34 := eq_true p34
                            replace q34 := eq_true q34
                            have HP36 := Kd.R_putg HO_17.out (x23_4 : Int) (⟨#[120]⟩ : ByteArray)
                            go_wp2_with (first | ((with_reducible refine gate_store (t := 9) (p := 114) rfl ?_); refine store_event (t := 9) (p := 114) (v := ?vo_w37) (w1 := (wr.setCell ⟨go34, (x23_4 : Int).toNat, none⟩ (.string (⟨#[120]⟩ : ByteArray)))) ?hg ?ho ?hn ?hr ?_; (case ho => rfl); (case hg => rfl); (case hn => rfl); (case hr => first | (go_simp; done) | (go_simp; rfl)); intro w37 hw; have hg : wr.grownBy w37 (some go34) := (by rw [hw]; exact HP36.2); have hp_ : Kd.R Kd.string 9 w37 w.heap.size (fun k_ => some k_ ≠ (v158 : Value).ownBlock) (.slice (some ⟨go34, 0, none⟩) x17_4.length co35) y161 := (by rw [hw, Ny161.out]; exact HP36.1); clear HP36; have n0_ := Aside0.mk (hp_); have n1_ := Aside0.mk (Kd.R_after (v := (.slice (some ⟨go34, 0, none⟩) x17_4.length co35)) (v1 := (.slice (some ⟨go34, 0, none⟩) x17_4.length co35)) (ok := (fun _ => True)) (by (with_reducible repeat (first | apply Kd.R_alloc | apply Kd.R_drewN | apply Kd.R_drew)); exact Kd.R_mono HO_20.out (fun _ hk => ⟨trivial, hk⟩)) hg (.inl rfl)); have n2_ := Aside0.mk ((by rw [hw]; exact below_set (HB.out) GB34.out : Below w.heap.size w w37)); clear HO_17; clear HO_20; clear HB; have HO_17 := n0_; have HO_20 := n1_; have HB := n2_; clear n0_ n1_ n2_; clear hg hw hp_))
                            go_roundg k4
                            case measure => have := HJ4.out; have := HJ11.out; have := HJ18.out; have := HK4.out; omega
                            case rel => exact ⟨(y161), (wrap64 (x23_4 + 1)), (by first | rfl | (simp; done) | (simp [*]; done)), H', ⟨by have := HJ4.out; have := HJ11.out; have := HJ18.out; have := HK4.out; omega⟩, ⟨by (with_reducible repeat (first | apply Kd.R_alloc | apply Kd.R_drewN | apply Kd.R_drew)); exact HO_17.out⟩, ⟨by (with_reducible repeat (first | apply Kd.R_alloc | apply Kd.R_drewN | apply Kd.R_drew)); exact Kd.R_mono HO_20.out (fun _ hk => hk.2)⟩, ⟨by repeat (first | (with_reducible first | exact HB.out | apply below_alloc | apply pw_below_drewN | apply below_drew1) | exact HB.out)⟩⟩
                          · rw [if_neg c33] at H
                            exact absurd H (by simp)
                        · rw [if_neg c32] at H
                          have c32b0 : decide (x23_4 < (x17_4.length : Int)) = false := decide_eq_false c32
                          clear c32
                          replace H := Option.bind_eq_some_iff.mp H
                          obtain ⟨⟨t162, t163, t164⟩, A380, H⟩ := H
                          replace H : ((odysseylaw03_same.f k4 t162 t155).bind fun t167 => (if t167 = true then (if t163 = t156 then (if t164 = t157 then ((odysseylaw03_live.f k4).bind fun t168 => (some t168)) else (some false)) else (some false)) else (some false))) = some r := H
                          have A38 := Aside0.mk A380
                          clear A380
                          replace H := Option.bind_eq_some_iff.mp H
                          obtain ⟨t167, A390, H⟩ := H
                          replace H : (if t167 = true then (if t163 = t156 then (if t164 = t157 then ((odysseylaw03_live.f k4).bind fun t168 => (some t168)) else (some false)) else (some false)) else (some false)) = some r := H
                          have A39 := Aside0.mk A390
                          clear A390
                          by_cases c40 : t167 = true
                          · subst c40
                            have H1 : (if t163 = t156 then (if t164 = t157 then ((odysseylaw03_live.f k4).bind fun t168 => (some t168)) else (some false)) else (some false)) = some r := by rw [if_pos rfl] at H; exact H
                            clear H
                            have H := H1
                            clear H1
                            by_cases c41 : t163 = t156
                            · rw [if_pos c41] at H
                              have c41b0 : (t163 == t156) = true := beq_iff_eq.mpr c41
                              have c41b1 : (t163 != t156) = false := bne_eq_false_iff_eq.mpr c41
                              clear c41
                              by_cases c42 : t164 = t157
                              · rw [if_pos c42] at H
                                have c42b0 : (t164 == t157) = true := beq_iff_eq.mpr c42
                                have c42b1 : (t164 != t157) = false := bne_eq_false_iff_eq.mpr c42
                                clear c42
                                replace H := Option.bind_eq_some_iff.mp H
                                obtain ⟨t168, A430, H⟩ := H
                                replace H : (some t168) = some r := H
                                have A43 := Aside0.mk A430
                                clear A430
                                obtain rfl := Option.some.inj H
                                obtain ⟨Ao44, co44, eo44⟩ := Kd.R_slice HO_17.out
                                subst eo44
                                go_wp2_with (first | ((with_reducible refine gate_callee (f := 17) rfl ?_); refine goesL_ (some 118) rfl rfl Try.func17 (by kernel_rfl) rfl #[.string a0, .int .i64 a1] rfl (by (try simp only [List.map_toArray, List.map_cons, List.map_nil]); first | done | rfl | (simp only [List.length_drop, List.length_take]; rfl)) ?_; (with_reducible refine (pack_TakeList.calls k4 a0 a1 t162 t163 t164 _ A38.out).mono ?_); rintro e w45 ⟨v165, rfl, ho0, hb⟩; refine ⟨_, rfl, ?_⟩; have n0_ := Aside0.mk (Kd.R_elder' (by (with_reducible repeat (first | apply Kd.R_alloc | apply Kd.R_drewN | apply Kd.R_drew)); exact HO_17.out) (Kd.R_base ho0) hb); have n1_ := Aside0.mk (Kd.R_elder' (by (with_reducible repeat (first | apply Kd.R_alloc | apply Kd.R_drewN | apply Kd.R_drew)); exact HO_20.out) (Kd.R_base ho0) hb); have n2_ := Aside0.mk (Kd.R_lower (Kd.R_new' (Kd.R_new' ho0 (Kd.R_lt (by (with_reducible repeat (first | apply Kd.R_alloc | apply Kd.R_drewN | apply Kd.R_drew)); exact HO_17.out))) (Kd.R_lt (by (with_reducible repeat (first | apply Kd.R_alloc | apply Kd.R_drewN | apply Kd.R_drew)); exact HO_20.out))) (below_size (by repeat (first | (with_reducible first | exact HB.out | apply below_alloc | apply pw_below_drewN | apply below_drew1) | exact HB.out)))); have n3_ := Aside0.mk (below_step (by repeat (first | (with_reducible first | exact HB.out | apply below_alloc | apply pw_below_drewN | apply below_drew1) | exact HB.out)) hb); clear HO_17; clear HO_20; clear HB; have HO_17 := n0_; have HO_20 := n1_; have HO166 := n2_; have HB := n3_; clear n0_ n1_ n2_ n3_; (try clear hb); (try clear hb2); (try clear hk); (try clear hi); (try clear ho0); obtain ⟨Ao46, co46, eo46⟩ := Kd.R_slice HO166.out; subst eo46; obtain ⟨Ao47, co47, eo47⟩ := Kd.R_slice HO_20.out; subst eo47) | ((with_reducible refine gate_callee (f := 19) rfl ?_); refine goesL_ (some 124) rfl rfl Try.func19 (by kernel_rfl) rfl #[.slice Ao46 t162.length co46, .slice Ao47 t155.length co47] rfl (by (try simp only [List.map_toArray, List.map_cons, List.map_nil]); first | done | rfl | (simp only [List.length_drop, List.length_take]; rfl)) ?_; (with_reducible refine (odysseylaw03_same.calls k4 _ _ t162 _ _ t155 true _ ?side1 ?side2 ?side3 ?side4 A39.out).mono ?_); (case side1 => repeat (first | exact (Kd.R_reads' HO166.out).2.2 | (with_reducible refine Kd.C_alloc ?_ _) | (with_reducible refine Kd.C_drewN ?_ _) | (with_reducible refine Kd.C_drew ?_))); (case side2 => exact (Kd.R_reads' HO166.out).2.1); (case side3 => repeat (first | exact (Kd.R_reads' HO_20.out).2.2 | (with_reducible refine Kd.C_alloc ?_ _) | (with_reducible refine Kd.C_drewN ?_ _) | (with_reducible refine Kd.C_drew ?_))); (case side4 => exact (Kd.R_reads' HO_20.out).2.1); rintro e w' ⟨rfl, ⟨nd, rfl⟩⟩; refine ⟨_, rfl, ?_⟩) | (go_at_call 12; (with_reducible refine (odysseylaw03_live.calls k4  t168 _ A43.out).mono ?_); rintro e w48 ⟨rfl, hb⟩; have n0_ := Aside0.mk (Kd.R_below (by (with_reducible repeat (first | apply Kd.R_alloc | apply Kd.R_drewN | apply Kd.R_drew)); exact HO_17.out) hb); have n1_ := Aside0.mk (Kd.R_below (by (with_reducible repeat (first | apply Kd.R_alloc | apply Kd.R_drewN | apply Kd.R_drew)); exact HO_20.out) hb); have n2_ := Aside0.mk (Kd.R_below (by (with_reducible repeat (first | apply Kd.R_alloc | apply Kd.R_drewN | apply Kd.R_drew)); exact HO166.out) hb); have n3_ := Aside0.mk (below_step (by repeat (first | (with_reducible first | exact HB.out | apply below_alloc | apply pw_below_drewN | apply below_drew1) | exact HB.out)) hb); clear HO_17; clear HO_20; clear HO166; clear HB; have HO_17 := n0_; have HO_20 := n1_; have HO166 := n2_; have HB := n3_; clear n0_ n1_ n2_ n3_; (try clear hb); (try clear hb2); (try clear hk); (try clear hi)))
                                go_ret
                                exact ⟨by first | rfl | (simp [errW_none, errW_some] <;> rfl) | (simp [*, errW_none, errW_some] <;> rfl), by repeat (first | (with_reducible first | exact HB.out | apply below_alloc | apply pw_below_drewN | apply below_drew1) | exact HB.out)⟩
                              · rw [if_neg c42] at H
                                have c42b0 : (t164 == t157) = false := beq_eq_false_iff_ne.mpr c42
                                have c42b1 : (t164 != t157) = true := bne_iff_ne.mpr c42
                                obtain rfl := Option.some.inj H
                                obtain ⟨Ao49, co49, eo49⟩ := Kd.R_slice HO_17.out
                                subst eo49
                                go_wp2_with (first | ((with_reducible refine gate_callee (f := 17) rfl ?_); refine goesL_ (some 118) rfl rfl Try.func17 (by kernel_rfl) rfl #[.string a0, .int .i64 a1] rfl (by (try simp only [List.map_toArray, List.map_cons, List.map_nil]); first | done | rfl | (simp only [List.length_drop, List.length_take]; rfl)) ?_; (with_reducible refine (pack_TakeList.calls k4 a0 a1 t162 t163 t164 _ A38.out).mono ?_); rintro e w50 ⟨v165, rfl, ho0, hb⟩; refine ⟨_, rfl, ?_⟩; have n0_ := Aside0.mk (Kd.R_elder' (by (with_reducible repeat (first | apply Kd.R_alloc | apply Kd.R_drewN | apply Kd.R_drew)); exact HO_17.out) (Kd.R_base ho0) hb); have n1_ := Aside0.mk (Kd.R_elder' (by (with_reducible repeat (first | apply Kd.R_alloc | apply Kd.R_drewN | apply Kd.R_drew)); exact HO_20.out) (Kd.R_base ho0) hb); have n2_ := Aside0.mk (Kd.R_lower (Kd.R_new' (Kd.R_new' ho0 (Kd.R_lt (by (with_reducible repeat (first | apply Kd.R_alloc | apply Kd.R_drewN | apply Kd.R_drew)); exact HO_17.out))) (Kd.R_lt (by (with_reducible repeat (first | apply Kd.R_alloc | apply Kd.R_drewN | apply Kd.R_drew)); exact HO_20.out))) (below_size (by repeat (first | (with_reducible first | exact HB.out | apply below_alloc | apply pw_below_drewN | apply below_drew1) | exact HB.out)))); have n3_ := Aside0.mk (below_step (by repeat (first | (with_reducible first | exact HB.out | apply below_alloc | apply pw_below_drewN | apply below_drew1) | exact HB.out)) hb); clear HO_17; clear HO_20; clear HB; have HO_17 := n0_; have HO_20 := n1_; have HO166 := n2_; have HB := n3_; clear n0_ n1_ n2_ n3_; (try clear hb); (try clear hb2); (try clear hk); (try clear hi); (try clear ho0); obtain ⟨Ao51, co51, eo51⟩ := Kd.R_slice HO166.out; subst eo51; obtain ⟨Ao52, co52, eo52⟩ := Kd.R_slice HO_20.out; subst eo52) | ((with_reducible refine gate_callee (f := 19) rfl ?_); refine goesL_ (some 124) rfl rfl Try.func19 (by kernel_rfl) rfl #[.slice Ao51 t162.length co51, .slice Ao52 t155.length co52] rfl (by (try simp only [List.map_toArray, List.map_cons, List.map_nil]); first | done | rfl | (simp only [List.length_drop, List.length_take]; rfl)) ?_; (with_reducible refine (odysseylaw03_same.calls k4 _ _ t162 _ _ t155 true _ ?side1 ?side2 ?side3 ?side4 A39.out).mono ?_); (case side1 => repeat (first | exact (Kd.R_reads' HO166.out).2.2 | (with_reducible refine Kd.C_alloc ?_ _) | (with_reducible refine Kd.C_drewN ?_ _) | (with_reducible refine Kd.C_drew ?_))); (case side2 => exact (Kd.R_reads' HO166.out).2.1); (case side3 => repeat (first | exact (Kd.R_reads' HO_20.out).2.2 | (with_reducible refine Kd.C_alloc ?_ _) | (with_reducible refine Kd.C_drewN ?_ _) | (with_reducible refine Kd.C_drew ?_))); (case side4 => exact (Kd.R_reads' HO_20.out).2.1); rintro e w' ⟨rfl, ⟨nd, rfl⟩⟩; refine ⟨_, rfl, ?_⟩))
                                go_ret
                                exact ⟨by first | rfl | (simp [errW_none, errW_some] <;> rfl) | (simp [*, errW_none, errW_some] <;> rfl), by repeat (first | (with_reducible first | exact HB.out | apply below_alloc | apply pw_below_drewN | apply below_drew1) | exact HB.out)⟩
                            · rw [if_neg c41] at H
                              have c41b0 : (t163 == t156) = false := beq_eq_false_iff_ne.mpr c41
                              have c41b1 : (t163 != t156) = true := bne_iff_ne.mpr c41
                              obtain rfl := Option.some.inj H
                              obtain ⟨Ao53, co53, eo53⟩ := Kd.R_slice HO_17.out
                              subst eo53
                              go_wp2_with (first | ((with_reducible refine gate_callee (f := 17) rfl ?_); refine goesL_ (some 118) rfl rfl Try.func17 (by kernel_rfl) rfl #[.string a0, .int .i64 a1] rfl (by (try simp only [List.map_toArray, List.map_cons, List.map_nil]); first | done | rfl | (simp only [List.length_drop, List.length_take]; rfl)) ?_; (with_reducible refine (pack_TakeList.calls k4 a0 a1 t162 t163 t164 _ A38.out).mono ?_); rintro e w54 ⟨v165, rfl, ho0, hb⟩; refine ⟨_, rfl, ?_⟩; have n0_ := Aside0.mk (Kd.R_elder' (by (with_reducible repeat (first | apply Kd.R_alloc | apply Kd.R_drewN | apply Kd.R_drew)); exact HO_17.out) (Kd.R_base ho0) hb); have n1_ := Aside0.mk (Kd.R_elder' (by (with_reducible repeat (first | apply Kd.R_alloc | apply Kd.R_drewN | apply Kd.R_drew)); exact HO_20.out) (Kd.R_base ho0) hb); have n2_ := Aside0.mk (Kd.R_lower (Kd.R_new' (Kd.R_new' ho0 (Kd.R_lt (by (with_reducible repeat (first | apply Kd.R_alloc | apply Kd.R_drewN | apply Kd.R_drew)); exact HO_17.out))) (Kd.R_lt (by (with_reducible repeat (first | apply Kd.R_alloc | apply Kd.R_drewN | apply Kd.R_drew)); exact HO_20.out))) (below_size (by repeat (first | (with_reducible first | exact HB.out | apply below_alloc | apply pw_below_drewN | apply below_drew1) | exact HB.out)))); have n3_ := Aside0.mk (below_step (by repeat (first | (with_reducible first | exact HB.out | apply below_alloc | apply pw_below_drewN | apply below_drew1) | exact HB.out)) hb); clear HO_17; clear HO_20; clear HB; have HO_17 := n0_; have HO_20 := n1_; have HO166 := n2_; have HB := n3_; clear n0_ n1_ n2_ n3_; (try clear hb); (try clear hb2); (try clear hk); (try clear hi); (try clear ho0); obtain ⟨Ao55, co55, eo55⟩ := Kd.R_slice HO166.out; subst eo55; obtain ⟨Ao56, co56, eo56⟩ := Kd.R_slice HO_20.out; subst eo56) | ((with_reducible refine gate_callee (f := 19) rfl ?_); refine goesL_ (some 124) rfl rfl Try.func19 (by kernel_rfl) rfl #[.slice Ao55 t162.length co55, .slice Ao56 t155.length co56] rfl (by (try simp only [List.map_toArray, List.map_cons, List.map_nil]); first | done | rfl | (simp only [List.length_drop, List.length_take]; rfl)) ?_; (with_reducible refine (odysseylaw03_same.calls k4 _ _ t162 _ _ t155 true _ ?side1 ?side2 ?side3 ?side4 A39.out).mono ?_); (case side1 => repeat (first | exact (Kd.R_reads' HO166.out).2.2 | (with_reducible refine Kd.C_alloc ?_ _) | (with_reducible refine Kd.C_drewN ?_ _) | (with_reducible refine Kd.C_drew ?_))); (case side2 => exact (Kd.R_reads' HO166.out).2.1); (case side3 => repeat (first | exact (Kd.R_reads' HO_20.out).2.2 | (with_reducible refine Kd.C_alloc ?_ _) | (with_reducible refine Kd.C_drewN ?_ _) | (with_reducible refine Kd.C_drew ?_))); (case side4 => exact (Kd.R_reads' HO_20.out).2.1); rintro e w' ⟨rfl, ⟨nd, rfl⟩⟩; refine ⟨_, rfl, ?_⟩))
                              go_ret
                              exact ⟨by first | rfl | (simp [errW_none, errW_some] <;> rfl) | (simp [*, errW_none, errW_some] <;> rfl), by repeat (first | (with_reducible first | exact HB.out | apply below_alloc | apply pw_below_drewN | apply below_drew1) | exact HB.out)⟩
                          · replace c40 := Bool.eq_false_iff.mpr c40
                            subst c40
                            have H1 : (some false) = some r := by rw [if_neg (show ¬ (false = true) by decide)] at H; exact H
                            clear H
                            have H := H1
                            clear H1
                            obtain rfl := Option.some.inj H
                            obtain ⟨Ao57, co57, eo57⟩ := Kd.R_slice HO_17.out
                            subst eo57
                            go_wp2_with (first | ((with_reducible refine gate_callee (f := 17) rfl ?_); refine goesL_ (some 118) rfl rfl Try.func17 (by kernel_rfl) rfl #[.string a0, .int .i64 a1] rfl (by (try simp only [List.map_toArray, List.map_cons, List.map_nil]); first | done | rfl | (simp only [List.length_drop, List.length_take]; rfl)) ?_; (with_reducible refine (pack_TakeList.calls k4 a0 a1 t162 t163 t164 _ A38.out).mono ?_); rintro e w58 ⟨v165, rfl, ho0, hb⟩; refine ⟨_, rfl, ?_⟩; have n0_ := Aside0.mk (Kd.R_elder' (by (with_reducible repeat (first | apply Kd.R_alloc | apply Kd.R_drewN | apply Kd.R_drew)); exact HO_17.out) (Kd.R_base ho0) hb); have n1_ := Aside0.mk (Kd.R_elder' (by (with_reducible repeat (first | apply Kd.R_alloc | apply Kd.R_drewN | apply Kd.R_drew)); exact HO_20.out) (Kd.R_base ho0) hb); have n2_ := Aside0.mk (Kd.R_lower (Kd.R_new' (Kd.R_new' ho0 (Kd.R_lt (by (with_reducible repeat (first | apply Kd.R_alloc | apply Kd.R_drewN | apply Kd.R_drew)); exact HO_17.out))) (Kd.R_lt (by (with_reducible repeat (first | apply Kd.R_alloc | apply Kd.R_drewN | apply Kd.R_drew)); exact HO_20.out))) (below_size (by repeat (first | (with_reducible first | exact HB.out | apply below_alloc | apply pw_below_drewN | apply below_drew1) | exact HB.out)))); have n3_ := Aside0.mk (below_step (by repeat (first | (with_reducible first | exact HB.out | apply below_alloc | apply pw_below_drewN | apply below_drew1) | exact HB.out)) hb); clear HO_17; clear HO_20; clear HB; have HO_17 := n0_; have HO_20 := n1_; have HO166 := n2_; have HB := n3_; clear n0_ n1_ n2_ n3_; (try clear hb); (try clear hb2); (try clear hk); (try clear hi); (try clear ho0); obtain ⟨Ao59, co59, eo59⟩ := Kd.R_slice HO166.out; subst eo59; obtain ⟨Ao60, co60, eo60⟩ := Kd.R_slice HO_20.out; subst eo60) | ((with_reducible refine gate_callee (f := 19) rfl ?_); refine goesL_ (some 124) rfl rfl Try.func19 (by kernel_rfl) rfl #[.slice Ao59 t162.length co59, .slice Ao60 t155.length co60] rfl (by (try simp only [List.map_toArray, List.map_cons, List.map_nil]); first | done | rfl | (simp only [List.length_drop, List.length_take]; rfl)) ?_; (with_reducible refine (odysseylaw03_same.calls k4 _ _ t162 _ _ t155 false _ ?side1 ?side2 ?side3 ?side4 A39.out).mono ?_); (case side1 => repeat (first | exact (Kd.R_reads' HO166.out).2.2 | (with_reducible refine Kd.C_alloc ?_ _) | (with_reducible refine Kd.C_drewN ?_ _) | (with_reducible refine Kd.C_drew ?_))); (case side2 => exact (Kd.R_reads' HO166.out).2.1); (case side3 => repeat (first | exact (Kd.R_reads' HO_20.out).2.2 | (with_reducible refine Kd.C_alloc ?_ _) | (with_reducible refine Kd.C_drewN ?_ _) | (with_reducible refine Kd.C_drew ?_))); (case side4 => exact (Kd.R_reads' HO_20.out).2.1); rintro e w' ⟨rfl, ⟨nd, rfl⟩⟩; refine ⟨_, rfl, ?_⟩))
                            go_ret
                            exact ⟨by first | rfl | (simp [errW_none, errW_some] <;> rfl) | (simp [*, errW_none, errW_some] <;> rfl), by repeat (first | (with_reducible first | exact HB.out | apply below_alloc | apply pw_below_drewN | apply below_drew1) | exact HB.out)⟩

/-- THE ONE PURE STATEMENT of odysseylaw03_PackTakes: yours. -/
def odysseylaw03_PackTakes.Pure : Prop := ∀ (a0 : ByteArray) (a1 : Int), a0.size ≤ 140737488351232 → (Lit.int .i64 a1).wf = true → ∃ k, odysseylaw03_PackTakes.f k a0 a1 = some true
theorem odysseylaw03_PackTakes.walk (P : odysseylaw03_PackTakes.Pure) (a0 : ByteArray) (a1 : Int) (w : World) (w0 : a0.size ≤ 140737488351232) (w1 : (Lit.int .i64 a1).wf = true) :
    Calls Try.prog 5 #[.string a0, .int .i64 a1] w fun e w' => e = .returned (.bool true) ∧ Below w.heap.size w w' := by
  obtain ⟨k, h⟩ := P a0 a1 w0 w1
  refine (odysseylaw03_PackTakes.calls k a0 a1 true w h).mono ?_
  rintro e w' ⟨rfl, hd⟩
  exact ⟨rfl, hd⟩

end Go.Proofs.Ytfifcanpdjdhcaa.PPackTakes
