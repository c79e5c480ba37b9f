/- Several texts in one, in build order: PPlanAheadsx0, PPlanAheadsx2, PPlanAheadsx3, Nm, PlRefIs, NameWalk, CmpWalk, Cmp2, PlName, PlRef01, Opens, RowsK, PlDef. -/
import Derived.Test.YthlgcibckakhbaaGreatDoorProg
import Derived.Below
import Derived.Deep.Draws
import Derived.Deep.AppendLies
import Derived.Maps.AppendAt
import Derived.OwnWalk
import Derived.Laws.BytesArg
import Derived.Laws.MakeOwn
import Derived.Laws.OwnMore
import Derived.Deep.OwnRows
import Derived.Tactics
import Derived.Lib.ConvBytes
import Derived.Laws.Slices
import Derived.WalkKit
import Derived.KernelRfl
import Derived.RowKit3
import Derived.Deep.LoopGhost
import Derived.Deep.QuietTactic
import Derived.BigQuiet
import Derived.WideLaws
import Derived.Deep.DeepCutAuto
import Derived.Deep.CutBlock
import Derived.Deep.RegionHeld3
import Derived.Laws.Rows
import Derived.Lib.AppendStr
import Derived.ArgAppend
import Derived.Laws.IdiomCopy
import Derived.OrdersHeld
import Derived.Laws.BitsLemmas
import Derived.RowKit
import Derived.Test.YthlgcibckakhbaaGreatDoorMPRWWords
import Derived.Test.YthlgcibckakhbaaGreatDoorMPRWLast
import Derived.Test.YthlgcibckakhbaaGreatDoorMPRWApart
import Derived.Test.YthlgcibckakhbaaGreatDoorMPRWArr
import Derived.Test.YthlgcibckakhbaaGreatDoorMPRWFoot
import Derived.Test.YthlgcibckakhbaaGreatDoorMPRWKept
import Derived.Test.YthlgcibckakhbaaGreatDoorMPRWShare
import Derived.Test.YthlgcibckakhbaaGreatDoorMPRWN
import Derived.Laws.StructEq
import Derived.Test.YthlgcibckakhbaaGreatDoorMPRWRepsOne
import Derived.Test.YthlgcibckakhbaaGreatDoorMPRWInv
import Derived.Test.YthlgcibckakhbaaGreatDoorMPRWInvWords
import Derived.Test.YthlgcibckakhbaaGreatDoorMPRWGuard
import Derived.Test.YthlgcibckakhbaaGreatDoorMPRWMore
import Derived.Laws.RangeAny
import Derived.Laws.Strings
import Derived.LoopTactic
import Derived.Outline
import Derived.IntWalk
import Derived.Laws.BitsAll
import Derived.Laws.Shifts
import Derived.Lib.OthersKept
import Derived.WalkSmall
import Derived.Test.YthlgcibckakhbaaGreatDoorMPRShelf
import Derived.SizedLaws
import Derived.ChangeSlices
import Derived.Carry
import Derived.ChangeOld
set_option linter.unusedVariables false
set_option linter.unusedSimpArgs false
namespace Go.Proofs.YthlgcibckakhbaaGreatDoor
theorem zA {α : Type} (l : List α) (i : Nat) (a : α) : l.toArray.setIfInBounds i a = (l.set i a).toArray := List.setIfInBounds_toArray ..
theorem zB {α : Type} (x : α) (l : List α) (a : α) : (x :: l).set 0 a = a :: l := List.set_cons_zero ..
theorem zC {α : Type} (x : α) (l : List α) (n : Nat) (a : α) : (x :: l).set (n + 1) a = x :: l.set n a := List.set_cons_succ ..
end Go.Proofs.YthlgcibckakhbaaGreatDoor
-- PRINTED BY print.sh 35421559b90ae4d0a3588c463048766b98c2df88dd9212a6774a882060cdf62d: not written by this session
namespace Go.Proofs.YthlgcibckakhbaaGreatDoor.PPlanAheads
open Go.RowKit Go.Proofs.YthlgcibckakhbaaGreatDoorW.PrintWords Go.Proofs.YthlgcibckakhbaaGreatDoorW.PrintLast Go.Proofs.YthlgcibckakhbaaGreatDoorW.PrintMore
attribute [local go_sem] max2_int min2_int max_two min_two max_three min_three max_four min_four   -- for this text's walks alone
set_option linter.unusedVariables false
set_option linter.unusedSimpArgs false

def errW : Option Int → Value
 | none => .nilIface
 | some c => .iface 0 (.int .i64 c)
theorem errW_none : errW none = .nilIface := rfl
theorem errW_some (c : Int) : errW (some c) = .iface 0 (.int .i64 c) := rfl

theorem info3 : (Tryz.prog.info? 3).map (fun i => (i.zero, i.size, i.bytes)) = some (some (.int .i64 0), 1, 8) := by kernel_rfl
theorem info9 : (Tryz.prog.info? 9).map (fun i => (i.zero, i.size, i.bytes)) = some (some (.string ⟨#[]⟩), 1, 16) := by kernel_rfl
theorem info37 : (Tryz.prog.info? 37).map (fun i => (i.zero, i.size, i.bytes)) = some (some (.agg #[(.string ⟨#[]⟩), (.int .i64 0), (.int .i64 0), (.slice none 0 0), (.slice none 0 0)]), 5, 80) := by kernel_rfl
-- the values' own types
/-! #### struct type 37 -/
structure S37 where
 f0 : ByteArray
 f1 : Int
 f2 : Int
 f3 : (List ByteArray)
 f4 : (List Int)
def z37 : S37 := ⟨(⟨#[]⟩ : ByteArray), (0 : Int), (0 : Int), ([] : List ByteArray), ([] : List Int)⟩
def k37 : Kd S37 := Kd.iso (Kd.pair Kd.string (Kd.pair (Kd.int .i64) (Kd.pair (Kd.int .i64) (Kd.pair (Kd.slice 9 Kd.string) (Kd.slice 3 (Kd.int .i64)))))) (fun x : S37 => (x.f0, x.f1, x.f2, x.f3, x.f4))
theorem k37_open {w : World} {x : S37} {cs : List Value} (h : k37.K w x cs) : ∃ A3 c3 A4 c4, cs = [.string x.f0, .int .i64 x.f1, .int .i64 x.f2, .slice A3 x.f3.length c3, .slice A4 x.f4.length c4] ∧ x.f3.length ≤ c3 ∧ Kd.string.C w A3 x.f3.length x.f3 ∧ x.f4.length ≤ c4 ∧ (Kd.int .i64).C w A4 x.f4.length x.f4 := by
 obtain ⟨_, _, rfl, rfl, ⟨_, _, rfl, rfl, ⟨_, _, rfl, rfl, ⟨_, _, rfl, ⟨A3, c3, rfl, l3, g3⟩, ⟨A4, c4, rfl, l4, g4⟩⟩⟩⟩⟩ := h
 exact ⟨A3, c3, A4, c4, rfl, l3, g3, l4, g4⟩
theorem k37_mk (w : World) (x : S37) {A3 : Option Addr} {c3 : Nat} (l3 : x.f3.length ≤ c3) (g3 : Kd.string.C w A3 x.f3.length x.f3) {A4 : Option Addr} {c4 : Nat} (l4 : x.f4.length ≤ c4) (g4 : (Kd.int .i64).C w A4 x.f4.length x.f4) : k37.K w x [.string x.f0, .int .i64 x.f1, .int .i64 x.f2, .slice A3 x.f3.length c3, .slice A4 x.f4.length c4] := ⟨[.string x.f0], [.int .i64 x.f1, .int .i64 x.f2, .slice A3 x.f3.length c3, .slice A4 x.f4.length c4], rfl, rfl, ⟨[.int .i64 x.f1], [.int .i64 x.f2, .slice A3 x.f3.length c3, .slice A4 x.f4.length c4], rfl, rfl, ⟨[.int .i64 x.f2], [.slice A3 x.f3.length c3, .slice A4 x.f4.length c4], rfl, rfl, ⟨[.slice A3 x.f3.length c3], [.slice A4 x.f4.length c4], rfl, ⟨A3, c3, rfl, l3, g3⟩, ⟨A4, c4, rfl, l4, g4⟩⟩⟩⟩⟩
theorem k37_mkM (w : World) (base : Nat) (ok : Nat → Prop) (x : S37) {v3 : Value} (g3 : Kd.string.R 9 w base ok v3 x.f3) {v4 : Value} (g4 : (Kd.int .i64).R 3 w base ok v4 x.f4) : k37.M w base ok x [.string x.f0, .int .i64 x.f1, .int .i64 x.f2, v3, v4] := ⟨[.string x.f0], [.int .i64 x.f1, .int .i64 x.f2, v3, v4], rfl, rfl, ⟨[.int .i64 x.f1], [.int .i64 x.f2, v3, v4], rfl, rfl, ⟨[.int .i64 x.f2], [v3, v4], rfl, rfl, ⟨[v3], [v4], rfl, ⟨v3, rfl, g3⟩, ⟨v4, rfl, g4⟩⟩⟩⟩⟩
def rd_T37 (xs : List S37) (i : Int) : S37 := xs.getD i.toNat z37
theorem at_T37 {w : World} {A : Option Addr} {n : Nat} {xs : List S37} (h : Kd.C k37 w A n xs) (i : Int) (h0 : 0 ≤ i) (h1 : i < n) : ∃ ad A3 c3 A4 c4, A = some ad ∧ w.cell? (ad.add (i.toNat * 5)) = some (.string (rd_T37 xs i).f0) ∧ w.cell? ⟨(ad.add (i.toNat * 5)).block, (ad.add (i.toNat * 5)).off + 1, none⟩ = some (.int .i64 (rd_T37 xs i).f1) ∧ w.cell? ⟨(ad.add (i.toNat * 5)).block, (ad.add (i.toNat * 5)).off + 2, none⟩ = some (.int .i64 (rd_T37 xs i).f2) ∧ w.cell? ⟨(ad.add (i.toNat * 5)).block, (ad.add (i.toNat * 5)).off + 3, none⟩ = some (.slice A3 (rd_T37 xs i).f3.length c3) ∧ w.cell? ⟨(ad.add (i.toNat * 5)).block, (ad.add (i.toNat * 5)).off + 4, none⟩ = some (.slice A4 (rd_T37 xs i).f4.length c4) ∧ (rd_T37 xs i).f3.length ≤ c3 ∧ Kd.string.C w A3 (rd_T37 xs i).f3.length (rd_T37 xs i).f3 ∧ (rd_T37 xs i).f4.length ≤ c4 ∧ (Kd.int .i64).C w A4 (rd_T37 xs i).f4.length (rd_T37 xs i).f4 := by
 obtain ⟨ad, c, e, _, hK, hc0⟩ := Kd.C_get h z37 i h0 h1
 have hc : ∀ j u, c[j]? = some u → w.cell? (ad.add (i.toNat * 5 + j)) = some u := hc0
 obtain ⟨A3, c3, A4, c4, rfl, l3, g3, l4, g4⟩ := k37_open hK
 exact ⟨ad, A3, c3, A4, c4, e, hc 0 _ rfl, by rw [← add_field _ _ 1 (by omega)]; exact hc 1 _ rfl, by rw [← add_field _ _ 2 (by omega)]; exact hc 2 _ rfl, by rw [← add_field _ _ 3 (by omega)]; exact hc 3 _ rfl, by rw [← add_field _ _ 4 (by omega)]; exact hc 4 _ rfl, l3, g3, l4, g4⟩

end Go.Proofs.YthlgcibckakhbaaGreatDoor.PPlanAheads

-- PRINTED BY print.sh 35421559b90ae4d0a3588c463048766b98c2df88dd9212a6774a882060cdf62d: not written by this session
namespace Go.Proofs.YthlgcibckakhbaaGreatDoor.PPlanAheads
open Go.RowKit Go.Proofs.YthlgcibckakhbaaGreatDoorW.PrintWords Go.Proofs.YthlgcibckakhbaaGreatDoorW.PrintLast Go.Proofs.YthlgcibckakhbaaGreatDoorW.PrintMore
attribute [local go_sem] max2_int min2_int max_two min_two max_three min_three max_four min_four   -- for this text's walks alone
set_option linter.unusedVariables false
set_option linter.unusedSimpArgs false

/-! ### odysseyref01_long: function 95 -/
mutual
def odysseyref01_long.j0 : Nat → Int → Bool → Option (Int)
 | 0, _, _ => none
 | k + 1, x0, x6 => if x6 = true then (some 2) else (if x0 ≥ 224 then (odysseyref01_long.j1 k x0 (decide (x0 ≤ 239))) else (odysseyref01_long.j1 k x0 false))
def odysseyref01_long.j1 : Nat → Int → Bool → Option (Int)
 | 0, _, _ => none
 | k + 1, x0, x13 => if x13 = true then (some 3) else (if x0 ≥ 240 then (if x0 ≤ 244 then (some 4) else (some 0)) else (some 0))
end
def odysseyref01_long.f (k : Nat) (a0 : Int) : Option (Int) := if a0 < 128 then (some 1) else (if a0 ≥ 194 then (odysseyref01_long.j0 k a0 (decide (a0 ≤ 223))) else (odysseyref01_long.j0 k a0 false))
theorem odysseyref01_long.mono_l : ∀ k, (∀ y0 y1, LeO (odysseyref01_long.j0 k y0 y1) (odysseyref01_long.j0 (k + 1) y0 y1)) ∧ (∀ y0 y1, LeO (odysseyref01_long.j1 k y0 y1) (odysseyref01_long.j1 (k + 1) y0 y1))
 | 0 => ⟨fun _ _ r h => by simp [odysseyref01_long.j0] at h, fun _ _ r h => by simp [odysseyref01_long.j1] at h⟩
 | k + 1 => by
  obtain ⟨ih0, ih1⟩ := odysseyref01_long.mono_l k
  refine ⟨?_, ?_⟩
  · intro y0 y1
    unfold odysseyref01_long.j0
    repeat' first
    | (with_reducible exact ih0 _ _)
    | (with_reducible exact ih1 _ _)
    | (with_reducible exact LeO.refl _)
    | (with_reducible exact LeO.none _)
    | (with_reducible refine LeO.ite ?_ ?_)
    | (with_reducible refine LeO.bind ?_ (fun _ => ?_))
    | exact ih0 _ _
    | exact ih1 _ _
    | exact LeO.none _
    | refine LeO.ite ?_ ?_
    | refine LeO.bind ?_ (fun _ => ?_)
  · intro y0 y1
    unfold odysseyref01_long.j1
    repeat' first
    | (with_reducible exact ih0 _ _)
    | (with_reducible exact ih1 _ _)
    | (with_reducible exact LeO.refl _)
    | (with_reducible exact LeO.none _)
    | (with_reducible refine LeO.ite ?_ ?_)
    | (with_reducible refine LeO.bind ?_ (fun _ => ?_))
    | exact ih0 _ _
    | exact ih1 _ _
    | exact LeO.none _
    | refine LeO.ite ?_ ?_
    | refine LeO.bind ?_ (fun _ => ?_)
theorem odysseyref01_long.mono : ∀ a0 k, LeO (odysseyref01_long.f k a0) (odysseyref01_long.f (k + 1) a0) := by
 intro a0 k
 obtain ⟨ih0, ih1⟩ := odysseyref01_long.mono_l k
 unfold odysseyref01_long.f
 repeat' first
  | (with_reducible exact ih0 _ _)
  | (with_reducible exact ih1 _ _)
  | (with_reducible exact LeO.refl _)
  | (with_reducible exact LeO.none _)
  | (with_reducible refine LeO.ite ?_ ?_)
  | (with_reducible refine LeO.bind ?_ (fun _ => ?_))
  | exact ih0 _ _
  | exact ih1 _ _
  | exact LeO.none _
  | refine LeO.ite ?_ ?_
  | refine LeO.bind ?_ (fun _ => ?_)
set_option maxHeartbeats 8000000 in
set_option maxRecDepth 100000 in
theorem odysseyref01_long.calls (k : Nat) (a0 : Int) (r : Int) (w : World) (h : odysseyref01_long.f k a0 = some r) :
 Calls Tryz.prog 95 #[.int .i64 a0] w fun e w' => e = .returned (.int .i64 r) ∧ Drawn0 w w' := by
 have H : (if a0 < 128 then (some 1) else (if a0 ≥ 194 then (odysseyref01_long.j0 k a0 (decide (a0 ≤ 223))) else (odysseyref01_long.j0 k a0 false))) = some r := h
 clear h
 by_cases c2 : a0 < 128
 · rw [if_pos c2] at H
   have c2b0 : decide (a0 < 128) = true := decide_eq_true c2
   clear c2
   obtain rfl := Option.some.inj H
   go_enter Tryz.func95, Tryz.ntmps95
   go_wp2
   go_ret
   exact ⟨by first | rfl | (simp; done) | (simp [*]; done), by repeat (first | exact Drawn0.refl _ | apply Drawn0.step)⟩
 · rw [if_neg c2] at H
   have c2b0 : decide (a0 < 128) = false := decide_eq_false c2
   clear c2
   have HC3 := Aside0.mk H
   clear H
   go_enter Tryz.func95, Tryz.ntmps95
   go_upto_region 3 with (fail)
   go_cut [6] (fun v6 wc => ∃ (kq : Nat) (x6_2 : Bool), v6 = .bool x6_2 ∧ Aside0 (odysseyref01_long.j0 kq a0 x6_2 = some r) ∧ Aside0 (kq ≤ k) ∧ Drawn0 w wc)
   case first =>
    have H := HC3.out
    clear HC3
    by_cases c4 : a0 ≥ 194
    · rw [if_pos c4] at H
      have c4b0 : decide (194 ≤ a0) = true := decide_eq_true c4
      clear c4
      (first | rw [c4b0] | (simp only [i64_w, i32_w]; rw [c4b0]) | skip)
      have H' := Aside0.mk H
      clear H
      go_wp2
      go_meet
      case rel => exact ⟨_, (decide (a0 ≤ 223)), (by first | rfl | (simp; done) | (simp [*]; done)), H', ⟨by first | omega | exact Nat.le_refl _⟩, by repeat (first | exact Drawn0.refl _ | apply Drawn0.step)⟩
    · rw [if_neg c4] at H
      have c4b0 : decide (194 ≤ a0) = false := decide_eq_false c4
      clear c4
      (first | rw [c4b0] | (simp only [i64_w, i32_w]; rw [c4b0]) | skip)
      have H' := Aside0.mk H
      clear H
      go_wp2
      go_meet
      case rel => exact ⟨_, (false), (by first | rfl | (simp; done) | (simp [*]; done)), H', ⟨by first | omega | exact Nat.le_refl _⟩, by repeat (first | exact Drawn0.refl _ | apply Drawn0.step)⟩
   case rest =>
    clear HC3
    try clear c2
    try clear c2b0
    try clear p2
    try clear c4
    try clear c4b0
    obtain ⟨kq, x6_2, rfl, HA, HJ2, ⟨mc2, rfl⟩⟩ := hcut
    cases kq with
    | zero => exact absurd HA.out (by simp [odysseyref01_long.j0])
    | succ kj2 =>
     have H := HA.out
     clear HA
     simp only [odysseyref01_long.j0] at H
     by_cases c5 : x6_2 = true
     · subst c5
       have H1 : (some 2) = some r := by rw [if_pos rfl] at H; exact H
       clear H
       have H := H1
       clear H1
       obtain rfl := Option.some.inj H
       go_wp2
       go_ret
       exact ⟨by first | rfl | (simp; done) | (simp [*]; done), by repeat (first | exact Drawn0.refl _ | apply Drawn0.step)⟩
     · replace c5 := Bool.eq_false_iff.mpr c5
       subst c5
       have H1 : (if a0 ≥ 224 then (odysseyref01_long.j1 kj2 a0 (decide (a0 ≤ 239))) else (odysseyref01_long.j1 kj2 a0 false)) = some r := by rw [if_neg (show ¬ (false = true) by decide)] at H; exact H
       clear H
       have H := H1
       clear H1
       have HC6 := Aside0.mk H
       clear H
       go_upto_region 5 with (fail)
       go_cut [13] (fun v13 wc => ∃ (kq : Nat) (x13_5 : Bool), v13 = .bool x13_5 ∧ Aside0 (odysseyref01_long.j1 kq a0 x13_5 = some r) ∧ Aside0 (kq ≤ kj2) ∧ Drawn0 w wc)
       case first =>
        have H := HC6.out
        clear HC6
        by_cases c7 : a0 ≥ 224
        · rw [if_pos c7] at H
          have c7b0 : decide (224 ≤ a0) = true := decide_eq_true c7
          clear c7
          (first | rw [c7b0] | (simp only [i64_w, i32_w]; rw [c7b0]) | skip)
          have H' := Aside0.mk H
          clear H
          go_wp2
          go_meet
          case rel => exact ⟨_, (decide (a0 ≤ 239)), (by first | rfl | (simp; done) | (simp [*]; done)), H', ⟨by have := HJ2.out; first | omega | exact Nat.le_refl _⟩, by repeat (first | exact Drawn0.refl _ | apply Drawn0.step)⟩
        · rw [if_neg c7] at H
          have c7b0 : decide (224 ≤ a0) = false := decide_eq_false c7
          clear c7
          (first | rw [c7b0] | (simp only [i64_w, i32_w]; rw [c7b0]) | skip)
          have H' := Aside0.mk H
          clear H
          go_wp2
          go_meet
          case rel => exact ⟨_, (false), (by first | rfl | (simp; done) | (simp [*]; done)), H', ⟨by have := HJ2.out; first | omega | exact Nat.le_refl _⟩, by repeat (first | exact Drawn0.refl _ | apply Drawn0.step)⟩
       case rest =>
        clear HC6
        try clear c2
        try clear c2b0
        try clear p2
        try clear c4
        try clear c4b0
        try clear c5
        try clear c7
        try clear c7b0
        try clear p2
        obtain ⟨kq, x13_5, rfl, HA, HJ5, ⟨mc5, rfl⟩⟩ := hcut
        cases kq with
        | zero => exact absurd HA.out (by simp [odysseyref01_long.j1])
        | succ kj5 =>
         have H := HA.out
         clear HA
         simp only [odysseyref01_long.j1] at H
         by_cases c8 : x13_5 = true
         · subst c8
           have H1 : (some 3) = some r := by rw [if_pos rfl] at H; exact H
           clear H
           have H := H1
           clear H1
           obtain rfl := Option.some.inj H
           go_wp2
           go_ret
           exact ⟨by first | rfl | (simp; done) | (simp [*]; done), by repeat (first | exact Drawn0.refl _ | apply Drawn0.step)⟩
         · replace c8 := Bool.eq_false_iff.mpr c8
           subst c8
           have H1 : (if a0 ≥ 240 then (if a0 ≤ 244 then (some 4) else (some 0)) else (some 0)) = some r := by rw [if_neg (show ¬ (false = true) by decide)] at H; exact H
           clear H
           have H := H1
           clear H1
           by_cases c9 : a0 ≥ 240
           · rw [if_pos c9] at H
             have c9b0 : decide (240 ≤ a0) = true := decide_eq_true c9
             clear c9
             by_cases c10 : a0 ≤ 244
             · rw [if_pos c10] at H
               have c10b0 : decide (a0 ≤ 244) = true := decide_eq_true c10
               clear c10
               obtain rfl := Option.some.inj H
               go_wp2
               go_ret
               exact ⟨by first | rfl | (simp; done) | (simp [*]; done), by repeat (first | exact Drawn0.refl _ | apply Drawn0.step)⟩
             · rw [if_neg c10] at H
               have c10b0 : decide (a0 ≤ 244) = false := decide_eq_false c10
               clear c10
               obtain rfl := Option.some.inj H
               go_wp2
               go_ret
               exact ⟨by first | rfl | (simp; done) | (simp [*]; done), by repeat (first | exact Drawn0.refl _ | apply Drawn0.step)⟩
           · rw [if_neg c9] at H
             have c9b0 : decide (240 ≤ a0) = false := decide_eq_false c9
             clear c9
             obtain rfl := Option.some.inj H
             go_wp2
             go_ret
             exact ⟨by first | rfl | (simp; done) | (simp [*]; done), by repeat (first | exact Drawn0.refl _ | apply Drawn0.step)⟩

/-! ### odysseyref01_second: function 96 -/
def odysseyref01_second.f (a0 : Int) (a1 : Int) : Option (Bool) := if a0 = 224 then (if a1 ≥ 160 then (some (decide (a1 ≤ 191))) else (some false)) else (if a0 = 237 then (if a1 ≥ 128 then (some (decide (a1 ≤ 159))) else (some false)) else (if a0 = 240 then (if a1 ≥ 144 then (some (decide (a1 ≤ 191))) else (some false)) else (if a0 = 244 then (if a1 ≥ 128 then (some (decide (a1 ≤ 143))) else (some false)) else (if a1 ≥ 128 then (some (decide (a1 ≤ 191))) else (some false)))))
set_option maxHeartbeats 8000000 in
set_option maxRecDepth 100000 in
theorem odysseyref01_second.calls (a0 : Int) (a1 : Int) (r : Bool) (w : World) (h : odysseyref01_second.f a0 a1 = some r) :
 Calls Tryz.prog 96 #[.int .i64 a0, .int .i64 a1] w fun e w' => e = .returned (.bool r) ∧ Drawn0 w w' := by
 have H : (if a0 = 224 then (if a1 ≥ 160 then (some (decide (a1 ≤ 191))) else (some false)) else (if a0 = 237 then (if a1 ≥ 128 then (some (decide (a1 ≤ 159))) else (some false)) else (if a0 = 240 then (if a1 ≥ 144 then (some (decide (a1 ≤ 191))) else (some false)) else (if a0 = 244 then (if a1 ≥ 128 then (some (decide (a1 ≤ 143))) else (some false)) else (if a1 ≥ 128 then (some (decide (a1 ≤ 191))) else (some false)))))) = some r := h
 clear h
 by_cases c3 : a0 = 224
 · rw [if_pos c3] at H
   have c3b0 : (a0 == 224) = true := beq_iff_eq.mpr c3
   have c3b1 : (a0 != 224) = false := bne_eq_false_iff_eq.mpr c3
   clear c3
   by_cases c4 : a1 ≥ 160
   · rw [if_pos c4] at H
     have c4b0 : decide (160 ≤ a1) = true := decide_eq_true c4
     clear c4
     obtain rfl := Option.some.inj H
     go_enter Tryz.func96, Tryz.ntmps96
     go_wp2
     go_ret
     exact ⟨by first | rfl | (simp; done) | (simp [*]; done), by repeat (first | exact Drawn0.refl _ | apply Drawn0.step)⟩
   · rw [if_neg c4] at H
     have c4b0 : decide (160 ≤ a1) = false := decide_eq_false c4
     clear c4
     obtain rfl := Option.some.inj H
     go_enter Tryz.func96, Tryz.ntmps96
     go_wp2
     go_ret
     exact ⟨by first | rfl | (simp; done) | (simp [*]; done), by repeat (first | exact Drawn0.refl _ | apply Drawn0.step)⟩
 · rw [if_neg c3] at H
   have c3b0 : (a0 == 224) = false := beq_eq_false_iff_ne.mpr c3
   have c3b1 : (a0 != 224) = true := bne_iff_ne.mpr c3
   by_cases c5 : a0 = 237
   · rw [if_pos c5] at H
     have c5b0 : (a0 == 237) = true := beq_iff_eq.mpr c5
     have c5b1 : (a0 != 237) = false := bne_eq_false_iff_eq.mpr c5
     clear c5
     by_cases c6 : a1 ≥ 128
     · rw [if_pos c6] at H
       have c6b0 : decide (128 ≤ a1) = true := decide_eq_true c6
       clear c6
       obtain rfl := Option.some.inj H
       go_enter Tryz.func96, Tryz.ntmps96
       go_wp2
       go_ret
       exact ⟨by first | rfl | (simp; done) | (simp [*]; done), by repeat (first | exact Drawn0.refl _ | apply Drawn0.step)⟩
     · rw [if_neg c6] at H
       have c6b0 : decide (128 ≤ a1) = false := decide_eq_false c6
       clear c6
       obtain rfl := Option.some.inj H
       go_enter Tryz.func96, Tryz.ntmps96
       go_wp2
       go_ret
       exact ⟨by first | rfl | (simp; done) | (simp [*]; done), by repeat (first | exact Drawn0.refl _ | apply Drawn0.step)⟩
   · rw [if_neg c5] at H
     have c5b0 : (a0 == 237) = false := beq_eq_false_iff_ne.mpr c5
     have c5b1 : (a0 != 237) = true := bne_iff_ne.mpr c5
     by_cases c7 : a0 = 240
     · rw [if_pos c7] at H
       have c7b0 : (a0 == 240) = true := beq_iff_eq.mpr c7
       have c7b1 : (a0 != 240) = false := bne_eq_false_iff_eq.mpr c7
       clear c7
       by_cases c8 : a1 ≥ 144
       · rw [if_pos c8] at H
         have c8b0 : decide (144 ≤ a1) = true := decide_eq_true c8
         clear c8
         obtain rfl := Option.some.inj H
         go_enter Tryz.func96, Tryz.ntmps96
         go_wp2
         go_ret
         exact ⟨by first | rfl | (simp; done) | (simp [*]; done), by repeat (first | exact Drawn0.refl _ | apply Drawn0.step)⟩
       · rw [if_neg c8] at H
         have c8b0 : decide (144 ≤ a1) = false := decide_eq_false c8
         clear c8
         obtain rfl := Option.some.inj H
         go_enter Tryz.func96, Tryz.ntmps96
         go_wp2
         go_ret
         exact ⟨by first | rfl | (simp; done) | (simp [*]; done), by repeat (first | exact Drawn0.refl _ | apply Drawn0.step)⟩
     · rw [if_neg c7] at H
       have c7b0 : (a0 == 240) = false := beq_eq_false_iff_ne.mpr c7
       have c7b1 : (a0 != 240) = true := bne_iff_ne.mpr c7
       by_cases c9 : a0 = 244
       · rw [if_pos c9] at H
         have c9b0 : (a0 == 244) = true := beq_iff_eq.mpr c9
         have c9b1 : (a0 != 244) = false := bne_eq_false_iff_eq.mpr c9
         clear c9
         by_cases c10 : a1 ≥ 128
         · rw [if_pos c10] at H
           have c10b0 : decide (128 ≤ a1) = true := decide_eq_true c10
           clear c10
           obtain rfl := Option.some.inj H
           go_enter Tryz.func96, Tryz.ntmps96
           go_wp2
           go_ret
           exact ⟨by first | rfl | (simp; done) | (simp [*]; done), by repeat (first | exact Drawn0.refl _ | apply Drawn0.step)⟩
         · rw [if_neg c10] at H
           have c10b0 : decide (128 ≤ a1) = false := decide_eq_false c10
           clear c10
           obtain rfl := Option.some.inj H
           go_enter Tryz.func96, Tryz.ntmps96
           go_wp2
           go_ret
           exact ⟨by first | rfl | (simp; done) | (simp [*]; done), by repeat (first | exact Drawn0.refl _ | apply Drawn0.step)⟩
       · rw [if_neg c9] at H
         have c9b0 : (a0 == 244) = false := beq_eq_false_iff_ne.mpr c9
         have c9b1 : (a0 != 244) = true := bne_iff_ne.mpr c9
         by_cases c11 : a1 ≥ 128
         · rw [if_pos c11] at H
           have c11b0 : decide (128 ≤ a1) = true := decide_eq_true c11
           clear c11
           obtain rfl := Option.some.inj H
           go_enter Tryz.func96, Tryz.ntmps96
           go_wp2
           go_ret
           exact ⟨by first | rfl | (simp; done) | (simp [*]; done), by repeat (first | exact Drawn0.refl _ | apply Drawn0.step)⟩
         · rw [if_neg c11] at H
           have c11b0 : decide (128 ≤ a1) = false := decide_eq_false c11
           clear c11
           obtain rfl := Option.some.inj H
           go_enter Tryz.func96, Tryz.ntmps96
           go_wp2
           go_ret
           exact ⟨by first | rfl | (simp; done) | (simp [*]; done), by repeat (first | exact Drawn0.refl _ | apply Drawn0.step)⟩

/-! ### odysseyref01_Next: function 73 -/
mutual
def odysseyref01_Next.j0 : Nat → ByteArray → Int → Int → Int → Bool → Option (Int × Int × Bool)
 | 0, _, _, _, _, _ => none
 | k + 1, x0, x1, x7, x8, x27 => if x27 = true then (some (65533, 1, false)) else (if x8 = 1 then (some (x7, 1, true)) else (if 0 ≤ (wrap64 (7 - x8)) then (if (shl .i64 1 (wrap64 (7 - x8))) = 0 then (none) else (odysseyref01_Next.l0 k x0 x1 x7 x8 (Int.tmod x7 (shl .i64 1 (wrap64 (7 - x8)))) 1)) else (none)))
def odysseyref01_Next.l0 : Nat → ByteArray → Int → Int → Int → Int → Int → Option (Int × Int × Bool)
 | 0, _, _, _, _, _, _ => none
 | k + 1, x0, x1, x7, x8, x9, x10 => if x10 < x8 then (if 0 ≤ (wrap64 (x1 + x10)) then (if (wrap64 (x1 + x10)) < (x0.size : Int) then (if (wrap64 (bt x0 (wrap64 (x1 + x10)))) < 128 then (some (65533, 1, false)) else (if (wrap64 (bt x0 (wrap64 (x1 + x10)))) > 191 then (some (65533, 1, false)) else (if x10 = 1 then ((odysseyref01_second.f x7 (wrap64 (bt x0 (wrap64 (x1 + x10))))).bind fun t137 => (if t137 = true then (odysseyref01_Next.l0 k x0 x1 x7 x8 (wrap64 ((wrap64 (x9 * 64)) + (Int.tmod (wrap64 (bt x0 (wrap64 (x1 + x10)))) 64))) (wrap64 (x10 + 1))) else (some (65533, 1, false)))) else (odysseyref01_Next.l0 k x0 x1 x7 x8 (wrap64 ((wrap64 (x9 * 64)) + (Int.tmod (wrap64 (bt x0 (wrap64 (x1 + x10)))) 64))) (wrap64 (x10 + 1)))))) else (none)) else (none)) else (some (x9, x8, true))
end
def odysseyref01_Next.f (k : Nat) (a0 : ByteArray) (a1 : Int) : Option (Int × Int × Bool) := if 0 ≤ a1 then (if a1 < (a0.size : Int) then ((odysseyref01_long.f k (wrap64 (bt a0 a1))).bind fun t136 => (if t136 = 0 then (odysseyref01_Next.j0 k a0 a1 (wrap64 (bt a0 a1)) t136 true) else (odysseyref01_Next.j0 k a0 a1 (wrap64 (bt a0 a1)) t136 (decide (t136 > (wrap64 ((a0.size : Int) - a1))))))) else (none)) else (none)
theorem odysseyref01_Next.mono_l : ∀ k, (∀ y0 y1 y2 y3 y4, LeO (odysseyref01_Next.j0 k y0 y1 y2 y3 y4) (odysseyref01_Next.j0 (k + 1) y0 y1 y2 y3 y4)) ∧ (∀ y0 y1 y2 y3 y4 y5, LeO (odysseyref01_Next.l0 k y0 y1 y2 y3 y4 y5) (odysseyref01_Next.l0 (k + 1) y0 y1 y2 y3 y4 y5))
 | 0 => ⟨fun _ _ _ _ _ r h => by simp [odysseyref01_Next.j0] at h, fun _ _ _ _ _ _ r h => by simp [odysseyref01_Next.l0] at h⟩
 | k + 1 => by
  obtain ⟨ih0, ih1⟩ := odysseyref01_Next.mono_l k
  refine ⟨?_, ?_⟩
  · intro y0 y1 y2 y3 y4
    unfold odysseyref01_Next.j0
    repeat' first
    | (with_reducible exact ih0 _ _ _ _ _)
    | (with_reducible exact ih1 _ _ _ _ _ _)
    | (with_reducible exact odysseyref01_long.mono _ _)
    | (with_reducible exact LeO.refl _)
    | (with_reducible exact LeO.none _)
    | (with_reducible refine LeO.ite ?_ ?_)
    | (with_reducible refine LeO.bind ?_ (fun _ => ?_))
    | exact ih0 _ _ _ _ _
    | exact ih1 _ _ _ _ _ _
    | exact odysseyref01_long.mono _ _
    | exact LeO.none _
    | refine LeO.ite ?_ ?_
    | refine LeO.bind ?_ (fun _ => ?_)
  · intro y0 y1 y2 y3 y4 y5
    unfold odysseyref01_Next.l0
    repeat' first
    | (with_reducible exact ih0 _ _ _ _ _)
    | (with_reducible exact ih1 _ _ _ _ _ _)
    | (with_reducible exact odysseyref01_long.mono _ _)
    | (with_reducible exact LeO.refl _)
    | (with_reducible exact LeO.none _)
    | (with_reducible refine LeO.ite ?_ ?_)
    | (with_reducible refine LeO.bind ?_ (fun _ => ?_))
    | exact ih0 _ _ _ _ _
    | exact ih1 _ _ _ _ _ _
    | exact odysseyref01_long.mono _ _
    | exact LeO.none _
    | refine LeO.ite ?_ ?_
    | refine LeO.bind ?_ (fun _ => ?_)
theorem odysseyref01_Next.mono : ∀ a0 a1 k, LeO (odysseyref01_Next.f k a0 a1) (odysseyref01_Next.f (k + 1) a0 a1) := by
 intro a0 a1 k
 obtain ⟨ih0, ih1⟩ := odysseyref01_Next.mono_l k
 unfold odysseyref01_Next.f
 repeat' first
  | (with_reducible exact ih0 _ _ _ _ _)
  | (with_reducible exact ih1 _ _ _ _ _ _)
  | (with_reducible exact odysseyref01_long.mono _ _)
  | (with_reducible exact LeO.refl _)
  | (with_reducible exact LeO.none _)
  | (with_reducible refine LeO.ite ?_ ?_)
  | (with_reducible refine LeO.bind ?_ (fun _ => ?_))
  | exact ih0 _ _ _ _ _
  | exact ih1 _ _ _ _ _ _
  | exact odysseyref01_long.mono _ _
  | exact LeO.none _
  | refine LeO.ite ?_ ?_
  | refine LeO.bind ?_ (fun _ => ?_)
set_option maxHeartbeats 8000000 in
set_option maxRecDepth 100000 in
theorem odysseyref01_Next.calls (k : Nat) (a0 : ByteArray) (a1 : Int) (r1 : Int) (r2 : Int) (r3 : Bool) (w : World) (h : odysseyref01_Next.f k a0 a1 = some (r1, r2, r3)) :
 Calls Tryz.prog 73 #[.string a0, .int .i64 a1] w fun e w' => e = .returned (.tuple #[.int .i64 r1, .int .i64 r2, .bool r3]) ∧ Drawn0 w w' := by
 have H : (if 0 ≤ a1 then (if a1 < (a0.size : Int) then ((odysseyref01_long.f k (wrap64 (bt a0 a1))).bind fun t136 => (if t136 = 0 then (odysseyref01_Next.j0 k a0 a1 (wrap64 (bt a0 a1)) t136 true) else (odysseyref01_Next.j0 k a0 a1 (wrap64 (bt a0 a1)) t136 (decide (t136 > (wrap64 ((a0.size : Int) - a1))))))) else (none)) else (none)) = some (r1, r2, r3) := h
 clear h
 by_cases c3 : 0 ≤ a1
 · rw [if_pos c3] at H
   have c3b0 : decide (0 ≤ a1) = true := decide_eq_true c3
   clear c3
   by_cases c4 : a1 < (a0.size : Int)
   · rw [if_pos c4] at H
     have c4b0 : decide (a1 < (a0.size : Int)) = true := decide_eq_true c4
     clear c4
     replace H := Option.bind_eq_some_iff.mp H
     obtain ⟨t136, A60, H⟩ := H
     replace H : (if t136 = 0 then (odysseyref01_Next.j0 k a0 a1 (wrap64 (bt a0 a1)) t136 true) else (odysseyref01_Next.j0 k a0 a1 (wrap64 (bt a0 a1)) t136 (decide (t136 > (wrap64 ((a0.size : Int) - a1)))))) = some (r1, r2, r3) := H
     have A6 := Aside0.mk A60
     clear A60
     have HC7 := Aside0.mk H
     clear H
     have p5 : 0 ≤ (a1 : Int) := of_decide_eq_true (by first | (with_reducible assumption) | assumption)
     have q5 : a1 < (a0.size : Int) := of_decide_eq_true (by first | (with_reducible assumption) | assumption)
     have hx5 := bt_at a0 a1
     replace p5 := eq_true p5
     replace q5 := eq_true q5
     go_enter Tryz.func73, Tryz.ntmps73
     go_upto_region 3 with (first | ((with_reducible refine gate_callee (f := 95) rfl ?_); refine goesL_ (some 17) rfl rfl Tryz.func95 (by kernel_rfl) rfl #[.int .i64 (wrap64 (bt a0 a1))] rfl (by (try simp only [List.map_toArray, List.map_cons, List.map_nil]); first | done | rfl | (simp only [List.length_drop, List.length_take]; rfl)) ?_; (with_reducible refine (odysseyref01_long.calls k (wrap64 (bt a0 a1)) t136 _ A6.out).mono ?_); rintro e w' ⟨rfl, ⟨nd, rfl⟩⟩; refine ⟨_, rfl, ?_⟩))
     (try simp only [Act.put, List.setIfInBounds_toArray, List.set_cons_zero, List.set_cons_succ])
     go_cut [27] (fun v27 wc => ∃ (kq : Nat) (x27_6 : Bool), v27 = .bool x27_6 ∧ Aside0 (odysseyref01_Next.j0 kq a0 a1 (wrap64 (bt a0 a1)) t136 x27_6 = some (r1, r2, r3)) ∧ Aside0 (kq ≤ k) ∧ Drawn0 w wc)
     case first =>
      have H := HC7.out
      clear HC7
      by_cases c8 : t136 = 0
      · rw [if_pos c8] at H
        have c8b0 : (t136 == 0) = true := beq_iff_eq.mpr c8
        have c8b1 : (t136 != 0) = false := bne_eq_false_iff_eq.mpr c8
        clear c8
        (first | rw [c8b0] | (simp only [i64_w, i32_w]; rw [c8b0]) | skip)
        have H' := Aside0.mk H
        clear H
        go_wp2
        go_meet
        case rel => exact ⟨_, (true), (by first | rfl | (simp; done) | (simp [*]; done)), H', ⟨by first | omega | exact Nat.le_refl _⟩, by repeat (first | exact Drawn0.refl _ | apply Drawn0.step)⟩
      · rw [if_neg c8] at H
        have c8b0 : (t136 == 0) = false := beq_eq_false_iff_ne.mpr c8
        have c8b1 : (t136 != 0) = true := bne_iff_ne.mpr c8
        (first | rw [c8b0] | (simp only [i64_w, i32_w]; rw [c8b0]) | skip)
        have H' := Aside0.mk H
        clear H
        go_wp2
        go_meet
        case rel => exact ⟨_, (decide (t136 > (wrap64 ((a0.size : Int) - a1)))), (by first | rfl | (simp; done) | (simp [*]; done)), H', ⟨by first | omega | exact Nat.le_refl _⟩, by repeat (first | exact Drawn0.refl _ | apply Drawn0.step)⟩
     case rest =>
      clear HC7
      try clear p2
      try clear c3
      try clear c3b0
      try clear c4
      try clear c4b0
      try clear p5
      try clear q5
      try clear hx5
      try clear p6
      try clear c7
      try clear c8
      try clear c8b0
      try clear c8b1
      try clear p5
      try clear q5
      obtain ⟨kq, x27_6, rfl, HA, HJ6, ⟨mc6, rfl⟩⟩ := hcut
      cases kq with
      | zero => exact absurd HA.out (by simp [odysseyref01_Next.j0])
      | succ kj6 =>
       have H := HA.out
       clear HA
       simp only [odysseyref01_Next.j0] at H
       by_cases c9 : x27_6 = true
       · subst c9
         have H1 : (some (65533, 1, false)) = some (r1, r2, r3) := by rw [if_pos rfl] at H; exact H
         clear H
         have H := H1
         clear H1
         simp only [Option.some.injEq, Prod.mk.injEq] at H
         obtain ⟨rfl, rfl, rfl⟩ := H
         go_wp2
         go_ret3
         exact ⟨by first | rfl | (simp; done) | (simp [*]; done), by repeat (first | exact Drawn0.refl _ | apply Drawn0.step)⟩
       · replace c9 := Bool.eq_false_iff.mpr c9
         subst c9
         have H1 : (if t136 = 1 then (some ((wrap64 (bt a0 a1)), 1, true)) else (if 0 ≤ (wrap64 (7 - t136)) then (if (shl .i64 1 (wrap64 (7 - t136))) = 0 then (none) else (odysseyref01_Next.l0 kj6 a0 a1 (wrap64 (bt a0 a1)) t136 (Int.tmod (wrap64 (bt a0 a1)) (shl .i64 1 (wrap64 (7 - t136)))) 1)) else (none))) = some (r1, r2, r3) := by rw [if_neg (show ¬ (false = true) by decide)] at H; exact H
         clear H
         have H := H1
         clear H1
         by_cases c10 : t136 = 1
         · rw [if_pos c10] at H
           have c10b0 : (t136 == 1) = true := beq_iff_eq.mpr c10
           have c10b1 : (t136 != 1) = false := bne_eq_false_iff_eq.mpr c10
           clear c10
           simp only [Option.some.injEq, Prod.mk.injEq] at H
           obtain ⟨rfl, rfl, rfl⟩ := H
           go_wp2
           go_ret3
           exact ⟨by first | rfl | (simp; done) | (simp [*]; done), by repeat (first | exact Drawn0.refl _ | apply Drawn0.step)⟩
         · rw [if_neg c10] at H
           have c10b0 : (t136 == 1) = false := beq_eq_false_iff_ne.mpr c10
           have c10b1 : (t136 != 1) = true := bne_iff_ne.mpr c10
           obtain ⟨ji11, hji11⟩ : ∃ j_ : Int, (wrap64 (7 - t136)) = j_ := ⟨_, rfl⟩
           replace H : (if 0 ≤ (ji11) then (if (shl .i64 1 (ji11)) = 0 then (none) else (odysseyref01_Next.l0 kj6 a0 a1 (wrap64 (bt a0 a1)) t136 (Int.tmod (wrap64 (bt a0 a1)) (shl .i64 1 (ji11))) 1)) else (none)) = some (r1, r2, r3) := by first | (rw [hji11] at H; exact H) | (simp only [hji11] at H ⊢; exact H)
           have hji11w : (IntKind.i64.wrap (7 - t136)) = ji11 := (i64_w _).trans hji11
           by_cases c12 : 0 ≤ (ji11)
           · rw [if_pos c12] at H
             have c12b0 := eq_true c12
             have c12b1 : decide (0 ≤ (ji11)) = true := decide_eq_true c12
             clear c12
             obtain ⟨ji13, hji13⟩ : ∃ j_ : Int, (shl .i64 1 (ji11)) = j_ := ⟨_, rfl⟩
             replace H : (if (ji13) = 0 then (none) else (odysseyref01_Next.l0 kj6 a0 a1 (wrap64 (bt a0 a1)) t136 (Int.tmod (wrap64 (bt a0 a1)) (ji13)) 1)) = some (r1, r2, r3) := by first | (rw [hji13] at H; exact H) | (simp only [hji13] at H ⊢; exact H)
             have hji13_ : (IntKind.i64.wrap (1 * 2 ^ min (ji11).toNat 64)) = ji13 := hji13
             have hji13z : (ji11) ≤ 64 → (IntKind.i64.wrap (1 * 2 ^ (ji11).toNat)) = ji13 := shl_small hji13
             have hji13u : (IntKind.i64.wrap (2 ^ min (ji11).toNat 64)) = ji13 := by have h_ := hji13_; rw [Int.one_mul] at h_; exact h_
             have hji13v : (ji11) ≤ 64 → (IntKind.i64.wrap (2 ^ (ji11).toNat)) = ji13 := fun hle_ => by have h_ := hji13z hle_; rw [Int.one_mul] at h_; exact h_
             have hji13y : (wrap64 (1 * 2 ^ min (ji11).toNat 64)) = ji13 := (i64_w _).symm.trans hji13_
             have hji13x : (ji11) ≤ 64 → (wrap64 (1 * 2 ^ (ji11).toNat)) = ji13 := fun h_ => (i64_w _).symm.trans (hji13z h_)
             by_cases c14 : (ji13) = 0
             · rw [if_pos c14] at H
               exact absurd H (by simp)
             · rw [if_neg c14] at H
               have c14b0 : ((ji13) == 0) = false := beq_eq_false_iff_ne.mpr c14
               have c14b1 : ((ji13) != 0) = true := bne_iff_ne.mpr c14
               have H' := Aside0.mk H
               clear H
               go_wp2
               go_loopg [9, 10] kj6 (fun kq v9 v10 w' => ∃ (x9_2 : Int) (x10_2 : Int), v9 = .int .i64 x9_2 ∧ v10 = .int .i64 x10_2 ∧ Aside0 (odysseyref01_Next.l0 kq a0 a1 (wrap64 (bt a0 a1)) t136 x9_2 x10_2 = some (r1, r2, r3)) ∧ Aside0 (kq ≤ kj6) ∧ Drawn0 w w')
               case atStart => exact ⟨(Int.tmod (wrap64 (bt a0 a1)) (ji13)), (1), (by first | rfl | (simp; done) | (simp only [← hji13] <;> (first | rfl | simp)) | (simp [*]; done)), (by first | rfl | (simp; done) | (simp [*]; done)), H', ⟨Nat.le_refl _⟩, by repeat (first | exact Drawn0.refl _ | apply Drawn0.step)⟩
               case round =>
                clear H'
                try clear c1
                try clear p2
                try clear c3
                try clear c3b0
                try clear c4
                try clear c4b0
                try clear p5
                try clear q5
                try clear hx5
                try clear c6
                try clear p6
                try clear c7
                try clear c8
                try clear c8b0
                try clear c8b1
                try clear c9
                try clear c10
                try clear c10b0
                try clear c10b1
                try clear c12
                try clear c12b0
                try clear c12b1
                try clear c14
                try clear c14b0
                try clear c14b1
                try clear p2
                try clear p5
                try clear p6
                try clear q5
                obtain ⟨x9_2, x10_2, rfl, rfl, HA, HK2, ⟨m2, rfl⟩⟩ := hrel
                cases gk with
                | zero => exact absurd HA.out (by simp [odysseyref01_Next.l0])
                | succ k2 =>
                 have H := HA.out
                 clear HA
                 simp only [odysseyref01_Next.l0] at H
                 by_cases c15 : x10_2 < t136
                 · rw [if_pos c15] at H
                   have c15b0 : decide (x10_2 < t136) = true := decide_eq_true c15
                   clear c15
                   obtain ⟨ji16, hji16⟩ : ∃ j_ : Int, (wrap64 (a1 + x10_2)) = j_ := ⟨_, rfl⟩
                   replace H : (if 0 ≤ (ji16) then (if (ji16) < (a0.size : Int) then (if (wrap64 (bt a0 (ji16))) < 128 then (some (65533, 1, false)) else (if (wrap64 (bt a0 (ji16))) > 191 then (some (65533, 1, false)) else (if x10_2 = 1 then ((odysseyref01_second.f (wrap64 (bt a0 a1)) (wrap64 (bt a0 (ji16)))).bind fun t137 => (if t137 = true then (odysseyref01_Next.l0 k2 a0 a1 (wrap64 (bt a0 a1)) t136 (wrap64 ((wrap64 (x9_2 * 64)) + (Int.tmod (wrap64 (bt a0 (ji16))) 64))) (wrap64 (x10_2 + 1))) else (some (65533, 1, false)))) else (odysseyref01_Next.l0 k2 a0 a1 (wrap64 (bt a0 a1)) t136 (wrap64 ((wrap64 (x9_2 * 64)) + (Int.tmod (wrap64 (bt a0 (ji16))) 64))) (wrap64 (x10_2 + 1)))))) else (none)) else (none)) = some (r1, r2, r3) := by first | (rw [hji16] at H; exact H) | (simp only [hji16] at H ⊢; exact H)
                   have hji16w : (IntKind.i64.wrap (a1 + x10_2)) = ji16 := (i64_w _).trans hji16
                   by_cases c17 : 0 ≤ (ji16)
                   · rw [if_pos c17] at H
                     have c17b0 : decide (0 ≤ (ji16)) = true := decide_eq_true c17
                     clear c17
                     by_cases c18 : (ji16) < (a0.size : Int)
                     · rw [if_pos c18] at H
                       have c18b0 : decide ((ji16) < (a0.size : Int)) = true := decide_eq_true c18
                       clear c18
                       by_cases c20 : (wrap64 (bt a0 (ji16))) < 128
                       · rw [if_pos c20] at H
                         have c20b0 : decide ((wrap64 (bt a0 (ji16))) < 128) = true := decide_eq_true c20
                         clear c20
                         simp only [Option.some.injEq, Prod.mk.injEq] at H
                         obtain ⟨rfl, rfl, rfl⟩ := H
                         have p19 : 0 ≤ ((ji16) : Int) := of_decide_eq_true (by first | (with_reducible assumption) | assumption)
                         have q19 : (ji16) < (a0.size : Int) := of_decide_eq_true (by first | (with_reducible assumption) | assumption)
                         have hx19 := bt_at a0 (ji16)
                         replace p19 := eq_true p19
                         replace q19 := eq_true q19
                         go_wp2
                         go_ret3
                         exact ⟨by first | rfl | (simp; done) | (simp only [← hji11, ← hji13, ← hji16] <;> (first | rfl | simp)) | (simp [*]; done), by repeat (first | exact Drawn0.refl _ | apply Drawn0.step)⟩
                       · rw [if_neg c20] at H
                         have c20b0 : decide ((wrap64 (bt a0 (ji16))) < 128) = false := decide_eq_false c20
                         clear c20
                         by_cases c21 : (wrap64 (bt a0 (ji16))) > 191
                         · rw [if_pos c21] at H
                           have c21b0 : decide (191 < (wrap64 (bt a0 (ji16)))) = true := decide_eq_true c21
                           clear c21
                           simp only [Option.some.injEq, Prod.mk.injEq] at H
                           obtain ⟨rfl, rfl, rfl⟩ := H
                           have p19 : 0 ≤ ((ji16) : Int) := of_decide_eq_true (by first | (with_reducible assumption) | assumption)
                           have q19 : (ji16) < (a0.size : Int) := of_decide_eq_true (by first | (with_reducible assumption) | assumption)
                           have hx19 := bt_at a0 (ji16)
                           replace p19 := eq_true p19
                           replace q19 := eq_true q19
                           go_wp2
                           go_ret3
                           exact ⟨by first | rfl | (simp; done) | (simp only [← hji11, ← hji13, ← hji16] <;> (first | rfl | simp)) | (simp [*]; done), by repeat (first | exact Drawn0.refl _ | apply Drawn0.step)⟩
                         · rw [if_neg c21] at H
                           have c21b0 : decide (191 < (wrap64 (bt a0 (ji16)))) = false := decide_eq_false c21
                           clear c21
                           by_cases c22 : x10_2 = 1
                           · rw [if_pos c22] at H
                             have c22b0 : (x10_2 == 1) = true := beq_iff_eq.mpr c22
                             have c22b1 : (x10_2 != 1) = false := bne_eq_false_iff_eq.mpr c22
                             clear c22
                             replace H := Option.bind_eq_some_iff.mp H
                             obtain ⟨t137, A230, H⟩ := H
                             replace H : (if t137 = true then (odysseyref01_Next.l0 k2 a0 a1 (wrap64 (bt a0 a1)) t136 (wrap64 ((wrap64 (x9_2 * 64)) + (Int.tmod (wrap64 (bt a0 (ji16))) 64))) (wrap64 (x10_2 + 1))) else (some (65533, 1, false))) = some (r1, r2, r3) := H
                             have A23 := Aside0.mk A230
                             clear A230
                             by_cases c24 : t137 = true
                             · subst c24
                               have H1 : (odysseyref01_Next.l0 k2 a0 a1 (wrap64 (bt a0 a1)) t136 (wrap64 ((wrap64 (x9_2 * 64)) + (Int.tmod (wrap64 (bt a0 (ji16))) 64))) (wrap64 (x10_2 + 1))) = some (r1, r2, r3) := by rw [if_pos rfl] at H; exact H
                               clear H
                               have H := H1
                               clear H1
                               have H' := Aside0.mk H
                               clear H
                               have p19 : 0 ≤ ((ji16) : Int) := of_decide_eq_true (by first | (with_reducible assumption) | assumption)
                               have q19 : (ji16) < (a0.size : Int) := of_decide_eq_true (by first | (with_reducible assumption) | assumption)
                               have hx19 := bt_at a0 (ji16)
                               replace p19 := eq_true p19
                               replace q19 := eq_true q19
                               go_wp2_with (first | (go_at_call 96; (with_reducible refine (odysseyref01_second.calls (wrap64 (bt a0 a1)) (wrap64 (bt a0 (ji16))) true _ A23.out).mono ?_); rintro e w' ⟨rfl, ⟨nd, rfl⟩⟩))
                               go_roundg k2
                               case measure => have := HJ6.out; have := HK2.out; omega
                               case rel => exact ⟨(wrap64 ((wrap64 (x9_2 * 64)) + (Int.tmod (wrap64 (bt a0 (ji16))) 64))), (wrap64 (x10_2 + 1)), (by first | rfl | (simp; done) | (simp only [← hji16] <;> (first | rfl | simp)) | (simp [*]; done)), (by first | rfl | (simp; done) | (simp [*]; done)), H', ⟨by have := HJ6.out; have := HK2.out; omega⟩, by repeat (first | exact Drawn0.refl _ | apply Drawn0.step)⟩
                             · replace c24 := Bool.eq_false_iff.mpr c24
                               subst c24
                               have H1 : (some (65533, 1, false)) = some (r1, r2, r3) := by rw [if_neg (show ¬ (false = true) by decide)] at H; exact H
                               clear H
                               have H := H1
                               clear H1
                               simp only [Option.some.injEq, Prod.mk.injEq] at H
                               obtain ⟨rfl, rfl, rfl⟩ := H
                               have p19 : 0 ≤ ((ji16) : Int) := of_decide_eq_true (by first | (with_reducible assumption) | assumption)
                               have q19 : (ji16) < (a0.size : Int) := of_decide_eq_true (by first | (with_reducible assumption) | assumption)
                               have hx19 := bt_at a0 (ji16)
                               replace p19 := eq_true p19
                               replace q19 := eq_true q19
                               go_wp2_with (first | (go_at_call 96; (with_reducible refine (odysseyref01_second.calls (wrap64 (bt a0 a1)) (wrap64 (bt a0 (ji16))) false _ A23.out).mono ?_); rintro e w' ⟨rfl, ⟨nd, rfl⟩⟩))
                               go_ret3
                               exact ⟨by first | rfl | (simp; done) | (simp only [← hji11, ← hji13, ← hji16] <;> (first | rfl | simp)) | (simp [*]; done), by repeat (first | exact Drawn0.refl _ | apply Drawn0.step)⟩
                           · rw [if_neg c22] at H
                             have c22b0 : (x10_2 == 1) = false := beq_eq_false_iff_ne.mpr c22
                             have c22b1 : (x10_2 != 1) = true := bne_iff_ne.mpr c22
                             have H' := Aside0.mk H
                             clear H
                             have p19 : 0 ≤ ((ji16) : Int) := of_decide_eq_true (by first | (with_reducible assumption) | assumption)
                             have q19 : (ji16) < (a0.size : Int) := of_decide_eq_true (by first | (with_reducible assumption) | assumption)
                             have hx19 := bt_at a0 (ji16)
                             replace p19 := eq_true p19
                             replace q19 := eq_true q19
                             go_wp2
                             go_roundg k2
                             case measure => have := HJ6.out; have := HK2.out; omega
                             case rel => exact ⟨(wrap64 ((wrap64 (x9_2 * 64)) + (Int.tmod (wrap64 (bt a0 (ji16))) 64))), (wrap64 (x10_2 + 1)), (by first | rfl | (simp; done) | (simp only [← hji16] <;> (first | rfl | simp)) | (simp [*]; done)), (by first | rfl | (simp; done) | (simp [*]; done)), H', ⟨by have := HJ6.out; have := HK2.out; omega⟩, by repeat (first | exact Drawn0.refl _ | apply Drawn0.step)⟩
                     · rw [if_neg c18] at H
                       exact absurd H (by simp)
                   · rw [if_neg c17] at H
                     exact absurd H (by simp)
                 · rw [if_neg c15] at H
                   have c15b0 : decide (x10_2 < t136) = false := decide_eq_false c15
                   clear c15
                   simp only [Option.some.injEq, Prod.mk.injEq] at H
                   obtain ⟨rfl, rfl, rfl⟩ := H
                   go_wp2
                   go_ret3
                   exact ⟨by first | rfl | (simp; done) | (simp only [← hji11, ← hji13] <;> (first | rfl | simp)) | (simp [*]; done), by repeat (first | exact Drawn0.refl _ | apply Drawn0.step)⟩
           · rw [if_neg c12] at H
             exact absurd H (by simp)
   · rw [if_neg c4] at H
     exact absurd H (by simp)
 · rw [if_neg c3] at H
   exact absurd H (by simp)

/-! ### odysseyref01_letter: function 74 -/
def odysseyref01_letter.f (a0 : Int) : Option (Bool) := if a0 ≥ 97 then (if a0 ≤ 122 then (some true) else (if a0 = 228 then (some true) else (if a0 = 246 then (some true) else (if a0 = 252 then (some true) else (if a0 = 223 then (some true) else (if a0 ≥ 945 then (some (decide (a0 ≤ 969))) else (some false))))))) else (if a0 = 228 then (some true) else (if a0 = 246 then (some true) else (if a0 = 252 then (some true) else (if a0 = 223 then (some true) else (if a0 ≥ 945 then (some (decide (a0 ≤ 969))) else (some false))))))
set_option maxHeartbeats 8000000 in
set_option maxRecDepth 100000 in
theorem odysseyref01_letter.calls (a0 : Int) (r : Bool) (w : World) (h : odysseyref01_letter.f a0 = some r) :
 Calls Tryz.prog 74 #[.int .i64 a0] w fun e w' => e = .returned (.bool r) ∧ Drawn0 w w' := by
 have H : (if a0 ≥ 97 then (if a0 ≤ 122 then (some true) else (if a0 = 228 then (some true) else (if a0 = 246 then (some true) else (if a0 = 252 then (some true) else (if a0 = 223 then (some true) else (if a0 ≥ 945 then (some (decide (a0 ≤ 969))) else (some false))))))) else (if a0 = 228 then (some true) else (if a0 = 246 then (some true) else (if a0 = 252 then (some true) else (if a0 = 223 then (some true) else (if a0 ≥ 945 then (some (decide (a0 ≤ 969))) else (some false))))))) = some r := h
 clear h
 by_cases c2 : a0 ≥ 97
 · rw [if_pos c2] at H
   have c2b0 : decide (97 ≤ a0) = true := decide_eq_true c2
   clear c2
   by_cases c3 : a0 ≤ 122
   · rw [if_pos c3] at H
     have c3b0 : decide (a0 ≤ 122) = true := decide_eq_true c3
     clear c3
     obtain rfl := Option.some.inj H
     go_enter Tryz.func74, Tryz.ntmps74
     go_wp2
     go_ret
     exact ⟨by first | rfl | (simp; done) | (simp [*]; done), by repeat (first | exact Drawn0.refl _ | apply Drawn0.step)⟩
   · rw [if_neg c3] at H
     have c3b0 : decide (a0 ≤ 122) = false := decide_eq_false c3
     clear c3
     by_cases c4 : a0 = 228
     · rw [if_pos c4] at H
       have c4b0 : (a0 == 228) = true := beq_iff_eq.mpr c4
       have c4b1 : (a0 != 228) = false := bne_eq_false_iff_eq.mpr c4
       clear c4
       obtain rfl := Option.some.inj H
       go_enter Tryz.func74, Tryz.ntmps74
       go_wp2
       go_ret
       exact ⟨by first | rfl | (simp; done) | (simp [*]; done), by repeat (first | exact Drawn0.refl _ | apply Drawn0.step)⟩
     · rw [if_neg c4] at H
       have c4b0 : (a0 == 228) = false := beq_eq_false_iff_ne.mpr c4
       have c4b1 : (a0 != 228) = true := bne_iff_ne.mpr c4
       by_cases c5 : a0 = 246
       · rw [if_pos c5] at H
         have c5b0 : (a0 == 246) = true := beq_iff_eq.mpr c5
         have c5b1 : (a0 != 246) = false := bne_eq_false_iff_eq.mpr c5
         clear c5
         obtain rfl := Option.some.inj H
         go_enter Tryz.func74, Tryz.ntmps74
         go_wp2
         go_ret
         exact ⟨by first | rfl | (simp; done) | (simp [*]; done), by repeat (first | exact Drawn0.refl _ | apply Drawn0.step)⟩
       · rw [if_neg c5] at H
         have c5b0 : (a0 == 246) = false := beq_eq_false_iff_ne.mpr c5
         have c5b1 : (a0 != 246) = true := bne_iff_ne.mpr c5
         by_cases c6 : a0 = 252
         · rw [if_pos c6] at H
           have c6b0 : (a0 == 252) = true := beq_iff_eq.mpr c6
           have c6b1 : (a0 != 252) = false := bne_eq_false_iff_eq.mpr c6
           clear c6
           obtain rfl := Option.some.inj H
           go_enter Tryz.func74, Tryz.ntmps74
           go_wp2
           go_ret
           exact ⟨by first | rfl | (simp; done) | (simp [*]; done), by repeat (first | exact Drawn0.refl _ | apply Drawn0.step)⟩
         · rw [if_neg c6] at H
           have c6b0 : (a0 == 252) = false := beq_eq_false_iff_ne.mpr c6
           have c6b1 : (a0 != 252) = true := bne_iff_ne.mpr c6
           by_cases c7 : a0 = 223
           · rw [if_pos c7] at H
             have c7b0 : (a0 == 223) = true := beq_iff_eq.mpr c7
             have c7b1 : (a0 != 223) = false := bne_eq_false_iff_eq.mpr c7
             clear c7
             obtain rfl := Option.some.inj H
             go_enter Tryz.func74, Tryz.ntmps74
             go_wp2
             go_ret
             exact ⟨by first | rfl | (simp; done) | (simp [*]; done), by repeat (first | exact Drawn0.refl _ | apply Drawn0.step)⟩
           · rw [if_neg c7] at H
             have c7b0 : (a0 == 223) = false := beq_eq_false_iff_ne.mpr c7
             have c7b1 : (a0 != 223) = true := bne_iff_ne.mpr c7
             by_cases c8 : a0 ≥ 945
             · rw [if_pos c8] at H
               have c8b0 : decide (945 ≤ a0) = true := decide_eq_true c8
               clear c8
               obtain rfl := Option.some.inj H
               go_enter Tryz.func74, Tryz.ntmps74
               go_wp2
               go_ret
               exact ⟨by first | rfl | (simp; done) | (simp [*]; done), by repeat (first | exact Drawn0.refl _ | apply Drawn0.step)⟩
             · rw [if_neg c8] at H
               have c8b0 : decide (945 ≤ a0) = false := decide_eq_false c8
               clear c8
               obtain rfl := Option.some.inj H
               go_enter Tryz.func74, Tryz.ntmps74
               go_wp2
               go_ret
               exact ⟨by first | rfl | (simp; done) | (simp [*]; done), by repeat (first | exact Drawn0.refl _ | apply Drawn0.step)⟩
 · rw [if_neg c2] at H
   have c2b0 : decide (97 ≤ a0) = false := decide_eq_false c2
   clear c2
   by_cases c9 : a0 = 228
   · rw [if_pos c9] at H
     have c9b0 : (a0 == 228) = true := beq_iff_eq.mpr c9
     have c9b1 : (a0 != 228) = false := bne_eq_false_iff_eq.mpr c9
     clear c9
     obtain rfl := Option.some.inj H
     go_enter Tryz.func74, Tryz.ntmps74
     go_wp2
     go_ret
     exact ⟨by first | rfl | (simp; done) | (simp [*]; done), by repeat (first | exact Drawn0.refl _ | apply Drawn0.step)⟩
   · rw [if_neg c9] at H
     have c9b0 : (a0 == 228) = false := beq_eq_false_iff_ne.mpr c9
     have c9b1 : (a0 != 228) = true := bne_iff_ne.mpr c9
     by_cases c10 : a0 = 246
     · rw [if_pos c10] at H
       have c10b0 : (a0 == 246) = true := beq_iff_eq.mpr c10
       have c10b1 : (a0 != 246) = false := bne_eq_false_iff_eq.mpr c10
       clear c10
       obtain rfl := Option.some.inj H
       go_enter Tryz.func74, Tryz.ntmps74
       go_wp2
       go_ret
       exact ⟨by first | rfl | (simp; done) | (simp [*]; done), by repeat (first | exact Drawn0.refl _ | apply Drawn0.step)⟩
     · rw [if_neg c10] at H
       have c10b0 : (a0 == 246) = false := beq_eq_false_iff_ne.mpr c10
       have c10b1 : (a0 != 246) = true := bne_iff_ne.mpr c10
       by_cases c11 : a0 = 252
       · rw [if_pos c11] at H
         have c11b0 : (a0 == 252) = true := beq_iff_eq.mpr c11
         have c11b1 : (a0 != 252) = false := bne_eq_false_iff_eq.mpr c11
         clear c11
         obtain rfl := Option.some.inj H
         go_enter Tryz.func74, Tryz.ntmps74
         go_wp2
         go_ret
         exact ⟨by first | rfl | (simp; done) | (simp [*]; done), by repeat (first | exact Drawn0.refl _ | apply Drawn0.step)⟩
       · rw [if_neg c11] at H
         have c11b0 : (a0 == 252) = false := beq_eq_false_iff_ne.mpr c11
         have c11b1 : (a0 != 252) = true := bne_iff_ne.mpr c11
         by_cases c12 : a0 = 223
         · rw [if_pos c12] at H
           have c12b0 : (a0 == 223) = true := beq_iff_eq.mpr c12
           have c12b1 : (a0 != 223) = false := bne_eq_false_iff_eq.mpr c12
           clear c12
           obtain rfl := Option.some.inj H
           go_enter Tryz.func74, Tryz.ntmps74
           go_wp2
           go_ret
           exact ⟨by first | rfl | (simp; done) | (simp [*]; done), by repeat (first | exact Drawn0.refl _ | apply Drawn0.step)⟩
         · rw [if_neg c12] at H
           have c12b0 : (a0 == 223) = false := beq_eq_false_iff_ne.mpr c12
           have c12b1 : (a0 != 223) = true := bne_iff_ne.mpr c12
           by_cases c13 : a0 ≥ 945
           · rw [if_pos c13] at H
             have c13b0 : decide (945 ≤ a0) = true := decide_eq_true c13
             clear c13
             obtain rfl := Option.some.inj H
             go_enter Tryz.func74, Tryz.ntmps74
             go_wp2
             go_ret
             exact ⟨by first | rfl | (simp; done) | (simp [*]; done), by repeat (first | exact Drawn0.refl _ | apply Drawn0.step)⟩
           · rw [if_neg c13] at H
             have c13b0 : decide (945 ≤ a0) = false := decide_eq_false c13
             clear c13
             obtain rfl := Option.some.inj H
             go_enter Tryz.func74, Tryz.ntmps74
             go_wp2
             go_ret
             exact ⟨by first | rfl | (simp; done) | (simp [*]; done), by repeat (first | exact Drawn0.refl _ | apply Drawn0.step)⟩

end Go.Proofs.YthlgcibckakhbaaGreatDoor.PPlanAheads

-- PRINTED BY print.sh 35421559b90ae4d0a3588c463048766b98c2df88dd9212a6774a882060cdf62d: not written by this session
namespace Go.Proofs.YthlgcibckakhbaaGreatDoor.PPlanAheads
open Go.RowKit Go.Proofs.YthlgcibckakhbaaGreatDoorW.PrintWords Go.Proofs.YthlgcibckakhbaaGreatDoorW.PrintLast Go.Proofs.YthlgcibckakhbaaGreatDoorW.PrintMore
attribute [local go_sem] max2_int min2_int max_two min_two max_three min_three max_four min_four   -- for this text's walks alone
set_option linter.unusedVariables false
set_option linter.unusedSimpArgs false

/-! ### odysseyref01_Is: function 56 -/
def odysseyref01_Is.l0 : Nat → ByteArray → Int → Int → Option (Bool)
 | 0, _, _, _ => none
 | k + 1, x0, x3, x4 => if x4 < (x0.size : Int) then ((odysseyref01_Next.f k x0 x4).bind fun bt138 => ((odysseyref01_letter.f bt138.1).bind fun t141 => (if bt138.2.2 = true then (if t141 = true then (odysseyref01_Is.l0 k x0 (wrap64 (x3 + 1)) (wrap64 (x4 + bt138.2.1))) else (if x3 > 0 then (if bt138.1 = 45 then (odysseyref01_Is.l0 k x0 (wrap64 (x3 + 1)) (wrap64 (x4 + bt138.2.1))) else (if bt138.1 ≥ 48 then (if bt138.1 ≤ 57 then (odysseyref01_Is.l0 k x0 (wrap64 (x3 + 1)) (wrap64 (x4 + bt138.2.1))) else (some false)) else (some false))) else (some false))) else (some false)))) else (if x3 ≥ 1 then (some (decide (x3 ≤ 8))) else (some false))
def odysseyref01_Is.f (k : Nat) (a0 : ByteArray) : Option (Bool) := odysseyref01_Is.l0 k a0 0 0
theorem odysseyref01_Is.mono_l : ∀ k, (∀ y0 y1 y2, LeO (odysseyref01_Is.l0 k y0 y1 y2) (odysseyref01_Is.l0 (k + 1) y0 y1 y2))
 | 0 => fun _ _ _ r h => by simp [odysseyref01_Is.l0] at h
 | k + 1 => by
  have ih0 := odysseyref01_Is.mono_l k
  · intro y0 y1 y2
    unfold odysseyref01_Is.l0
    repeat' first
    | (with_reducible exact ih0 _ _ _)
    | (with_reducible exact odysseyref01_Next.mono _ _ _)
    | (with_reducible exact LeO.refl _)
    | (with_reducible exact LeO.none _)
    | (with_reducible refine LeO.ite ?_ ?_)
    | (with_reducible refine LeO.bind ?_ (fun _ => ?_))
    | exact ih0 _ _ _
    | exact odysseyref01_Next.mono _ _ _
    | exact LeO.none _
    | refine LeO.ite ?_ ?_
    | refine LeO.bind ?_ (fun _ => ?_)
theorem odysseyref01_Is.mono : ∀ a0 k, LeO (odysseyref01_Is.f k a0) (odysseyref01_Is.f (k + 1) a0) := by
 intro a0 k
 have ih0 := odysseyref01_Is.mono_l k
 unfold odysseyref01_Is.f
 repeat' first
  | (with_reducible exact ih0 _ _ _)
  | (with_reducible exact odysseyref01_Next.mono _ _ _)
  | (with_reducible exact LeO.refl _)
  | (with_reducible exact LeO.none _)
  | (with_reducible refine LeO.ite ?_ ?_)
  | (with_reducible refine LeO.bind ?_ (fun _ => ?_))
  | exact ih0 _ _ _
  | exact odysseyref01_Next.mono _ _ _
  | exact LeO.none _
  | refine LeO.ite ?_ ?_
  | refine LeO.bind ?_ (fun _ => ?_)
set_option maxHeartbeats 8000000 in
set_option maxRecDepth 100000 in
theorem odysseyref01_Is.calls (k : Nat) (a0 : ByteArray) (r : Bool) (w : World) (h : odysseyref01_Is.f k a0 = some r) :
 Calls Tryz.prog 56 #[.string a0] w fun e w' => e = .returned (.bool r) ∧ Drawn0 w w' := by
 have H : (odysseyref01_Is.l0 k a0 0 0) = some r := h
 clear h
 have H' := Aside0.mk H
 clear H
 go_enter Tryz.func56, Tryz.ntmps56
 go_wp2
 go_loopg [3, 4] k (fun kq v3 v4 w' => ∃ (x3_1 : Int) (x4_1 : Int), v3 = .int .i64 x3_1 ∧ v4 = .int .i64 x4_1 ∧ Aside0 (odysseyref01_Is.l0 kq a0 x3_1 x4_1 = some r) ∧ Aside0 (kq ≤ k) ∧ Drawn0 w w')
 case atStart => exact ⟨(0), (0), (by first | rfl | (simp; done) | (simp [*]; done)), (by first | rfl | (simp; done) | (simp [*]; done)), H', ⟨Nat.le_refl _⟩, by repeat (first | exact Drawn0.refl _ | apply Drawn0.step)⟩
 case round =>
  clear H'
  obtain ⟨x3_1, x4_1, rfl, rfl, HA, HK1, ⟨m1, rfl⟩⟩ := hrel
  cases gk with
  | zero => exact absurd HA.out (by simp [odysseyref01_Is.l0])
  | succ k1 =>
   have H := HA.out
   clear HA
   simp only [odysseyref01_Is.l0] at H
   by_cases c2 : x4_1 < (a0.size : Int)
   · rw [if_pos c2] at H
     have c2b0 : decide (x4_1 < (a0.size : Int)) = true := decide_eq_true c2
     clear c2
     replace H := Option.bind_eq_some_iff.mp H
     obtain ⟨⟨t138, t139, t140⟩, A30, H⟩ := H
     replace H : ((odysseyref01_letter.f t138).bind fun t141 => (if t140 = true then (if t141 = true then (odysseyref01_Is.l0 k1 a0 (wrap64 (x3_1 + 1)) (wrap64 (x4_1 + t139))) else (if x3_1 > 0 then (if t138 = 45 then (odysseyref01_Is.l0 k1 a0 (wrap64 (x3_1 + 1)) (wrap64 (x4_1 + t139))) else (if t138 ≥ 48 then (if t138 ≤ 57 then (odysseyref01_Is.l0 k1 a0 (wrap64 (x3_1 + 1)) (wrap64 (x4_1 + t139))) else (some false)) else (some false))) else (some false))) else (some false))) = some r := H
     have A3 := Aside0.mk A30
     clear A30
     replace H := Option.bind_eq_some_iff.mp H
     obtain ⟨t141, A40, H⟩ := H
     replace H : (if t140 = true then (if t141 = true then (odysseyref01_Is.l0 k1 a0 (wrap64 (x3_1 + 1)) (wrap64 (x4_1 + t139))) else (if x3_1 > 0 then (if t138 = 45 then (odysseyref01_Is.l0 k1 a0 (wrap64 (x3_1 + 1)) (wrap64 (x4_1 + t139))) else (if t138 ≥ 48 then (if t138 ≤ 57 then (odysseyref01_Is.l0 k1 a0 (wrap64 (x3_1 + 1)) (wrap64 (x4_1 + t139))) else (some false)) else (some false))) else (some false))) else (some false)) = some r := H
     have A4 := Aside0.mk A40
     clear A40
     by_cases c5 : t140 = true
     · subst c5
       have H1 : (if t141 = true then (odysseyref01_Is.l0 k1 a0 (wrap64 (x3_1 + 1)) (wrap64 (x4_1 + t139))) else (if x3_1 > 0 then (if t138 = 45 then (odysseyref01_Is.l0 k1 a0 (wrap64 (x3_1 + 1)) (wrap64 (x4_1 + t139))) else (if t138 ≥ 48 then (if t138 ≤ 57 then (odysseyref01_Is.l0 k1 a0 (wrap64 (x3_1 + 1)) (wrap64 (x4_1 + t139))) else (some false)) else (some false))) else (some false))) = some r := by rw [if_pos rfl] at H; exact H
       clear H
       have H := H1
       clear H1
       by_cases c6 : t141 = true
       · subst c6
         have H1 : (odysseyref01_Is.l0 k1 a0 (wrap64 (x3_1 + 1)) (wrap64 (x4_1 + t139))) = some r := by rw [if_pos rfl] at H; exact H
         clear H
         have H := H1
         clear H1
         have H' := Aside0.mk H
         clear H
         go_wp2_with (first | ((with_reducible refine gate_callee (f := 73) rfl ?_); refine goesL_ (some 16) rfl rfl Tryz.func73 (by kernel_rfl) rfl #[.string a0, .int .i64 x4_1] rfl (by (try simp only [List.map_toArray, List.map_cons, List.map_nil]); first | done | rfl | (simp only [List.length_drop, List.length_take]; rfl)) ?_; (with_reducible refine (odysseyref01_Next.calls k1 a0 x4_1 t138 t139 true _ A3.out).mono ?_); rintro e w' ⟨rfl, ⟨nd, rfl⟩⟩; refine ⟨_, rfl, ?_⟩) | ((with_reducible refine gate_callee (f := 74) rfl ?_); refine goesL_ (some 21) rfl rfl Tryz.func74 (by kernel_rfl) rfl #[.int .i64 t138] rfl (by (try simp only [List.map_toArray, List.map_cons, List.map_nil]); first | done | rfl | (simp only [List.length_drop, List.length_take]; rfl)) ?_; (with_reducible refine (odysseyref01_letter.calls t138 true _ A4.out).mono ?_); rintro e w' ⟨rfl, ⟨nd, rfl⟩⟩; refine ⟨_, rfl, ?_⟩))
         go_roundg k1
         case measure => have := HK1.out; omega
         case rel => exact ⟨(wrap64 (x3_1 + 1)), (wrap64 (x4_1 + t139)), (by first | rfl | (simp; done) | (simp [*]; done)), (by first | rfl | (simp; done) | (simp [*]; done)), H', ⟨by have := HK1.out; omega⟩, by repeat (first | exact Drawn0.refl _ | apply Drawn0.step)⟩
       · replace c6 := Bool.eq_false_iff.mpr c6
         subst c6
         have H1 : (if x3_1 > 0 then (if t138 = 45 then (odysseyref01_Is.l0 k1 a0 (wrap64 (x3_1 + 1)) (wrap64 (x4_1 + t139))) else (if t138 ≥ 48 then (if t138 ≤ 57 then (odysseyref01_Is.l0 k1 a0 (wrap64 (x3_1 + 1)) (wrap64 (x4_1 + t139))) else (some false)) else (some false))) else (some false)) = some r := by rw [if_neg (show ¬ (false = true) by decide)] at H; exact H
         clear H
         have H := H1
         clear H1
         by_cases c7 : x3_1 > 0
         · rw [if_pos c7] at H
           have c7b0 : decide (0 < x3_1) = true := decide_eq_true c7
           clear c7
           by_cases c8 : t138 = 45
           · rw [if_pos c8] at H
             have c8b0 : (t138 == 45) = true := beq_iff_eq.mpr c8
             have c8b1 : (t138 != 45) = false := bne_eq_false_iff_eq.mpr c8
             clear c8
             have H' := Aside0.mk H
             clear H
             go_wp2_with (first | ((with_reducible refine gate_callee (f := 73) rfl ?_); refine goesL_ (some 16) rfl rfl Tryz.func73 (by kernel_rfl) rfl #[.string a0, .int .i64 x4_1] rfl (by (try simp only [List.map_toArray, List.map_cons, List.map_nil]); first | done | rfl | (simp only [List.length_drop, List.length_take]; rfl)) ?_; (with_reducible refine (odysseyref01_Next.calls k1 a0 x4_1 t138 t139 true _ A3.out).mono ?_); rintro e w' ⟨rfl, ⟨nd, rfl⟩⟩; refine ⟨_, rfl, ?_⟩) | ((with_reducible refine gate_callee (f := 74) rfl ?_); refine goesL_ (some 21) rfl rfl Tryz.func74 (by kernel_rfl) rfl #[.int .i64 t138] rfl (by (try simp only [List.map_toArray, List.map_cons, List.map_nil]); first | done | rfl | (simp only [List.length_drop, List.length_take]; rfl)) ?_; (with_reducible refine (odysseyref01_letter.calls t138 false _ A4.out).mono ?_); rintro e w' ⟨rfl, ⟨nd, rfl⟩⟩; refine ⟨_, rfl, ?_⟩))
             go_roundg k1
             case measure => have := HK1.out; omega
             case rel => exact ⟨(wrap64 (x3_1 + 1)), (wrap64 (x4_1 + t139)), (by first | rfl | (simp; done) | (simp [*]; done)), (by first | rfl | (simp; done) | (simp [*]; done)), H', ⟨by have := HK1.out; omega⟩, by repeat (first | exact Drawn0.refl _ | apply Drawn0.step)⟩
           · rw [if_neg c8] at H
             have c8b0 : (t138 == 45) = false := beq_eq_false_iff_ne.mpr c8
             have c8b1 : (t138 != 45) = true := bne_iff_ne.mpr c8
             by_cases c9 : t138 ≥ 48
             · rw [if_pos c9] at H
               have c9b0 : decide (48 ≤ t138) = true := decide_eq_true c9
               clear c9
               by_cases c10 : t138 ≤ 57
               · rw [if_pos c10] at H
                 have c10b0 : decide (t138 ≤ 57) = true := decide_eq_true c10
                 clear c10
                 have H' := Aside0.mk H
                 clear H
                 go_wp2_with (first | ((with_reducible refine gate_callee (f := 73) rfl ?_); refine goesL_ (some 16) rfl rfl Tryz.func73 (by kernel_rfl) rfl #[.string a0, .int .i64 x4_1] rfl (by (try simp only [List.map_toArray, List.map_cons, List.map_nil]); first | done | rfl | (simp only [List.length_drop, List.length_take]; rfl)) ?_; (with_reducible refine (odysseyref01_Next.calls k1 a0 x4_1 t138 t139 true _ A3.out).mono ?_); rintro e w' ⟨rfl, ⟨nd, rfl⟩⟩; refine ⟨_, rfl, ?_⟩) | ((with_reducible refine gate_callee (f := 74) rfl ?_); refine goesL_ (some 21) rfl rfl Tryz.func74 (by kernel_rfl) rfl #[.int .i64 t138] rfl (by (try simp only [List.map_toArray, List.map_cons, List.map_nil]); first | done | rfl | (simp only [List.length_drop, List.length_take]; rfl)) ?_; (with_reducible refine (odysseyref01_letter.calls t138 false _ A4.out).mono ?_); rintro e w' ⟨rfl, ⟨nd, rfl⟩⟩; refine ⟨_, rfl, ?_⟩))
                 go_roundg k1
                 case measure => have := HK1.out; omega
                 case rel => exact ⟨(wrap64 (x3_1 + 1)), (wrap64 (x4_1 + t139)), (by first | rfl | (simp; done) | (simp [*]; done)), (by first | rfl | (simp; done) | (simp [*]; done)), H', ⟨by have := HK1.out; omega⟩, by repeat (first | exact Drawn0.refl _ | apply Drawn0.step)⟩
               · rw [if_neg c10] at H
                 have c10b0 : decide (t138 ≤ 57) = false := decide_eq_false c10
                 clear c10
                 obtain rfl := Option.some.inj H
                 go_wp2_with (first | ((with_reducible refine gate_callee (f := 73) rfl ?_); refine goesL_ (some 16) rfl rfl Tryz.func73 (by kernel_rfl) rfl #[.string a0, .int .i64 x4_1] rfl (by (try simp only [List.map_toArray, List.map_cons, List.map_nil]); first | done | rfl | (simp only [List.length_drop, List.length_take]; rfl)) ?_; (with_reducible refine (odysseyref01_Next.calls k1 a0 x4_1 t138 t139 true _ A3.out).mono ?_); rintro e w' ⟨rfl, ⟨nd, rfl⟩⟩; refine ⟨_, rfl, ?_⟩) | ((with_reducible refine gate_callee (f := 74) rfl ?_); refine goesL_ (some 21) rfl rfl Tryz.func74 (by kernel_rfl) rfl #[.int .i64 t138] rfl (by (try simp only [List.map_toArray, List.map_cons, List.map_nil]); first | done | rfl | (simp only [List.length_drop, List.length_take]; rfl)) ?_; (with_reducible refine (odysseyref01_letter.calls t138 false _ A4.out).mono ?_); rintro e w' ⟨rfl, ⟨nd, rfl⟩⟩; refine ⟨_, rfl, ?_⟩))
                 go_ret
                 exact ⟨by first | rfl | (simp; done) | (simp [*]; done), by repeat (first | exact Drawn0.refl _ | apply Drawn0.step)⟩
             · rw [if_neg c9] at H
               have c9b0 : decide (48 ≤ t138) = false := decide_eq_false c9
               clear c9
               obtain rfl := Option.some.inj H
               go_wp2_with (first | ((with_reducible refine gate_callee (f := 73) rfl ?_); refine goesL_ (some 16) rfl rfl Tryz.func73 (by kernel_rfl) rfl #[.string a0, .int .i64 x4_1] rfl (by (try simp only [List.map_toArray, List.map_cons, List.map_nil]); first | done | rfl | (simp only [List.length_drop, List.length_take]; rfl)) ?_; (with_reducible refine (odysseyref01_Next.calls k1 a0 x4_1 t138 t139 true _ A3.out).mono ?_); rintro e w' ⟨rfl, ⟨nd, rfl⟩⟩; refine ⟨_, rfl, ?_⟩) | ((with_reducible refine gate_callee (f := 74) rfl ?_); refine goesL_ (some 21) rfl rfl Tryz.func74 (by kernel_rfl) rfl #[.int .i64 t138] rfl (by (try simp only [List.map_toArray, List.map_cons, List.map_nil]); first | done | rfl | (simp only [List.length_drop, List.length_take]; rfl)) ?_; (with_reducible refine (odysseyref01_letter.calls t138 false _ A4.out).mono ?_); rintro e w' ⟨rfl, ⟨nd, rfl⟩⟩; refine ⟨_, rfl, ?_⟩))
               go_ret
               exact ⟨by first | rfl | (simp; done) | (simp [*]; done), by repeat (first | exact Drawn0.refl _ | apply Drawn0.step)⟩
         · rw [if_neg c7] at H
           have c7b0 : decide (0 < x3_1) = false := decide_eq_false c7
           clear c7
           obtain rfl := Option.some.inj H
           go_wp2_with (first | ((with_reducible refine gate_callee (f := 73) rfl ?_); refine goesL_ (some 16) rfl rfl Tryz.func73 (by kernel_rfl) rfl #[.string a0, .int .i64 x4_1] rfl (by (try simp only [List.map_toArray, List.map_cons, List.map_nil]); first | done | rfl | (simp only [List.length_drop, List.length_take]; rfl)) ?_; (with_reducible refine (odysseyref01_Next.calls k1 a0 x4_1 t138 t139 true _ A3.out).mono ?_); rintro e w' ⟨rfl, ⟨nd, rfl⟩⟩; refine ⟨_, rfl, ?_⟩) | ((with_reducible refine gate_callee (f := 74) rfl ?_); refine goesL_ (some 21) rfl rfl Tryz.func74 (by kernel_rfl) rfl #[.int .i64 t138] rfl (by (try simp only [List.map_toArray, List.map_cons, List.map_nil]); first | done | rfl | (simp only [List.length_drop, List.length_take]; rfl)) ?_; (with_reducible refine (odysseyref01_letter.calls t138 false _ A4.out).mono ?_); rintro e w' ⟨rfl, ⟨nd, rfl⟩⟩; refine ⟨_, rfl, ?_⟩))
           go_ret
           exact ⟨by first | rfl | (simp; done) | (simp [*]; done), by repeat (first | exact Drawn0.refl _ | apply Drawn0.step)⟩
     · replace c5 := Bool.eq_false_iff.mpr c5
       subst c5
       have H1 : (some false) = some r := by rw [if_neg (show ¬ (false = true) by decide)] at H; exact H
       clear H
       have H := H1
       clear H1
       obtain rfl := Option.some.inj H
       go_wp2_with (first | ((with_reducible refine gate_callee (f := 73) rfl ?_); refine goesL_ (some 16) rfl rfl Tryz.func73 (by kernel_rfl) rfl #[.string a0, .int .i64 x4_1] rfl (by (try simp only [List.map_toArray, List.map_cons, List.map_nil]); first | done | rfl | (simp only [List.length_drop, List.length_take]; rfl)) ?_; (with_reducible refine (odysseyref01_Next.calls k1 a0 x4_1 t138 t139 false _ A3.out).mono ?_); rintro e w' ⟨rfl, ⟨nd, rfl⟩⟩; refine ⟨_, rfl, ?_⟩) | ((with_reducible refine gate_callee (f := 74) rfl ?_); refine goesL_ (some 21) rfl rfl Tryz.func74 (by kernel_rfl) rfl #[.int .i64 t138] rfl (by (try simp only [List.map_toArray, List.map_cons, List.map_nil]); first | done | rfl | (simp only [List.length_drop, List.length_take]; rfl)) ?_; (with_reducible refine (odysseyref01_letter.calls t138 t141 _ A4.out).mono ?_); rintro e w' ⟨rfl, ⟨nd, rfl⟩⟩; refine ⟨_, rfl, ?_⟩))
       go_ret
       exact ⟨by first | rfl | (simp; done) | (simp [*]; done), by repeat (first | exact Drawn0.refl _ | apply Drawn0.step)⟩
   · rw [if_neg c2] at H
     have c2b0 : decide (x4_1 < (a0.size : Int)) = false := decide_eq_false c2
     clear c2
     by_cases c11 : x3_1 ≥ 1
     · rw [if_pos c11] at H
       have c11b0 : decide (1 ≤ x3_1) = true := decide_eq_true c11
       clear c11
       obtain rfl := Option.some.inj H
       go_wp2
       go_ret
       exact ⟨by first | rfl | (simp; done) | (simp [*]; done), by repeat (first | exact Drawn0.refl _ | apply Drawn0.step)⟩
     · rw [if_neg c11] at H
       have c11b0 : decide (1 ≤ x3_1) = false := decide_eq_false c11
       clear c11
       obtain rfl := Option.some.inj H
       go_wp2
       go_ret
       exact ⟨by first | rfl | (simp; done) | (simp [*]; done), by repeat (first | exact Drawn0.refl _ | apply Drawn0.step)⟩

/-! ### odysseyref11_twice: function 75 -/
def odysseyref11_twice.l0 : Nat → Int → Int → ByteArray → List (S37) → Option (Bool)
 | 0, _, _, _, _ => none
 | k + 1, x1, x5, x143000, x143001 => if x5 < x1 then (if 0 ≤ x5 then (if x5 < (x143001.length : Int) then (if 0 ≤ x1 then (if x1 < (x143001.length : Int) then (if ((rd_T37 x143001 x5).f0).toList = ((rd_T37 x143001 x1).f0).toList then (some true) else (odysseyref11_twice.l0 k x1 (wrap64 (x5 + 1)) x143000 x143001)) else (none)) else (none)) else (none)) else (none)) else (some false)
def odysseyref11_twice.f (k : Nat) (a0_0 : ByteArray) (l0_1 : List (S37)) (a1 : Int) : Option (Bool) := odysseyref11_twice.l0 k a1 0 a0_0 l0_1
theorem odysseyref11_twice.mono_l : ∀ k, (∀ y0 y1 y2 y3, LeO (odysseyref11_twice.l0 k y0 y1 y2 y3) (odysseyref11_twice.l0 (k + 1) y0 y1 y2 y3))
 | 0 => fun _ _ _ _ r h => by simp [odysseyref11_twice.l0] at h
 | k + 1 => by
  have ih0 := odysseyref11_twice.mono_l k
  · intro y0 y1 y2 y3
    unfold odysseyref11_twice.l0
    repeat' first
    | (with_reducible exact ih0 _ _ _ _)
    | (with_reducible exact LeO.refl _)
    | (with_reducible exact LeO.none _)
    | (with_reducible refine LeO.ite ?_ ?_)
    | (with_reducible refine LeO.bind ?_ (fun _ => ?_))
    | exact ih0 _ _ _ _
    | exact LeO.none _
    | refine LeO.ite ?_ ?_
    | refine LeO.bind ?_ (fun _ => ?_)
theorem odysseyref11_twice.mono : ∀ a0 a1 a2 k, LeO (odysseyref11_twice.f k a0 a1 a2) (odysseyref11_twice.f (k + 1) a0 a1 a2) := by
 intro a0 a1 a2 k
 have ih0 := odysseyref11_twice.mono_l k
 unfold odysseyref11_twice.f
 repeat' first
  | (with_reducible exact ih0 _ _ _ _)
  | (with_reducible exact LeO.refl _)
  | (with_reducible exact LeO.none _)
  | (with_reducible refine LeO.ite ?_ ?_)
  | (with_reducible refine LeO.bind ?_ (fun _ => ?_))
  | exact ih0 _ _ _ _
  | exact LeO.none _
  | refine LeO.ite ?_ ?_
  | refine LeO.bind ?_ (fun _ => ?_)
set_option maxHeartbeats 8000000 in
set_option maxRecDepth 100000 in
theorem odysseyref11_twice.calls (k : Nat) (a0_0 : ByteArray) (A0_1 : Option Addr) (c0_1 : Nat) (l0_1 : List (S37)) (a1 : Int) (r : Bool) (w : World) (hr0_1 : Kd.C k37 w A0_1 l0_1.length l0_1) (hc0_1 : l0_1.length ≤ c0_1) (h : odysseyref11_twice.f k a0_0 l0_1 a1 = some r) :
 Calls Tryz.prog 75 #[.agg #[.string a0_0, .slice A0_1 l0_1.length c0_1], .int .i64 a1] w fun e w' => e = .returned (.bool r) ∧ Below w.heap.size w w' := by
 have hu24 := Tryz.underlying24
 have HR0_1 := Aside0.mk hr0_1
 have HC0_1 := Aside0.mk hc0_1
 clear hr0_1 hc0_1
 have HB := Aside0.mk (Below.refl w.heap.size w)
 have H : (odysseyref11_twice.l0 k a1 0 a0_0 l0_1) = some r := h
 clear h
 have H' := Aside0.mk H
 clear H
 go_enter Tryz.func75, Tryz.ntmps75
 go_wp2_with (first | ((with_reducible refine gate_dst (N := 2) rfl ?_); refine box_event ?hg (N := 2) ?hd (cs := #[.string a0_0, .slice A0_1 l0_1.length c0_1]) (t := 24) ?hr ?_; (case hd => rfl); (case hg => rfl); (case hr => first | (go_simp; done) | (go_simp; rfl)); intro gb142 hg w3 hbox hb; have n0_ := Aside0.mk (below_step (by repeat (first | (with_reducible first | exact HB.out | apply below_alloc | apply pw_below_drewN | apply below_drew1) | exact HB.out)) hb); have n1_ := Aside0.mk (hbox); have n2_ := Aside0.mk ((by rw [hg]; exact (below_size (by repeat (first | (with_reducible first | exact HB.out | apply below_alloc | apply pw_below_drewN | apply below_drew1) | exact HB.out))) : w.heap.size ≤ gb142)); have n3_ := Aside0.mk ((by rw [hg]; exact (below_size (by repeat (first | (with_reducible first | exact HB.out | apply below_alloc | apply pw_below_drewN | apply below_drew1) | exact HB.out))) : w.heap.size ≤ gb142)); clear HB; have HB := n0_; have BK142 := n1_; have GW142 := n2_; have GE142 := n3_; clear n0_ n1_ n2_ n3_; clear hb hbox hg))
 repeat (go_quiet (first | ((with_reducible refine gate_dst (N := 2) rfl ?_); refine box_event ?hg (N := 2) ?hd (cs := #[.string a0_0, .slice A0_1 l0_1.length c0_1]) (t := 24) ?hr ?_; (case hd => rfl); (case hg => rfl); (case hr => first | (go_simp; done) | (go_simp; rfl)); intro gb142 hg w3 hbox hb; have n0_ := Aside0.mk (below_step (by repeat (first | (with_reducible first | exact HB.out | apply below_alloc | apply pw_below_drewN | apply below_drew1) | exact HB.out)) hb); have n1_ := Aside0.mk (hbox); have n2_ := Aside0.mk ((by rw [hg]; exact (below_size (by repeat (first | (with_reducible first | exact HB.out | apply below_alloc | apply pw_below_drewN | apply below_drew1) | exact HB.out))) : w.heap.size ≤ gb142)); have n3_ := Aside0.mk ((by rw [hg]; exact (below_size (by repeat (first | (with_reducible first | exact HB.out | apply below_alloc | apply pw_below_drewN | apply below_drew1) | exact HB.out))) : w.heap.size ≤ gb142)); clear HB; have HB := n0_; have BK142 := n1_; have GW142 := n2_; have GE142 := n3_; clear n0_ n1_ n2_ n3_; clear hb hbox hg)); try go_wp2_with (first | ((with_reducible refine gate_dst (N := 2) rfl ?_); refine box_event ?hg (N := 2) ?hd (cs := #[.string a0_0, .slice A0_1 l0_1.length c0_1]) (t := 24) ?hr ?_; (case hd => rfl); (case hg => rfl); (case hr => first | (go_simp; done) | (go_simp; rfl)); intro gb142 hg w3 hbox hb; have n0_ := Aside0.mk (below_step (by repeat (first | (with_reducible first | exact HB.out | apply below_alloc | apply pw_below_drewN | apply below_drew1) | exact HB.out)) hb); have n1_ := Aside0.mk (hbox); have n2_ := Aside0.mk ((by rw [hg]; exact (below_size (by repeat (first | (with_reducible first | exact HB.out | apply below_alloc | apply pw_below_drewN | apply below_drew1) | exact HB.out))) : w.heap.size ≤ gb142)); have n3_ := Aside0.mk ((by rw [hg]; exact (below_size (by repeat (first | (with_reducible first | exact HB.out | apply below_alloc | apply pw_below_drewN | apply below_drew1) | exact HB.out))) : w.heap.size ≤ gb142)); clear HB; have HB := n0_; have BK142 := n1_; have GW142 := n2_; have GE142 := n3_; clear n0_ n1_ n2_ n3_; clear hb hbox hg)))
 go_loopg [5] k (fun kq v5 w' => ∃ (x5_1 : Int), v5 = .int .i64 x5_1 ∧ Aside0 (odysseyref11_twice.l0 kq a1 x5_1 a0_0 l0_1 = some r) ∧ Aside0 (kq ≤ k) ∧ Aside0 (w'.heap[gb142]? = some (.cells #[.string a0_0, (.slice A0_1 l0_1.length c0_1)] 24 (0, 0))) ∧ Aside0 (Below w.heap.size w w'))
 case atStart => exact ⟨(0), (by first | rfl | (simp; done) | (simp [*]; done)), H', ⟨Nat.le_refl _⟩, ⟨by (with_reducible repeat (first | refine blk_drewN ?_ _ | refine blk_drew ?_ | refine blk_alloc ?_ _)); exact BK142.out⟩, ⟨by repeat (first | (with_reducible first | exact HB.out | apply below_alloc | apply pw_below_drewN | apply below_drew1 | refine below_set ?_ GE142.out) | exact HB.out)⟩⟩
 case round =>
  clear H'
  try clear p2
  obtain ⟨x5_1, rfl, HA, HK1, BK142, HB⟩ := hrel
  cases gk with
  | zero => exact absurd HA.out (by simp [odysseyref11_twice.l0])
  | succ k1 =>
   have H := HA.out
   clear HA
   simp only [odysseyref11_twice.l0] at H
   by_cases c4 : x5_1 < a1
   · rw [if_pos c4] at H
     have c4b0 : decide (x5_1 < a1) = true := decide_eq_true c4
     clear c4
     by_cases c5 : 0 ≤ x5_1
     · rw [if_pos c5] at H
       have c5b0 : decide (0 ≤ x5_1) = true := decide_eq_true c5
       clear c5
       by_cases c6 : x5_1 < (l0_1.length : Int)
       · rw [if_pos c6] at H
         have c6b0 : decide (x5_1 < (l0_1.length : Int)) = true := decide_eq_true c6
         clear c6
         by_cases c7 : 0 ≤ a1
         · rw [if_pos c7] at H
           have c7b0 : decide (0 ≤ a1) = true := decide_eq_true c7
           clear c7
           by_cases c8 : a1 < (l0_1.length : Int)
           · rw [if_pos c8] at H
             have c8b0 : decide (a1 < (l0_1.length : Int)) = true := decide_eq_true c8
             clear c8
             by_cases c9 : ((rd_T37 l0_1 x5_1).f0).toList = ((rd_T37 l0_1 a1).f0).toList
             · rw [if_pos c9] at H
               have c9b0 : (((rd_T37 l0_1 x5_1).f0).toList == ((rd_T37 l0_1 a1).f0).toList) = true := beq_iff_eq.mpr c9
               have c9b1 : (((rd_T37 l0_1 x5_1).f0).toList != ((rd_T37 l0_1 a1).f0).toList) = false := bne_eq_false_iff_eq.mpr c9
               clear c9
               obtain rfl := Option.some.inj H
               have hcz10_0 : wr.cell? ⟨gb142, 0, none⟩ = some (.string a0_0) := (blk_cell BK142.out 0).trans rfl
               have hcz10_1 : wr.cell? ⟨gb142, 1, none⟩ = some (.slice A0_1 l0_1.length c0_1) := (blk_cell BK142.out 1).trans rfl
               have hfz10_0 := blk_frozen BK142.out 0
               have hfz10_1 := blk_frozen BK142.out 1
               have p143 : 0 ≤ (x5_1 : Int) := of_decide_eq_true (by first | (with_reducible assumption) | assumption)
               have q143 : x5_1 < (l0_1.length : Int) := of_decide_eq_true (by first | (with_reducible assumption) | assumption)
               obtain ⟨ad143, A143_3, c143_3, A143_4, c143_4, e143, hx143_0, hx143_1, hx143_2, hx143_3, hx143_4, hl143_3, hi143_3, hl143_4, hi143_4⟩ := at_T37 HR0_1.out x5_1 p143 q143
               cases e143
               replace hx143_0 := (HB.out.cell (World.block_lt_of_cell? w _ hx143_0)).trans hx143_0
               replace hx143_1 := (HB.out.cell (World.block_lt_of_cell? w _ hx143_1)).trans hx143_1
               replace hx143_2 := (HB.out.cell (World.block_lt_of_cell? w _ hx143_2)).trans hx143_2
               replace hx143_3 := (HB.out.cell (World.block_lt_of_cell? w _ hx143_3)).trans hx143_3
               replace hx143_4 := (HB.out.cell (World.block_lt_of_cell? w _ hx143_4)).trans hx143_4
               have HR143_3 := Aside0.mk hi143_3
               have HC143_3 := Aside0.mk hl143_3
               clear hi143_3 hl143_3
               have HR143_4 := Aside0.mk hi143_4
               have HC143_4 := Aside0.mk hl143_4
               clear hi143_4 hl143_4
               replace p143 := eq_true p143
               replace q143 := eq_true q143
               have p144 : 0 ≤ (a1 : Int) := of_decide_eq_true (by first | (with_reducible assumption) | assumption)
               have q144 : a1 < (l0_1.length : Int) := of_decide_eq_true (by first | (with_reducible assumption) | assumption)
               obtain ⟨ad144, A144_3, c144_3, A144_4, c144_4, e144, hx144_0, hx144_1, hx144_2, hx144_3, hx144_4, hl144_3, hi144_3, hl144_4, hi144_4⟩ := at_T37 HR0_1.out a1 p144 q144
               obtain rfl : ad143 = ad144 := (by injection e144)
               replace hx144_0 := (HB.out.cell (World.block_lt_of_cell? w _ hx144_0)).trans hx144_0
               replace hx144_1 := (HB.out.cell (World.block_lt_of_cell? w _ hx144_1)).trans hx144_1
               replace hx144_2 := (HB.out.cell (World.block_lt_of_cell? w _ hx144_2)).trans hx144_2
               replace hx144_3 := (HB.out.cell (World.block_lt_of_cell? w _ hx144_3)).trans hx144_3
               replace hx144_4 := (HB.out.cell (World.block_lt_of_cell? w _ hx144_4)).trans hx144_4
               have HR144_3 := Aside0.mk hi144_3
               have HC144_3 := Aside0.mk hl144_3
               clear hi144_3 hl144_3
               have HR144_4 := Aside0.mk hi144_4
               have HC144_4 := Aside0.mk hl144_4
               clear hi144_4 hl144_4
               replace p144 := eq_true p144
               replace q144 := eq_true q144
               go_wp2
               repeat (go_quiet (fail); try go_wp2)
               go_ret
               exact ⟨by first | rfl | (simp [errW_none, errW_some] <;> rfl) | (simp [*, errW_none, errW_some] <;> rfl), by repeat (first | (with_reducible first | exact HB.out | apply below_alloc | apply pw_below_drewN | apply below_drew1 | refine below_set ?_ GE142.out) | exact HB.out)⟩
             · rw [if_neg c9] at H
               have c9b0 : (((rd_T37 l0_1 x5_1).f0).toList == ((rd_T37 l0_1 a1).f0).toList) = false := beq_eq_false_iff_ne.mpr c9
               have c9b1 : (((rd_T37 l0_1 x5_1).f0).toList != ((rd_T37 l0_1 a1).f0).toList) = true := bne_iff_ne.mpr c9
               have H' := Aside0.mk H
               clear H
               have hcz11_0 : wr.cell? ⟨gb142, 0, none⟩ = some (.string a0_0) := (blk_cell BK142.out 0).trans rfl
               have hcz11_1 : wr.cell? ⟨gb142, 1, none⟩ = some (.slice A0_1 l0_1.length c0_1) := (blk_cell BK142.out 1).trans rfl
               have hfz11_0 := blk_frozen BK142.out 0
               have hfz11_1 := blk_frozen BK142.out 1
               have p143 : 0 ≤ (x5_1 : Int) := of_decide_eq_true (by first | (with_reducible assumption) | assumption)
               have q143 : x5_1 < (l0_1.length : Int) := of_decide_eq_true (by first | (with_reducible assumption) | assumption)
               obtain ⟨ad143, A143_3, c143_3, A143_4, c143_4, e143, hx143_0, hx143_1, hx143_2, hx143_3, hx143_4, hl143_3, hi143_3, hl143_4, hi143_4⟩ := at_T37 HR0_1.out x5_1 p143 q143
               cases e143
               replace hx143_0 := (HB.out.cell (World.block_lt_of_cell? w _ hx143_0)).trans hx143_0
               replace hx143_1 := (HB.out.cell (World.block_lt_of_cell? w _ hx143_1)).trans hx143_1
               replace hx143_2 := (HB.out.cell (World.block_lt_of_cell? w _ hx143_2)).trans hx143_2
               replace hx143_3 := (HB.out.cell (World.block_lt_of_cell? w _ hx143_3)).trans hx143_3
               replace hx143_4 := (HB.out.cell (World.block_lt_of_cell? w _ hx143_4)).trans hx143_4
               have HR143_3 := Aside0.mk hi143_3
               have HC143_3 := Aside0.mk hl143_3
               clear hi143_3 hl143_3
               have HR143_4 := Aside0.mk hi143_4
               have HC143_4 := Aside0.mk hl143_4
               clear hi143_4 hl143_4
               replace p143 := eq_true p143
               replace q143 := eq_true q143
               have p144 : 0 ≤ (a1 : Int) := of_decide_eq_true (by first | (with_reducible assumption) | assumption)
               have q144 : a1 < (l0_1.length : Int) := of_decide_eq_true (by first | (with_reducible assumption) | assumption)
               obtain ⟨ad144, A144_3, c144_3, A144_4, c144_4, e144, hx144_0, hx144_1, hx144_2, hx144_3, hx144_4, hl144_3, hi144_3, hl144_4, hi144_4⟩ := at_T37 HR0_1.out a1 p144 q144
               obtain rfl : ad143 = ad144 := (by injection e144)
               replace hx144_0 := (HB.out.cell (World.block_lt_of_cell? w _ hx144_0)).trans hx144_0
               replace hx144_1 := (HB.out.cell (World.block_lt_of_cell? w _ hx144_1)).trans hx144_1
               replace hx144_2 := (HB.out.cell (World.block_lt_of_cell? w _ hx144_2)).trans hx144_2
               replace hx144_3 := (HB.out.cell (World.block_lt_of_cell? w _ hx144_3)).trans hx144_3
               replace hx144_4 := (HB.out.cell (World.block_lt_of_cell? w _ hx144_4)).trans hx144_4
               have HR144_3 := Aside0.mk hi144_3
               have HC144_3 := Aside0.mk hl144_3
               clear hi144_3 hl144_3
               have HR144_4 := Aside0.mk hi144_4
               have HC144_4 := Aside0.mk hl144_4
               clear hi144_4 hl144_4
               replace p144 := eq_true p144
               replace q144 := eq_true q144
               go_wp2
               repeat (go_quiet (fail); try go_wp2)
               go_roundg k1
               case measure => have := HK1.out; omega
               case rel => exact ⟨(wrap64 (x5_1 + 1)), (by first | rfl | (simp; done) | (simp [*]; done)), H', ⟨by have := HK1.out; omega⟩, ⟨by (with_reducible repeat (first | refine blk_drewN ?_ _ | refine blk_drew ?_ | refine blk_alloc ?_ _)); exact BK142.out⟩, ⟨by repeat (first | (with_reducible first | exact HB.out | apply below_alloc | apply pw_below_drewN | apply below_drew1 | refine below_set ?_ GE142.out) | exact HB.out)⟩⟩
           · rw [if_neg c8] at H
             exact absurd H (by simp)
         · rw [if_neg c7] at H
           exact absurd H (by simp)
       · rw [if_neg c6] at H
         exact absurd H (by simp)
     · rw [if_neg c5] at H
       exact absurd H (by simp)
   · rw [if_neg c4] at H
     have c4b0 : decide (x5_1 < a1) = false := decide_eq_false c4
     clear c4
     obtain rfl := Option.some.inj H
     go_wp2
     repeat (go_quiet (fail); try go_wp2)
     go_ret
     exact ⟨by first | rfl | (simp [errW_none, errW_some] <;> rfl) | (simp [*, errW_none, errW_some] <;> rfl), by repeat (first | (with_reducible first | exact HB.out | apply below_alloc | apply pw_below_drewN | apply below_drew1 | refine below_set ?_ GE142.out) | exact HB.out)⟩

/-! ### odysseyref01_Runes: function 106 -/
def odysseyref01_Runes.l0 : Nat → ByteArray → List Int → Int → Option (List Int)
 | 0, _, _, _ => none
 | k + 1, x0, x3, x4 => if x4 < (x0.size : Int) then ((odysseyref01_Next.f k x0 x4).bind fun bt145 => (if x3.length < 17592186044416 then (odysseyref01_Runes.l0 k x0 (x3 ++ [bt145.1]) (wrap64 (x4 + bt145.2.1))) else (none))) else (some x3)
def odysseyref01_Runes.f (k : Nat) (a0 : ByteArray) : Option (List Int) := odysseyref01_Runes.l0 k a0 ([] : List Int) 0
theorem odysseyref01_Runes.mono_l : ∀ k, (∀ y0 y1 y2, LeO (odysseyref01_Runes.l0 k y0 y1 y2) (odysseyref01_Runes.l0 (k + 1) y0 y1 y2))
 | 0 => fun _ _ _ r h => by simp [odysseyref01_Runes.l0] at h
 | k + 1 => by
  have ih0 := odysseyref01_Runes.mono_l k
  · intro y0 y1 y2
    unfold odysseyref01_Runes.l0
    repeat' first
    | (with_reducible exact ih0 _ _ _)
    | (with_reducible exact odysseyref01_Next.mono _ _ _)
    | (with_reducible exact LeO.refl _)
    | (with_reducible exact LeO.none _)
    | (with_reducible refine LeO.ite ?_ ?_)
    | (with_reducible refine LeO.bind ?_ (fun _ => ?_))
    | exact ih0 _ _ _
    | exact odysseyref01_Next.mono _ _ _
    | exact LeO.none _
    | refine LeO.ite ?_ ?_
    | refine LeO.bind ?_ (fun _ => ?_)
theorem odysseyref01_Runes.mono : ∀ a0 k, LeO (odysseyref01_Runes.f k a0) (odysseyref01_Runes.f (k + 1) a0) := by
 intro a0 k
 have ih0 := odysseyref01_Runes.mono_l k
 unfold odysseyref01_Runes.f
 repeat' first
  | (with_reducible exact ih0 _ _ _)
  | (with_reducible exact odysseyref01_Next.mono _ _ _)
  | (with_reducible exact LeO.refl _)
  | (with_reducible exact LeO.none _)
  | (with_reducible refine LeO.ite ?_ ?_)
  | (with_reducible refine LeO.bind ?_ (fun _ => ?_))
  | exact ih0 _ _ _
  | exact odysseyref01_Next.mono _ _ _
  | exact LeO.none _
  | refine LeO.ite ?_ ?_
  | refine LeO.bind ?_ (fun _ => ?_)
set_option maxHeartbeats 8000000 in
set_option maxRecDepth 100000 in
theorem odysseyref01_Runes.calls (k : Nat) (a0 : ByteArray) (r : List Int) (w : World) (h : odysseyref01_Runes.f k a0 = some r) :
 Calls Tryz.prog 106 #[.string a0] w fun e w' => ∃ v0_ : Value, e = .returned (v0_) ∧ Kd.R (Kd.int .i64) 3 w' w.heap.size (fun _ => True) v0_ r ∧ Below w.heap.size w w' := by
 have HB := Aside0.mk (Below.refl w.heap.size w)
 have H : (odysseyref01_Runes.l0 k a0 ([] : List Int) 0) = some r := h
 clear h
 have H' := Aside0.mk H
 clear H
 go_enter Tryz.func106, Tryz.ntmps106
 go_wp2
 go_loopg [3, 4] k (fun kq v3 v4 w' => ∃ (x3_1 : List Int) (x4_1 : Int), v4 = .int .i64 x4_1 ∧ Aside0 (odysseyref01_Runes.l0 kq a0 x3_1 x4_1 = some r) ∧ Aside0 (kq ≤ k) ∧ Aside0 (Kd.R (Kd.int .i64) 3 w' w.heap.size (fun _ => True) v3 x3_1) ∧ Aside0 (Below w.heap.size w w'))
 case atStart => exact ⟨(([] : List Int)), (0), (by first | rfl | (simp; done) | (simp [*]; done)), H', ⟨Nat.le_refl _⟩, ⟨by first | exact Kd.R_nil _ _ _ _ _ | exact Kd.N_nil _ _ _ _ _ | exact Kd.V_nil _ _ _ _ _ | exact Kd.Q_nil _ _ _ _ _ | exact Kd.S_nil _ _ _ _ _⟩, ⟨by repeat (first | (with_reducible first | exact HB.out | apply below_alloc | apply pw_below_drewN | apply below_drew1) | exact HB.out)⟩⟩
 case round =>
  clear H'
  try clear c1
  obtain ⟨x3_1, x4_1, rfl, HA, HK1, HO_3, HB⟩ := hrel
  cases gk with
  | zero => exact absurd HA.out (by simp [odysseyref01_Runes.l0])
  | succ k1 =>
   have H := HA.out
   clear HA
   simp only [odysseyref01_Runes.l0] at H
   by_cases c2 : x4_1 < (a0.size : Int)
   · rw [if_pos c2] at H
     have c2b0 : decide (x4_1 < (a0.size : Int)) = true := decide_eq_true c2
     clear c2
     replace H := Option.bind_eq_some_iff.mp H
     obtain ⟨⟨t145, t146, t147⟩, A30, H⟩ := H
     replace H : (if x3_1.length < 17592186044416 then (odysseyref01_Runes.l0 k1 a0 (x3_1 ++ [t145]) (wrap64 (x4_1 + t146))) else (none)) = some r := H
     have A3 := Aside0.mk A30
     clear A30
     by_cases c4 : x3_1.length < 17592186044416
     · rw [if_pos c4] at H
       have LMc4 := Aside0.mk c4
       clear c4
       obtain ⟨y148, hy148⟩ : ∃ y_ : List Int, y_ = (x3_1 ++ [t145]) := ⟨_, rfl⟩
       replace H : (odysseyref01_Runes.l0 k1 a0 y148 (wrap64 (x4_1 + t146))) = some r := by first | (rw [hy148]; with_reducible exact H) | (have H2_ := (Option.bind_some _ _).symm.trans H; rw [hy148]; with_reducible exact H2_) | (have H2_ := (Option.bind_some _ _).symm.trans H; with_reducible exact H2_) | with_reducible exact H | (rw [hy148]; exact H) | exact H
       have Ny148 := Aside0.mk hy148
       clear hy148
       have H' := Aside0.mk H
       clear H
       go_wp2_with (first | ((with_reducible refine gate_callee (f := 73) rfl ?_); refine goesL_ (some 15) rfl rfl Tryz.func73 (by kernel_rfl) rfl #[.string a0, .int .i64 x4_1] rfl (by (try simp only [List.map_toArray, List.map_cons, List.map_nil]); first | done | rfl | (simp only [List.length_drop, List.length_take]; rfl)) ?_; (with_reducible refine (odysseyref01_Next.calls k1 a0 x4_1 t145 t146 t147 _ A3.out).mono ?_); rintro e w' ⟨rfl, ⟨nd, rfl⟩⟩; refine ⟨_, rfl, ?_⟩) | ((with_reducible refine gate_builtin (b := .append) (xs := #[.tmp 19, .tmp 21]) rfl ?_); at_builtin; refine Kd.R_append (Kd.int .i64) (w0 := w) w.heap.size rfl (.tmp 19) (.tmp 21) 26 3 (.int .i64 0) 8 rfl Tryz.underlying26 info3 rfl (by decide) (by omega) u3 x3_1 t145 [.int .i64 t145] (fun _ => True) (fun _ => False) rfl rfl ?aP (fun _ hk => hk.elim) ?aF ?aO ?aB ?aS ?aL ?_; (case aP => exact rfl); (case aB => exact (by repeat (first | (with_reducible first | exact HB.out | apply below_alloc | apply pw_below_drewN | apply below_drew1) | exact HB.out))); (case aF => exact (fun _ _ => trivial)); (case aO => exact (by (with_reducible repeat (first | apply Kd.R_alloc | apply Kd.R_drewN | apply Kd.R_drew)); exact HO_3.out)); (case aS => exact (below_size (by repeat (first | (with_reducible first | exact HB.out | apply below_alloc | apply pw_below_drewN | apply below_drew1) | exact HB.out)))); (case aL => have := LMc4.out; omega); intro v149 w5 ho hb hg hat; rw [← Ny148.out] at ho; have n0_ := Aside0.mk (hb); have n1_ := Aside0.mk (ho); clear HB; clear HO_3; have HB := n0_; have HO150 := n1_; clear n0_ n1_; clear ho hb hg hat))
       go_roundg k1
       case measure => have := HK1.out; omega
       case rel => exact ⟨(y148), (wrap64 (x4_1 + t146)), (by first | rfl | (simp; done) | (simp [*]; done)), H', ⟨by have := HK1.out; omega⟩, ⟨by (with_reducible repeat (first | apply Kd.R_alloc | apply Kd.R_drewN | apply Kd.R_drew)); exact HO150.out⟩, ⟨by repeat (first | (with_reducible first | exact HB.out | apply below_alloc | apply pw_below_drewN | apply below_drew1) | exact HB.out)⟩⟩
     · rw [if_neg c4] at H
       exact absurd H (by simp)
   · rw [if_neg c2] at H
     have c2b0 : decide (x4_1 < (a0.size : Int)) = false := decide_eq_false c2
     clear c2
     obtain rfl := Option.some.inj H
     go_wp2
     go_ret
     exact ⟨_, by first | rfl | (simp [errW_none, errW_some] <;> rfl) | (simp [*, errW_none, errW_some] <;> rfl), by (with_reducible repeat (first | apply Kd.R_alloc | apply Kd.R_drewN | apply Kd.R_drew)); exact HO_3.out, by repeat (first | (with_reducible first | exact HB.out | apply below_alloc | apply pw_below_drewN | apply below_drew1) | exact HB.out)⟩

/-! ### odysseyref01_Owner: function 97 -/
def odysseyref01_Owner.l0 : Nat → List Int → Int → Int → Option (Int)
 | 0, _, _, _ => none
 | k + 1, x3, x4, x5 => if x5 < (x3.length : Int) then (if 0 ≤ x5 then (odysseyref01_Owner.l0 k x3 (Int.tmod (wrap64 (x4 + (rd x3 x5))) 4) (wrap64 (x5 + 1))) else (none)) else (some x4)
def odysseyref01_Owner.f (k : Nat) (a0 : ByteArray) : Option (Int) := (odysseyref01_Runes.f k a0).bind fun t151 => (odysseyref01_Owner.l0 k t151 0 0)
theorem odysseyref01_Owner.mono_l : ∀ k, (∀ y0 y1 y2, LeO (odysseyref01_Owner.l0 k y0 y1 y2) (odysseyref01_Owner.l0 (k + 1) y0 y1 y2))
 | 0 => fun _ _ _ r h => by simp [odysseyref01_Owner.l0] at h
 | k + 1 => by
  have ih0 := odysseyref01_Owner.mono_l k
  · intro y0 y1 y2
    unfold odysseyref01_Owner.l0
    repeat' first
    | (with_reducible exact ih0 _ _ _)
    | (with_reducible exact odysseyref01_Runes.mono _ _)
    | (with_reducible exact LeO.refl _)
    | (with_reducible exact LeO.none _)
    | (with_reducible refine LeO.ite ?_ ?_)
    | (with_reducible refine LeO.bind ?_ (fun _ => ?_))
    | exact ih0 _ _ _
    | exact odysseyref01_Runes.mono _ _
    | exact LeO.none _
    | refine LeO.ite ?_ ?_
    | refine LeO.bind ?_ (fun _ => ?_)
theorem odysseyref01_Owner.mono : ∀ a0 k, LeO (odysseyref01_Owner.f k a0) (odysseyref01_Owner.f (k + 1) a0) := by
 intro a0 k
 have ih0 := odysseyref01_Owner.mono_l k
 unfold odysseyref01_Owner.f
 repeat' first
  | (with_reducible exact ih0 _ _ _)
  | (with_reducible exact odysseyref01_Runes.mono _ _)
  | (with_reducible exact LeO.refl _)
  | (with_reducible exact LeO.none _)
  | (with_reducible refine LeO.ite ?_ ?_)
  | (with_reducible refine LeO.bind ?_ (fun _ => ?_))
  | exact ih0 _ _ _
  | exact odysseyref01_Runes.mono _ _
  | exact LeO.none _
  | refine LeO.ite ?_ ?_
  | refine LeO.bind ?_ (fun _ => ?_)
set_option maxHeartbeats 8000000 in
set_option maxRecDepth 100000 in
theorem odysseyref01_Owner.calls (k : Nat) (a0 : ByteArray) (r : Int) (w : World) (h : odysseyref01_Owner.f k a0 = some r) :
 Calls Tryz.prog 97 #[.string a0] w fun e w' => e = .returned (.int .i64 r) ∧ Below w.heap.size w w' := by
 have HB := Aside0.mk (Below.refl w.heap.size w)
 have H : ((odysseyref01_Runes.f k a0).bind fun t151 => (odysseyref01_Owner.l0 k t151 0 0)) = some r := h
 clear h
 replace H := Option.bind_eq_some_iff.mp H
 obtain ⟨t151, A20, H⟩ := H
 replace H : (odysseyref01_Owner.l0 k t151 0 0) = some r := H
 have A2 := Aside0.mk A20
 clear A20
 have H' := Aside0.mk H
 clear H
 go_enter Tryz.func97, Tryz.ntmps97
 go_wp2_with (first | ((with_reducible refine gate_callee (f := 106) rfl ?_); refine goesL_ (some 7) rfl rfl Tryz.func106 (by kernel_rfl) rfl #[.string a0] rfl (by (try simp only [List.map_toArray, List.map_cons, List.map_nil]); first | done | rfl | (simp only [List.length_drop, List.length_take]; rfl)) ?_; (with_reducible refine (odysseyref01_Runes.calls k a0 t151 _ A2.out).mono ?_); rintro e w3 ⟨v152, rfl, ho0, hb⟩; refine ⟨_, rfl, ?_⟩; have n0_ := Aside0.mk (Kd.R_lower ho0 (below_size (by repeat (first | (with_reducible first | exact HB.out | apply below_alloc | apply pw_below_drewN | apply below_drew1) | exact HB.out)))); have n1_ := Aside0.mk (below_step (by repeat (first | (with_reducible first | exact HB.out | apply below_alloc | apply pw_below_drewN | apply below_drew1) | exact HB.out)) hb); clear HB; have HO153 := n0_; have HB := n1_; clear n0_ n1_; (try clear hb); (try clear hb2); (try clear hk); (try clear hi); (try clear ho0)))
 go_loopg [4, 5] k (fun kq v4 v5 w' => ∃ (x4_1 : Int) (x5_1 : Int), v4 = .int .i64 x4_1 ∧ v5 = .int .i64 x5_1 ∧ Aside0 (odysseyref01_Owner.l0 kq t151 x4_1 x5_1 = some r) ∧ Aside0 (kq ≤ k) ∧ Aside0 (Kd.R (Kd.int .i64) 3 w' w.heap.size (fun _ => True) v152 t151) ∧ Aside0 (Below w.heap.size w w'))
 case atStart => exact ⟨(0), (0), (by first | rfl | (simp; done) | (simp [*]; done)), (by first | rfl | (simp; done) | (simp [*]; done)), H', ⟨Nat.le_refl _⟩, ⟨by (with_reducible repeat (first | apply Kd.R_alloc | apply Kd.R_drewN | apply Kd.R_drew)); exact HO153.out⟩, ⟨by repeat (first | (with_reducible first | exact HB.out | apply below_alloc | apply pw_below_drewN | apply below_drew1) | exact HB.out)⟩⟩
 case round =>
  clear H'
  try clear c1
  try clear p2
  obtain ⟨x4_1, x5_1, rfl, rfl, HA, HK1, HO_3, HB⟩ := hrel
  cases gk with
  | zero => exact absurd HA.out (by simp [odysseyref01_Owner.l0])
  | succ k1 =>
   have H := HA.out
   clear HA
   simp only [odysseyref01_Owner.l0] at H
   by_cases c4 : x5_1 < (t151.length : Int)
   · rw [if_pos c4] at H
     have c4b0 : decide (x5_1 < (t151.length : Int)) = true := decide_eq_true c4
     clear c4
     by_cases c5 : 0 ≤ x5_1
     · rw [if_pos c5] at H
       have c5b0 : decide (0 ≤ x5_1) = true := decide_eq_true c5
       clear c5
       have H' := Aside0.mk H
       clear H
       obtain ⟨Ao6, co6, eo6⟩ := Kd.R_slice HO_3.out
       subst eo6
       have p154 : 0 ≤ (x5_1 : Int) := of_decide_eq_true (by first | (with_reducible assumption) | assumption)
       have q154 : x5_1 < (t151.length : Int) := of_decide_eq_true (by first | (with_reducible assumption) | assumption)
       obtain ⟨ad154, e154, hx154_0⟩ := Kd.at_int (Kd.R_reads' HO_3.out).2.2 x5_1 p154 q154
       cases e154
       replace p154 := eq_true p154
       replace q154 := eq_true q154
       go_wp2
       go_roundg k1
       case measure => have := HK1.out; omega
       case rel => exact ⟨(Int.tmod (wrap64 (x4_1 + (rd t151 x5_1))) 4), (wrap64 (x5_1 + 1)), (by first | rfl | (simp; done) | (simp [*]; done)), (by first | rfl | (simp; done) | (simp [*]; done)), H', ⟨by have := HK1.out; omega⟩, ⟨by (with_reducible repeat (first | apply Kd.R_alloc | apply Kd.R_drewN | apply Kd.R_drew)); exact HO_3.out⟩, ⟨by repeat (first | (with_reducible first | exact HB.out | apply below_alloc | apply pw_below_drewN | apply below_drew1) | exact HB.out)⟩⟩
     · rw [if_neg c5] at H
       exact absurd H (by simp)
   · rw [if_neg c4] at H
     have c4b0 : decide (x5_1 < (t151.length : Int)) = false := decide_eq_false c4
     clear c4
     obtain rfl := Option.some.inj H
     obtain ⟨Ao7, co7, eo7⟩ := Kd.R_slice HO_3.out
     subst eo7
     go_wp2
     go_ret
     exact ⟨by first | rfl | (simp [errW_none, errW_some] <;> rfl) | (simp [*, errW_none, errW_some] <;> rfl), by repeat (first | (with_reducible first | exact HB.out | apply below_alloc | apply pw_below_drewN | apply below_drew1) | exact HB.out)⟩

/-! ### odysseyref01_Compare: function 98 -/
mutual
def odysseyref01_Compare.l0 : Nat → List Int → List Int → Int → Option (Int)
 | 0, _, _, _ => none
 | k + 1, x5, x6, x7 => if x7 < (x5.length : Int) then (odysseyref01_Compare.j1 k x5 x6 x7 (decide (x7 < (x6.length : Int)))) else (odysseyref01_Compare.j1 k x5 x6 x7 false)
def odysseyref01_Compare.j1 : Nat → List Int → List Int → Int → Bool → Option (Int)
 | 0, _, _, _, _ => none
 | k + 1, x5, x6, x7, x21 => if x21 = true then (if 0 ≤ x7 then (if x7 < (x5.length : Int) then (if x7 < (x6.length : Int) then (if (rd x5 x7) < (rd x6 x7) then (some (-1)) else (if (rd x5 x7) > (rd x6 x7) then (some 1) else (odysseyref01_Compare.l0 k x5 x6 (wrap64 (x7 + 1))))) else (none)) else (none)) else (none)) else (if (x5.length : Int) < (x6.length : Int) then (some (-1)) else (if (x5.length : Int) > (x6.length : Int) then (some 1) else (some 0)))
end
def odysseyref01_Compare.f (k : Nat) (a0 : ByteArray) (a1 : ByteArray) : Option (Int) := (odysseyref01_Runes.f k a0).bind fun t155 => ((odysseyref01_Runes.f k a1).bind fun t158 => (odysseyref01_Compare.l0 k t155 t158 0))
theorem odysseyref01_Compare.mono_l : ∀ k, (∀ y0 y1 y2, LeO (odysseyref01_Compare.l0 k y0 y1 y2) (odysseyref01_Compare.l0 (k + 1) y0 y1 y2)) ∧ (∀ y0 y1 y2 y3, LeO (odysseyref01_Compare.j1 k y0 y1 y2 y3) (odysseyref01_Compare.j1 (k + 1) y0 y1 y2 y3))
 | 0 => ⟨fun _ _ _ r h => by simp [odysseyref01_Compare.l0] at h, fun _ _ _ _ r h => by simp [odysseyref01_Compare.j1] at h⟩
 | k + 1 => by
  obtain ⟨ih0, ih1⟩ := odysseyref01_Compare.mono_l k
  refine ⟨?_, ?_⟩
  · intro y0 y1 y2
    unfold odysseyref01_Compare.l0
    repeat' first
    | (with_reducible exact ih0 _ _ _)
    | (with_reducible exact ih1 _ _ _ _)
    | (with_reducible exact odysseyref01_Runes.mono _ _)
    | (with_reducible exact LeO.refl _)
    | (with_reducible exact LeO.none _)
    | (with_reducible refine LeO.ite ?_ ?_)
    | (with_reducible refine LeO.bind ?_ (fun _ => ?_))
    | exact ih0 _ _ _
    | exact ih1 _ _ _ _
    | exact odysseyref01_Runes.mono _ _
    | exact LeO.none _
    | refine LeO.ite ?_ ?_
    | refine LeO.bind ?_ (fun _ => ?_)
  · intro y0 y1 y2 y3
    unfold odysseyref01_Compare.j1
    repeat' first
    | (with_reducible exact ih0 _ _ _)
    | (with_reducible exact ih1 _ _ _ _)
    | (with_reducible exact odysseyref01_Runes.mono _ _)
    | (with_reducible exact LeO.refl _)
    | (with_reducible exact LeO.none _)
    | (with_reducible refine LeO.ite ?_ ?_)
    | (with_reducible refine LeO.bind ?_ (fun _ => ?_))
    | exact ih0 _ _ _
    | exact ih1 _ _ _ _
    | exact odysseyref01_Runes.mono _ _
    | exact LeO.none _
    | refine LeO.ite ?_ ?_
    | refine LeO.bind ?_ (fun _ => ?_)
theorem odysseyref01_Compare.mono : ∀ a0 a1 k, LeO (odysseyref01_Compare.f k a0 a1) (odysseyref01_Compare.f (k + 1) a0 a1) := by
 intro a0 a1 k
 obtain ⟨ih0, ih1⟩ := odysseyref01_Compare.mono_l k
 unfold odysseyref01_Compare.f
 repeat' first
  | (with_reducible exact ih0 _ _ _)
  | (with_reducible exact ih1 _ _ _ _)
  | (with_reducible exact odysseyref01_Runes.mono _ _)
  | (with_reducible exact LeO.refl _)
  | (with_reducible exact LeO.none _)
  | (with_reducible refine LeO.ite ?_ ?_)
  | (with_reducible refine LeO.bind ?_ (fun _ => ?_))
  | exact ih0 _ _ _
  | exact ih1 _ _ _ _
  | exact odysseyref01_Runes.mono _ _
  | exact LeO.none _
  | refine LeO.ite ?_ ?_
  | refine LeO.bind ?_ (fun _ => ?_)
set_option maxHeartbeats 8000000 in
set_option maxRecDepth 100000 in
theorem odysseyref01_Compare.calls (k : Nat) (a0 : ByteArray) (a1 : ByteArray) (r : Int) (w : World) (h : odysseyref01_Compare.f k a0 a1 = some r) :
 Calls Tryz.prog 98 #[.string a0, .string a1] w fun e w' => e = .returned (.int .i64 r) ∧ Below w.heap.size w w' := by
 have HB := Aside0.mk (Below.refl w.heap.size w)
 have H : ((odysseyref01_Runes.f k a0).bind fun t155 => ((odysseyref01_Runes.f k a1).bind fun t158 => (odysseyref01_Compare.l0 k t155 t158 0))) = some r := h
 clear h
 replace H := Option.bind_eq_some_iff.mp H
 obtain ⟨t155, A30, H⟩ := H
 replace H : ((odysseyref01_Runes.f k a1).bind fun t158 => (odysseyref01_Compare.l0 k t155 t158 0)) = some r := H
 have A3 := Aside0.mk A30
 clear A30
 replace H := Option.bind_eq_some_iff.mp H
 obtain ⟨t158, A40, H⟩ := H
 replace H : (odysseyref01_Compare.l0 k t155 t158 0) = some r := H
 have A4 := Aside0.mk A40
 clear A40
 have H' := Aside0.mk H
 clear H
 go_enter Tryz.func98, Tryz.ntmps98
 go_wp2_with (first | (go_at_call 106; (with_reducible refine (odysseyref01_Runes.calls k a0 t155 _ A3.out).mono ?_); rintro e w5 ⟨v156, rfl, ho0, hb⟩; have n0_ := Aside0.mk (Kd.R_lower ho0 (below_size (by repeat (first | (with_reducible first | exact HB.out | apply below_alloc | apply pw_below_drewN | apply below_drew1) | exact HB.out)))); have n1_ := Aside0.mk (below_step (by repeat (first | (with_reducible first | exact HB.out | apply below_alloc | apply pw_below_drewN | apply below_drew1) | exact HB.out)) hb); clear HB; have HO157 := n0_; have HB := n1_; clear n0_ n1_; (try clear hb); (try clear hb2); (try clear hk); (try clear hi); (try clear ho0)) | (go_at_call 106; (with_reducible refine (odysseyref01_Runes.calls k a1 t158 _ A4.out).mono ?_); rintro e w6 ⟨v159, rfl, ho0, hb⟩; have n0_ := Aside0.mk (Kd.R_elder' (by (with_reducible repeat (first | apply Kd.R_alloc | apply Kd.R_drewN | apply Kd.R_drew)); exact HO157.out) (Kd.R_base ho0) hb); have n1_ := Aside0.mk (Kd.R_lower (Kd.R_new' ho0 (Kd.R_lt (by (with_reducible repeat (first | apply Kd.R_alloc | apply Kd.R_drewN | apply Kd.R_drew)); exact HO157.out))) (below_size (by repeat (first | (with_reducible first | exact HB.out | apply below_alloc | apply pw_below_drewN | apply below_drew1) | exact HB.out)))); have n2_ := Aside0.mk (below_step (by repeat (first | (with_reducible first | exact HB.out | apply below_alloc | apply pw_below_drewN | apply below_drew1) | exact HB.out)) hb); clear HO157; clear HB; have HO157 := n0_; have HO160 := n1_; have HB := n2_; clear n0_ n1_ n2_; (try clear hb); (try clear hb2); (try clear hk); (try clear hi); (try clear ho0)))
 repeat (go_quiet (first | (go_at_call 106; (with_reducible refine (odysseyref01_Runes.calls k a0 t155 _ A3.out).mono ?_); rintro e w5 ⟨v156, rfl, ho0, hb⟩; have n0_ := Aside0.mk (Kd.R_lower ho0 (below_size (by repeat (first | (with_reducible first | exact HB.out | apply below_alloc | apply pw_below_drewN | apply below_drew1) | exact HB.out)))); have n1_ := Aside0.mk (below_step (by repeat (first | (with_reducible first | exact HB.out | apply below_alloc | apply pw_below_drewN | apply below_drew1) | exact HB.out)) hb); clear HB; have HO157 := n0_; have HB := n1_; clear n0_ n1_; (try clear hb); (try clear hb2); (try clear hk); (try clear hi); (try clear ho0)) | (go_at_call 106; (with_reducible refine (odysseyref01_Runes.calls k a1 t158 _ A4.out).mono ?_); rintro e w6 ⟨v159, rfl, ho0, hb⟩; have n0_ := Aside0.mk (Kd.R_elder' (by (with_reducible repeat (first | apply Kd.R_alloc | apply Kd.R_drewN | apply Kd.R_drew)); exact HO157.out) (Kd.R_base ho0) hb); have n1_ := Aside0.mk (Kd.R_lower (Kd.R_new' ho0 (Kd.R_lt (by (with_reducible repeat (first | apply Kd.R_alloc | apply Kd.R_drewN | apply Kd.R_drew)); exact HO157.out))) (below_size (by repeat (first | (with_reducible first | exact HB.out | apply below_alloc | apply pw_below_drewN | apply below_drew1) | exact HB.out)))); have n2_ := Aside0.mk (below_step (by repeat (first | (with_reducible first | exact HB.out | apply below_alloc | apply pw_below_drewN | apply below_drew1) | exact HB.out)) hb); clear HO157; clear HB; have HO157 := n0_; have HO160 := n1_; have HB := n2_; clear n0_ n1_ n2_; (try clear hb); (try clear hb2); (try clear hk); (try clear hi); (try clear ho0))); try go_wp2_with (first | (go_at_call 106; (with_reducible refine (odysseyref01_Runes.calls k a0 t155 _ A3.out).mono ?_); rintro e w5 ⟨v156, rfl, ho0, hb⟩; have n0_ := Aside0.mk (Kd.R_lower ho0 (below_size (by repeat (first | (with_reducible first | exact HB.out | apply below_alloc | apply pw_below_drewN | apply below_drew1) | exact HB.out)))); have n1_ := Aside0.mk (below_step (by repeat (first | (with_reducible first | exact HB.out | apply below_alloc | apply pw_below_drewN | apply below_drew1) | exact HB.out)) hb); clear HB; have HO157 := n0_; have HB := n1_; clear n0_ n1_; (try clear hb); (try clear hb2); (try clear hk); (try clear hi); (try clear ho0)) | (go_at_call 106; (with_reducible refine (odysseyref01_Runes.calls k a1 t158 _ A4.out).mono ?_); rintro e w6 ⟨v159, rfl, ho0, hb⟩; have n0_ := Aside0.mk (Kd.R_elder' (by (with_reducible repeat (first | apply Kd.R_alloc | apply Kd.R_drewN | apply Kd.R_drew)); exact HO157.out) (Kd.R_base ho0) hb); have n1_ := Aside0.mk (Kd.R_lower (Kd.R_new' ho0 (Kd.R_lt (by (with_reducible repeat (first | apply Kd.R_alloc | apply Kd.R_drewN | apply Kd.R_drew)); exact HO157.out))) (below_size (by repeat (first | (with_reducible first | exact HB.out | apply below_alloc | apply pw_below_drewN | apply below_drew1) | exact HB.out)))); have n2_ := Aside0.mk (below_step (by repeat (first | (with_reducible first | exact HB.out | apply below_alloc | apply pw_below_drewN | apply below_drew1) | exact HB.out)) hb); clear HO157; clear HB; have HO157 := n0_; have HO160 := n1_; have HB := n2_; clear n0_ n1_ n2_; (try clear hb); (try clear hb2); (try clear hk); (try clear hi); (try clear ho0))))
 go_loopg [7] k (fun kq v7 w' => ∃ (x7_1 : Int), v7 = .int .i64 x7_1 ∧ Aside0 (odysseyref01_Compare.l0 kq t155 t158 x7_1 = some r) ∧ Aside0 (kq ≤ k) ∧ Aside0 (Kd.R (Kd.int .i64) 3 w' w.heap.size (fun k_ => some k_ ≠ (v159 : Value).ownBlock) v156 t155) ∧ Aside0 (Kd.R (Kd.int .i64) 3 w' w.heap.size (fun k_ => some k_ ≠ (v156 : Value).ownBlock) v159 t158) ∧ Aside0 (Below w.heap.size w w'))
 case atStart => exact ⟨(0), (by first | rfl | (simp; done) | (simp [*]; done)), H', ⟨Nat.le_refl _⟩, ⟨by (with_reducible repeat (first | apply Kd.R_alloc | apply Kd.R_drewN | apply Kd.R_drew)); exact Kd.R_mono HO157.out (fun _ hk => hk.2)⟩, ⟨by (with_reducible repeat (first | apply Kd.R_alloc | apply Kd.R_drewN | apply Kd.R_drew)); exact Kd.R_mono HO160.out (fun _ hk => hk.2)⟩, ⟨by repeat (first | (with_reducible first | exact HB.out | apply below_alloc | apply pw_below_drewN | apply below_drew1) | exact HB.out)⟩⟩
 case round =>
  clear H'
  try clear p2
  obtain ⟨x7_1, rfl, HA, HK1, HO_5, HO_6, HB⟩ := hrel
  cases gk with
  | zero => exact absurd HA.out (by simp [odysseyref01_Compare.l0])
  | succ k1 =>
   have H := HA.out
   clear HA
   simp only [odysseyref01_Compare.l0] at H
   have HC7 := Aside0.mk H
   clear H
   go_upto_region 4 with (fail)
   repeat (go_quiet (fail); go_upto_region 4 with (fail))
   go_cut [21] (fun v21 wc => ∃ (kq : Nat) (x21_6 : Bool), v21 = .bool x21_6 ∧ Aside0 (odysseyref01_Compare.j1 kq t155 t158 x7_1 x21_6 = some r) ∧ Aside0 (kq ≤ k1) ∧ Aside0 (Kd.R (Kd.int .i64) 3 wc w.heap.size (fun k_ => some k_ ≠ (v159 : Value).ownBlock) v156 t155) ∧ Aside0 (Kd.R (Kd.int .i64) 3 wc w.heap.size (fun k_ => some k_ ≠ (v156 : Value).ownBlock) v159 t158) ∧ Aside0 (Below w.heap.size w wc))
   case first =>
    have H := HC7.out
    clear HC7
    by_cases c8 : x7_1 < (t155.length : Int)
    · rw [if_pos c8] at H
      have c8b0 : decide (x7_1 < (t155.length : Int)) = true := decide_eq_true c8
      clear c8
      (first | rw [c8b0] | (simp only [i64_w, i32_w]; rw [c8b0]) | skip)
      have H' := Aside0.mk H
      clear H
      obtain ⟨Ao9, co9, eo9⟩ := Kd.R_slice HO_5.out
      subst eo9
      obtain ⟨Ao10, co10, eo10⟩ := Kd.R_slice HO_6.out
      subst eo10
      go_wp2
      repeat (go_quiet (fail); try go_wp2)
      go_meet
      case rel => exact ⟨_, (decide (x7_1 < (t158.length : Int))), (by first | rfl | (simp; done) | (simp [*]; done)), H', ⟨by have := HK1.out; first | omega | exact Nat.le_refl _⟩, ⟨by (with_reducible repeat (first | apply Kd.R_alloc | apply Kd.R_drewN | apply Kd.R_drew)); exact HO_5.out⟩, ⟨by (with_reducible repeat (first | apply Kd.R_alloc | apply Kd.R_drewN | apply Kd.R_drew)); exact HO_6.out⟩, ⟨by repeat (first | (with_reducible first | exact HB.out | apply below_alloc | apply pw_below_drewN | apply below_drew1) | exact HB.out)⟩⟩
    · rw [if_neg c8] at H
      have c8b0 : decide (x7_1 < (t155.length : Int)) = false := decide_eq_false c8
      clear c8
      (first | rw [c8b0] | (simp only [i64_w, i32_w]; rw [c8b0]) | skip)
      have H' := Aside0.mk H
      clear H
      obtain ⟨Ao11, co11, eo11⟩ := Kd.R_slice HO_5.out
      subst eo11
      go_wp2
      repeat (go_quiet (fail); try go_wp2)
      go_meet
      case rel => exact ⟨_, (false), (by first | rfl | (simp; done) | (simp [*]; done)), H', ⟨by have := HK1.out; first | omega | exact Nat.le_refl _⟩, ⟨by (with_reducible repeat (first | apply Kd.R_alloc | apply Kd.R_drewN | apply Kd.R_drew)); exact HO_5.out⟩, ⟨by (with_reducible repeat (first | apply Kd.R_alloc | apply Kd.R_drewN | apply Kd.R_drew)); exact HO_6.out⟩, ⟨by repeat (first | (with_reducible first | exact HB.out | apply below_alloc | apply pw_below_drewN | apply below_drew1) | exact HB.out)⟩⟩
   case rest =>
    clear HC7
    try clear p2
    try clear c8
    try clear c8b0
    try clear c9
    try clear p2
    obtain ⟨kq, x21_6, rfl, HA, HJ6, HO_5, HO_6, HB⟩ := hcut
    cases kq with
    | zero => exact absurd HA.out (by simp [odysseyref01_Compare.j1])
    | succ kj6 =>
     have H := HA.out
     clear HA
     simp only [odysseyref01_Compare.j1] at H
     by_cases c12 : x21_6 = true
     · subst c12
       have H1 : (if 0 ≤ x7_1 then (if x7_1 < (t155.length : Int) then (if x7_1 < (t158.length : Int) then (if (rd t155 x7_1) < (rd t158 x7_1) then (some (-1)) else (if (rd t155 x7_1) > (rd t158 x7_1) then (some 1) else (odysseyref01_Compare.l0 kj6 t155 t158 (wrap64 (x7_1 + 1))))) else (none)) else (none)) else (none)) = some r := by rw [if_pos rfl] at H; exact H
       clear H
       have H := H1
       clear H1
       by_cases c13 : 0 ≤ x7_1
       · rw [if_pos c13] at H
         have c13b0 : decide (0 ≤ x7_1) = true := decide_eq_true c13
         clear c13
         by_cases c14 : x7_1 < (t155.length : Int)
         · rw [if_pos c14] at H
           have c14b0 : decide (x7_1 < (t155.length : Int)) = true := decide_eq_true c14
           clear c14
           by_cases c15 : x7_1 < (t158.length : Int)
           · rw [if_pos c15] at H
             have c15b0 : decide (x7_1 < (t158.length : Int)) = true := decide_eq_true c15
             clear c15
             by_cases c16 : (rd t155 x7_1) < (rd t158 x7_1)
             · rw [if_pos c16] at H
               have c16b0 : decide ((rd t155 x7_1) < (rd t158 x7_1)) = true := decide_eq_true c16
               clear c16
               obtain rfl := Option.some.inj H
               obtain ⟨Ao17, co17, eo17⟩ := Kd.R_slice HO_5.out
               subst eo17
               have p161 : 0 ≤ (x7_1 : Int) := of_decide_eq_true (by first | (with_reducible assumption) | assumption)
               have q161 : x7_1 < (t155.length : Int) := of_decide_eq_true (by first | (with_reducible assumption) | assumption)
               obtain ⟨ad161, e161, hx161_0⟩ := Kd.at_int (Kd.R_reads' HO_5.out).2.2 x7_1 p161 q161
               cases e161
               replace p161 := eq_true p161
               replace q161 := eq_true q161
               obtain ⟨Ao18, co18, eo18⟩ := Kd.R_slice HO_6.out
               subst eo18
               have p162 : 0 ≤ (x7_1 : Int) := of_decide_eq_true (by first | (with_reducible assumption) | assumption)
               have q162 : x7_1 < (t158.length : Int) := of_decide_eq_true (by first | (with_reducible assumption) | assumption)
               obtain ⟨ad162, e162, hx162_0⟩ := Kd.at_int (Kd.R_reads' HO_6.out).2.2 x7_1 p162 q162
               cases e162
               replace p162 := eq_true p162
               replace q162 := eq_true q162
               go_wp2
               repeat (go_quiet (fail); try go_wp2)
               go_ret
               exact ⟨by first | rfl | (simp [errW_none, errW_some] <;> rfl) | (simp [*, errW_none, errW_some] <;> rfl), by repeat (first | (with_reducible first | exact HB.out | apply below_alloc | apply pw_below_drewN | apply below_drew1) | exact HB.out)⟩
             · rw [if_neg c16] at H
               have c16b0 : decide ((rd t155 x7_1) < (rd t158 x7_1)) = false := decide_eq_false c16
               clear c16
               by_cases c19 : (rd t155 x7_1) > (rd t158 x7_1)
               · rw [if_pos c19] at H
                 have c19b0 : decide ((rd t158 x7_1) < (rd t155 x7_1)) = true := decide_eq_true c19
                 clear c19
                 obtain rfl := Option.some.inj H
                 obtain ⟨Ao20, co20, eo20⟩ := Kd.R_slice HO_5.out
                 subst eo20
                 have p161 : 0 ≤ (x7_1 : Int) := of_decide_eq_true (by first | (with_reducible assumption) | assumption)
                 have q161 : x7_1 < (t155.length : Int) := of_decide_eq_true (by first | (with_reducible assumption) | assumption)
                 obtain ⟨ad161, e161, hx161_0⟩ := Kd.at_int (Kd.R_reads' HO_5.out).2.2 x7_1 p161 q161
                 cases e161
                 replace p161 := eq_true p161
                 replace q161 := eq_true q161
                 obtain ⟨Ao21, co21, eo21⟩ := Kd.R_slice HO_6.out
                 subst eo21
                 have p162 : 0 ≤ (x7_1 : Int) := of_decide_eq_true (by first | (with_reducible assumption) | assumption)
                 have q162 : x7_1 < (t158.length : Int) := of_decide_eq_true (by first | (with_reducible assumption) | assumption)
                 obtain ⟨ad162, e162, hx162_0⟩ := Kd.at_int (Kd.R_reads' HO_6.out).2.2 x7_1 p162 q162
                 cases e162
                 replace p162 := eq_true p162
                 replace q162 := eq_true q162
                 have p163 : 0 ≤ (x7_1 : Int) := of_decide_eq_true (by first | (with_reducible assumption) | assumption)
                 have q163 : x7_1 < (t155.length : Int) := of_decide_eq_true (by first | (with_reducible assumption) | assumption)
                 obtain ⟨ad163, e163, hx163_0⟩ := Kd.at_int (Kd.R_reads' HO_5.out).2.2 x7_1 p163 q163
                 obtain rfl : ad161 = ad163 := (by injection e163)
                 replace p163 := eq_true p163
                 replace q163 := eq_true q163
                 have p164 : 0 ≤ (x7_1 : Int) := of_decide_eq_true (by first | (with_reducible assumption) | assumption)
                 have q164 : x7_1 < (t158.length : Int) := of_decide_eq_true (by first | (with_reducible assumption) | assumption)
                 obtain ⟨ad164, e164, hx164_0⟩ := Kd.at_int (Kd.R_reads' HO_6.out).2.2 x7_1 p164 q164
                 obtain rfl : ad162 = ad164 := (by injection e164)
                 replace p164 := eq_true p164
                 replace q164 := eq_true q164
                 go_wp2
                 repeat (go_quiet (fail); try go_wp2)
                 go_ret
                 exact ⟨by first | rfl | (simp [errW_none, errW_some] <;> rfl) | (simp [*, errW_none, errW_some] <;> rfl), by repeat (first | (with_reducible first | exact HB.out | apply below_alloc | apply pw_below_drewN | apply below_drew1) | exact HB.out)⟩
               · rw [if_neg c19] at H
                 have c19b0 : decide ((rd t158 x7_1) < (rd t155 x7_1)) = false := decide_eq_false c19
                 clear c19
                 have H' := Aside0.mk H
                 clear H
                 obtain ⟨Ao22, co22, eo22⟩ := Kd.R_slice HO_5.out
                 subst eo22
                 have p161 : 0 ≤ (x7_1 : Int) := of_decide_eq_true (by first | (with_reducible assumption) | assumption)
                 have q161 : x7_1 < (t155.length : Int) := of_decide_eq_true (by first | (with_reducible assumption) | assumption)
                 obtain ⟨ad161, e161, hx161_0⟩ := Kd.at_int (Kd.R_reads' HO_5.out).2.2 x7_1 p161 q161
                 cases e161
                 replace p161 := eq_true p161
                 replace q161 := eq_true q161
                 obtain ⟨Ao23, co23, eo23⟩ := Kd.R_slice HO_6.out
                 subst eo23
                 have p162 : 0 ≤ (x7_1 : Int) := of_decide_eq_true (by first | (with_reducible assumption) | assumption)
                 have q162 : x7_1 < (t158.length : Int) := of_decide_eq_true (by first | (with_reducible assumption) | assumption)
                 obtain ⟨ad162, e162, hx162_0⟩ := Kd.at_int (Kd.R_reads' HO_6.out).2.2 x7_1 p162 q162
                 cases e162
                 replace p162 := eq_true p162
                 replace q162 := eq_true q162
                 have p163 : 0 ≤ (x7_1 : Int) := of_decide_eq_true (by first | (with_reducible assumption) | assumption)
                 have q163 : x7_1 < (t155.length : Int) := of_decide_eq_true (by first | (with_reducible assumption) | assumption)
                 obtain ⟨ad163, e163, hx163_0⟩ := Kd.at_int (Kd.R_reads' HO_5.out).2.2 x7_1 p163 q163
                 obtain rfl : ad161 = ad163 := (by injection e163)
                 replace p163 := eq_true p163
                 replace q163 := eq_true q163
                 have p164 : 0 ≤ (x7_1 : Int) := of_decide_eq_true (by first | (with_reducible assumption) | assumption)
                 have q164 : x7_1 < (t158.length : Int) := of_decide_eq_true (by first | (with_reducible assumption) | assumption)
                 obtain ⟨ad164, e164, hx164_0⟩ := Kd.at_int (Kd.R_reads' HO_6.out).2.2 x7_1 p164 q164
                 obtain rfl : ad162 = ad164 := (by injection e164)
                 replace p164 := eq_true p164
                 replace q164 := eq_true q164
                 go_wp2
                 repeat (go_quiet (fail); try go_wp2)
                 go_roundg kj6
                 case measure => have := HK1.out; have := HJ6.out; omega
                 case rel => exact ⟨(wrap64 (x7_1 + 1)), (by first | rfl | (simp; done) | (simp [*]; done)), H', ⟨by have := HK1.out; have := HJ6.out; omega⟩, ⟨by (with_reducible repeat (first | apply Kd.R_alloc | apply Kd.R_drewN | apply Kd.R_drew)); exact HO_5.out⟩, ⟨by (with_reducible repeat (first | apply Kd.R_alloc | apply Kd.R_drewN | apply Kd.R_drew)); exact HO_6.out⟩, ⟨by repeat (first | (with_reducible first | exact HB.out | apply below_alloc | apply pw_below_drewN | apply below_drew1) | exact HB.out)⟩⟩
           · rw [if_neg c15] at H
             exact absurd H (by simp)
         · rw [if_neg c14] at H
           exact absurd H (by simp)
       · rw [if_neg c13] at H
         exact absurd H (by simp)
     · replace c12 := Bool.eq_false_iff.mpr c12
       subst c12
       have H1 : (if (t155.length : Int) < (t158.length : Int) then (some (-1)) else (if (t155.length : Int) > (t158.length : Int) then (some 1) else (some 0))) = some r := by rw [if_neg (show ¬ (false = true) by decide)] at H; exact H
       clear H
       have H := H1
       clear H1
       by_cases c24 : (t155.length : Int) < (t158.length : Int)
       · rw [if_pos c24] at H
         have c24b0 : decide ((t155.length : Int) < (t158.length : Int)) = true := decide_eq_true c24
         have c24b1 : decide (t155.length < t158.length) = true := decide_eq_true (Int.ofNat_lt.mp c24)
         clear c24
         obtain rfl := Option.some.inj H
         obtain ⟨Ao25, co25, eo25⟩ := Kd.R_slice HO_5.out
         subst eo25
         obtain ⟨Ao26, co26, eo26⟩ := Kd.R_slice HO_6.out
         subst eo26
         go_wp2
         repeat (go_quiet (fail); try go_wp2)
         go_ret
         exact ⟨by first | rfl | (simp [errW_none, errW_some] <;> rfl) | (simp [*, errW_none, errW_some] <;> rfl), by repeat (first | (with_reducible first | exact HB.out | apply below_alloc | apply pw_below_drewN | apply below_drew1) | exact HB.out)⟩
       · rw [if_neg c24] at H
         have c24b0 : decide ((t155.length : Int) < (t158.length : Int)) = false := decide_eq_false c24
         have c24b1 : decide (t155.length < t158.length) = false := decide_eq_false (fun h => c24 (Int.ofNat_lt.mpr h))
         clear c24
         by_cases c27 : (t155.length : Int) > (t158.length : Int)
         · rw [if_pos c27] at H
           have c27b0 : decide ((t158.length : Int) < (t155.length : Int)) = true := decide_eq_true c27
           have c27b1 : decide (t158.length < t155.length) = true := decide_eq_true (Int.ofNat_lt.mp c27)
           clear c27
           obtain rfl := Option.some.inj H
           obtain ⟨Ao28, co28, eo28⟩ := Kd.R_slice HO_5.out
           subst eo28
           obtain ⟨Ao29, co29, eo29⟩ := Kd.R_slice HO_6.out
           subst eo29
           go_wp2
           repeat (go_quiet (fail); try go_wp2)
           go_ret
           exact ⟨by first | rfl | (simp [errW_none, errW_some] <;> rfl) | (simp [*, errW_none, errW_some] <;> rfl), by repeat (first | (with_reducible first | exact HB.out | apply below_alloc | apply pw_below_drewN | apply below_drew1) | exact HB.out)⟩
         · rw [if_neg c27] at H
           have c27b0 : decide ((t158.length : Int) < (t155.length : Int)) = false := decide_eq_false c27
           have c27b1 : decide (t158.length < t155.length) = false := decide_eq_false (fun h => c27 (Int.ofNat_lt.mpr h))
           clear c27
           obtain rfl := Option.some.inj H
           obtain ⟨Ao30, co30, eo30⟩ := Kd.R_slice HO_5.out
           subst eo30
           obtain ⟨Ao31, co31, eo31⟩ := Kd.R_slice HO_6.out
           subst eo31
           go_wp2
           repeat (go_quiet (fail); try go_wp2)
           go_ret
           exact ⟨by first | rfl | (simp [errW_none, errW_some] <;> rfl) | (simp [*, errW_none, errW_some] <;> rfl), by repeat (first | (with_reducible first | exact HB.out | apply below_alloc | apply pw_below_drewN | apply below_drew1) | exact HB.out)⟩

end Go.Proofs.YthlgcibckakhbaaGreatDoor.PPlanAheads

/- The plain words of chapter 1: a text's runes, small letters, names. -/
namespace Go.Proofs.YthlgcibckakhbaaGreatDoor.Nm

/-- The runes of a text from a byte on. -/
def runesF (s : ByteArray) : Nat → Nat → List Int
 | 0, _ => []
 | f + 1, pos => if pos < s.size then ((Utf8.decode s pos).1 : Int) :: runesF s f (pos + (Utf8.decode s pos).2) else []
def runes (s : ByteArray) : List Int := runesF s s.size 0

theorem decode_pos (s : ByteArray) (pos : Nat) : 1 ≤ (Utf8.decode s pos).2 := by
 simp only [Utf8.decode]
 repeat' split
 all_goals simp

theorem runesF_end (s : ByteArray) (f pos : Nat) (h : s.size ≤ pos) : runesF s f pos = [] := by
 cases f with
 | zero => rfl
 | succ f => rw [runesF, if_neg (by omega)]
theorem runesF_more (s : ByteArray) : ∀ (f g pos : Nat), s.size - pos ≤ f → f ≤ g → runesF s g pos = runesF s f pos := by
 intro f
 induction f with
 | zero => intro g pos h _; rw [runesF_end s g pos (by omega)]; rfl
 | succ f ih =>
  intro g pos h hg
  obtain ⟨g, rfl⟩ : ∃ m, g = m + 1 := ⟨g - 1, by omega⟩
  rw [runesF, runesF]
  have := decode_pos s pos
  by_cases hp : pos < s.size
  · rw [if_pos hp, if_pos hp, ih g _ (by omega) (by omega)]
  · rw [if_neg hp, if_neg hp]
/-- From a byte on, with as many rounds as there are bytes. -/
def from_ (s : ByteArray) (pos : Nat) : List Int := runesF s (s.size - pos) pos
theorem from_zero (s : ByteArray) : from_ s 0 = runes s := rfl
theorem from_end (s : ByteArray) (pos : Nat) (h : s.size ≤ pos) : from_ s pos = [] := runesF_end s _ pos h
theorem from_step (s : ByteArray) (pos : Nat) (h : pos < s.size) : from_ s pos = ((Utf8.decode s pos).1 : Int) :: from_ s (pos + (Utf8.decode s pos).2) := by
 unfold from_
 obtain ⟨f, hf⟩ : ∃ f, s.size - pos = f + 1 := ⟨s.size - pos - 1, by omega⟩
 rw [hf, runesF, if_pos h]
 have := decode_pos s pos
 rw [runesF_more s (s.size - (pos + (Utf8.decode s pos).2)) f _ (Nat.le_refl _) (by omega)]

/-- Is a rune a small letter? -/
def letterR (r : Int) : Bool := (decide (97 ≤ r) && decide (r ≤ 122)) || (decide (945 ≤ r) && decide (r ≤ 969)) || decide (r = 228) || decide (r = 246) || decide (r = 252) || decide (r = 223)
/-- May a rune stand in a name behind so many others? -/
def mayR (r : Int) (n : Nat) : Bool := letterR r || (decide (0 < n) && (decide (r = 45) || (decide (48 ≤ r) && decide (r ≤ 57))))
def isGo : List Int → Nat → Bool
 | [], n => decide (0 < n) && decide (n ≤ 8)
 | r :: l, n => mayR r n && isGo l (n + 1)
/-- Is a text a name? -/
def isName (s : ByteArray) : Bool := isGo (runes s) 0

theorem from_len (s : ByteArray) : ∀ (n pos : Nat), s.size - pos = n → (from_ s pos).length ≤ n := by
 intro n
 induction n using Nat.strongRecOn with
 | _ n ih =>
  intro pos h
  by_cases hp : pos < s.size
  · rw [from_step s pos hp, List.length_cons]
    have := decode_pos s pos
    have := ih (s.size - (pos + (Utf8.decode s pos).2)) (by omega) _ rfl
    omega
  · rw [from_end s pos (by omega)]; simp
theorem runes_len (s : ByteArray) : (runes s).length ≤ s.size := from_len s s.size 0 (by omega)

/-! ### names, byte by byte -/
def nameRune (r : Int) : Bool := letterR r || (decide (r = 45) || (decide (48 ≤ r) && decide (r ≤ 57)))
theorem nameRune_iff (r : Int) : nameRune r = true ↔ (97 ≤ r ∧ r ≤ 122) ∨ (945 ≤ r ∧ r ≤ 969) ∨ r = 228 ∨ r = 246 ∨ r = 252 ∨ r = 223 ∨ r = 45 ∨ (48 ≤ r ∧ r ≤ 57) := by
 simp only [nameRune, letterR, Bool.or_eq_true, Bool.and_eq_true, decide_eq_true_eq]
 omega
def AllName (s : ByteArray) : Prop := ∀ r ∈ runes s, nameRune r = true
theorem isGo_all : ∀ (l : List Int) (n : Nat), isGo l n = true → ∀ r ∈ l, nameRune r = true
 | [], _, _, r, hr => by simp at hr
 | x :: l, n, h, r, hr => by
  rw [isGo, Bool.and_eq_true] at h
  rcases List.mem_cons.1 hr with rfl | hr
  · have := h.1
    simp only [mayR, nameRune, Bool.or_eq_true, Bool.and_eq_true] at this ⊢
    rcases this with h1 | h1
    · exact Or.inl h1
    · exact Or.inr h1.2
  · exact isGo_all l _ h.2 r hr
theorem isName_all {s : ByteArray} (h : isName s = true) : AllName s := isGo_all _ _ h

theorem get_extract (b : ByteArray) (n j : Nat) : (b.extract n b.size).get! j = b.get! (n + j) := by
 have hs : (b.extract n b.size).size = b.size - n := by rw [ByteArray.size_extract]; omega
 by_cases h : n + j < b.size
 · have h1 : j < (b.extract n b.size).size := by omega
   have e1 : (b.extract n b.size).get! j = (b.extract n b.size)[j]'h1 := by
    show (b.extract n b.size).data[j]! = _
    exact getElem!_pos (b.extract n b.size).data j h1
   have e2 : b.get! (n + j) = b[n + j]'h := by
    show b.data[n + j]! = _
    simp [h]
    rfl
   rw [e1, e2, ByteArray.getElem_extract]
 · have e1 : (b.extract n b.size).get! j = default := by
    show (b.extract n b.size).data[j]! = _
    rw [getElem!_neg]
    show ¬ j < (b.extract n b.size).size
    omega
   have e2 : b.get! (n + j) = default := by
    show b.data[n + j]! = _
    rw [getElem!_neg]
    exact h
   rw [e1, e2]
theorem decode_extract (b : ByteArray) (n i : Nat) : Utf8.decode (b.extract n b.size) i = Utf8.decode b (n + i) := by
 have hs : (b.extract n b.size).size = b.size - n := by rw [ByteArray.size_extract]; omega
 have hg : ∀ k, (b.extract n b.size).get! (i + k) = b.get! (n + i + k) := fun k => by rw [get_extract, Nat.add_assoc]
 have hc : ∀ k, (decide (i + k < (b.extract n b.size).size)) = decide (n + i + k < b.size) := fun k => by
  rw [hs]
  by_cases h : n + i + k < b.size
  · rw [decide_eq_true h, decide_eq_true (by omega)]
  · rw [decide_eq_false h, decide_eq_false (by omega)]
 simp only [Utf8.decode, hg, hc]
theorem from_extract (b : ByteArray) (n : Nat) : ∀ (m pos : Nat), b.size - (n + pos) = m → from_ (b.extract n b.size) pos = from_ b (n + pos) := by
 have hs : (b.extract n b.size).size = b.size - n := by rw [ByteArray.size_extract]; omega
 intro m
 induction m using Nat.strongRecOn with
 | _ m ih =>
  intro pos hm
  by_cases hp : n + pos < b.size
  · have := decode_pos b (n + pos)
    rw [from_step b _ hp, from_step (b.extract n b.size) pos (by omega), decode_extract, ih (b.size - (n + (pos + (Utf8.decode b (n + pos)).2))) (by omega) _ rfl, Nat.add_assoc]
  · rw [from_end b _ (by omega), from_end _ _ (by omega)]
theorem runes_extract (b : ByteArray) (n : Nat) : runes (b.extract n b.size) = from_ b n := by
 rw [← from_zero, from_extract b n _ 0 rfl, Nat.add_zero]

/-- A byte of a text. -/
def byte (s : ByteArray) (i : Nat) : Nat := (s.data.toList.getD i 0).toNat
theorem byte_lt (s : ByteArray) (i : Nat) : byte s i < 256 := (s.data.toList.getD i 0).toNat_lt
theorem byte_at (s : ByteArray) (i : Nat) (h : i < s.size) : (s[i]'h).toNat = byte s i := by
 unfold byte
 rw [List.getD_eq_getElem?_getD, List.getElem?_eq_getElem (by simpa using h)]
 rfl
theorem byte_get (s : ByteArray) (i : Nat) (h : i < s.size) : (s.get! i).toNat = byte s i := by
 rw [← byte_at s i h]
 show (s.data[i]!).toNat = _
 simp [h]
 rfl

/-- The first rune of a text all of whose runes may stand in a name. -/
theorem decode_first {s : ByteArray} (h : 0 < s.size) (hn : nameRune (Utf8.decode s 0).1 = true) :
 (byte s 0 < 128 ∧ Utf8.decode s 0 = (byte s 0, 1)) ∨ (2 ≤ s.size ∧ (Utf8.decode s 0).2 = 2 ∧ (byte s 0 = 195 ∨ byte s 0 = 206 ∨ byte s 0 = 207)) := by
 by_cases h0 : byte s 0 < 128
 · left
   refine ⟨h0, ?_⟩
   have := decode_ascii s 0 h (by rw [byte_at]; exact h0)
   rw [this, byte_at]
 · right
   rw [nameRune_iff] at hn
   have hb0 := byte_lt s 0
   have e0 : (s.get! (0 + 0)).toNat = byte s 0 := byte_get s 0 h
   simp only [Utf8.decode, e0, Nat.zero_add] at hn ⊢
   rw [if_neg h0] at hn ⊢
   by_cases h1 : ((byte s 0 / 32 == 6) && (decide (1 < s.size) && (s.get! 1).toNat / 64 == 2)) = true
   · simp only [h1, if_true] at hn ⊢
     simp only [Bool.and_eq_true, decide_eq_true_eq, beq_iff_eq] at h1
     by_cases h2 : byte s 0 % 32 * 64 + (s.get! 1).toNat % 64 ≥ 128
     · rw [if_pos h2] at hn ⊢
       simp only at hn ⊢
       obtain ⟨h3, h4, h5⟩ := h1
       refine ⟨by omega, trivial, ?_⟩
       omega
     · rw [if_neg h2] at hn
       simp only [Utf8.runeError] at hn
       omega
   · exfalso
     simp only [h1] at hn
     repeat' split at hn
     all_goals simp only [Utf8.runeError, Bool.and_eq_true, decide_eq_true_eq, ge_iff_le] at *
     all_goals first | omega | contradiction
theorem runes_first {s : ByteArray} (h : 0 < s.size) : runes s = ((Utf8.decode s 0).1 : Int) :: from_ s (Utf8.decode s 0).2 := by
 rw [← from_zero, from_step s 0 h, Nat.zero_add]
end Go.Proofs.YthlgcibckakhbaaGreatDoor.Nm

/- The document's Is is the program's: runes by definition, and by the model's decoder. -/
namespace Go.Proofs.YthlgcibckakhbaaGreatDoor.RefIs
open Go.RowKit Go.IntWalk Go.Proofs.YthlgcibckakhbaaGreatDoor.PPlanAheads Go.Proofs.YthlgcibckakhbaaGreatDoorW.PrintWords Go.Proofs.YthlgcibckakhbaaGreatDoorW.PrintLast Go.Proofs.YthlgcibckakhbaaGreatDoorW.PrintMore
open Go.Proofs.YthlgcibckakhbaaGreatDoor.Nm (byte byte_lt byte_at byte_get)

theorem bt_byte (s : ByteArray) (i : Nat) (h : i < s.size) : bt s (i : Int) = (byte s i : Int) := by
 unfold bt
 rw [dif_pos (by simpa using h)]
 exact_mod_cast congrArg (fun n : Nat => (n : Int)) (byte_at s i h)
theorem w64 (n : Nat) (h : n ≤ 1000000000000000000) : wrap64 (n : Int) = n := wrap64_in _ (by omega)

/-- The decoder over its bytes. -/
def decB (sz i : Nat) (b0 b1 b2 b3 : Nat) : Nat × Nat :=
 let cont (k b : Nat) : Bool := i + k < sz && b / 64 == 2
 if b0 < 0x80 then (b0, 1)
 else if b0 / 32 == 6 && cont 1 b1 then
  let c := (b0 % 32) * 64 + b1 % 64
  if c ≥ 0x80 then (c, 2) else (65533, 1)
 else if b0 / 16 == 14 && cont 1 b1 && cont 2 b2 then
  let c := (b0 % 16) * 4096 + (b1 % 64) * 64 + b2 % 64
  if c ≥ 0x800 && Utf8.valid c then (c, 3) else (65533, 1)
 else if b0 / 8 == 30 && cont 1 b1 && cont 2 b2 && cont 3 b3 then
  let c := (b0 % 8) * 262144 + (b1 % 64) * 4096 + (b2 % 64) * 64 + b3 % 64
  if c ≥ 0x10000 && Utf8.valid c then (c, 4) else (65533, 1)
 else (65533, 1)
theorem decode_eq (s : ByteArray) (i : Nat) : Utf8.decode s i = decB s.size i (s.get! (i + 0)).toNat (s.get! (i + 1)).toNat (s.get! (i + 2)).toNat (s.get! (i + 3)).toNat := rfl
theorem valid_iff (c : Nat) : Utf8.valid (c : Int) = true ↔ c < 0xD800 ∨ (0xE000 ≤ c ∧ c ≤ 0x10FFFF) := by
 simp [Utf8.valid]
 omega

/-- What Next answers: it is a rune's beginning, and the decoder says so; or it is none, and the decoder tells an error. -/
def Good (r : Option (Int × Int × Bool)) (d : Nat × Nat) : Prop := (r = some ((d.1 : Int), (d.2 : Int), true)) ∨ (∃ x y, r = some (x, y, false) ∧ d.1 = 65533)

theorem shl1 : shl .i64 1 5 = 32 ∧ shl .i64 1 4 = 16 ∧ shl .i64 1 3 = 8 := by
 refine ⟨?_, ?_, ?_⟩ <;> kernel_rfl

theorem second_iff (a b : Nat) : odysseyref01_second.f (a : Int) (b : Int) = some (decide ((if a = 224 then 160 else if a = 240 then 144 else 128) ≤ b ∧ b ≤ (if a = 237 then 159 else if a = 244 then 143 else 191))) := by
 unfold odysseyref01_second.f
 have two : ∀ lo hi : Nat, (if (b : Int) ≥ (lo : Int) then some (decide ((b : Int) ≤ (hi : Int))) else some false) = some (decide (lo ≤ b ∧ b ≤ hi)) := by
  intro lo hi
  by_cases h : (b : Int) ≥ (lo : Int)
  · rw [if_pos h]
    exact congrArg some (decide_eq_decide.2 (by omega))
  · rw [if_neg h]
    exact congrArg some (by rw [eq_comm, decide_eq_false_iff_not]; omega)
 by_cases h1 : a = 224
 · subst h1
   exact two 160 191
 rw [if_neg (by omega), if_neg h1]
 by_cases h2 : a = 237
 · subst h2
   exact two 128 159
 rw [if_neg (by omega), if_neg h2]
 by_cases h3 : a = 240
 · subst h3
   exact two 144 191
 rw [if_neg (by omega), if_neg h3]
 by_cases h4 : a = 244
 · subst h4
   exact two 128 143
 rw [if_neg (by omega), if_neg h4]
 exact two 128 191

/-- One round of Next's loop. -/
theorem round (k : Nat) (s : ByteArray) (at' b0 n : Nat) (r : Nat) (i : Nat) (hi : i < n) (hs : s.size ≤ 1000000000000000) (hl : at' + i < s.size) (hr : r ≤ 100000000) (hn : n ≤ 4) :
 odysseyref01_Next.l0 (k + 1) s at' b0 n r i =
  if byte s (at' + i) < 128 ∨ byte s (at' + i) > 191 then some (65533, 1, false)
  else if i = 1 then (if (if b0 = 224 then 160 else if b0 = 240 then 144 else 128) ≤ byte s (at' + i) ∧ byte s (at' + i) ≤ (if b0 = 237 then 159 else if b0 = 244 then 143 else 191) then odysseyref01_Next.l0 k s at' b0 n ((r * 64 + byte s (at' + i) % 64 : Nat) : Int) ((i + 1 : Nat) : Int) else some (65533, 1, false))
  else odysseyref01_Next.l0 k s at' b0 n ((r * 64 + byte s (at' + i) % 64 : Nat) : Int) ((i + 1 : Nat) : Int) := by
 have hb := byte_lt s (at' + i)
 have c1 : (i : Int) < (n : Int) := by omega
 have c2 : (0 : Int) ≤ ((at' + i : Nat) : Int) := by omega
 have c3 : ((at' + i : Nat) : Int) < (s.size : Int) := by omega
 have e1 : wrap64 ((at' : Int) + (i : Int)) = ((at' + i : Nat) : Int) := by rw [wrap64_in _ (by omega)]; omega
 have e4 : wrap64 ((i : Int) + 1) = ((i + 1 : Nat) : Int) := by rw [wrap64_in _ (by omega)]; omega
 have e5 := bt_byte s _ hl
 generalize byte s (at' + i) = b at *
 have e2 : wrap64 (b : Int) = (b : Int) := w64 _ (by omega)
 have e3 : wrap64 ((wrap64 ((r : Int) * 64)) + (Int.tmod (b : Int) 64)) = ((r * 64 + b % 64 : Nat) : Int) := by
  rw [wrap64_in ((r : Int) * 64) (by omega), Int.tmod_eq_emod_of_nonneg (by omega), wrap64_in _ (by omega)]
  omega
 rw [odysseyref01_Next.l0, if_pos c1, e1, if_pos c2, if_pos c3, e5, e2, e3, e4, second_iff]
 clear e1 e2 e3 e4 e5 c1 c2 c3
 by_cases h1 : b < 128
 · have d1 : (b : Int) < 128 := by omega
   rw [if_pos d1, if_pos (Or.inl h1)]
 · have d1 : ¬ (b : Int) < 128 := by omega
   rw [if_neg d1]
   by_cases h2 : b > 191
   · have d2 : (b : Int) > 191 := by omega
     rw [if_pos d2, if_pos (Or.inr h2)]
   · have d2 : ¬ (b : Int) > 191 := by omega
     have d3 : ¬ (b < 128 ∨ b > 191) := by omega
     rw [if_neg d2, if_neg d3]
     by_cases h3 : i = 1
     · have d4 : (i : Int) = 1 := by omega
       rw [if_pos d4, if_pos h3]
       simp only [Option.bind_some, decide_eq_true_eq]
     · have d4 : ¬ (i : Int) = 1 := by omega
       rw [if_neg d4, if_neg h3]
theorem done (k : Nat) (s : ByteArray) (at' b0 n : Nat) (r : Nat) : odysseyref01_Next.l0 (k + 1) s at' b0 n r n = some ((r : Int), (n : Int), true) := by
 rw [odysseyref01_Next.l0, if_neg (by omega)]

theorem lohi (b0 : Nat) : ((b0 = 224 → (if b0 = 224 then 160 else if b0 = 240 then 144 else 128) = 160) ∧ (b0 = 240 → (if b0 = 224 then 160 else if b0 = 240 then 144 else 128) = 144) ∧ (b0 ≠ 224 → b0 ≠ 240 → (if b0 = 224 then 160 else if b0 = 240 then 144 else 128) = 128)) ∧
 ((b0 = 237 → (if b0 = 237 then 159 else if b0 = 244 then 143 else 191) = 159) ∧ (b0 = 244 → (if b0 = 237 then 159 else if b0 = 244 then 143 else 191) = 143) ∧ (b0 ≠ 237 → b0 ≠ 244 → (if b0 = 237 then 159 else if b0 = 244 then 143 else 191) = 191)) := by
 refine ⟨⟨?_, ?_, ?_⟩, ?_, ?_, ?_⟩
 · rintro rfl; rfl
 · rintro rfl; rfl
 · intro a b; rw [if_neg a, if_neg b]
 · rintro rfl; rfl
 · rintro rfl; rfl
 · intro a b; rw [if_neg a, if_neg b]
theorem long_eq (k b : Nat) : odysseyref01_long.f (k + 2) (b : Int) = some ((if b < 128 then 1 else if 194 ≤ b ∧ b ≤ 223 then 2 else if 224 ≤ b ∧ b ≤ 239 then 3 else if 240 ≤ b ∧ b ≤ 244 then 4 else 0 : Nat) : Int) := by
 unfold odysseyref01_long.f
 by_cases h1 : b < 128
 · rw [if_pos (by omega), if_pos h1]; rfl
 rw [if_neg (by omega), if_neg h1]
 by_cases h2 : 194 ≤ b ∧ b ≤ 223
 · have d : decide ((b : Int) ≤ 223) = true := decide_eq_true (by omega)
   rw [if_pos (by omega), if_pos h2, d, odysseyref01_long.j0, if_pos rfl]; rfl
 have e0 : (if (b : Int) ≥ 194 then odysseyref01_long.j0 (k + 2) b (decide ((b : Int) ≤ 223)) else odysseyref01_long.j0 (k + 2) b false) = odysseyref01_long.j0 (k + 2) b false := by
  by_cases h : (b : Int) ≥ 194
  · have d : decide ((b : Int) ≤ 223) = false := decide_eq_false (by omega)
    rw [if_pos h, d]
  · rw [if_neg h]
 rw [e0, if_neg h2, odysseyref01_long.j0, if_neg (by decide)]
 by_cases h3 : 224 ≤ b ∧ b ≤ 239
 · have d : decide ((b : Int) ≤ 239) = true := decide_eq_true (by omega)
   rw [if_pos (by omega), if_pos h3, d, odysseyref01_long.j1, if_pos rfl]; rfl
 have e1 : (if (b : Int) ≥ 224 then odysseyref01_long.j1 (k + 1) b (decide ((b : Int) ≤ 239)) else odysseyref01_long.j1 (k + 1) b false) = odysseyref01_long.j1 (k + 1) b false := by
  by_cases h : (b : Int) ≥ 224
  · have d : decide ((b : Int) ≤ 239) = false := decide_eq_false (by omega)
    rw [if_pos h, d]
  · rw [if_neg h]
 rw [e1, if_neg h3, odysseyref01_long.j1, if_neg (by decide)]
 by_cases h4 : 240 ≤ b ∧ b ≤ 244
 · rw [if_pos (by omega), if_pos h4, if_pos (by omega)]; rfl
 rw [if_neg h4]
 by_cases h : (b : Int) ≥ 240
 · rw [if_pos h, if_neg (by omega)]; rfl
 · rw [if_neg h]; rfl

theorem decB_eq (sz i b0 b1 b2 b3 : Nat) : decB sz i b0 b1 b2 b3 =
 if b0 < 128 then (b0, 1)
 else if b0 / 32 = 6 ∧ i + 1 < sz ∧ b1 / 64 = 2 then (if (b0 % 32) * 64 + b1 % 64 ≥ 128 then ((b0 % 32) * 64 + b1 % 64, 2) else (65533, 1))
 else if (b0 / 16 = 14 ∧ i + 1 < sz ∧ b1 / 64 = 2) ∧ i + 2 < sz ∧ b2 / 64 = 2 then
  (if (b0 % 16) * 4096 + (b1 % 64) * 64 + b2 % 64 ≥ 2048 ∧ ((b0 % 16) * 4096 + (b1 % 64) * 64 + b2 % 64 < 55296 ∨ (57344 ≤ (b0 % 16) * 4096 + (b1 % 64) * 64 + b2 % 64 ∧ (b0 % 16) * 4096 + (b1 % 64) * 64 + b2 % 64 ≤ 1114111)) then ((b0 % 16) * 4096 + (b1 % 64) * 64 + b2 % 64, 3) else (65533, 1))
 else if ((b0 / 8 = 30 ∧ i + 1 < sz ∧ b1 / 64 = 2) ∧ i + 2 < sz ∧ b2 / 64 = 2) ∧ i + 3 < sz ∧ b3 / 64 = 2 then
  (if (b0 % 8) * 262144 + (b1 % 64) * 4096 + (b2 % 64) * 64 + b3 % 64 ≥ 65536 ∧ ((b0 % 8) * 262144 + (b1 % 64) * 4096 + (b2 % 64) * 64 + b3 % 64 < 55296 ∨ (57344 ≤ (b0 % 8) * 262144 + (b1 % 64) * 4096 + (b2 % 64) * 64 + b3 % 64 ∧ (b0 % 8) * 262144 + (b1 % 64) * 4096 + (b2 % 64) * 64 + b3 % 64 ≤ 1114111)) then ((b0 % 8) * 262144 + (b1 % 64) * 4096 + (b2 % 64) * 64 + b3 % 64, 4) else (65533, 1))
 else (65533, 1) := by
 unfold decB
 simp only [Bool.and_eq_true, beq_iff_eq, decide_eq_true_eq, valid_iff]

theorem next_good (s : ByteArray) (hs : s.size ≤ 1000000000000000) (i : Nat) (hi : i < s.size) (k : Nat) : Good (odysseyref01_Next.f (k + 6) s (i : Int)) (Utf8.decode s i) := by
 have g0 := byte_get s i hi
 have g1 : i + 1 < s.size → (s.get! (i + 1)).toNat = byte s (i + 1) := byte_get s (i + 1)
 have g2 : i + 2 < s.size → (s.get! (i + 2)).toNat = byte s (i + 2) := byte_get s (i + 2)
 have g3 : i + 3 < s.size → (s.get! (i + 3)).toNat = byte s (i + 3) := byte_get s (i + 3)
 rw [decode_eq, decB_eq]
 have z : i + 0 = i := rfl
 rw [z, g0]
 clear z g0
 have hb := byte_lt s i
 have c0 : (0 : Int) ≤ (i : Int) := by omega
 have c1 : (i : Int) < (s.size : Int) := by omega
 have hsub : wrap64 ((s.size : Int) - (i : Int)) = ((s.size - i : Nat) : Int) := by rw [wrap64_in _ (by omega)]; omega
 unfold odysseyref01_Next.f
 rw [if_pos c0, if_pos c1, bt_byte s i hi, w64 _ (by omega), long_eq, Option.bind_some, hsub]
 have hr1 := round (s := s) (at' := i) (b0 := byte s i) (i := 1) (hs := hs)
 have hr2 := round (s := s) (at' := i) (b0 := byte s i) (i := 2) (hs := hs)
 have hr3 := round (s := s) (at' := i) (b0 := byte s i) (i := 3) (hs := hs)
 have l1 := byte_lt s (i + 1)
 have l2 := byte_lt s (i + 2)
 have l3 := byte_lt s (i + 3)
 generalize (s.get! (i + 1)).toNat = b1 at *
 generalize (s.get! (i + 2)).toNat = b2 at *
 generalize (s.get! (i + 3)).toNat = b3 at *
 generalize byte s i = b0 at *
 by_cases h1 : b0 < 128
 · rw [if_pos h1, if_pos h1]
   left
   rw [if_neg (by decide)]
   have d : decide (((1 : Nat) : Int) > ((s.size - i : Nat) : Int)) = false := decide_eq_false (by omega)
   rw [d, odysseyref01_Next.j0, if_neg (by decide), if_pos (by rfl)]
   rfl
 rw [if_neg h1, if_neg h1]
 by_cases h2 : 194 ≤ b0 ∧ b0 ≤ 223
 · rw [if_pos h2]
   by_cases hl : s.size - i < 2
   · right
     have d : decide (((2 : Nat) : Int) > ((s.size - i : Nat) : Int)) = true := decide_eq_true (by omega)
     rw [if_neg (by decide), d, odysseyref01_Next.j0, if_pos rfl]
     refine ⟨_, _, rfl, ?_⟩
     rw [if_neg (by omega), if_neg (by omega), if_neg (by omega)]
   have d : decide (((2 : Nat) : Int) > ((s.size - i : Nat) : Int)) = false := decide_eq_false (by omega)
   have e5 : wrap64 (7 - ((2 : Nat) : Int)) = 5 := by rw [wrap64_in _ (by omega)]; omega
   have et : Int.tmod (b0 : Int) 32 = ((b0 % 32 : Nat) : Int) := by rw [Int.tmod_eq_emod_of_nonneg (by omega)]; omega
   rw [if_neg (by decide), d, odysseyref01_Next.j0, if_neg (by decide), if_neg (by decide), e5, if_pos (by decide), shl1.1, if_neg (by decide), et]
   have hr := hr1 (k := k + 4) (n := 2) (r := b0 % 32) (by omega) (by omega) (by omega) (by omega)
   rw [show (1 : Int) = ((1 : Nat) : Int) from rfl, hr, g1 (by omega)]
   generalize byte s (i + 1) = c1 at *
   by_cases hc : c1 < 128 ∨ c1 > 191
   · rw [if_pos hc]
     right
     refine ⟨_, _, rfl, ?_⟩
     rw [if_neg (by omega), if_neg (by omega), if_neg (by omega)]
   rw [if_neg hc, if_pos rfl, if_pos (by have := lohi b0; omega)]
   left
   rw [if_pos (by omega), if_pos (by omega)]
   exact done (k + 3) s i b0 2 _
 rw [if_neg h2]
 by_cases h3 : 224 ≤ b0 ∧ b0 ≤ 239
 · rw [if_pos h3]
   by_cases hl : s.size - i < 3
   · right
     have d : decide (((3 : Nat) : Int) > ((s.size - i : Nat) : Int)) = true := decide_eq_true (by omega)
     rw [if_neg (by decide), d, odysseyref01_Next.j0, if_pos rfl]
     refine ⟨_, _, rfl, ?_⟩
     rw [if_neg (by omega), if_neg (by omega), if_neg (by omega)]
   have d : decide (((3 : Nat) : Int) > ((s.size - i : Nat) : Int)) = false := decide_eq_false (by omega)
   have e5 : wrap64 (7 - ((3 : Nat) : Int)) = 4 := by rw [wrap64_in _ (by omega)]; omega
   have et : Int.tmod (b0 : Int) 16 = ((b0 % 16 : Nat) : Int) := by rw [Int.tmod_eq_emod_of_nonneg (by omega)]; omega
   rw [if_neg (by decide), d, odysseyref01_Next.j0, if_neg (by decide), if_neg (by decide), e5, if_pos (by decide), shl1.2.1, if_neg (by decide), et]
   clear e5 et d
   have hr := hr1 (k := k + 4) (n := 3) (r := b0 % 16) (by omega) (by omega) (by omega) (by omega)
   rw [show (1 : Int) = ((1 : Nat) : Int) from rfl, hr, g1 (by omega)]
   clear hr hr1
   generalize byte s (i + 1) = c1 at *
   have hlh := lohi b0
   generalize (if b0 = 224 then 160 else if b0 = 240 then 144 else 128) = lo at *
   generalize (if b0 = 237 then 159 else if b0 = 244 then 143 else 191) = hi' at *
   by_cases hc : c1 < 128 ∨ c1 > 191
   · rw [if_pos hc]
     right
     refine ⟨_, _, rfl, ?_⟩
     rw [if_neg (by omega), if_neg (by omega), if_neg (by omega)]
   rw [if_neg hc, if_pos rfl]
   by_cases hs2 : lo ≤ c1 ∧ c1 ≤ hi'
   · rw [if_pos hs2]
     have hr := hr2 (k := k + 3) (n := 3) (r := b0 % 16 * 64 + c1 % 64) (by omega) (by omega) (by omega) (by omega)
     rw [show ((1 + 1 : Nat) : Int) = ((2 : Nat) : Int) from rfl, hr, g2 (by omega)]
     clear hr hr2 hr3
     generalize byte s (i + 2) = c2 at *
     by_cases hd : c2 < 128 ∨ c2 > 191
     · rw [if_pos hd]
       right
       refine ⟨_, _, rfl, ?_⟩
       rw [if_neg (by omega), if_neg (by omega), if_neg (by omega)]
     rw [if_neg hd, if_neg (by decide)]
     left
     rw [if_neg (by omega), if_pos (by omega), if_pos (by omega)]
     have e : (b0 % 16 * 64 + c1 % 64) * 64 + c2 % 64 = b0 % 16 * 4096 + c1 % 64 * 64 + c2 % 64 := by omega
     rw [e]
     exact done (k + 2) s i b0 3 _
   · rw [if_neg hs2]
     right
     refine ⟨_, _, rfl, ?_⟩
     rw [if_neg (by omega)]
     by_cases hb2 : i + 2 < s.size ∧ b2 / 64 = 2
     · rw [if_pos (by omega), if_neg (by omega)]
     · rw [if_neg (by omega), if_neg (by omega)]
 rw [if_neg h3]
 by_cases h4 : 240 ≤ b0 ∧ b0 ≤ 244
 · rw [if_pos h4]
   by_cases hl : s.size - i < 4
   · right
     have d : decide (((4 : Nat) : Int) > ((s.size - i : Nat) : Int)) = true := decide_eq_true (by omega)
     rw [if_neg (by decide), d, odysseyref01_Next.j0, if_pos rfl]
     refine ⟨_, _, rfl, ?_⟩
     rw [if_neg (by omega), if_neg (by omega), if_neg (by omega)]
   have d : decide (((4 : Nat) : Int) > ((s.size - i : Nat) : Int)) = false := decide_eq_false (by omega)
   have e5 : wrap64 (7 - ((4 : Nat) : Int)) = 3 := by rw [wrap64_in _ (by omega)]; omega
   have et : Int.tmod (b0 : Int) 8 = ((b0 % 8 : Nat) : Int) := by rw [Int.tmod_eq_emod_of_nonneg (by omega)]; omega
   rw [if_neg (by decide), d, odysseyref01_Next.j0, if_neg (by decide), if_neg (by decide), e5, if_pos (by decide), shl1.2.2, if_neg (by decide), et]
   clear e5 et d
   have hr := hr1 (k := k + 4) (n := 4) (r := b0 % 8) (by omega) (by omega) (by omega) (by omega)
   rw [show (1 : Int) = ((1 : Nat) : Int) from rfl, hr, g1 (by omega)]
   clear hr hr1
   generalize byte s (i + 1) = c1 at *
   have hlh := lohi b0
   generalize (if b0 = 224 then 160 else if b0 = 240 then 144 else 128) = lo at *
   generalize (if b0 = 237 then 159 else if b0 = 244 then 143 else 191) = hi' at *
   by_cases hc : c1 < 128 ∨ c1 > 191
   · rw [if_pos hc]
     right
     refine ⟨_, _, rfl, ?_⟩
     rw [if_neg (by omega), if_neg (by omega), if_neg (by omega)]
   rw [if_neg hc, if_pos rfl]
   by_cases hs2 : lo ≤ c1 ∧ c1 ≤ hi'
   · rw [if_pos hs2]
     have hr := hr2 (k := k + 3) (n := 4) (r := b0 % 8 * 64 + c1 % 64) (by omega) (by omega) (by omega) (by omega)
     rw [show ((1 + 1 : Nat) : Int) = ((2 : Nat) : Int) from rfl, hr, g2 (by omega)]
     clear hr hr2
     generalize byte s (i + 2) = c2 at *
     by_cases hd : c2 < 128 ∨ c2 > 191
     · rw [if_pos hd]
       right
       refine ⟨_, _, rfl, ?_⟩
       rw [if_neg (by omega), if_neg (by omega), if_neg (by omega)]
     rw [if_neg hd, if_neg (by decide)]
     have hr := hr3 (k := k + 2) (n := 4) (r := (b0 % 8 * 64 + c1 % 64) * 64 + c2 % 64) (by omega) (by omega) (by omega) (by omega)
     rw [show ((2 + 1 : Nat) : Int) = ((3 : Nat) : Int) from rfl, hr, g3 (by omega)]
     clear hr hr3
     generalize byte s (i + 3) = c3 at *
     by_cases hf : c3 < 128 ∨ c3 > 191
     · rw [if_pos hf]
       right
       refine ⟨_, _, rfl, ?_⟩
       rw [if_neg (by omega), if_neg (by omega), if_neg (by omega)]
     rw [if_neg hf, if_neg (by decide)]
     left
     rw [if_neg (by omega), if_neg (by omega), if_pos (by omega), if_pos (by omega)]
     have e : ((b0 % 8 * 64 + c1 % 64) * 64 + c2 % 64) * 64 + c3 % 64 = b0 % 8 * 262144 + c1 % 64 * 4096 + c2 % 64 * 64 + c3 % 64 := by omega
     rw [e]
     exact done (k + 1) s i b0 4 _
   · rw [if_neg hs2]
     right
     refine ⟨_, _, rfl, ?_⟩
     rw [if_neg (by omega), if_neg (by omega)]
     by_cases hb2 : (i + 2 < s.size ∧ b2 / 64 = 2) ∧ i + 3 < s.size ∧ b3 / 64 = 2
     · rw [if_pos (by omega), if_neg (by omega)]
     · rw [if_neg (by omega)]
 rw [if_neg h4, if_pos (by rfl)]
 right
 rw [odysseyref01_Next.j0, if_pos rfl]
 refine ⟨_, _, rfl, ?_⟩
 clear hr1 hr2 hr3
 by_cases q1 : b0 / 32 = 6 ∧ i + 1 < s.size ∧ b1 / 64 = 2
 · rw [if_pos q1, if_neg (by omega)]
 rw [if_neg q1, if_neg (by omega)]
 by_cases q2 : ((b0 / 8 = 30 ∧ i + 1 < s.size ∧ b1 / 64 = 2) ∧ i + 2 < s.size ∧ b2 / 64 = 2) ∧ i + 3 < s.size ∧ b3 / 64 = 2
 · rw [if_pos q2, if_neg (by omega)]
 rw [if_neg q2]

theorem decode_step (s : ByteArray) (i : Nat) : 1 ≤ (Utf8.decode s i).2 ∧ (Utf8.decode s i).2 ≤ 4 := by
 simp only [Utf8.decode]
 repeat' split
 all_goals simp
theorem letter_eq (r : Int) : odysseyref01_letter.f r = some (Nm.letterR r) := by
 unfold odysseyref01_letter.f Nm.letterR
 by_cases h1 : 97 ≤ r
 · rw [if_pos h1]
   by_cases h2 : r ≤ 122
   · rw [if_pos h2]; simp [h1, h2]
   rw [if_neg h2]
   repeat' split
   all_goals (first | (simp_all; done) | (simp_all; intros; omega))
 · rw [if_neg h1]
   repeat' split
   all_goals (first | (simp_all; done) | (simp_all; intros; omega) | (simp_all; constructor <;> intros <;> omega))
/-- The loop of Is. -/
theorem is_loop (s : ByteArray) (hs : s.size ≤ 1000000000000000) : ∀ (m i n k : Nat), s.size - i = m → i ≤ s.size + 4 → n ≤ i → m + 20 < k → odysseyref01_Is.l0 k s (n : Int) (i : Int) = some (Nm.isGo (Nm.from_ s i) n) := by
 intro m
 induction m using Nat.strongRecOn with
 | _ m ih =>
  intro i n k hm hi hn hk
  obtain ⟨k, rfl⟩ : ∃ j, k = j + 1 + 6 := ⟨k - 7, by omega⟩
  rw [show k + 1 + 6 = (k + 6) + 1 from rfl, odysseyref01_Is.l0]
  by_cases hp : i < s.size
  · rw [if_pos (by omega), Nm.from_step s i hp, Nm.isGo]
    have hd := decode_step s i
    have hg := next_good s hs i hp k
    rcases hg with hg | ⟨x, y, hg, he⟩
    · rw [hg, Option.bind_some]
      generalize hq : Utf8.decode s i = d at *
      obtain ⟨r, w⟩ := d
      simp only at hd ⊢
      rw [letter_eq, Option.bind_some, if_pos trivial]
      have e1 : wrap64 ((n : Int) + 1) = ((n + 1 : Nat) : Int) := by rw [wrap64_in _ (by omega)]; omega
      have e2 : wrap64 ((i : Int) + (w : Int)) = ((i + w : Nat) : Int) := by rw [wrap64_in _ (by omega)]; omega
      have hI := ih (s.size - (i + w)) (by omega) (i + w) (n + 1) (k + 6) rfl (by omega) (by omega) (by omega)
      rw [e1, e2, hI]
      unfold Nm.mayR
      cases hL : Nm.letterR (r : Int)
      · simp only [Bool.false_eq_true, if_false, Bool.false_or]
        by_cases hn0 : n > 0
        · rw [if_pos (by omega)]
          by_cases q1 : (r : Int) = 45
          · rw [if_pos q1]; simp [q1, hn0]
          rw [if_neg q1]
          by_cases q2 : (r : Int) ≥ 48
          · rw [if_pos q2]
            by_cases q3 : (r : Int) ≤ 57
            · rw [if_pos q3]
              have : (48 : Int) ≤ r := q2
              simp [hn0, this, q3]
            · rw [if_neg q3]; simp [q1, q3]
          · rw [if_neg q2]
            have : ¬ (48 : Int) ≤ r := q2
            simp [q1, this]
        · rw [if_neg (by omega)]
          simp [hn0]
      · simp
    · rw [hg, Option.bind_some, letter_eq, Option.bind_some, if_neg (by simp)]
      have hz : Nm.mayR ((Utf8.decode s i).1 : Int) n = false := by
       rw [he]
       unfold Nm.mayR Nm.letterR
       simp
      rw [hz, Bool.false_and]
  · rw [if_neg (by omega), Nm.from_end s i (by omega), Nm.isGo]
    by_cases q1 : (n : Int) ≥ 1
    · rw [if_pos q1]
      have : 0 < n := by omega
      simp [this]
      omega
    · rw [if_neg q1]
      have : ¬ 0 < n := by omega
      simp [this]
theorem is_eq (s : ByteArray) (hs : s.size ≤ 1000000000000000) (k : Nat) (hk : s.size + 20 < k) : odysseyref01_Is.f k s = some (Nm.isName s) := by
 unfold odysseyref01_Is.f
 exact is_loop s hs s.size 0 0 k rfl (by omega) (by omega) (by omega)
end Go.Proofs.YthlgcibckakhbaaGreatDoor.RefIs

/- name.letter and name.Is: the walks, by hand. -/
namespace Go.Proofs.YthlgcibckakhbaaGreatDoor.NameWalk
open Go.RowKit Go.IntWalk Go.Proofs.YthlgcibckakhbaaGreatDoorW.PrintWords Go.Proofs.YthlgcibckakhbaaGreatDoorW.PrintMore

set_option maxHeartbeats 400000 in
theorem letter_calls (r : Int) (w : World) (h0 : 0 ≤ r) (h1 : r ≤ 2147483647) :
 Calls Tryz.prog 65 #[.int .i32 r] w fun e w' => e = .returned (.bool (Nm.letterR r)) ∧ w' = w := by
 have hl : Nm.letterR r = ((decide (97 ≤ r) && decide (r ≤ 122)) || (decide (945 ≤ r) && decide (r ≤ 969)) || decide (r = 228) || decide (r = 246) || decide (r = 252) || decide (r = 223)) := rfl
 have HL := Aside0.mk hl
 clear hl
 go_enter Tryz.func65, Tryz.ntmps65
 go_wp2
 all_goals
  go_ret
  refine ⟨congrArg (fun b => Ending.returned (Value.bool b)) ?_, rfl⟩
  first | (subst_vars; decide) | (rw [HL.out, Bool.eq_iff_iff]; simp; done) | (rw [HL.out, Bool.eq_iff_iff]; simp; omega)

/-- What holds at the loop's head: so many runes have been read, and may stand; the rest is still to come. -/
def Head (w : World) (s : ByteArray) (v3 : Value) (wr : World) : Prop :=
 ∃ pos n : Nat, n + (Nm.from_ s pos).length ≤ s.size ∧ v3 = .int .i64 n ∧ wr = w.iter s pos ∧ Nm.isName s = Nm.isGo (Nm.from_ s pos) n

theorem go_true {l : List Int} {r : Int} {n : Nat} (h : Nm.mayR r n = true) : Nm.isGo (r :: l) n = Nm.isGo l (n + 1) := by rw [Nm.isGo, h, Bool.true_and]
theorem go_false {l : List Int} {r : Int} {n : Nat} (h : Nm.mayR r n = false) : Nm.isGo (r :: l) n = false := by rw [Nm.isGo, h, Bool.false_and]

set_option maxHeartbeats 1000000 in
theorem is_calls (s : ByteArray) (w : World) (hs : s.size ≤ 9000000000000000000) :
 Calls Tryz.prog 45 #[.string s] w fun e w' => e = .returned (.bool (Nm.isName s)) ∧ Below w.heap.size w w' := by
 have HS := Aside0.mk hs
 clear hs
 go_enter Tryz.func45, Tryz.ntmps45
 go_wp2
 go_loopw [3] (fun v3 wr => Head w s v3 wr) (fun _ wr => s.size - wr.iterPos w.heap.size)
 case atStart => exact ⟨0, 0, by rw [Nm.from_zero, Nat.zero_add]; exact Nm.runes_len s, rfl, rfl, rfl⟩
 case round =>
  obtain ⟨pos, n, hn, rfl, rfl, hi⟩ := hrel
  by_cases hlt : pos < s.size
  · have hnext := fun ty => run_next_any (P := Tryz.prog) w s pos ty hlt
    have hle := decode_le s pos
    have hpos := Nm.decode_pos s pos
    rw [Nm.from_step s pos hlt] at hi hn
    generalize (Utf8.decode s pos).1 = r at *
    generalize (Utf8.decode s pos).2 = c at *
    rw [List.length_cons] at hn
    have hsize := HS.out
    have HN := Aside0.mk hn
    have HI := Aside0.mk hi
    have HB : Aside0 (Below w.heap.size w (w.iter s (pos + c))) := ⟨(Below.refl _ _).alloc (Nat.le_refl _) _⟩
    have hn9 : (n : Int) + 1 ≤ 9223372036854775807 := by omega
    clear hi hn hsize
    cases hb : Nm.letterR (r : Int)
    · by_cases hn0 : n = 0
      · subst hn0
        have hm : Nm.mayR r 0 = false := by simp [Nm.mayR, hb]
        have HM := Aside0.mk hm
        have HLB := Aside0.mk hb
        clear hm hb
        go_wp2_with (go_at_call 65; refine (letter_calls _ _ (by omega) (by omega)).mono ?_; rw [HLB.out]; rintro e w' ⟨rfl, rfl⟩)
        go_ret
        rw [HI.out, go_false HM.out]
        exact ⟨rfl, HB.out⟩
      · by_cases hd : (r : Int) = 45 ∨ (48 ≤ (r : Int) ∧ (r : Int) ≤ 57)
        · have hm : Nm.mayR r n = true := by
           simp [Nm.mayR]
           omega
          have HM := Aside0.mk hm
          have HLB := Aside0.mk hb
          clear hm hb
          have hn1 : ((n : Int) == 0) = false := by simp; omega
          by_cases h45 : (r : Int) = 45
          · have h45b : ((r : Int) != 45) = false := by simp; omega
            clear h45 hd
            go_wp2_with (go_at_call 65; refine (letter_calls _ _ (by omega) (by omega)).mono ?_; rw [HLB.out]; rintro e w' ⟨rfl, rfl⟩)
            go_roundw
            case rel => exact ⟨pos + c, n + 1, by have := HN.out; omega, by go_num, rfl, by rw [HI.out, go_true HM.out]⟩
            case measure => simp; omega
          · have h45b : ((r : Int) != 45) = true := by simp; omega
            have hlo : decide ((r : Int) < 48) = false := decide_eq_false (by omega)
            have hhi : decide (57 < (r : Int)) = false := decide_eq_false (by omega)
            clear h45 hd
            go_wp2_with (go_at_call 65; refine (letter_calls _ _ (by omega) (by omega)).mono ?_; rw [HLB.out]; rintro e w' ⟨rfl, rfl⟩)
            go_roundw
            case rel => exact ⟨pos + c, n + 1, by have := HN.out; omega, by go_num, rfl, by rw [HI.out, go_true HM.out]⟩
            case measure => simp; omega
        · have hm : Nm.mayR r n = false := by
           rw [Nm.mayR, hb, Bool.false_or, Bool.and_eq_false_iff]
           right
           simp
           omega
          have HM := Aside0.mk hm
          have HLB := Aside0.mk hb
          clear hm hb
          have hn1 : ((n : Int) == 0) = false := by simp; omega
          have h45b : ((r : Int) != 45) = true := by simp; omega
          by_cases h48 : (r : Int) < 48
          · have hlo : decide ((r : Int) < 48) = true := decide_eq_true h48
            clear h48 hd
            go_wp2_with (go_at_call 65; refine (letter_calls _ _ (by omega) (by omega)).mono ?_; rw [HLB.out]; rintro e w' ⟨rfl, rfl⟩)
            go_ret
            rw [HI.out, go_false HM.out]
            exact ⟨rfl, HB.out⟩
          · have hlo : decide ((r : Int) < 48) = false := decide_eq_false h48
            have hhi : decide (57 < (r : Int)) = true := decide_eq_true (by omega)
            clear h48 hd
            go_wp2_with (go_at_call 65; refine (letter_calls _ _ (by omega) (by omega)).mono ?_; rw [HLB.out]; rintro e w' ⟨rfl, rfl⟩)
            go_ret
            rw [HI.out, go_false HM.out]
            exact ⟨rfl, HB.out⟩
    · have hm : Nm.mayR r n = true := by simp [Nm.mayR, hb]
      have HM := Aside0.mk hm
      have HLB := Aside0.mk hb
      clear hm hb
      go_wp2_with (go_at_call 65; refine (letter_calls _ _ (by omega) (by omega)).mono ?_; rw [HLB.out]; rintro e w' ⟨rfl, rfl⟩)
      go_roundw
      case rel => exact ⟨pos + c, n + 1, by have := HN.out; omega, by go_num, rfl, by rw [HI.out, go_true HM.out]⟩
      case measure => simp; omega
  · have hnext := fun ty => run_next_end (P := Tryz.prog) w s pos ty hlt
    rw [Nm.from_end s pos (by omega)] at hi hn
    have HI := Aside0.mk hi
    have HB : Aside0 (Below w.heap.size w (w.iter s pos)) := ⟨(Below.refl _ _).alloc (Nat.le_refl _) _⟩
    have hsize := HS.out
    have hn9 : (n : Int) ≤ 9223372036854775807 := by simp only [List.length_nil] at hn; omega
    clear hi hn hsize
    go_wp2
    all_goals
     go_ret
     refine ⟨?_, HB.out⟩
     rw [HI.out]
     refine congrArg (fun b => Ending.returned (Value.bool b)) ?_
     rw [Nm.isGo, Bool.eq_iff_iff]
     first | (simp; done) | (simp; omega)
end Go.Proofs.YthlgcibckakhbaaGreatDoor.NameWalk

/- unicode/utf8.decodeRuneInStringSlow, DecodeRuneInString and name.Compare over tables of whatever content: the walks, by hand. -/
namespace Go.Proofs.YthlgcibckakhbaaGreatDoor.CmpWalk
open Go.Proofs.YthlgcibckakhbaaGreatDoor.Nm (byte byte_lt byte_at)
open Go.RowKit Go.IntWalk Go.Proofs.YthlgcibckakhbaaGreatDoorW.PrintWords Go.Proofs.YthlgcibckakhbaaGreatDoorW.PrintMore

/-- What the two tables of unicode/utf8 hold. -/
structure Utabs where
 first : Nat → Nat
 lo : Nat → Nat
 hi : Nat → Nat
 first8 : ∀ i, first i < 256
 lo8 : ∀ i, lo i < 256
 hi8 : ∀ i, hi i < 256
structure TabsRaw (T : Utabs) (w : World) : Prop where
 first : ∀ i, i < 256 → w.cell? ⟨0, i, none⟩ = some (.int .u8 (T.first i))
 lo : ∀ i, i < 16 → w.cell? ⟨1, i * 2, none⟩ = some (.int .u8 (T.lo i))
 hi : ∀ i, i < 16 → w.cell? ⟨1, i * 2 + 1, none⟩ = some (.int .u8 (T.hi i))

/-- What is decoded. -/
def decT (T : Utabs) (s : ByteArray) : Nat × Nat :=
 let x := T.first (byte s 0)
 if 240 ≤ x then (if x % 2 = 1 then 65533 else byte s 0, 1)
 else if s.size < x % 8 then (65533, 1)
 else if byte s 1 < T.lo (x / 16) ∨ T.hi (x / 16) < byte s 1 then (65533, 1)
 else if x % 8 ≤ 2 then (byte s 0 % 32 * 64 + byte s 1 % 64, 2)
 else if byte s 2 < 128 ∨ 191 < byte s 2 then (65533, 1)
 else if x % 8 ≤ 3 then (byte s 0 % 16 * 4096 + byte s 1 % 64 * 64 + byte s 2 % 64, 3)
 else if byte s 3 < 128 ∨ 191 < byte s 3 then (65533, 1)
 else (byte s 0 % 8 * 262144 + byte s 1 % 64 * 4096 + byte s 2 % 64 * 64 + byte s 3 % 64, 4)

theorem two_eq {a b a' b' : Int} (h1 : a = a') (h2 : b = b') : Ending.returned (.tuple #[.int .i32 a, .int .i64 b]) = Ending.returned (.tuple #[.int .i32 a', .int .i64 b']) := by rw [h1, h2]
theorem mask_odd (x : Nat) (ho : x % 2 = 1) : wrap32 ((x : Int) * 2147483648) / 2147483648 = -1 := by unfold wrap32; omega
theorem mask_even (x : Nat) (ho : ¬ x % 2 = 1) : wrap32 ((x : Int) * 2147483648) / 2147483648 = 0 := by unfold wrap32; omega
theorem high_odd (b : Nat) (h : b < 256) : Go.bits .or .i32 (Go.bits .andNot .i32 (b : Int) (-1)) (Go.bits .and .i32 65533 (-1)) = 65533 := by
 have : ∀ b : Fin 256, Go.bits .or .i32 (Go.bits .andNot .i32 ((b : Nat) : Int) (-1)) (Go.bits .and .i32 65533 (-1)) = 65533 := by decide +kernel
 exact this ⟨b, h⟩
theorem high_even (b : Nat) (h : b < 256) : Go.bits .or .i32 (Go.bits .andNot .i32 (b : Int) 0) (Go.bits .and .i32 65533 0) = (b : Int) := by
 have : ∀ b : Fin 256, Go.bits .or .i32 (Go.bits .andNot .i32 ((b : Nat) : Int) 0) (Go.bits .and .i32 65533 0) = ((b : Nat) : Int) := by decide +kernel
 exact this ⟨b, h⟩

set_option maxHeartbeats 1000000 in
set_option maxRecDepth 100000 in
theorem slow_calls (T : Utabs) (s : ByteArray) (w : World) (hT : TabsRaw T w) (h2 : 2 ≤ s.size) (hs : s.size ≤ 9000000000000000000) :
 Calls Tryz.prog 108 #[.string s] w fun e w' => e = .returned (.tuple #[.int .i32 (decT T s).1, .int .i64 (decT T s).2]) ∧ Below w.heap.size w w' := by
 have hx8 := T.first8 (byte s 0)
 have hb0 := byte_at s 0 (by omega)
 have hb1 := byte_at s 1 (by omega)
 have hl0 := byte_lt s 0
 have hc := hT.first (byte s 0) hl0
 have hlo := hT.lo (T.first (byte s 0) / 16) (by omega)
 have hhi := hT.hi (T.first (byte s 0) / 16) (by omega)
 have hlt0 : 0 < w.heap.size := World.block_lt_of_cell? w _ hc
 have hlt1 : 1 < w.heap.size := World.block_lt_of_cell? w _ hlo
 have HD : Aside0 (decT T s = decT T s) := ⟨rfl⟩
 by_cases h240 : 240 ≤ T.first (byte s 0)
 · have hd : decT T s = (if T.first (byte s 0) % 2 = 1 then 65533 else byte s 0, 1) := by
    unfold decT; simp only; rw [if_pos h240]
   generalize hxx : T.first (byte s 0) = x at *
   have HDD := Aside0.mk hd
   clear hd HD hT hlo hhi hxx
   have hge : decide ((240 : Int) ≤ (x : Int)) = true := decide_eq_true (by omega)
   have hne : decide ((s.size : Int) < 1) = false := decide_eq_false (by omega)
   go_enter Tryz.func108, Tryz.ntmps108
   go_wp2
   go_ret2
   rw [HDD.out]
   refine ⟨?_, Below.refl _ _⟩
   refine congrArg Ending.returned (congrArg Value.tuple ?_)
   refine congrArg (fun v => #[Value.int .i32 v, Value.int .i64 1]) ?_
   by_cases ho : x % 2 = 1
   · rw [mask_odd x ho, high_odd _ hl0, if_pos ho]; rfl
   · rw [mask_even x ho, high_even _ hl0, if_neg ho]
 · have hd : decT T s = if s.size < T.first (byte s 0) % 8 then (65533, 1)
    else if byte s 1 < T.lo (T.first (byte s 0) / 16) ∨ T.hi (T.first (byte s 0) / 16) < byte s 1 then (65533, 1)
    else if T.first (byte s 0) % 8 ≤ 2 then (byte s 0 % 32 * 64 + byte s 1 % 64, 2)
    else if byte s 2 < 128 ∨ 191 < byte s 2 then (65533, 1)
    else if T.first (byte s 0) % 8 ≤ 3 then (byte s 0 % 16 * 4096 + byte s 1 % 64 * 64 + byte s 2 % 64, 3)
    else if byte s 3 < 128 ∨ 191 < byte s 3 then (65533, 1)
    else (byte s 0 % 8 * 262144 + byte s 1 % 64 * 4096 + byte s 2 % 64 * 64 + byte s 3 % 64, 4) := by
    unfold decT; simp only; rw [if_neg h240]
   have hlo8 := T.lo8 (T.first (byte s 0) / 16)
   have hhi8 := T.hi8 (T.first (byte s 0) / 16)
   generalize T.lo (T.first (byte s 0) / 16) = lo at *
   generalize T.hi (T.first (byte s 0) / 16) = hi at *
   generalize hxx : T.first (byte s 0) = x at *
   have HDD := Aside0.mk hd
   clear hd HD hT hxx
   have hge : decide ((240 : Int) ≤ (x : Int)) = false := decide_eq_false (by omega)
   have hne : decide ((s.size : Int) < 1) = false := decide_eq_false (by omega)
   go_enter Tryz.func108, Tryz.ntmps108
   go_wp2
   all_goals
    go_ret2
    rw [HDD.out]
    clear hb0 hb1 HDD hlo hhi hc
    (try simp only [byte_at] at *)
    repeat (first | rw [if_pos (by omega)] | rw [if_neg (by omega)])
    refine ⟨two_eq ?_ ?_, ?_⟩
   all_goals first | rfl | (exact (Below.refl _ _).alloc (Nat.le_refl _) _) | (simp; done) | (simp; omega)

/-- What DecodeRuneInString tells of a text that is not empty. -/
def decA (T : Utabs) (s : ByteArray) : Nat × Nat := if byte s 0 < 128 then (byte s 0, 1) else decT T s

theorem decT_bounds (T : Utabs) (s : ByteArray) (h2 : 2 ≤ s.size) : (decT T s).1 ≤ 2147483647 ∧ 1 ≤ (decT T s).2 ∧ (decT T s).2 ≤ s.size := by
 have h0 := byte_lt s 0; have h1 := byte_lt s 1; have h2 := byte_lt s 2; have h3 := byte_lt s 3
 unfold decT
 simp only
 repeat' split
 all_goals simp only
 all_goals omega
theorem decA_bounds (T : Utabs) (s : ByteArray) (h : 0 < s.size) (h2 : byte s 0 < 128 ∨ 2 ≤ s.size) : (decA T s).1 ≤ 2147483647 ∧ 1 ≤ (decA T s).2 ∧ (decA T s).2 ≤ s.size := by
 unfold decA
 by_cases h0 : byte s 0 < 128
 · rw [if_pos h0]; simp only; omega
 · rw [if_neg h0]; exact decT_bounds T s (by omega)

/-- A text all of whose runes may stand in a name: what is decoded and may stand in a name is the rune, with its own width. -/
theorem decA_name (T : Utabs) {s : ByteArray} (h : 0 < s.size) (hn : Nm.AllName s) (hr : Nm.nameRune (decA T s).1 = true) : Nm.AllName (s.extract (decA T s).2 s.size) := by
 have hf : Nm.nameRune (Utf8.decode s 0).1 = true := hn _ (by rw [Nm.runes_first h]; exact List.mem_cons_self)
 have hrest : Nm.AllName (s.extract (Utf8.decode s 0).2 s.size) := by
  intro r hm
  rw [Nm.runes_extract] at hm
  exact hn r (by rw [Nm.runes_first h]; exact List.mem_cons_of_mem _ hm)
 rcases Nm.decode_first h hf with ⟨h0, hd⟩ | ⟨h2, hd, hb⟩
 · have : (decA T s).2 = (Utf8.decode s 0).2 := by unfold decA; rw [if_pos h0, hd]
   rw [this]
   exact hrest
 · have hne : ¬ byte s 0 < 128 := by omega
   have : (decA T s).2 = 2 := by
    unfold decA at hr ⊢
    rw [if_neg hne] at hr ⊢
    have h1 := byte_lt s 1; have h3 := byte_lt s 2; have h4 := byte_lt s 3
    rw [Nm.nameRune_iff] at hr
    unfold decT at hr ⊢
    simp only at hr ⊢
    repeat' split
    all_goals rename_i hcs
    all_goals simp_all
    all_goals omega
   rw [this, ← hd]
   exact hrest
theorem first_two {s : ByteArray} (h : 0 < s.size) (hn : Nm.AllName s) : byte s 0 < 128 ∨ 2 ≤ s.size := by
 have hf : Nm.nameRune (Utf8.decode s 0).1 = true := hn _ (by rw [Nm.runes_first h]; exact List.mem_cons_self)
 rcases Nm.decode_first h hf with ⟨h0, _⟩ | ⟨h2, _⟩
 · exact Or.inl h0
 · exact Or.inr h2

set_option maxHeartbeats 1000000 in
set_option maxRecDepth 100000 in
theorem dec_calls (T : Utabs) (s : ByteArray) (w : World) (hT : TabsRaw T w) (h : 0 < s.size) (h2 : byte s 0 < 128 ∨ 2 ≤ s.size) (hs : s.size ≤ 9000000000000000000) :
 Calls Tryz.prog 105 #[.string s] w fun e w' => e = .returned (.tuple #[.int .i32 (decA T s).1, .int .i64 (decA T s).2]) ∧ Below w.heap.size w w' := by
 have hb0 := byte_at s 0 h
 have hne : s.toList.isEmpty = false := by
  rw [ByteArray.toList_eq]
  cases hc : s.data.toList with
  | nil =>
   have : s.data.toList.length = s.size := by simp
   rw [hc] at this
   simp at this
   omega
  | cons a b => rfl
 by_cases h0 : byte s 0 < 128
 · have hd : decA T s = (byte s 0, 1) := by unfold decA; rw [if_pos h0]
   have HD := Aside0.mk hd
   clear hd hT
   go_enter Tryz.func105, Tryz.ntmps105
   go_wp2
   all_goals
    go_ret2
    rw [HD.out]
    exact ⟨rfl, Below.refl _ _⟩
 · have hd : decA T s = decT T s := by unfold decA; rw [if_neg h0]
   have HS := slow_calls T s w hT (by omega) hs
   have HD := Aside0.mk hd
   clear hd hT
   go_enter Tryz.func105, Tryz.ntmps105
   go_wp2_with (go_at_call 108; refine HS.mono ?_; rintro e w1 ⟨rfl, hb⟩)
   all_goals
    go_ret2
    rw [HD.out]
    exact ⟨rfl, hb⟩

end Go.Proofs.YthlgcibckakhbaaGreatDoor.CmpWalk

/- name.Compare over tables of whatever content: the walk, by hand. -/
namespace Go.Proofs.YthlgcibckakhbaaGreatDoor.Cmp2
open Go.Proofs.YthlgcibckakhbaaGreatDoor.Nm (byte byte_lt byte_at)
open Go.RowKit Go.IntWalk Go.Proofs.YthlgcibckakhbaaGreatDoorW.PrintWords Go.Proofs.YthlgcibckakhbaaGreatDoorW.PrintMore Go.Proofs.YthlgcibckakhbaaGreatDoor.CmpWalk

/-- name.Compare, as the tables have it. -/
def cmpF (T : Utabs) : List Int → ByteArray → Int
 | [], b => if b.size = 0 then 0 else -1
 | x :: l, b => if b.size = 0 then 1 else if x < (decA T b).1 then -1 else if ((decA T b).1 : Int) < x then 1 else cmpF T l (b.extract (decA T b).2 b.size)

theorem empty_size {s : ByteArray} (h : s.size = 0) : s.toList.isEmpty = true := by
 rw [ByteArray.toList_eq]
 have : s.data.toList.length = s.size := by simp
 rw [h] at this
 rw [List.eq_nil_of_length_eq_zero this]
 rfl
theorem some_size {s : ByteArray} (h : ¬ s.size = 0) : s.toList.isEmpty = false := by
 rw [ByteArray.toList_eq]
 cases hc : s.data.toList with
 | nil =>
  have : s.data.toList.length = s.size := by simp
  rw [hc] at this
  simp at this
  omega
 | cons a b => rfl

theorem tabs_below {T : Utabs} {w w1 : World} (h : TabsRaw T w) (hb : Below w.heap.size w w1) : TabsRaw T w1 :=
 ⟨fun i hi => (hb.cell (World.block_lt_of_cell? w _ (h.first i hi))).trans (h.first i hi), fun i hi => (hb.cell (World.block_lt_of_cell? w _ (h.lo i hi))).trans (h.lo i hi), fun i hi => (hb.cell (World.block_lt_of_cell? w _ (h.hi i hi))).trans (h.hi i hi)⟩

/-- What holds at the loop's head. -/
def Head (T : Utabs) (w : World) (a b : ByteArray) (v1 : Value) (wr : World) : Prop :=
 ∃ (pos : Nat) (c : ByteArray), v1 = .string c ∧ wr.heap[w.heap.size]? = some (.stringIter a pos) ∧ Below w.heap.size w wr ∧ c.size ≤ b.size ∧ Nm.AllName c ∧ (∀ r ∈ Nm.from_ a pos, Nm.nameRune r = true) ∧ cmpF T (Nm.runes a) b = cmpF T (Nm.from_ a pos) c

set_option maxHeartbeats 2000000 in
set_option maxRecDepth 100000 in
theorem cmp_calls (T : Utabs) (a b : ByteArray) (w : World) (hT : TabsRaw T w) (ha : Nm.AllName a) (hb : Nm.AllName b) (hsb : b.size ≤ 9000000000000000000) :
 Calls Tryz.prog 94 #[.string a, .string b] w fun e w' => e = .returned (.int .i64 (cmpF T (Nm.runes a) b)) ∧ Below w.heap.size w w' := by
 have HT := Aside0.mk hT
 have HA := Aside0.mk ha
 have HNB := Aside0.mk hb
 have HSB := Aside0.mk hsb
 clear hT ha hb hsb
 go_enter Tryz.func94, Tryz.ntmps94
 go_wp2
 go_loopw [1] (fun v1 wr => Head T w a b v1 wr) (fun _ wr => a.size - wr.iterPos w.heap.size)
 case atStart => exact ⟨0, b, rfl, World.iter_heap w a 0, (Below.refl _ _).alloc (Nat.le_refl _) _, Nat.le_refl _, HNB.out, HA.out, by rw [Nm.from_zero]⟩
 case round =>
  obtain ⟨pos, c, rfl, hit, hB, hsz, hn, hfr, hc⟩ := hrel
  have hpos0 := iterPos_of hit
  have HB := Aside0.mk hB
  have HC := Aside0.mk hc
  have HN := Aside0.mk hn
  have HFR := Aside0.mk hfr
  clear hfr
  have HIT := Aside0.mk hit
  clear hc hn hB
  by_cases hlt : pos < a.size
  · have hnext := fun ty => Lib.run_next_any_at (P := Tryz.prog) wr w.heap.size a pos ty hit hlt
    have hle := decode_le a pos
    have hposd := Nm.decode_pos a pos
    have hrun := Nm.from_step a pos hlt
    clear hit hpos0
    have hdn : Nm.nameRune ((Utf8.decode a pos).1 : Int) = true := by
     have hall : ∀ r ∈ Nm.from_ a pos, Nm.nameRune r = true := HFR.out
     exact hall _ (by rw [hrun]; exact List.mem_cons_self)
    have hrest : ∀ r ∈ Nm.from_ a (pos + (Utf8.decode a pos).2), Nm.nameRune r = true := by
     intro r hr
     exact HFR.out r (by rw [hrun]; exact List.mem_cons_of_mem _ hr)
    have HREST := Aside0.mk hrest
    clear hrest
    generalize (Utf8.decode a pos).1 = x at *
    generalize (Utf8.decode a pos).2 = d at *
    have hbelow : ∀ p, Below w.heap.size w (wr.iterAt w.heap.size a p) := fun p => Lib.below_iterAt HB.out (Nat.le_refl _) a p
    have HBW := Aside0.mk hbelow
    have hit2 := Lib.iterAt_heap wr w.heap.size a pos (pos + d) HIT.out
    have HIT2 := Aside0.mk hit2
    clear hbelow hit2
    by_cases hz : c.size = 0
    · have hz0 := empty_size hz
      have hfin : cmpF T (Nm.from_ a pos) c = 1 := by rw [hrun, cmpF, if_pos hz]
      have HF := Aside0.mk hfin
      clear hfin hrun hz
      go_wp2
      go_ret
      rw [HC.out, HF.out]
      exact ⟨rfl, HBW.out _⟩
    · have hz0 := some_size hz
      have hcp : 0 < c.size := by omega
      have h2 := first_two hcp HN.out
      have hbd := decA_bounds T c hcp h2
      have hstep := decA_name T hcp HN.out
      have HDEC := fun W (hW : TabsRaw T W) => dec_calls T c W hW hcp h2 (Nat.le_trans hsz HSB.out)
      have hfin : cmpF T (Nm.from_ a pos) c = if (x : Int) < (decA T c).1 then -1 else if ((decA T c).1 : Int) < (x : Int) then 1 else cmpF T (Nm.from_ a (pos + d)) (c.extract (decA T c).2 c.size) := by rw [hrun, cmpF, if_neg hz]
      have hext : (c.extract (decA T c).2 c.size).size ≤ b.size := by rw [ByteArray.size_extract]; omega
      have HF := Aside0.mk hfin
      have HST := Aside0.mk hstep
      have HEX := Aside0.mk hext
      clear hfin hrun hz h2 hstep hext
      generalize hy : (decA T c).1 = y at *
      generalize hq : (decA T c).2 = q at *
      clear hy hq
      by_cases hlt1 : (x : Int) < (y : Int)
      · have hl1 : decide (x < y) = true := decide_eq_true (by omega)
        go_wp2_with (go_at_call 105; refine (HDEC _ (tabs_below HT.out (HBW.out _))).mono ?_; rintro e w1 ⟨rfl, hb1⟩)
        go_ret
        rw [HC.out, HF.out, if_pos hlt1]
        exact ⟨rfl, (HBW.out _).trans (hb1.mono (HBW.out _).size)⟩
      · have hl1 : decide (x < y) = false := decide_eq_false (by omega)
        by_cases hlt2 : (y : Int) < (x : Int)
        · have hl2 : decide (y < x) = true := decide_eq_true (by omega)
          go_wp2_with (go_at_call 105; refine (HDEC _ (tabs_below HT.out (HBW.out _))).mono ?_; rintro e w1 ⟨rfl, hb1⟩)
          go_ret
          rw [HC.out, HF.out, if_neg (by omega), if_pos (by omega)]
          exact ⟨rfl, (HBW.out _).trans (hb1.mono (HBW.out _).size)⟩
        · have hl2 : decide (y < x) = false := decide_eq_false (by omega)
          have hxy : x = y := by omega
          have HXY := Aside0.mk hxy
          clear hxy
          go_wp2_with (go_at_call 105; refine (HDEC _ (tabs_below HT.out (HBW.out _))).mono ?_; rintro e w1 ⟨rfl, hb1⟩)
          have hkeep : w1.heap[w.heap.size]? = some (.stringIter a (pos + d)) := (hb1.block _ (Array.getElem?_eq_some_iff.1 HIT2.out).1).trans HIT2.out
          go_roundw
          case rel =>
           refine ⟨pos + d, c.extract q c.size, rfl, hkeep, (HBW.out _).trans (hb1.mono (HBW.out _).size), HEX.out, HST.out (by rw [← HXY.out]; exact hdn), HREST.out, ?_⟩
           rw [HC.out, HF.out, if_neg (by omega), if_neg (by omega)]
          case measure => rw [iterPos_of hkeep, iterPos_of HIT.out]; omega
  · have hnext := fun ty => Lib.run_next_end_at (P := Tryz.prog) wr w.heap.size a pos ty hit hlt
    have hend := Nm.from_end a pos (by omega)
    by_cases hz : c.size = 0
    · have hz0 := empty_size hz
      have hfin : cmpF T (Nm.from_ a pos) c = 0 := by rw [hend, cmpF, if_pos hz]
      have HF := Aside0.mk hfin
      clear hfin hend hz hit hpos0
      go_wp2
      go_ret
      rw [HC.out, HF.out]
      exact ⟨rfl, HB.out⟩
    · have hz0 := some_size hz
      have hfin : cmpF T (Nm.from_ a pos) c = -1 := by rw [hend, cmpF, if_neg hz]
      have HF := Aside0.mk hfin
      clear hfin hend hz hit hpos0
      go_wp2
      go_ret
      rw [HC.out, HF.out]
      exact ⟨rfl, HB.out⟩
end Go.Proofs.YthlgcibckakhbaaGreatDoor.Cmp2

/- name.Compare, name.Owner over the tables as they are laid: the walks, by hand. -/
namespace Go.Proofs.YthlgcibckakhbaaGreatDoor.PlName
open Go.RowKit Go.IntWalk Go.Proofs.YthlgcibckakhbaaGreatDoorW.PrintWords Go.Proofs.YthlgcibckakhbaaGreatDoorW.PrintMore Go.Proofs.YthlgcibckakhbaaGreatDoor.CmpWalk Go.Proofs.YthlgcibckakhbaaGreatDoor.Cmp2

/-- Which list of runes comes first. -/
def cmpR : List Int → List Int → Int
 | [], [] => 0
 | [], _ :: _ => -1
 | _ :: _, [] => 1
 | x :: l, y :: m => if x < y then -1 else if y < x then 1 else cmpR l m
def cmp (a b : ByteArray) : Int := cmpR (Nm.runes a) (Nm.runes b)
def sumR : List Int → Int
 | [] => 0
 | x :: l => x + sumR l
/-- Whose key a text is. -/
def owner (s : ByteArray) : Int := sumR (Nm.runes s) % 4
abbrev TabsAt (w : World) : Prop := Lib.Utf8Tabs 0 1 w
theorem tabs_on {w w1 : World} (h : TabsAt w) (hb : Below w.heap.size w w1) : TabsAt w1 :=
 ⟨fun c hc => (hb.cell (World.block_lt_of_cell? w _ (h.1 c hc))).trans (h.1 c hc), fun i hi => ⟨(hb.cell (World.block_lt_of_cell? w _ (h.2 i hi).1)).trans (h.2 i hi).1, (hb.cell (World.block_lt_of_cell? w _ (h.2 i hi).2)).trans (h.2 i hi).2⟩⟩
theorem runes_cons {c : ByteArray} (h : 0 < c.size) : Nm.runes c = ((Utf8.decode c 0).1 : Int) :: Nm.runes (c.extract (Utf8.decode c 0).2 c.size) := by
 rw [Nm.runes_extract]
 exact Nm.runes_first h
theorem runes_nil {c : ByteArray} (h : c.size = 0) : Nm.runes c = [] := by
 rw [← Nm.from_zero, Nm.from_end c 0 (by omega)]
theorem dec_calls (c : ByteArray) (w : World) (hT : TabsAt w) (h : 0 < c.size) : Calls Tryz.prog 105 #[.string c] w fun e w' => e = .returned (.tuple #[.int .i32 (Utf8.decode c 0).1, .int .i64 (Utf8.decode c 0).2]) ∧ Below w.heap.size w w' := by
 have h1 := Tryz.utf8_DecodeRuneInString c w hT
 unfold Lib.decodeGo at h1
 rw [if_neg (by omega)] at h1
 exact h1
theorem dec_le {c : ByteArray} (h : 0 < c.size) : (Utf8.decode c 0).2 ≤ c.size := by
 simp only [Utf8.decode]
 repeat' split
 all_goals simp_all
 all_goals omega
def Head (w : World) (a b : ByteArray) (v1 : Value) (wr : World) : Prop :=
 ∃ (pos : Nat) (c : ByteArray), v1 = .string c ∧ wr.heap[w.heap.size]? = some (.stringIter a pos) ∧ Below w.heap.size w wr ∧ c.size ≤ b.size ∧ cmp a b = cmpR (Nm.from_ a pos) (Nm.runes c)

set_option maxHeartbeats 2000000 in
set_option maxRecDepth 100000 in
theorem cmp_calls (a b : ByteArray) (w : World) (hT : TabsAt w) (hsb : b.size ≤ 9000000000000000000) :
 Calls Tryz.prog 94 #[.string a, .string b] w fun e w' => e = .returned (.int .i64 (cmp a b)) ∧ Below w.heap.size w w' := by
 have HT := Aside0.mk hT
 have HSB := Aside0.mk hsb
 clear hT hsb
 go_enter Tryz.func94, Tryz.ntmps94
 go_wp2
 go_loopw [1] (fun v1 wr => Head w a b v1 wr) (fun _ wr => a.size - wr.iterPos w.heap.size)
 case atStart => exact ⟨0, b, rfl, World.iter_heap w a 0, (Below.refl _ _).alloc (Nat.le_refl _) _, Nat.le_refl _, by rw [Nm.from_zero]; rfl⟩
 case round =>
  obtain ⟨pos, c, rfl, hit, hB, hsz, hc⟩ := hrel
  have hpos0 := iterPos_of hit
  have HB := Aside0.mk hB
  have HC := Aside0.mk hc
  have HIT := Aside0.mk hit
  clear hc hB
  by_cases hlt : pos < a.size
  · have hnext := fun ty => Lib.run_next_any_at (P := Tryz.prog) wr w.heap.size a pos ty hit hlt
    have hle := decode_le a pos
    have hposd := Nm.decode_pos a pos
    have hrun := Nm.from_step a pos hlt
    clear hit hpos0
    generalize (Utf8.decode a pos).1 = x at *
    generalize (Utf8.decode a pos).2 = d at *
    have hbelow : ∀ p, Below w.heap.size w (wr.iterAt w.heap.size a p) := fun p => Lib.below_iterAt HB.out (Nat.le_refl _) a p
    have HBW := Aside0.mk hbelow
    have hit2 := Lib.iterAt_heap wr w.heap.size a pos (pos + d) HIT.out
    have HIT2 := Aside0.mk hit2
    clear hbelow hit2
    by_cases hz : c.size = 0
    · have hz0 := empty_size hz
      have hfin : cmpR (Nm.from_ a pos) (Nm.runes c) = 1 := by rw [hrun, runes_nil hz]; rfl
      have HF := Aside0.mk hfin
      clear hfin hrun hz
      go_wp2
      go_ret
      rw [HC.out, HF.out]
      exact ⟨rfl, HBW.out _⟩
    · have hz0 := some_size hz
      have hcp : 0 < c.size := by omega
      have hbd := decode_le c 0
      have hb2 := dec_le hcp
      have hb1 := Nm.decode_pos c 0
      have HDEC := fun W (hW : TabsAt W) => dec_calls c W hW hcp
      have hfin : cmpR (Nm.from_ a pos) (Nm.runes c) = if (x : Int) < ((Utf8.decode c 0).1 : Int) then -1 else if ((Utf8.decode c 0).1 : Int) < (x : Int) then 1 else cmpR (Nm.from_ a (pos + d)) (Nm.runes (c.extract (Utf8.decode c 0).2 c.size)) := by rw [hrun, runes_cons hcp]; rfl
      have hext : (c.extract (Utf8.decode c 0).2 c.size).size ≤ b.size := by rw [ByteArray.size_extract]; omega
      have HF := Aside0.mk hfin
      have HEX := Aside0.mk hext
      clear hfin hrun hz hext
      generalize hy : (Utf8.decode c 0).1 = y at *
      generalize hq : (Utf8.decode c 0).2 = q at *
      clear hy hq
      by_cases hlt1 : (x : Int) < (y : Int)
      · have hl1 : decide (x < y) = true := decide_eq_true (by omega)
        go_wp2_with (go_at_call 105; refine (HDEC _ (tabs_on HT.out (HBW.out _))).mono ?_; rintro e w1 ⟨rfl, hb1⟩)
        go_ret
        rw [HC.out, HF.out, if_pos hlt1]
        exact ⟨rfl, (HBW.out _).trans (hb1.mono (HBW.out _).size)⟩
      · have hl1 : decide (x < y) = false := decide_eq_false (by omega)
        by_cases hlt2 : (y : Int) < (x : Int)
        · have hl2 : decide (y < x) = true := decide_eq_true (by omega)
          go_wp2_with (go_at_call 105; refine (HDEC _ (tabs_on HT.out (HBW.out _))).mono ?_; rintro e w1 ⟨rfl, hb1⟩)
          go_ret
          rw [HC.out, HF.out, if_neg (by omega), if_pos (by omega)]
          exact ⟨rfl, (HBW.out _).trans (hb1.mono (HBW.out _).size)⟩
        · have hl2 : decide (y < x) = false := decide_eq_false (by omega)
          go_wp2_with (go_at_call 105; refine (HDEC _ (tabs_on HT.out (HBW.out _))).mono ?_; rintro e w1 ⟨rfl, hb1⟩)
          have hkeep : w1.heap[w.heap.size]? = some (.stringIter a (pos + d)) := (hb1.block _ (Array.getElem?_eq_some_iff.1 HIT2.out).1).trans HIT2.out
          go_roundw
          case rel =>
           refine ⟨pos + d, c.extract q c.size, rfl, hkeep, (HBW.out _).trans (hb1.mono (HBW.out _).size), HEX.out, ?_⟩
           rw [HC.out, HF.out, if_neg (by omega), if_neg (by omega)]
          case measure => rw [iterPos_of hkeep, iterPos_of HIT.out]; omega
  · have hnext := fun ty => Lib.run_next_end_at (P := Tryz.prog) wr w.heap.size a pos ty hit hlt
    have hend := Nm.from_end a pos (by omega)
    by_cases hz : c.size = 0
    · have hz0 := empty_size hz
      have hfin : cmpR (Nm.from_ a pos) (Nm.runes c) = 0 := by rw [hend, runes_nil hz]; rfl
      have HF := Aside0.mk hfin
      clear hfin hend hz hit hpos0
      go_wp2
      go_ret
      rw [HC.out, HF.out]
      exact ⟨rfl, HB.out⟩
    · have hz0 := some_size hz
      have hfin : cmpR (Nm.from_ a pos) (Nm.runes c) = -1 := by rw [hend, runes_cons (by omega)]; rfl
      have HF := Aside0.mk hfin
      clear hfin hend hz hit hpos0
      go_wp2
      go_ret
      rw [HC.out, HF.out]
      exact ⟨rfl, HB.out⟩

/-- A name's runes are few, and so is their sum. -/
theorem isGo_few : ∀ (l : List Int) (n : Nat), Nm.isGo l n = true → l.length + n ≤ 8
 | [], n, h => by
  simp [Nm.isGo] at h
  simp
  omega
 | r :: l, n, h => by
  simp only [Nm.isGo, Bool.and_eq_true] at h
  have := isGo_few l (n + 1) h.2
  simp only [List.length_cons]
  omega
theorem sum_name : ∀ (l : List Int), (∀ r ∈ l, Nm.nameRune r = true) → 0 ≤ sumR l ∧ sumR l ≤ 1000 * l.length
 | [], _ => by simp [sumR]
 | x :: l, h => by
  have h1 := sum_name l (fun r hr => h r (List.mem_cons_of_mem _ hr))
  have h2 := (Nm.nameRune_iff x).1 (h x List.mem_cons_self)
  simp only [sumR, List.length_cons]
  omega
def HeadO (w : World) (a : ByteArray) (v3 : Value) (wr : World) : Prop :=
 ∃ (pos : Nat) (n : Int), v3 = .int .i64 n ∧ wr.heap[w.heap.size]? = some (.stringIter a pos) ∧ Below w.heap.size w wr ∧ 0 ≤ n ∧ (∀ r ∈ Nm.from_ a pos, Nm.nameRune r = true) ∧ n + sumR (Nm.from_ a pos) = sumR (Nm.runes a)
set_option maxHeartbeats 2000000 in
set_option maxRecDepth 100000 in
theorem owner_calls (a : ByteArray) (w : World) (hn : Nm.isName a = true) :
 Calls Tryz.prog 93 #[.string a] w fun e w' => e = .returned (.int .i64 (owner a)) ∧ Below w.heap.size w w' := by
 have hall := Nm.isName_all hn
 have hfew := isGo_few _ _ hn
 have htot : sumR (Nm.runes a) ≤ 8000 := by have := (sum_name _ hall).2; omega
 have HALL := Aside0.mk hall
 have HTOT := Aside0.mk htot
 clear hall hfew htot hn
 go_enter Tryz.func93, Tryz.ntmps93
 go_wp2
 go_loopw [3] (fun v3 wr => HeadO w a v3 wr) (fun _ wr => a.size - wr.iterPos w.heap.size)
 case atStart => exact ⟨0, 0, rfl, World.iter_heap w a 0, (Below.refl _ _).alloc (Nat.le_refl _) _, Int.le_refl _, HALL.out, by rw [Nm.from_zero]; omega⟩
 case round =>
  obtain ⟨pos, n, rfl, hit, hB, h0, hfr, hc⟩ := hrel
  have hpos0 := iterPos_of hit
  have HB := Aside0.mk hB
  have HC := Aside0.mk hc
  have HFR := Aside0.mk hfr
  have HIT := Aside0.mk hit
  have hbig : n + sumR (Nm.from_ a pos) ≤ 8000 := by have := HTOT.out; omega
  have hpos := (sum_name _ hfr).1
  clear hc hB hfr
  by_cases hlt : pos < a.size
  · have hnext := fun ty => Lib.run_next_any_at (P := Tryz.prog) wr w.heap.size a pos ty hit hlt
    have hposd := Nm.decode_pos a pos
    have hrun := Nm.from_step a pos hlt
    have hrest : ∀ r ∈ Nm.from_ a (pos + (Utf8.decode a pos).2), Nm.nameRune r = true := fun r hr => HFR.out r (by rw [hrun]; exact List.mem_cons_of_mem _ hr)
    have hx := (Nm.nameRune_iff _).1 (HFR.out ((Utf8.decode a pos).1 : Int) (by rw [hrun]; exact List.mem_cons_self))
    have hp2 := (sum_name _ hrest).1
    have HREST := Aside0.mk hrest
    rw [hrun, sumR] at hbig
    clear hit hpos0 hrest
    generalize (Utf8.decode a pos).1 = x at *
    generalize (Utf8.decode a pos).2 = d at *
    have hx8 : n + (x : Int) ≤ 8000 := by omega
    have hx0 : (x : Int) ≤ 1000 := by omega
    have HBW : Aside0 (∀ p, Below w.heap.size w (wr.iterAt w.heap.size a p)) := ⟨fun p => Lib.below_iterAt HB.out (Nat.le_refl _) a p⟩
    have HIT2 := Aside0.mk (Lib.iterAt_heap wr w.heap.size a pos (pos + d) HIT.out)
    have HRUN := Aside0.mk hrun
    clear hrun hx hp2 hbig hpos
    go_wp2
    go_roundw
    case rel => exact ⟨pos + d, n + x, rfl, HIT2.out, HBW.out _, by omega, HREST.out, by have := HC.out; rw [HRUN.out, sumR] at this; omega⟩
    case measure => rw [iterPos_of HIT2.out, iterPos_of HIT.out]; omega
  · have hnext := fun ty => Lib.run_next_end_at (P := Tryz.prog) wr w.heap.size a pos ty hit hlt
    have hfin : n = sumR (Nm.runes a) := by have := HC.out; rw [Nm.from_end a pos (by omega)] at this; simpa [sumR] using this
    have HF := Aside0.mk hfin
    clear hfin hit hpos0 hbig hpos
    go_wp2
    go_ret
    refine ⟨?_, HB.out⟩
    rw [owner, ← HF.out]
    rfl
end Go.Proofs.YthlgcibckakhbaaGreatDoor.PlName

/- The document's Is, Owner, Compare at names. -/
namespace Go.Proofs.YthlgcibckakhbaaGreatDoor.Pl
open Go.RowKit Go.IntWalk Go.Proofs.YthlgcibckakhbaaGreatDoor.PPlanAheads Go.Proofs.YthlgcibckakhbaaGreatDoorW.PrintWords Go.Proofs.YthlgcibckakhbaaGreatDoor.PlName

theorem isGo_len : ∀ (l : List Int) (n : Nat), Nm.isGo l n = true → l.length + n ≤ 8
 | [], n, h => by
  rw [Nm.isGo, Bool.and_eq_true, decide_eq_true_eq, decide_eq_true_eq] at h
  simp
  exact h.2
 | r :: l, n, h => by
  rw [Nm.isGo, Bool.and_eq_true] at h
  have := isGo_len l (n + 1) h.2
  rw [List.length_cons]
  omega
theorem name_len {s : ByteArray} (h : Nm.isName s = true) : (Nm.runes s).length ≤ 8 := isGo_len _ 0 h
theorem name_pos {r : Int} (h : Nm.nameRune r = true) : 0 ≤ r ∧ r ≤ 969 := by
 have := (Nm.nameRune_iff r).1 h
 omega
theorem runes_loop (s : ByteArray) (hs : s.size ≤ 1000000000000000) : ∀ (m i k : Nat) (acc : List Int), s.size - i = m → (∀ r ∈ Nm.from_ s i, Nm.nameRune r = true) → i ≤ s.size + 4 → acc.length + (Nm.from_ s i).length ≤ 8 → m + 20 < k →
 odysseyref01_Runes.l0 k s acc (i : Int) = some (acc ++ Nm.from_ s i) := by
 intro m
 induction m using Nat.strongRecOn with
 | _ m ih =>
  intro i k acc hm hn hi hl hk
  obtain ⟨k, rfl⟩ : ∃ j, k = j + 1 + 6 := ⟨k - 7, by omega⟩
  rw [show k + 1 + 6 = (k + 6) + 1 from rfl, odysseyref01_Runes.l0]
  by_cases hp : i < s.size
  · rw [if_pos (by omega)]
    have hst := Nm.from_step s i hp
    rw [hst] at hn hl ⊢
    have hd := RefIs.decode_step s i
    have hg := RefIs.next_good s hs i hp k
    have hne : (Utf8.decode s i).1 ≠ 65533 := fun e => by
     have h1 := name_pos (hn _ List.mem_cons_self)
     rw [e] at h1
     omega
    rcases hg with hg | ⟨x, y, hg, he⟩
    · rw [hg, Option.bind_some]
      simp only
      rw [List.length_cons] at hl
      rw [if_pos (by omega)]
      have e2 : wrap64 ((i : Int) + ((Utf8.decode s i).2 : Int)) = ((i + (Utf8.decode s i).2 : Nat) : Int) := by rw [wrap64_in _ (by omega)]; omega
      rw [e2, ih (s.size - (i + (Utf8.decode s i).2)) (by omega) (i + (Utf8.decode s i).2) (k + 6) _ rfl (fun r hr => hn r (List.mem_cons_of_mem _ hr)) (by omega) (by rw [List.length_append]; simp; omega) (by omega)]
      simp
    · exact absurd he hne
  · rw [if_neg (by omega), Nm.from_end s i (by omega), List.append_nil]
theorem runes_eq {s : ByteArray} (hs : s.size ≤ 1000000000000000) (h : Nm.isName s = true) {k : Nat} (hk : s.size + 20 < k) : odysseyref01_Runes.f k s = some (Nm.runes s) := by
 unfold odysseyref01_Runes.f
 have := runes_loop s hs s.size 0 k [] rfl (by rw [Nm.from_zero]; exact Nm.isName_all h) (by omega) (by rw [Nm.from_zero]; have := name_len h; simp; exact this) hk
 rw [Nm.from_zero, show ((0 : Nat) : Int) = 0 from rfl] at this
 exact this
theorem owner_loop (l : List Int) (hl : ∀ r ∈ l, 0 ≤ r ∧ r ≤ 969) (h8 : l.length ≤ 8) : ∀ (m i k : Nat) (n : Int), l.length - i = m → 0 ≤ n → n < 4 → i ≤ l.length → m + 2 < k → odysseyref01_Owner.l0 k l n (i : Int) = some ((n + sumR (l.drop i)) % 4) := by
 intro m
 induction m with
 | zero =>
  intro i k n hm h0 h4 hi hk
  obtain ⟨k, rfl⟩ : ∃ j, k = j + 1 := ⟨k - 1, by omega⟩
  rw [odysseyref01_Owner.l0, if_neg (by omega), List.drop_eq_nil_of_le (by omega), sumR, Int.add_zero, Int.emod_eq_of_lt h0 h4]
 | succ m ih =>
  intro i k n hm h0 h4 hi hk
  obtain ⟨k, rfl⟩ : ∃ j, k = j + 1 := ⟨k - 1, by omega⟩
  have hlt : i < l.length := by omega
  have hx := hl _ (List.getElem_mem hlt)
  have e1 : rd l (i : Int) = l[i] := by
   unfold rd
   rw [Int.toNat_natCast, List.getD_eq_getElem?_getD, List.getElem?_eq_getElem hlt]
   rfl
  rw [odysseyref01_Owner.l0, if_pos (by omega), if_pos (by omega), e1, wrap64_in _ (by omega), wrap64_in _ (by omega), show ((i : Int) + 1) = ((i + 1 : Nat) : Int) by omega]
  have e2 : Int.tmod (n + l[i]) 4 = (n + l[i]) % 4 := Int.tmod_eq_emod_of_nonneg (by omega)
  rw [e2, ih (i + 1) k _ (by omega) (by omega) (by omega) (by omega) (by omega), List.drop_eq_getElem_cons hlt, sumR]
  congr 1
  omega
theorem owner_eq {s : ByteArray} (hs : s.size ≤ 1000000000000000) (h : Nm.isName s = true) {k : Nat} (hk : s.size + 20 < k) : odysseyref01_Owner.f k s = some (owner s) := by
 have h8 := name_len h
 unfold odysseyref01_Owner.f
 rw [runes_eq hs h hk, Option.bind_some]
 have := owner_loop (Nm.runes s) (fun r hr => name_pos (Nm.isName_all h r hr)) h8 (Nm.runes s).length 0 k 0 rfl (by omega) (by omega) (by omega) (by omega)
 rw [show ((0 : Nat) : Int) = 0 from rfl] at this
 rw [this]
 unfold owner
 simp
theorem compare_loop (x y : List Int) (hx : x.length ≤ 8) (hy : y.length ≤ 8) : ∀ (m i k : Nat), x.length - i = m → i ≤ x.length → i ≤ y.length → 2 * m + 4 < k → odysseyref01_Compare.l0 k x y (i : Int) = some (cmpR (x.drop i) (y.drop i)) := by
 intro m
 induction m with
 | zero =>
  intro i k hm hi hj hk
  obtain ⟨k, rfl⟩ : ∃ j, k = j + 1 + 1 := ⟨k - 2, by omega⟩
  rw [odysseyref01_Compare.l0, if_neg (by omega), odysseyref01_Compare.j1, if_neg (by simp), List.drop_eq_nil_of_le (show x.length ≤ i by omega)]
  by_cases h : i < y.length
  · rw [if_pos (by omega), List.drop_eq_getElem_cons h]
    rfl
  · rw [if_neg (by omega), if_neg (by omega), List.drop_eq_nil_of_le (show y.length ≤ i by omega)]
    rfl
 | succ m ih =>
  intro i k hm hi hj hk
  obtain ⟨k, rfl⟩ : ∃ j, k = j + 1 + 1 := ⟨k - 2, by omega⟩
  have hlt : i < x.length := by omega
  have e1 : rd x (i : Int) = x[i] := by
   unfold rd
   rw [Int.toNat_natCast, List.getD_eq_getElem?_getD, List.getElem?_eq_getElem hlt]
   rfl
  rw [odysseyref01_Compare.l0, if_pos (by omega), odysseyref01_Compare.j1, List.drop_eq_getElem_cons hlt]
  by_cases h : i < y.length
  · have e2 : rd y (i : Int) = y[i] := by
     unfold rd
     rw [Int.toNat_natCast, List.getD_eq_getElem?_getD, List.getElem?_eq_getElem h]
     rfl
    rw [if_pos (decide_eq_true (by omega)), if_pos (by omega), if_pos (by omega), if_pos (by omega), e1, e2, List.drop_eq_getElem_cons h, cmpR]
    by_cases h1 : x[i] < y[i]
    · rw [if_pos h1, if_pos h1]
    · rw [if_neg h1, if_neg h1]
      by_cases h2 : y[i] < x[i]
      · rw [if_pos h2, if_pos h2]
      · rw [if_neg h2, if_neg h2, wrap64_in _ (by omega), show ((i : Int) + 1) = ((i + 1 : Nat) : Int) by omega]
        exact ih (i + 1) k (by omega) (by omega) (by omega) (by omega)
  · rw [if_neg (by rw [decide_eq_false (by omega)]; simp), if_neg (by omega), if_pos (by omega), List.drop_eq_nil_of_le (show y.length ≤ i by omega)]
    rfl
theorem compare_eq {a b : ByteArray} (ha : a.size ≤ 1000000000000000) (hb : b.size ≤ 1000000000000000) (hna : Nm.isName a = true) (hnb : Nm.isName b = true) {k : Nat} (hk : a.size + 20 < k) (hk2 : b.size + 20 < k) (hk3 : 40 < k) : odysseyref01_Compare.f k a b = some (cmp a b) := by
 have h8 := name_len hna
 unfold odysseyref01_Compare.f
 rw [runes_eq ha hna hk, Option.bind_some, runes_eq hb hnb hk2, Option.bind_some]
 exact compare_loop _ _ h8 (name_len hnb) _ 0 k rfl (by omega) (by omega) (by omega)

theorem isR_calls (s : ByteArray) (w : World) (hs : s.size ≤ 1000000000000000) : Calls Tryz.prog 56 #[.string s] w fun e w' => e = .returned (.bool (Nm.isName s)) ∧ Below w.heap.size w w' :=
 (odysseyref01_Is.calls (s.size + 21) s _ w (RefIs.is_eq s hs _ (by omega))).mono fun _ _ ⟨he, hd⟩ => ⟨he, hd.below⟩
theorem ownerR_calls (s : ByteArray) (w : World) (hs : s.size ≤ 1000000000000000) (h : Nm.isName s = true) : Calls Tryz.prog 97 #[.string s] w fun e w' => e = .returned (.int .i64 (owner s)) ∧ Below w.heap.size w w' :=
 odysseyref01_Owner.calls (s.size + 21) s _ w (owner_eq hs h (by omega))
theorem compareR_calls (a b : ByteArray) (w : World) (ha : a.size ≤ 1000000000000000) (hb : b.size ≤ 1000000000000000) (hna : Nm.isName a = true) (hnb : Nm.isName b = true) : Calls Tryz.prog 98 #[.string a, .string b] w fun e w' => e = .returned (.int .i64 (cmp a b)) ∧ Below w.heap.size w w' :=
 odysseyref01_Compare.calls (a.size + b.size + 41) a b _ w (compare_eq ha hb hna hnb (by omega) (by omega) (by omega))
end Go.Proofs.YthlgcibckakhbaaGreatDoor.Pl

/- How an argument that came in is read as plain data of a kind: numbers, bools, strings, and slices of these; with the sizes that the form's reach tells. -/
namespace Go.Proofs.YthlgcibckakhbaaGreatDoor.Opening
open Go.ChangeShapes Go.WideShapes Go.RowKit Go.Proofs.YthlgcibckakhbaaGreatDoorW.PrintWords

/-- Whatever reads as data of a type is of the kind, and what the kind's values are bounded by holds. -/
structure Opens {α : Type} (P : Program) (t : TypeId) (d : Kd α) (B : α → Prop) : Prop where
 op : ∀ {H : Type} (enc : TypeId × Value → H) (w : World) (fuel : Nat) (cs : List Value) (x : DataW H × List MemPlace),
  DataW.trod enc P w 0 (fun _ => true) true fuel t cs = some x → (x.1.weights P t).all (· ≤ reachBytes) = true → ∃ a, d.K w a cs ∧ B a

section
variable {P : Program} {t e : TypeId}
theorem opens_int {k : IntKind} (ht : P.underlying t = some (.int k)) : Opens P t (Kd.int k) (fun n => (Lit.int k n).wf = true) :=
 ⟨fun enc w fuel cs x h _ => by
  obtain ⟨n, rfl, _, hw⟩ := DataW.trod_int ht h
  exact ⟨n, rfl, hw⟩⟩
theorem opens_string (ht : P.underlying t = some .string) : Opens P t Kd.string (fun s => s.size ≤ 140737488351232) :=
 ⟨fun enc w fuel cs x h hz => by
  obtain ⟨s, rfl, hx, _⟩ := DataW.trod_string ht h
  refine ⟨s, rfl, ?_⟩
  rw [hx] at hz
  simp only [DataW.weights, List.all_cons, List.all_nil, Bool.and_true, decide_eq_true_eq] at hz
  rw [Array.length_toList] at hz
  exact hz⟩

theorem weights_all {H : Type} {P : Program} {e : TypeId} : ∀ (l : List (DataW H)) (d : DataW H), d ∈ l → ∀ n ∈ d.weights P e, n ∈ DataW.weightsAll P e l
 | [], _, h, _, _ => by simp at h
 | x :: r, d, h, n, hn => by
  simp only [DataW.weightsAll, List.mem_append]
  rcases List.mem_cons.1 h with h | h
  · subst h; exact Or.inl hn
  · exact Or.inr (weights_all r d h n hn)

/-- One list out of what holds at each place. -/
theorem list_of {α : Type} {n : Nat} {R : Nat → α → Prop} (h : ∀ i, i < n → ∃ a, R i a) : ∃ l : List α, l.length = n ∧ ∀ j a, l[j]? = some a → R j a := by
 induction n with
 | zero => exact ⟨[], rfl, fun j a hj => by simp at hj⟩
 | succ n ih =>
  obtain ⟨l, hl, hr⟩ := ih (fun i hi => h i (by omega))
  obtain ⟨a, ha⟩ := h n (by omega)
  refine ⟨l ++ [a], by simp [hl], fun j b hj => ?_⟩
  rcases Nat.lt_or_ge j l.length with hlt | hge
  · rw [List.getElem?_append_left hlt] at hj
    exact hr j b hj
  · have hj2 := (List.getElem?_eq_some_iff.1 hj).1
    rw [List.length_append, List.length_singleton] at hj2
    obtain rfl : j = l.length := by omega
    have : a = b := by simpa using hj
    subst this
    rw [hl]; exact ha

theorem opens_slice {α : Type} {d : Kd α} {B : α → Prop} (ht : P.underlying t = some (.slice e)) (hc : P.cellsOf e = d.sz) (h : Opens P e d B) :
 Opens P t (Kd.slice e d) (fun l => (∀ x ∈ l, B x) ∧ l.length * P.bytesOf e ≤ reachBytes) :=
 ⟨fun {H} enc w fuel cs x hx hz => by
  rcases DataW.trod_slice ht hx with ⟨rfl, _⟩ | ⟨a, len, cap, elems, rest, n, _, rfl, hxe, _, hl, hm, hlen, hel, _, _⟩
  · exact ⟨[], ⟨none, 0, rfl, Nat.le_refl _, rfl, Nat.zero_le _, fun h0 => absurd h0 (Nat.lt_irrefl _)⟩, by simp, by simp⟩
  · rw [hxe] at hz
    simp only [DataW.weights, ht, List.all_cons, Bool.and_eq_true, decide_eq_true_eq, List.all_append] at hz
    obtain ⟨hz0, hz1, _⟩ := hz
    have each : ∀ i, i < len → ∃ y : α, (∃ c, c.length = d.sz ∧ d.K w y c ∧ ∀ j u, c[j]? = some u → w.cell? (a.add (i * d.sz + j)) = some u) ∧ B y := by
     intro i hi
     have h1 := hel i hi
     have hi' : i < elems.length := by omega
     rw [List.getElem?_eq_getElem hi', Option.bind_eq_some_iff] at h1
     obtain ⟨c, h2, h3⟩ := h1
     have hw : (elems[i].1.weights P e).all (· ≤ reachBytes) = true := by
      rw [List.all_eq_true]
      intro m hmm
      exact List.all_eq_true.1 hz1 m (weights_all _ elems[i].1 (List.mem_map.2 ⟨elems[i], List.getElem_mem hi', rfl⟩) m hmm)
     obtain ⟨y, hy, hB⟩ := h.op enc w n c _ h3 hw
     obtain ⟨_, hcl, hcc⟩ := World.cells?_some h2
     rw [hc] at hcl hcc
     refine ⟨y, ⟨c, hcl, hy, fun j u hu => ?_⟩, hB⟩
     have hj : j < d.sz := by have := (List.getElem?_eq_some_iff.1 hu).1; omega
     have := hcc j hj
     rw [Addr.add_add] at this
     rw [this, hu]
    obtain ⟨l, hll, hr⟩ := list_of each
    refine ⟨l, ⟨some a, cap, by rw [hll], by omega, rfl, ?_, fun _ => ⟨a, rfl, fun j p hj => (hr j p hj).1⟩⟩, ?_, ?_⟩
    · have : len ≤ maxLen := Nat.le_trans hl hm
      rw [hll]
      exact this
    · intro y hy
      obtain ⟨j, hj⟩ := List.getElem?_of_mem hy
      exact (hr j y hj).2
    · rw [hll, ← hlen]
      have : elems.length * P.bytesOf e ≤ ((elems.map (·.1)).length + (rest.map (·.1)).length) * P.bytesOf e := Nat.mul_le_mul_right _ (by simp)
      omega⟩
end

section
variable {H : Type} {enc : TypeId × Value → H} {P : Program} {W : World} {t : TypeId} {v : Value} {D : DataW H} {ps : List MemPlace} {ts : List TypeId} {ds : List (DataW H)} {j : Nat}
/-- An argument, read. -/
theorem opened {α : Type} {d : Kd α} {B : α → Prop} (o : Opens P t d B) (hsz : (DataW.weightsEach P ts ds).all (· ≤ reachBytes) = true) (ht : ts[j]? = some t) (hd : ds[j]? = some D)
 (h : DataW.Trod enc P W 0 (fun _ => true) true t v D ps) : ∃ a, d.K W a v.cells.toList ∧ B a := by
 obtain ⟨fuel, hf⟩ := h
 refine o.op enc W fuel _ _ hf ?_
 rw [List.all_eq_true]
 intro n hn
 exact List.all_eq_true.1 hsz n (DataW.weights_mem_each ht hd n hn)
/-- A slice that came in. -/
theorem opened_slice {α : Type} {d : Kd α} {B : List α → Prop} {e : TypeId} {A : Option Addr} {n c : Nat} (o : Opens P t (Kd.slice e d) B) (hsz : (DataW.weightsEach P ts ds).all (· ≤ reachBytes) = true) (ht : ts[j]? = some t) (hd : ds[j]? = some D)
 (h : DataW.Trod enc P W 0 (fun _ => true) true t (.slice A n c) D ps) : ∃ l : List α, l.length = n ∧ n ≤ c ∧ d.C W A l.length l ∧ B l := by
 obtain ⟨l, ⟨A', c', he, hl, hC⟩, hB⟩ := opened o hsz ht hd h
 simp only [Value.cells, List.cons.injEq, Value.slice.injEq, and_true] at he
 obtain ⟨rfl, rfl, rfl⟩ := he
 exact ⟨l, rfl, hl, hC, hB⟩
end
end Go.Proofs.YthlgcibckakhbaaGreatDoor.Opening

/- Arguments that are structs, and slices of structs, read as plain data (out of XOpensK, XLgOps by wip/tools/pick.py). -/
namespace Go.Proofs.YthlgcibckakhbaaGreatDoor.Opening
open Go.ChangeShapes Go.WideShapes Go.RowKit Go.Proofs.YthlgcibckakhbaaGreatDoorW.PrintWords
structure OpensK {α : Type} (P : Program) (t : TypeId) (K : World → α → List Value → Prop) (B : α → Prop) : Prop where
 op : ∀ {H : Type} (enc : TypeId × Value → H) (w : World) (fuel : Nat) (cs : List Value) (x : DataW H × List MemPlace),
  DataW.trod enc P w 0 (fun _ => true) true fuel t cs = some x → (x.1.weights P t).all (· ≤ reachBytes) = true → ∃ a, K w a cs ∧ B a
theorem OpensK.of {α : Type} {P : Program} {t : TypeId} {d : Kd α} {B : α → Prop} (o : Opens P t d B) : OpensK P t d.K B := ⟨o.op⟩
theorem fields {H : Type} {enc : TypeId × Value → H} {P : Program} {t : TypeId} {fs : Array Field} {w : World} {fuel : Nat} {cs : List Value} {x : DataW H × List MemPlace} (ht : P.underlying t = some (.struct fs))
 (h : DataW.trod enc P w 0 (fun _ => true) true fuel t cs = some x) (hz : (x.1.weights P t).all (· ≤ reachBytes) = true) :
 cs.length = P.cellsOf t ∧ ∀ (i : Nat) (f : Field), fs[i]? = some f → ∀ {α : Type} {K : World → α → List Value → Prop} {B : α → Prop}, OpensK P f.type K B → ∃ a, K w a ((cs.drop f.offset).take (P.cellsOf f.type)) ∧ B a := by
 obtain ⟨xs, n, rfl, rfl, hl, hlen, hf⟩ := DataW.trod_struct ht h
 refine ⟨hl, fun i f hi {α K B} o => ?_⟩
 have h1 := hf i f hi
 have hlt : i < xs.length := by have := (Array.getElem?_eq_some_iff.1 hi).1; omega
 rw [List.getElem?_eq_getElem hlt] at h1
 refine o.op enc w n _ _ h1 ?_
 rw [List.all_eq_true] at hz ⊢
 intro m hm
 refine hz m ?_
 simp only [DataW.weights, ht]
 exact DataW.weights_mem_each (j := i) (by simp [hi]) (by simp [List.getElem?_map, List.getElem?_eq_getElem hlt]) m hm
theorem cons_len {cs : List Value} {n : Nat} (h : cs.length = n + 1) : ∃ c r, cs = c :: r ∧ r.length = n := by
 cases cs with
 | nil => cases h
 | cons c r => exact ⟨c, r, rfl, by simpa using h⟩
theorem openedK {H : Type} {enc : TypeId × Value → H} {P : Program} {W : World} {t : TypeId} {v : Value} {D : DataW H} {ps : List MemPlace} {ts : List TypeId} {ds : List (DataW H)} {j : Nat}
 {α : Type} {K : World → α → List Value → Prop} {B : α → Prop} (o : OpensK P t K B) (hsz : (DataW.weightsEach P ts ds).all (· ≤ reachBytes) = true) (ht : ts[j]? = some t) (hd : ds[j]? = some D)
 (h : DataW.Trod enc P W 0 (fun _ => true) true t v D ps) : ∃ a, K W a v.cells.toList ∧ B a := by
 obtain ⟨fuel, hf⟩ := h
 refine o.op enc W fuel _ _ hf ?_
 rw [List.all_eq_true]
 intro n hn
 exact List.all_eq_true.1 hsz n (DataW.weights_mem_each ht hd n hn)
/-- A row of elements, each told by its cells. -/
def RowsK {α : Type} (K : World → α → List Value → Prop) (sz : Nat) (W : World) (A : Option Addr) (l : List α) : Prop :=
 ∀ (i : Nat) (x : α), l[i]? = some x → ∃ ad, A = some ad ∧ ∃ cs, cs.length = sz ∧ K W x cs ∧ ∀ j u, cs[j]? = some u → W.cell? (ad.add (i * sz + j)) = some u
theorem opensK_slice {α : Type} {K : World → α → List Value → Prop} {B : α → Prop} {P : Program} {t e : TypeId} {sz : Nat} (ht : P.underlying t = some (.slice e)) (hc : P.cellsOf e = sz) (h : OpensK P e K B)
 {H : Type} {enc : TypeId × Value → H} {w : World} {fuel : Nat} {cs : List Value} {x : DataW H × List MemPlace} (hx : DataW.trod enc P w 0 (fun _ => true) true fuel t cs = some x) (hz : (x.1.weights P t).all (· ≤ reachBytes) = true) :
 ∃ (A : Option Addr) (c : Nat) (l : List α), cs = [.slice A l.length c] ∧ l.length ≤ c ∧ RowsK K sz w A l ∧ (∀ y ∈ l, B y) ∧ l.length * P.bytesOf e ≤ reachBytes := by
 rcases DataW.trod_slice ht hx with ⟨rfl, _⟩ | ⟨a, len, cap, elems, rest, n, _, rfl, hxe, _, hl, hm, hlen, hel, _, _⟩
 · exact ⟨none, 0, [], rfl, Nat.le_refl _, fun i y hy => by simp at hy, by simp, by simp⟩
 · rw [hxe] at hz
   simp only [DataW.weights, ht, List.all_cons, Bool.and_eq_true, decide_eq_true_eq, List.all_append] at hz
   obtain ⟨hz0, hz1, _⟩ := hz
   have each : ∀ i, i < len → ∃ y : α, (∃ c, c.length = sz ∧ K w y c ∧ ∀ j u, c[j]? = some u → w.cell? (a.add (i * sz + j)) = some u) ∧ B y := by
    intro i hi
    have h1 := hel i hi
    have hi' : i < elems.length := by omega
    rw [List.getElem?_eq_getElem hi', Option.bind_eq_some_iff] at h1
    obtain ⟨c, h2, h3⟩ := h1
    have hw : (elems[i].1.weights P e).all (· ≤ reachBytes) = true := by
     rw [List.all_eq_true]
     intro m hmm
     exact List.all_eq_true.1 hz1 m (weights_all _ elems[i].1 (List.mem_map.2 ⟨elems[i], List.getElem_mem hi', rfl⟩) m hmm)
    obtain ⟨y, hy, hB⟩ := h.op enc w n c _ h3 hw
    obtain ⟨_, hcl, hcc⟩ := World.cells?_some h2
    rw [hc] at hcl hcc
    refine ⟨y, ⟨c, hcl, hy, fun j u hu => ?_⟩, hB⟩
    have hj : j < sz := by have := (List.getElem?_eq_some_iff.1 hu).1; omega
    have := hcc j hj
    rw [Addr.add_add] at this
    rw [this, hu]
   obtain ⟨l, hll, hr⟩ := list_of each
   refine ⟨some a, cap, l, by rw [hll], by omega, fun i y hy => ⟨a, rfl, (hr i y hy).1⟩, ?_, ?_⟩
   · intro y hy
     obtain ⟨j, hj⟩ := List.getElem?_of_mem hy
     exact (hr j y hj).2
   · rw [hll, ← hlen]
     have : elems.length * P.bytesOf e ≤ ((elems.map (·.1)).length + (rest.map (·.1)).length) * P.bytesOf e := Nat.mul_le_mul_right _ (by simp)
     omega
end Go.Proofs.YthlgcibckakhbaaGreatDoor.Opening

/- Definitions as plain data, and how they lie. -/
namespace Go.Proofs.YthlgcibckakhbaaGreatDoor.Pl
open Go.RowKit Go.IntWalk Go.Proofs.YthlgcibckakhbaaGreatDoorW.PrintWords Go.Proofs.YthlgcibckakhbaaGreatDoor.Opening

structure Step where
 name : ByteArray
 kind : Int
 part : Int
 keys : List ByteArray
 needs : List Int
structure Def where
 name : ByteArray
 steps : List Step
/-- A step's cells. -/
def cells (s : Step) (v1 v2 : Value) : List Value := [.string s.name, .int .i64 s.kind, .int .i64 s.part, v1, v2]
def StepK (w : World) (s : Step) (cs : List Value) : Prop := ∃ A1 c1 A2 c2, cs = cells s (.slice A1 s.keys.length c1) (.slice A2 s.needs.length c2) ∧
 s.keys.length ≤ c1 ∧ Kd.C Kd.string w A1 s.keys.length s.keys ∧ s.needs.length ≤ c2 ∧ Kd.C (Kd.int .i64) w A2 s.needs.length s.needs
/-- What every reading bounds. -/
def StepB (s : Step) : Prop := s.name.size ≤ 140737488351232 ∧ (Lit.int .i64 s.kind).wf = true ∧ (Lit.int .i64 s.part).wf = true ∧ ((∀ x ∈ s.keys, x.size ≤ 140737488351232) ∧ s.keys.length ≤ 8796093022208) ∧ ((∀ x ∈ s.needs, (Lit.int .i64 x).wf = true) ∧ s.needs.length ≤ 17592186044416)
/-- A definition's steps, as they lie. -/
def StepsAt (w : World) (A : Option Addr) (l : List Step) : Prop := RowsK StepK 5 w A l
theorem StepK.below {w w' : World} {s : Step} {cs : List Value} (h : StepK w s cs) (hb : Below w.heap.size w w') : StepK w' s cs := by
 obtain ⟨A1, c1, A2, c2, e, h1, h2, h3, h4⟩ := h
 exact ⟨A1, c1, A2, c2, e, h1, Kd.C_below h2 hb, h3, Kd.C_below h4 hb⟩
theorem cell_on {w w1 : World} {a : Addr} {v : Value} (hb : Below w.heap.size w w1) (h : w.cell? a = some v) : w1.cell? a = some v :=
 (hb.cell (World.block_lt_of_cell? w _ h)).trans h
theorem StepsAt.below {w w' : World} {A : Option Addr} {l : List Step} (h : StepsAt w A l) (hb : Below w.heap.size w w') : StepsAt w' A l := by
 intro i x hx
 obtain ⟨ad, e, cs, h1, h2, h3⟩ := h i x hx
 exact ⟨ad, e, cs, h1, h2.below hb, fun j u hj => cell_on hb (h3 j u hj)⟩
theorem StepsAt.take {w : World} {A : Option Addr} {l : List Step} (h : StepsAt w A l) (n : Nat) : StepsAt w A (l.take n) := by
 intro i x hx
 rw [List.getElem?_take] at hx
 split at hx
 · exact h i x hx
 · cases hx
/-- One step, as it lies. -/
structure At1 (w : World) (ax : Addr) (s : Step) (A1 : Option Addr) (c1 : Nat) (A2 : Option Addr) (c2 : Nat) : Prop where
 c0 : w.cell? ax = some (.string s.name)
 c1_ : w.cell? ⟨ax.block, ax.off + 1, none⟩ = some (.int .i64 s.kind)
 c2_ : w.cell? ⟨ax.block, ax.off + 2, none⟩ = some (.int .i64 s.part)
 c3 : w.cell? ⟨ax.block, ax.off + 3, none⟩ = some (.slice A1 s.keys.length c1)
 c4 : w.cell? ⟨ax.block, ax.off + 4, none⟩ = some (.slice A2 s.needs.length c2)
 k1 : s.keys.length ≤ c1
 keys : Kd.C Kd.string w A1 s.keys.length s.keys
 k2 : s.needs.length ≤ c2
 needs : Kd.C (Kd.int .i64) w A2 s.needs.length s.needs
theorem At1.below {w w' : World} {ax : Addr} {s : Step} {A1 : Option Addr} {c1 : Nat} {A2 : Option Addr} {c2 : Nat} (h : At1 w ax s A1 c1 A2 c2) (hb : Below w.heap.size w w') : At1 w' ax s A1 c1 A2 c2 :=
 ⟨cell_on hb h.c0, cell_on hb h.c1_, cell_on hb h.c2_, cell_on hb h.c3, cell_on hb h.c4, h.k1, Kd.C_below h.keys hb, h.k2, Kd.C_below h.needs hb⟩
theorem StepsAt.one {w : World} {A : Option Addr} {l : List Step} (h : StepsAt w A l) {i : Nat} {s : Step} (hi : l[i]? = some s) : ∃ ad, A = some ad ∧ ∃ A1 c1 A2 c2, At1 w (ad.add (i * 5)) s A1 c1 A2 c2 := by
 obtain ⟨ad, e, cs, h1, ⟨A1, c1, A2, c2, rfl, k1, k2, k3, k4⟩, h3⟩ := h i s hi
 have nx : ∀ {j : Nat} {u : Value}, (cells s (.slice A1 s.keys.length c1) (.slice A2 s.needs.length c2))[j + 1]? = some u → w.cell? ⟨(ad.add (i * 5)).block, (ad.add (i * 5)).off + (j + 1), none⟩ = some u := fun {j u} hu => by
  have h4 := h3 (j + 1) u hu
  rw [← Addr.add_add] at h4
  exact h4
 exact ⟨ad, e, A1, c1, A2, c2, h3 0 _ rfl, nx (j := 0) rfl, nx (j := 1) rfl, nx (j := 2) rfl, nx (j := 3) rfl, k1, k2, k3, k4⟩

/-! ### what may be -/
/-- Are a step's keys right, behind one (or none)? -/
def goKeys (part : Int) : Option ByteArray → List ByteArray → Bool
 | _, [] => true
 | none, k :: l => Nm.isName k && (decide (PlName.owner k = part) && goKeys part (some k) l)
 | some p, k :: l => Nm.isName k && (decide (PlName.owner k = part) && (decide (PlName.cmp p k < 0) && goKeys part (some k) l))
def keysOk (s : Step) : Bool := decide (s.keys.length ≤ 2) && goKeys s.part none s.keys
/-- Are needs right, behind one? -/
def goNeeds (n i : Int) : Int → List Int → Bool
 | _, [] => true
 | last, x :: l => decide (last < x) && (decide (x < n) && (decide (x ≠ i) && goNeeds n i x l))
def needsOk (n i : Int) (l : List Int) : Bool := goNeeds n i (-1) l
def twice (l : List Step) (i : Nat) (s : Step) : Bool := (l.take i).any fun x => x.name.toList == s.name.toList
def aloneOk (l : List Step) (i : Nat) (s : Step) : Bool := Nm.isName s.name && (!twice l i s && (decide (1 ≤ s.kind ∧ s.kind ≤ 3) && (decide (0 ≤ s.part ∧ s.part ≤ 3) && (keysOk s && needsOk l.length i s.needs))))
end Go.Proofs.YthlgcibckakhbaaGreatDoor.Pl
