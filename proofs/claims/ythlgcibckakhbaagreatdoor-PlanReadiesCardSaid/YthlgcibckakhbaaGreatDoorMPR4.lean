/- Several texts in one, in build order: PlRCheck, PlLawP, PlLive, PlDone, PlRef12, PlRefDir, PlRefNum, PlRefAh, PlRefAB, PlRefBe, Fx0, Fx1, PlZFill, PPlanAheadsx1, PlZCopy, PlZKd, PlZSame, PlZAhead, PlRefFit, PlRefRdy. -/
import Derived.Test.YthlgcibckakhbaaGreatDoorMPR3
import Derived.Test.YthlgcibckakhbaaGreatDoorProg
import Derived.Below
import Derived.Deep.Draws
import Derived.Deep.AppendLies
import Derived.Maps.AppendAt
import Derived.OwnWalk
import Derived.Laws.BytesArg
import Derived.Laws.MakeOwn
import Derived.Laws.OwnMore
import Derived.Deep.OwnRows
import Derived.Tactics
import Derived.Lib.ConvBytes
import Derived.Laws.Slices
import Derived.WalkKit
import Derived.KernelRfl
import Derived.RowKit3
import Derived.Deep.LoopGhost
import Derived.Deep.QuietTactic
import Derived.BigQuiet
import Derived.WideLaws
import Derived.Deep.DeepCutAuto
import Derived.Deep.CutBlock
import Derived.Deep.RegionHeld3
import Derived.Laws.Rows
import Derived.Lib.AppendStr
import Derived.ArgAppend
import Derived.Laws.IdiomCopy
import Derived.OrdersHeld
import Derived.Laws.BitsLemmas
import Derived.RowKit
import Derived.Test.YthlgcibckakhbaaGreatDoorMPRWWords
import Derived.Test.YthlgcibckakhbaaGreatDoorMPRWLast
import Derived.Test.YthlgcibckakhbaaGreatDoorMPRWApart
import Derived.Test.YthlgcibckakhbaaGreatDoorMPRWArr
import Derived.Test.YthlgcibckakhbaaGreatDoorMPRWFoot
import Derived.Test.YthlgcibckakhbaaGreatDoorMPRWKept
import Derived.Test.YthlgcibckakhbaaGreatDoorMPRWShare
import Derived.Test.YthlgcibckakhbaaGreatDoorMPRWN
import Derived.Laws.StructEq
import Derived.Test.YthlgcibckakhbaaGreatDoorMPRWRepsOne
import Derived.Test.YthlgcibckakhbaaGreatDoorMPRWInv
import Derived.Test.YthlgcibckakhbaaGreatDoorMPRWInvWords
import Derived.Test.YthlgcibckakhbaaGreatDoorMPRWGuard
import Derived.Test.YthlgcibckakhbaaGreatDoorMPRWMore
set_option linter.unusedVariables false
set_option linter.unusedSimpArgs false
/- odysseyref11.together, Check: the walks, by hand. -/
namespace Go.Proofs.YthlgcibckakhbaaGreatDoor.Pl
open Go.RowKit Go.IntWalk Go.Proofs.YthlgcibckakhbaaGreatDoorW.PrintWords Go.Proofs.YthlgcibckakhbaaGreatDoor.PlName

theorem allOf_false {p : Nat → Bool} {n j : Nat} (hj : j < n) (h : p j = true) : allOf p n = false := by
 unfold allOf
 rw [Bool.not_eq_false', List.any_eq_true]
 exact ⟨j, List.mem_range'_1.2 ⟨by omega, by omega⟩, h⟩
theorem allOf_true {p : Nat → Bool} {n : Nat} (h : ∀ j, j < n → p j = false) : allOf p n = true := by
 unfold allOf
 rw [Bool.not_eq_true', List.any_eq_false]
 intro x hx
 have := List.mem_range'_1.1 hx
 rw [h x (by omega)]
 simp
noncomputable def togetherOk (l : List Step) : Bool := allOf (fun i => decide (1 < pivots l (i + 1))) l.length && (allOf (ordersBad l) l.length && (allOf (ringAt l) l.length && allOf (lacksHeld l (heldF l)) l.length))
theorem pivots_snoc {l : List Step} {i : Nat} (h : i < l.length) : pivots l (i + 1) = pivots l i + if (stepAt l i).kind = 2 then 1 else 0 := by
 unfold pivots
 rw [List.take_add_one, stepAt_eq h, List.filter_append, List.length_append]
 by_cases e : (stepAt l i).kind = 2 <;> simp [e]
/-- The worlds of together. -/
structure Tg (w wr : World) (nm : ByteArray) (l : List Step) (ad : Addr) (c : Nat) : Prop where
 below : Below w.heap.size w wr
 box : wr.heap[w.heap.size]? = some (.cells #[.string nm, .slice (some ad) l.length c] 24 (0, 0))
theorem Tg.on {w wr w2 : World} {nm : ByteArray} {l : List Step} {ad : Addr} {c : Nat} (h : Tg w wr nm l ad c) (hb : Below wr.heap.size wr w2) : Tg w w2 nm l ad c := ⟨on_ h.below hb, row_on hb h.box⟩
theorem Tg.cells {w wr : World} {nm : ByteArray} {l : List Step} {ad : Addr} {c : Nat} (h : Tg w wr nm l ad c) : wr.cell? ⟨w.heap.size, 0, none⟩ = some (.string nm) ∧ wr.cell? ⟨w.heap.size, 1, none⟩ = some (.slice (some ad) l.length c) :=
 ⟨row_cell h.box rfl, row_cell h.box rfl⟩
theorem upto {p : Nat → Bool} {k : Nat} (h : ∀ j, j < k → p j = false) (hk : p k = false) : ∀ j, j < k + 1 → p j = false := fun j hj => by
 rcases Nat.lt_succ_iff_lt_or_eq.1 hj with h2 | h2
 · exact h j h2
 · exact h2 ▸ hk

set_option maxHeartbeats 16000000 in
set_option maxRecDepth 100000 in
theorem togetherR_calls (nm : ByteArray) (l : List Step) (ad : Addr) (c : Nat) (w : World) (hS : StepsAt w (some ad) l) (hl8 : l.length ≤ 8) (hin : ∀ k, k < l.length → Within l (stepAt l k) ∧ (stepAt l k).needs.length ≤ 8) (hk2 : ∀ k, k < l.length → (stepAt l k).keys.length ≤ 2) :
 Calls Tryz.prog 58 #[.agg #[.string nm, .slice (some ad) l.length c]] w fun e w' => (∃ a b, e = .returned (.tuple #[.int .i64 a, .int .i64 b]) ∧ (b == 0) = togetherOk l) ∧ Below w.heap.size w w' := by
 have HT0 := Aside0.mk (Tg.mk (below_one w (.cells #[.string nm, .slice (some ad) l.length c] 24)) (alloc1 w (.cells #[.string nm, .slice (some ad) l.length c] 24)))
 have HA := Aside0.mk hS
 have HC1 := Aside0.mk (fun W (h : Below w.heap.size w W) i (hi : i < l.length) => orderR_calls nm l ad c i W (hS.below h) hi (hin i hi))
 have HC2 := Aside0.mk (fun W (h : Below w.heap.size w W) i (hi : i < l.length) => ringR_calls nm l ad c i W (hS.below h) hi hl8 hin)
 have HC3 := Aside0.mk (fun W (h : Below w.heap.size w W) i (hi : i < l.length) => looseR_calls nm l ad c i W (hS.below h) hi hl8 hk2)
 have HF : Aside0 (togetherOk l = (allOf (fun i => decide (1 < pivots l (i + 1))) l.length && (allOf (ordersBad l) l.length && (allOf (ringAt l) l.length && allOf (lacksHeld l (heldF l)) l.length)))) := ⟨rfl⟩
 clear hS hin hk2
 generalize togetherOk l = rr at *
 go_enter Tryz.func58, Tryz.ntmps58
 go_wp2
 generalize World.alloc w _ = w0 at *
 go_loopw [4, 5] (fun v4 v5 wr => ∃ i : Nat, i ≤ l.length ∧ v5 = .int .i64 (i : Int) ∧ v4 = .int .i64 (pivots l i : Int) ∧ pivots l i ≤ 1 ∧ (∀ j, j < i → decide (1 < pivots l (j + 1)) = false) ∧ Tg w wr nm l ad c) (fun _ v5 _ => l.length - (intOf v5).toNat)
 case atStart => exact ⟨0, Nat.zero_le _, rfl, rfl, Nat.zero_le _, fun j hj => absurd hj (Nat.not_lt_zero _), HT0.out⟩
 case round =>
  obtain ⟨i, hi, rfl, rfl, hp1, hal, hT⟩ := hrel
  have HG := Aside0.mk (And.intro hal hT)
  obtain ⟨hq0, hq1⟩ := hT.cells
  clear hal hT
  by_cases hlt : i < l.length
  · have hd2 : decide ((i : Int) < (l.length : Int)) = true := decide_eq_true (by omega)
    obtain ⟨_, e1, A1, c1, A2, c2, h1⟩ := HA.out.one (stepAt_eq hlt)
    cases e1
    have hs1 := (h1.below HG.out.2.below).c1_
    have HP := Aside0.mk (pivots_snoc hlt)
    clear h1
    generalize hpv : pivots l i = pv at *
    by_cases hk : (stepAt l i).kind = 2
    · have hd3 : ((stepAt l i).kind == 2) = true := beq_iff_eq.2 hk
      have HP2 : Aside0 (pivots l (i + 1) = pv + 1) := ⟨by rw [HP.out, if_pos hk]⟩
      clear hk
      by_cases hpe : pv = 1
      · subst hpe
        have HX : Aside0 (rr = false) := ⟨by rw [HF.out, allOf_false hlt (by rw [HP2.out]; rfl)]; rfl⟩
        go_wp2
        go_ret2
        rw [HX.out]
        exact ⟨⟨_, _, rfl, rfl⟩, HG.out.2.below⟩
      · have hp0 : pv = 0 := by omega
        subst hp0
        have HS2 : Aside0 (∀ j, j < i + 1 → decide (1 < pivots l (j + 1)) = false) := ⟨upto HG.out.1 (by rw [HP2.out]; rfl)⟩
        go_wp2
        go_roundw
        case rel => exact ⟨i + 1, hlt, by go_num, by rw [HP2.out]; rfl, by rw [HP2.out]; omega, HS2.out, HG.out.2⟩
        case measure => simp [intOf]; omega
    · have hd3 : ((stepAt l i).kind == 2) = false := beq_eq_false_iff_ne.2 hk
      have HP2 : Aside0 (pivots l (i + 1) = pv) := ⟨by rw [HP.out, if_neg hk]; rfl⟩
      clear hk
      have HS2 : Aside0 (∀ j, j < i + 1 → decide (1 < pivots l (j + 1)) = false) := ⟨upto HG.out.1 (by rw [HP2.out]; exact decide_eq_false (by omega))⟩
      have hd5 : ((pv : Int) == 2) = false := beq_eq_false_iff_ne.2 (by omega)
      go_wp2
      go_roundw
      case rel => exact ⟨i + 1, hlt, by go_num, by rw [HP2.out], by rw [HP2.out]; exact hp1, HS2.out, HG.out.2⟩
      case measure => simp [intOf]; omega
  · have hi' : i = l.length := by omega
    subst hi'
    have hd2 : decide ((l.length : Int) < (l.length : Int)) = false := decide_eq_false (by omega)
    replace HF : Aside0 (rr = (allOf (ordersBad l) l.length && (allOf (ringAt l) l.length && allOf (lacksHeld l (heldF l)) l.length))) := ⟨by rw [HF.out, allOf_true HG.out.1, Bool.true_and]⟩
    have HT1 := Aside0.mk HG.out.2
    clear HG hp1
    generalize pivots l l.length = pv at *
    go_wp2
    clear hq0 hq1
    go_loopw [6] (fun v wr => ∃ i : Nat, i ≤ l.length ∧ v = .int .i64 (i : Int) ∧ (∀ j, j < i → (ordersBad l) j = false) ∧ Tg w wr nm l ad c) (fun v _ => l.length - (intOf v).toNat)
    case atStart => exact ⟨0, Nat.zero_le _, rfl, fun j hj => absurd hj (Nat.not_lt_zero _), HT1.out⟩
    case round =>
     obtain ⟨i, hi, rfl, hal, hT⟩ := hrel
     have HG := Aside0.mk (And.intro hal hT)
     obtain ⟨hq0, hq1⟩ := hT.cells
     clear hal hT HT1
     by_cases hlt : i < l.length
     · have hd2 : decide ((i : Int) < (l.length : Int)) = true := decide_eq_true (by omega)
       have hcall := Aside0.mk (HC1.out _ HG.out.2.below i hlt)
       have HST : Aside0 ((ordersBad l) i = false → ∀ j, j < i + 1 → (ordersBad l) j = false) := ⟨fun h => upto HG.out.1 h⟩
       have HXX : Aside0 ((ordersBad l) i = true → rr = false) := ⟨fun h => by rw [HF.out, allOf_false hlt h]; try rfl⟩
       generalize (ordersBad l) i = b at *
       cases b
       · replace HST := Aside0.mk (HST.out rfl)
         go_wp2_with (first | (go_at_call 78; refine hcall.out.mono ?_; rintro e w2 ⟨rfl, hb2⟩; have H2 := Aside0.mk (HG.out.2.on hb2); clear hb2))
         go_roundw
         case rel => exact ⟨i + 1, hlt, by go_num, HST.out, H2.out⟩
         case measure => simp [intOf]; omega
       · replace HXX := Aside0.mk (HXX.out rfl)
         go_wp2_with (first | (go_at_call 78; refine hcall.out.mono ?_; rintro e w2 ⟨rfl, hb2⟩; have H2 := Aside0.mk (HG.out.2.on hb2); clear hb2))
         go_ret2
         rw [HXX.out]
         exact ⟨⟨_, _, rfl, rfl⟩, H2.out.below⟩
     · have hi' : i = l.length := by omega
       subst hi'
       have hd2 : decide ((l.length : Int) < (l.length : Int)) = false := decide_eq_false (by omega)
       replace HF : Aside0 (rr = (allOf (ringAt l) l.length && allOf (lacksHeld l (heldF l)) l.length)) := ⟨by rw [HF.out, allOf_true HG.out.1, Bool.true_and]⟩
       have HT2 := Aside0.mk HG.out.2
       clear HG
       go_wp2
       clear hq0 hq1
       go_loopw [8] (fun v wr => ∃ i : Nat, i ≤ l.length ∧ v = .int .i64 (i : Int) ∧ (∀ j, j < i → (ringAt l) j = false) ∧ Tg w wr nm l ad c) (fun v _ => l.length - (intOf v).toNat)
       case atStart => exact ⟨0, Nat.zero_le _, rfl, fun j hj => absurd hj (Nat.not_lt_zero _), HT2.out⟩
       case round =>
        obtain ⟨i, hi, rfl, hal, hT⟩ := hrel
        have HG := Aside0.mk (And.intro hal hT)
        obtain ⟨hq0, hq1⟩ := hT.cells
        clear hal hT HT2
        by_cases hlt : i < l.length
        · have hd2 : decide ((i : Int) < (l.length : Int)) = true := decide_eq_true (by omega)
          have hcall := Aside0.mk (HC2.out _ HG.out.2.below i hlt)
          have HST : Aside0 ((ringAt l) i = false → ∀ j, j < i + 1 → (ringAt l) j = false) := ⟨fun h => upto HG.out.1 h⟩
          have HXX : Aside0 ((ringAt l) i = true → rr = false) := ⟨fun h => by rw [HF.out, allOf_false hlt h]; try rfl⟩
          generalize (ringAt l) i = b at *
          cases b
          · replace HST := Aside0.mk (HST.out rfl)
            go_wp2_with (first | (go_at_call 79; refine hcall.out.mono ?_; rintro e w2 ⟨rfl, hb2⟩; have H2 := Aside0.mk (HG.out.2.on hb2); clear hb2))
            go_roundw
            case rel => exact ⟨i + 1, hlt, by go_num, HST.out, H2.out⟩
            case measure => simp [intOf]; omega
          · replace HXX := Aside0.mk (HXX.out rfl)
            go_wp2_with (first | (go_at_call 79; refine hcall.out.mono ?_; rintro e w2 ⟨rfl, hb2⟩; have H2 := Aside0.mk (HG.out.2.on hb2); clear hb2))
            go_ret2
            rw [HXX.out]
            exact ⟨⟨_, _, rfl, rfl⟩, H2.out.below⟩
        · have hi' : i = l.length := by omega
          subst hi'
          have hd2 : decide ((l.length : Int) < (l.length : Int)) = false := decide_eq_false (by omega)
          replace HF : Aside0 (rr = allOf (lacksHeld l (heldF l)) l.length) := ⟨by rw [HF.out, allOf_true HG.out.1, Bool.true_and]⟩
          have HT3 := Aside0.mk HG.out.2
          clear HG
          go_wp2
          clear hq0 hq1
          go_loopw [10] (fun v wr => ∃ i : Nat, i ≤ l.length ∧ v = .int .i64 (i : Int) ∧ (∀ j, j < i → (lacksHeld l (heldF l)) j = false) ∧ Tg w wr nm l ad c) (fun v _ => l.length - (intOf v).toNat)
          case atStart => exact ⟨0, Nat.zero_le _, rfl, fun j hj => absurd hj (Nat.not_lt_zero _), HT3.out⟩
          case round =>
           obtain ⟨i, hi, rfl, hal, hT⟩ := hrel
           have HG := Aside0.mk (And.intro hal hT)
           obtain ⟨hq0, hq1⟩ := hT.cells
           clear hal hT HT3
           by_cases hlt : i < l.length
           · have hd2 : decide ((i : Int) < (l.length : Int)) = true := decide_eq_true (by omega)
             have hcall := Aside0.mk (HC3.out _ HG.out.2.below i hlt)
             have HST : Aside0 ((lacksHeld l (heldF l)) i = false → ∀ j, j < i + 1 → (lacksHeld l (heldF l)) j = false) := ⟨fun h => upto HG.out.1 h⟩
             have HXX : Aside0 ((lacksHeld l (heldF l)) i = true → rr = false) := ⟨fun h => by rw [HF.out, allOf_false hlt h]; try rfl⟩
             generalize (lacksHeld l (heldF l)) i = b at *
             cases b
             · replace HST := Aside0.mk (HST.out rfl)
               go_wp2_with (first | (go_at_call 80; refine hcall.out.mono ?_; rintro e w2 ⟨rfl, hb2⟩; have H2 := Aside0.mk (HG.out.2.on hb2); clear hb2))
               go_roundw
               case rel => exact ⟨i + 1, hlt, by go_num, HST.out, H2.out⟩
               case measure => simp [intOf]; omega
             · replace HXX := Aside0.mk (HXX.out rfl)
               go_wp2_with (first | (go_at_call 80; refine hcall.out.mono ?_; rintro e w2 ⟨rfl, hb2⟩; have H2 := Aside0.mk (HG.out.2.on hb2); clear hb2))
               go_ret2
               rw [HXX.out]
               exact ⟨⟨_, _, rfl, rfl⟩, H2.out.below⟩
           · have hi' : i = l.length := by omega
             subst hi'
             have hd2 : decide ((l.length : Int) < (l.length : Int)) = false := decide_eq_false (by omega)
             have HX : Aside0 (rr = true) := ⟨by rw [HF.out, allOf_true HG.out.1]⟩
             go_wp2
             go_ret2
             rw [HX.out]
             exact ⟨⟨_, _, rfl, rfl⟩, HG.out.2.below⟩

set_option maxHeartbeats 16000000 in
set_option maxRecDepth 100000 in
theorem refCheck_calls (nm : ByteArray) (l : List Step) (A : Option Addr) (c : Nat) (w : World) (hnm : nm.size ≤ 140737488351232) (hS : StepsAt w A l) (hb : ∀ s ∈ l, StepB s) (hn : l.length ≤ 9000000000000) (hc : l.length ≤ c) :
 Calls Tryz.prog 35 #[.agg #[.string nm, .slice A l.length c]] w fun e w' => (∃ a b, e = .returned (.tuple #[.int .i64 a, .int .i64 b]) ∧ (b == 0) = defOk nm l) ∧ Below w.heap.size w w' := by
 have HC53 : Aside0 (∀ W, Calls Tryz.prog 56 #[.string nm] W fun e w' => e = .returned (.bool (Nm.isName nm)) ∧ Below W.heap.size W w') := ⟨fun W => isR_calls _ W (by omega)⟩
 have hbb := below_one w (.cells #[.string nm, .slice A l.length c] 24)
 have hr0 := alloc1 w (.cells #[.string nm, .slice A l.length c] 24)
 have HW := Aside0.mk (And.intro hbb hr0)
 have HA := Aside0.mk (And.intro hS hb)
 have hdef : Aside0 (defOk nm l = (Nm.isName nm && (decide (1 ≤ l.length ∧ l.length ≤ 8) && ((List.range' 0 l.length).all (fun i => aloneOk l i (stepAt l i)) && togetherOk l)))) := ⟨rfl⟩
 generalize defOk nm l = rr at *
 clear hbb hr0 hS hb
 go_enter Tryz.func35, Tryz.ntmps35
 cases hnn : Nm.isName nm
 · rw [hnn] at HC53 hdef
   go_wp2_with (first | (go_at_call 56; refine (HC53.out _).mono ?_; rintro e w1 ⟨rfl, hb1⟩))
   go_ret2
   rw [hdef.out]
   exact ⟨⟨_, _, rfl, rfl⟩, on_ HW.out.1 hb1⟩
 · rw [hnn] at HC53 hdef
   by_cases h1 : 1 ≤ l.length ∧ l.length ≤ 8
   · have hd1 : decide ((l.length : Int) < 1) = false := decide_eq_false (by omega)
     have hd2 : decide (8 < (l.length : Int)) = false := decide_eq_false (by omega)
     replace hdef := Aside0.mk (hdef.out.trans (by rw [decide_eq_true h1, Bool.true_and, Bool.true_and]))
     have hl8 : l.length ≤ 8 := h1.2
     obtain ⟨ad, rfl, _⟩ := HA.out.1.one (stepAt_eq (l := l) (i := 0) (by omega))
     have HT0 := Aside0.mk (Tg.mk HW.out.1 HW.out.2 : Tg w _ nm l ad c)
     clear h1 HW
     go_wp2_with (first | (go_at_call 56; refine (HC53.out _).mono ?_; rintro e w1 ⟨rfl, hb1⟩; have HK1 := Aside0.mk (HT0.out.on hb1); have hq1 := HK1.out.cells.2; clear hb1))
     clear hq1 HT0 HC53
     go_loopw [5] (fun v5 wr => ∃ i : Nat, i ≤ l.length ∧ v5 = .int .i64 (i : Int) ∧ (∀ j, j < i → aloneOk l j (stepAt l j) = true) ∧ Tg w wr nm l ad c) (fun v5 _ => l.length - (intOf v5).toNat)
     case atStart => exact ⟨0, Nat.zero_le _, rfl, fun j hj => absurd hj (Nat.not_lt_zero _), HK1.out⟩
     case round =>
      obtain ⟨i, hi, rfl, hal, hck⟩ := hrel
      have HAL := Aside0.mk (And.intro hal hck)
      obtain ⟨hq0, hq1⟩ := hck.cells
      clear hal hck HK1
      by_cases hlt : i < l.length
      · have hd3 : decide ((i : Int) < (l.length : Int)) = true := decide_eq_true (by omega)
        have hcall := Aside0.mk (aloneR_calls nm l (some ad) c i (stepAt l i) _ (stepAt_eq hlt) (HA.out.1.below HAL.out.2.below) (HA.out.2 _ (List.mem_of_getElem? (stepAt_eq hlt))) hl8 hc)
        have HR := Aside0.mk (aloneE_ok l i (stepAt l i))
        generalize aloneE l i (stepAt l i) = r at *
        cases hok : (r == 0)
        · have hd4 : (r != 0) = true := by rw [bne, hok]; rfl
          have HF : Aside0 (rr = false) := ⟨by rw [hdef.out, all_range_false hlt (by rw [← HR.out, hok])]; rfl⟩
          go_wp2_with (first | (go_at_call 57; refine hcall.out.mono ?_; rintro e w2 ⟨rfl, hb2⟩))
          go_ret2
          rw [HF.out]
          exact ⟨⟨_, _, rfl, hok⟩, on_ HAL.out.2.below hb2⟩
        · have hd4 : (r != 0) = false := by rw [bne, hok]; rfl
          have HOK : Aside0 (aloneOk l i (stepAt l i) = true) := ⟨by rw [← HR.out, hok]⟩
          go_wp2_with (first | (go_at_call 57; refine hcall.out.mono ?_; rintro e w2 ⟨rfl, hb2⟩))
          go_roundw
          case rel => exact ⟨i + 1, hlt, by go_num, fun j hj => by rcases Nat.lt_succ_iff_lt_or_eq.1 hj with h | h; exact HAL.out.1 j h; exact h ▸ HOK.out, HAL.out.2.on hb2⟩
          case measure => simp [intOf]; omega
      · have hi' : i = l.length := by omega
        subst hi'
        have hd3 : decide ((l.length : Int) < (l.length : Int)) = false := decide_eq_false (by omega)
        replace hdef := Aside0.mk (hdef.out.trans (by rw [all_range HAL.out.1, Bool.true_and]))
        have htg := Aside0.mk (togetherR_calls nm l ad c _ (HA.out.1.below HAL.out.2.below) hl8 (fun k hk => needs_in hl8 (HAL.out.1 k hk)) (fun k hk => keys_two (HAL.out.1 k hk)))
        go_wp2_with (first | (go_at_call 58; refine htg.out.mono ?_; rintro e w2 ⟨⟨xa, xb, rfl, hxb⟩, hb2⟩; replace hxb := Aside0.mk hxb))
        go_ret2
        exact ⟨⟨_, _, rfl, by rw [hxb.out, hdef.out]⟩, on_ HAL.out.2.below hb2⟩
   · have HF : Aside0 (rr = false) := ⟨by rw [hdef.out, decide_eq_false h1]; rfl⟩
     have hl8 : (l.length : Int) < 1 ∨ (8 < (l.length : Int) ∧ ¬ (l.length : Int) < 1) := by omega
     clear h1
     rcases hl8 with h0 | ⟨h8, h9⟩
     · have hd1 : decide ((l.length : Int) < 1) = true := decide_eq_true h0
       clear h0
       go_wp2_with (first | (go_at_call 56; refine (HC53.out _).mono ?_; rintro e w1 ⟨rfl, hb1⟩; have hq1 : w1.cell? ⟨w.heap.size, 1, none⟩ = some (.slice A l.length c) := row_cell (row_on hb1 HW.out.2) rfl))
       go_ret2
       rw [HF.out]
       exact ⟨⟨_, _, rfl, rfl⟩, on_ HW.out.1 hb1⟩
     · have hd1 : decide ((l.length : Int) < 1) = false := decide_eq_false h9
       have hd2 : decide (8 < (l.length : Int)) = true := decide_eq_true h8
       clear h8 h9
       go_wp2_with (first | (go_at_call 56; refine (HC53.out _).mono ?_; rintro e w1 ⟨rfl, hb1⟩; have hq1 : w1.cell? ⟨w.heap.size, 1, none⟩ = some (.slice A l.length c) := row_cell (row_on hb1 HW.out.2) rfl))
       go_ret2
       rw [HF.out]
       exact ⟨⟨_, _, rfl, rfl⟩, on_ HW.out.1 hb1⟩
end Go.Proofs.YthlgcibckakhbaaGreatDoor.Pl

/- odysseylaw12.same, has, pick, trip: the walks, by hand. -/
namespace Go.Proofs.YthlgcibckakhbaaGreatDoor.Pl
open Go.RowKit Go.IntWalk Go.Proofs.YthlgcibckakhbaaGreatDoorW.PrintWords Go.Proofs.YthlgcibckakhbaaGreatDoorW.PrintLast Go.Proofs.YthlgcibckakhbaaGreatDoorW.PrintMore Go.Proofs.YthlgcibckakhbaaGreatDoor.PlName

def sameI (a b : List Int) : Bool := decide (a = b)
theorem same_len {a b : List Int} (h : a.length ≠ b.length) : sameI a b = false := by
 unfold sameI
 exact decide_eq_false fun e => h (by rw [e])
theorem same_ne {a b : List Int} {i : Nat} (ha : i < a.length) (hb : i < b.length) (h : a[i] ≠ b[i]) : sameI a b = false := by
 unfold sameI
 exact decide_eq_false fun e => h (by subst e; rfl)
theorem same_eq {a b : List Int} (hl : a.length = b.length) (h : ∀ j (ha : j < a.length) (hb : j < b.length), a[j] = b[j]) : sameI a b = true := by
 unfold sameI
 exact decide_eq_true (List.ext_getElem hl h)

set_option maxHeartbeats 4000000 in
set_option maxRecDepth 100000 in
theorem same_calls (A B : Option Addr) (ca cb : Nat) (a b : List Int) (w : World) (ha : Kd.C (Kd.int .i64) w A a.length a) (hb : Kd.C (Kd.int .i64) w B b.length b) (hla : a.length ≤ 17592186044416) :
 Calls Tryz.prog 8 #[.slice A a.length ca, .slice B b.length cb] w fun e w' => e = .returned (.bool (sameI a b)) ∧ Below w.heap.size w w' := by
 have HK := Aside0.mk (And.intro ha hb)
 clear ha hb
 go_enter Tryz.func8, Tryz.ntmps8
 by_cases hl : a.length = b.length
 · have hd1 : ((a.length : Int) != (b.length : Int)) = false := bne_eq_false_iff_eq.2 (by omega)
   go_wp2
   go_loopw [5] (fun v5 wr => ∃ k : Nat, k ≤ a.length ∧ v5 = .int .i64 (k : Int) ∧ (∀ j (hj : j < k) (ha : j < a.length) (hb : j < b.length), a[j] = b[j]) ∧ Below w.heap.size w wr) (fun v5 _ => a.length - (intOf v5).toNat)
   case atStart => exact ⟨0, Nat.zero_le _, rfl, fun j hj => absurd hj (Nat.not_lt_zero _), Below.refl _ _⟩
   case round =>
    obtain ⟨k, hk, rfl, hal, hB⟩ := hrel
    have HG := Aside0.mk (And.intro hal hB)
    clear hal hB
    by_cases hlt : k < a.length
    · have hd2 : decide ((k : Int) < (a.length : Int)) = true := decide_eq_true (by omega)
      have hltb : k < b.length := by omega
      obtain ⟨aa, rfl, hx⟩ := int_at HK.out.1 hlt
      obtain ⟨ab, rfl, hy⟩ := int_at HK.out.2 hltb
      replace hx := cell_on HG.out.2 hx
      replace hy := cell_on HG.out.2 hy
      by_cases hxy : a[k] = b[k]
      · have hd3 : (a[k] != b[k]) = false := bne_eq_false_iff_eq.2 hxy
        have HE := Aside0.mk hxy
        have HS : Aside0 (∀ j (hj : j < k + 1) (ha : j < a.length) (hb : j < b.length), a[j] = b[j]) := ⟨fun j hj h1 h2 => by
         rcases Nat.lt_succ_iff_lt_or_eq.1 hj with h | h
         · exact HG.out.1 j h h1 h2
         · subst h
           exact HE.out⟩
        clear hxy HE
        generalize a[k] = x at *
        generalize b[k] = y at *
        go_wp2
        refine start_ (n := 9) (S := fun w' => w'.cell? (aa.add k) = some (.int .i64 x) ∧ w'.cell? (ab.add k) = some (.int .i64 y)) (ds := []) #[false,false,false,false,false,false,false,false,false] (by kernel_rfl) rfl rfl ⟨(by go_keep), (by go_keep)⟩ (fun hHeld => ?_)
        refine pure_ (i := 0) (N := some 17) (v := ?_) (a' := ?_) #[true,false,false,false,false,false,false,false,false] rfl rfl (by kernel_rfl) (fun _ _ _ h => h) (Or.inl ⟨by rfl, ?_⟩) ?_ ?_
        rotate_left
        · intro w'
          go_simp
          with_reducible rfl
        rotate_left
        · simp only [Act.put, zA, zB, zC, i64_w, i32_w]
          rfl
        refine pure_ (i := 1) (N := some 18) (v := ?_) (a' := ?_) #[true,true,false,false,false,false,false,false,false] rfl rfl (by kernel_rfl) (fun _ _ _ h => h) (Or.inl ⟨by rfl, ?_⟩) ?_ ?_
        rotate_left
        · intro w'
          go_simp
          with_reducible rfl
        rotate_left
        · simp only [Act.put, zA, zB, zC, i64_w, i32_w]
          rfl
        refine pure_ (i := 2) (N := some 19) (v := ?_) (a' := ?_) #[true,true,true,false,false,false,false,false,false] rfl rfl (by kernel_rfl) (fun _ _ _ h => h) (Or.inl ⟨by rfl, ?_⟩) ?_ ?_
        rotate_left
        · intro w'
          go_simp
          with_reducible rfl
        rotate_left
        · simp only [Act.put, zA, zB, zC, i64_w, i32_w]
          rfl
        refine pure_ (i := 4) (N := some 21) (v := ?_) (a' := ?_) #[true,true,true,false,true,false,false,false,false] rfl rfl (by kernel_rfl) (fun _ _ _ h => h) (Or.inl ⟨by rfl, ?_⟩) ?_ ?_
        rotate_left
        · intro w'
          go_simp
          with_reducible rfl
        rotate_left
        · simp only [Act.put, zA, zB, zC, i64_w, i32_w]
          rfl
        refine pure_ (i := 5) (N := some 22) (v := ?_) (a' := ?_) #[true,true,true,false,true,true,false,false,false] rfl rfl (by kernel_rfl) (fun _ _ _ h => h) (Or.inl ⟨by rfl, ?_⟩) ?_ ?_
        rotate_left
        · intro w'
          go_simp
          with_reducible rfl
        rotate_left
        · simp only [Act.put, zA, zB, zC, i64_w, i32_w]
          rfl
        refine pure_ (i := 6) (N := some 23) (v := ?_) (a' := ?_) #[true,true,true,false,true,true,true,false,false] rfl rfl (by kernel_rfl) (fun _ _ _ h => h) (Or.inl ⟨by rfl, ?_⟩) ?_ ?_
        rotate_left
        · intro w'
          go_simp
          with_reducible rfl
        rotate_left
        · simp only [Act.put, zA, zB, zC, i64_w, i32_w]
          rfl
        refine take_ (i := 3) (N := some 20) (v := ?_) (a' := ?_) #[true,true,true,true,true,true,true,false,false] rfl rfl (by kernel_rfl) (fun _ _ _ h => h) (Or.inl ⟨by rfl, ?_⟩) hHeld ?_ ?_
        rotate_left
        · rintro w' ⟨s0, s1⟩
          go_simp
          with_reducible rfl
        rotate_left
        · simp only [Act.put, zA, zB, zC, i64_w, i32_w]
          rfl
        refine take_ (i := 7) (N := some 24) (v := ?_) (a' := ?_) #[true,true,true,true,true,true,true,true,false] rfl rfl (by kernel_rfl) (fun _ _ _ h => h) (Or.inl ⟨by rfl, ?_⟩) hHeld ?_ ?_
        rotate_left
        · rintro w' ⟨s0, s1⟩
          go_simp
          with_reducible rfl
        rotate_left
        · simp only [Act.put, zA, zB, zC, i64_w, i32_w]
          rfl
        refine pure_ (i := 8) (N := some 25) (v := ?_) (a' := ?_) #[true,true,true,true,true,true,true,true,true] rfl rfl (by kernel_rfl) (fun _ _ _ h => h) (Or.inl ⟨by rfl, ?_⟩) ?_ ?_
        rotate_left
        · intro w'
          go_simp
          with_reducible rfl
        rotate_left
        · simp only [Act.put, zA, zB, zC, i64_w, i32_w]
          rfl
        refine done_ (by kernel_rfl) ?_
        go_wp2
        go_roundw
        case rel => exact ⟨k + 1, hlt, by go_num, HS.out, below_drew HG.out.2⟩
        case measure => simp [intOf]; omega
      · have hd3 : (a[k] != b[k]) = true := bne_iff_ne.2 hxy
        have HX := Aside0.mk (same_ne hlt hltb hxy)
        clear hxy
        generalize a[k] = x at *
        generalize b[k] = y at *
        go_wp2
        refine start_ (n := 9) (S := fun w' => w'.cell? (aa.add k) = some (.int .i64 x) ∧ w'.cell? (ab.add k) = some (.int .i64 y)) (ds := []) #[false,false,false,false,false,false,false,false,false] (by kernel_rfl) rfl rfl ⟨(by go_keep), (by go_keep)⟩ (fun hHeld => ?_)
        refine pure_ (i := 0) (N := some 17) (v := ?_) (a' := ?_) #[true,false,false,false,false,false,false,false,false] rfl rfl (by kernel_rfl) (fun _ _ _ h => h) (Or.inl ⟨by rfl, ?_⟩) ?_ ?_
        rotate_left
        · intro w'
          go_simp
          with_reducible rfl
        rotate_left
        · simp only [Act.put, zA, zB, zC, i64_w, i32_w]
          rfl
        refine pure_ (i := 1) (N := some 18) (v := ?_) (a' := ?_) #[true,true,false,false,false,false,false,false,false] rfl rfl (by kernel_rfl) (fun _ _ _ h => h) (Or.inl ⟨by rfl, ?_⟩) ?_ ?_
        rotate_left
        · intro w'
          go_simp
          with_reducible rfl
        rotate_left
        · simp only [Act.put, zA, zB, zC, i64_w, i32_w]
          rfl
        refine pure_ (i := 2) (N := some 19) (v := ?_) (a' := ?_) #[true,true,true,false,false,false,false,false,false] rfl rfl (by kernel_rfl) (fun _ _ _ h => h) (Or.inl ⟨by rfl, ?_⟩) ?_ ?_
        rotate_left
        · intro w'
          go_simp
          with_reducible rfl
        rotate_left
        · simp only [Act.put, zA, zB, zC, i64_w, i32_w]
          rfl
        refine pure_ (i := 4) (N := some 21) (v := ?_) (a' := ?_) #[true,true,true,false,true,false,false,false,false] rfl rfl (by kernel_rfl) (fun _ _ _ h => h) (Or.inl ⟨by rfl, ?_⟩) ?_ ?_
        rotate_left
        · intro w'
          go_simp
          with_reducible rfl
        rotate_left
        · simp only [Act.put, zA, zB, zC, i64_w, i32_w]
          rfl
        refine pure_ (i := 5) (N := some 22) (v := ?_) (a' := ?_) #[true,true,true,false,true,true,false,false,false] rfl rfl (by kernel_rfl) (fun _ _ _ h => h) (Or.inl ⟨by rfl, ?_⟩) ?_ ?_
        rotate_left
        · intro w'
          go_simp
          with_reducible rfl
        rotate_left
        · simp only [Act.put, zA, zB, zC, i64_w, i32_w]
          rfl
        refine pure_ (i := 6) (N := some 23) (v := ?_) (a' := ?_) #[true,true,true,false,true,true,true,false,false] rfl rfl (by kernel_rfl) (fun _ _ _ h => h) (Or.inl ⟨by rfl, ?_⟩) ?_ ?_
        rotate_left
        · intro w'
          go_simp
          with_reducible rfl
        rotate_left
        · simp only [Act.put, zA, zB, zC, i64_w, i32_w]
          rfl
        refine take_ (i := 3) (N := some 20) (v := ?_) (a' := ?_) #[true,true,true,true,true,true,true,false,false] rfl rfl (by kernel_rfl) (fun _ _ _ h => h) (Or.inl ⟨by rfl, ?_⟩) hHeld ?_ ?_
        rotate_left
        · rintro w' ⟨s0, s1⟩
          go_simp
          with_reducible rfl
        rotate_left
        · simp only [Act.put, zA, zB, zC, i64_w, i32_w]
          rfl
        refine take_ (i := 7) (N := some 24) (v := ?_) (a' := ?_) #[true,true,true,true,true,true,true,true,false] rfl rfl (by kernel_rfl) (fun _ _ _ h => h) (Or.inl ⟨by rfl, ?_⟩) hHeld ?_ ?_
        rotate_left
        · rintro w' ⟨s0, s1⟩
          go_simp
          with_reducible rfl
        rotate_left
        · simp only [Act.put, zA, zB, zC, i64_w, i32_w]
          rfl
        refine pure_ (i := 8) (N := some 25) (v := ?_) (a' := ?_) #[true,true,true,true,true,true,true,true,true] rfl rfl (by kernel_rfl) (fun _ _ _ h => h) (Or.inl ⟨by rfl, ?_⟩) ?_ ?_
        rotate_left
        · intro w'
          go_simp
          with_reducible rfl
        rotate_left
        · simp only [Act.put, zA, zB, zC, i64_w, i32_w]
          rfl
        refine done_ (by kernel_rfl) ?_
        go_wp2
        go_ret
        rw [HX.out]
        exact ⟨rfl, below_drew HG.out.2⟩
    · have hd2 : decide ((k : Int) < (a.length : Int)) = false := decide_eq_false (by omega)
      have HX := Aside0.mk (same_eq hl fun j h1 h2 => HG.out.1 j (by omega) h1 h2)
      go_wp2
      go_ret
      rw [HX.out]
      exact ⟨rfl, HG.out.2⟩
 · have hd1 : ((a.length : Int) != (b.length : Int)) = true := bne_iff_ne.2 (by omega)
   have HX := Aside0.mk (same_len hl)
   go_wp2
   go_ret
   rw [HX.out]
   exact ⟨rfl, Below.refl _ _⟩

/-- A definition that may be. -/
def tripN : ByteArray := ⟨#[116, 114, 105, 112]⟩
def tripL : List Step := [⟨⟨#[97]⟩, 3, 0, [], []⟩, ⟨⟨#[98]⟩, 1, 1, [], []⟩, ⟨⟨#[99]⟩, 1, 2, [], [1]⟩]
theorem cnil {α : Type} (d : Kd α) (w : World) (A : Option Addr) : Kd.C d w A 0 [] := ⟨rfl, by omega, fun h => absurd h (Nat.lt_irrefl _)⟩
theorem stepK {w : World} {s : Step} {A1 A2 : Option Addr} {c1 c2 : Nat} (h1 : s.keys.length ≤ c1) (h2 : Kd.C Kd.string w A1 s.keys.length s.keys) (h3 : s.needs.length ≤ c2) (h4 : Kd.C (Kd.int .i64) w A2 s.needs.length s.needs) : StepK w s (cells s (.slice A1 s.keys.length c1) (.slice A2 s.needs.length c2)) :=
 ⟨A1, c1, A2, c2, rfl, h1, h2, h3, h4⟩
theorem ints_row {W : World} {g : Nat} {arr : Array Value} (h : W.heap[g]? = some (.cells arr 3 (0, 0))) (l : List Int) (hl : arr = (l.map (Value.int .i64)).toArray) (h9 : l.length ≤ 1000000) : Kd.C (Kd.int .i64) W (some ⟨g, 0, none⟩) l.length l := by
 refine ⟨rfl, by omega, fun _ => ⟨_, rfl, fun j p hj => ⟨[.int .i64 p], rfl, rfl, fun i u hu => ?_⟩⟩⟩
 match i, hu with
 | 0, hu =>
  simp at hu
  subst hu
  rw [Addr.add_lit]
  refine row_cell h ?_
  rw [hl, show (Kd.int .i64).sz = 1 from rfl]
  simp [hj]
set_option maxHeartbeats 4000000 in
set_option maxRecDepth 100000 in
theorem trip_calls (w : World) :
 Calls Tryz.prog 25 #[] w fun e w' => (∃ ad, e = .returned (.agg #[.string tripN, .slice (some ad) 3 3]) ∧ StepsAt w' (some ad) tripL) ∧ Below w.heap.size w w' := by
 go_enter Tryz.func25, Tryz.ntmps25
 go_wp2
 have s1 : (w.alloc (.cells #[.string ⟨#[116, 114, 105, 112]⟩, .slice (some ⟨w.heap.size + 1 + 1, 0, none⟩) 3 3] 24)).heap.size = w.heap.size + 1 := by
  show (w.heap.push _).size = _
  simp
 have s2 : ((w.alloc (.cells #[.string ⟨#[116, 114, 105, 112]⟩, .slice (some ⟨w.heap.size + 1 + 1, 0, none⟩) 3 3] 24)).alloc (.cells #[.int .i64 1] 3)).heap.size = w.heap.size + 1 + 1 := by
  show ((w.alloc (.cells #[.string ⟨#[116, 114, 105, 112]⟩, .slice (some ⟨w.heap.size + 1 + 1, 0, none⟩) 3 3] 24)).heap.push _).size = _
  simp [s1]
 have b1 := below_one w (.cells #[.string ⟨#[116, 114, 105, 112]⟩, .slice (some ⟨w.heap.size + 1 + 1, 0, none⟩) 3 3] 24)
 have r1 := alloc1 w (.cells #[.string ⟨#[116, 114, 105, 112]⟩, .slice (some ⟨w.heap.size + 1 + 1, 0, none⟩) 3 3] 24)
 generalize World.alloc w _ = w1 at *
 have b2 := below_one w1 (.cells #[.int .i64 1] 3)
 have r2 := alloc1 w1 (.cells #[.int .i64 1] 3)
 replace r1 := row_on b2 r1
 rw [s1] at r2
 generalize World.alloc w1 _ = w2 at *
 have b3 := below_one w2 (.cells #[.string ⟨#[97]⟩, .int .i64 3, .int .i64 0, .slice none 0 0, .slice none 0 0, .string ⟨#[98]⟩, .int .i64 1, .int .i64 1, .slice none 0 0, .slice none 0 0, .string ⟨#[99]⟩, .int .i64 1, .int .i64 2, .slice none 0 0, .slice (some ⟨w.heap.size + 1, 0, none⟩) 1 1] 37)
 have r3 := alloc1 w2 (.cells #[.string ⟨#[97]⟩, .int .i64 3, .int .i64 0, .slice none 0 0, .slice none 0 0, .string ⟨#[98]⟩, .int .i64 1, .int .i64 1, .slice none 0 0, .slice none 0 0, .string ⟨#[99]⟩, .int .i64 1, .int .i64 2, .slice none 0 0, .slice (some ⟨w.heap.size + 1, 0, none⟩) 1 1] 37)
 replace r1 := row_on b3 r1
 replace r2 := row_on b3 r2
 rw [s2] at r3
 generalize World.alloc w2 _ = w3 at *
 refine bodyPost_ret (results_single rfl (.cell w.heap.size 24 _ (0, 0) _ rfl r1 Tryz.underlying24 rfl (by kernel_rfl) .nil)) rfl ?_
 refine ⟨⟨⟨w.heap.size + 1 + 1, 0, none⟩, rfl, ?_⟩, on_ b1 (on_ b2 b3)⟩
 have hone := ints_row r2 [1] rfl (by decide)
 intro i x hx
 match i, hx with
 | 0, hx =>
  injection hx with hx
  subst hx
  refine ⟨_, rfl, _, rfl, stepK (Nat.le_refl _) (cnil _ _ none) (Nat.le_refl _) (cnil _ _ none), fun j u hj => ?_⟩
  rw [Addr.add_lit]
  refine row_cell r3 ?_
  match j, hj with
  | 0, hj | 1, hj | 2, hj | 3, hj | 4, hj => exact hj
 | 1, hx =>
  injection hx with hx
  subst hx
  refine ⟨_, rfl, _, rfl, stepK (Nat.le_refl _) (cnil _ _ none) (Nat.le_refl _) (cnil _ _ none), fun j u hj => ?_⟩
  rw [Addr.add_lit]
  refine row_cell r3 ?_
  match j, hj with
  | 0, hj | 1, hj | 2, hj | 3, hj | 4, hj => exact hj
 | 2, hx =>
  injection hx with hx
  subst hx
  refine ⟨_, rfl, _, rfl, stepK (Nat.le_refl _) (cnil _ _ none) (Nat.le_refl _) hone, fun j u hj => ?_⟩
  rw [Addr.add_lit]
  refine row_cell r3 ?_
  match j, hj with
  | 0, hj | 1, hj | 2, hj | 3, hj | 4, hj => exact hj
end Go.Proofs.YthlgcibckakhbaaGreatDoor.Pl

/- odysseylaw12.live: the walk, by hand. -/
namespace Go.Proofs.YthlgcibckakhbaaGreatDoor.Pl
open Go.RowKit Go.IntWalk Go.Proofs.YthlgcibckakhbaaGreatDoorW.PrintWords Go.Proofs.YthlgcibckakhbaaGreatDoor.PlName

theorem trip_reach {k x : Nat} (h : Reach tripL k x) : k = 2 ∧ x = 1 := by
 have hn : ∀ k : Nat, ∀ y : Nat, (y : Int) ∈ (stepAt tripL k).needs → k = 2 ∧ y = 1 := fun k y hy => by
  match k, hy with
  | 0, hy => exact absurd hy List.not_mem_nil
  | 1, hy => exact absurd hy List.not_mem_nil
  | 2, hy =>
   have : (y : Int) = 1 := List.mem_singleton.1 hy
   exact ⟨rfl, by omega⟩
  | k + 3, hy => exact absurd hy List.not_mem_nil
 induction h with
 | one h => exact hn _ _ h
 | more h _ ih =>
  have h1 := hn _ _ h
  have h2 := ih.1
  omega
theorem trip_alone0 : aloneOk tripL 0 (stepAt tripL 0) = true := by kernel_rfl
theorem trip_alone1 : aloneOk tripL 1 (stepAt tripL 1) = true := by kernel_rfl
theorem trip_alone2 : aloneOk tripL 2 (stepAt tripL 2) = true := by kernel_rfl
theorem trip_alone : ∀ i, i < 3 → aloneOk tripL i (stepAt tripL i) = true := by
 intro i hi
 match i, hi with
 | 0, _ => exact trip_alone0
 | 1, _ => exact trip_alone1
 | 2, _ => exact trip_alone2
theorem tripOk : defOk tripN tripL = true := by
 unfold defOk
 rw [show Nm.isName tripN = true by kernel_rfl, all_range (n := tripL.length) (p := fun i => aloneOk tripL i (stepAt tripL i)) trip_alone, allOf_true (p := fun i => decide (1 < pivots tripL (i + 1))) (n := tripL.length), allOf_true (p := ordersBad tripL) (n := tripL.length), allOf_true (p := ringAt tripL) (n := tripL.length), allOf_true (p := lacksHeld tripL (heldF tripL)) (n := tripL.length)]
 · rfl
 · intro j hj
   match j, hj with
   | 0, _ => rfl
   | 1, _ => rfl
   | 2, _ => rfl
 · intro j hj
   refine ringAt_eq (b := false) ⟨fun h => (by cases h), fun h => ?_⟩
   have := trip_reach h
   omega
 · intro j hj
   match j, hj with
   | 0, _ => rfl
   | 1, _ => rfl
   | 2, _ => rfl
 · intro j hj
   match j, hj with
   | 0, _ => rfl
   | 1, _ => rfl
   | 2, _ => rfl
theorem trip_ahead : aheadL tripN tripL 0 = [1, 2] := by
 unfold aheadL
 rw [tripOk]
 rfl
theorem trip_behind : behindL tripN tripL 1 = [0, 2] := by
 unfold behindL
 rw [tripOk]
 rfl
theorem trip_order : ordL (wars (direct tripL) tripL.length) tripL.length tripL.length = [1, 2, 0] := by rfl
theorem trip_ready : readyL tripN tripL [0, 2, 0] = [2] := by
 unfold readyL
 rw [tripOk]
 rfl
theorem trip_undo : undoL tripN tripL [0, 2, 1] = [2] := by
 unfold undoL
 rw [tripOk]
 rfl
theorem trip_bounds : ∀ s ∈ tripL, StepB s := by
 intro s hs
 have : s = stepAt tripL 0 ∨ s = stepAt tripL 1 ∨ s = stepAt tripL 2 := by
  simpa [tripL, stepAt] using hs
 rcases this with rfl | rfl | rfl <;> (unfold StepB; decide)

theorem lit_row (W : World) (l : List Int) (arr : Array Value) (hl : arr = (l.map (Value.int .i64)).toArray) (h9 : l.length ≤ 1000000) : Kd.C (Kd.int .i64) (W.alloc (.cells arr 3)) (some ⟨W.heap.size, 0, none⟩) l.length l := ints_row (alloc1 W _) l hl h9
/-- A list that is owned, and one that is written out. -/
theorem own_same {w0 w1 W : World} {v : Value} {L : List Nat} (h : Own w0 w1 v L) (hb : Below w1.heap.size w1 W) (b : List Int) (B : Option Addr) (cb : Nat) (hB : Kd.C (Kd.int .i64) W B b.length b) (hl : L.length ≤ 1000) (he : intsOf L = b) :
 Calls Tryz.prog 8 #[v, .slice B b.length cb] W fun e w' => e = .returned (.bool true) ∧ Below W.heap.size W w' := by
 obtain ⟨A, c, rfl, _, hr⟩ := own_reads h
 have hr := Kd.C_below hr hb
 have := same_calls A B c cb (intsOf L) b W hr hB (by rw [intsOf_len]; omega)
 rw [intsOf_len] at this
 rw [show sameI (intsOf L) b = true from decide_eq_true he] at this
 exact this

/-- The worlds of live. -/
structure Lv (w W : World) (g : Nat) (ad : Addr) : Prop where
 below : Below w.heap.size w W
 row : W.heap[g]? = some (.cells #[.string tripN, .slice (some ad) 3 3] 24 (0, 0))
 steps : StepsAt W (some ad) tripL
theorem Lv.on {w W W2 : World} {g : Nat} {ad : Addr} (h : Lv w W g ad) (hb : Below W.heap.size W W2) : Lv w W2 g ad := ⟨on_ h.below hb, row_on hb h.row, h.steps.below hb⟩
theorem Lv.cells {w W : World} {g : Nat} {ad : Addr} (h : Lv w W g ad) : W.cell? ⟨g, 0, none⟩ = some (.string tripN) ∧ W.cell? ⟨g, 1, none⟩ = some (.slice (some ad) 3 3) := ⟨row_cell h.row rfl, row_cell h.row rfl⟩

set_option maxHeartbeats 16000000 in
set_option maxRecDepth 100000 in
theorem live_calls (w : World) (hT : TabsAt w) :
 Calls Tryz.prog 12 #[] w fun e w' => e = .returned (.bool true) ∧ Below w.heap.size w w' := by
 replace hT := Aside0.mk hT
 go_enter Tryz.func12, Tryz.ntmps12
 go_wp2_with (first | (go_at_call 25; refine (trip_calls w).mono ?_; rintro e w1 ⟨⟨ad, rfl, hS⟩, hb1⟩; have H1 := Aside0.mk (And.intro hS (And.intro hb1 (And.intro (below_one w1 (.cells #[.string tripN, .slice (some ad) 3 3] 24)) (alloc1 w1 (.cells #[.string tripN, .slice (some ad) 3 3] 24))))); clear hS hb1))
 generalize hW1 : World.alloc w1 _ = w2 at *
 have L0 := Aside0.mk (Lv.mk (on_ H1.out.2.1 H1.out.2.2.1) H1.out.2.2.2 (H1.out.1.below H1.out.2.2.1) : Lv w w2 w1.heap.size ad)
 clear H1 hW1
 refine (ahead_calls tripN tripL (some ad) 3 0 w2 (by decide) L0.out.steps trip_bounds (by decide) (by decide) (tabs_on hT.out L0.out.below)).mono ?_
 rintro e w3 ⟨⟨v3, rfl, ho3⟩, hb3⟩
 rw [trip_ahead] at ho3
 have O3 := Aside0.mk (And.intro ho3 (L0.out.on hb3))
 clear ho3 hb3
 go_wp2_with fail
 refine (own_same O3.out.1 (below_one w3 (.cells #[.int .i64 1, .int .i64 2] 3)) [1, 2] _ 2 (lit_row w3 [1, 2] _ rfl (by decide)) (by decide) rfl).mono ?_
 rintro e w4 ⟨rfl, hb4⟩
 have L4 := Aside0.mk (O3.out.2.on (on_ (below_one w3 (.cells #[.int .i64 1, .int .i64 2] 3)) hb4))
 obtain ⟨q4, r4⟩ := L4.out.cells
 clear hb4
 go_wp2_with fail
 refine (behind_calls tripN tripL (some ad) 3 1 w4 (by decide) L4.out.steps trip_bounds (by decide) (by decide) (tabs_on hT.out L4.out.below)).mono ?_
 rintro e w5 ⟨⟨v5, rfl, ho5⟩, hb5⟩
 rw [trip_behind] at ho5
 have O5 := Aside0.mk (And.intro ho5 (L4.out.on hb5))
 clear ho5 hb5
 go_wp2_with fail
 refine (own_same O5.out.1 (below_one w5 (.cells #[.int .i64 0, .int .i64 2] 3)) [0, 2] _ 2 (lit_row w5 [0, 2] _ rfl (by decide)) (by decide) rfl).mono ?_
 rintro e w6 ⟨rfl, hb6⟩
 have L6 := Aside0.mk (O5.out.2.on (on_ (below_one w5 (.cells #[.int .i64 0, .int .i64 2] 3)) hb6))
 obtain ⟨q6, r6⟩ := L6.out.cells
 clear hb6
 go_wp2_with fail
 refine (told_calls tripN tripL (some ad) 3 w6 (by decide) L6.out.steps trip_bounds (by decide) (by decide) (tabs_on hT.out L6.out.below) tripOk (defOk_acyc tripOk)).mono ?_
 rintro e w7 ⟨⟨v7, rfl, ho7⟩, hb7⟩
 rw [trip_order] at ho7
 have O7 := Aside0.mk (And.intro ho7 (L6.out.on hb7))
 clear ho7 hb7
 go_wp2_with fail
 refine (own_same O7.out.1 (below_one w7 (.cells #[.int .i64 1, .int .i64 2, .int .i64 0] 3)) [1, 2, 0] _ 3 (lit_row w7 [1, 2, 0] _ rfl (by decide)) (by decide) rfl).mono ?_
 rintro e w8 ⟨rfl, hb8⟩
 have L8 := Aside0.mk (O7.out.2.on (on_ (below_one w7 (.cells #[.int .i64 1, .int .i64 2, .int .i64 0] 3)) hb8))
 obtain ⟨q8, r8⟩ := L8.out.cells
 clear hb8
 go_wp2_with fail
 have S9 := Aside0.mk (And.intro (L8.out.on (below_one w8 (.cells #[.int .i64 0, .int .i64 2, .int .i64 0] 3))) (lit_row w8 [0, 2, 0] _ rfl (by decide)))
 refine (ready_at tripN tripL (some ad) 3 (some ⟨w8.heap.size, 0, none⟩) 3 [0, 2, 0] (World.alloc w8 (.cells #[.int .i64 0, .int .i64 2, .int .i64 0] 3)) (by decide) S9.out.1.steps trip_bounds (by decide) (by decide) (tabs_on hT.out S9.out.1.below) S9.out.2 (by decide)).mono ?_
 rintro e w9 ⟨⟨v9, rfl, ho9⟩, hb9⟩
 rw [trip_ready] at ho9
 have O9 := Aside0.mk (And.intro ho9 (S9.out.1.on hb9))
 clear ho9 hb9
 go_wp2_with fail
 refine (own_same O9.out.1 (below_one w9 (.cells #[.int .i64 2] 3)) [2] _ 1 (lit_row w9 [2] _ rfl (by decide)) (by decide) rfl).mono ?_
 rintro e w10 ⟨rfl, hb10⟩
 have L10 := Aside0.mk (O9.out.2.on (on_ (below_one w9 (.cells #[.int .i64 2] 3)) hb10))
 obtain ⟨q10, r10⟩ := L10.out.cells
 clear hb10
 go_wp2_with fail
 have S11 := Aside0.mk (And.intro (L10.out.on (below_one w10 (.cells #[.int .i64 0, .int .i64 2, .int .i64 1] 3))) (lit_row w10 [0, 2, 1] _ rfl (by decide)))
 refine (undo_at tripN tripL (some ad) 3 (some ⟨w10.heap.size, 0, none⟩) 3 [0, 2, 1] (World.alloc w10 (.cells #[.int .i64 0, .int .i64 2, .int .i64 1] 3)) (by decide) S11.out.1.steps trip_bounds (by decide) (by decide) (tabs_on hT.out S11.out.1.below) S11.out.2 (by decide)).mono ?_
 rintro e w11 ⟨⟨v11, rfl, ho11⟩, hb11⟩
 rw [trip_undo] at ho11
 have O11 := Aside0.mk (And.intro ho11 (S11.out.1.on hb11))
 clear ho11 hb11
 go_wp2_with fail
 refine (own_same O11.out.1 (below_one w11 (.cells #[.int .i64 2] 3)) [2] _ 1 (lit_row w11 [2] _ rfl (by decide)) (by decide) rfl).mono ?_
 rintro e w12 ⟨rfl, hb12⟩
 have L12 := Aside0.mk (O11.out.2.on (on_ (below_one w11 (.cells #[.int .i64 2] 3)) hb12))
 obtain ⟨q12, r12⟩ := L12.out.cells
 clear hb12
 go_wp2_with fail
 go_ret
 exact ⟨rfl, L12.out.below⟩
end Go.Proofs.YthlgcibckakhbaaGreatDoor.Pl

/- odysseylaw12.PlanDone: the walk, by hand. -/
namespace Go.Proofs.YthlgcibckakhbaaGreatDoor.Pl
open Go.RowKit Go.IntWalk Go.Proofs.YthlgcibckakhbaaGreatDoorW.PrintWords Go.Proofs.YthlgcibckakhbaaGreatDoor.PlName

def intsA (st : List Int) : Array Value := (st.map (Value.int .i64)).toArray
theorem intsA_at {st : List Int} {i : Nat} (h : i < st.length) : (intsA st)[i]? = some (.int .i64 (stOf st i)) := by
 unfold intsA stOf
 simp [h]
theorem intsA_set (st : List Int) (i : Nat) (v : Int) : (intsA st).setIfInBounds i (.int .i64 v) = intsA (st.set i v) := by
 unfold intsA
 simp [List.map_set]
theorem stOf_set {st : List Int} {i : Nat} (v : Int) (h : i < st.length) (k : Nat) : stOf (st.set i v) k = if k = i then v else stOf st k := by
 unfold stOf
 rw [List.getD_eq_getElem?_getD, List.getD_eq_getElem?_getD, List.getElem?_set]
 by_cases e : i = k
 · subst e
   simp [h]
 · have : ¬ k = i := fun h => e h.symm
   simp [e, this]
/-- The worlds in which states are kept. -/
structure Ds (w W : World) (nm : ByteArray) (l : List Step) (ad : Addr) (c bs : Nat) (st : List Int) : Prop where
 below : Below w.heap.size w W
 box : W.heap[w.heap.size]? = some (.cells #[.string nm, .slice (some ad) l.length c] 24 (0, 0))
 row : W.heap[bs]? = some (.cells (intsA st) 3 (0, 0))
 lt : w.heap.size < bs
 len : st.length = l.length
section
variable {w W W2 : World} {nm : ByteArray} {l : List Step} {ad : Addr} {c bs : Nat} {st : List Int}
theorem Ds.on (h : Ds w W nm l ad c bs st) (hb : Below W.heap.size W W2) : Ds w W2 nm l ad c bs st := ⟨on_ h.below hb, row_on hb h.box, row_on hb h.row, h.lt, h.len⟩
theorem Ds.cells (h : Ds w W nm l ad c bs st) : W.cell? ⟨w.heap.size, 0, none⟩ = some (.string nm) ∧ W.cell? ⟨w.heap.size, 1, none⟩ = some (.slice (some ad) l.length c) := ⟨row_cell h.box rfl, row_cell h.box rfl⟩
theorem Ds.at_ (h : Ds w W nm l ad c bs st) {x : Nat} (hx : x < l.length) : W.cell? ⟨bs, x, none⟩ = some (.int .i64 (stOf st x)) := row_cell h.row (intsA_at (by rw [h.len]; exact hx))
theorem Ds.free (h : Ds w W nm l ad c bs st) (x : Nat) : W.frozen? ⟨bs, x, none⟩ = false := free_of_row h.row
theorem Ds.set (h : Ds w W nm l ad c bs st) (x : Nat) (v : Int) : Ds w (W.setCell ⟨bs, x, none⟩ (.int .i64 v)) nm l ad c bs (st.set x v) :=
 ⟨h.below.setCell (p := ⟨bs, x, none⟩) (Nat.le_of_lt h.lt) _, row_setCell_ne h.box _ _ (Nat.ne_of_lt h.lt), by rw [row_setCell h.row, intsA_set], h.lt, by rw [List.length_set]; exact h.len⟩
end
/-! ### whichever is done -/
structure Dn (st : List Int) (n k : Nat) : Prop where
 len : st.length = n
 two : ∀ i, i < n → stOf st i = 0 ∨ stOf st i = 2
 cnt_ : cnt (doneF st) n = k
theorem sts_ok {st : List Int} {n : Nat} (hl : st.length = n) (h : ∀ i, i < n → 0 ≤ stOf st i ∧ stOf st i ≤ 5) : stsOk st n = true := by
 unfold stsOk
 rw [decide_eq_true hl, Bool.true_and, Bool.not_eq_true', List.any_eq_false]
 intro x hx
 obtain ⟨j, hj, e⟩ := List.getElem_of_mem hx
 have := h j (by omega)
 have e2 : stOf st j = x := by
  unfold stOf
  rw [List.getD_eq_getElem?_getD, List.getElem?_eq_getElem hj]
  exact e
 rw [e2] at this
 unfold oddS
 simp
 omega
theorem Dn.ok {st : List Int} {n k : Nat} (h : Dn st n k) : stsOk st n = true := sts_ok h.len fun i hi => by rcases h.two i hi with e | e <;> omega
theorem Dn.step {st : List Int} {n k x : Nat} (h : Dn st n k) (hx : x < n) (h0 : stOf st x = 0) : Dn (st.set x 2) n (k + 1) := by
 have hl : x < st.length := by rw [h.len]; exact hx
 refine ⟨by rw [List.length_set]; exact h.len, fun i hi => ?_, ?_⟩
 · rw [stOf_set 2 hl]
   split
   · exact .inr rfl
   · exact h.two i hi
 · have hf : doneF st x = false := by unfold doneF; rw [h0]; rfl
   have e : ∀ i, i < n → doneF (st.set x 2) i = (i == x || doneF st i) := fun i _ => by
    unfold doneF
    rw [stOf_set 2 hl]
    by_cases e : i = x
    · subst e
      simp
    · simp [e]
   rw [cnt_congr e, cnt_add hf, h.cnt_, if_pos hx]
theorem rep_of (n i : Nat) : stOf (List.replicate n 0) i = 0 := by
 unfold stOf
 rw [List.getD_eq_getElem?_getD, List.getElem?_replicate]
 split <;> rfl
theorem Dn.start (n : Nat) : Dn (List.replicate n 0) n 0 := by
 refine ⟨List.length_replicate, fun i _ => .inl (rep_of n i), ?_⟩
 have : ∀ m, cnt (doneF (List.replicate n 0)) m = 0 := by
  intro m
  induction m with
  | zero => rfl
  | succ m ih =>
   rw [cnt, ih]
   have : doneF (List.replicate n 0) m = false := by
    unfold doneF
    rw [rep_of]
    rfl
   rw [this]
   rfl
 exact this n
end Go.Proofs.YthlgcibckakhbaaGreatDoor.Pl

/- odysseyref12: what is ahead, by rounds (the plain law). -/
namespace Go.Proofs.YthlgcibckakhbaaGreatDoor.Pl
open Go.RowKit

theorem Thru.snoc {R : Nat → Nat → Bool} {x k y : Nat} (h : Thru R x k) (hk : R k y = true) : Thru R x y := by
 induction h with
 | one h => exact .more h (.one hk)
 | more h _ ih => exact .more h (ih hk)
/-- Nothing more is to be met. -/
def Cl (R : Nat → Nat → Bool) (n b : Nat) (f : Nat → Bool) : Prop := ∀ c, c < n → (c == b || f c) = true → ∀ a, a < n → R c a = true → f a = true
/-- A round, in its middle. -/
structure Rd (R : Nat → Nat → Bool) (n b : Nat) (f g : Nat → Bool) (a c : Nat) : Prop where
 sound : ∀ x, x < n → g x = true → Thru R b x
 le : ∀ x, x < n → f x = true → g x = true
 hit : ∀ q, q < a → q < n → ∀ p, p < n → (p == b || f p) = true → R p q = true → g q = true
 low : ∀ p, p < c → p < n → (p == b || f p) = true → R p a = true → g a = true
 same : Cl R n b f → ∀ x, x < n → g x = f x
section
variable {R : Nat → Nat → Bool} {n b : Nat} {f g : Nat → Bool} {a c : Nat}
theorem Rd.start (hs : ∀ x, x < n → f x = true → Thru R b x) : Rd R n b f f 0 0 := ⟨hs, fun _ _ h => h, fun q hq => absurd hq (Nat.not_lt_zero _), fun p hp => absurd hp (Nat.not_lt_zero _), fun _ _ _ => rfl⟩
theorem Rd.row (h : Rd R n b f g a n) (ha : a < n) : Rd R n b f g (a + 1) 0 := by
 refine ⟨h.sound, h.le, fun q hq hl p hp he hr => ?_, fun p hp => absurd hp (Nat.not_lt_zero _), h.same⟩
 rcases Nat.lt_succ_iff_lt_or_eq.1 hq with h2 | h2
 · exact h.hit q h2 hl p hp he hr
 · subst h2
   exact h.low p hp hp he hr
theorem Rd.ext (h : Rd R n b f g a c) {p : Nat} (hp : p < n) (he : (p == b || f p) = true) : (p == b || g p) = true := by
 rw [Bool.or_eq_true] at he ⊢
 exact he.imp_right (h.le p hp)
theorem Rd.skip (h : Rd R n b f g a c) (hc : c < n) (hn : ((c == b || g c) && R c a) = false) : Rd R n b f g a (c + 1) := by
 refine ⟨h.sound, h.le, h.hit, fun p hp hl he hr => ?_, h.same⟩
 rcases Nat.lt_succ_iff_lt_or_eq.1 hp with h2 | h2
 · exact h.low p h2 hl he hr
 · subst h2
   rw [h.ext hc he, hr] at hn
   cases hn
theorem Rd.set (h : Rd R n b f g a c) (hc : c < n) (ha : a < n) (h1 : (c == b || g c) = true) (h2 : R c a = true) : Rd R n b f (upd g a true) a (c + 1) := by
 have up : ∀ x, g x = true → upd g a true x = true := fun x hx => by
  unfold upd
  split
  · rfl
  · exact hx
 refine ⟨fun x hx h3 => ?_, fun x hx h3 => up x (h.le x hx h3), fun q hq hl p hp he hr => up q (h.hit q hq hl p hp he hr), fun p hp hl he hr => ?_, fun hcl x hx => ?_⟩
 · unfold upd at h3
   split at h3
   · rename_i e
     subst e
     rw [Bool.or_eq_true, beq_iff_eq] at h1
     rcases h1 with rfl | h1
     · exact .one h2
     · exact (h.sound c hc h1).snoc h2
   · exact h.sound x hx h3
 · unfold upd
   simp
 · unfold upd
   split
   · rename_i e
     subst e
     refine (hcl c hc ?_ _ ha h2).symm
     rw [h.same hcl c hc] at h1
     exact h1
   · exact h.same hcl x hx
theorem Rd.done (h : Rd R n b f g n 0) {r : Nat} (hf : Cl R n b f ∨ r ≤ cnt f n) : (∀ x, x < n → g x = true → Thru R b x) ∧ (Cl R n b g ∨ r + 1 ≤ cnt g n) := by
 refine ⟨h.sound, ?_⟩
 by_cases hc : Cl R n b f
 · left
   intro p hp he q hq hr
   rw [h.same hc p hp] at he
   rw [h.same hc q hq]
   exact hc p hp he q hq hr
 · right
   rcases hf with hf | hf
   · exact absurd hf hc
   · have h2 : ∃ p q : Nat, p < n ∧ q < n ∧ (p == b || f p) = true ∧ R p q = true ∧ f q = false := by
      apply Classical.byContradiction
      intro hno
      apply hc
      intro p hp he q hq hr
      cases hfx : f q
      · exact absurd ⟨p, q, hp, hq, he, hr, hfx⟩ hno
      · rfl
     obtain ⟨p, q, hp, hq, he, hr, hfx⟩ := h2
     have := cnt_lt (f := f) (g := g) (k := q) (n := n) h.le hq (h.hit q hq hq p hp he hr) hfx
     omega
end
/-- Behind as many rounds as there are steps, all that is ahead is met. -/
theorem rounds_wars {R : Nat → Nat → Bool} {n b : Nat} {f : Nat → Bool} (hR : ∀ x y, R x y = true → x < n ∧ y < n) (hb : b < n) (hs : ∀ x, x < n → f x = true → Thru R b x) (hf : Cl R n b f ∨ n ≤ cnt f n) {x : Nat} (hx : x < n) : f x = wars R n b x := by
 have hc : Cl R n b f := by
  rcases hf with hf | hf
  · exact hf
  · exact fun p hp he q hq hr => cnt_full (Nat.le_antisymm (cnt_le _ _) hf) q hq
 have key : ∀ {y z : Nat}, Thru R y z → (y == b || f y) = true → f z = true := by
  intro y z h
  induction h with
  | one h => exact fun he => hc _ (hR _ _ h).1 he _ (hR _ _ h).2 h
  | more h _ ih => exact fun he => ih (by rw [hc _ (hR _ _ h).1 he _ (hR _ _ h).2 h, Bool.or_true])
 rw [Bool.eq_iff_iff, wars_all hR]
 exact ⟨hs x hx, fun h => key h (by rw [beq_self_eq_true, Bool.true_or])⟩
end Go.Proofs.YthlgcibckakhbaaGreatDoor.Pl

/- odysseyref12.directly, may: walked by hand. -/
namespace Go.Proofs.YthlgcibckakhbaaGreatDoor.Pl
open Go.RowKit Go.IntWalk Go.Proofs.YthlgcibckakhbaaGreatDoorW.PrintWords Go.Proofs.YthlgcibckakhbaaGreatDoorW.PrintLast Go.Proofs.YthlgcibckakhbaaGreatDoorW.PrintMore Go.Proofs.YthlgcibckakhbaaGreatDoor.PlName

theorem two_start (w : World) (nm : ByteArray) (vd : Value) (s : Step) (v1 v2 : Value) (t : Step) (u1 u2 : Value) {W : World}
 (hW : ((w.alloc (.cells #[.string nm, vd] 24)).alloc (.cells #[.string s.name, .int .i64 s.kind, .int .i64 s.part, v1, v2] 37)).alloc (.cells #[.string t.name, .int .i64 t.kind, .int .i64 t.part, u1, u2] 37) = W) :
 Alo w W nm vd s v1 v2 ∧ W.cell? ⟨w.heap.size + 1 + 1, 1, none⟩ = some (.int .i64 t.kind) := by
 subst hW
 have h := Alo.start w nm vd s v1 v2
 refine ⟨h.on (below_one _ _), ?_⟩
 have h2 := alloc1 ((w.alloc (.cells #[.string nm, vd] 24)).alloc (.cells #[.string s.name, .int .i64 s.kind, .int .i64 s.part, v1, v2] 37)) (.cells #[.string t.name, .int .i64 t.kind, .int .i64 t.part, u1, u2] 37)
 have h5 : ((w.alloc (.cells #[.string nm, vd] 24)).alloc (.cells #[.string s.name, .int .i64 s.kind, .int .i64 s.part, v1, v2] 37)).heap.size = w.heap.size + 1 + 1 := by
  show ((w.heap.push _).push _).size = _
  simp
 rw [h5] at h2
 exact row_cell h2 rfl

set_option maxHeartbeats 8000000 in
set_option maxRecDepth 100000 in
theorem directly_calls (nm : ByteArray) (l : List Step) (ad : Addr) (c : Nat) (b a : Nat) (w : World) (hS : StepsAt w (some ad) l) (hb : b < l.length) (ha : a < l.length) (hn8 : (stepAt l b).needs.length ≤ 8) :
 Calls Tryz.prog 36 #[.agg #[.string nm, .slice (some ad) l.length c], .int .i64 (b : Int), .int .i64 (a : Int)] w fun e w' => e = .returned (.bool (direct l b a)) ∧ Below w.heap.size w w' := by
 obtain ⟨_, e1, A1, c1, A2, c2, h1⟩ := hS.one (stepAt_eq hb)
 cases e1
 obtain ⟨_, e2, B1, b1, B2, b2, h2⟩ := hS.one (stepAt_eq ha)
 cases e2
 have hbb := below_one w (.cells #[.string nm, .slice (some ad) l.length c] 24)
 have hbx := on_ hbb (below_one (w.alloc (.cells #[.string nm, .slice (some ad) l.length c] 24)) (.cells #[.string (stepAt l b).name, .int .i64 (stepAt l b).kind, .int .i64 (stepAt l b).part, .slice A1 (stepAt l b).keys.length c1, .slice A2 (stepAt l b).needs.length c2] 37))
 obtain ⟨hq0, hq1, hq2, hq3, hq4, _, _, _, _⟩ := h1.below hbb
 obtain ⟨hr0, hr1, hr2, hr3, hr4, _, _, _, _⟩ := h2.below hbx
 have hdc := (Alo.start w nm (.slice (some ad) l.length c) (stepAt l b) (.slice A1 (stepAt l b).keys.length c1) (.slice A2 (stepAt l b).needs.length c2)).cells
 obtain ⟨_, _, _, _, _, hd0, hd1⟩ := hdc
 have HW := Aside0.mk (fun W hW => two_start (W := W) w nm (.slice (some ad) l.length c) (stepAt l b) (.slice A1 (stepAt l b).keys.length c1) (.slice A2 (stepAt l b).needs.length c2) (stepAt l a) (.slice B1 (stepAt l a).keys.length b1) (.slice B2 (stepAt l a).needs.length b2) hW)
 have HN := Aside0.mk h1.needs
 have HD := Aside0.mk (direct_lt hb ha)
 clear h1 h2 hbb hbx hS
 generalize direct l b a = rr at *
 generalize stepAt l b = s at *
 generalize stepAt l a = t at *
 go_enter Tryz.func36, Tryz.ntmps36
 go_wp2
 generalize hW : World.alloc (World.alloc (World.alloc w _) _) _ = w0 at *
 clear hq0 hq1 hq2 hq3 hq4 hr0 hr1 hr2 hr3 hr4 hd0 hd1
 have H0 := Aside0.mk (HW.out _ rfl)
 obtain ⟨a0, a1, a2, a3, a4, d0, d1⟩ := H0.out.1.cells
 have e1 := H0.out.2
 clear a0 a2 a3 d0 d1 hW HW
 go_loopw [9] (fun v9 wr => ∃ k : Nat, k ≤ s.needs.length ∧ v9 = .int .i64 (k : Int) ∧ (∀ j (hj : j < k) (hl : j < s.needs.length), s.needs[j] ≠ (a : Int)) ∧ wr = w0) (fun v9 _ => s.needs.length - (intOf v9).toNat)
 case atStart => exact ⟨0, Nat.zero_le _, rfl, fun j hj => absurd hj (Nat.not_lt_zero _), rfl⟩
 case round =>
  obtain ⟨k, hk, rfl, hal, rfl⟩ := hrel
  have HG := Aside0.mk hal
  clear hal
  by_cases hlt : k < s.needs.length
  · have hd2 : decide ((k : Int) < (s.needs.length : Int)) = true := decide_eq_true (by omega)
    obtain ⟨an, rfl, hx⟩ := int_at HN.out hlt
    replace hx := cell_on H0.out.1.below hx
    by_cases he : s.needs[k] = (a : Int)
    · have HR : Aside0 (rr = true) := ⟨by rw [HD.out, Bool.or_eq_true]; exact Or.inl (List.contains_iff_mem.2 (he ▸ List.getElem_mem hlt))⟩
      rw [he] at hx
      have hd3 : ((a : Int) == (a : Int)) = true := beq_self_eq_true _
      go_wp2
      go_ret
      rw [HR.out]
      exact ⟨rfl, H0.out.1.below⟩
    · have HE := Aside0.mk he
      have hd3 : (s.needs[k] == (a : Int)) = false := beq_eq_false_iff_ne.2 he
      have HS : Aside0 (∀ j (hj : j < k + 1) (hl : j < s.needs.length), s.needs[j] ≠ (a : Int)) := ⟨fun j hj hl => by
       rcases Nat.lt_succ_iff_lt_or_eq.1 hj with h3 | h3
       · exact HG.out j h3 hl
       · subst h3
         exact he⟩
      clear he
      generalize s.needs[k] = m at *
      go_wp2
      go_roundw
      case rel => exact ⟨k + 1, hlt, by go_num, HS.out, by first | rfl | trivial⟩
      case measure => simp [intOf]; omega
  · have hd2 : decide ((k : Int) < (s.needs.length : Int)) = false := decide_eq_false (by omega)
    have hk' : k = s.needs.length := by omega
    have HR : Aside0 (rr = decide (t.kind < s.kind)) := ⟨by
     rw [HD.out]
     have h3 : s.needs.contains (a : Int) = false := by
      cases hc : s.needs.contains (a : Int)
      · rfl
      · obtain ⟨j, hj, e⟩ := List.getElem_of_mem (List.contains_iff_mem.1 hc)
        exact absurd e (HG.out j (by omega) hj)
     rw [h3, Bool.false_or]⟩
    clear hk'
    go_wp2
    go_ret
    rw [HR.out]
    exact ⟨rfl, H0.out.1.below⟩

set_option maxHeartbeats 8000000 in
set_option maxRecDepth 100000 in
theorem may_calls (nm : ByteArray) (l : List Step) (A : Option Addr) (c : Nat) (w : World) (hnm : nm.size ≤ 140737488351232) (hS : StepsAt w A l) (hb : ∀ s ∈ l, StepB s) (hn : l.length ≤ 9000000000000) (hc : l.length ≤ c) :
 Calls Tryz.prog 22 #[.agg #[.string nm, .slice A l.length c]] w fun e w' => e = .returned (.bool (defOk nm l)) ∧ Below w.heap.size w w' := by
 have hbb := below_one w (.cells #[.string nm, .slice A l.length c] 24)
 have hck := Aside0.mk (refCheck_calls nm l A c _ hnm (hS.below hbb) hb hn hc)
 have HW := Aside0.mk hbb
 clear hbb hS hb
 generalize defOk nm l = rr at *
 go_enter Tryz.func22, Tryz.ntmps22
 go_wp2_with (first | (go_at_call 35; refine hck.out.mono ?_; rintro e w1 ⟨⟨xa, xb, rfl, hxb⟩, hb1⟩; have H1 := Aside0.mk (And.intro hxb (on_ HW.out hb1)); clear hxb hb1))
 go_ret
 exact ⟨by rw [← H1.out.1]; rfl, H1.out.2⟩
end Go.Proofs.YthlgcibckakhbaaGreatDoor.Pl

/- odysseyref12.numbers: walked by hand. -/
namespace Go.Proofs.YthlgcibckakhbaaGreatDoor.Pl
open Go.RowKit Go.IntWalk Go.Proofs.YthlgcibckakhbaaGreatDoorW.PrintWords Go.Proofs.YthlgcibckakhbaaGreatDoorW.PrintLast Go.Proofs.YthlgcibckakhbaaGreatDoorW.PrintMore Go.Proofs.YthlgcibckakhbaaGreatDoor.PlName

/-- The worlds of numbers. -/
structure Nb (w wr : World) (nm : ByteArray) (l : List Step) (A : Option Addr) (c : Nat) (f : Nat → Bool) (v : Value) (i : Nat) : Prop where
 below : Below w.heap.size w wr
 box : wr.heap[w.heap.size]? = some (.cells #[.string nm, .slice A l.length c] 24 (0, 0))
 row : wr.heap[w.heap.size + 1]? = some (.cells (rowA f 8) 48 (0, 0))
 own : Own w wr v (sel f i)
theorem nb_start (w : World) (nm : ByteArray) (l : List Step) (A : Option Addr) (c : Nat) (f : Nat → Bool) {W : World}
 (hW : (w.alloc (.cells #[.string nm, .slice A l.length c] 24)).alloc (.cells #[.bool (f 0), .bool (f 1), .bool (f 2), .bool (f 3), .bool (f 4), .bool (f 5), .bool (f 6), .bool (f 7)] 48) = W) : Nb w W nm l A c f (.slice none 0 0) 0 := by
 subst hW
 have h1 := below_one w (.cells #[.string nm, .slice A l.length c] 24)
 have r1 := alloc1 w (.cells #[.string nm, .slice A l.length c] 24)
 have s1 : (w.alloc (.cells #[.string nm, .slice A l.length c] 24)).heap.size = w.heap.size + 1 := by
  show (w.heap.push _).size = _
  simp
 generalize w.alloc (.cells #[.string nm, .slice A l.length c] 24) = w1 at *
 have h2 := below_one w1 (.cells (rowA f 8) 48)
 have r2 := alloc1 w1 (.cells (rowA f 8) 48)
 rw [s1] at r2
 exact ⟨on_ h1 h2, row_on h2 r1, r2, World.ownsRow_nil _ _ _ _⟩
theorem nb_push {w wr w5 : World} {nm : ByteArray} {l : List Step} {A : Option Addr} {c : Nat} {f : Nat → Bool} {v v' : Value} {i : Nat} {tmp : Obj} (h : Nb w wr nm l A c f v i) (hi : f i = true) (hown : w5.ownsRow w.heap.size 3 1 v' ((sel f i).length + 1) (selV (sel f i) ++ [.int .i64 (i : Int)])) (hgr : (wr.alloc tmp).grownBy w5 v.ownBlock) : Nb w w5 nm l A c f v' (i + 1) := by
 have hc : Chg (fun q => v.ownBlock = some q) wr w5 := (Chg.of_below (below_one wr tmp)).trans (Chg.of_own hgr)
 have hne : ∀ q o, v.ownBlock = some q → wr.heap[q]? = some o → ∃ cur, o = .cells cur 3 (0, 0) := fun q o hq ho => by
  rcases h.own.2 with ⟨e, _⟩ | ⟨g, cap, cur, e, _, h2, _⟩
  · rw [e] at hq
    cases hq
  · rw [e] at hq
    injection hq with hq
    have hq : g = q := hq
    subst hq
    rw [h2] at ho
    injection ho with ho
    exact ⟨cur, ho.symm⟩
 refine ⟨(h.below.alloc h.below.size tmp).grown hgr (by have := (below_one wr tmp).size; have := h.below.size; omega) fun k hk => (h.own.lt k hk).1, hc.row h.box (fun e => ?_), hc.row h.row (fun e => ?_), ?_⟩
 · obtain ⟨cur, e2⟩ := hne _ _ e h.box
   simp at e2
 · obtain ⟨cur, e2⟩ := hne _ _ e h.row
   simp at e2
 · unfold Own
   rw [sel_hit hi, selV_snoc, List.length_append]
   exact hown
set_option maxHeartbeats 8000000 in
set_option maxRecDepth 100000 in
theorem numbers_calls (nm : ByteArray) (l : List Step) (A : Option Addr) (c : Nat) (f : Nat → Bool) (w : World) (hl8 : l.length ≤ 8) :
 Calls Tryz.prog 23 #[.agg #[.string nm, .slice A l.length c], .agg #[.bool (f 0), .bool (f 1), .bool (f 2), .bool (f 3), .bool (f 4), .bool (f 5), .bool (f 6), .bool (f 7)]] w fun e w' => (∃ v, e = .returned v ∧ Own w w' v (sel f l.length)) ∧ Below w.heap.size w w' := by
 obtain ⟨i3, hi3, hz3, hs3, hb3⟩ := info_parts int_info
 have HI := Aside0.mk (And.intro hi3 (And.intro hz3 (And.intro hs3 hb3)))
 have HW := Aside0.mk (fun W hW => nb_start (W := W) w nm l A c f hW)
 clear hi3 hz3 hs3 hb3
 go_enter Tryz.func23, Tryz.ntmps23
 go_wp2
 generalize hW : World.alloc (World.alloc w _) _ = w0 at *
 have H0 := Aside0.mk (HW.out _ rfl)
 clear hW HW
 go_loopw [5, 6] (fun v5 v6 wr => ∃ i : Nat, i ≤ l.length ∧ v6 = .int .i64 (i : Int) ∧ Nb w wr nm l A c f v5 i) (fun _ v6 _ => l.length - (intOf v6).toNat)
 case atStart => exact ⟨0, Nat.zero_le _, rfl, H0.out⟩
 case round =>
  obtain ⟨i, hi, rfl, hN⟩ := hrel
  have HG := Aside0.mk hN
  have hq1 := row_cell (j := 1) hN.box rfl
  clear H0
  by_cases hlt : i < l.length
  · have hd2 : decide ((i : Int) < (l.length : Int)) = true := decide_eq_true (by omega)
    have hd8 : decide ((i : Int) < 8) = true := decide_eq_true (by omega)
    have hqi := row_cell (j := i) hN.row (rowA_at (show i < 8 by omega))
    clear hN
    cases hn1 : f i
    · rw [hn1] at hqi
      go_wp2
      go_roundw
      case rel => exact ⟨i + 1, hlt, by go_num, ⟨HG.out.below, HG.out.box, HG.out.row, by rw [sel_miss hn1]; exact HG.out.own⟩⟩
      case measure => simp [intOf]; omega
    · rw [hn1] at hqi
      have hsl := sel_len f i
      have hlow := HG.out.below.size
      go_wp2_with (first | (at_builtin; refine wpList_append_own _ rfl (.tmp 17) (.tmp 19) 26 rfl w.heap.size 3 i3 (.int .i64 0) 1 8 Tryz.underlying26 HI.out.1 HI.out.2.1 HI.out.2.2.1 HI.out.2.2.2 rfl (by decide) _ (sel f i).length (selV (sel f i)) rfl (HG.out.own.alloc _) ⟨wr.heap.size, 0, none⟩ 1 1 [.int .i64 (i : Int)] rfl rfl (one_new _ _ _) (by intro u hu; simp at hu; subst hu; rfl) (by unfold maxLen; omega) (by omega) (by simp; omega) ?_; intro v' w5 hown5 hgr5 _; have HN := Aside0.mk (And.intro hown5 hgr5); clear hown5 hgr5))
      go_roundw
      case rel =>
       refine ⟨i + 1, hlt, by go_num, nb_push HG.out hn1 HN.out.1 HN.out.2⟩
      case measure => simp [intOf]; omega
  · have hi' : i = l.length := by omega
    subst hi'
    have hd2 : decide ((l.length : Int) < (l.length : Int)) = false := decide_eq_false (by omega)
    clear hN
    go_wp2
    go_ret
    exact ⟨⟨_, rfl, HG.out.own⟩, HG.out.below⟩
end Go.Proofs.YthlgcibckakhbaaGreatDoor.Pl

/- odysseyref12.ahead: walked by hand. -/
namespace Go.Proofs.YthlgcibckakhbaaGreatDoor.Pl
open Go.RowKit Go.IntWalk Go.Proofs.YthlgcibckakhbaaGreatDoorW.PrintWords Go.Proofs.YthlgcibckakhbaaGreatDoorW.PrintLast Go.Proofs.YthlgcibckakhbaaGreatDoorW.PrintMore Go.Proofs.YthlgcibckakhbaaGreatDoor.PlName

/-- The worlds of ahead. -/
structure An (w wr : World) (nm : ByteArray) (l : List Step) (ad : Addr) (c : Nat) (f : Nat → Bool) : Prop where
 below : Below w.heap.size w wr
 box : wr.heap[w.heap.size]? = some (.cells #[.string nm, .slice (some ad) l.length c] 24 (0, 0))
 res : wr.heap[w.heap.size + 1]? = some (.cells (rowA (fun _ => false) 8) 48 (0, 0))
 row : wr.heap[w.heap.size + 1 + 1]? = some (.cells (rowA f 8) 48 (0, 0))
section
variable {w wr W2 : World} {nm : ByteArray} {l : List Step} {ad : Addr} {c : Nat} {f : Nat → Bool}
theorem An.on (h : An w wr nm l ad c f) (hb : Below wr.heap.size wr W2) : An w W2 nm l ad c f := ⟨on_ h.below hb, row_on hb h.box, row_on hb h.res, row_on hb h.row⟩
theorem An.set (h : An w wr nm l ad c f) (m : Nat) : An w (wr.setCell ⟨w.heap.size + 1 + 1, m, none⟩ (.bool true)) nm l ad c (upd f m true) :=
 ⟨h.below.setCell (p := ⟨w.heap.size + 1 + 1, m, none⟩) (Nat.le_trans (Nat.le_succ _) (Nat.le_succ _)) _, row_setCell_ne h.box _ _ (by show w.heap.size ≠ w.heap.size + 1 + 1; omega), row_setCell_ne h.res _ _ (by show w.heap.size + 1 ≠ w.heap.size + 1 + 1; omega), by rw [row_setCell h.row, rowA_set]⟩
theorem An.cells (h : An w wr nm l ad c f) : wr.cell? ⟨w.heap.size, 0, none⟩ = some (.string nm) ∧ wr.cell? ⟨w.heap.size, 1, none⟩ = some (.slice (some ad) l.length c) := ⟨row_cell h.box rfl, row_cell h.box rfl⟩
theorem An.start (w : World) (nm : ByteArray) (l : List Step) (ad : Addr) (c : Nat) {W : World}
 (hW : ((w.alloc (.cells #[.string nm, .slice (some ad) l.length c] 24)).alloc (.cells #[.bool false, .bool false, .bool false, .bool false, .bool false, .bool false, .bool false, .bool false] 48)).alloc (.cells #[.bool false, .bool false, .bool false, .bool false, .bool false, .bool false, .bool false, .bool false] 48) = W) : An w W nm l ad c (fun _ => false) := by
 subst hW
 have h1 := below_one w (.cells #[.string nm, .slice (some ad) l.length c] 24)
 have r1 := alloc1 w (.cells #[.string nm, .slice (some ad) l.length c] 24)
 have s1 : (w.alloc (.cells #[.string nm, .slice (some ad) l.length c] 24)).heap.size = w.heap.size + 1 := by
  show (w.heap.push _).size = _
  simp
 generalize w.alloc (.cells #[.string nm, .slice (some ad) l.length c] 24) = w1 at *
 have h2 := below_one w1 (.cells (rowA (fun _ => false) 8) 48)
 have r2 := alloc1 w1 (.cells (rowA (fun _ => false) 8) 48)
 have s2 : (w1.alloc (.cells (rowA (fun _ => false) 8) 48)).heap.size = w1.heap.size + 1 := by
  show (w1.heap.push _).size = _
  simp
 show An w ((w1.alloc (.cells (rowA (fun _ => false) 8) 48)).alloc (.cells (rowA (fun _ => false) 8) 48)) nm l ad c (fun _ => false)
 generalize w1.alloc (.cells (rowA (fun _ => false) 8) 48) = w2 at *
 have h3 := below_one w2 (.cells (rowA (fun _ => false) 8) 48)
 have r3 := alloc1 w2 (.cells (rowA (fun _ => false) 8) 48)
 rw [s2, s1] at r3
 rw [s1] at r2
 exact ⟨on_ (on_ h1 h2) h3, row_on h3 (row_on h2 r1), row_on h3 r2, r3⟩
end

set_option maxHeartbeats 16000000 in
set_option maxRecDepth 100000 in
theorem refAhead_calls (nm : ByteArray) (l : List Step) (ad : Addr) (c : Nat) (b : Nat) (w : World) (hS : StepsAt w (some ad) l) (hb : b < l.length) (hl8 : l.length ≤ 8) (hin : ∀ k, k < l.length → (stepAt l k).needs.length ≤ 8) :
 Calls Tryz.prog 24 #[.agg #[.string nm, .slice (some ad) l.length c], .int .i64 (b : Int)] w fun e w' => (∃ f : Nat → Bool, e = .returned (.agg #[.bool (f 0), .bool (f 1), .bool (f 2), .bool (f 3), .bool (f 4), .bool (f 5), .bool (f 6), .bool (f 7)]) ∧ ∀ x, x < l.length → f x = wars (direct l) l.length b x) ∧ Below w.heap.size w w' := by
 have HA := Aside0.mk (And.intro hS hin)
 have hrr := alloc1 w (.cells #[.string nm, .slice (some ad) l.length c] 24)
 have HW := Aside0.mk (fun W hW => An.start (W := W) w nm l ad c hW)
 clear hS hin hrr
 go_enter Tryz.func24, Tryz.ntmps24
 go_wp2
 generalize hW : World.alloc (World.alloc (World.alloc w _) _) _ = w0 at *
 have H0 := Aside0.mk (HW.out _ rfl)
 clear hW HW
 go_loopw [11] (fun v11 wr => ∃ (r : Nat) (f : Nat → Bool), r ≤ l.length ∧ v11 = .int .i64 (r : Int) ∧ (∀ x, x < l.length → f x = true → Thru (direct l) b x) ∧ (Cl (direct l) l.length b f ∨ r ≤ cnt f l.length) ∧ An w wr nm l ad c f) (fun v11 _ => l.length - (intOf v11).toNat)
 case atStart => exact ⟨0, _, Nat.zero_le _, rfl, fun x _ h => (by cases h), .inr (Nat.zero_le _), H0.out⟩
 case round =>
  obtain ⟨r, f, hr, rfl, hs, hc, hR⟩ := hrel
  have HG := Aside0.mk (And.intro hs (And.intro hc hR))
  obtain ⟨hq0, hq1⟩ := hR.cells
  by_cases hlr : r < l.length
  · have hd1 : decide ((r : Int) < (l.length : Int)) = true := decide_eq_true (by omega)
    clear hs hc hR H0
    go_wp2
    clear hq0 hq1
    go_loopw [6] (fun v6 wr => ∃ (a : Nat) (g : Nat → Bool), a ≤ l.length ∧ v6 = .int .i64 (a : Int) ∧ Rd (direct l) l.length b f g a 0 ∧ An w wr nm l ad c g) (fun v6 _ => l.length - (intOf v6).toNat)
    case atStart => exact ⟨0, f, Nat.zero_le _, rfl, Rd.start HG.out.1, HG.out.2.2⟩
    case round =>
     obtain ⟨a, g, ha, rfl, hrd, hR⟩ := hrel
     have HM := Aside0.mk (And.intro hrd hR)
     obtain ⟨hq0, hq1⟩ := hR.cells
     clear hrd hR
     by_cases hla : a < l.length
     · have hd2 : decide ((a : Int) < (l.length : Int)) = true := decide_eq_true (by omega)
       go_wp2
       clear hq0 hq1
       go_loopw [7] (fun v7 wr => ∃ (k : Nat) (g : Nat → Bool), k ≤ l.length ∧ v7 = .int .i64 (k : Int) ∧ Rd (direct l) l.length b f g a k ∧ An w wr nm l ad c g) (fun v7 _ => l.length - (intOf v7).toNat)
       case atStart => exact ⟨0, g, Nat.zero_le _, rfl, HM.out.1, HM.out.2⟩
       case round =>
        clear HM
        obtain ⟨k, g, hk, rfl, hrd, hR⟩ := hrel
        have HM := Aside0.mk (And.intro hrd hR)
        obtain ⟨hq0, hq1⟩ := hR.cells
        clear hrd
        by_cases hlk : k < l.length
        · have hd3 : decide ((k : Int) < (l.length : Int)) = true := decide_eq_true (by omega)
          have hqk := row_cell (j := k) hR.row (rowA_at (show k < 8 by omega))
          have hd8 : decide ((k : Int) < 8) = true := decide_eq_true (by omega)
          have hn8 := HA.out.2 k hlk
          have hdi := Aside0.mk (fun W (h : Below w.heap.size w W) => directly_calls nm l ad c k a W (HA.out.1.below h) hlk hla hn8)
          have hqa := fun W (h : An w W nm l ad c g) => row_cell (j := a) h.row (rowA_at (f := g) (show a < 8 by omega))
          have HQA := Aside0.mk hqa
          clear hR hn8 hqa
          by_cases hkb : k = b
          · subst hkb
            have hd4 : ((k : Int) == (k : Int)) = true := beq_self_eq_true _
            cases hdir : direct l k a
            · have HS := Aside0.mk (HM.out.1.skip hlk (by rw [hdir, Bool.and_false]))
              rw [hdir] at hdi
              go_wp2_with (first | (go_at_call 36; refine (hdi.out _ HM.out.2.below).mono ?_; rintro e w5 ⟨rfl, hb5⟩; have H5 := Aside0.mk (HM.out.2.on hb5); clear hb5))
              go_roundw
              case rel => exact ⟨k + 1, g, hlk, by go_num, HS.out, H5.out⟩
              case measure => simp [intOf]; omega
            · have HS := Aside0.mk (HM.out.1.set hlk hla (by rw [beq_self_eq_true, Bool.true_or]) hdir)
              rw [hdir] at hdi
              go_wp2_with (first | (go_at_call 36; refine (hdi.out _ HM.out.2.below).mono ?_; rintro e w5 ⟨rfl, hb5⟩; have H5 := Aside0.mk (HM.out.2.on hb5); have hqa5 := HQA.out _ H5.out; have hfa5 := free_of_row (j := a) H5.out.row; clear hb5))
              go_roundw
              case rel => exact ⟨k + 1, _, hlk, by go_num, HS.out, H5.out.set a⟩
              case measure => simp [intOf]; omega
          · have hd4 : ((k : Int) == (b : Int)) = false := beq_eq_false_iff_ne.2 (by omega)
            have hkb' : (k == b) = false := beq_eq_false_iff_ne.2 hkb
            cases hgk : g k
            · rw [hgk] at hqk
              have HS := Aside0.mk (HM.out.1.skip hlk (by rw [hkb', hgk]; rfl))
              go_wp2
              go_roundw
              case rel => exact ⟨k + 1, g, hlk, by go_num, HS.out, HM.out.2⟩
              case measure => simp [intOf]; omega
            · rw [hgk] at hqk
              cases hdir : direct l k a
              · have HS := Aside0.mk (HM.out.1.skip hlk (by rw [hdir, Bool.and_false]))
                rw [hdir] at hdi
                go_wp2_with (first | (go_at_call 36; refine (hdi.out _ HM.out.2.below).mono ?_; rintro e w5 ⟨rfl, hb5⟩; have H5 := Aside0.mk (HM.out.2.on hb5); clear hb5))
                go_roundw
                case rel => exact ⟨k + 1, g, hlk, by go_num, HS.out, H5.out⟩
                case measure => simp [intOf]; omega
              · have HS := Aside0.mk (HM.out.1.set hlk hla (by rw [hgk, Bool.or_true]) hdir)
                rw [hdir] at hdi
                go_wp2_with (first | (go_at_call 36; refine (hdi.out _ HM.out.2.below).mono ?_; rintro e w5 ⟨rfl, hb5⟩; have H5 := Aside0.mk (HM.out.2.on hb5); have hqa5 := HQA.out _ H5.out; have hfa5 := free_of_row (j := a) H5.out.row; clear hb5))
                go_roundw
                case rel => exact ⟨k + 1, _, hlk, by go_num, HS.out, H5.out.set a⟩
                case measure => simp [intOf]; omega
        · have hd3 : decide ((k : Int) < (l.length : Int)) = false := decide_eq_false (by omega)
          have hk' : k = l.length := by omega
          subst hk'
          have HS := Aside0.mk (HM.out.1.row hla)
          clear hR
          go_wp2
          go_roundw
          case rel => exact ⟨a + 1, g, hla, by go_num, HS.out, HM.out.2⟩
          case measure => simp [intOf]; omega
     · have hd2 : decide ((a : Int) < (l.length : Int)) = false := decide_eq_false (by omega)
       have ha' : a = l.length := by omega
       subst ha'
       have HE := Aside0.mk (HM.out.1.done HG.out.2.1)
       go_wp2
       go_roundw
       case rel => exact ⟨r + 1, g, hlr, by go_num, HE.out.1, HE.out.2, HM.out.2⟩
       case measure => simp [intOf]; omega
  · have hd1 : decide ((r : Int) < (l.length : Int)) = false := decide_eq_false (by omega)
    have hr' : r = l.length := by omega
    subst hr'
    have HF : Aside0 (∀ x, x < l.length → f x = wars (direct l) l.length b x) := ⟨fun x hx => rounds_wars (fun x y h => direct_in h) hb hs hc hx⟩
    have hrow := hR.row
    have hres := hR.res
    clear hs hc H0 hR
    have q0 := row_cell (j := 0) hrow (rowA_at (show 0 < 8 by decide))
    have p0 := row_cell (j := 0) hres (rowA_at (show 0 < 8 by decide))
    have z0 := free_of_row (j := 0) hres
    have q1 := row_cell (j := 1) hrow (rowA_at (show 1 < 8 by decide))
    have p1 := row_cell (j := 1) hres (rowA_at (show 1 < 8 by decide))
    have z1 := free_of_row (j := 1) hres
    have q2 := row_cell (j := 2) hrow (rowA_at (show 2 < 8 by decide))
    have p2 := row_cell (j := 2) hres (rowA_at (show 2 < 8 by decide))
    have z2 := free_of_row (j := 2) hres
    have q3 := row_cell (j := 3) hrow (rowA_at (show 3 < 8 by decide))
    have p3 := row_cell (j := 3) hres (rowA_at (show 3 < 8 by decide))
    have z3 := free_of_row (j := 3) hres
    have q4 := row_cell (j := 4) hrow (rowA_at (show 4 < 8 by decide))
    have p4 := row_cell (j := 4) hres (rowA_at (show 4 < 8 by decide))
    have z4 := free_of_row (j := 4) hres
    have q5 := row_cell (j := 5) hrow (rowA_at (show 5 < 8 by decide))
    have p5 := row_cell (j := 5) hres (rowA_at (show 5 < 8 by decide))
    have z5 := free_of_row (j := 5) hres
    have q6 := row_cell (j := 6) hrow (rowA_at (show 6 < 8 by decide))
    have p6 := row_cell (j := 6) hres (rowA_at (show 6 < 8 by decide))
    have z6 := free_of_row (j := 6) hres
    have q7 := row_cell (j := 7) hrow (rowA_at (show 7 < 8 by decide))
    have p7 := row_cell (j := 7) hres (rowA_at (show 7 < 8 by decide))
    have z7 := free_of_row (j := 7) hres
    have hE := row_setCell (row_setCell (row_setCell (row_setCell (row_setCell (row_setCell (row_setCell (row_setCell (hres) 0 (.bool (f 0))) 1 (.bool (f 1))) 2 (.bool (f 2))) 3 (.bool (f 3))) 4 (.bool (f 4))) 5 (.bool (f 5))) 6 (.bool (f 6))) 7 (.bool (f 7))
    have hB := ((((((((HG.out.2.2.below).setCell (p := ⟨w.heap.size + 1, 0, none⟩) (Nat.le_succ _) (.bool (f 0))).setCell (p := ⟨w.heap.size + 1, 1, none⟩) (Nat.le_succ _) (.bool (f 1))).setCell (p := ⟨w.heap.size + 1, 2, none⟩) (Nat.le_succ _) (.bool (f 2))).setCell (p := ⟨w.heap.size + 1, 3, none⟩) (Nat.le_succ _) (.bool (f 3))).setCell (p := ⟨w.heap.size + 1, 4, none⟩) (Nat.le_succ _) (.bool (f 4))).setCell (p := ⟨w.heap.size + 1, 5, none⟩) (Nat.le_succ _) (.bool (f 5))).setCell (p := ⟨w.heap.size + 1, 6, none⟩) (Nat.le_succ _) (.bool (f 6))).setCell (p := ⟨w.heap.size + 1, 7, none⟩) (Nat.le_succ _) (.bool (f 7))
    have HB := Aside0.mk hB
    have HE := Aside0.mk hE
    clear hE hB
    go_wp2
    clear q0 p0 z0 q1 p1 z1 q2 p2 z2 q3 p3 z3 q4 p4 z4 q5 p5 z5 q6 p6 z6 q7 p7 z7 hrow hres
    have r1 := HE.out
    refine bodyPost_ret (results_single rfl (.cell (w.heap.size + 1) 48 _ (0, 0) _ rfl r1 Tryz.underlying48 rfl (by kernel_rfl) .nil)) rfl ?_
    exact ⟨⟨f, rfl, HF.out⟩, HB.out⟩
end Go.Proofs.YthlgcibckakhbaaGreatDoor.Pl

/- odysseyref12.Ahead (ZD): walked by hand. -/
namespace Go.Proofs.YthlgcibckakhbaaGreatDoor.Pl
open Go.RowKit Go.IntWalk Go.Proofs.YthlgcibckakhbaaGreatDoorW.PrintWords Go.Proofs.YthlgcibckakhbaaGreatDoorW.PrintLast Go.Proofs.YthlgcibckakhbaaGreatDoorW.PrintMore Go.Proofs.YthlgcibckakhbaaGreatDoor.PlName

theorem sel_congr {f g : Nat → Bool} {n : Nat} (h : ∀ x, x < n → f x = g x) : sel f n = sel g n := by
 unfold sel
 exact List.filter_congr fun x hx => h x (List.mem_range.1 hx)
end Go.Proofs.YthlgcibckakhbaaGreatDoor.Pl

/- odysseyref12.Behind (ZD): walked by hand. -/
namespace Go.Proofs.YthlgcibckakhbaaGreatDoor.Pl
open Go.RowKit Go.IntWalk Go.Proofs.YthlgcibckakhbaaGreatDoorW.PrintWords Go.Proofs.YthlgcibckakhbaaGreatDoorW.PrintLast Go.Proofs.YthlgcibckakhbaaGreatDoorW.PrintMore Go.Proofs.YthlgcibckakhbaaGreatDoor.PlName

/-- The worlds of Behind. -/
structure Bn (w wr : World) (nm : ByteArray) (l : List Step) (ad : Addr) (c bs : Nat) (g : Nat → Bool) : Prop where
 below : Below w.heap.size w wr
 box : wr.heap[w.heap.size]? = some (.cells #[.string nm, .slice (some ad) l.length c] 24 (0, 0))
 row : wr.heap[bs]? = some (.cells (rowA g 8) 48 (0, 0))
 lt : w.heap.size < bs
section
variable {w wr W2 : World} {nm : ByteArray} {l : List Step} {ad : Addr} {c bs : Nat} {g : Nat → Bool}
theorem Bn.on (h : Bn w wr nm l ad c bs g) (hb : Below wr.heap.size wr W2) : Bn w W2 nm l ad c bs g := ⟨on_ h.below hb, row_on hb h.box, row_on hb h.row, h.lt⟩
theorem Bn.set (h : Bn w wr nm l ad c bs g) (m : Nat) (x : Bool) : Bn w (wr.setCell ⟨bs, m, none⟩ (.bool x)) nm l ad c bs (upd g m x) :=
 ⟨h.below.setCell (p := ⟨bs, m, none⟩) (Nat.le_of_lt h.lt) _, row_setCell_ne h.box _ _ (Nat.ne_of_lt h.lt), by rw [row_setCell h.row, rowA_set], h.lt⟩
theorem Bn.cells (h : Bn w wr nm l ad c bs g) : wr.cell? ⟨w.heap.size, 0, none⟩ = some (.string nm) ∧ wr.cell? ⟨w.heap.size, 1, none⟩ = some (.slice (some ad) l.length c) := ⟨row_cell h.box rfl, row_cell h.box rfl⟩
end
set_option maxRecDepth 100000 in
theorem idx8 (f : Nat → Bool) (w : World) {b : Nat} (hb : b < 8) : (Instr.index 48 (.agg #[.bool (f 0), .bool (f 1), .bool (f 2), .bool (f 3), .bool (f 4), .bool (f 5), .bool (f 6), .bool (f 7)]) (.int .i64 (b : Int))).run Tryz.prog w = .ok (.bool (f b)) w := by
 have h : b = 0 ∨ b = 1 ∨ b = 2 ∨ b = 3 ∨ b = 4 ∨ b = 5 ∨ b = 6 ∨ b = 7 := by omega
 rcases h with rfl | rfl | rfl | rfl | rfl | rfl | rfl | rfl
 all_goals rfl
end Go.Proofs.YthlgcibckakhbaaGreatDoor.Pl

-- Written by gprint.py, a program of this session, over the kit's print of the loaded functions. Not trusted: Lean checks it.
namespace Go.Proofs.YthlgcibckakhbaaGreatDoor.F
open Go.RowKit Go.Proofs.YthlgcibckakhbaaGreatDoorW.PrintWords Go.Proofs.YthlgcibckakhbaaGreatDoorW.PrintLast Go.Proofs.YthlgcibckakhbaaGreatDoorW.PrintMore 
attribute [local go_sem] max2_int min2_int max_two min_two max_three min_three max_four min_four   -- for this text's walks alone
set_option linter.unusedVariables false
set_option linter.unusedSimpArgs false

def errW : Option Int → Value
 | none => .nilIface
 | some c => .iface 0 (.int .i64 c)
theorem errW_none : errW none = .nilIface := rfl
theorem errW_some (c : Int) : errW (some c) = .iface 0 (.int .i64 c) := rfl

theorem info3 : (Tryz.prog.info? 3).map (fun i => (i.zero, i.size, i.bytes)) = some (some (.int .i64 0), 1, 8) := by kernel_rfl
-- the values' own types

end Go.Proofs.YthlgcibckakhbaaGreatDoor.F

-- Written by gprint.py, a program of this session, over the kit's print of the loaded functions. Not trusted: Lean checks it.
namespace Go.Proofs.YthlgcibckakhbaaGreatDoor.F
open Go.RowKit Go.Proofs.YthlgcibckakhbaaGreatDoorW.PrintWords Go.Proofs.YthlgcibckakhbaaGreatDoorW.PrintLast Go.Proofs.YthlgcibckakhbaaGreatDoorW.PrintMore 
attribute [local go_sem] max2_int min2_int max_two min_two max_three min_three max_four min_four   -- for this text's walks alone
set_option linter.unusedVariables false
set_option linter.unusedSimpArgs false

/-! ### odysseylaw12_filled: function 11 -/
def odysseylaw12_filled.l0 : Nat → List Int → Int → Option (Unit)
 | 0, _, _ => none
 | k + 1, x0, x2 => if x2 < (x0.length : Int) then (if 0 ≤ x2 then (odysseylaw12_filled.l0 k (x0.set (x2 : Int).toNat (wrap64 ((-7) - x2))) (wrap64 (x2 + 1))) else (none)) else ((some (([(-9), (-9)] : List Int) : List Int)).bind fun y102 => (if x0.length + y102.length < 17592186044416 then ((some (x0 ++ y102 : List Int)).bind fun y105 => (if 0 ≤ (wrap64 ((y105.length : Int) - 1)) then (if (wrap64 ((y105.length : Int) - 1)) < (y105.length : Int) then (some ()) else (none)) else (none))) else (none)))
def odysseylaw12_filled.f (k : Nat) (l0 : List Int) : Option (Unit) := odysseylaw12_filled.l0 k l0 0
theorem odysseylaw12_filled.mono_l : ∀ k, (∀ y0 y1, LeO (odysseylaw12_filled.l0 k y0 y1) (odysseylaw12_filled.l0 (k + 1) y0 y1))
 | 0 => fun _ _ r h => by simp [odysseylaw12_filled.l0] at h
 | k + 1 => by
  have ih0 := odysseylaw12_filled.mono_l k
  · intro y0 y1
    unfold odysseylaw12_filled.l0
    repeat' first
    | (with_reducible exact ih0 _ _)
    | (with_reducible exact LeO.refl _)
    | (with_reducible exact LeO.none _)
    | (with_reducible refine LeO.ite ?_ ?_)
    | (with_reducible refine LeO.bind ?_ (fun _ => ?_))
    | exact ih0 _ _
    | exact LeO.none _
    | refine LeO.ite ?_ ?_
    | refine LeO.bind ?_ (fun _ => ?_)
theorem odysseylaw12_filled.mono : ∀ a0 k, LeO (odysseylaw12_filled.f k a0) (odysseylaw12_filled.f (k + 1) a0) := by
 intro a0 k
 have ih0 := odysseylaw12_filled.mono_l k
 unfold odysseylaw12_filled.f
 repeat' first
  | (with_reducible exact ih0 _ _)
  | (with_reducible exact LeO.refl _)
  | (with_reducible exact LeO.none _)
  | (with_reducible refine LeO.ite ?_ ?_)
  | (with_reducible refine LeO.bind ?_ (fun _ => ?_))
  | exact ih0 _ _
  | exact LeO.none _
  | refine LeO.ite ?_ ?_
  | refine LeO.bind ?_ (fun _ => ?_)
set_option maxHeartbeats 8000000 in
set_option maxRecDepth 100000 in
theorem odysseylaw12_filled.calls (k : Nat) (P0_ : Nat → Prop) (u9000_ : Value) (l0 : List Int) (w0 w : World) (hB : Below w0.heap.size w0 w) (ho0 : Kd.R (Kd.int .i64) 3 w w0.heap.size P0_ u9000_ l0) (h : odysseylaw12_filled.f k l0 = some ()) :
 Calls Tryz.prog 11 #[u9000_] w fun e w' => e = .returned (.tuple #[]) ∧ Below w0.heap.size w0 w' ∧ Kept w w' (fun k_ => P0_ k_) := by
 have HO0 := Aside0.mk (show Kd.R (Kd.int .i64) 3 w w0.heap.size (fun k_ => (P0_ k_ ∨ w.heap.size ≤ k_)) u9000_ l0 from Kd.R_mono ho0 (fun k_ hk => (.inl hk)))
 have HK := Aside0.mk (Kept.refl w (fun k_ => P0_ k_))
 have HW0 := Aside0.mk hB.size
 have HB := Aside0.mk hB
 clear hB
 have H : (odysseylaw12_filled.l0 k l0 0) = some () := h
 clear h
 have H' := Aside0.mk H
 clear H
 go_enter Tryz.func11, Tryz.ntmps11
 go_wp2
 go_loopg [2] k (fun kq v2 w' => ∃ (x0_1 : List Int) (x2_1 : Int), v2 = .int .i64 x2_1 ∧ Aside0 (odysseylaw12_filled.l0 kq x0_1 x2_1 = some ()) ∧ Aside0 (kq ≤ k) ∧ Aside0 (Kd.R (Kd.int .i64) 3 w' w0.heap.size (fun k_ => (P0_ k_ ∨ w.heap.size ≤ k_)) u9000_ x0_1) ∧ Aside0 (Kept w w' (fun k_ => P0_ k_)) ∧ Aside0 (Below w0.heap.size w0 w'))
 case atStart => exact ⟨(l0), (0), (by first | rfl | (simp; done) | (simp [*]; done)), H', ⟨Nat.le_refl _⟩, ⟨by (with_reducible repeat (first | apply Kd.R_alloc | apply Kd.R_drewN | apply Kd.R_drew)); exact HO0.out⟩, ⟨by repeat (first | (with_reducible first | exact HK.out | apply Kept.alloc | apply Kept.drewN | apply Kept.drew) | exact HK.out)⟩, ⟨by repeat (first | (with_reducible first | exact HB.out | apply below_alloc | apply pw_below_drewN | apply below_drew1) | exact HB.out)⟩⟩
 case round =>
  clear H'
  try clear c1
  obtain ⟨x0_1, x2_1, rfl, HA, HK1, HO_0, HK, HB⟩ := hrel
  cases gk with
  | zero => exact absurd HA.out (by simp [odysseylaw12_filled.l0])
  | succ k1 =>
   have H := HA.out
   clear HA
   simp only [odysseylaw12_filled.l0] at H
   by_cases c2 : x2_1 < (x0_1.length : Int)
   · rw [if_pos c2] at H
     have c2b0 : decide (x2_1 < (x0_1.length : Int)) = true := decide_eq_true c2
     clear c2
     by_cases c3 : 0 ≤ x2_1
     · rw [if_pos c3] at H
       have c3b0 : decide (0 ≤ x2_1) = true := decide_eq_true c3
       clear c3
       obtain ⟨y101, hy101⟩ : ∃ y_ : List Int, y_ = (x0_1.set (x2_1 : Int).toNat (wrap64 ((-7) - x2_1))) := ⟨_, rfl⟩
       replace H : (odysseylaw12_filled.l0 k1 y101 (wrap64 (x2_1 + 1))) = some () := by first | (rw [hy101]; with_reducible exact H) | (have H2_ := (Option.bind_some _ _).symm.trans H; rw [hy101]; with_reducible exact H2_) | (have H2_ := (Option.bind_some _ _).symm.trans H; with_reducible exact H2_) | with_reducible exact H | (rw [hy101]; exact H) | exact H
       have Ny101 := Aside0.mk hy101
       clear hy101
       have H' := Aside0.mk H
       clear H
       obtain ⟨Ao5, co5, eo5⟩ := Kd.R_slice HO_0.out
       subst eo5
       have p4 : 0 ≤ (x2_1 : Int) := of_decide_eq_true (by first | (with_reducible assumption) | assumption)
       have q4 : (x2_1 : Int) < ((x0_1.length : Int) : Int) := of_decide_eq_true (by first | (with_reducible assumption) | assumption)
       obtain ⟨go4, co4, eo4, gb4, gl4, cl4, HG4⟩ := Kd.R_form HO_0.out (by omega)
       (first | cases eo4 | (injection eo4 with ea_ en_ ec_; (first | subst ea_ | (injection ea_ with ea_; subst ea_)); subst ec_; clear en_))
       have GB4 := Aside0.mk gb4
       have GG4 := Aside0.mk HG4
       clear gb4 gl4 HG4
       have HMgo4 := Aside0.mk (show (P0_ go4 ∨ w.heap.size ≤ go4) from (HO_0.out.1 _ rfl))
       obtain ⟨hx4_0, hf4_0⟩ := Kd.R_celln 0 HO_0.out (x2_1 : Int) p4 q4
       replace p4 := eq_true p4
       replace q4 := eq_true q4
       have HP6 := Kd.R_putg HO_0.out (x2_1 : Int) (wrap64 ((-7) - x2_1))
       go_wp2_with (first | ((with_reducible refine gate_store (t := 3) (p := 13) rfl ?_); refine store_event (t := 3) (p := 13) (v := ?vo_w7) (w1 := (wr.setCell ⟨go4, (x2_1 : Int).toNat, none⟩ (.int .i64 (wrap64 ((-7) - x2_1))))) ?hg ?ho ?hn ?hr ?_; (case ho => rfl); (case hg => rfl); (case hn => rfl); (case hr => first | (go_simp; done) | (go_simp; rfl)); intro w7 hw; have hg : wr.grownBy w7 (some go4) := (by rw [hw]; exact HP6.2); have hp_ : Kd.R (Kd.int .i64) 3 w7 w0.heap.size (fun k_ => (P0_ k_ ∨ w.heap.size ≤ k_)) (.slice (some ⟨go4, 0, none⟩) x0_1.length co5) y101 := (by rw [hw, Ny101.out]; exact HP6.1); clear HP6; have n0_ := Aside0.mk (hp_); have n1_ := Aside0.mk ((by rw [hw]; exact below_set (HB.out) GB4.out : Below w0.heap.size w0 w7)); have n2_ := Aside0.mk (Kept.of_grown (S := (fun k_ => P0_ k_)) hg (by repeat (first | (with_reducible first | exact HK.out | apply Kept.alloc | apply Kept.drewN | apply Kept.drew) | exact HK.out)) (fun k_ e_ => (HO_0.out.1 k_ e_))); clear HO_0; clear HB; clear HK; have HO_0 := n0_; have HB := n1_; have HK := n2_; clear n0_ n1_ n2_; clear hg hw hp_))
       go_roundg k1
       case measure => have := HK1.out; omega
       case rel => exact ⟨(y101), (wrap64 (x2_1 + 1)), (by first | rfl | (simp; done) | (simp [*]; done)), H', ⟨by have := HK1.out; omega⟩, ⟨by (with_reducible repeat (first | apply Kd.R_alloc | apply Kd.R_drewN | apply Kd.R_drew)); exact HO_0.out⟩, ⟨by repeat (first | (with_reducible first | exact HK.out | apply Kept.alloc | apply Kept.drewN | apply Kept.drew) | exact HK.out)⟩, ⟨by repeat (first | (with_reducible first | exact HB.out | apply below_alloc | apply pw_below_drewN | apply below_drew1) | exact HB.out)⟩⟩
     · rw [if_neg c3] at H
       exact absurd H (by simp)
   · rw [if_neg c2] at H
     have c2b0 : decide (x2_1 < (x0_1.length : Int)) = false := decide_eq_false c2
     clear c2
     obtain ⟨y102, hy102⟩ : ∃ y_ : List Int, y_ = (([(-9), (-9)] : List Int)) := ⟨_, rfl⟩
     replace H : (if x0_1.length + y102.length < 17592186044416 then ((some (x0_1 ++ y102 : List Int)).bind fun y105 => (if 0 ≤ (wrap64 ((y105.length : Int) - 1)) then (if (wrap64 ((y105.length : Int) - 1)) < (y105.length : Int) then (some ()) else (none)) else (none))) else (none)) = some () := by first | (rw [hy102]; with_reducible exact H) | (have H2_ := (Option.bind_some _ _).symm.trans H; rw [hy102]; with_reducible exact H2_) | (have H2_ := (Option.bind_some _ _).symm.trans H; with_reducible exact H2_) | with_reducible exact H | (rw [hy102]; exact H) | exact H
     have Ny102 := Aside0.mk hy102
     clear hy102
     by_cases c8 : x0_1.length + y102.length < 17592186044416
     · rw [if_pos c8] at H
       have LMc8 := Aside0.mk c8
       clear c8
       obtain ⟨y105, hy105⟩ : ∃ y_ : List Int, y_ = (x0_1 ++ y102) := ⟨_, rfl⟩
       replace H : (if 0 ≤ (wrap64 ((y105.length : Int) - 1)) then (if (wrap64 ((y105.length : Int) - 1)) < (y105.length : Int) then (some ()) else (none)) else (none)) = some () := by first | (rw [hy105]; with_reducible exact H) | (have H2_ := (Option.bind_some _ _).symm.trans H; rw [hy105]; with_reducible exact H2_) | (have H2_ := (Option.bind_some _ _).symm.trans H; with_reducible exact H2_) | with_reducible exact H | (rw [hy105]; exact H) | exact H
       have Ny105 := Aside0.mk hy105
       clear hy105
       obtain ⟨ji9, hji9⟩ : ∃ j_ : Int, (wrap64 ((y105.length : Int) - 1)) = j_ := ⟨_, rfl⟩
       replace H : (if 0 ≤ (ji9) then (if (ji9) < (y105.length : Int) then (some ()) else (none)) else (none)) = some () := by first | (rw [hji9] at H; exact H) | (simp only [hji9] at H ⊢; exact H)
       have hji9w : (IntKind.i64.wrap ((y105.length : Int) - 1)) = ji9 := (i64_w _).trans hji9
       by_cases c10 : 0 ≤ (ji9)
       · rw [if_pos c10] at H
         have c10b0 : decide (0 ≤ (ji9)) = true := decide_eq_true c10
         clear c10
         by_cases c11 : (ji9) < (y105.length : Int)
         · rw [if_pos c11] at H
           have c11b0 : decide ((ji9) < (y105.length : Int)) = true := decide_eq_true c11
           clear c11
           obtain ⟨y108, hy108⟩ : ∃ y_ : List Int, y_ = (y105.set ((ji9) : Int).toNat (-8)) := ⟨_, rfl⟩
           replace H : (some ()) = some () := by first | (rw [hy108]; with_reducible exact H) | (have H2_ := (Option.bind_some _ _).symm.trans H; rw [hy108]; with_reducible exact H2_) | (have H2_ := (Option.bind_some _ _).symm.trans H; with_reducible exact H2_) | with_reducible exact H | (rw [hy108]; exact H) | exact H
           have Ny108 := Aside0.mk hy108
           clear hy108
           obtain ⟨Ao13, co13, eo13⟩ := Kd.R_slice HO_0.out
           subst eo13
           go_wp2_with (first | ((with_reducible refine gate_dst (N := 15) rfl ?_); refine Kd.R_lit (Kd.int .i64) _ 3 ?hg (N := 15) ?hd (xs := ([(-9), (-9)] : List Int)) (inner := [.int .i64 (-9), .int .i64 (-9)]) (ok := fun _ => True) (okp := fun _ => True) ?hr ?hp (fun _ hk => hk) trivial (Below.refl _ _) (Nat.le_refl _) (by simp) ?_; (case hd => rfl); (case hg => rfl); (case hr => first | (go_simp; done) | (go_simp; rfl)); (case hp => exact (Reps.one (show Kd.M (Kd.int .i64) _ _ _ (-9) [.int .i64 (-9)] from rfl) (Reps.one (show Kd.M (Kd.int .i64) _ _ _ (-9) [.int .i64 (-9)] from rfl) (Reps.none _ _)))); intro v103 w14 ho15 hb hg_ hnew_; clear hg_ hnew_; (first | rw [← Ny102.out] at ho15 | (simp only [Int.reduceToNat] at ho15; rw [← Ny102.out] at ho15)); have n0_ := Aside0.mk (Kd.R_elder' (by (with_reducible repeat (first | apply Kd.R_alloc | apply Kd.R_drewN | apply Kd.R_drew)); exact HO_0.out) (Kd.R_base ho15) hb); have n1_ := Aside0.mk (Kd.R_lower (Kd.R_new' (Kd.R_newM (M := fun k_ => (P0_ k_ ∨ w.heap.size ≤ k_)) ho15 (by first | exact HK.out.1 | exact (show Kept w _ (fun k_ => P0_ k_) from by repeat (first | (with_reducible first | exact HK.out | apply Kept.alloc | apply Kept.drewN | apply Kept.drew) | exact HK.out)).1) (fun k_ h_ => .inr h_)) (Kd.R_lt (by (with_reducible repeat (first | apply Kd.R_alloc | apply Kd.R_drewN | apply Kd.R_drew)); exact HO_0.out))) (below_size (by repeat (first | (with_reducible first | exact HB.out | apply below_alloc | apply pw_below_drewN | apply below_drew1) | exact HB.out)))); have n2_ := Aside0.mk (Kept.below (S := (fun k_ => P0_ k_)) (by repeat (first | (with_reducible first | exact HK.out | apply Kept.alloc | apply Kept.drewN | apply Kept.drew) | exact HK.out)) hb); have n3_ := Aside0.mk (below_step (by repeat (first | (with_reducible first | exact HB.out | apply below_alloc | apply pw_below_drewN | apply below_drew1) | exact HB.out)) hb); clear HO_0; clear HK; clear HB; have HO_0 := n0_; have HO104 := n1_; have HK := n2_; have HB := n3_; clear n0_ n1_ n2_ n3_; clear hb ho15; obtain ⟨Ao17, co17, eo17⟩ := Kd.R_slice HO104.out; subst eo17) | ((with_reducible refine gate_builtin (b := .append) (xs := #[.tmp 14, .tmp 15]) rfl ?_); at_builtin; refine Kd.R_append_rows (Kd.int .i64) (w0 := w0) w0.heap.size rfl (.tmp 14) (.tmp 15) 26 3 (.int .i64 0) 8 rfl Tryz.underlying26 info3 rfl (by decide) (by omega) (.slice Ao13 x0_1.length co13) x0_1 y102 _ _ _ (fun k_ => (P0_ k_ ∨ w.heap.size ≤ k_) ∧ some k_ ≠ (.slice Ao17 y102.length co17 : Value).ownBlock) (fun _ => False) rfl rfl ?aO ?aR (fun _ _ h => h) (fun _ h => h.elim) ?aF ?aB ?aS ?aL ?_; (case aR => repeat (first | exact (Kd.R_reads' HO104.out).2.2 | (with_reducible refine Kd.C_alloc ?_ _) | (with_reducible refine Kd.C_drewN ?_ _) | (with_reducible refine Kd.C_drew ?_))); (case aB => exact (by repeat (first | (with_reducible first | exact HB.out | apply below_alloc | apply pw_below_drewN | apply below_drew1) | exact HB.out))); (case aF => exact (fun k_ hk => ⟨(.inr (Nat.le_trans (by first | exact HK.out.1 | exact (show Kept w _ (fun k_ => P0_ k_) from by repeat (first | (with_reducible first | exact HK.out | apply Kept.alloc | apply Kept.drewN | apply Kept.drew) | exact HK.out)).1) hk)), Kd.fresh' (Kd.R_lt (by (with_reducible repeat (first | apply Kd.R_alloc | apply Kd.R_drewN | apply Kd.R_drew)); exact HO104.out)) k_ hk⟩)); (case aO => exact (by (with_reducible repeat (first | apply Kd.R_alloc | apply Kd.R_drewN | apply Kd.R_drew)); exact HO_0.out)); (case aS => exact (below_size (by repeat (first | (with_reducible first | exact HB.out | apply below_alloc | apply pw_below_drewN | apply below_drew1) | exact HB.out)))); (case aL => have := LMc8.out; omega); intro v106 w16 ho hb hg hat; rw [← Ny105.out] at ho; have n0_ := Aside0.mk (Kd.R_after (ok := (fun k_ => (P0_ k_ ∨ w.heap.size ≤ k_))) (by (with_reducible repeat (first | apply Kd.R_alloc | apply Kd.R_drewN | apply Kd.R_drew)); exact Kd.R_mono HO104.out (fun _ hk => ⟨hk.1.1, hk.2⟩)) hg hat); have n1_ := Aside0.mk (hb); have n2_ := Aside0.mk (Kept.of_grown (S := (fun k_ => P0_ k_)) hg (by repeat (first | (with_reducible first | exact HK.out | apply Kept.alloc | apply Kept.drewN | apply Kept.drew) | exact HK.out)) (fun k_ e_ => (HO_0.out.1 k_ e_).1)); have n3_ := Aside0.mk (ho); clear HO104; clear HB; clear HK; clear HO_0; have HO104 := n0_; have HB := n1_; have HK := n2_; have HO107 := n3_; clear n0_ n1_ n2_ n3_; clear ho hb hg hat; obtain ⟨Ao18, co18, eo18⟩ := Kd.R_slice HO107.out; subst eo18; have p12 : 0 ≤ ((ji9) : Int) := of_decide_eq_true (by first | (with_reducible assumption) | assumption); have q12 : ((ji9) : Int) < ((y105.length : Int) : Int) := of_decide_eq_true (by first | (with_reducible assumption) | assumption); obtain ⟨go12, co12, eo12, gb12, gl12, cl12, HG12⟩ := Kd.R_form HO107.out (by omega); (first | cases eo12 | (injection eo12 with ea_ en_ ec_; (first | subst ea_ | (injection ea_ with ea_; subst ea_)); subst ec_; clear en_)); have GB12 := Aside0.mk gb12; have GG12 := Aside0.mk HG12; clear gb12 gl12 HG12; have HMgo12 := Aside0.mk (show (P0_ go12 ∨ w.heap.size ≤ go12) from (HO107.out.1 _ rfl).1); obtain ⟨hx12_0, hf12_0⟩ := Kd.R_celln 0 HO107.out ((ji9) : Int) p12 q12; replace p12 := eq_true p12; replace q12 := eq_true q12; obtain ⟨hy19_, hz19_⟩ := Kd.R_celln 0 HO107.out ((ji9) : Int) (of_decide_eq_true (by first | (with_reducible assumption) | assumption)) (of_decide_eq_true (by first | (with_reducible assumption) | assumption)); have HP19 := Kd.R_putg HO107.out ((ji9) : Int) (-8)) | ((with_reducible refine gate_store (t := 3) (p := 21) rfl ?_); refine store_event (t := 3) (p := 21) (v := ?vo_w20) (w1 := (w16.setCell ⟨go12, ((ji9) : Int).toNat, none⟩ (.int .i64 (-8)))) ?hg ?ho ?hn ?hr ?_; (case ho => rfl); (case hg => rfl); (case hn => rfl); (case hr => first | (go_simp; done) | (go_simp; rfl)); intro w20 hw; have hg : w16.grownBy w20 (some go12) := (by rw [hw]; exact HP19.2); have hp_ : Kd.R (Kd.int .i64) 3 w20 w0.heap.size (fun k_ => (P0_ k_ ∨ w.heap.size ≤ k_) ∧ some k_ ≠ (.slice Ao17 y102.length co17 : Value).ownBlock) (.slice (some ⟨go12, 0, none⟩) y105.length co18) y108 := (by rw [hw, Ny108.out]; exact HP19.1); clear HP19; have n0_ := Aside0.mk (Kd.R_after (v := (.slice (some ⟨go12, 0, none⟩) y105.length co18)) (v1 := (.slice (some ⟨go12, 0, none⟩) y105.length co18)) (ok := (fun k_ => (P0_ k_ ∨ w.heap.size ≤ k_))) (by (with_reducible repeat (first | apply Kd.R_alloc | apply Kd.R_drewN | apply Kd.R_drew)); exact HO104.out) hg (.inl rfl)); have n1_ := Aside0.mk (hp_); have n2_ := Aside0.mk ((by rw [hw]; exact below_set (HB.out) GB12.out : Below w0.heap.size w0 w20)); have n3_ := Aside0.mk (Kept.of_grown (S := (fun k_ => P0_ k_)) hg (by repeat (first | (with_reducible first | exact HK.out | apply Kept.alloc | apply Kept.drewN | apply Kept.drew) | exact HK.out)) (fun k_ e_ => (HO107.out.1 k_ e_).1)); clear HO104; clear HO107; clear HB; clear HK; have HO104 := n0_; have HO107 := n1_; have HB := n2_; have HK := n3_; clear n0_ n1_ n2_ n3_; clear hg hw hp_))
           first | go_end0 | ((try simp only [Exit.inBlock, Exit.then]); refine bodyPost_ret (results_none rfl _ _ _) rfl ?_)
           exact ⟨by first | rfl | (simp [errW_none, errW_some] <;> rfl) | (simp only [← hji9]; first | rfl | (simp [errW_none, errW_some] <;> rfl)) | (simp [*, errW_none, errW_some] <;> rfl), by repeat (first | (with_reducible first | exact HB.out | apply below_alloc | apply pw_below_drewN | apply below_drew1) | exact HB.out), by repeat (first | (with_reducible first | exact HK.out | apply Kept.alloc | apply Kept.drewN | apply Kept.drew) | exact HK.out)⟩
         · rw [if_neg c11] at H
           exact absurd H (by simp)
       · rw [if_neg c10] at H
         exact absurd H (by simp)
     · rw [if_neg c8] at H
       exact absurd H (by simp)

end Go.Proofs.YthlgcibckakhbaaGreatDoor.F

/- odysseylaw12.filled: what it answers (plain law). -/
namespace Go.Proofs.YthlgcibckakhbaaGreatDoor.F
open Go.RowKit Go.Proofs.YthlgcibckakhbaaGreatDoorW.PrintWords

theorem filled_loop : ∀ (k m i : Nat) (l : List Int), l.length - i = m → i ≤ l.length → m < k → l.length ≤ 1000 → odysseylaw12_filled.l0 k l (i : Int) = some ()
 | 0, _, _, _, _, _, h, _ => absurd h (Nat.not_lt_zero _)
 | k + 1, m, i, l, hm, hi, hk, hl => by
  rw [odysseylaw12_filled.l0]
  by_cases h : i < l.length
  · have hw : wrap64 ((i : Int) + 1) = ((i + 1 : Nat) : Int) := by unfold wrap64; omega
    rw [if_pos (by omega), if_pos (by omega), hw]
    exact filled_loop k (m - 1) (i + 1) _ (by rw [List.length_set]; omega) (by rw [List.length_set]; omega) (by omega) (by rw [List.length_set]; omega)
  · have hw : wrap64 (((l.length + 2 : Nat) : Int) - 1) = (l.length : Int) + 1 := by unfold wrap64; omega
    rw [if_neg (by omega), Option.bind_some, if_pos (by simp; omega), Option.bind_some]
    simp only [List.length_append, List.length_cons, List.length_nil, Nat.zero_add, Nat.reduceAdd]
    rw [hw, if_pos (by omega), if_pos (by omega)]
theorem filled_f (l : List Int) (hl : l.length ≤ 1000) : odysseylaw12_filled.f (l.length + 1) l = some () := filled_loop _ l.length 0 l (by omega) (by omega) (by omega) hl
end Go.Proofs.YthlgcibckakhbaaGreatDoor.F
namespace Go.Proofs.YthlgcibckakhbaaGreatDoor.Pl
open Go.RowKit Go.Proofs.YthlgcibckakhbaaGreatDoorW.PrintWords

theorem own_R {w0 w : World} {v : Value} {L : List Nat} (h : Own w0 w v L) : Kd.R (Kd.int .i64) 3 w w0.heap.size (fun k => v.ownBlock = some k) v (intsOf L) := by
 refine ⟨fun k hk => hk, selV L, by rw [intsOf_len]; exact h, ?_⟩
 have := Kd.reps_scalar (enc := Value.int .i64) (intsOf L)
 have e : encs (Value.int .i64) (intsOf L) = selV L := by simp [encs, intsOf, selV]
 rw [e] at this
 exact this
theorem filled_calls {w0 w : World} {v : Value} {L : List Nat} (h : Own w0 w v L) (hB : Below w0.heap.size w0 w) (hl : L.length ≤ 1000) :
 Calls Tryz.prog 11 #[v] w fun e w' => e = .returned (.tuple #[]) ∧ Below w0.heap.size w0 w' ∧ Chg (fun k => v.ownBlock = some k) w w' := by
 refine (F.odysseylaw12_filled.calls _ (fun k => v.ownBlock = some k) v (intsOf L) w0 w hB (own_R h) (F.filled_f _ (by rw [intsOf_len]; exact hl))).mono ?_
 rintro e w' ⟨rfl, hb, hk⟩
 exact ⟨rfl, hb, ⟨hb.os.trans hB.os.symm, hb.tape.trans hB.tape.symm, hb.output.trans hB.output.symm, hk.1, fun k h1 h2 => hk.2 k h1 h2⟩⟩
end Go.Proofs.YthlgcibckakhbaaGreatDoor.Pl

-- PRINTED BY print.sh 35421559b90ae4d0a3588c463048766b98c2df88dd9212a6774a882060cdf62d: not written by this session
namespace Go.Proofs.YthlgcibckakhbaaGreatDoor.PPlanAheads
open Go.RowKit Go.Proofs.YthlgcibckakhbaaGreatDoorW.PrintWords Go.Proofs.YthlgcibckakhbaaGreatDoorW.PrintLast Go.Proofs.YthlgcibckakhbaaGreatDoorW.PrintMore
attribute [local go_sem] max2_int min2_int max_two min_two max_three min_three max_four min_four   -- for this text's walks alone
set_option linter.unusedVariables false
set_option linter.unusedSimpArgs false

/-! ### odysseyref10_Copy: function 5 -/
def odysseyref10_Copy.l0 : Nat → Int → ByteArray → List (S37) → ByteArray → List (S37) → Option (ByteArray × (List (S37)))
 | 0, _, _, _, _, _ => none
 | k + 1, x4, x102000, x102001, x104000, x104001 => if x4 < (x102001.length : Int) then (if 0 ≤ x4 then (if ([] : List ByteArray).length + ((rd_T37 x102001 x4).f3).length < 8796093022208 then (if ([] : List Int).length + ((rd_T37 x102001 x4).f4).length < 17592186044416 then (if x104001.length < 1759218604441 then (odysseyref10_Copy.l0 k (wrap64 (x4 + 1)) x102000 x102001 x104000 (x104001 ++ [(⟨(rd_T37 x102001 x4).f0, (rd_T37 x102001 x4).f1, (rd_T37 x102001 x4).f2, (([] : List ByteArray) ++ ((rd_T37 x102001 x4).f3)), (([] : List Int) ++ ((rd_T37 x102001 x4).f4))⟩ : S37)])) else (none)) else (none)) else (none)) else (none)) else (some (x104000, x104001))
def odysseyref10_Copy.f (k : Nat) (a0_0 : ByteArray) (l0_1 : List (S37)) : Option (ByteArray × (List (S37))) := odysseyref10_Copy.l0 k 0 a0_0 l0_1 a0_0 ([] : List (S37))
theorem odysseyref10_Copy.mono_l : ∀ k, (∀ y0 y1 y2 y3 y4, LeO (odysseyref10_Copy.l0 k y0 y1 y2 y3 y4) (odysseyref10_Copy.l0 (k + 1) y0 y1 y2 y3 y4))
 | 0 => fun _ _ _ _ _ r h => by simp [odysseyref10_Copy.l0] at h
 | k + 1 => by
  have ih0 := odysseyref10_Copy.mono_l k
  · intro y0 y1 y2 y3 y4
    unfold odysseyref10_Copy.l0
    repeat' first
    | (with_reducible exact ih0 _ _ _ _ _)
    | (with_reducible exact LeO.refl _)
    | (with_reducible exact LeO.none _)
    | (with_reducible refine LeO.ite ?_ ?_)
    | (with_reducible refine LeO.bind ?_ (fun _ => ?_))
    | exact ih0 _ _ _ _ _
    | exact LeO.none _
    | refine LeO.ite ?_ ?_
    | refine LeO.bind ?_ (fun _ => ?_)
theorem odysseyref10_Copy.mono : ∀ a0 a1 k, LeO (odysseyref10_Copy.f k a0 a1) (odysseyref10_Copy.f (k + 1) a0 a1) := by
 intro a0 a1 k
 have ih0 := odysseyref10_Copy.mono_l k
 unfold odysseyref10_Copy.f
 repeat' first
  | (with_reducible exact ih0 _ _ _ _ _)
  | (with_reducible exact LeO.refl _)
  | (with_reducible exact LeO.none _)
  | (with_reducible refine LeO.ite ?_ ?_)
  | (with_reducible refine LeO.bind ?_ (fun _ => ?_))
  | exact ih0 _ _ _ _ _
  | exact LeO.none _
  | refine LeO.ite ?_ ?_
  | refine LeO.bind ?_ (fun _ => ?_)
set_option maxHeartbeats 8000000 in
set_option maxRecDepth 100000 in
theorem odysseyref10_Copy.calls (k : Nat) (a0_0 : ByteArray) (A0_1 : Option Addr) (c0_1 : Nat) (l0_1 : List (S37)) (r1 : ByteArray) (r2 : List (S37)) (w : World) (hr0_1 : Kd.C k37 w A0_1 l0_1.length l0_1) (hc0_1 : l0_1.length ≤ c0_1) (h : odysseyref10_Copy.f k a0_0 l0_1 = some (r1, r2)) :
 Calls Tryz.prog 5 #[.agg #[.string a0_0, .slice A0_1 l0_1.length c0_1]] w fun e w' => ∃ v1_ : Value, e = .returned (.agg #[.string r1, v1_]) ∧ Kd.S k37 37 w' w.heap.size (fun _ => True) v1_ r2 ∧ Below w.heap.size w w' := by
 have hu24 := Tryz.underlying24
 have hu37 := Tryz.underlying37
 have HR0_1 := Aside0.mk hr0_1
 have HC0_1 := Aside0.mk hc0_1
 clear hr0_1 hc0_1
 have HB := Aside0.mk (Below.refl w.heap.size w)
 have H : (odysseyref10_Copy.l0 k 0 a0_0 l0_1 a0_0 ([] : List (S37))) = some (r1, r2) := h
 clear h
 have H' := Aside0.mk H
 clear H
 go_enter Tryz.func5, Tryz.ntmps5
 go_wp2_with (first | ((with_reducible refine gate_dst (N := 1) rfl ?_); refine box_event ?hg (N := 1) ?hd (cs := #[.string a0_0, .slice A0_1 l0_1.length c0_1]) (t := 24) ?hr ?_; (case hd => rfl); (case hg => rfl); (case hr => first | (go_simp; done) | (go_simp; rfl)); intro gb101 hg w2 hbox hb; have n0_ := Aside0.mk (below_step (by repeat (first | (with_reducible first | exact HB.out | apply below_alloc | apply pw_below_drewN | apply below_drew1) | exact HB.out)) hb); have n1_ := Aside0.mk (hbox); have n2_ := Aside0.mk ((by rw [hg]; exact (below_size (by repeat (first | (with_reducible first | exact HB.out | apply below_alloc | apply pw_below_drewN | apply below_drew1) | exact HB.out))) : w.heap.size ≤ gb101)); have n3_ := Aside0.mk ((by rw [hg]; exact (below_size (by repeat (first | (with_reducible first | exact HB.out | apply below_alloc | apply pw_below_drewN | apply below_drew1) | exact HB.out))) : w.heap.size ≤ gb101)); clear HB; have HB := n0_; have BK101 := n1_; have GW101 := n2_; have GE101 := n3_; clear n0_ n1_ n2_ n3_; clear hb hbox hg) | ((with_reducible refine gate_dst (N := 2) rfl ?_); refine box_event ?hg (N := 2) ?hd (cs := #[.string (⟨#[]⟩ : ByteArray), .slice none 0 0]) (t := 24) ?hr ?_; (case hd => rfl); (case hg => rfl); (case hr => first | (go_simp; done) | (go_simp; rfl)); intro gb102 hg w3 hbox hb; have n0_ := Aside0.mk (blk_below (g := gb101) (o := .cells #[.string a0_0, .slice A0_1 l0_1.length c0_1] 24 (0, 0)) (by (with_reducible repeat (first | refine blk_drewN ?_ _ | refine blk_drew ?_ | refine blk_alloc ?_ _)); exact BK101.out) hb); have n1_ := Aside0.mk (below_step (by repeat (first | (with_reducible first | exact HB.out | apply below_alloc | apply pw_below_drewN | apply below_drew1 | refine below_set ?_ GE101.out) | exact HB.out)) hb); have n2_ := Aside0.mk (hbox); have n3_ := Aside0.mk ((by rw [hg]; exact (below_size (by repeat (first | (with_reducible first | exact HB.out | apply below_alloc | apply pw_below_drewN | apply below_drew1 | refine below_set ?_ GE101.out) | exact HB.out))) : w.heap.size ≤ gb102)); have n4_ := Aside0.mk ((by rw [hg]; exact (below_size (by repeat (first | (with_reducible first | exact HB.out | apply below_alloc | apply pw_below_drewN | apply below_drew1 | refine below_set ?_ GE101.out) | exact HB.out))) : w.heap.size ≤ gb102)); have n5_ := Aside0.mk ((by rw [hg]; exact Nat.ne_of_lt (blk_lt (g := gb101) (o := .cells #[.string a0_0, .slice A0_1 l0_1.length c0_1] 24 (0, 0)) (by (with_reducible repeat (first | refine blk_drewN ?_ _ | refine blk_drew ?_ | refine blk_alloc ?_ _)); exact BK101.out)) : gb101 ≠ gb102)); have n6_ := Aside0.mk ((by rw [hg]; exact Nat.ne_of_gt (blk_lt (g := gb101) (o := .cells #[.string a0_0, .slice A0_1 l0_1.length c0_1] 24 (0, 0)) (by (with_reducible repeat (first | refine blk_drewN ?_ _ | refine blk_drew ?_ | refine blk_alloc ?_ _)); exact BK101.out)) : gb102 ≠ gb101)); clear BK101; clear HB; have BK101 := n0_; have HB := n1_; have BK102 := n2_; have GW102 := n3_; have GE102 := n4_; have NB101_102 := n5_; have NB102_101 := n6_; clear n0_ n1_ n2_ n3_ n4_ n5_ n6_; clear hb hbox hg; have hnb4 := NB101_102.out; have hnc4 := NB102_101.out; have hcz5_0 : w3.cell? ⟨gb101, 0, none⟩ = some (.string a0_0) := (blk_cell BK101.out 0).trans rfl; have hcz5_1 : w3.cell? ⟨gb101, 1, none⟩ = some (.slice A0_1 l0_1.length c0_1) := (blk_cell BK101.out 1).trans rfl; have hfz5_0 := blk_frozen BK101.out 0; have hfz5_1 := blk_frozen BK101.out 1) | ((with_reducible refine gate_dst (N := 3) rfl ?_); refine box_event ?hg (N := 3) ?hd (cs := #[.string (⟨#[]⟩ : ByteArray), .slice none 0 0]) (t := 24) ?hr ?_; (case hd => rfl); (case hg => rfl); (case hr => first | (go_simp; done) | (go_simp; rfl)); intro gb103 hg w6 hbox hb; have n0_ := Aside0.mk (blk_below (g := gb101) (o := .cells #[.string a0_0, .slice A0_1 l0_1.length c0_1] 24 (0, 0)) (by (with_reducible repeat (first | refine blk_drewN ?_ _ | refine blk_drew ?_ | refine blk_alloc ?_ _)); exact BK101.out) hb); have n1_ := Aside0.mk (blk_below (g := gb102) (o := .cells #[.string (⟨#[]⟩ : ByteArray), .slice none 0 0] 24 (0, 0)) (by (with_reducible repeat (first | refine blk_drewN ?_ _ | refine blk_drew ?_ | refine blk_alloc ?_ _)); exact BK102.out) hb); have n2_ := Aside0.mk (below_step (by repeat (first | (with_reducible first | exact HB.out | apply below_alloc | apply pw_below_drewN | apply below_drew1 | refine below_set ?_ GE101.out | refine below_set ?_ GE102.out) | exact HB.out)) hb); have n3_ := Aside0.mk (hbox); have n4_ := Aside0.mk ((by rw [hg]; exact (below_size (by repeat (first | (with_reducible first | exact HB.out | apply below_alloc | apply pw_below_drewN | apply below_drew1 | refine below_set ?_ GE101.out | refine below_set ?_ GE102.out) | exact HB.out))) : w.heap.size ≤ gb103)); have n5_ := Aside0.mk ((by rw [hg]; exact (below_size (by repeat (first | (with_reducible first | exact HB.out | apply below_alloc | apply pw_below_drewN | apply below_drew1 | refine below_set ?_ GE101.out | refine below_set ?_ GE102.out) | exact HB.out))) : w.heap.size ≤ gb103)); have n6_ := Aside0.mk ((by rw [hg]; exact Nat.ne_of_lt (blk_lt (g := gb101) (o := .cells #[.string a0_0, .slice A0_1 l0_1.length c0_1] 24 (0, 0)) (by (with_reducible repeat (first | refine blk_drewN ?_ _ | refine blk_drew ?_ | refine blk_alloc ?_ _)); exact BK101.out)) : gb101 ≠ gb103)); have n7_ := Aside0.mk ((by rw [hg]; exact Nat.ne_of_gt (blk_lt (g := gb101) (o := .cells #[.string a0_0, .slice A0_1 l0_1.length c0_1] 24 (0, 0)) (by (with_reducible repeat (first | refine blk_drewN ?_ _ | refine blk_drew ?_ | refine blk_alloc ?_ _)); exact BK101.out)) : gb103 ≠ gb101)); have n8_ := Aside0.mk ((by rw [hg]; exact Nat.ne_of_lt (blk_lt (g := gb102) (o := .cells #[.string (⟨#[]⟩ : ByteArray), .slice none 0 0] 24 (0, 0)) (by (with_reducible repeat (first | refine blk_drewN ?_ _ | refine blk_drew ?_ | refine blk_alloc ?_ _)); exact BK102.out)) : gb102 ≠ gb103)); have n9_ := Aside0.mk ((by rw [hg]; exact Nat.ne_of_gt (blk_lt (g := gb102) (o := .cells #[.string (⟨#[]⟩ : ByteArray), .slice none 0 0] 24 (0, 0)) (by (with_reducible repeat (first | refine blk_drewN ?_ _ | refine blk_drew ?_ | refine blk_alloc ?_ _)); exact BK102.out)) : gb103 ≠ gb102)); clear BK101; clear BK102; clear HB; have BK101 := n0_; have BK102 := n1_; have HB := n2_; have BK103 := n3_; have GW103 := n4_; have GE103 := n5_; have NB101_103 := n6_; have NB103_101 := n7_; have NB102_103 := n8_; have NB103_102 := n9_; clear n0_ n1_ n2_ n3_ n4_ n5_ n6_ n7_ n8_ n9_; clear hb hbox hg; have hnb7 := NB103_101.out; have hnc7 := NB101_103.out; have hnb8 := NB103_102.out; have hnc8 := NB102_103.out; have hcz9_0 : w6.cell? ⟨gb103, 0, none⟩ = some (.string (⟨#[]⟩ : ByteArray)) := (blk_cell BK103.out 0).trans rfl; have hcz9_1 : w6.cell? ⟨gb103, 1, none⟩ = some (.slice none 0 0) := (blk_cell BK103.out 1).trans rfl; have hfz9_0 := blk_frozen BK103.out 0; have hfz9_1 := blk_frozen BK103.out 1))
 go_loopg [4] k (fun kq v4 w' => ∃ (x4_1 : Int) (x104001_1 : List (S37)) (u104001 : Value), v4 = .int .i64 x4_1 ∧ Aside0 (odysseyref10_Copy.l0 kq x4_1 a0_0 l0_1 a0_0 x104001_1 = some (r1, r2)) ∧ Aside0 (kq ≤ k) ∧ Aside0 (Kd.S k37 37 w' w.heap.size (fun _ => True) u104001 x104001_1) ∧ Aside0 (w'.heap[gb101]? = some (.cells #[.string a0_0, (.slice A0_1 l0_1.length c0_1)] 24 (0, 0))) ∧ Aside0 (w'.heap[gb102]? = some (.cells #[.string (⟨#[]⟩ : ByteArray), (.slice none 0 0)] 24 (0, 0))) ∧ Aside0 (w'.heap[gb103]? = some (.cells #[.string a0_0, u104001] 24 (0, 0))) ∧ Aside0 (Below w.heap.size w w'))
 case atStart => exact ⟨(0), (([] : List (S37))), (.slice none 0 0), (by first | rfl | (simp; done) | (simp [*]; done)), H', ⟨Nat.le_refl _⟩, ⟨by first | exact Kd.S_nil _ _ _ _ _ | exact Kd.N_nil _ _ _ _ _ | exact Kd.V_nil _ _ _ _ _ | exact Kd.Q_nil _ _ _ _ _ | exact Kd.R_nil _ _ _ _ _⟩, ⟨by (with_reducible repeat (first | refine blk_drewN ?_ _ | refine blk_drew ?_ | refine blk_alloc ?_ _)); refine blk_far ?_ NB101_103.out _; (with_reducible repeat (first | refine blk_drewN ?_ _ | refine blk_drew ?_ | refine blk_alloc ?_ _)); refine blk_far ?_ NB101_103.out _; (with_reducible repeat (first | refine blk_drewN ?_ _ | refine blk_drew ?_ | refine blk_alloc ?_ _)); exact BK101.out⟩, ⟨by (with_reducible repeat (first | refine blk_drewN ?_ _ | refine blk_drew ?_ | refine blk_alloc ?_ _)); refine blk_far ?_ NB102_103.out _; (with_reducible repeat (first | refine blk_drewN ?_ _ | refine blk_drew ?_ | refine blk_alloc ?_ _)); refine blk_far ?_ NB102_103.out _; (with_reducible repeat (first | refine blk_drewN ?_ _ | refine blk_drew ?_ | refine blk_alloc ?_ _)); exact BK102.out⟩, ⟨by (with_reducible repeat (first | refine blk_drewN ?_ _ | refine blk_drew ?_ | refine blk_alloc ?_ _)); refine blk_put (cs := #[.string a0_0, .slice none 0 0]) ?_ 1 _ rfl; (with_reducible repeat (first | refine blk_drewN ?_ _ | refine blk_drew ?_ | refine blk_alloc ?_ _)); refine blk_put (cs := #[.string (⟨#[]⟩ : ByteArray), .slice none 0 0]) ?_ 0 _ rfl; (with_reducible repeat (first | refine blk_drewN ?_ _ | refine blk_drew ?_ | refine blk_alloc ?_ _)); exact BK103.out⟩, ⟨by repeat (first | (with_reducible first | exact HB.out | apply below_alloc | apply pw_below_drewN | apply below_drew1 | refine below_set ?_ GE101.out | refine below_set ?_ GE102.out | refine below_set ?_ GE103.out) | exact HB.out)⟩⟩
 case round =>
  clear H'
  try clear p2
  try clear c4
  try clear c5
  try clear c7
  try clear c8
  try clear hcz5_0
  try clear hcz5_1
  try clear hcz9_0
  try clear hcz9_1
  try clear hfz5_0
  try clear hfz5_1
  try clear hfz9_0
  try clear hfz9_1
  obtain ⟨x4_1, x104001_1, u104001, rfl, HA, HK1, HO_104001, BK101, BK102, BK103, HB⟩ := hrel
  cases gk with
  | zero => exact absurd HA.out (by simp [odysseyref10_Copy.l0])
  | succ k1 =>
   have H := HA.out
   clear HA
   simp only [odysseyref10_Copy.l0] at H
   by_cases c10 : x4_1 < (l0_1.length : Int)
   · rw [if_pos c10] at H
     have c10b0 : decide (x4_1 < (l0_1.length : Int)) = true := decide_eq_true c10
     clear c10
     by_cases c11 : 0 ≤ x4_1
     · rw [if_pos c11] at H
       have c11b0 : decide (0 ≤ x4_1) = true := decide_eq_true c11
       clear c11
       by_cases c12 : ([] : List ByteArray).length + ((rd_T37 l0_1 x4_1).f3).length < 8796093022208
       · rw [if_pos c12] at H
         have LMc12 := Aside0.mk c12
         clear c12
         obtain ⟨y107, hy107⟩ : ∃ y_ : List ByteArray, y_ = (([] : List ByteArray) ++ ((rd_T37 l0_1 x4_1).f3)) := ⟨_, rfl⟩
         replace H : (if ([] : List Int).length + ((rd_T37 l0_1 x4_1).f4).length < 17592186044416 then (if x104001_1.length < 1759218604441 then (odysseyref10_Copy.l0 k1 (wrap64 (x4_1 + 1)) a0_0 l0_1 a0_0 (x104001_1 ++ [(⟨(rd_T37 l0_1 x4_1).f0, (rd_T37 l0_1 x4_1).f1, (rd_T37 l0_1 x4_1).f2, y107, (([] : List Int) ++ ((rd_T37 l0_1 x4_1).f4))⟩ : S37)])) else (none)) else (none)) = some (r1, r2) := by first | (rw [hy107]; with_reducible exact H) | (have H2_ := (Option.bind_some _ _).symm.trans H; rw [hy107]; with_reducible exact H2_) | (have H2_ := (Option.bind_some _ _).symm.trans H; with_reducible exact H2_) | with_reducible exact H | (rw [hy107]; exact H) | exact H
         have Ny107 := Aside0.mk hy107
         clear hy107
         by_cases c13 : ([] : List Int).length + ((rd_T37 l0_1 x4_1).f4).length < 17592186044416
         · rw [if_pos c13] at H
           have LMc13 := Aside0.mk c13
           clear c13
           obtain ⟨y110, hy110⟩ : ∃ y_ : List Int, y_ = (([] : List Int) ++ ((rd_T37 l0_1 x4_1).f4)) := ⟨_, rfl⟩
           replace H : (if x104001_1.length < 1759218604441 then (odysseyref10_Copy.l0 k1 (wrap64 (x4_1 + 1)) a0_0 l0_1 a0_0 (x104001_1 ++ [(⟨(rd_T37 l0_1 x4_1).f0, (rd_T37 l0_1 x4_1).f1, (rd_T37 l0_1 x4_1).f2, y107, y110⟩ : S37)])) else (none)) = some (r1, r2) := by first | (rw [hy110]; with_reducible exact H) | (have H2_ := (Option.bind_some _ _).symm.trans H; rw [hy110]; with_reducible exact H2_) | (have H2_ := (Option.bind_some _ _).symm.trans H; with_reducible exact H2_) | with_reducible exact H | (rw [hy110]; exact H) | exact H
           have Ny110 := Aside0.mk hy110
           clear hy110
           by_cases c14 : x104001_1.length < 1759218604441
           · rw [if_pos c14] at H
             have LMc14 := Aside0.mk c14
             clear c14
             obtain ⟨y113, hy113⟩ : ∃ y_ : List (S37), y_ = (x104001_1 ++ [(⟨(rd_T37 l0_1 x4_1).f0, (rd_T37 l0_1 x4_1).f1, (rd_T37 l0_1 x4_1).f2, y107, y110⟩ : S37)]) := ⟨_, rfl⟩
             replace H : (odysseyref10_Copy.l0 k1 (wrap64 (x4_1 + 1)) a0_0 l0_1 a0_0 y113) = some (r1, r2) := by first | (rw [hy113]; with_reducible exact H) | (have H2_ := (Option.bind_some _ _).symm.trans H; rw [hy113]; with_reducible exact H2_) | (have H2_ := (Option.bind_some _ _).symm.trans H; with_reducible exact H2_) | with_reducible exact H | (rw [hy113]; exact H) | exact H
             have Ny113 := Aside0.mk hy113
             clear hy113
             have H' := Aside0.mk H
             clear H
             have hnb15 := NB101_102.out
             have hnc15 := NB102_101.out
             have hnb16 := NB101_103.out
             have hnc16 := NB103_101.out
             have hcz17_0 : wr.cell? ⟨gb101, 0, none⟩ = some (.string a0_0) := (blk_cell BK101.out 0).trans rfl
             have hcz17_1 : wr.cell? ⟨gb101, 1, none⟩ = some (.slice A0_1 l0_1.length c0_1) := (blk_cell BK101.out 1).trans rfl
             have hfz17_0 := blk_frozen BK101.out 0
             have hfz17_1 := blk_frozen BK101.out 1
             have p104 : 0 ≤ (x4_1 : Int) := of_decide_eq_true (by first | (with_reducible assumption) | assumption)
             have q104 : x4_1 < (l0_1.length : Int) := of_decide_eq_true (by first | (with_reducible assumption) | assumption)
             obtain ⟨ad104, A104_3, c104_3, A104_4, c104_4, e104, hx104_0, hx104_1, hx104_2, hx104_3, hx104_4, hl104_3, hi104_3, hl104_4, hi104_4⟩ := at_T37 HR0_1.out x4_1 p104 q104
             cases e104
             replace hx104_0 := (HB.out.cell (World.block_lt_of_cell? w _ hx104_0)).trans hx104_0
             replace hx104_1 := (HB.out.cell (World.block_lt_of_cell? w _ hx104_1)).trans hx104_1
             replace hx104_2 := (HB.out.cell (World.block_lt_of_cell? w _ hx104_2)).trans hx104_2
             replace hx104_3 := (HB.out.cell (World.block_lt_of_cell? w _ hx104_3)).trans hx104_3
             replace hx104_4 := (HB.out.cell (World.block_lt_of_cell? w _ hx104_4)).trans hx104_4
             have HR104_3 := Aside0.mk hi104_3
             have HC104_3 := Aside0.mk hl104_3
             clear hi104_3 hl104_3
             have HR104_4 := Aside0.mk hi104_4
             have HC104_4 := Aside0.mk hl104_4
             clear hi104_4 hl104_4
             replace p104 := eq_true p104
             replace q104 := eq_true q104
             go_wp2_with (first | ((with_reducible refine gate_dst (N := 5) rfl ?_); refine box_event ?hg (N := 5) ?hd (cs := #[.string (⟨#[]⟩ : ByteArray), .int .i64 0, .int .i64 0, .slice none 0 0, .slice none 0 0]) (t := 37) ?hr ?_; (case hd => rfl); (case hg => rfl); (case hr => first | (go_simp; done) | (go_simp; rfl)); intro gb105 hg w18 hbox hb; have n0_ := Aside0.mk (Kd.S_below (Kd.S_elderB (by (with_reducible repeat (first | apply Kd.S_alloc | apply Kd.S_drewN | apply Kd.S_drew)); exact HO_104001.out) gb105 (Nat.le_of_eq hg.symm)) hb); have n1_ := Aside0.mk (blk_below (g := gb101) (o := .cells #[.string a0_0, .slice (some ad104) l0_1.length c0_1] 24 (0, 0)) (by (with_reducible repeat (first | refine blk_drewN ?_ _ | refine blk_drew ?_ | refine blk_alloc ?_ _)); exact BK101.out) hb); have n2_ := Aside0.mk (blk_below (g := gb102) (o := .cells #[.string (⟨#[]⟩ : ByteArray), .slice none 0 0] 24 (0, 0)) (by (with_reducible repeat (first | refine blk_drewN ?_ _ | refine blk_drew ?_ | refine blk_alloc ?_ _)); exact BK102.out) hb); have n3_ := Aside0.mk (blk_below (g := gb103) (o := .cells #[.string a0_0, u104001] 24 (0, 0)) (by (with_reducible repeat (first | refine blk_drewN ?_ _ | refine blk_drew ?_ | refine blk_alloc ?_ _)); exact BK103.out) hb); have n4_ := Aside0.mk (below_step (by repeat (first | (with_reducible first | exact HB.out | apply below_alloc | apply pw_below_drewN | apply below_drew1 | refine below_set ?_ GE101.out | refine below_set ?_ GE102.out | refine below_set ?_ GE103.out) | exact HB.out)) hb); have n5_ := Aside0.mk (hbox); have n6_ := Aside0.mk ((by rw [hg]; exact (below_size (by repeat (first | (with_reducible first | exact HB.out | apply below_alloc | apply pw_below_drewN | apply below_drew1 | refine below_set ?_ GE101.out | refine below_set ?_ GE102.out | refine below_set ?_ GE103.out) | exact HB.out))) : w.heap.size ≤ gb105)); have n7_ := Aside0.mk ((by rw [hg]; exact (below_size (by repeat (first | (with_reducible first | exact HB.out | apply below_alloc | apply pw_below_drewN | apply below_drew1 | refine below_set ?_ GE101.out | refine below_set ?_ GE102.out | refine below_set ?_ GE103.out) | exact HB.out))) : w.heap.size ≤ gb105)); have n8_ := Aside0.mk ((by rw [hg]; exact Nat.ne_of_lt (blk_lt (g := gb101) (o := .cells #[.string a0_0, .slice (some ad104) l0_1.length c0_1] 24 (0, 0)) (by (with_reducible repeat (first | refine blk_drewN ?_ _ | refine blk_drew ?_ | refine blk_alloc ?_ _)); exact BK101.out)) : gb101 ≠ gb105)); have n9_ := Aside0.mk ((by rw [hg]; exact Nat.ne_of_gt (blk_lt (g := gb101) (o := .cells #[.string a0_0, .slice (some ad104) l0_1.length c0_1] 24 (0, 0)) (by (with_reducible repeat (first | refine blk_drewN ?_ _ | refine blk_drew ?_ | refine blk_alloc ?_ _)); exact BK101.out)) : gb105 ≠ gb101)); have n10_ := Aside0.mk ((by rw [hg]; exact Nat.ne_of_lt (blk_lt (g := gb102) (o := .cells #[.string (⟨#[]⟩ : ByteArray), .slice none 0 0] 24 (0, 0)) (by (with_reducible repeat (first | refine blk_drewN ?_ _ | refine blk_drew ?_ | refine blk_alloc ?_ _)); exact BK102.out)) : gb102 ≠ gb105)); have n11_ := Aside0.mk ((by rw [hg]; exact Nat.ne_of_gt (blk_lt (g := gb102) (o := .cells #[.string (⟨#[]⟩ : ByteArray), .slice none 0 0] 24 (0, 0)) (by (with_reducible repeat (first | refine blk_drewN ?_ _ | refine blk_drew ?_ | refine blk_alloc ?_ _)); exact BK102.out)) : gb105 ≠ gb102)); have n12_ := Aside0.mk ((by rw [hg]; exact Nat.ne_of_lt (blk_lt (g := gb103) (o := .cells #[.string a0_0, u104001] 24 (0, 0)) (by (with_reducible repeat (first | refine blk_drewN ?_ _ | refine blk_drew ?_ | refine blk_alloc ?_ _)); exact BK103.out)) : gb103 ≠ gb105)); have n13_ := Aside0.mk ((by rw [hg]; exact Nat.ne_of_gt (blk_lt (g := gb103) (o := .cells #[.string a0_0, u104001] 24 (0, 0)) (by (with_reducible repeat (first | refine blk_drewN ?_ _ | refine blk_drew ?_ | refine blk_alloc ?_ _)); exact BK103.out)) : gb105 ≠ gb103)); clear HO_104001; clear BK101; clear BK102; clear BK103; clear HB; have HO_104001 := n0_; have BK101 := n1_; have BK102 := n2_; have BK103 := n3_; have HB := n4_; have BK105 := n5_; have GW105 := n6_; have GE105 := n7_; have NB101_105 := n8_; have NB105_101 := n9_; have NB102_105 := n10_; have NB105_102 := n11_; have NB103_105 := n12_; have NB105_103 := n13_; clear n0_ n1_ n2_ n3_ n4_ n5_ n6_ n7_ n8_ n9_ n10_ n11_ n12_ n13_; clear hb hbox hg; have hnb19 := NB105_101.out; have hnc19 := NB101_105.out; have hnb20 := NB105_102.out; have hnc20 := NB102_105.out; have hnb21 := NB105_103.out; have hnc21 := NB103_105.out; have hcz22_0 : w18.cell? ⟨gb105, 0, none⟩ = some (.string (⟨#[]⟩ : ByteArray)) := (blk_cell BK105.out 0).trans rfl; have hcz22_1 : w18.cell? ⟨gb105, 1, none⟩ = some (.int .i64 0) := (blk_cell BK105.out 1).trans rfl; have hcz22_2 : w18.cell? ⟨gb105, 2, none⟩ = some (.int .i64 0) := (blk_cell BK105.out 2).trans rfl; have hcz22_3 : w18.cell? ⟨gb105, 3, none⟩ = some (.slice none 0 0) := (blk_cell BK105.out 3).trans rfl; have hcz22_4 : w18.cell? ⟨gb105, 4, none⟩ = some (.slice none 0 0) := (blk_cell BK105.out 4).trans rfl; have hfz22_0 := blk_frozen BK105.out 0; have hfz22_1 := blk_frozen BK105.out 1; have hfz22_2 := blk_frozen BK105.out 2; have hfz22_3 := blk_frozen BK105.out 3; have hfz22_4 := blk_frozen BK105.out 4) | ((with_reducible refine gate_dst (N := 6) rfl ?_); refine box_event ?hg (N := 6) ?hd (cs := #[.string (⟨#[]⟩ : ByteArray), .int .i64 0, .int .i64 0, .slice none 0 0, .slice none 0 0]) (t := 37) ?hr ?_; (case hd => rfl); (case hg => rfl); (case hr => first | (go_simp; done) | (go_simp; rfl)); intro gb106 hg w23 hbox hb; have n0_ := Aside0.mk (Kd.S_below (Kd.S_elderB (by (with_reducible repeat (first | apply Kd.S_alloc | apply Kd.S_drewN | apply Kd.S_drew)); exact (Kd.S_mono (Kd.S_far (p := ⟨gb105, 4, none⟩) (Kd.S_far (p := ⟨gb105, 3, none⟩) (Kd.S_far (p := ⟨gb105, 2, none⟩) (Kd.S_far (p := ⟨gb105, 1, none⟩) (Kd.S_far (p := ⟨gb105, 0, none⟩) (Kd.S_mono HO_104001.out (fun k_ hk => (⟨hk, hk.2⟩ : _ ∧ k_ ≠ gb105))) (fun _ hk => hk.2) (.string ((rd_T37 l0_1 x4_1).f0))) (fun _ hk => hk.2) (.int .i64 ((rd_T37 l0_1 x4_1).f1))) (fun _ hk => hk.2) (.int .i64 ((rd_T37 l0_1 x4_1).f2))) (fun _ hk => hk.2) (.slice A104_3 ((rd_T37 l0_1 x4_1).f3).length c104_3)) (fun _ hk => hk.2) (.slice A104_4 ((rd_T37 l0_1 x4_1).f4).length c104_4)) (fun _ h_ => h_.1))) gb106 (Nat.le_of_eq hg.symm)) hb); have n1_ := Aside0.mk (blk_below (g := gb101) (o := .cells #[.string a0_0, .slice (some ad104) l0_1.length c0_1] 24 (0, 0)) (by (with_reducible repeat (first | refine blk_drewN ?_ _ | refine blk_drew ?_ | refine blk_alloc ?_ _)); refine blk_far ?_ NB101_105.out _; (with_reducible repeat (first | refine blk_drewN ?_ _ | refine blk_drew ?_ | refine blk_alloc ?_ _)); refine blk_far ?_ NB101_105.out _; (with_reducible repeat (first | refine blk_drewN ?_ _ | refine blk_drew ?_ | refine blk_alloc ?_ _)); refine blk_far ?_ NB101_105.out _; (with_reducible repeat (first | refine blk_drewN ?_ _ | refine blk_drew ?_ | refine blk_alloc ?_ _)); refine blk_far ?_ NB101_105.out _; (with_reducible repeat (first | refine blk_drewN ?_ _ | refine blk_drew ?_ | refine blk_alloc ?_ _)); refine blk_far ?_ NB101_105.out _; (with_reducible repeat (first | refine blk_drewN ?_ _ | refine blk_drew ?_ | refine blk_alloc ?_ _)); exact BK101.out) hb); have n2_ := Aside0.mk (blk_below (g := gb102) (o := .cells #[.string (⟨#[]⟩ : ByteArray), .slice none 0 0] 24 (0, 0)) (by (with_reducible repeat (first | refine blk_drewN ?_ _ | refine blk_drew ?_ | refine blk_alloc ?_ _)); refine blk_far ?_ NB102_105.out _; (with_reducible repeat (first | refine blk_drewN ?_ _ | refine blk_drew ?_ | refine blk_alloc ?_ _)); refine blk_far ?_ NB102_105.out _; (with_reducible repeat (first | refine blk_drewN ?_ _ | refine blk_drew ?_ | refine blk_alloc ?_ _)); refine blk_far ?_ NB102_105.out _; (with_reducible repeat (first | refine blk_drewN ?_ _ | refine blk_drew ?_ | refine blk_alloc ?_ _)); refine blk_far ?_ NB102_105.out _; (with_reducible repeat (first | refine blk_drewN ?_ _ | refine blk_drew ?_ | refine blk_alloc ?_ _)); refine blk_far ?_ NB102_105.out _; (with_reducible repeat (first | refine blk_drewN ?_ _ | refine blk_drew ?_ | refine blk_alloc ?_ _)); exact BK102.out) hb); have n3_ := Aside0.mk (blk_below (g := gb103) (o := .cells #[.string a0_0, u104001] 24 (0, 0)) (by (with_reducible repeat (first | refine blk_drewN ?_ _ | refine blk_drew ?_ | refine blk_alloc ?_ _)); refine blk_far ?_ NB103_105.out _; (with_reducible repeat (first | refine blk_drewN ?_ _ | refine blk_drew ?_ | refine blk_alloc ?_ _)); refine blk_far ?_ NB103_105.out _; (with_reducible repeat (first | refine blk_drewN ?_ _ | refine blk_drew ?_ | refine blk_alloc ?_ _)); refine blk_far ?_ NB103_105.out _; (with_reducible repeat (first | refine blk_drewN ?_ _ | refine blk_drew ?_ | refine blk_alloc ?_ _)); refine blk_far ?_ NB103_105.out _; (with_reducible repeat (first | refine blk_drewN ?_ _ | refine blk_drew ?_ | refine blk_alloc ?_ _)); refine blk_far ?_ NB103_105.out _; (with_reducible repeat (first | refine blk_drewN ?_ _ | refine blk_drew ?_ | refine blk_alloc ?_ _)); exact BK103.out) hb); have n4_ := Aside0.mk (blk_below (g := gb105) (o := .cells #[.string ((rd_T37 l0_1 x4_1).f0), .int .i64 ((rd_T37 l0_1 x4_1).f1), .int .i64 ((rd_T37 l0_1 x4_1).f2), .slice A104_3 ((rd_T37 l0_1 x4_1).f3).length c104_3, .slice A104_4 ((rd_T37 l0_1 x4_1).f4).length c104_4] 37 (0, 0)) (by (with_reducible repeat (first | refine blk_drewN ?_ _ | refine blk_drew ?_ | refine blk_alloc ?_ _)); refine blk_put (cs := #[.string ((rd_T37 l0_1 x4_1).f0), .int .i64 ((rd_T37 l0_1 x4_1).f1), .int .i64 ((rd_T37 l0_1 x4_1).f2), .slice A104_3 ((rd_T37 l0_1 x4_1).f3).length c104_3, .slice none 0 0]) ?_ 4 _ rfl; (with_reducible repeat (first | refine blk_drewN ?_ _ | refine blk_drew ?_ | refine blk_alloc ?_ _)); refine blk_put (cs := #[.string ((rd_T37 l0_1 x4_1).f0), .int .i64 ((rd_T37 l0_1 x4_1).f1), .int .i64 ((rd_T37 l0_1 x4_1).f2), .slice none 0 0, .slice none 0 0]) ?_ 3 _ rfl; (with_reducible repeat (first | refine blk_drewN ?_ _ | refine blk_drew ?_ | refine blk_alloc ?_ _)); refine blk_put (cs := #[.string ((rd_T37 l0_1 x4_1).f0), .int .i64 ((rd_T37 l0_1 x4_1).f1), .int .i64 0, .slice none 0 0, .slice none 0 0]) ?_ 2 _ rfl; (with_reducible repeat (first | refine blk_drewN ?_ _ | refine blk_drew ?_ | refine blk_alloc ?_ _)); refine blk_put (cs := #[.string ((rd_T37 l0_1 x4_1).f0), .int .i64 0, .int .i64 0, .slice none 0 0, .slice none 0 0]) ?_ 1 _ rfl; (with_reducible repeat (first | refine blk_drewN ?_ _ | refine blk_drew ?_ | refine blk_alloc ?_ _)); refine blk_put (cs := #[.string (⟨#[]⟩ : ByteArray), .int .i64 0, .int .i64 0, .slice none 0 0, .slice none 0 0]) ?_ 0 _ rfl; (with_reducible repeat (first | refine blk_drewN ?_ _ | refine blk_drew ?_ | refine blk_alloc ?_ _)); exact BK105.out) hb); have n5_ := Aside0.mk (below_step (by repeat (first | (with_reducible first | exact HB.out | apply below_alloc | apply pw_below_drewN | apply below_drew1 | refine below_set ?_ GE101.out | refine below_set ?_ GE102.out | refine below_set ?_ GE103.out | refine below_set ?_ GE105.out) | exact HB.out)) hb); have n6_ := Aside0.mk (hbox); have n7_ := Aside0.mk ((by rw [hg]; exact (below_size (by repeat (first | (with_reducible first | exact HB.out | apply below_alloc | apply pw_below_drewN | apply below_drew1 | refine below_set ?_ GE101.out | refine below_set ?_ GE102.out | refine below_set ?_ GE103.out | refine below_set ?_ GE105.out) | exact HB.out))) : w.heap.size ≤ gb106)); have n8_ := Aside0.mk ((by rw [hg]; exact (below_size (by repeat (first | (with_reducible first | exact HB.out | apply below_alloc | apply pw_below_drewN | apply below_drew1 | refine below_set ?_ GE101.out | refine below_set ?_ GE102.out | refine below_set ?_ GE103.out | refine below_set ?_ GE105.out) | exact HB.out))) : w.heap.size ≤ gb106)); have n9_ := Aside0.mk ((by rw [hg]; exact Nat.ne_of_lt (blk_lt (g := gb101) (o := .cells #[.string a0_0, .slice (some ad104) l0_1.length c0_1] 24 (0, 0)) (by (with_reducible repeat (first | refine blk_drewN ?_ _ | refine blk_drew ?_ | refine blk_alloc ?_ _)); refine blk_far ?_ NB101_105.out _; (with_reducible repeat (first | refine blk_drewN ?_ _ | refine blk_drew ?_ | refine blk_alloc ?_ _)); refine blk_far ?_ NB101_105.out _; (with_reducible repeat (first | refine blk_drewN ?_ _ | refine blk_drew ?_ | refine blk_alloc ?_ _)); refine blk_far ?_ NB101_105.out _; (with_reducible repeat (first | refine blk_drewN ?_ _ | refine blk_drew ?_ | refine blk_alloc ?_ _)); refine blk_far ?_ NB101_105.out _; (with_reducible repeat (first | refine blk_drewN ?_ _ | refine blk_drew ?_ | refine blk_alloc ?_ _)); refine blk_far ?_ NB101_105.out _; (with_reducible repeat (first | refine blk_drewN ?_ _ | refine blk_drew ?_ | refine blk_alloc ?_ _)); exact BK101.out)) : gb101 ≠ gb106)); have n10_ := Aside0.mk ((by rw [hg]; exact Nat.ne_of_gt (blk_lt (g := gb101) (o := .cells #[.string a0_0, .slice (some ad104) l0_1.length c0_1] 24 (0, 0)) (by (with_reducible repeat (first | refine blk_drewN ?_ _ | refine blk_drew ?_ | refine blk_alloc ?_ _)); refine blk_far ?_ NB101_105.out _; (with_reducible repeat (first | refine blk_drewN ?_ _ | refine blk_drew ?_ | refine blk_alloc ?_ _)); refine blk_far ?_ NB101_105.out _; (with_reducible repeat (first | refine blk_drewN ?_ _ | refine blk_drew ?_ | refine blk_alloc ?_ _)); refine blk_far ?_ NB101_105.out _; (with_reducible repeat (first | refine blk_drewN ?_ _ | refine blk_drew ?_ | refine blk_alloc ?_ _)); refine blk_far ?_ NB101_105.out _; (with_reducible repeat (first | refine blk_drewN ?_ _ | refine blk_drew ?_ | refine blk_alloc ?_ _)); refine blk_far ?_ NB101_105.out _; (with_reducible repeat (first | refine blk_drewN ?_ _ | refine blk_drew ?_ | refine blk_alloc ?_ _)); exact BK101.out)) : gb106 ≠ gb101)); have n11_ := Aside0.mk ((by rw [hg]; exact Nat.ne_of_lt (blk_lt (g := gb102) (o := .cells #[.string (⟨#[]⟩ : ByteArray), .slice none 0 0] 24 (0, 0)) (by (with_reducible repeat (first | refine blk_drewN ?_ _ | refine blk_drew ?_ | refine blk_alloc ?_ _)); refine blk_far ?_ NB102_105.out _; (with_reducible repeat (first | refine blk_drewN ?_ _ | refine blk_drew ?_ | refine blk_alloc ?_ _)); refine blk_far ?_ NB102_105.out _; (with_reducible repeat (first | refine blk_drewN ?_ _ | refine blk_drew ?_ | refine blk_alloc ?_ _)); refine blk_far ?_ NB102_105.out _; (with_reducible repeat (first | refine blk_drewN ?_ _ | refine blk_drew ?_ | refine blk_alloc ?_ _)); refine blk_far ?_ NB102_105.out _; (with_reducible repeat (first | refine blk_drewN ?_ _ | refine blk_drew ?_ | refine blk_alloc ?_ _)); refine blk_far ?_ NB102_105.out _; (with_reducible repeat (first | refine blk_drewN ?_ _ | refine blk_drew ?_ | refine blk_alloc ?_ _)); exact BK102.out)) : gb102 ≠ gb106)); have n12_ := Aside0.mk ((by rw [hg]; exact Nat.ne_of_gt (blk_lt (g := gb102) (o := .cells #[.string (⟨#[]⟩ : ByteArray), .slice none 0 0] 24 (0, 0)) (by (with_reducible repeat (first | refine blk_drewN ?_ _ | refine blk_drew ?_ | refine blk_alloc ?_ _)); refine blk_far ?_ NB102_105.out _; (with_reducible repeat (first | refine blk_drewN ?_ _ | refine blk_drew ?_ | refine blk_alloc ?_ _)); refine blk_far ?_ NB102_105.out _; (with_reducible repeat (first | refine blk_drewN ?_ _ | refine blk_drew ?_ | refine blk_alloc ?_ _)); refine blk_far ?_ NB102_105.out _; (with_reducible repeat (first | refine blk_drewN ?_ _ | refine blk_drew ?_ | refine blk_alloc ?_ _)); refine blk_far ?_ NB102_105.out _; (with_reducible repeat (first | refine blk_drewN ?_ _ | refine blk_drew ?_ | refine blk_alloc ?_ _)); refine blk_far ?_ NB102_105.out _; (with_reducible repeat (first | refine blk_drewN ?_ _ | refine blk_drew ?_ | refine blk_alloc ?_ _)); exact BK102.out)) : gb106 ≠ gb102)); have n13_ := Aside0.mk ((by rw [hg]; exact Nat.ne_of_lt (blk_lt (g := gb103) (o := .cells #[.string a0_0, u104001] 24 (0, 0)) (by (with_reducible repeat (first | refine blk_drewN ?_ _ | refine blk_drew ?_ | refine blk_alloc ?_ _)); refine blk_far ?_ NB103_105.out _; (with_reducible repeat (first | refine blk_drewN ?_ _ | refine blk_drew ?_ | refine blk_alloc ?_ _)); refine blk_far ?_ NB103_105.out _; (with_reducible repeat (first | refine blk_drewN ?_ _ | refine blk_drew ?_ | refine blk_alloc ?_ _)); refine blk_far ?_ NB103_105.out _; (with_reducible repeat (first | refine blk_drewN ?_ _ | refine blk_drew ?_ | refine blk_alloc ?_ _)); refine blk_far ?_ NB103_105.out _; (with_reducible repeat (first | refine blk_drewN ?_ _ | refine blk_drew ?_ | refine blk_alloc ?_ _)); refine blk_far ?_ NB103_105.out _; (with_reducible repeat (first | refine blk_drewN ?_ _ | refine blk_drew ?_ | refine blk_alloc ?_ _)); exact BK103.out)) : gb103 ≠ gb106)); have n14_ := Aside0.mk ((by rw [hg]; exact Nat.ne_of_gt (blk_lt (g := gb103) (o := .cells #[.string a0_0, u104001] 24 (0, 0)) (by (with_reducible repeat (first | refine blk_drewN ?_ _ | refine blk_drew ?_ | refine blk_alloc ?_ _)); refine blk_far ?_ NB103_105.out _; (with_reducible repeat (first | refine blk_drewN ?_ _ | refine blk_drew ?_ | refine blk_alloc ?_ _)); refine blk_far ?_ NB103_105.out _; (with_reducible repeat (first | refine blk_drewN ?_ _ | refine blk_drew ?_ | refine blk_alloc ?_ _)); refine blk_far ?_ NB103_105.out _; (with_reducible repeat (first | refine blk_drewN ?_ _ | refine blk_drew ?_ | refine blk_alloc ?_ _)); refine blk_far ?_ NB103_105.out _; (with_reducible repeat (first | refine blk_drewN ?_ _ | refine blk_drew ?_ | refine blk_alloc ?_ _)); refine blk_far ?_ NB103_105.out _; (with_reducible repeat (first | refine blk_drewN ?_ _ | refine blk_drew ?_ | refine blk_alloc ?_ _)); exact BK103.out)) : gb106 ≠ gb103)); have n15_ := Aside0.mk ((by rw [hg]; exact Nat.ne_of_lt (blk_lt (g := gb105) (o := .cells #[.string ((rd_T37 l0_1 x4_1).f0), .int .i64 ((rd_T37 l0_1 x4_1).f1), .int .i64 ((rd_T37 l0_1 x4_1).f2), .slice A104_3 ((rd_T37 l0_1 x4_1).f3).length c104_3, .slice A104_4 ((rd_T37 l0_1 x4_1).f4).length c104_4] 37 (0, 0)) (by (with_reducible repeat (first | refine blk_drewN ?_ _ | refine blk_drew ?_ | refine blk_alloc ?_ _)); refine blk_put (cs := #[.string ((rd_T37 l0_1 x4_1).f0), .int .i64 ((rd_T37 l0_1 x4_1).f1), .int .i64 ((rd_T37 l0_1 x4_1).f2), .slice A104_3 ((rd_T37 l0_1 x4_1).f3).length c104_3, .slice none 0 0]) ?_ 4 _ rfl; (with_reducible repeat (first | refine blk_drewN ?_ _ | refine blk_drew ?_ | refine blk_alloc ?_ _)); refine blk_put (cs := #[.string ((rd_T37 l0_1 x4_1).f0), .int .i64 ((rd_T37 l0_1 x4_1).f1), .int .i64 ((rd_T37 l0_1 x4_1).f2), .slice none 0 0, .slice none 0 0]) ?_ 3 _ rfl; (with_reducible repeat (first | refine blk_drewN ?_ _ | refine blk_drew ?_ | refine blk_alloc ?_ _)); refine blk_put (cs := #[.string ((rd_T37 l0_1 x4_1).f0), .int .i64 ((rd_T37 l0_1 x4_1).f1), .int .i64 0, .slice none 0 0, .slice none 0 0]) ?_ 2 _ rfl; (with_reducible repeat (first | refine blk_drewN ?_ _ | refine blk_drew ?_ | refine blk_alloc ?_ _)); refine blk_put (cs := #[.string ((rd_T37 l0_1 x4_1).f0), .int .i64 0, .int .i64 0, .slice none 0 0, .slice none 0 0]) ?_ 1 _ rfl; (with_reducible repeat (first | refine blk_drewN ?_ _ | refine blk_drew ?_ | refine blk_alloc ?_ _)); refine blk_put (cs := #[.string (⟨#[]⟩ : ByteArray), .int .i64 0, .int .i64 0, .slice none 0 0, .slice none 0 0]) ?_ 0 _ rfl; (with_reducible repeat (first | refine blk_drewN ?_ _ | refine blk_drew ?_ | refine blk_alloc ?_ _)); exact BK105.out)) : gb105 ≠ gb106)); have n16_ := Aside0.mk ((by rw [hg]; exact Nat.ne_of_gt (blk_lt (g := gb105) (o := .cells #[.string ((rd_T37 l0_1 x4_1).f0), .int .i64 ((rd_T37 l0_1 x4_1).f1), .int .i64 ((rd_T37 l0_1 x4_1).f2), .slice A104_3 ((rd_T37 l0_1 x4_1).f3).length c104_3, .slice A104_4 ((rd_T37 l0_1 x4_1).f4).length c104_4] 37 (0, 0)) (by (with_reducible repeat (first | refine blk_drewN ?_ _ | refine blk_drew ?_ | refine blk_alloc ?_ _)); refine blk_put (cs := #[.string ((rd_T37 l0_1 x4_1).f0), .int .i64 ((rd_T37 l0_1 x4_1).f1), .int .i64 ((rd_T37 l0_1 x4_1).f2), .slice A104_3 ((rd_T37 l0_1 x4_1).f3).length c104_3, .slice none 0 0]) ?_ 4 _ rfl; (with_reducible repeat (first | refine blk_drewN ?_ _ | refine blk_drew ?_ | refine blk_alloc ?_ _)); refine blk_put (cs := #[.string ((rd_T37 l0_1 x4_1).f0), .int .i64 ((rd_T37 l0_1 x4_1).f1), .int .i64 ((rd_T37 l0_1 x4_1).f2), .slice none 0 0, .slice none 0 0]) ?_ 3 _ rfl; (with_reducible repeat (first | refine blk_drewN ?_ _ | refine blk_drew ?_ | refine blk_alloc ?_ _)); refine blk_put (cs := #[.string ((rd_T37 l0_1 x4_1).f0), .int .i64 ((rd_T37 l0_1 x4_1).f1), .int .i64 0, .slice none 0 0, .slice none 0 0]) ?_ 2 _ rfl; (with_reducible repeat (first | refine blk_drewN ?_ _ | refine blk_drew ?_ | refine blk_alloc ?_ _)); refine blk_put (cs := #[.string ((rd_T37 l0_1 x4_1).f0), .int .i64 0, .int .i64 0, .slice none 0 0, .slice none 0 0]) ?_ 1 _ rfl; (with_reducible repeat (first | refine blk_drewN ?_ _ | refine blk_drew ?_ | refine blk_alloc ?_ _)); refine blk_put (cs := #[.string (⟨#[]⟩ : ByteArray), .int .i64 0, .int .i64 0, .slice none 0 0, .slice none 0 0]) ?_ 0 _ rfl; (with_reducible repeat (first | refine blk_drewN ?_ _ | refine blk_drew ?_ | refine blk_alloc ?_ _)); exact BK105.out)) : gb106 ≠ gb105)); clear HO_104001; clear BK101; clear BK102; clear BK103; clear BK105; clear HB; have HO_104001 := n0_; have BK101 := n1_; have BK102 := n2_; have BK103 := n3_; have BK105 := n4_; have HB := n5_; have BK106 := n6_; have GW106 := n7_; have GE106 := n8_; have NB101_106 := n9_; have NB106_101 := n10_; have NB102_106 := n11_; have NB106_102 := n12_; have NB103_106 := n13_; have NB106_103 := n14_; have NB105_106 := n15_; have NB106_105 := n16_; clear n0_ n1_ n2_ n3_ n4_ n5_ n6_ n7_ n8_ n9_ n10_ n11_ n12_ n13_ n14_ n15_ n16_; clear hb hbox hg; have hnb24 := NB106_101.out; have hnc24 := NB101_106.out; have hnb25 := NB106_102.out; have hnc25 := NB102_106.out; have hnb26 := NB106_103.out; have hnc26 := NB103_106.out; have hnb27 := NB106_105.out; have hnc27 := NB105_106.out; have hcz28_0 : w23.cell? ⟨gb106, 0, none⟩ = some (.string (⟨#[]⟩ : ByteArray)) := (blk_cell BK106.out 0).trans rfl; have hcz28_1 : w23.cell? ⟨gb106, 1, none⟩ = some (.int .i64 0) := (blk_cell BK106.out 1).trans rfl; have hcz28_2 : w23.cell? ⟨gb106, 2, none⟩ = some (.int .i64 0) := (blk_cell BK106.out 2).trans rfl; have hcz28_3 : w23.cell? ⟨gb106, 3, none⟩ = some (.slice none 0 0) := (blk_cell BK106.out 3).trans rfl; have hcz28_4 : w23.cell? ⟨gb106, 4, none⟩ = some (.slice none 0 0) := (blk_cell BK106.out 4).trans rfl; have hfz28_0 := blk_frozen BK106.out 0; have hfz28_1 := blk_frozen BK106.out 1; have hfz28_2 := blk_frozen BK106.out 2; have hfz28_3 := blk_frozen BK106.out 3; have hfz28_4 := blk_frozen BK106.out 4; have hcz29_0 : w23.cell? ⟨gb105, 0, none⟩ = some (.string ((rd_T37 l0_1 x4_1).f0)) := (blk_cell BK105.out 0).trans rfl; have hcz29_1 : w23.cell? ⟨gb105, 1, none⟩ = some (.int .i64 ((rd_T37 l0_1 x4_1).f1)) := (blk_cell BK105.out 1).trans rfl; have hcz29_2 : w23.cell? ⟨gb105, 2, none⟩ = some (.int .i64 ((rd_T37 l0_1 x4_1).f2)) := (blk_cell BK105.out 2).trans rfl; have hcz29_3 : w23.cell? ⟨gb105, 3, none⟩ = some (.slice A104_3 ((rd_T37 l0_1 x4_1).f3).length c104_3) := (blk_cell BK105.out 3).trans rfl; have hcz29_4 : w23.cell? ⟨gb105, 4, none⟩ = some (.slice A104_4 ((rd_T37 l0_1 x4_1).f4).length c104_4) := (blk_cell BK105.out 4).trans rfl; have hfz29_0 := blk_frozen BK105.out 0; have hfz29_1 := blk_frozen BK105.out 1; have hfz29_2 := blk_frozen BK105.out 2; have hfz29_3 := blk_frozen BK105.out 3; have hfz29_4 := blk_frozen BK105.out 4) | ((with_reducible refine gate_builtin (b := .append) (xs := #[.tmp 30, .tmp 32]) rfl ?_); at_builtin; refine Kd.R_append_rows Kd.string (w0 := w) w.heap.size rfl (.tmp 30) (.tmp 32) 35 9 (.string ⟨#[]⟩) 16 rfl Tryz.underlying35 info9 rfl (by decide) (by omega) (.slice none 0 0) ([] : List ByteArray) ((rd_T37 l0_1 x4_1).f3) _ _ _ (fun _ => True) (fun _ => False) rfl rfl ?aO ?aR (fun _ _ h => h) (fun _ h => h.elim) ?aF ?aB ?aS ?aL ?_; (case aR => exact Kd.C_below HR104_3.out (by repeat (first | (with_reducible first | exact HB.out | apply below_alloc | apply pw_below_drewN | apply below_drew1 | refine below_set ?_ GE101.out | refine below_set ?_ GE102.out | refine below_set ?_ GE103.out | refine below_set ?_ GE105.out | refine below_set ?_ GE106.out) | exact HB.out))); (case aB => exact (by repeat (first | (with_reducible first | exact HB.out | apply below_alloc | apply pw_below_drewN | apply below_drew1 | refine below_set ?_ GE101.out | refine below_set ?_ GE102.out | refine below_set ?_ GE103.out | refine below_set ?_ GE105.out | refine below_set ?_ GE106.out) | exact HB.out))); (case aF => exact (fun _ _ => trivial)); (case aO => exact ((Kd.R_nil _ _ _ _ (fun _ => True)))); (case aS => exact (below_size (by repeat (first | (with_reducible first | exact HB.out | apply below_alloc | apply pw_below_drewN | apply below_drew1 | refine below_set ?_ GE101.out | refine below_set ?_ GE102.out | refine below_set ?_ GE103.out | refine below_set ?_ GE105.out | refine below_set ?_ GE106.out) | exact HB.out)))); (case aL => have := LMc12.out; omega); intro v108 w30 ho hb hg hat; rw [← Ny107.out] at ho; have n0_ := Aside0.mk (Kd.S_after (Kd.S_apart_nil (by (with_reducible repeat (first | apply Kd.S_alloc | apply Kd.S_drewN | apply Kd.S_drew)); exact (Kd.S_mono (Kd.S_far (p := ⟨gb106, 4, none⟩) (Kd.S_far (p := ⟨gb106, 3, none⟩) (Kd.S_far (p := ⟨gb106, 2, none⟩) (Kd.S_far (p := ⟨gb106, 1, none⟩) (Kd.S_far (p := ⟨gb106, 0, none⟩) (Kd.S_mono HO_104001.out (fun k_ hk => (⟨hk, hk.2⟩ : _ ∧ k_ ≠ gb106))) (fun _ hk => hk.2) (.string ((rd_T37 l0_1 x4_1).f0))) (fun _ hk => hk.2) (.int .i64 ((rd_T37 l0_1 x4_1).f1))) (fun _ hk => hk.2) (.int .i64 ((rd_T37 l0_1 x4_1).f2))) (fun _ hk => hk.2) (.slice none 0 0)) (fun _ hk => hk.2) (.slice none 0 0)) (fun _ h_ => h_.1)))) hg hat); have n1_ := Aside0.mk (blk_grown (g := gb101) (o := .cells #[.string a0_0, .slice (some ad104) l0_1.length c0_1] 24 (0, 0)) (by (with_reducible repeat (first | refine blk_drewN ?_ _ | refine blk_drew ?_ | refine blk_alloc ?_ _)); refine blk_far ?_ NB101_106.out _; (with_reducible repeat (first | refine blk_drewN ?_ _ | refine blk_drew ?_ | refine blk_alloc ?_ _)); refine blk_far ?_ NB101_106.out _; (with_reducible repeat (first | refine blk_drewN ?_ _ | refine blk_drew ?_ | refine blk_alloc ?_ _)); refine blk_far ?_ NB101_106.out _; (with_reducible repeat (first | refine blk_drewN ?_ _ | refine blk_drew ?_ | refine blk_alloc ?_ _)); refine blk_far ?_ NB101_106.out _; (with_reducible repeat (first | refine blk_drewN ?_ _ | refine blk_drew ?_ | refine blk_alloc ?_ _)); refine blk_far ?_ NB101_106.out _; (with_reducible repeat (first | refine blk_drewN ?_ _ | refine blk_drew ?_ | refine blk_alloc ?_ _)); exact BK101.out) hg (by simp [Value.ownBlock])); have n2_ := Aside0.mk (blk_grown (g := gb102) (o := .cells #[.string (⟨#[]⟩ : ByteArray), .slice none 0 0] 24 (0, 0)) (by (with_reducible repeat (first | refine blk_drewN ?_ _ | refine blk_drew ?_ | refine blk_alloc ?_ _)); refine blk_far ?_ NB102_106.out _; (with_reducible repeat (first | refine blk_drewN ?_ _ | refine blk_drew ?_ | refine blk_alloc ?_ _)); refine blk_far ?_ NB102_106.out _; (with_reducible repeat (first | refine blk_drewN ?_ _ | refine blk_drew ?_ | refine blk_alloc ?_ _)); refine blk_far ?_ NB102_106.out _; (with_reducible repeat (first | refine blk_drewN ?_ _ | refine blk_drew ?_ | refine blk_alloc ?_ _)); refine blk_far ?_ NB102_106.out _; (with_reducible repeat (first | refine blk_drewN ?_ _ | refine blk_drew ?_ | refine blk_alloc ?_ _)); refine blk_far ?_ NB102_106.out _; (with_reducible repeat (first | refine blk_drewN ?_ _ | refine blk_drew ?_ | refine blk_alloc ?_ _)); exact BK102.out) hg (by simp [Value.ownBlock])); have n3_ := Aside0.mk (blk_grown (g := gb103) (o := .cells #[.string a0_0, u104001] 24 (0, 0)) (by (with_reducible repeat (first | refine blk_drewN ?_ _ | refine blk_drew ?_ | refine blk_alloc ?_ _)); refine blk_far ?_ NB103_106.out _; (with_reducible repeat (first | refine blk_drewN ?_ _ | refine blk_drew ?_ | refine blk_alloc ?_ _)); refine blk_far ?_ NB103_106.out _; (with_reducible repeat (first | refine blk_drewN ?_ _ | refine blk_drew ?_ | refine blk_alloc ?_ _)); refine blk_far ?_ NB103_106.out _; (with_reducible repeat (first | refine blk_drewN ?_ _ | refine blk_drew ?_ | refine blk_alloc ?_ _)); refine blk_far ?_ NB103_106.out _; (with_reducible repeat (first | refine blk_drewN ?_ _ | refine blk_drew ?_ | refine blk_alloc ?_ _)); refine blk_far ?_ NB103_106.out _; (with_reducible repeat (first | refine blk_drewN ?_ _ | refine blk_drew ?_ | refine blk_alloc ?_ _)); exact BK103.out) hg (by simp [Value.ownBlock])); have n4_ := Aside0.mk (blk_grown (g := gb105) (o := .cells #[.string ((rd_T37 l0_1 x4_1).f0), .int .i64 ((rd_T37 l0_1 x4_1).f1), .int .i64 ((rd_T37 l0_1 x4_1).f2), .slice A104_3 ((rd_T37 l0_1 x4_1).f3).length c104_3, .slice A104_4 ((rd_T37 l0_1 x4_1).f4).length c104_4] 37 (0, 0)) (by (with_reducible repeat (first | refine blk_drewN ?_ _ | refine blk_drew ?_ | refine blk_alloc ?_ _)); refine blk_far ?_ NB105_106.out _; (with_reducible repeat (first | refine blk_drewN ?_ _ | refine blk_drew ?_ | refine blk_alloc ?_ _)); refine blk_far ?_ NB105_106.out _; (with_reducible repeat (first | refine blk_drewN ?_ _ | refine blk_drew ?_ | refine blk_alloc ?_ _)); refine blk_far ?_ NB105_106.out _; (with_reducible repeat (first | refine blk_drewN ?_ _ | refine blk_drew ?_ | refine blk_alloc ?_ _)); refine blk_far ?_ NB105_106.out _; (with_reducible repeat (first | refine blk_drewN ?_ _ | refine blk_drew ?_ | refine blk_alloc ?_ _)); refine blk_far ?_ NB105_106.out _; (with_reducible repeat (first | refine blk_drewN ?_ _ | refine blk_drew ?_ | refine blk_alloc ?_ _)); exact BK105.out) hg (by simp [Value.ownBlock])); have n5_ := Aside0.mk (blk_grown (g := gb106) (o := .cells #[.string ((rd_T37 l0_1 x4_1).f0), .int .i64 ((rd_T37 l0_1 x4_1).f1), .int .i64 ((rd_T37 l0_1 x4_1).f2), .slice none 0 0, .slice none 0 0] 37 (0, 0)) (by (with_reducible repeat (first | refine blk_drewN ?_ _ | refine blk_drew ?_ | refine blk_alloc ?_ _)); refine blk_put (cs := #[.string ((rd_T37 l0_1 x4_1).f0), .int .i64 ((rd_T37 l0_1 x4_1).f1), .int .i64 ((rd_T37 l0_1 x4_1).f2), .slice none 0 0, .slice none 0 0]) ?_ 4 _ rfl; (with_reducible repeat (first | refine blk_drewN ?_ _ | refine blk_drew ?_ | refine blk_alloc ?_ _)); refine blk_put (cs := #[.string ((rd_T37 l0_1 x4_1).f0), .int .i64 ((rd_T37 l0_1 x4_1).f1), .int .i64 ((rd_T37 l0_1 x4_1).f2), .slice none 0 0, .slice none 0 0]) ?_ 3 _ rfl; (with_reducible repeat (first | refine blk_drewN ?_ _ | refine blk_drew ?_ | refine blk_alloc ?_ _)); refine blk_put (cs := #[.string ((rd_T37 l0_1 x4_1).f0), .int .i64 ((rd_T37 l0_1 x4_1).f1), .int .i64 0, .slice none 0 0, .slice none 0 0]) ?_ 2 _ rfl; (with_reducible repeat (first | refine blk_drewN ?_ _ | refine blk_drew ?_ | refine blk_alloc ?_ _)); refine blk_put (cs := #[.string ((rd_T37 l0_1 x4_1).f0), .int .i64 0, .int .i64 0, .slice none 0 0, .slice none 0 0]) ?_ 1 _ rfl; (with_reducible repeat (first | refine blk_drewN ?_ _ | refine blk_drew ?_ | refine blk_alloc ?_ _)); refine blk_put (cs := #[.string (⟨#[]⟩ : ByteArray), .int .i64 0, .int .i64 0, .slice none 0 0, .slice none 0 0]) ?_ 0 _ rfl; (with_reducible repeat (first | refine blk_drewN ?_ _ | refine blk_drew ?_ | refine blk_alloc ?_ _)); exact BK106.out) hg (by simp [Value.ownBlock])); have n6_ := Aside0.mk (hb); have n7_ := Aside0.mk (ho); clear HO_104001; clear BK101; clear BK102; clear BK103; clear BK105; clear BK106; clear HB; have HO_104001 := n0_; have BK101 := n1_; have BK102 := n2_; have BK103 := n3_; have BK105 := n4_; have BK106 := n5_; have HB := n6_; have HO109 := n7_; clear n0_ n1_ n2_ n3_ n4_ n5_ n6_ n7_; clear ho hb hg hat; obtain ⟨Ao31, co31, eo31⟩ := Kd.R_slice HO109.out; subst eo31; have hcz32_0 : w30.cell? ⟨gb106, 0, none⟩ = some (.string ((rd_T37 l0_1 x4_1).f0)) := (blk_cell BK106.out 0).trans rfl; have hcz32_1 : w30.cell? ⟨gb106, 1, none⟩ = some (.int .i64 ((rd_T37 l0_1 x4_1).f1)) := (blk_cell BK106.out 1).trans rfl; have hcz32_2 : w30.cell? ⟨gb106, 2, none⟩ = some (.int .i64 ((rd_T37 l0_1 x4_1).f2)) := (blk_cell BK106.out 2).trans rfl; have hcz32_3 : w30.cell? ⟨gb106, 3, none⟩ = some (.slice none 0 0) := (blk_cell BK106.out 3).trans rfl; have hcz32_4 : w30.cell? ⟨gb106, 4, none⟩ = some (.slice none 0 0) := (blk_cell BK106.out 4).trans rfl; have hfz32_0 := blk_frozen BK106.out 0; have hfz32_1 := blk_frozen BK106.out 1; have hfz32_2 := blk_frozen BK106.out 2; have hfz32_3 := blk_frozen BK106.out 3; have hfz32_4 := blk_frozen BK106.out 4; have hcz33_0 : w30.cell? ⟨gb105, 0, none⟩ = some (.string ((rd_T37 l0_1 x4_1).f0)) := (blk_cell BK105.out 0).trans rfl; have hcz33_1 : w30.cell? ⟨gb105, 1, none⟩ = some (.int .i64 ((rd_T37 l0_1 x4_1).f1)) := (blk_cell BK105.out 1).trans rfl; have hcz33_2 : w30.cell? ⟨gb105, 2, none⟩ = some (.int .i64 ((rd_T37 l0_1 x4_1).f2)) := (blk_cell BK105.out 2).trans rfl; have hcz33_3 : w30.cell? ⟨gb105, 3, none⟩ = some (.slice A104_3 ((rd_T37 l0_1 x4_1).f3).length c104_3) := (blk_cell BK105.out 3).trans rfl; have hcz33_4 : w30.cell? ⟨gb105, 4, none⟩ = some (.slice A104_4 ((rd_T37 l0_1 x4_1).f4).length c104_4) := (blk_cell BK105.out 4).trans rfl; have hfz33_0 := blk_frozen BK105.out 0; have hfz33_1 := blk_frozen BK105.out 1; have hfz33_2 := blk_frozen BK105.out 2; have hfz33_3 := blk_frozen BK105.out 3; have hfz33_4 := blk_frozen BK105.out 4) | ((with_reducible refine gate_builtin (b := .append) (xs := #[.tmp 36, .tmp 38]) rfl ?_); at_builtin; refine Kd.R_append_rows (Kd.int .i64) (w0 := w) w.heap.size rfl (.tmp 36) (.tmp 38) 26 3 (.int .i64 0) 8 rfl Tryz.underlying26 info3 rfl (by decide) (by omega) (.slice none 0 0) ([] : List Int) ((rd_T37 l0_1 x4_1).f4) _ _ _ (fun _ => True) (fun _ => False) rfl rfl ?aO ?aR (fun _ _ h => h) (fun _ h => h.elim) ?aF ?aB ?aS ?aL ?_; (case aR => exact Kd.C_below HR104_4.out (by repeat (first | (with_reducible first | exact HB.out | apply below_alloc | apply pw_below_drewN | apply below_drew1 | refine below_set ?_ GE101.out | refine below_set ?_ GE102.out | refine below_set ?_ GE103.out | refine below_set ?_ GE105.out | refine below_set ?_ GE106.out) | exact HB.out))); (case aB => exact (by repeat (first | (with_reducible first | exact HB.out | apply below_alloc | apply pw_below_drewN | apply below_drew1 | refine below_set ?_ GE101.out | refine below_set ?_ GE102.out | refine below_set ?_ GE103.out | refine below_set ?_ GE105.out | refine below_set ?_ GE106.out) | exact HB.out))); (case aF => exact (fun _ _ => trivial)); (case aO => exact ((Kd.R_nil _ _ _ _ (fun _ => True)))); (case aS => exact (below_size (by repeat (first | (with_reducible first | exact HB.out | apply below_alloc | apply pw_below_drewN | apply below_drew1 | refine below_set ?_ GE101.out | refine below_set ?_ GE102.out | refine below_set ?_ GE103.out | refine below_set ?_ GE105.out | refine below_set ?_ GE106.out) | exact HB.out)))); (case aL => have := LMc13.out; omega); intro v111 w34 ho hb hg hat; rw [← Ny110.out] at ho; have n0_ := Aside0.mk (Kd.S_after (Kd.S_apart_nil (by (with_reducible repeat (first | apply Kd.S_alloc | apply Kd.S_drewN | apply Kd.S_drew)); exact (Kd.S_mono (Kd.S_far (p := ⟨gb106, 3, none⟩) (Kd.S_mono HO_104001.out (fun k_ hk => (⟨hk, hk.1.2⟩ : _ ∧ k_ ≠ gb106))) (fun _ hk => hk.2) (.slice Ao31 y107.length co31)) (fun _ h_ => h_.1)))) hg hat); have n1_ := Aside0.mk (blk_grown (g := gb101) (o := .cells #[.string a0_0, .slice (some ad104) l0_1.length c0_1] 24 (0, 0)) (by (with_reducible repeat (first | refine blk_drewN ?_ _ | refine blk_drew ?_ | refine blk_alloc ?_ _)); refine blk_far ?_ NB101_106.out _; (with_reducible repeat (first | refine blk_drewN ?_ _ | refine blk_drew ?_ | refine blk_alloc ?_ _)); exact BK101.out) hg (by simp [Value.ownBlock])); have n2_ := Aside0.mk (blk_grown (g := gb102) (o := .cells #[.string (⟨#[]⟩ : ByteArray), .slice none 0 0] 24 (0, 0)) (by (with_reducible repeat (first | refine blk_drewN ?_ _ | refine blk_drew ?_ | refine blk_alloc ?_ _)); refine blk_far ?_ NB102_106.out _; (with_reducible repeat (first | refine blk_drewN ?_ _ | refine blk_drew ?_ | refine blk_alloc ?_ _)); exact BK102.out) hg (by simp [Value.ownBlock])); have n3_ := Aside0.mk (blk_grown (g := gb103) (o := .cells #[.string a0_0, u104001] 24 (0, 0)) (by (with_reducible repeat (first | refine blk_drewN ?_ _ | refine blk_drew ?_ | refine blk_alloc ?_ _)); refine blk_far ?_ NB103_106.out _; (with_reducible repeat (first | refine blk_drewN ?_ _ | refine blk_drew ?_ | refine blk_alloc ?_ _)); exact BK103.out) hg (by simp [Value.ownBlock])); have n4_ := Aside0.mk (blk_grown (g := gb105) (o := .cells #[.string ((rd_T37 l0_1 x4_1).f0), .int .i64 ((rd_T37 l0_1 x4_1).f1), .int .i64 ((rd_T37 l0_1 x4_1).f2), .slice A104_3 ((rd_T37 l0_1 x4_1).f3).length c104_3, .slice A104_4 ((rd_T37 l0_1 x4_1).f4).length c104_4] 37 (0, 0)) (by (with_reducible repeat (first | refine blk_drewN ?_ _ | refine blk_drew ?_ | refine blk_alloc ?_ _)); refine blk_far ?_ NB105_106.out _; (with_reducible repeat (first | refine blk_drewN ?_ _ | refine blk_drew ?_ | refine blk_alloc ?_ _)); exact BK105.out) hg (by simp [Value.ownBlock])); have n5_ := Aside0.mk (blk_grown (g := gb106) (o := .cells #[.string ((rd_T37 l0_1 x4_1).f0), .int .i64 ((rd_T37 l0_1 x4_1).f1), .int .i64 ((rd_T37 l0_1 x4_1).f2), .slice Ao31 y107.length co31, .slice none 0 0] 37 (0, 0)) (by (with_reducible repeat (first | refine blk_drewN ?_ _ | refine blk_drew ?_ | refine blk_alloc ?_ _)); refine blk_put (cs := #[.string ((rd_T37 l0_1 x4_1).f0), .int .i64 ((rd_T37 l0_1 x4_1).f1), .int .i64 ((rd_T37 l0_1 x4_1).f2), .slice none 0 0, .slice none 0 0]) ?_ 3 _ rfl; (with_reducible repeat (first | refine blk_drewN ?_ _ | refine blk_drew ?_ | refine blk_alloc ?_ _)); exact BK106.out) hg (by simp [Value.ownBlock])); have n6_ := Aside0.mk (Kd.R_grown (by (with_reducible repeat (first | apply Kd.R_alloc | apply Kd.R_drewN | apply Kd.R_drew)); exact (Kd.R_mono (Kd.R_far (p := ⟨gb106, 3, none⟩) (Kd.R_types HO109.out BK106.out (by decide)) (fun _ hk => hk.2) (.slice Ao31 y107.length co31)) (fun _ h_ => h_.1))) hg (fun _ _ => by simp [Value.ownBlock])); have n7_ := Aside0.mk (hb); have n8_ := Aside0.mk (ho); clear HO_104001; clear BK101; clear BK102; clear BK103; clear BK105; clear BK106; clear HO109; clear HB; have HO_104001 := n0_; have BK101 := n1_; have BK102 := n2_; have BK103 := n3_; have BK105 := n4_; have BK106 := n5_; have HO109 := n6_; have HB := n7_; have HO112 := n8_; clear n0_ n1_ n2_ n3_ n4_ n5_ n6_ n7_ n8_; clear ho hb hg hat; obtain ⟨Ao35, co35, eo35⟩ := Kd.R_slice HO112.out; subst eo35; have hcz36_0 : w34.cell? ⟨gb106, 0, none⟩ = some (.string ((rd_T37 l0_1 x4_1).f0)) := (blk_cell BK106.out 0).trans rfl; have hcz36_1 : w34.cell? ⟨gb106, 1, none⟩ = some (.int .i64 ((rd_T37 l0_1 x4_1).f1)) := (blk_cell BK106.out 1).trans rfl; have hcz36_2 : w34.cell? ⟨gb106, 2, none⟩ = some (.int .i64 ((rd_T37 l0_1 x4_1).f2)) := (blk_cell BK106.out 2).trans rfl; have hcz36_3 : w34.cell? ⟨gb106, 3, none⟩ = some (.slice Ao31 y107.length co31) := (blk_cell BK106.out 3).trans rfl; have hcz36_4 : w34.cell? ⟨gb106, 4, none⟩ = some (.slice none 0 0) := (blk_cell BK106.out 4).trans rfl; have hfz36_0 := blk_frozen BK106.out 0; have hfz36_1 := blk_frozen BK106.out 1; have hfz36_2 := blk_frozen BK106.out 2; have hfz36_3 := blk_frozen BK106.out 3; have hfz36_4 := blk_frozen BK106.out 4) | ((with_reducible refine gate_store (t := 26) (p := 40) rfl ?_); refine store_event (t := 26) (p := 40) (v := ?vo_w37) (w1 := (w34.setCell ⟨gb106, 4, none⟩ (.slice Ao35 y110.length co35))) ?hg ?ho ?hn ?hr ?_; (case ho => rfl); (case hg => rfl); (case hn => rfl); (case hr => first | (go_simp; done) | (go_simp; rfl)); intro w37 hw; have n0_ : Aside0 (Kd.S k37 37 w37 w.heap.size (fun k_ => some k_ ≠ (.slice Ao31 y107.length co31 : Value).ownBlock ∧ some k_ ≠ (.slice Ao35 y110.length co35 : Value).ownBlock ∧ k_ ≠ gb105 ∧ k_ ≠ gb106) u104001 x104001_1) := ⟨(by rw [hw]; exact (by (with_reducible repeat (first | apply Kd.S_alloc | apply Kd.S_drewN | apply Kd.S_drew)); exact Kd.S_mono (Kd.S_far (p := ⟨gb106, 4, none⟩) (Kd.S_mono HO_104001.out (fun k_ hk => (⟨hk, hk.1.1.2⟩ : _ ∧ k_ ≠ gb106))) (fun _ hk => hk.2) (.slice Ao35 y110.length co35)) (fun _ hk => ⟨hk.1.1.2, ⟨hk.1.2, ⟨hk.1.1.1.1.2, hk.1.1.1.2⟩⟩⟩)))⟩; have n1_ : Aside0 (Kd.R Kd.string 9 w37 w.heap.size (fun _ => True) (.slice Ao31 y107.length co31) y107) := ⟨(by rw [hw]; exact (by (with_reducible repeat (first | apply Kd.R_alloc | apply Kd.R_drewN | apply Kd.R_drew)); exact Kd.R_mono (Kd.R_far (p := ⟨gb106, 4, none⟩) (Kd.R_types HO109.out BK106.out (by decide)) (fun _ hk => hk.2) (.slice Ao35 y110.length co35)) (fun _ hk => trivial)))⟩; have n2_ : Aside0 (Kd.R (Kd.int .i64) 3 w37 w.heap.size (fun _ => True) (.slice Ao35 y110.length co35) y110) := ⟨(by rw [hw]; exact (by (with_reducible repeat (first | apply Kd.R_alloc | apply Kd.R_drewN | apply Kd.R_drew)); exact Kd.R_mono (Kd.R_far (p := ⟨gb106, 4, none⟩) (Kd.R_types HO112.out BK106.out (by decide)) (fun _ hk => hk.2) (.slice Ao35 y110.length co35)) (fun _ hk => trivial)))⟩; have n3_ : Aside0 (w37.heap[gb101]? = some (.cells #[.string a0_0, .slice (some ad104) l0_1.length c0_1] 24 (0, 0))) := ⟨(by rw [hw]; exact (by (with_reducible repeat (first | refine blk_drewN ?_ _ | refine blk_drew ?_ | refine blk_alloc ?_ _)); refine blk_far ?_ NB101_106.out _; (with_reducible repeat (first | refine blk_drewN ?_ _ | refine blk_drew ?_ | refine blk_alloc ?_ _)); exact BK101.out))⟩; have n4_ : Aside0 (w37.heap[gb102]? = some (.cells #[.string (⟨#[]⟩ : ByteArray), .slice none 0 0] 24 (0, 0))) := ⟨(by rw [hw]; exact (by (with_reducible repeat (first | refine blk_drewN ?_ _ | refine blk_drew ?_ | refine blk_alloc ?_ _)); refine blk_far ?_ NB102_106.out _; (with_reducible repeat (first | refine blk_drewN ?_ _ | refine blk_drew ?_ | refine blk_alloc ?_ _)); exact BK102.out))⟩; have n5_ : Aside0 (w37.heap[gb103]? = some (.cells #[.string a0_0, u104001] 24 (0, 0))) := ⟨(by rw [hw]; exact (by (with_reducible repeat (first | refine blk_drewN ?_ _ | refine blk_drew ?_ | refine blk_alloc ?_ _)); refine blk_far ?_ NB103_106.out _; (with_reducible repeat (first | refine blk_drewN ?_ _ | refine blk_drew ?_ | refine blk_alloc ?_ _)); exact BK103.out))⟩; have n6_ : Aside0 (w37.heap[gb105]? = some (.cells #[.string ((rd_T37 l0_1 x4_1).f0), .int .i64 ((rd_T37 l0_1 x4_1).f1), .int .i64 ((rd_T37 l0_1 x4_1).f2), .slice A104_3 ((rd_T37 l0_1 x4_1).f3).length c104_3, .slice A104_4 ((rd_T37 l0_1 x4_1).f4).length c104_4] 37 (0, 0))) := ⟨(by rw [hw]; exact (by (with_reducible repeat (first | refine blk_drewN ?_ _ | refine blk_drew ?_ | refine blk_alloc ?_ _)); refine blk_far ?_ NB105_106.out _; (with_reducible repeat (first | refine blk_drewN ?_ _ | refine blk_drew ?_ | refine blk_alloc ?_ _)); exact BK105.out))⟩; have n7_ : Aside0 (w37.heap[gb106]? = some (.cells #[.string ((rd_T37 l0_1 x4_1).f0), .int .i64 ((rd_T37 l0_1 x4_1).f1), .int .i64 ((rd_T37 l0_1 x4_1).f2), .slice Ao31 y107.length co31, .slice Ao35 y110.length co35] 37 (0, 0))) := ⟨(by rw [hw]; exact (by (with_reducible repeat (first | refine blk_drewN ?_ _ | refine blk_drew ?_ | refine blk_alloc ?_ _)); refine blk_put (cs := #[.string ((rd_T37 l0_1 x4_1).f0), .int .i64 ((rd_T37 l0_1 x4_1).f1), .int .i64 ((rd_T37 l0_1 x4_1).f2), .slice Ao31 y107.length co31, .slice none 0 0]) ?_ 4 _ rfl; (with_reducible repeat (first | refine blk_drewN ?_ _ | refine blk_drew ?_ | refine blk_alloc ?_ _)); exact BK106.out))⟩; have n8_ : Aside0 (Below w.heap.size w w37) := ⟨(by rw [hw]; exact (by repeat (first | (with_reducible first | exact HB.out | apply below_alloc | apply pw_below_drewN | apply below_drew1 | refine below_set ?_ GE101.out | refine below_set ?_ GE102.out | refine below_set ?_ GE103.out | refine below_set ?_ GE105.out | refine below_set ?_ GE106.out) | exact HB.out)))⟩; clear hw; clear HO_104001; clear HO109; clear HO112; clear BK101; clear BK102; clear BK103; clear BK105; clear BK106; clear HB; have HO_104001 := n0_; have HO109 := n1_; have HO112 := n2_; have BK101 := n3_; have BK102 := n4_; have BK103 := n5_; have BK105 := n6_; have BK106 := n7_; have HB := n8_; clear n0_ n1_ n2_ n3_ n4_ n5_ n6_ n7_ n8_; have hnb38 := NB103_102.out; have hnc38 := NB102_103.out; have hcz39_0 : w37.cell? ⟨gb103, 0, none⟩ = some (.string a0_0) := (blk_cell BK103.out 0).trans rfl; have hcz39_1 : w37.cell? ⟨gb103, 1, none⟩ = some (u104001) := (blk_cell BK103.out 1).trans rfl; have hfz39_0 := blk_frozen BK103.out 0; have hfz39_1 := blk_frozen BK103.out 1; have hcz40_0 : w37.cell? ⟨gb106, 0, none⟩ = some (.string ((rd_T37 l0_1 x4_1).f0)) := (blk_cell BK106.out 0).trans rfl; have hcz40_1 : w37.cell? ⟨gb106, 1, none⟩ = some (.int .i64 ((rd_T37 l0_1 x4_1).f1)) := (blk_cell BK106.out 1).trans rfl; have hcz40_2 : w37.cell? ⟨gb106, 2, none⟩ = some (.int .i64 ((rd_T37 l0_1 x4_1).f2)) := (blk_cell BK106.out 2).trans rfl; have hcz40_3 : w37.cell? ⟨gb106, 3, none⟩ = some (.slice Ao31 y107.length co31) := (blk_cell BK106.out 3).trans rfl; have hcz40_4 : w37.cell? ⟨gb106, 4, none⟩ = some (.slice Ao35 y110.length co35) := (blk_cell BK106.out 4).trans rfl; have hfz40_0 := blk_frozen BK106.out 0; have hfz40_1 := blk_frozen BK106.out 1; have hfz40_2 := blk_frozen BK106.out 2; have hfz40_3 := blk_frozen BK106.out 3; have hfz40_4 := blk_frozen BK106.out 4) | ((with_reducible refine gate_builtin (b := .append) (xs := #[.tmp 42, .tmp 44]) rfl ?_); at_builtin; refine Kd.S_append k37 (w0 := w) w.heap.size rfl (.tmp 42) (.tmp 44) 22 37 (.agg #[(.string ⟨#[]⟩), (.int .i64 0), (.int .i64 0), (.slice none 0 0), (.slice none 0 0)]) 80 rfl Tryz.underlying22 info37 rfl (by decide) (by omega) u104001 x104001_1 (⟨(rd_T37 l0_1 x4_1).f0, (rd_T37 l0_1 x4_1).f1, (rd_T37 l0_1 x4_1).f2, y107, y110⟩ : S37) [.string ((rd_T37 l0_1 x4_1).f0), .int .i64 ((rd_T37 l0_1 x4_1).f1), .int .i64 ((rd_T37 l0_1 x4_1).f2), .slice Ao31 y107.length co31, .slice Ao35 y110.length co35] (fun k_ => k_ ≠ gb105 ∧ k_ ≠ gb106) (fun k_ => some k_ = (.slice Ao31 y107.length co31 : Value).ownBlock ∨ some k_ = (.slice Ao35 y110.length co35 : Value).ownBlock) rfl rfl ?aP (fun k_ hk_ => hk_.elim (fun h_ => ((Kd.R_mono (ok' := fun k_ => ((fun k_ => k_ ≠ gb105 ∧ k_ ≠ gb106)) k_ ∧ some k_ ≠ (u104001 : Value).ownBlock) (Kd.R_types (Kd.R_types (Kd.R_apart' (HO109.out) (Kd.S_typed HO_104001.out) (by decide)) BK105.out (by decide)) BK106.out (by decide)) (fun k_ hk => ⟨⟨hk.1.2, hk.2⟩, hk.1.1.2⟩))).1 k_ h_.symm) (fun h_ => ((Kd.R_mono (ok' := fun k_ => ((fun k_ => k_ ≠ gb105 ∧ k_ ≠ gb106)) k_ ∧ some k_ ≠ (u104001 : Value).ownBlock) (Kd.R_types (Kd.R_types (Kd.R_apart' (HO112.out) (Kd.S_typed HO_104001.out) (by decide)) BK105.out (by decide)) BK106.out (by decide)) (fun k_ hk => ⟨⟨hk.1.2, hk.2⟩, hk.1.1.2⟩))).1 k_ h_.symm)) ?aF ?aO ?aB ?aS ?aL ?_; (case aP => exact k37_mkM _ _ _ (⟨(rd_T37 l0_1 x4_1).f0, (rd_T37 l0_1 x4_1).f1, (rd_T37 l0_1 x4_1).f2, y107, y110⟩ : S37) (Kd.R_mono (Kd.R_tight rfl (Kd.R_mono (ok' := fun k_ => ((fun k_ => k_ ≠ gb105 ∧ k_ ≠ gb106)) k_ ∧ some k_ ≠ (u104001 : Value).ownBlock) (Kd.R_types (Kd.R_types (Kd.R_apart' (HO109.out) (Kd.S_typed HO_104001.out) (by decide)) BK105.out (by decide)) BK106.out (by decide)) (fun k_ hk => ⟨⟨hk.1.2, hk.2⟩, hk.1.1.2⟩))) (fun _ h_ => Or.inl h_)) (Kd.R_mono (Kd.R_tight rfl (Kd.R_mono (ok' := fun k_ => ((fun k_ => k_ ≠ gb105 ∧ k_ ≠ gb106)) k_ ∧ some k_ ≠ (u104001 : Value).ownBlock) (Kd.R_types (Kd.R_types (Kd.R_apart' (HO112.out) (Kd.S_typed HO_104001.out) (by decide)) BK105.out (by decide)) BK106.out (by decide)) (fun k_ hk => ⟨⟨hk.1.2, hk.2⟩, hk.1.1.2⟩))) (fun _ h_ => Or.inr (h_)))); (case aB => exact (by repeat (first | (with_reducible first | exact HB.out | apply below_alloc | apply pw_below_drewN | apply below_drew1 | refine below_set ?_ GE101.out | refine below_set ?_ GE102.out | refine below_set ?_ GE103.out | refine below_set ?_ GE105.out | refine below_set ?_ GE106.out) | exact HB.out))); (case aF => exact (fun k_ hk => ⟨Kd.freshB (g := gb105) (o := .cells #[.string ((rd_T37 l0_1 x4_1).f0), .int .i64 ((rd_T37 l0_1 x4_1).f1), .int .i64 ((rd_T37 l0_1 x4_1).f2), .slice A104_3 ((rd_T37 l0_1 x4_1).f3).length c104_3, .slice A104_4 ((rd_T37 l0_1 x4_1).f4).length c104_4] 37 (0, 0)) (by (with_reducible repeat (first | refine blk_drewN ?_ _ | refine blk_drew ?_ | refine blk_alloc ?_ _)); exact BK105.out) k_ hk, Kd.freshB (g := gb106) (o := .cells #[.string ((rd_T37 l0_1 x4_1).f0), .int .i64 ((rd_T37 l0_1 x4_1).f1), .int .i64 ((rd_T37 l0_1 x4_1).f2), .slice Ao31 y107.length co31, .slice Ao35 y110.length co35] 37 (0, 0)) (by (with_reducible repeat (first | refine blk_drewN ?_ _ | refine blk_drew ?_ | refine blk_alloc ?_ _)); exact BK106.out) k_ hk⟩)); (case aO => exact (by (with_reducible repeat (first | apply Kd.S_alloc | apply Kd.S_drewN | apply Kd.S_drew)); exact Kd.S_mono HO_104001.out (fun k_ hk => ⟨⟨hk.2.2.1, hk.2.2.2⟩, fun e_ => e_.elim (fun h_ => hk.1 h_) (fun h_ => hk.2.1 h_)⟩))); (case aS => exact (below_size (by repeat (first | (with_reducible first | exact HB.out | apply below_alloc | apply pw_below_drewN | apply below_drew1 | refine below_set ?_ GE101.out | refine below_set ?_ GE102.out | refine below_set ?_ GE103.out | refine below_set ?_ GE105.out | refine below_set ?_ GE106.out) | exact HB.out)))); (case aL => have := LMc14.out; omega); intro v114 w41 ho hb hg hat; rw [← Ny113.out] at ho; have n0_ := Aside0.mk (blk_grown (g := gb101) (o := .cells #[.string a0_0, .slice (some ad104) l0_1.length c0_1] 24 (0, 0)) (by (with_reducible repeat (first | refine blk_drewN ?_ _ | refine blk_drew ?_ | refine blk_alloc ?_ _)); exact BK101.out) hg (Kd.S_ne HO_104001.out BK101.out (by decide))); have n1_ := Aside0.mk (blk_grown (g := gb102) (o := .cells #[.string (⟨#[]⟩ : ByteArray), .slice none 0 0] 24 (0, 0)) (by (with_reducible repeat (first | refine blk_drewN ?_ _ | refine blk_drew ?_ | refine blk_alloc ?_ _)); exact BK102.out) hg (Kd.S_ne HO_104001.out BK102.out (by decide))); have n2_ := Aside0.mk (blk_grown (g := gb103) (o := .cells #[.string a0_0, u104001] 24 (0, 0)) (by (with_reducible repeat (first | refine blk_drewN ?_ _ | refine blk_drew ?_ | refine blk_alloc ?_ _)); exact BK103.out) hg (Kd.S_ne HO_104001.out BK103.out (by decide))); have n3_ := Aside0.mk (blk_grown (g := gb105) (o := .cells #[.string ((rd_T37 l0_1 x4_1).f0), .int .i64 ((rd_T37 l0_1 x4_1).f1), .int .i64 ((rd_T37 l0_1 x4_1).f2), .slice A104_3 ((rd_T37 l0_1 x4_1).f3).length c104_3, .slice A104_4 ((rd_T37 l0_1 x4_1).f4).length c104_4] 37 (0, 0)) (by (with_reducible repeat (first | refine blk_drewN ?_ _ | refine blk_drew ?_ | refine blk_alloc ?_ _)); exact BK105.out) hg (Kd.S_away HO_104001.out (fun _ hk => hk.2.2.1))); have n4_ := Aside0.mk (blk_grown (g := gb106) (o := .cells #[.string ((rd_T37 l0_1 x4_1).f0), .int .i64 ((rd_T37 l0_1 x4_1).f1), .int .i64 ((rd_T37 l0_1 x4_1).f2), .slice Ao31 y107.length co31, .slice Ao35 y110.length co35] 37 (0, 0)) (by (with_reducible repeat (first | refine blk_drewN ?_ _ | refine blk_drew ?_ | refine blk_alloc ?_ _)); exact BK106.out) hg (Kd.S_away HO_104001.out (fun _ hk => hk.2.2.2))); have n5_ := Aside0.mk (hb); have n6_ := Aside0.mk (ho); clear BK101; clear BK102; clear BK103; clear BK105; clear BK106; clear HB; clear HO_104001; clear HO109; clear HO112; have BK101 := n0_; have BK102 := n1_; have BK103 := n2_; have BK105 := n3_; have BK106 := n4_; have HB := n5_; have HO115 := n6_; clear n0_ n1_ n2_ n3_ n4_ n5_ n6_; clear ho hb hg hat; obtain ⟨Ao42, co42, eo42⟩ := Kd.S_slice HO115.out; subst eo42; have hcz43_0 : w41.cell? ⟨gb103, 0, none⟩ = some (.string a0_0) := (blk_cell BK103.out 0).trans rfl; have hcz43_1 : w41.cell? ⟨gb103, 1, none⟩ = some (u104001) := (blk_cell BK103.out 1).trans rfl; have hfz43_0 := blk_frozen BK103.out 0; have hfz43_1 := blk_frozen BK103.out 1))
             go_roundg k1
             case measure => have := HK1.out; omega
             case rel => exact ⟨(wrap64 (x4_1 + 1)), (y113), (.slice Ao42 y113.length co42), (by first | rfl | (simp; done) | (simp [*]; done)), H', ⟨by have := HK1.out; omega⟩, ⟨by (with_reducible repeat (first | apply Kd.S_alloc | apply Kd.S_drewN | apply Kd.S_drew)); exact Kd.S_mono (Kd.S_far (p := ⟨gb103, 1, none⟩) (Kd.S_types HO115.out BK103.out (by decide)) (fun _ hk => hk.2) (.slice Ao42 y113.length co42)) (fun _ hk => trivial)⟩, ⟨by (with_reducible repeat (first | refine blk_drewN ?_ _ | refine blk_drew ?_ | refine blk_alloc ?_ _)); refine blk_far ?_ NB101_103.out _; (with_reducible repeat (first | refine blk_drewN ?_ _ | refine blk_drew ?_ | refine blk_alloc ?_ _)); exact BK101.out⟩, ⟨by (with_reducible repeat (first | refine blk_drewN ?_ _ | refine blk_drew ?_ | refine blk_alloc ?_ _)); refine blk_far ?_ NB102_103.out _; (with_reducible repeat (first | refine blk_drewN ?_ _ | refine blk_drew ?_ | refine blk_alloc ?_ _)); exact BK102.out⟩, ⟨by (with_reducible repeat (first | refine blk_drewN ?_ _ | refine blk_drew ?_ | refine blk_alloc ?_ _)); refine blk_put (cs := #[.string a0_0, u104001]) ?_ 1 _ rfl; (with_reducible repeat (first | refine blk_drewN ?_ _ | refine blk_drew ?_ | refine blk_alloc ?_ _)); exact BK103.out⟩, ⟨by repeat (first | (with_reducible first | exact HB.out | apply below_alloc | apply pw_below_drewN | apply below_drew1 | refine below_set ?_ GE101.out | refine below_set ?_ GE102.out | refine below_set ?_ GE103.out | refine below_set ?_ GE105.out | refine below_set ?_ GE106.out) | exact HB.out)⟩⟩
           · rw [if_neg c14] at H
             exact absurd H (by simp)
         · rw [if_neg c13] at H
           exact absurd H (by simp)
       · rw [if_neg c12] at H
         exact absurd H (by simp)
     · rw [if_neg c11] at H
       exact absurd H (by simp)
   · rw [if_neg c10] at H
     have c10b0 : decide (x4_1 < (l0_1.length : Int)) = false := decide_eq_false c10
     clear c10
     simp only [Option.some.injEq, Prod.mk.injEq] at H
     obtain ⟨rfl, rfl⟩ := H
     have hnb44 := NB101_102.out
     have hnc44 := NB102_101.out
     have hnb45 := NB101_103.out
     have hnc45 := NB103_101.out
     have hcz46_0 : wr.cell? ⟨gb101, 0, none⟩ = some (.string a0_0) := (blk_cell BK101.out 0).trans rfl
     have hcz46_1 : wr.cell? ⟨gb101, 1, none⟩ = some (.slice A0_1 l0_1.length c0_1) := (blk_cell BK101.out 1).trans rfl
     have hfz46_0 := blk_frozen BK101.out 0
     have hfz46_1 := blk_frozen BK101.out 1
     have hnb47 := NB103_102.out
     have hnc47 := NB102_103.out
     have hcz48_0 : wr.cell? ⟨gb103, 0, none⟩ = some (.string a0_0) := (blk_cell BK103.out 0).trans rfl
     have hcz48_1 : wr.cell? ⟨gb103, 1, none⟩ = some (u104001) := (blk_cell BK103.out 1).trans rfl
     have hfz48_0 := blk_frozen BK103.out 0
     have hfz48_1 := blk_frozen BK103.out 1
     have hcz49_0 : wr.cell? ⟨gb102, 0, none⟩ = some (.string (⟨#[]⟩ : ByteArray)) := (blk_cell BK102.out 0).trans rfl
     have hcz49_1 : wr.cell? ⟨gb102, 1, none⟩ = some (.slice none 0 0) := (blk_cell BK102.out 1).trans rfl
     have hfz49_0 := blk_frozen BK102.out 0
     have hfz49_1 := blk_frozen BK102.out 1
     obtain ⟨Ao50, co50, eo50⟩ := Kd.S_slice HO_104001.out
     subst eo50
     go_wp2
     refine bodyPost_ret (results_cell_row rfl _ _ gb102 24 #[.string a0_0, .slice Ao50 x104001_1.length co50] (0, 0) _ rfl (by (with_reducible repeat (first | refine blk_drewN ?_ _ | refine blk_drew ?_ | refine blk_alloc ?_ _)); refine blk_put (cs := #[.string a0_0, .slice none 0 0]) ?_ 1 _ rfl; (with_reducible repeat (first | refine blk_drewN ?_ _ | refine blk_drew ?_ | refine blk_alloc ?_ _)); refine blk_put (cs := #[.string (⟨#[]⟩ : ByteArray), .slice none 0 0]) ?_ 0 _ rfl; (with_reducible repeat (first | refine blk_drewN ?_ _ | refine blk_drew ?_ | refine blk_alloc ?_ _)); exact BK102.out) Tryz.underlying24 rfl (by kernel_rfl)) rfl ?_
     exact ⟨_, by first | rfl | (simp [errW_none, errW_some] <;> rfl) | (simp [*, errW_none, errW_some] <;> rfl), by (with_reducible repeat (first | apply Kd.S_alloc | apply Kd.S_drewN | apply Kd.S_drew)); exact Kd.S_mono (Kd.S_far (p := ⟨gb102, 1, none⟩) (Kd.S_far (p := ⟨gb102, 0, none⟩) (Kd.S_types HO_104001.out BK102.out (by decide)) (fun _ hk => hk.2) (.string a0_0)) (fun _ hk => hk.2) (.slice Ao50 x104001_1.length co50)) (fun _ hk => trivial), by repeat (first | (with_reducible first | exact HB.out | apply below_alloc | apply pw_below_drewN | apply below_drew1 | refine below_set ?_ GE101.out | refine below_set ?_ GE102.out | refine below_set ?_ GE103.out) | exact HB.out)⟩

/-! ### name_letter: function 65 -/
def name_letter.j0 : Nat → Int → Bool → Option (Bool)
 | 0, _, _ => none
 | k + 1, x0, x3 => if x3 = true then (some true) else (if x0 ≥ 945 then (if x0 ≤ 969 then (some true) else (if x0 = 228 then (some true) else (if x0 = 246 then (some true) else (if x0 = 252 then (some true) else (some (x0 == 223)))))) else (if x0 = 228 then (some true) else (if x0 = 246 then (some true) else (if x0 = 252 then (some true) else (some (x0 == 223))))))
def name_letter.f (k : Nat) (a0 : Int) : Option (Bool) := if a0 ≥ 97 then (name_letter.j0 k a0 (decide (a0 ≤ 122))) else (name_letter.j0 k a0 false)
theorem name_letter.mono_l : ∀ k, (∀ y0 y1, LeO (name_letter.j0 k y0 y1) (name_letter.j0 (k + 1) y0 y1))
 | 0 => fun _ _ r h => by simp [name_letter.j0] at h
 | k + 1 => by
  have ih0 := name_letter.mono_l k
  · intro y0 y1
    unfold name_letter.j0
    repeat' first
    | (with_reducible exact ih0 _ _)
    | (with_reducible exact LeO.refl _)
    | (with_reducible exact LeO.none _)
    | (with_reducible refine LeO.ite ?_ ?_)
    | (with_reducible refine LeO.bind ?_ (fun _ => ?_))
    | exact ih0 _ _
    | exact LeO.none _
    | refine LeO.ite ?_ ?_
    | refine LeO.bind ?_ (fun _ => ?_)
theorem name_letter.mono : ∀ a0 k, LeO (name_letter.f k a0) (name_letter.f (k + 1) a0) := by
 intro a0 k
 have ih0 := name_letter.mono_l k
 unfold name_letter.f
 repeat' first
  | (with_reducible exact ih0 _ _)
  | (with_reducible exact LeO.refl _)
  | (with_reducible exact LeO.none _)
  | (with_reducible refine LeO.ite ?_ ?_)
  | (with_reducible refine LeO.bind ?_ (fun _ => ?_))
  | exact ih0 _ _
  | exact LeO.none _
  | refine LeO.ite ?_ ?_
  | refine LeO.bind ?_ (fun _ => ?_)
set_option maxHeartbeats 8000000 in
set_option maxRecDepth 100000 in
theorem name_letter.calls (k : Nat) (a0 : Int) (r : Bool) (w : World) (h : name_letter.f k a0 = some r) :
 Calls Tryz.prog 65 #[.int .i32 a0] w fun e w' => e = .returned (.bool r) ∧ Drawn0 w w' := by
 have H : (if a0 ≥ 97 then (name_letter.j0 k a0 (decide (a0 ≤ 122))) else (name_letter.j0 k a0 false)) = some r := h
 clear h
 have HC2 := Aside0.mk H
 clear H
 go_enter Tryz.func65, Tryz.ntmps65
 go_upto_region 1 with (fail)
 go_cut [3] (fun v3 wc => ∃ (kq : Nat) (x3_1 : Bool), v3 = .bool x3_1 ∧ Aside0 (name_letter.j0 kq a0 x3_1 = some r) ∧ Aside0 (kq ≤ k) ∧ Drawn0 w wc)
 case first =>
  have H := HC2.out
  clear HC2
  by_cases c3 : a0 ≥ 97
  · rw [if_pos c3] at H
    have c3b0 : decide (97 ≤ a0) = true := decide_eq_true c3
    clear c3
    (first | rw [c3b0] | (simp only [i64_w, i32_w]; rw [c3b0]) | skip)
    have H' := Aside0.mk H
    clear H
    go_wp2
    go_meet
    case rel => exact ⟨_, (decide (a0 ≤ 122)), (by first | rfl | (simp; done) | (simp [*]; done)), H', ⟨by first | omega | exact Nat.le_refl _⟩, by repeat (first | exact Drawn0.refl _ | apply Drawn0.step)⟩
  · rw [if_neg c3] at H
    have c3b0 : decide (97 ≤ a0) = false := decide_eq_false c3
    clear c3
    (first | rw [c3b0] | (simp only [i64_w, i32_w]; rw [c3b0]) | skip)
    have H' := Aside0.mk H
    clear H
    go_wp2
    go_meet
    case rel => exact ⟨_, (false), (by first | rfl | (simp; done) | (simp [*]; done)), H', ⟨by first | omega | exact Nat.le_refl _⟩, by repeat (first | exact Drawn0.refl _ | apply Drawn0.step)⟩
 case rest =>
  clear HC2
  try clear p2
  try clear c3
  try clear c3b0
  obtain ⟨kq, x3_1, rfl, HA, HJ1, ⟨mc1, rfl⟩⟩ := hcut
  cases kq with
  | zero => exact absurd HA.out (by simp [name_letter.j0])
  | succ kj1 =>
   have H := HA.out
   clear HA
   simp only [name_letter.j0] at H
   by_cases c4 : x3_1 = true
   · subst c4
     have H1 : (some true) = some r := by rw [if_pos rfl] at H; exact H
     clear H
     have H := H1
     clear H1
     obtain rfl := Option.some.inj H
     go_wp2
     go_ret
     exact ⟨by first | rfl | (simp; done) | (simp [*]; done), by repeat (first | exact Drawn0.refl _ | apply Drawn0.step)⟩
   · replace c4 := Bool.eq_false_iff.mpr c4
     subst c4
     have H1 : (if a0 ≥ 945 then (if a0 ≤ 969 then (some true) else (if a0 = 228 then (some true) else (if a0 = 246 then (some true) else (if a0 = 252 then (some true) else (some (a0 == 223)))))) else (if a0 = 228 then (some true) else (if a0 = 246 then (some true) else (if a0 = 252 then (some true) else (some (a0 == 223)))))) = some r := by rw [if_neg (show ¬ (false = true) by decide)] at H; exact H
     clear H
     have H := H1
     clear H1
     by_cases c5 : a0 ≥ 945
     · rw [if_pos c5] at H
       have c5b0 : decide (945 ≤ a0) = true := decide_eq_true c5
       clear c5
       by_cases c6 : a0 ≤ 969
       · rw [if_pos c6] at H
         have c6b0 : decide (a0 ≤ 969) = true := decide_eq_true c6
         clear c6
         obtain rfl := Option.some.inj H
         go_wp2
         go_ret
         exact ⟨by first | rfl | (simp; done) | (simp [*]; done), by repeat (first | exact Drawn0.refl _ | apply Drawn0.step)⟩
       · rw [if_neg c6] at H
         have c6b0 : decide (a0 ≤ 969) = false := decide_eq_false c6
         clear c6
         by_cases c7 : a0 = 228
         · rw [if_pos c7] at H
           have c7b0 : (a0 == 228) = true := beq_iff_eq.mpr c7
           have c7b1 : (a0 != 228) = false := bne_eq_false_iff_eq.mpr c7
           clear c7
           obtain rfl := Option.some.inj H
           go_wp2
           go_ret
           exact ⟨by first | rfl | (simp; done) | (simp [*]; done), by repeat (first | exact Drawn0.refl _ | apply Drawn0.step)⟩
         · rw [if_neg c7] at H
           have c7b0 : (a0 == 228) = false := beq_eq_false_iff_ne.mpr c7
           have c7b1 : (a0 != 228) = true := bne_iff_ne.mpr c7
           by_cases c8 : a0 = 246
           · rw [if_pos c8] at H
             have c8b0 : (a0 == 246) = true := beq_iff_eq.mpr c8
             have c8b1 : (a0 != 246) = false := bne_eq_false_iff_eq.mpr c8
             clear c8
             obtain rfl := Option.some.inj H
             go_wp2
             go_ret
             exact ⟨by first | rfl | (simp; done) | (simp [*]; done), by repeat (first | exact Drawn0.refl _ | apply Drawn0.step)⟩
           · rw [if_neg c8] at H
             have c8b0 : (a0 == 246) = false := beq_eq_false_iff_ne.mpr c8
             have c8b1 : (a0 != 246) = true := bne_iff_ne.mpr c8
             by_cases c9 : a0 = 252
             · rw [if_pos c9] at H
               have c9b0 : (a0 == 252) = true := beq_iff_eq.mpr c9
               have c9b1 : (a0 != 252) = false := bne_eq_false_iff_eq.mpr c9
               clear c9
               obtain rfl := Option.some.inj H
               go_wp2
               go_ret
               exact ⟨by first | rfl | (simp; done) | (simp [*]; done), by repeat (first | exact Drawn0.refl _ | apply Drawn0.step)⟩
             · rw [if_neg c9] at H
               have c9b0 : (a0 == 252) = false := beq_eq_false_iff_ne.mpr c9
               have c9b1 : (a0 != 252) = true := bne_iff_ne.mpr c9
               obtain rfl := Option.some.inj H
               go_wp2
               go_ret
               exact ⟨by first | rfl | (simp; done) | (simp [*]; done), by repeat (first | exact Drawn0.refl _ | apply Drawn0.step)⟩
     · rw [if_neg c5] at H
       have c5b0 : decide (945 ≤ a0) = false := decide_eq_false c5
       clear c5
       by_cases c10 : a0 = 228
       · rw [if_pos c10] at H
         have c10b0 : (a0 == 228) = true := beq_iff_eq.mpr c10
         have c10b1 : (a0 != 228) = false := bne_eq_false_iff_eq.mpr c10
         clear c10
         obtain rfl := Option.some.inj H
         go_wp2
         go_ret
         exact ⟨by first | rfl | (simp; done) | (simp [*]; done), by repeat (first | exact Drawn0.refl _ | apply Drawn0.step)⟩
       · rw [if_neg c10] at H
         have c10b0 : (a0 == 228) = false := beq_eq_false_iff_ne.mpr c10
         have c10b1 : (a0 != 228) = true := bne_iff_ne.mpr c10
         by_cases c11 : a0 = 246
         · rw [if_pos c11] at H
           have c11b0 : (a0 == 246) = true := beq_iff_eq.mpr c11
           have c11b1 : (a0 != 246) = false := bne_eq_false_iff_eq.mpr c11
           clear c11
           obtain rfl := Option.some.inj H
           go_wp2
           go_ret
           exact ⟨by first | rfl | (simp; done) | (simp [*]; done), by repeat (first | exact Drawn0.refl _ | apply Drawn0.step)⟩
         · rw [if_neg c11] at H
           have c11b0 : (a0 == 246) = false := beq_eq_false_iff_ne.mpr c11
           have c11b1 : (a0 != 246) = true := bne_iff_ne.mpr c11
           by_cases c12 : a0 = 252
           · rw [if_pos c12] at H
             have c12b0 : (a0 == 252) = true := beq_iff_eq.mpr c12
             have c12b1 : (a0 != 252) = false := bne_eq_false_iff_eq.mpr c12
             clear c12
             obtain rfl := Option.some.inj H
             go_wp2
             go_ret
             exact ⟨by first | rfl | (simp; done) | (simp [*]; done), by repeat (first | exact Drawn0.refl _ | apply Drawn0.step)⟩
           · rw [if_neg c12] at H
             have c12b0 : (a0 == 252) = false := beq_eq_false_iff_ne.mpr c12
             have c12b1 : (a0 != 252) = true := bne_iff_ne.mpr c12
             obtain rfl := Option.some.inj H
             go_wp2
             go_ret
             exact ⟨by first | rfl | (simp; done) | (simp [*]; done), by repeat (first | exact Drawn0.refl _ | apply Drawn0.step)⟩

-- NOT PRINTED: function 45 (name_Is)

-- NOT PRINTED: function 92 (api_Step_92)

-- NOT PRINTED: function 66 (api_Step_66)

-- NOT PRINTED: function 93 (name_Owner)

-- NOT PRINTED: function 108 (utf8_decodeRuneInStringSlow)

-- NOT PRINTED: function 105 (utf8_DecodeRuneInString)

-- NOT PRINTED: function 94 (name_Compare)

-- NOT PRINTED: function 68 (check_keys)

/-! ### check_needs: function 69 -/
def check_needs.l0 : Nat → Int → Int → List Int → Int → Int → ByteArray → List (S37) → Option (Bool)
 | 0, _, _, _, _, _, _, _ => none
 | k + 1, x1, x5, x13, x14, x15, x119000, x119001 => if x15 < x14 then (if 0 ≤ x15 then (if x15 < (x13.length : Int) then (if (rd x13 x15) ≤ x5 then (some false) else (if (rd x13 x15) ≥ (x119001.length : Int) then (some false) else (if (rd x13 x15) = x1 then (some false) else (check_needs.l0 k x1 (rd x13 x15) x13 x14 (wrap64 (x15 + 1)) x119000 x119001)))) else (none)) else (none)) else (some true)
def check_needs.f (k : Nat) (a0_0 : ByteArray) (l0_1 : List (S37)) (a1 : Int) : Option (Bool) := if 0 ≤ a1 then (if a1 < (l0_1.length : Int) then (check_needs.l0 k a1 (-1) ((rd_T37 l0_1 a1).f4) (((rd_T37 l0_1 a1).f4).length : Int) 0 a0_0 l0_1) else (none)) else (none)
theorem check_needs.mono_l : ∀ k, (∀ y0 y1 y2 y3 y4 y5 y6, LeO (check_needs.l0 k y0 y1 y2 y3 y4 y5 y6) (check_needs.l0 (k + 1) y0 y1 y2 y3 y4 y5 y6))
 | 0 => fun _ _ _ _ _ _ _ r h => by simp [check_needs.l0] at h
 | k + 1 => by
  have ih0 := check_needs.mono_l k
  · intro y0 y1 y2 y3 y4 y5 y6
    unfold check_needs.l0
    repeat' first
    | (with_reducible exact ih0 _ _ _ _ _ _ _)
    | (with_reducible exact LeO.refl _)
    | (with_reducible exact LeO.none _)
    | (with_reducible refine LeO.ite ?_ ?_)
    | (with_reducible refine LeO.bind ?_ (fun _ => ?_))
    | exact ih0 _ _ _ _ _ _ _
    | exact LeO.none _
    | refine LeO.ite ?_ ?_
    | refine LeO.bind ?_ (fun _ => ?_)
theorem check_needs.mono : ∀ a0 a1 a2 k, LeO (check_needs.f k a0 a1 a2) (check_needs.f (k + 1) a0 a1 a2) := by
 intro a0 a1 a2 k
 have ih0 := check_needs.mono_l k
 unfold check_needs.f
 repeat' first
  | (with_reducible exact ih0 _ _ _ _ _ _ _)
  | (with_reducible exact LeO.refl _)
  | (with_reducible exact LeO.none _)
  | (with_reducible refine LeO.ite ?_ ?_)
  | (with_reducible refine LeO.bind ?_ (fun _ => ?_))
  | exact ih0 _ _ _ _ _ _ _
  | exact LeO.none _
  | refine LeO.ite ?_ ?_
  | refine LeO.bind ?_ (fun _ => ?_)
set_option maxHeartbeats 8000000 in
set_option maxRecDepth 100000 in
theorem check_needs.calls (k : Nat) (a0_0 : ByteArray) (A0_1 : Option Addr) (c0_1 : Nat) (l0_1 : List (S37)) (a1 : Int) (r : Bool) (w : World) (hr0_1 : Kd.C k37 w A0_1 l0_1.length l0_1) (hc0_1 : l0_1.length ≤ c0_1) (h : check_needs.f k a0_0 l0_1 a1 = some r) :
 Calls Tryz.prog 69 #[.agg #[.string a0_0, .slice A0_1 l0_1.length c0_1], .int .i64 a1] w fun e w' => e = .returned (.bool r) ∧ Below w.heap.size w w' := by
 have hu24 := Tryz.underlying24
 have HR0_1 := Aside0.mk hr0_1
 have HC0_1 := Aside0.mk hc0_1
 clear hr0_1 hc0_1
 have HB := Aside0.mk (Below.refl w.heap.size w)
 have H : (if 0 ≤ a1 then (if a1 < (l0_1.length : Int) then (check_needs.l0 k a1 (-1) ((rd_T37 l0_1 a1).f4) (((rd_T37 l0_1 a1).f4).length : Int) 0 a0_0 l0_1) else (none)) else (none)) = some r := h
 clear h
 by_cases c3 : 0 ≤ a1
 · rw [if_pos c3] at H
   have c3b0 : decide (0 ≤ a1) = true := decide_eq_true c3
   clear c3
   by_cases c4 : a1 < (l0_1.length : Int)
   · rw [if_pos c4] at H
     have c4b0 : decide (a1 < (l0_1.length : Int)) = true := decide_eq_true c4
     clear c4
     have H' := Aside0.mk H
     clear H
     go_enter Tryz.func69, Tryz.ntmps69
     go_wp2_with (first | ((with_reducible refine gate_dst (N := 2) rfl ?_); (try (refine gate_guard (by rfl) ?_; dsimp only)); refine box_event ?hg (N := 2) ?hd (cs := #[.string a0_0, .slice A0_1 l0_1.length c0_1]) (t := 24) ?hr ?_; (case hd => rfl); (case hg => rfl); (case hr => first | (go_simp; done) | (go_simp; rfl)); intro gb118 hg w5 hbox hb; have n0_ := Aside0.mk (below_step (by repeat (first | (with_reducible first | exact HB.out | apply below_alloc | apply pw_below_drewN | apply below_drew1) | exact HB.out)) hb); have n1_ := Aside0.mk (hbox); have n2_ := Aside0.mk ((by rw [hg]; exact (below_size (by repeat (first | (with_reducible first | exact HB.out | apply below_alloc | apply pw_below_drewN | apply below_drew1) | exact HB.out))) : w.heap.size ≤ gb118)); have n3_ := Aside0.mk ((by rw [hg]; exact (below_size (by repeat (first | (with_reducible first | exact HB.out | apply below_alloc | apply pw_below_drewN | apply below_drew1) | exact HB.out))) : w.heap.size ≤ gb118)); clear HB; have HB := n0_; have BK118 := n1_; have GW118 := n2_; have GE118 := n3_; clear n0_ n1_ n2_ n3_; clear hb hbox hg; have hcz6_0 : w5.cell? ⟨gb118, 0, none⟩ = some (.string a0_0) := (blk_cell BK118.out 0).trans rfl; have hcz6_1 : w5.cell? ⟨gb118, 1, none⟩ = some (.slice A0_1 l0_1.length c0_1) := (blk_cell BK118.out 1).trans rfl; have hfz6_0 := blk_frozen BK118.out 0; have hfz6_1 := blk_frozen BK118.out 1; have p119 : 0 ≤ (a1 : Int) := of_decide_eq_true (by first | (with_reducible assumption) | assumption); have q119 : a1 < (l0_1.length : Int) := of_decide_eq_true (by first | (with_reducible assumption) | assumption); obtain ⟨ad119, A119_3, c119_3, A119_4, c119_4, e119, hx119_0, hx119_1, hx119_2, hx119_3, hx119_4, hl119_3, hi119_3, hl119_4, hi119_4⟩ := at_T37 HR0_1.out a1 p119 q119; cases e119; replace hx119_0 := (HB.out.cell (World.block_lt_of_cell? w _ hx119_0)).trans hx119_0; replace hx119_1 := (HB.out.cell (World.block_lt_of_cell? w _ hx119_1)).trans hx119_1; replace hx119_2 := (HB.out.cell (World.block_lt_of_cell? w _ hx119_2)).trans hx119_2; replace hx119_3 := (HB.out.cell (World.block_lt_of_cell? w _ hx119_3)).trans hx119_3; replace hx119_4 := (HB.out.cell (World.block_lt_of_cell? w _ hx119_4)).trans hx119_4; have HR119_3 := Aside0.mk hi119_3; have HC119_3 := Aside0.mk hl119_3; clear hi119_3 hl119_3; have HR119_4 := Aside0.mk hi119_4; have HC119_4 := Aside0.mk hl119_4; clear hi119_4 hl119_4; replace p119 := eq_true p119; replace q119 := eq_true q119))
     go_loopg [5, 15] k (fun kq v5 v15 w' => ∃ (x5_1 : Int) (x15_1 : Int), v5 = .int .i64 x5_1 ∧ v15 = .int .i64 x15_1 ∧ Aside0 (check_needs.l0 kq a1 x5_1 ((rd_T37 l0_1 a1).f4) (((rd_T37 l0_1 a1).f4).length : Int) x15_1 a0_0 l0_1 = some r) ∧ Aside0 (kq ≤ k) ∧ Aside0 (w'.heap[gb118]? = some (.cells #[.string a0_0, (.slice (some ad119) l0_1.length c0_1)] 24 (0, 0))) ∧ Aside0 (Below w.heap.size w w'))
     case atStart => exact ⟨((-1)), (0), (by first | rfl | (simp; done) | (simp [*]; done)), (by first | rfl | (simp; done) | (simp [*]; done)), H', ⟨Nat.le_refl _⟩, ⟨by (with_reducible repeat (first | refine blk_drewN ?_ _ | refine blk_drew ?_ | refine blk_alloc ?_ _)); exact BK118.out⟩, ⟨by repeat (first | (with_reducible first | exact HB.out | apply below_alloc | apply pw_below_drewN | apply below_drew1 | refine below_set ?_ GE118.out) | exact HB.out)⟩⟩
     case round =>
      clear H'
      try clear c1
      try clear p1
      try clear q1
      try clear hx1
      try clear p2
      try clear c3
      try clear c3b0
      try clear c4
      try clear c4b0
      try clear c6
      try clear hcz6_0
      try clear hcz6_1
      try clear hfz6_0
      try clear hfz6_1
      try clear hx119_0
      try clear hx119_1
      try clear hx119_2
      try clear hx119_3
      try clear hx119_4
      try clear p119
      try clear q119
      obtain ⟨x5_1, x15_1, rfl, rfl, HA, HK1, BK118, HB⟩ := hrel
      cases gk with
      | zero => exact absurd HA.out (by simp [check_needs.l0])
      | succ k1 =>
       have H := HA.out
       clear HA
       simp only [check_needs.l0] at H
       by_cases c7 : x15_1 < (((rd_T37 l0_1 a1).f4).length : Int)
       · rw [if_pos c7] at H
         have c7b0 : decide (x15_1 < (((rd_T37 l0_1 a1).f4).length : Int)) = true := decide_eq_true c7
         clear c7
         by_cases c8 : 0 ≤ x15_1
         · rw [if_pos c8] at H
           have c8b0 : decide (0 ≤ x15_1) = true := decide_eq_true c8
           clear c8
           by_cases c9 : x15_1 < (((rd_T37 l0_1 a1).f4).length : Int)
           · rw [if_pos c9] at H
             have c9b0 : decide (x15_1 < (((rd_T37 l0_1 a1).f4).length : Int)) = true := decide_eq_true c9
             clear c9
             by_cases c10 : (rd ((rd_T37 l0_1 a1).f4) x15_1) ≤ x5_1
             · rw [if_pos c10] at H
               have c10b0 : decide ((rd ((rd_T37 l0_1 a1).f4) x15_1) ≤ x5_1) = true := decide_eq_true c10
               clear c10
               obtain rfl := Option.some.inj H
               have p120 : 0 ≤ (x15_1 : Int) := of_decide_eq_true (by first | (with_reducible assumption) | assumption)
               have q120 : x15_1 < (((rd_T37 l0_1 a1).f4).length : Int) := of_decide_eq_true (by first | (with_reducible assumption) | assumption)
               obtain ⟨ad120, e120, hx120_0⟩ := Kd.at_int HR119_4.out x15_1 p120 q120
               cases e120
               replace hx120_0 := (HB.out.cell (World.block_lt_of_cell? w _ hx120_0)).trans hx120_0
               replace p120 := eq_true p120
               replace q120 := eq_true q120
               go_wp2
               go_ret
               exact ⟨by first | rfl | (simp [errW_none, errW_some] <;> rfl) | (simp [*, errW_none, errW_some] <;> rfl), by repeat (first | (with_reducible first | exact HB.out | apply below_alloc | apply pw_below_drewN | apply below_drew1 | refine below_set ?_ GE118.out) | exact HB.out)⟩
             · rw [if_neg c10] at H
               have c10b0 : decide ((rd ((rd_T37 l0_1 a1).f4) x15_1) ≤ x5_1) = false := decide_eq_false c10
               clear c10
               by_cases c11 : (rd ((rd_T37 l0_1 a1).f4) x15_1) ≥ (l0_1.length : Int)
               · rw [if_pos c11] at H
                 have c11b0 : decide ((l0_1.length : Int) ≤ (rd ((rd_T37 l0_1 a1).f4) x15_1)) = true := decide_eq_true c11
                 clear c11
                 obtain rfl := Option.some.inj H
                 have p120 : 0 ≤ (x15_1 : Int) := of_decide_eq_true (by first | (with_reducible assumption) | assumption)
                 have q120 : x15_1 < (((rd_T37 l0_1 a1).f4).length : Int) := of_decide_eq_true (by first | (with_reducible assumption) | assumption)
                 obtain ⟨ad120, e120, hx120_0⟩ := Kd.at_int HR119_4.out x15_1 p120 q120
                 cases e120
                 replace hx120_0 := (HB.out.cell (World.block_lt_of_cell? w _ hx120_0)).trans hx120_0
                 replace p120 := eq_true p120
                 replace q120 := eq_true q120
                 have hcz12_0 : wr.cell? ⟨gb118, 0, none⟩ = some (.string a0_0) := (blk_cell BK118.out 0).trans rfl
                 have hcz12_1 : wr.cell? ⟨gb118, 1, none⟩ = some (.slice (some ad119) l0_1.length c0_1) := (blk_cell BK118.out 1).trans rfl
                 have hfz12_0 := blk_frozen BK118.out 0
                 have hfz12_1 := blk_frozen BK118.out 1
                 go_wp2
                 go_ret
                 exact ⟨by first | rfl | (simp [errW_none, errW_some] <;> rfl) | (simp [*, errW_none, errW_some] <;> rfl), by repeat (first | (with_reducible first | exact HB.out | apply below_alloc | apply pw_below_drewN | apply below_drew1 | refine below_set ?_ GE118.out) | exact HB.out)⟩
               · rw [if_neg c11] at H
                 have c11b0 : decide ((l0_1.length : Int) ≤ (rd ((rd_T37 l0_1 a1).f4) x15_1)) = false := decide_eq_false c11
                 clear c11
                 by_cases c13 : (rd ((rd_T37 l0_1 a1).f4) x15_1) = a1
                 · rw [if_pos c13] at H
                   have c13b0 : ((rd ((rd_T37 l0_1 a1).f4) x15_1) == a1) = true := beq_iff_eq.mpr c13
                   have c13b1 : ((rd ((rd_T37 l0_1 a1).f4) x15_1) != a1) = false := bne_eq_false_iff_eq.mpr c13
                   clear c13
                   obtain rfl := Option.some.inj H
                   have p120 : 0 ≤ (x15_1 : Int) := of_decide_eq_true (by first | (with_reducible assumption) | assumption)
                   have q120 : x15_1 < (((rd_T37 l0_1 a1).f4).length : Int) := of_decide_eq_true (by first | (with_reducible assumption) | assumption)
                   obtain ⟨ad120, e120, hx120_0⟩ := Kd.at_int HR119_4.out x15_1 p120 q120
                   cases e120
                   replace hx120_0 := (HB.out.cell (World.block_lt_of_cell? w _ hx120_0)).trans hx120_0
                   replace p120 := eq_true p120
                   replace q120 := eq_true q120
                   have hcz14_0 : wr.cell? ⟨gb118, 0, none⟩ = some (.string a0_0) := (blk_cell BK118.out 0).trans rfl
                   have hcz14_1 : wr.cell? ⟨gb118, 1, none⟩ = some (.slice (some ad119) l0_1.length c0_1) := (blk_cell BK118.out 1).trans rfl
                   have hfz14_0 := blk_frozen BK118.out 0
                   have hfz14_1 := blk_frozen BK118.out 1
                   go_wp2
                   go_ret
                   exact ⟨by first | rfl | (simp [errW_none, errW_some] <;> rfl) | (simp [*, errW_none, errW_some] <;> rfl), by repeat (first | (with_reducible first | exact HB.out | apply below_alloc | apply pw_below_drewN | apply below_drew1 | refine below_set ?_ GE118.out) | exact HB.out)⟩
                 · rw [if_neg c13] at H
                   have c13b0 : ((rd ((rd_T37 l0_1 a1).f4) x15_1) == a1) = false := beq_eq_false_iff_ne.mpr c13
                   have c13b1 : ((rd ((rd_T37 l0_1 a1).f4) x15_1) != a1) = true := bne_iff_ne.mpr c13
                   have H' := Aside0.mk H
                   clear H
                   have p120 : 0 ≤ (x15_1 : Int) := of_decide_eq_true (by first | (with_reducible assumption) | assumption)
                   have q120 : x15_1 < (((rd_T37 l0_1 a1).f4).length : Int) := of_decide_eq_true (by first | (with_reducible assumption) | assumption)
                   obtain ⟨ad120, e120, hx120_0⟩ := Kd.at_int HR119_4.out x15_1 p120 q120
                   cases e120
                   replace hx120_0 := (HB.out.cell (World.block_lt_of_cell? w _ hx120_0)).trans hx120_0
                   replace p120 := eq_true p120
                   replace q120 := eq_true q120
                   have hcz15_0 : wr.cell? ⟨gb118, 0, none⟩ = some (.string a0_0) := (blk_cell BK118.out 0).trans rfl
                   have hcz15_1 : wr.cell? ⟨gb118, 1, none⟩ = some (.slice (some ad119) l0_1.length c0_1) := (blk_cell BK118.out 1).trans rfl
                   have hfz15_0 := blk_frozen BK118.out 0
                   have hfz15_1 := blk_frozen BK118.out 1
                   go_wp2
                   go_roundg k1
                   case measure => have := HK1.out; omega
                   case rel => exact ⟨(rd ((rd_T37 l0_1 a1).f4) x15_1), (wrap64 (x15_1 + 1)), (by first | rfl | (simp; done) | (simp [*]; done)), (by first | rfl | (simp; done) | (simp [*]; done)), H', ⟨by have := HK1.out; omega⟩, ⟨by (with_reducible repeat (first | refine blk_drewN ?_ _ | refine blk_drew ?_ | refine blk_alloc ?_ _)); exact BK118.out⟩, ⟨by repeat (first | (with_reducible first | exact HB.out | apply below_alloc | apply pw_below_drewN | apply below_drew1 | refine below_set ?_ GE118.out) | exact HB.out)⟩⟩
           · rw [if_neg c9] at H
             exact absurd H (by simp)
         · rw [if_neg c8] at H
           exact absurd H (by simp)
       · rw [if_neg c7] at H
         have c7b0 : decide (x15_1 < (((rd_T37 l0_1 a1).f4).length : Int)) = false := decide_eq_false c7
         clear c7
         obtain rfl := Option.some.inj H
         go_wp2
         go_ret
         exact ⟨by first | rfl | (simp [errW_none, errW_some] <;> rfl) | (simp [*, errW_none, errW_some] <;> rfl), by repeat (first | (with_reducible first | exact HB.out | apply below_alloc | apply pw_below_drewN | apply below_drew1 | refine below_set ?_ GE118.out) | exact HB.out)⟩
   · rw [if_neg c4] at H
     exact absurd H (by simp)
 · rw [if_neg c3] at H
   exact absurd H (by simp)

-- NOT PRINTED: function 46 (check_alone)

-- NOT PRINTED: function 47 (check_first)

-- NOT PRINTED: function 51 (check_rings)

-- NOT PRINTED: function 33 (check_Check)

/-! ### slices_Index_int_int: function 55 -/
def slices_Index_int_int.l0 : Nat → List Int → Int → Int → Int → Option (Int)
 | 0, _, _, _, _ => none
 | k + 1, x0, x1, x7, x8 => if x8 < x7 then (if 0 ≤ x8 then (if x8 < (x0.length : Int) then (if x1 = (rd x0 x8) then (some x8) else (slices_Index_int_int.l0 k x0 x1 x7 (wrap64 (x8 + 1)))) else (none)) else (none)) else (some (-1))
def slices_Index_int_int.f (k : Nat) (l0 : List Int) (a1 : Int) : Option (Int) := slices_Index_int_int.l0 k l0 a1 (l0.length : Int) 0
theorem slices_Index_int_int.mono_l : ∀ k, (∀ y0 y1 y2 y3, LeO (slices_Index_int_int.l0 k y0 y1 y2 y3) (slices_Index_int_int.l0 (k + 1) y0 y1 y2 y3))
 | 0 => fun _ _ _ _ r h => by simp [slices_Index_int_int.l0] at h
 | k + 1 => by
  have ih0 := slices_Index_int_int.mono_l k
  · intro y0 y1 y2 y3
    unfold slices_Index_int_int.l0
    repeat' first
    | (with_reducible exact ih0 _ _ _ _)
    | (with_reducible exact LeO.refl _)
    | (with_reducible exact LeO.none _)
    | (with_reducible refine LeO.ite ?_ ?_)
    | (with_reducible refine LeO.bind ?_ (fun _ => ?_))
    | exact ih0 _ _ _ _
    | exact LeO.none _
    | refine LeO.ite ?_ ?_
    | refine LeO.bind ?_ (fun _ => ?_)
theorem slices_Index_int_int.mono : ∀ a0 a1 k, LeO (slices_Index_int_int.f k a0 a1) (slices_Index_int_int.f (k + 1) a0 a1) := by
 intro a0 a1 k
 have ih0 := slices_Index_int_int.mono_l k
 unfold slices_Index_int_int.f
 repeat' first
  | (with_reducible exact ih0 _ _ _ _)
  | (with_reducible exact LeO.refl _)
  | (with_reducible exact LeO.none _)
  | (with_reducible refine LeO.ite ?_ ?_)
  | (with_reducible refine LeO.bind ?_ (fun _ => ?_))
  | exact ih0 _ _ _ _
  | exact LeO.none _
  | refine LeO.ite ?_ ?_
  | refine LeO.bind ?_ (fun _ => ?_)
set_option maxHeartbeats 8000000 in
set_option maxRecDepth 100000 in
theorem slices_Index_int_int.calls (k : Nat) (A0 : Option Addr) (c0 : Nat) (l0 : List Int) (a1 : Int) (r : Int) (w : World) (hr0 : Kd.C (Kd.int .i64) w A0 l0.length l0) (hc0 : l0.length ≤ c0) (h : slices_Index_int_int.f k l0 a1 = some r) :
 Calls Tryz.prog 55 #[.slice A0 l0.length c0, .int .i64 a1] w fun e w' => e = .returned (.int .i64 r) ∧ Drawn0 w w' := by
 have HR0 := Aside0.mk hr0
 have HC0 := Aside0.mk hc0
 clear hr0 hc0
 have H : (slices_Index_int_int.l0 k l0 a1 (l0.length : Int) 0) = some r := h
 clear h
 have H' := Aside0.mk H
 clear H
 go_enter Tryz.func55, Tryz.ntmps55
 go_wp2
 go_loopg [8] k (fun kq v8 w' => ∃ (x8_1 : Int), v8 = .int .i64 x8_1 ∧ Aside0 (slices_Index_int_int.l0 kq l0 a1 (l0.length : Int) x8_1 = some r) ∧ Aside0 (kq ≤ k) ∧ Drawn0 w w')
 case atStart => exact ⟨(0), (by first | rfl | (simp; done) | (simp [*]; done)), H', ⟨Nat.le_refl _⟩, by repeat (first | exact Drawn0.refl _ | apply Drawn0.step)⟩
 case round =>
  clear H'
  try clear p2
  obtain ⟨x8_1, rfl, HA, HK1, ⟨m1, rfl⟩⟩ := hrel
  cases gk with
  | zero => exact absurd HA.out (by simp [slices_Index_int_int.l0])
  | succ k1 =>
   have H := HA.out
   clear HA
   simp only [slices_Index_int_int.l0] at H
   by_cases c3 : x8_1 < (l0.length : Int)
   · rw [if_pos c3] at H
     have c3b0 : decide (x8_1 < (l0.length : Int)) = true := decide_eq_true c3
     clear c3
     by_cases c4 : 0 ≤ x8_1
     · rw [if_pos c4] at H
       have c4b0 : decide (0 ≤ x8_1) = true := decide_eq_true c4
       clear c4
       by_cases c5 : x8_1 < (l0.length : Int)
       · rw [if_pos c5] at H
         have c5b0 : decide (x8_1 < (l0.length : Int)) = true := decide_eq_true c5
         clear c5
         by_cases c6 : a1 = (rd l0 x8_1)
         · rw [if_pos c6] at H
           have c6b0 : (a1 == (rd l0 x8_1)) = true := beq_iff_eq.mpr c6
           have c6b1 : (a1 != (rd l0 x8_1)) = false := bne_eq_false_iff_eq.mpr c6
           clear c6
           obtain rfl := Option.some.inj H
           have p129 : 0 ≤ (x8_1 : Int) := of_decide_eq_true (by first | (with_reducible assumption) | assumption)
           have q129 : x8_1 < (l0.length : Int) := of_decide_eq_true (by first | (with_reducible assumption) | assumption)
           obtain ⟨ad129, e129, hx129_0⟩ := Kd.at_int HR0.out x8_1 p129 q129
           cases e129
           replace p129 := eq_true p129
           replace q129 := eq_true q129
           go_wp2
           go_ret
           exact ⟨by first | rfl | (simp; done) | (simp [*]; done), by repeat (first | exact Drawn0.refl _ | apply Drawn0.step)⟩
         · rw [if_neg c6] at H
           have c6b0 : (a1 == (rd l0 x8_1)) = false := beq_eq_false_iff_ne.mpr c6
           have c6b1 : (a1 != (rd l0 x8_1)) = true := bne_iff_ne.mpr c6
           have H' := Aside0.mk H
           clear H
           have p129 : 0 ≤ (x8_1 : Int) := of_decide_eq_true (by first | (with_reducible assumption) | assumption)
           have q129 : x8_1 < (l0.length : Int) := of_decide_eq_true (by first | (with_reducible assumption) | assumption)
           obtain ⟨ad129, e129, hx129_0⟩ := Kd.at_int HR0.out x8_1 p129 q129
           cases e129
           replace p129 := eq_true p129
           replace q129 := eq_true q129
           go_wp2
           go_roundg k1
           case measure => have := HK1.out; omega
           case rel => exact ⟨(wrap64 (x8_1 + 1)), (by first | rfl | (simp; done) | (simp [*]; done)), H', ⟨by have := HK1.out; omega⟩, by repeat (first | exact Drawn0.refl _ | apply Drawn0.step)⟩
       · rw [if_neg c5] at H
         exact absurd H (by simp)
     · rw [if_neg c4] at H
       exact absurd H (by simp)
   · rw [if_neg c3] at H
     have c3b0 : decide (x8_1 < (l0.length : Int)) = false := decide_eq_false c3
     clear c3
     obtain rfl := Option.some.inj H
     go_wp2
     go_ret
     exact ⟨by first | rfl | (simp; done) | (simp [*]; done), by repeat (first | exact Drawn0.refl _ | apply Drawn0.step)⟩

/-! ### slices_Contains_int_int: function 34 -/
def slices_Contains_int_int.f (k : Nat) (l0 : List Int) (a1 : Int) : Option (Bool) := (slices_Index_int_int.f k l0 a1).bind fun t130 => (some (decide (t130 ≥ 0)))
theorem slices_Contains_int_int.mono : ∀ a0 a1 k, LeO (slices_Contains_int_int.f k a0 a1) (slices_Contains_int_int.f (k + 1) a0 a1) := by
 intro a0 a1 k
 unfold slices_Contains_int_int.f
 repeat' first
  | (with_reducible exact slices_Index_int_int.mono _ _ _)
  | (with_reducible exact LeO.refl _)
  | (with_reducible exact LeO.none _)
  | (with_reducible refine LeO.ite ?_ ?_)
  | (with_reducible refine LeO.bind ?_ (fun _ => ?_))
  | exact slices_Index_int_int.mono _ _ _
  | exact LeO.none _
  | refine LeO.ite ?_ ?_
  | refine LeO.bind ?_ (fun _ => ?_)
set_option maxHeartbeats 8000000 in
set_option maxRecDepth 100000 in
theorem slices_Contains_int_int.calls (k : Nat) (A0 : Option Addr) (c0 : Nat) (l0 : List Int) (a1 : Int) (r : Bool) (w : World) (hr0 : Kd.C (Kd.int .i64) w A0 l0.length l0) (hc0 : l0.length ≤ c0) (h : slices_Contains_int_int.f k l0 a1 = some r) :
 Calls Tryz.prog 34 #[.slice A0 l0.length c0, .int .i64 a1] w fun e w' => e = .returned (.bool r) ∧ Drawn0 w w' := by
 have HR0 := Aside0.mk hr0
 have HC0 := Aside0.mk hc0
 clear hr0 hc0
 have H : ((slices_Index_int_int.f k l0 a1).bind fun t130 => (some (decide (t130 ≥ 0)))) = some r := h
 clear h
 replace H := Option.bind_eq_some_iff.mp H
 obtain ⟨t130, A30, H⟩ := H
 replace H : (some (decide (t130 ≥ 0))) = some r := H
 have A3 := Aside0.mk A30
 clear A30
 obtain rfl := Option.some.inj H
 go_enter Tryz.func34, Tryz.ntmps34
 go_wp2_with (first | ((with_reducible refine gate_callee (f := 55) rfl ?_); refine goesL_ (some 7) rfl rfl Tryz.func55 (by kernel_rfl) rfl #[.slice A0 l0.length c0, .int .i64 a1] rfl (by (try simp only [List.map_toArray, List.map_cons, List.map_nil]); first | done | rfl | (simp only [List.length_drop, List.length_take]; rfl)) ?_; (with_reducible refine (slices_Index_int_int.calls k _ _ l0 a1 t130 _ ?side1 ?side2 A3.out).mono ?_); (case side1 => repeat (first | exact HR0.out | (with_reducible refine Kd.C_alloc ?_ _) | (with_reducible refine Kd.C_drewN ?_ _) | (with_reducible refine Kd.C_drew ?_))); (case side2 => exact HC0.out); rintro e w' ⟨rfl, ⟨nd, rfl⟩⟩; refine ⟨_, rfl, ?_⟩))
 go_ret
 exact ⟨by first | rfl | (simp; done) | (simp [*]; done), by repeat (first | exact Drawn0.refl _ | apply Drawn0.step)⟩

-- NOT PRINTED: function 18 (plan_made)

-- NOT PRINTED: function 19 (plan_graph_those)

-- NOT PRINTED: function 6 (plan_Ahead)

-- NOT PRINTED: function 7 (plan_Behind)

/-! ### odysseylaw12_same: function 8 -/
def odysseylaw12_same.l0 : Nat → List Int → List Int → Int → Option (Bool)
 | 0, _, _, _ => none
 | k + 1, x0, x1, x5 => if x5 < (x0.length : Int) then (if 0 ≤ x5 then (if x5 < (x1.length : Int) then (if (rd x0 x5) = (rd x1 x5) then (odysseylaw12_same.l0 k x0 x1 (wrap64 (x5 + 1))) else (some false)) else (none)) else (none)) else (some true)
def odysseylaw12_same.f (k : Nat) (l0 : List Int) (l1 : List Int) : Option (Bool) := if (l0.length : Int) = (l1.length : Int) then (odysseylaw12_same.l0 k l0 l1 0) else (some false)
theorem odysseylaw12_same.mono_l : ∀ k, (∀ y0 y1 y2, LeO (odysseylaw12_same.l0 k y0 y1 y2) (odysseylaw12_same.l0 (k + 1) y0 y1 y2))
 | 0 => fun _ _ _ r h => by simp [odysseylaw12_same.l0] at h
 | k + 1 => by
  have ih0 := odysseylaw12_same.mono_l k
  · intro y0 y1 y2
    unfold odysseylaw12_same.l0
    repeat' first
    | (with_reducible exact ih0 _ _ _)
    | (with_reducible exact LeO.refl _)
    | (with_reducible exact LeO.none _)
    | (with_reducible refine LeO.ite ?_ ?_)
    | (with_reducible refine LeO.bind ?_ (fun _ => ?_))
    | exact ih0 _ _ _
    | exact LeO.none _
    | refine LeO.ite ?_ ?_
    | refine LeO.bind ?_ (fun _ => ?_)
theorem odysseylaw12_same.mono : ∀ a0 a1 k, LeO (odysseylaw12_same.f k a0 a1) (odysseylaw12_same.f (k + 1) a0 a1) := by
 intro a0 a1 k
 have ih0 := odysseylaw12_same.mono_l k
 unfold odysseylaw12_same.f
 repeat' first
  | (with_reducible exact ih0 _ _ _)
  | (with_reducible exact LeO.refl _)
  | (with_reducible exact LeO.none _)
  | (with_reducible refine LeO.ite ?_ ?_)
  | (with_reducible refine LeO.bind ?_ (fun _ => ?_))
  | exact ih0 _ _ _
  | exact LeO.none _
  | refine LeO.ite ?_ ?_
  | refine LeO.bind ?_ (fun _ => ?_)
set_option maxHeartbeats 8000000 in
set_option maxRecDepth 100000 in
theorem odysseylaw12_same.calls (k : Nat) (A0 : Option Addr) (c0 : Nat) (l0 : List Int) (A1 : Option Addr) (c1 : Nat) (l1 : List Int) (r : Bool) (w : World) (hr0 : Kd.C (Kd.int .i64) w A0 l0.length l0) (hc0 : l0.length ≤ c0) (hr1 : Kd.C (Kd.int .i64) w A1 l1.length l1) (hc1 : l1.length ≤ c1) (h : odysseylaw12_same.f k l0 l1 = some r) :
 Calls Tryz.prog 8 #[.slice A0 l0.length c0, .slice A1 l1.length c1] w fun e w' => e = .returned (.bool r) ∧ Drawn0 w w' := by
 have HR0 := Aside0.mk hr0
 have HC0 := Aside0.mk hc0
 clear hr0 hc0
 have HR1 := Aside0.mk hr1
 have HC1 := Aside0.mk hc1
 clear hr1 hc1
 have H : (if (l0.length : Int) = (l1.length : Int) then (odysseylaw12_same.l0 k l0 l1 0) else (some false)) = some r := h
 clear h
 by_cases c3 : (l0.length : Int) = (l1.length : Int)
 · rw [if_pos c3] at H
   have c3b0 : ((l0.length : Int) == (l1.length : Int)) = true := beq_iff_eq.mpr c3
   have c3b1 : ((l0.length : Int) != (l1.length : Int)) = false := bne_eq_false_iff_eq.mpr c3
   have c3b2 : (l0.length == l1.length) = true := by first | simpa using c3 | (simp at c3 ⊢; omega)
   clear c3
   have H' := Aside0.mk H
   clear H
   go_enter Tryz.func8, Tryz.ntmps8
   go_wp2
   repeat (go_quiet (fail); try go_wp2)
   go_loopg [5] k (fun kq v5 w' => ∃ (x5_1 : Int), v5 = .int .i64 x5_1 ∧ Aside0 (odysseylaw12_same.l0 kq l0 l1 x5_1 = some r) ∧ Aside0 (kq ≤ k) ∧ Drawn0 w w')
   case atStart => exact ⟨(0), (by first | rfl | (simp; done) | (simp [*]; done)), H', ⟨Nat.le_refl _⟩, by repeat (first | exact Drawn0.refl _ | apply Drawn0.step)⟩
   case round =>
    clear H'
    try clear c1
    try clear p2
    try clear c3
    try clear c3b0
    try clear c3b1
    try clear c3b2
    obtain ⟨x5_1, rfl, HA, HK1, ⟨m1, rfl⟩⟩ := hrel
    cases gk with
    | zero => exact absurd HA.out (by simp [odysseylaw12_same.l0])
    | succ k1 =>
     have H := HA.out
     clear HA
     simp only [odysseylaw12_same.l0] at H
     by_cases c4 : x5_1 < (l0.length : Int)
     · rw [if_pos c4] at H
       have c4b0 : decide (x5_1 < (l0.length : Int)) = true := decide_eq_true c4
       clear c4
       by_cases c5 : 0 ≤ x5_1
       · rw [if_pos c5] at H
         have c5b0 : decide (0 ≤ x5_1) = true := decide_eq_true c5
         clear c5
         by_cases c6 : x5_1 < (l1.length : Int)
         · rw [if_pos c6] at H
           have c6b0 : decide (x5_1 < (l1.length : Int)) = true := decide_eq_true c6
           clear c6
           by_cases c7 : (rd l0 x5_1) = (rd l1 x5_1)
           · rw [if_pos c7] at H
             have c7b0 : ((rd l0 x5_1) == (rd l1 x5_1)) = true := beq_iff_eq.mpr c7
             have c7b1 : ((rd l0 x5_1) != (rd l1 x5_1)) = false := bne_eq_false_iff_eq.mpr c7
             clear c7
             have H' := Aside0.mk H
             clear H
             have p134 : 0 ≤ (x5_1 : Int) := of_decide_eq_true (by first | (with_reducible assumption) | assumption)
             have q134 : x5_1 < (l0.length : Int) := of_decide_eq_true (by first | (with_reducible assumption) | assumption)
             obtain ⟨ad134, e134, hx134_0⟩ := Kd.at_int HR0.out x5_1 p134 q134
             cases e134
             replace p134 := eq_true p134
             replace q134 := eq_true q134
             have p135 : 0 ≤ (x5_1 : Int) := of_decide_eq_true (by first | (with_reducible assumption) | assumption)
             have q135 : x5_1 < (l1.length : Int) := of_decide_eq_true (by first | (with_reducible assumption) | assumption)
             obtain ⟨ad135, e135, hx135_0⟩ := Kd.at_int HR1.out x5_1 p135 q135
             cases e135
             replace p135 := eq_true p135
             replace q135 := eq_true q135
             go_wp2
             repeat (go_quiet (fail); try go_wp2)
             go_roundg k1
             case measure => have := HK1.out; omega
             case rel => exact ⟨(wrap64 (x5_1 + 1)), (by first | rfl | (simp; done) | (simp [*]; done)), H', ⟨by have := HK1.out; omega⟩, by repeat (first | exact Drawn0.refl _ | apply Drawn0.step)⟩
           · rw [if_neg c7] at H
             have c7b0 : ((rd l0 x5_1) == (rd l1 x5_1)) = false := beq_eq_false_iff_ne.mpr c7
             have c7b1 : ((rd l0 x5_1) != (rd l1 x5_1)) = true := bne_iff_ne.mpr c7
             obtain rfl := Option.some.inj H
             have p134 : 0 ≤ (x5_1 : Int) := of_decide_eq_true (by first | (with_reducible assumption) | assumption)
             have q134 : x5_1 < (l0.length : Int) := of_decide_eq_true (by first | (with_reducible assumption) | assumption)
             obtain ⟨ad134, e134, hx134_0⟩ := Kd.at_int HR0.out x5_1 p134 q134
             cases e134
             replace p134 := eq_true p134
             replace q134 := eq_true q134
             have p135 : 0 ≤ (x5_1 : Int) := of_decide_eq_true (by first | (with_reducible assumption) | assumption)
             have q135 : x5_1 < (l1.length : Int) := of_decide_eq_true (by first | (with_reducible assumption) | assumption)
             obtain ⟨ad135, e135, hx135_0⟩ := Kd.at_int HR1.out x5_1 p135 q135
             cases e135
             replace p135 := eq_true p135
             replace q135 := eq_true q135
             go_wp2
             repeat (go_quiet (fail); try go_wp2)
             go_ret
             exact ⟨by first | rfl | (simp; done) | (simp [*]; done), by repeat (first | exact Drawn0.refl _ | apply Drawn0.step)⟩
         · rw [if_neg c6] at H
           exact absurd H (by simp)
       · rw [if_neg c5] at H
         exact absurd H (by simp)
     · rw [if_neg c4] at H
       have c4b0 : decide (x5_1 < (l0.length : Int)) = false := decide_eq_false c4
       clear c4
       obtain rfl := Option.some.inj H
       go_wp2
       repeat (go_quiet (fail); try go_wp2)
       go_ret
       exact ⟨by first | rfl | (simp; done) | (simp [*]; done), by repeat (first | exact Drawn0.refl _ | apply Drawn0.step)⟩
 · rw [if_neg c3] at H
   have c3b0 : ((l0.length : Int) == (l1.length : Int)) = false := beq_eq_false_iff_ne.mpr c3
   have c3b1 : ((l0.length : Int) != (l1.length : Int)) = true := bne_iff_ne.mpr c3
   have c3b2 : (l0.length == l1.length) = false := by first | simpa using c3 | (simp at c3 ⊢; omega)
   obtain rfl := Option.some.inj H
   go_enter Tryz.func8, Tryz.ntmps8
   go_wp2
   repeat (go_quiet (fail); try go_wp2)
   go_ret
   exact ⟨by first | rfl | (simp; done) | (simp [*]; done), by repeat (first | exact Drawn0.refl _ | apply Drawn0.step)⟩

end Go.Proofs.YthlgcibckakhbaaGreatDoor.PPlanAheads

/- odysseyref10.Copy: what it answers (plain law). -/
namespace Go.Proofs.YthlgcibckakhbaaGreatDoor.PPlanAheads
open Go.RowKit Go.Proofs.YthlgcibckakhbaaGreatDoorW.PrintWords

theorem rdT_at {L : List S37} {i : Nat} (h : i < L.length) : rd_T37 L (i : Int) = L[i] := by
 unfold rd_T37
 simp [List.getD_eq_getElem?_getD, h]
theorem wrap_up {i : Nat} (h : i ≤ 17592186044416) : wrap64 ((i : Int) + 1) = ((i + 1 : Nat) : Int) := by
 unfold wrap64
 omega
theorem copy_loop {L : List S37} (hB : ∀ s ∈ L, s.f3.length < 8796093022208 ∧ s.f4.length < 17592186044416) (hn : L.length ≤ 1759218604390) (x nm : ByteArray) : ∀ (k m i : Nat), L.length - i = m → i ≤ L.length → m < k → odysseyref10_Copy.l0 k (i : Int) x L nm (L.take i) = some (nm, L)
 | 0, _, _, _, _, h => absurd h (Nat.not_lt_zero _)
 | k + 1, m, i, hm, hi, hk => by
  rw [odysseyref10_Copy.l0]
  by_cases h : i < L.length
  · have hb := hB L[i] (List.getElem_mem h)
    rw [if_pos (by omega), if_pos (by omega), rdT_at h, if_pos (by simpa using hb.1), if_pos (by simpa using hb.2), if_pos (by rw [List.length_take]; omega), wrap_up (by omega)]
    have e : L.take i ++ [(⟨L[i].f0, L[i].f1, L[i].f2, (([] : List ByteArray) ++ L[i].f3), (([] : List Int) ++ L[i].f4)⟩ : S37)] = L.take (i + 1) := by
     rw [List.take_succ_eq_append_getElem h]
     rfl
    rw [e]
    exact copy_loop hB hn x nm k (m - 1) (i + 1) (by omega) (by omega) (by omega)
  · rw [if_neg (by omega)]
    rw [List.take_of_length_le (by omega)]
theorem copy_f {L : List S37} (hB : ∀ s ∈ L, s.f3.length < 8796093022208 ∧ s.f4.length < 17592186044416) (hn : L.length ≤ 1759218604390) (nm : ByteArray) : odysseyref10_Copy.f (L.length + 1) nm L = some (nm, L) := by
 have := copy_loop hB hn nm nm (L.length + 1) L.length 0 (by omega) (by omega) (by omega)
 unfold odysseyref10_Copy.f
 simpa using this
end Go.Proofs.YthlgcibckakhbaaGreatDoor.PPlanAheads

/- A definition's steps, as the printed contracts read them. -/
namespace Go.Proofs.YthlgcibckakhbaaGreatDoor.Pl
open Go.RowKit Go.Proofs.YthlgcibckakhbaaGreatDoorW.PrintWords Go.Proofs.YthlgcibckakhbaaGreatDoor.PPlanAheads

def toS (s : Step) : S37 := ⟨s.name, s.kind, s.part, s.keys, s.needs⟩
theorem stepK_K {w : World} {s : Step} {cs : List Value} (h : StepK w s cs) : k37.K w (toS s) cs := by
 obtain ⟨A1, c1, A2, c2, rfl, h1, h2, h3, h4⟩ := h
 exact k37_mk w (toS s) h1 h2 h3 h4
theorem K_stepK {w : World} {s : Step} {cs : List Value} (h : k37.K w (toS s) cs) : StepK w s cs := by
 obtain ⟨A1, c1, A2, c2, rfl, h1, h2, h3, h4⟩ := k37_open h
 exact ⟨A1, c1, A2, c2, rfl, h1, h2, h3, h4⟩
theorem steps_C {w : World} {A : Option Addr} {l : List Step} (h : StepsAt w A l) (hn : l.length ≤ 9000000000000) : Kd.C k37 w A (l.map toS).length (l.map toS) := by
 refine ⟨rfl, by rw [List.length_map]; omega, fun h0 => ?_⟩
 rw [List.length_map] at h0
 obtain ⟨ad, e, _⟩ := h 0 l[0] (List.getElem?_eq_getElem h0)
 refine ⟨ad, e, fun j p hp => ?_⟩
 rw [List.getElem?_map] at hp
 obtain ⟨s, hs, rfl⟩ := Option.map_eq_some_iff.1 hp
 obtain ⟨ad2, e2, cs, hl, hk, hc⟩ := h j s hs
 rw [e] at e2
 cases e2
 exact ⟨cs, hl, stepK_K hk, hc⟩
theorem C_steps {w : World} {A : Option Addr} {l : List Step} (h : Kd.C k37 w A (l.map toS).length (l.map toS)) : StepsAt w A l := fun i s hi => by
 have hl := (List.getElem?_eq_some_iff.1 hi).1
 obtain ⟨ad, e, hc⟩ := h.2.2 (by rw [List.length_map]; omega)
 obtain ⟨cs, h1, h2, h3⟩ := hc i (toS s) (by rw [List.getElem?_map, hi]; rfl)
 exact ⟨ad, e, cs, h1, K_stepK h2, h3⟩
/-- What Copy wants: nothing longer than memory. -/
def Tight (l : List Step) : Prop := (∀ s ∈ l, s.keys.length < 8796093022208 ∧ s.needs.length < 17592186044416) ∧ l.length ≤ 1759218604390
theorem copy_calls (nm : ByteArray) (l : List Step) (A : Option Addr) (c : Nat) (w : World) (hS : StepsAt w A l) (hc : l.length ≤ c) (ht : Tight l) :
 Calls Tryz.prog 5 #[.agg #[.string nm, .slice A l.length c]] w fun e w' => (∃ A2 c2, e = .returned (.agg #[.string nm, .slice A2 l.length c2]) ∧ l.length ≤ c2 ∧ StepsAt w' A2 l) ∧ Below w.heap.size w w' := by
 have hn := ht.2
 have h := odysseyref10_Copy.calls _ nm A c (l.map toS) nm (l.map toS) w (steps_C hS (by omega)) (by rw [List.length_map]; exact hc) (copy_f (fun s hs => by
  obtain ⟨x, hx, rfl⟩ := List.mem_map.1 hs
  exact ht.1 x hx) (by rw [List.length_map]; exact hn) nm)
 rw [List.length_map] at h
 refine h.mono ?_
 rintro e w' ⟨v, rfl, hs, hb⟩
 obtain ⟨A2, c2, rfl, h1, h2⟩ := Kd.R_reads (Kd.S_R hs)
 rw [List.length_map] at h1
 exact ⟨⟨A2, c2, by rw [List.length_map], h1, C_steps h2⟩, hb⟩
end Go.Proofs.YthlgcibckakhbaaGreatDoor.Pl

/- odysseyref10.Same (ZD), of two that are the same: walked by hand. -/
namespace Go.Proofs.YthlgcibckakhbaaGreatDoor.Pl
open Go.RowKit Go.IntWalk Go.Proofs.YthlgcibckakhbaaGreatDoorW.PrintWords Go.Proofs.YthlgcibckakhbaaGreatDoorW.PrintLast Go.Proofs.YthlgcibckakhbaaGreatDoorW.PrintMore Go.Proofs.YthlgcibckakhbaaGreatDoor.PlName

/-- The worlds of Same. -/
structure Sa (w W : World) (nm : ByteArray) (l : List Step) (A : Option Addr) (c : Nat) (A2 : Option Addr) (c2 : Nat) : Prop where
 below : Below w.heap.size w W
 box : W.heap[w.heap.size]? = some (.cells #[.string nm, .slice A l.length c] 24 (0, 0))
 two : W.heap[w.heap.size + 1]? = some (.cells #[.string nm, .slice A2 l.length c2] 24 (0, 0))
theorem Sa.on {w W W2 : World} {nm : ByteArray} {l : List Step} {A : Option Addr} {c : Nat} {A2 : Option Addr} {c2 : Nat} (h : Sa w W nm l A c A2 c2) (hb : Below W.heap.size W W2) : Sa w W2 nm l A c A2 c2 := ⟨on_ h.below hb, row_on hb h.box, row_on hb h.two⟩
theorem Sa.cells {w W : World} {nm : ByteArray} {l : List Step} {A : Option Addr} {c : Nat} {A2 : Option Addr} {c2 : Nat} (h : Sa w W nm l A c A2 c2) : W.cell? ⟨w.heap.size, 0, none⟩ = some (.string nm) ∧ W.cell? ⟨w.heap.size, 1, none⟩ = some (.slice A l.length c) ∧ W.cell? ⟨w.heap.size + 1, 0, none⟩ = some (.string nm) ∧ W.cell? ⟨w.heap.size + 1, 1, none⟩ = some (.slice A2 l.length c2) := ⟨row_cell h.box rfl, row_cell h.box rfl, row_cell h.two rfl, row_cell h.two rfl⟩
theorem size1 (w : World) (o : Obj) : (w.alloc o).heap.size = w.heap.size + 1 := by
 show (w.heap.push _).size = _
 simp
theorem Sa.start (w : World) (nm : ByteArray) (l : List Step) (A : Option Addr) (c : Nat) (A2 : Option Addr) (c2 : Nat) {W : World}
 (hW : (w.alloc (.cells #[.string nm, .slice A l.length c] 24)).alloc (.cells #[.string nm, .slice A2 l.length c2] 24) = W) : Sa w W nm l A c A2 c2 := by
 subst hW
 have h1 := below_one w (.cells #[.string nm, .slice A l.length c] 24)
 have r1 := alloc1 w (.cells #[.string nm, .slice A l.length c] 24)
 have s1 := size1 w (.cells #[.string nm, .slice A l.length c] 24)
 generalize w.alloc (.cells #[.string nm, .slice A l.length c] 24) = w1 at *
 have h2 := below_one w1 (.cells #[.string nm, .slice A2 l.length c2] 24)
 have r2 := alloc1 w1 (.cells #[.string nm, .slice A2 l.length c2] 24)
 rw [s1] at r2
 exact ⟨on_ h1 h2, row_on h2 r1, r2⟩
/-- Two steps' cells in a round. -/
structure Sb (wr W : World) (s : Step) (v1 v2 u1 u2 : Value) : Prop where
 below : Below wr.heap.size wr W
 x : W.heap[wr.heap.size]? = some (.cells #[.string s.name, .int .i64 s.kind, .int .i64 s.part, v1, v2] 37 (0, 0))
 y : W.heap[wr.heap.size + 1]? = some (.cells #[.string s.name, .int .i64 s.kind, .int .i64 s.part, u1, u2] 37 (0, 0))
theorem Sb.on {wr W W2 : World} {s : Step} {v1 v2 u1 u2 : Value} (h : Sb wr W s v1 v2 u1 u2) (hb : Below W.heap.size W W2) : Sb wr W2 s v1 v2 u1 u2 := ⟨on_ h.below hb, row_on hb h.x, row_on hb h.y⟩
theorem Sb.c3 {wr W : World} {s : Step} {v1 v2 u1 u2 : Value} (h : Sb wr W s v1 v2 u1 u2) : W.cell? ⟨wr.heap.size, 3, none⟩ = some v1 ∧ W.cell? ⟨wr.heap.size + 1, 3, none⟩ = some u1 ∧ W.cell? ⟨wr.heap.size, 4, none⟩ = some v2 ∧ W.cell? ⟨wr.heap.size + 1, 4, none⟩ = some u2 := ⟨row_cell h.x rfl, row_cell h.y rfl, row_cell h.x rfl, row_cell h.y rfl⟩
theorem Sb.start (wr : World) (s : Step) (v1 v2 u1 u2 : Value) {W : World}
 (hW : (wr.alloc (.cells #[.string s.name, .int .i64 s.kind, .int .i64 s.part, v1, v2] 37)).alloc (.cells #[.string s.name, .int .i64 s.kind, .int .i64 s.part, u1, u2] 37) = W) : Sb wr W s v1 v2 u1 u2 := by
 subst hW
 have h1 := below_one wr (.cells #[.string s.name, .int .i64 s.kind, .int .i64 s.part, v1, v2] 37)
 have r1 := alloc1 wr (.cells #[.string s.name, .int .i64 s.kind, .int .i64 s.part, v1, v2] 37)
 have s1 := size1 wr (.cells #[.string s.name, .int .i64 s.kind, .int .i64 s.part, v1, v2] 37)
 generalize wr.alloc (.cells #[.string s.name, .int .i64 s.kind, .int .i64 s.part, v1, v2] 37) = w1 at *
 have h2 := below_one w1 (.cells #[.string s.name, .int .i64 s.kind, .int .i64 s.part, u1, u2] 37)
 have r2 := alloc1 w1 (.cells #[.string s.name, .int .i64 s.kind, .int .i64 s.part, u1, u2] 37)
 rw [s1] at r2
 exact ⟨on_ h1 h2, row_on h2 r1, r2⟩

set_option maxHeartbeats 16000000 in
set_option maxRecDepth 100000 in
theorem same10_calls (nm : ByteArray) (l : List Step) (A : Option Addr) (c : Nat) (A2 : Option Addr) (c2 : Nat) (w : World) (hS : StepsAt w A l) (hS2 : StepsAt w A2 l) (hb : ∀ s ∈ l, StepB s) (hn : l.length ≤ 9000000000000) :
 Calls Tryz.prog 13 #[.agg #[.string nm, .slice A l.length c], .agg #[.string nm, .slice A2 l.length c2]] w fun e w' => e = .returned (.bool true) ∧ Below w.heap.size w w' := by
 have HA := Aside0.mk (And.intro hS (And.intro hS2 hb))
 have HW := Aside0.mk (fun W hW => Sa.start (W := W) w nm l A c A2 c2 hW)
 clear hS hS2 hb
 go_enter Tryz.func13, Tryz.ntmps13
 go_wp2
 generalize hW : World.alloc (World.alloc w _) _ = w0 at *
 have H0 := Aside0.mk (HW.out _ rfl)
 clear hW HW
 go_loopw [5] (fun v5 wr => ∃ i : Nat, i ≤ l.length ∧ v5 = .int .i64 (i : Int) ∧ Sa w wr nm l A c A2 c2) (fun v5 _ => l.length - (intOf v5).toNat)
 case atStart => exact ⟨0, Nat.zero_le _, rfl, H0.out⟩
 case round =>
  obtain ⟨wo, rfl⟩ : ∃ wo : World, wo = wr := ⟨_, rfl⟩
  obtain ⟨i, hi, rfl, hN⟩ := hrel
  have HG := Aside0.mk hN
  obtain ⟨hp0, hp1, hp2, hp3⟩ := hN.cells
  clear H0 hN hp0 hp2
  by_cases hlt : i < l.length
  · have hd1 : decide ((i : Int) < (l.length : Int)) = true := decide_eq_true (by omega)
    obtain ⟨ad, rfl, A1, c1, B1, d1, h1⟩ := HA.out.1.one (stepAt_eq hlt)
    obtain ⟨ae, rfl, A3, c3, B3, d3, h2⟩ := HA.out.2.1.one (stepAt_eq hlt)
    replace h1 := h1.below HG.out.below
    replace h2 := h2.below HG.out.below
    have HK := Aside0.mk (And.intro h1 h2)
    obtain ⟨hq0, hq1, hq2, hq3, hq4, _, _, _, _⟩ := h1
    have hp4 := (HG.out.on (below_one wo (.cells #[.string (stepAt l i).name, .int .i64 (stepAt l i).kind, .int .i64 (stepAt l i).part, .slice A1 (stepAt l i).keys.length c1, .slice B1 (stepAt l i).needs.length d1] 37))).cells.2.2.2
    replace h2 := h2.below (below_one wo (.cells #[.string (stepAt l i).name, .int .i64 (stepAt l i).kind, .int .i64 (stepAt l i).part, .slice A1 (stepAt l i).keys.length c1, .slice B1 (stepAt l i).needs.length d1] 37))
    obtain ⟨hr0, hr1, hr2, hr3, hr4, _, _, _, _⟩ := h2
    have HM := Aside0.mk (HA.out.2.2 (stepAt l i) (by have := stepAt_eq hlt; exact List.mem_of_getElem? this))
    have HW := Aside0.mk (fun W hW => Sb.start (W := W) wo (stepAt l i) (.slice A1 (stepAt l i).keys.length c1) (.slice B1 (stepAt l i).needs.length d1) (.slice A3 (stepAt l i).keys.length c3) (.slice B3 (stepAt l i).needs.length d3) hW)
    generalize stepAt l i = s at *
    have hkl : s.keys.length ≤ 8796093022208 := HM.out.2.2.2.1.2
    have hnl : s.needs.length ≤ 17592186044416 := HM.out.2.2.2.2.2
    go_wp2
    generalize hW : World.alloc (World.alloc wo _) _ = w1 at *
    have H1 := Aside0.mk (HW.out _ rfl)
    obtain ⟨hx3, _, _, _⟩ := H1.out.c3
    clear hq0 hq1 hq2 hq3 hq4 hr0 hr1 hr2 hr3 hr4 hp4 hW HW hp1 hp3
    go_loopw [8] (fun v8 wq => ∃ k : Nat, k ≤ s.keys.length ∧ v8 = .int .i64 (k : Int) ∧ Below w1.heap.size w1 wq) (fun v8 _ => s.keys.length - (intOf v8).toNat)
    case atStart => exact ⟨0, Nat.zero_le _, rfl, Below.refl _ _⟩
    case round =>
     obtain ⟨k, hk, rfl, hB⟩ := hrel
     have HB := Aside0.mk hB
     have H2 := Aside0.mk (H1.out.on hB)
     obtain ⟨hx3, hy3, _, _⟩ := H2.out.c3
     clear hB
     by_cases hlk : k < s.keys.length
     · have hd2 : decide ((k : Int) < (s.keys.length : Int)) = true := decide_eq_true (by omega)
       obtain ⟨a1, rfl, hm1⟩ := str_at HK.out.1.keys hlk
       obtain ⟨a3, rfl, hm3⟩ := str_at HK.out.2.keys hlk
       replace hm1 := cell_on (on_ H1.out.below HB.out) hm1
       replace hm3 := cell_on (on_ H1.out.below HB.out) hm3
       generalize s.keys[k] = m at *
       go_wp2
       refine start_ (n := 11) (S := fun w' => w'.cell? ⟨wo.heap.size, 3, none⟩ = some (.slice (some a1) s.keys.length c1) ∧ w'.cell? ⟨wo.heap.size + 1, 3, none⟩ = some (.slice (some a3) s.keys.length c3) ∧ w'.cell? (a1.add k) = some (.string m) ∧ w'.cell? (a3.add k) = some (.string m)) (ds := []) #[false,false,false,false,false,false,false,false,false,false,false] (by kernel_rfl) rfl rfl ⟨(by go_keep), (by go_keep), (by go_keep), (by go_keep)⟩ (fun hHeld => ?_)
       refine pure_ (i := 0) (N := some 85) (v := ?_) (a' := ?_) #[true,false,false,false,false,false,false,false,false,false,false] rfl rfl (by kernel_rfl) (fun _ _ _ h => h) (Or.inl ⟨by rfl, ?_⟩) ?_ ?_
       rotate_left
       · intro w'
         go_simp
         with_reducible rfl
       rotate_left
       · simp only [Act.put, zA, zB, zC, i64_w, i32_w]
         rfl
       refine pure_ (i := 2) (N := some 87) (v := ?_) (a' := ?_) #[true,false,true,false,false,false,false,false,false,false,false] rfl rfl (by kernel_rfl) (fun _ _ _ h => h) (Or.inl ⟨by rfl, ?_⟩) ?_ ?_
       rotate_left
       · intro w'
         go_simp
         with_reducible rfl
       rotate_left
       · simp only [Act.put, zA, zB, zC, i64_w, i32_w]
         rfl
       refine pure_ (i := 5) (N := some 90) (v := ?_) (a' := ?_) #[true,false,true,false,false,true,false,false,false,false,false] rfl rfl (by kernel_rfl) (fun _ _ _ h => h) (Or.inl ⟨by rfl, ?_⟩) ?_ ?_
       rotate_left
       · intro w'
         go_simp
         with_reducible rfl
       rotate_left
       · simp only [Act.put, zA, zB, zC, i64_w, i32_w]
         rfl
       refine pure_ (i := 7) (N := some 92) (v := ?_) (a' := ?_) #[true,false,true,false,false,true,false,true,false,false,false] rfl rfl (by kernel_rfl) (fun _ _ _ h => h) (Or.inl ⟨by rfl, ?_⟩) ?_ ?_
       rotate_left
       · intro w'
         go_simp
         with_reducible rfl
       rotate_left
       · simp only [Act.put, zA, zB, zC, i64_w, i32_w]
         rfl
       refine take_ (i := 1) (N := some 86) (v := ?_) (a' := ?_) #[true,true,true,false,false,true,false,true,false,false,false] rfl rfl (by kernel_rfl) (fun _ _ _ h => h) (Or.inl ⟨by rfl, ?_⟩) hHeld ?_ ?_
       rotate_left
       · rintro w' ⟨s0, s1, s2, s3⟩
         go_simp
         with_reducible rfl
       rotate_left
       · simp only [Act.put, zA, zB, zC, i64_w, i32_w]
         rfl
       refine pure_ (i := 3) (N := some 88) (v := ?_) (a' := ?_) #[true,true,true,true,false,true,false,true,false,false,false] rfl rfl (by kernel_rfl) (fun _ _ _ h => h) (Or.inl ⟨by rfl, ?_⟩) ?_ ?_
       rotate_left
       · intro w'
         go_simp
         with_reducible rfl
       rotate_left
       · simp only [Act.put, zA, zB, zC, i64_w, i32_w]
         rfl
       refine take_ (i := 4) (N := some 89) (v := ?_) (a' := ?_) #[true,true,true,true,true,true,false,true,false,false,false] rfl rfl (by kernel_rfl) (fun _ _ _ h => h) (Or.inl ⟨by rfl, ?_⟩) hHeld ?_ ?_
       rotate_left
       · rintro w' ⟨s0, s1, s2, s3⟩
         go_simp
         with_reducible rfl
       rotate_left
       · simp only [Act.put, zA, zB, zC, i64_w, i32_w]
         rfl
       refine take_ (i := 6) (N := some 91) (v := ?_) (a' := ?_) #[true,true,true,true,true,true,true,true,false,false,false] rfl rfl (by kernel_rfl) (fun _ _ _ h => h) (Or.inl ⟨by rfl, ?_⟩) hHeld ?_ ?_
       rotate_left
       · rintro w' ⟨s0, s1, s2, s3⟩
         go_simp
         with_reducible rfl
       rotate_left
       · simp only [Act.put, zA, zB, zC, i64_w, i32_w]
         rfl
       refine pure_ (i := 8) (N := some 93) (v := ?_) (a' := ?_) #[true,true,true,true,true,true,true,true,true,false,false] rfl rfl (by kernel_rfl) (fun _ _ _ h => h) (Or.inl ⟨by rfl, ?_⟩) ?_ ?_
       rotate_left
       · intro w'
         go_simp
         with_reducible rfl
       rotate_left
       · simp only [Act.put, zA, zB, zC, i64_w, i32_w]
         rfl
       refine take_ (i := 9) (N := some 94) (v := ?_) (a' := ?_) #[true,true,true,true,true,true,true,true,true,true,false] rfl rfl (by kernel_rfl) (fun _ _ _ h => h) (Or.inl ⟨by rfl, ?_⟩) hHeld ?_ ?_
       rotate_left
       · rintro w' ⟨s0, s1, s2, s3⟩
         go_simp
         with_reducible rfl
       rotate_left
       · simp only [Act.put, zA, zB, zC, i64_w, i32_w]
         rfl
       refine pure_ (i := 10) (N := some 95) (v := ?_) (a' := ?_) #[true,true,true,true,true,true,true,true,true,true,true] rfl rfl (by kernel_rfl) (fun _ _ _ h => h) (Or.inl ⟨by rfl, ?_⟩) ?_ ?_
       rotate_left
       · intro w'
         go_simp
         with_reducible rfl
       rotate_left
       · simp only [Act.put, zA, zB, zC, i64_w, i32_w]
         rfl
       refine done_ (by kernel_rfl) ?_
       go_wp2
       go_roundw
       case rel => exact ⟨k + 1, hlk, by go_num, below_drew HB.out⟩
       case measure => simp [intOf]; omega
     · have hd2 : decide ((k : Int) < (s.keys.length : Int)) = false := decide_eq_false (by omega)
       go_wp2
       obtain ⟨_, _, hx4, hy4⟩ := H2.out.c3
       clear hx3 hy3 hk hlk hd2
       go_loopw [9] (fun v9 wq2 => ∃ k : Nat, k ≤ s.needs.length ∧ v9 = .int .i64 (k : Int) ∧ Below w1.heap.size w1 wq2) (fun v9 _ => s.needs.length - (intOf v9).toNat)
       case atStart => exact ⟨0, Nat.zero_le _, rfl, HB.out⟩
       case round =>
        clear HB H2 hx4 hy4
        obtain ⟨k, hk, rfl, hB⟩ := hrel
        have HB := Aside0.mk hB
        have H2 := Aside0.mk (H1.out.on hB)
        obtain ⟨_, _, hx4, hy4⟩ := H2.out.c3
        clear hB
        by_cases hlk : k < s.needs.length
        · have hd2 : decide ((k : Int) < (s.needs.length : Int)) = true := decide_eq_true (by omega)
          obtain ⟨b1, rfl, hm1⟩ := int_at HK.out.1.needs hlk
          obtain ⟨b3, rfl, hm3⟩ := int_at HK.out.2.needs hlk
          replace hm1 := cell_on (on_ H1.out.below HB.out) hm1
          replace hm3 := cell_on (on_ H1.out.below HB.out) hm3
          generalize s.needs[k] = m at *
          go_wp2
          refine start_ (n := 11) (S := fun w' => w'.cell? ⟨wo.heap.size, 4, none⟩ = some (.slice (some b1) s.needs.length d1) ∧ w'.cell? ⟨wo.heap.size + 1, 4, none⟩ = some (.slice (some b3) s.needs.length d3) ∧ w'.cell? (b1.add k) = some (.int .i64 m) ∧ w'.cell? (b3.add k) = some (.int .i64 m)) (ds := []) #[false,false,false,false,false,false,false,false,false,false,false] (by kernel_rfl) rfl rfl ⟨(by go_keep), (by go_keep), (by go_keep), (by go_keep)⟩ (fun hHeld => ?_)
          refine pure_ (i := 0) (N := some 103) (v := ?_) (a' := ?_) #[true,false,false,false,false,false,false,false,false,false,false] rfl rfl (by kernel_rfl) (fun _ _ _ h => h) (Or.inl ⟨by rfl, ?_⟩) ?_ ?_
          rotate_left
          · intro w'
            go_simp
            with_reducible rfl
          rotate_left
          · simp only [Act.put, zA, zB, zC, i64_w, i32_w]
            rfl
          refine pure_ (i := 2) (N := some 105) (v := ?_) (a' := ?_) #[true,false,true,false,false,false,false,false,false,false,false] rfl rfl (by kernel_rfl) (fun _ _ _ h => h) (Or.inl ⟨by rfl, ?_⟩) ?_ ?_
          rotate_left
          · intro w'
            go_simp
            with_reducible rfl
          rotate_left
          · simp only [Act.put, zA, zB, zC, i64_w, i32_w]
            rfl
          refine pure_ (i := 5) (N := some 108) (v := ?_) (a' := ?_) #[true,false,true,false,false,true,false,false,false,false,false] rfl rfl (by kernel_rfl) (fun _ _ _ h => h) (Or.inl ⟨by rfl, ?_⟩) ?_ ?_
          rotate_left
          · intro w'
            go_simp
            with_reducible rfl
          rotate_left
          · simp only [Act.put, zA, zB, zC, i64_w, i32_w]
            rfl
          refine pure_ (i := 7) (N := some 110) (v := ?_) (a' := ?_) #[true,false,true,false,false,true,false,true,false,false,false] rfl rfl (by kernel_rfl) (fun _ _ _ h => h) (Or.inl ⟨by rfl, ?_⟩) ?_ ?_
          rotate_left
          · intro w'
            go_simp
            with_reducible rfl
          rotate_left
          · simp only [Act.put, zA, zB, zC, i64_w, i32_w]
            rfl
          refine take_ (i := 1) (N := some 104) (v := ?_) (a' := ?_) #[true,true,true,false,false,true,false,true,false,false,false] rfl rfl (by kernel_rfl) (fun _ _ _ h => h) (Or.inl ⟨by rfl, ?_⟩) hHeld ?_ ?_
          rotate_left
          · rintro w' ⟨s0, s1, s2, s3⟩
            go_simp
            with_reducible rfl
          rotate_left
          · simp only [Act.put, zA, zB, zC, i64_w, i32_w]
            rfl
          refine pure_ (i := 3) (N := some 106) (v := ?_) (a' := ?_) #[true,true,true,true,false,true,false,true,false,false,false] rfl rfl (by kernel_rfl) (fun _ _ _ h => h) (Or.inl ⟨by rfl, ?_⟩) ?_ ?_
          rotate_left
          · intro w'
            go_simp
            with_reducible rfl
          rotate_left
          · simp only [Act.put, zA, zB, zC, i64_w, i32_w]
            rfl
          refine take_ (i := 4) (N := some 107) (v := ?_) (a' := ?_) #[true,true,true,true,true,true,false,true,false,false,false] rfl rfl (by kernel_rfl) (fun _ _ _ h => h) (Or.inl ⟨by rfl, ?_⟩) hHeld ?_ ?_
          rotate_left
          · rintro w' ⟨s0, s1, s2, s3⟩
            go_simp
            with_reducible rfl
          rotate_left
          · simp only [Act.put, zA, zB, zC, i64_w, i32_w]
            rfl
          refine take_ (i := 6) (N := some 109) (v := ?_) (a' := ?_) #[true,true,true,true,true,true,true,true,false,false,false] rfl rfl (by kernel_rfl) (fun _ _ _ h => h) (Or.inl ⟨by rfl, ?_⟩) hHeld ?_ ?_
          rotate_left
          · rintro w' ⟨s0, s1, s2, s3⟩
            go_simp
            with_reducible rfl
          rotate_left
          · simp only [Act.put, zA, zB, zC, i64_w, i32_w]
            rfl
          refine pure_ (i := 8) (N := some 111) (v := ?_) (a' := ?_) #[true,true,true,true,true,true,true,true,true,false,false] rfl rfl (by kernel_rfl) (fun _ _ _ h => h) (Or.inl ⟨by rfl, ?_⟩) ?_ ?_
          rotate_left
          · intro w'
            go_simp
            with_reducible rfl
          rotate_left
          · simp only [Act.put, zA, zB, zC, i64_w, i32_w]
            rfl
          refine take_ (i := 9) (N := some 112) (v := ?_) (a' := ?_) #[true,true,true,true,true,true,true,true,true,true,false] rfl rfl (by kernel_rfl) (fun _ _ _ h => h) (Or.inl ⟨by rfl, ?_⟩) hHeld ?_ ?_
          rotate_left
          · rintro w' ⟨s0, s1, s2, s3⟩
            go_simp
            with_reducible rfl
          rotate_left
          · simp only [Act.put, zA, zB, zC, i64_w, i32_w]
            rfl
          refine pure_ (i := 10) (N := some 113) (v := ?_) (a' := ?_) #[true,true,true,true,true,true,true,true,true,true,true] rfl rfl (by kernel_rfl) (fun _ _ _ h => h) (Or.inl ⟨by rfl, ?_⟩) ?_ ?_
          rotate_left
          · intro w'
            go_simp
            with_reducible rfl
          rotate_left
          · simp only [Act.put, zA, zB, zC, i64_w, i32_w]
            rfl
          refine done_ (by kernel_rfl) ?_
          go_wp2
          go_roundw
          case rel => exact ⟨k + 1, hlk, by go_num, below_drew HB.out⟩
          case measure => simp [intOf]; omega
        · have hd2 : decide ((k : Int) < (s.needs.length : Int)) = false := decide_eq_false (by omega)
          go_wp2
          go_roundw
          case rel => exact ⟨i + 1, hlt, by go_num, HG.out.on (on_ H1.out.below HB.out)⟩
          case measure => simp [intOf]; omega
  · have hd1 : decide ((i : Int) < (l.length : Int)) = false := decide_eq_false (by omega)
    go_wp2
    go_ret
    exact ⟨rfl, HG.out.below⟩
end Go.Proofs.YthlgcibckakhbaaGreatDoor.Pl

/- odysseylaw12.PlanAheads (ZD): the walk, by hand. -/
namespace Go.Proofs.YthlgcibckakhbaaGreatDoor.Pl
open Go.RowKit Go.IntWalk Go.Proofs.YthlgcibckakhbaaGreatDoorW.PrintWords Go.Proofs.YthlgcibckakhbaaGreatDoorW.PrintLast Go.Proofs.YthlgcibckakhbaaGreatDoorW.PrintMore Go.Proofs.YthlgcibckakhbaaGreatDoor.PlName

/-- The worlds of PlanAheads. -/
structure Ah (w W : World) (nm : ByteArray) (l : List Step) (A : Option Addr) (c bq : Nat) (A2 : Option Addr) (c2 : Nat) : Prop where
 below : Below w.heap.size w W
 box : W.heap[w.heap.size]? = some (.cells #[.string nm, .slice A l.length c] 24 (0, 0))
 was : W.heap[bq]? = some (.cells #[.string nm, .slice A2 l.length c2] 24 (0, 0))
 steps : StepsAt W A2 l
theorem Ah.on {w W W2 : World} {nm : ByteArray} {l : List Step} {A : Option Addr} {c bq : Nat} {A2 : Option Addr} {c2 : Nat} (h : Ah w W nm l A c bq A2 c2) (hb : Below W.heap.size W W2) : Ah w W2 nm l A c bq A2 c2 := ⟨on_ h.below hb, row_on hb h.box, row_on hb h.was, h.steps.below hb⟩
theorem Ah.cells {w W : World} {nm : ByteArray} {l : List Step} {A : Option Addr} {c bq : Nat} {A2 : Option Addr} {c2 : Nat} (h : Ah w W nm l A c bq A2 c2) : W.cell? ⟨w.heap.size, 0, none⟩ = some (.string nm) ∧ W.cell? ⟨w.heap.size, 1, none⟩ = some (.slice A l.length c) ∧ W.cell? ⟨bq, 0, none⟩ = some (.string nm) ∧ W.cell? ⟨bq, 1, none⟩ = some (.slice A2 l.length c2) := ⟨row_cell h.box rfl, row_cell h.box rfl, row_cell h.was rfl, row_cell h.was rfl⟩
theorem own_same2 {w0 w1 w2 w3 W : World} {v u : Value} {L : List Nat} (h : Own w0 w1 v L) (hb : Below w1.heap.size w1 W) (h2 : Own w2 w3 u L) (hb2 : Below w3.heap.size w3 W) (hl : L.length ≤ 1000) :
 Calls Tryz.prog 8 #[v, u] W fun e w' => e = .returned (.bool true) ∧ Below W.heap.size W w' := by
 obtain ⟨A, c, rfl, _, hr⟩ := own_reads h2
 have := own_same h hb (intsOf L) A c (Kd.C_below hr hb2) hl rfl
 rw [intsOf_len] at this
 exact this
/-- Behind two fillings all is as it was. -/
theorem own_apart {w0 w1 w2 : World} {v u : Value} {L M : List Nat} (h : Own w0 w1 v L) (hu : Own w1 w2 u M) : ∀ q, u.ownBlock = some q → v.ownBlock ≠ some q := fun q hq e => by
 have h1 := (hu.lt q hq).1
 have h2 := (h.lt q e).2
 omega

end Go.Proofs.YthlgcibckakhbaaGreatDoor.Pl

/- odysseyref12.fit, stands (ZD): walked by hand. -/
namespace Go.Proofs.YthlgcibckakhbaaGreatDoor.Pl
open Go.RowKit Go.IntWalk Go.Proofs.YthlgcibckakhbaaGreatDoorW.PrintWords Go.Proofs.YthlgcibckakhbaaGreatDoorW.PrintLast Go.Proofs.YthlgcibckakhbaaGreatDoorW.PrintMore Go.Proofs.YthlgcibckakhbaaGreatDoor.PlName

theorem allF_succ {p q : Nat → Bool} {a : Nat} : allF p q (a + 1) = (allF p q a && (!p a || q a)) := by
 unfold allF
 rw [List.range_succ, List.all_append]
 simp
theorem allF_zero {p q : Nat → Bool} : allF p q 0 = true := rfl
theorem st_get {st : List Int} {k : Nat} (h : k < st.length) : st[k] = stOf st k := by
 unfold stOf
 simp [h]
theorem odd_step {st : List Int} {k : Nat} (h : ∀ j, j < k → oddS (stOf st j) = false) (hk : oddS (stOf st k) = false) : ∀ j, j < k + 1 → oddS (stOf st j) = false := fun j hj => by
 rcases Nat.lt_succ_iff_lt_or_eq.1 hj with e | e
 · exact h j e
 · subst e
   exact hk
theorem odd_none {st : List Int} (h : ∀ j, j < st.length → oddS (stOf st j) = false) : (!st.any oddS) = true := by
 rw [Bool.not_eq_true', List.any_eq_false]
 intro x hx
 obtain ⟨j, hj, e⟩ := List.getElem_of_mem hx
 have := h j hj
 rw [← st_get hj, e] at this
 simp [this]
theorem odd_some {st : List Int} {k : Nat} (hk : k < st.length) (h : oddS (stOf st k) = true) : (!st.any oddS) = false := by
 rw [Bool.not_eq_false', List.any_eq_true]
 exact ⟨st[k], List.getElem_mem hk, by rw [st_get hk]; exact h⟩

set_option maxHeartbeats 8000000 in
set_option maxRecDepth 100000 in
theorem fit_calls (nm : ByteArray) (l : List Step) (A : Option Addr) (c : Nat) (B : Option Addr) (cs : Nat) (st : List Int) (w : World) (hnm : nm.size ≤ 140737488351232) (hS : StepsAt w A l) (hb : ∀ s ∈ l, StepB s) (hn : l.length ≤ 9000000000000) (hc : l.length ≤ c)
 (hs : Kd.C (Kd.int .i64) w B st.length st) (hsl : st.length ≤ 17592186044416) :
 Calls Tryz.prog 31 #[.agg #[.string nm, .slice A l.length c], .slice B st.length cs] w fun e w' => e = .returned (.bool (defOk nm l && stsOk st l.length)) ∧ Below w.heap.size w w' := by
 have hbb := below_one w (.cells #[.string nm, .slice A l.length c] 24)
 have hr0 := alloc1 w (.cells #[.string nm, .slice A l.length c] 24)
 have hmay := Aside0.mk (may_calls nm l A c _ hnm (hS.below hbb) hb hn hc)
 have HW := Aside0.mk (And.intro hbb (And.intro hr0 hs))
 have HR : Aside0 (stsOk st l.length = (decide (st.length = l.length) && !st.any oddS)) := ⟨rfl⟩
 clear hbb hr0 hS hb hs
 generalize stsOk st l.length = rr at *
 go_enter Tryz.func31, Tryz.ntmps31
 cases hok : defOk nm l
 · rw [hok] at hmay
   go_wp2_with (first | (go_at_call 22; refine hmay.out.mono ?_; rintro e w1 ⟨rfl, hb1⟩; have H1 := Aside0.mk (on_ HW.out.1 hb1); clear hb1))
   go_ret
   exact ⟨rfl, H1.out⟩
 · rw [hok] at hmay
   by_cases hlen : st.length = l.length
   · have hd1 : ((st.length : Int) != (l.length : Int)) = false := by rw [hlen]; simp
     rw [decide_eq_true hlen, Bool.true_and] at HR
     go_wp2_with (first | (go_at_call 22; refine hmay.out.mono ?_; rintro e w1 ⟨rfl, hb1⟩; have H1 := Aside0.mk (And.intro (on_ HW.out.1 hb1) (row_on hb1 HW.out.2.1)); have hq1 := row_cell (j := 1) H1.out.2 rfl; clear hb1))
     clear hq1
     go_loopw [5] (fun v5 wr => ∃ k : Nat, k ≤ st.length ∧ v5 = .int .i64 (k : Int) ∧ (∀ j, j < k → oddS (stOf st j) = false) ∧ Below w1.heap.size w1 wr) (fun v5 _ => st.length - (intOf v5).toNat)
     case atStart => exact ⟨0, Nat.zero_le _, rfl, fun j hj => absurd hj (Nat.not_lt_zero _), Below.refl _ _⟩
     case round =>
      obtain ⟨k, hk, rfl, hal, hB⟩ := hrel
      have HG := Aside0.mk (And.intro hal (on_ H1.out.1 hB))
      have HB := Aside0.mk hB
      clear hal hB
      by_cases hlt : k < st.length
      · have hd2 : decide ((k : Int) < (st.length : Int)) = true := decide_eq_true (by omega)
        obtain ⟨an, rfl, hx⟩ := int_at HW.out.2.2 hlt
        replace hx := cell_on HG.out.2 hx
        have HX := Aside0.mk (And.intro (st_get hlt) hlt)
        generalize st[k] = x at *
        have HE : Aside0 (stOf st k = x) := ⟨HX.out.1.symm⟩
        by_cases h0 : x < 0
        · have hd3 : decide (x < 0) = true := decide_eq_true h0
          have HF : Aside0 (rr = false) := ⟨by rw [HR.out]; exact odd_some HX.out.2 (by rw [HE.out]; unfold oddS; rw [hd3]; rfl)⟩
          go_wp2
          go_ret
          exact ⟨by rw [HF.out]; rfl, HG.out.2⟩
        · have hd3 : decide (x < 0) = false := decide_eq_false h0
          by_cases h5 : 5 < x
          · have hd4 : decide (5 < x) = true := decide_eq_true h5
            have HF : Aside0 (rr = false) := ⟨by rw [HR.out]; exact odd_some HX.out.2 (by rw [HE.out]; unfold oddS; rw [hd4, Bool.or_true])⟩
            go_wp2
            go_ret
            exact ⟨by rw [HF.out]; rfl, HG.out.2⟩
          · have hd4 : decide (5 < x) = false := decide_eq_false h5
            have HS : Aside0 (oddS (stOf st k) = false) := ⟨by rw [HE.out]; unfold oddS; rw [hd3, hd4]; rfl⟩
            go_wp2
            go_roundw
            case rel => exact ⟨k + 1, hlt, by go_num, odd_step HG.out.1 HS.out, HB.out⟩
            case measure => simp [intOf]; omega
      · have hd2 : decide ((k : Int) < (st.length : Int)) = false := decide_eq_false (by omega)
        have hk' : k = st.length := by omega
        have HF : Aside0 (rr = true) := ⟨by rw [HR.out]; exact odd_none (fun j hj => HG.out.1 j (by omega))⟩
        clear hk'
        go_wp2
        go_ret
        exact ⟨by rw [HF.out]; rfl, HG.out.2⟩
   · have hd1 : ((st.length : Int) != (l.length : Int)) = true := by simp; omega
     have HF : Aside0 (rr = false) := ⟨by rw [HR.out, decide_eq_false hlen]; rfl⟩
     go_wp2_with (first | (go_at_call 22; refine hmay.out.mono ?_; rintro e w1 ⟨rfl, hb1⟩; have H1 := Aside0.mk (And.intro (on_ HW.out.1 hb1) (row_on hb1 HW.out.2.1)); have hq1 := row_cell (j := 1) H1.out.2 rfl; clear hb1))
     go_ret
     exact ⟨by rw [HF.out]; rfl, H1.out.1⟩

def stB (x : Int) : Bool := x == 1 || x == 2
set_option maxHeartbeats 1000000 in
theorem stands12_calls (x : Int) (w : World) : Calls Tryz.prog 32 #[.int .i64 x] w fun e w' => e = .returned (.bool (stB x)) ∧ Below w.heap.size w w' := by
 have HF : Aside0 (stB x = ((x == 1) || (x == 2))) := ⟨rfl⟩
 generalize stB x = rr at *
 go_enter Tryz.func32, Tryz.ntmps32
 cases h1 : (x == 1)
 · rw [h1] at HF
   go_wp2
   go_ret
   exact ⟨by rw [HF.out]; rfl, Below.refl _ _⟩
 · rw [h1] at HF
   go_wp2
   go_ret
   exact ⟨by rw [HF.out]; rfl, Below.refl _ _⟩
end Go.Proofs.YthlgcibckakhbaaGreatDoor.Pl

/- odysseyref12.Ready (ZD): walked by hand. -/
namespace Go.Proofs.YthlgcibckakhbaaGreatDoor.Pl
open Go.RowKit Go.IntWalk Go.Proofs.YthlgcibckakhbaaGreatDoorW.PrintWords Go.Proofs.YthlgcibckakhbaaGreatDoorW.PrintLast Go.Proofs.YthlgcibckakhbaaGreatDoorW.PrintMore Go.Proofs.YthlgcibckakhbaaGreatDoor.PlName

/-- The worlds of Ready's inner loop: another row of marks. -/
structure Rq (w W : World) (nm : ByteArray) (l : List Step) (ad : Addr) (c bs : Nat) (g : Nat → Bool) (ba : Nat) (f : Nat → Bool) : Prop where
 bn : Bn w W nm l ad c bs g
 row2 : W.heap[ba]? = some (.cells (rowA f 8) 48 (0, 0))
 ne : bs < ba
section
variable {w W W2 : World} {nm : ByteArray} {l : List Step} {ad : Addr} {c bs ba : Nat} {g f : Nat → Bool}
theorem Rq.on (h : Rq w W nm l ad c bs g ba f) (hb : Below W.heap.size W W2) : Rq w W2 nm l ad c bs g ba f := ⟨h.bn.on hb, row_on hb h.row2, h.ne⟩
theorem Rq.set (h : Rq w W nm l ad c bs g ba f) (m : Nat) (x : Bool) : Rq w (W.setCell ⟨bs, m, none⟩ (.bool x)) nm l ad c bs (upd g m x) ba f := ⟨h.bn.set m x, row_setCell_ne h.row2 _ _ (Nat.ne_of_gt h.ne), h.ne⟩
theorem Rq.start (h : Bn w W nm l ad c bs g) (hW : W.alloc (.cells #[.bool (f 0), .bool (f 1), .bool (f 2), .bool (f 3), .bool (f 4), .bool (f 5), .bool (f 6), .bool (f 7)] 48) = W2) : Rq w W2 nm l ad c bs g W.heap.size f := by
 subst hW
 exact ⟨h.on (below_one _ _), alloc1 W (.cells (rowA f 8) 48), (Array.getElem?_eq_some_iff.1 h.row).1⟩
end
theorem upd_at (g : Nat → Bool) (k : Nat) (x : Bool) : upd g k x k = x := by
 unfold upd
 simp
theorem upd_low {P g : Nat → Bool} {k : Nat} (x : Bool) (h : ∀ y, y < k → g y = P y) : ∀ y, y < k → upd g k x y = P y := fun y hy => by
 unfold upd
 rw [if_neg (by omega)]
 exact h y hy
theorem lowP_step {P g : Nat → Bool} {k : Nat} (h : ∀ y, y < k → g y = P y) (hk : g k = P k) : ∀ y, y < k + 1 → g y = P y := fun y hy => by
 rcases Nat.lt_succ_iff_lt_or_eq.1 hy with e | e
 · exact h y e
 · subst e
   exact hk
theorem sts_len {st : List Int} {n : Nat} (h : stsOk st n = true) : st.length = n := by
 unfold stsOk at h
 rw [Bool.and_eq_true, decide_eq_true_eq] at h
 exact h.1
set_option maxHeartbeats 16000000 in
set_option maxRecDepth 100000 in
theorem refReadyL_calls (nm : ByteArray) (l : List Step) (A : Option Addr) (c : Nat) (B : Option Addr) (cs : Nat) (st : List Int) (w : World) (hnm : nm.size ≤ 140737488351232) (hS : StepsAt w A l) (hb : ∀ s ∈ l, StepB s) (hn : l.length ≤ 9000000000000) (hc : l.length ≤ c)
 (hs : Kd.C (Kd.int .i64) w B st.length st) (hsl : st.length ≤ 17592186044416) :
 Calls Tryz.prog 16 #[.agg #[.string nm, .slice A l.length c], .slice B st.length cs] w fun e w' => (∃ v, e = .returned v ∧ Own w w' v (readyL nm l st)) ∧ Below w.heap.size w w' := by
 have hbb := below_one w (.cells #[.string nm, .slice A l.length c] 24)
 have hr0 := alloc1 w (.cells #[.string nm, .slice A l.length c] 24)
 have hft := Aside0.mk (fit_calls nm l A c B cs st _ hnm (hS.below hbb) hb hn hc (Kd.C_below hs hbb) hsl)
 have HW := Aside0.mk (And.intro hbb hr0)
 have HA := Aside0.mk (And.intro hS (And.intro hs hnm))
 have HR : Aside0 (readyL nm l st = if (defOk nm l && stsOk st l.length) = true then sel (readyF (wars (direct l) l.length) st l.length) l.length else []) := ⟨rfl⟩
 have HD := Aside0.mk (fun (h : (defOk nm l && stsOk st l.length) = true) => And.intro (defOk_len (nm := nm) (l := l) (Bool.and_eq_true_iff.1 h).1) (sts_len (Bool.and_eq_true_iff.1 h).2))
 clear hbb hr0 hS hb hs
 generalize readyL nm l st = rr at *
 go_enter Tryz.func16, Tryz.ntmps16
 cases hok : (defOk nm l && stsOk st l.length)
 · rw [hok] at hft HR
   go_wp2_with (first | (go_at_call 31; refine hft.out.mono ?_; rintro e w1 ⟨rfl, hb1⟩; have H1 := Aside0.mk (on_ HW.out.1 hb1); clear hb1))
   go_ret
   exact ⟨⟨_, rfl, by rw [HR.out]; exact own_nil _ _⟩, H1.out⟩
 · obtain ⟨⟨hl1, hl8, hal⟩, hlen⟩ := HD.out hok
   rw [hok] at hft HR
   have HL := Aside0.mk hlen
   have hs8 : st.length ≤ 8 := by omega
   have hs1 : 1 ≤ st.length := by omega
   clear hlen HD hok
   obtain ⟨ad, rfl, _⟩ := HA.out.1.one (stepAt_eq (l := l) (i := 0) (by omega))
   obtain ⟨a0, rfl, _⟩ := int_at HA.out.2.1 (i := 0) (by omega)
   have hah := Aside0.mk (fun W (h : Below w.heap.size w W) (x : Nat) (hx : x < l.length) => refAhead_calls nm l ad c x W (HA.out.1.below h) hx hl8 (fun k hk => (needs_in hl8 (hal k hk)).2))
   have hint := Aside0.mk (fun W (h : Below w.heap.size w W) (x : Nat) (hx : x < st.length) => (by
    obtain ⟨a1, e, h1⟩ := int_at HA.out.2.1 hx
    cases e
    rw [st_get hx] at h1
    exact cell_on h h1 : W.cell? (a0.add x) = some (.int .i64 (stOf st x))))
   have HR2 : Aside0 (rr = sel (readyF (wars (direct l) l.length) st l.length) l.length) := ⟨by rw [HR.out, if_pos rfl]⟩
   clear hal HR
   have HP : Aside0 (∀ k, readyF (wars (direct l) l.length) st l.length k = ((stOf st k == 0) && allF (wars (direct l) l.length k) (doneF st) st.length)) := ⟨fun k => by rw [HL.out]; rfl⟩
   generalize readyF (wars (direct l) l.length) st l.length = P at *
   go_wp2_with (first | (go_at_call 31; refine hft.out.mono ?_; rintro e w1 ⟨rfl, hb1⟩; have H1 := Aside0.mk (And.intro (on_ HW.out.1 hb1) (row_on hb1 HW.out.2)); clear hb1))
   have HB0 : Aside0 (∀ W, w1.alloc (.cells #[.bool false, .bool false, .bool false, .bool false, .bool false, .bool false, .bool false, .bool false] 48) = W → Bn w W nm l ad c w1.heap.size (fun _ => false)) := ⟨fun W hW => by
    subst hW
    exact ⟨on_ H1.out.1 (below_one _ _), row_on (below_one _ _) H1.out.2, alloc1 w1 (.cells (rowA (fun _ => false) 8) 48), (Array.getElem?_eq_some_iff.1 H1.out.2).1⟩⟩
   generalize hW : World.alloc w1 _ = w2 at *
   have HB := Aside0.mk (HB0.out _ rfl)
   generalize w1.heap.size = bs at *
   clear HB0 hW
   go_loopw [6] (fun v6 wr => ∃ (k : Nat) (g : Nat → Bool), k ≤ st.length ∧ v6 = .int .i64 (k : Int) ∧ (∀ x, x < k → g x = P x) ∧ Bn w wr nm l ad c bs g) (fun v6 _ => st.length - (intOf v6).toNat)
   case atStart => exact ⟨0, _, Nat.zero_le _, rfl, fun x hx => absurd hx (Nat.not_lt_zero _), HB.out⟩
   case round =>
    obtain ⟨wo, rfl⟩ : ∃ wo : World, wo = wr := ⟨_, rfl⟩
    obtain ⟨k, g, hk, rfl, hg, hN⟩ := hrel
    have HG := Aside0.mk (And.intro hg hN)
    obtain ⟨hq0, hq1⟩ := hN.cells
    clear hg HB
    by_cases hlk : k < st.length
    · have hd3 : decide ((k : Int) < (st.length : Int)) = true := decide_eq_true (by omega)
      have hd8 : decide ((k : Int) < 8) = true := decide_eq_true (by omega)
      have hk8 : k < 8 := by omega
      have hkl : k < l.length := by have := HL.out; omega
      have hx := hint.out _ HG.out.2.below k hlk
      have hqk := row_cell (j := k) hN.row (rowA_at hk8)
      have hfk := free_of_row (j := k) hN.row
      have HZ : Aside0 (∀ z, (stOf st k == 0) = z → P k = (z && allF (wars (direct l) l.length k) (doneF st) st.length)) := ⟨fun z h => by rw [← h]; exact HP.out k⟩
      generalize stOf st k = xk at *
      have hq0' := (HG.out.2.set k (xk == 0)).cells.1
      have hq1' := (HG.out.2.set k (xk == 0)).cells.2
      clear hN
      replace HZ := Aside0.mk (HZ.out _ rfl)
      go_wp2_with (first | (go_at_call 24; refine (hah.out _ (HG.out.2.set k (xk == 0)).below k hkl).mono ?_; rintro e w5 ⟨⟨f, rfl, hf⟩, hb5⟩; have H5 := Aside0.mk (And.intro ((HG.out.2.set k (xk == 0)).on hb5) hf); clear hb5 hf))
      clear hq0 hq1 hq0' hq1' hx hqk hfk
      have HB0 : Aside0 (∀ W, w5.alloc (.cells #[.bool (f 0), .bool (f 1), .bool (f 2), .bool (f 3), .bool (f 4), .bool (f 5), .bool (f 6), .bool (f 7)] 48) = W → Rq w W nm l ad c bs (upd g k (xk == 0)) w5.heap.size f) := ⟨fun W hW => Rq.start H5.out.1 hW⟩
      generalize hW : World.alloc w5 _ = w6 at *
      have H6 := Aside0.mk (HB0.out _ rfl)
      have HF := Aside0.mk H5.out.2
      generalize w5.heap.size = ba at *
      have H7 := Aside0.mk (And.intro (upd_low (xk == 0) HG.out.1) (upd_at g k (xk == 0)))
      generalize upd g k (xk == 0) = g0 at *
      generalize (xk == 0) = z at *
      clear HB0 hW H5 HG
      go_loopw [8] (fun v8 wr => ∃ (a : Nat) (g2 : Nat → Bool), a ≤ st.length ∧ v8 = .int .i64 (a : Int) ∧ (∀ x, x < k → g2 x = P x) ∧ g2 k = (z && allF (wars (direct l) l.length k) (doneF st) a) ∧ Rq w wr nm l ad c bs g2 ba f) (fun v8 _ => st.length - (intOf v8).toNat)
      case atStart => exact ⟨0, g0, Nat.zero_le _, rfl, H7.out.1, by rw [H7.out.2, allF_zero, Bool.and_true], H6.out⟩
      case round =>
       obtain ⟨a, g2, ha, rfl, hlo, hat, hR⟩ := hrel
       have HM := Aside0.mk (And.intro hlo (And.intro hat hR))
       clear hlo hat H6 H7
       by_cases hla : a < st.length
       · have hd4 : decide ((a : Int) < (st.length : Int)) = true := decide_eq_true (by omega)
         have hd9 : decide ((a : Int) < 8) = true := decide_eq_true (by omega)
         have hal : a < l.length := by have := HL.out; omega
         have hra := row_cell (j := a) hR.row2 (rowA_at (show a < 8 by omega))
         have hy := hint.out _ hR.bn.below a hla
         have hE : Aside0 (wars (direct l) l.length k a = f a) := ⟨(HF.out a hal).symm⟩
         have hD : Aside0 (doneF st a = (stOf st a == 2)) := ⟨rfl⟩
         have hqk := row_cell (j := k) hR.bn.row (rowA_at hk8)
         have hfk := free_of_row (j := k) hR.bn.row
         clear hR
         generalize stOf st a = y at *
         cases hfa : f a
         · rw [hfa] at hra hE
           go_wp2
           go_roundw
           case rel => exact ⟨a + 1, g2, hla, by go_num, HM.out.1, by rw [allF_succ, hE.out, HM.out.2.1]; simp, HM.out.2.2⟩
           case measure => simp [intOf]; omega
         · rw [hfa] at hra hE
           cases hy2 : (y != 2)
           · have hy3 : (y == 2) = true := by simpa using hy2
             have HY := Aside0.mk hy3
             clear hy3
             go_wp2
             go_roundw
             case rel => exact ⟨a + 1, g2, hla, by go_num, HM.out.1, by rw [allF_succ, hE.out, hD.out, HY.out, HM.out.2.1]; simp, HM.out.2.2⟩
             case measure => simp [intOf]; omega
           · have hy3 : (y == 2) = false := by simpa using hy2
             have HY := Aside0.mk hy3
             clear hy3
             go_wp2
             go_roundw
             case rel => exact ⟨a + 1, upd g2 k false, hla, by go_num, upd_low false HM.out.1, by rw [upd_at, allF_succ, hE.out, hD.out, HY.out]; simp, HM.out.2.2.set k false⟩
             case measure => simp [intOf]; omega
       · have hd4 : decide ((a : Int) < (st.length : Int)) = false := decide_eq_false (by omega)
         have ha' : a = st.length := by omega
         have HE : Aside0 (g2 k = P k) := ⟨by rw [HM.out.2.1, ha', HZ.out]⟩
         clear hR ha'
         go_wp2
         go_roundw
         case rel => exact ⟨k + 1, g2, hlk, by go_num, lowP_step HM.out.1 HE.out, HM.out.2.2.bn⟩
         case measure => simp [intOf]; omega
    · have hd3 : decide ((k : Int) < (st.length : Int)) = false := decide_eq_false (by omega)
      have hk' : k = l.length := by have := HL.out; omega
      subst hk'
      have hrow := hN.row
      have HS : Aside0 (sel g l.length = sel P l.length) := ⟨sel_congr fun x hx => HG.out.1 x hx⟩
      have q0 := row_cell (j := 0) hrow (rowA_at (show 0 < 8 by decide))
      have q1 := row_cell (j := 1) hrow (rowA_at (show 1 < 8 by decide))
      have q2 := row_cell (j := 2) hrow (rowA_at (show 2 < 8 by decide))
      have q3 := row_cell (j := 3) hrow (rowA_at (show 3 < 8 by decide))
      have q4 := row_cell (j := 4) hrow (rowA_at (show 4 < 8 by decide))
      have q5 := row_cell (j := 5) hrow (rowA_at (show 5 < 8 by decide))
      have q6 := row_cell (j := 6) hrow (rowA_at (show 6 < 8 by decide))
      have q7 := row_cell (j := 7) hrow (rowA_at (show 7 < 8 by decide))
      clear hN
      go_wp2_with (first | (go_at_call 23; refine (numbers_calls nm l (some ad) c g _ hl8).mono ?_; rintro e w6 ⟨⟨v6, rfl, ho6⟩, hb6⟩))
      go_ret
      exact ⟨⟨_, rfl, by rw [HR2.out, ← HS.out]; exact ho6.low HG.out.2.below.size⟩, on_ HG.out.2.below hb6⟩
end Go.Proofs.YthlgcibckakhbaaGreatDoor.Pl
