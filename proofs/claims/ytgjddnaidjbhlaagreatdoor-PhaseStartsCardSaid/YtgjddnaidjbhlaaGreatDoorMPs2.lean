/- Several texts in one, in build order: PlRNeeds, PlRAlone, PlROrder, PlRRing, PlRLoose, PlRCheck, PlLawP, PlLive, PlDone, PlRef12, PlRefDir, PlRefNum, PlRefAh, PlRefAB, PlRefBe, PlRefFit, PlRefRdy, PhDef, PhView, PhClone, PhCount, PhSteps, PhAll, PhCost, PhNamed, PhDef2, PhDef3, PhPtr, PhHead, PhPtr2, PhEnd2, PhNt, PhLt, PhWr, PhEq, PhWTurn. -/
import Derived.Test.YtgjddnaidjbhlaaGreatDoorMPs1
import Derived.Deep.RegionHeld3
import Derived.Deep.DrawnRows
import Derived.Deep.AppendLies
set_option linter.unusedVariables false
set_option linter.unusedSimpArgs false
/- odysseyref11.needs: the walk, by hand. -/
namespace Go.Proofs.YtgjddnaidjbhlaaGreatDoor.Pl
open Go.RowKit Go.IntWalk Go.Proofs.YtgjddnaidjbhlaaGreatDoorW.PrintWords Go.Proofs.YtgjddnaidjbhlaaGreatDoorW.PrintLast Go.Proofs.YtgjddnaidjbhlaaGreatDoorW.PrintMore Go.Proofs.YtgjddnaidjbhlaaGreatDoor.PlName

theorem lastOf_pos {l : List Int} {k : Nat} (h0 : 0 < k) (h : k ≤ l.length) : lastOf l k = l[k - 1]'(by omega) := by
 obtain ⟨m, rfl⟩ : ∃ m, k = m + 1 := ⟨k - 1, by omega⟩
 exact lastOf_succ (by omega)
set_option maxHeartbeats 8000000 in
set_option maxRecDepth 100000 in
theorem needsR_calls (A : Option Addr) (c : Nat) (ns : List Int) (n i : Nat) (w : World) (hk : Kd.C (Kd.int .i64) w A ns.length ns) (hl : ns.length ≤ 17592186044416) (hn : n ≤ 8) (hi : i < n) :
 Calls Tryz.prog 108 #[.slice A ns.length c, .int .i64 (i : Int), .int .i64 (n : Int)] w fun e w' => e = .returned (.bool (needsOk n i ns)) ∧ Below w.heap.size w w' := by
 have HK := Aside0.mk hk
 have HG0 : Aside0 (needsOk n i ns = goNeeds n i (lastOf ns 0) (ns.drop 0)) := ⟨by simp [lastOf, needsOk]⟩
 clear hk
 go_enter Tryz.func108, Tryz.ntmps108
 go_wp2
 go_loopw [7] (fun v7 wr => ∃ k : Nat, k ≤ ns.length ∧ v7 = .int .i64 (k : Int) ∧ needsOk n i ns = goNeeds n i (lastOf ns k) (ns.drop k) ∧ (0 < k → 0 ≤ lastOf ns k) ∧ Below w.heap.size w wr) (fun v7 _ => ns.length - (intOf v7).toNat)
 case atStart => exact ⟨0, Nat.zero_le _, rfl, HG0.out, fun h => absurd h (Nat.lt_irrefl _), Below.refl _ _⟩
 case round =>
  obtain ⟨k, hk, rfl, hg, hp, hB⟩ := hrel
  have HG := Aside0.mk hg
  have HBR := Aside0.mk hB
  clear hg hB
  by_cases hlt : k < ns.length
  · have hd2 : decide ((k : Int) < (ns.length : Int)) = true := decide_eq_true (by omega)
    obtain ⟨ad, rfl, hx⟩ := int_at HK.out hlt
    replace hx := cell_on HBR.out hx
    have hdrop : ns.drop k = ns[k] :: ns.drop (k + 1) := List.drop_eq_getElem_cons hlt
    have HL := Aside0.mk (lastOf_succ hlt)
    have hl0 : k = 0 → lastOf ns k = -1 := fun e => by subst e; rfl
    rw [hdrop, goNeeds] at HG
    by_cases hk0 : k = 0
    · have hlast := hl0 hk0
      have hd6 : decide (0 < (k : Int)) = false := decide_eq_false (by omega)
      have hd6n : decide (0 < k) = false := decide_eq_false (by omega)
      rw [hlast] at HG
      clear hl0 hp hlast hdrop hk0
      generalize ns[k] = x at *
      by_cases h1 : x < 0
      · have hd3 : decide (x < 0) = true := decide_eq_true h1
        have HFIN : Aside0 ((decide (-1 < x) && (decide (x < (n : Int)) && (decide (x ≠ (i : Int)) && goNeeds n i x (ns.drop (k + 1))))) = false) := ⟨by rw [decide_eq_false (by omega)]; rfl⟩
        clear h1
        go_wp2
        go_quiet (fail)
        go_wp2
        go_ret
        rw [HG.out, HFIN.out]
        exact ⟨rfl, bdn HBR.out⟩
      · have hd3 : decide (x < 0) = false := decide_eq_false h1
        by_cases h2 : (n : Int) ≤ x
        · have hd4 : decide ((n : Int) ≤ x) = true := decide_eq_true h2
          have HFIN : Aside0 ((decide (-1 < x) && (decide (x < (n : Int)) && (decide (x ≠ (i : Int)) && goNeeds n i x (ns.drop (k + 1))))) = false) := ⟨by rw [decide_eq_false (p := x < (n : Int)) (by omega)]; simp⟩
          clear h1 h2
          go_wp2
          go_quiet (fail)
          go_wp2
          go_ret
          rw [HG.out, HFIN.out]
          exact ⟨rfl, bdn HBR.out⟩
        · have hd4 : decide ((n : Int) ≤ x) = false := decide_eq_false h2
          by_cases h3 : x = (i : Int)
          · have hd5 : (x == (i : Int)) = true := beq_iff_eq.2 h3
            have HFIN : Aside0 ((decide (-1 < x) && (decide (x < (n : Int)) && (decide (x ≠ (i : Int)) && goNeeds n i x (ns.drop (k + 1))))) = false) := ⟨by rw [decide_eq_false (p := x ≠ (i : Int)) (by omega)]; simp⟩
            clear h1 h2 h3
            go_wp2
            go_quiet (fail)
            go_wp2
            go_ret
            rw [HG.out, HFIN.out]
            exact ⟨rfl, bdn HBR.out⟩
          · have hd5 : (x == (i : Int)) = false := beq_eq_false_iff_ne.2 h3
            have HFIN : Aside0 ((decide (-1 < x) && (decide (x < (n : Int)) && (decide (x ≠ (i : Int)) && goNeeds n i x (ns.drop (k + 1))))) = goNeeds n i (lastOf ns (k + 1)) (ns.drop (k + 1))) := ⟨by rw [HL.out, decide_eq_true (p := x ≠ (i : Int)) h3, decide_eq_true (p := x < (n : Int)) (by omega), decide_eq_true (show -1 < x by omega)]; rfl⟩
            have HP : Aside0 (0 < k + 1 → 0 ≤ lastOf ns (k + 1)) := ⟨fun _ => by rw [HL.out]; omega⟩
            clear h1 h2 h3
            go_wp2
            go_quiet (fail)
            go_wp2
            go_roundw
            case rel => exact ⟨k + 1, hlt, by go_num, by rw [HG.out]; exact HFIN.out, HP.out, bdn HBR.out⟩
            case measure => simp [intOf]; omega
    · have hd6 : decide (0 < (k : Int)) = true := decide_eq_true (by omega)
      have hd6n : decide (0 < k) = true := decide_eq_true (by omega)
      obtain ⟨_, e, hy⟩ := int_at HK.out (i := k - 1) (by omega)
      cases e
      replace hy := cell_on HBR.out hy
      have hlast := lastOf_pos (by omega) hk
      have hp2 := hp (by omega)
      have hwk : wrap64 ((k : Int) - 1) = ((k - 1 : Nat) : Int) := by unfold wrap64; omega
      have hkl : k - 1 < ns.length := by omega
      rw [hlast] at HG hp2
      clear hl0 hp hlast hdrop
      generalize ns[k] = x at *
      generalize ns[k - 1] = y at *
      by_cases h1 : x < 0
      · have hd3 : decide (x < 0) = true := decide_eq_true h1
        have HFIN : Aside0 ((decide (y < x) && (decide (x < (n : Int)) && (decide (x ≠ (i : Int)) && goNeeds n i x (ns.drop (k + 1))))) = false) := ⟨by rw [decide_eq_false (by omega)]; rfl⟩
        clear h1
        go_wp2
        go_quiet (fail)
        go_wp2
        go_ret
        rw [HG.out, HFIN.out]
        exact ⟨rfl, bdn HBR.out⟩
      · have hd3 : decide (x < 0) = false := decide_eq_false h1
        by_cases h2 : (n : Int) ≤ x
        · have hd4 : decide ((n : Int) ≤ x) = true := decide_eq_true h2
          have HFIN : Aside0 ((decide (y < x) && (decide (x < (n : Int)) && (decide (x ≠ (i : Int)) && goNeeds n i x (ns.drop (k + 1))))) = false) := ⟨by rw [decide_eq_false (p := x < (n : Int)) (by omega)]; simp⟩
          clear h1 h2
          go_wp2
          go_quiet (fail)
          go_wp2
          go_ret
          rw [HG.out, HFIN.out]
          exact ⟨rfl, bdn HBR.out⟩
        · have hd4 : decide ((n : Int) ≤ x) = false := decide_eq_false h2
          by_cases h3 : x = (i : Int)
          · have hd5 : (x == (i : Int)) = true := beq_iff_eq.2 h3
            have HFIN : Aside0 ((decide (y < x) && (decide (x < (n : Int)) && (decide (x ≠ (i : Int)) && goNeeds n i x (ns.drop (k + 1))))) = false) := ⟨by rw [decide_eq_false (p := x ≠ (i : Int)) (by omega)]; simp⟩
            clear h1 h2 h3
            go_wp2
            go_quiet (fail)
            go_wp2
            go_ret
            rw [HG.out, HFIN.out]
            exact ⟨rfl, bdn HBR.out⟩
          · have hd5 : (x == (i : Int)) = false := beq_eq_false_iff_ne.2 h3
            by_cases h4 : x ≤ y
            · have hd7 : decide (x ≤ y) = true := decide_eq_true h4
              have HFIN : Aside0 ((decide (y < x) && (decide (x < (n : Int)) && (decide (x ≠ (i : Int)) && goNeeds n i x (ns.drop (k + 1))))) = false) := ⟨by rw [decide_eq_false (p := y < x) (by omega)]; rfl⟩
              clear h1 h2 h3 h4
              go_wp2
              go_quiet (fail)
              go_wp2
              go_ret
              rw [HG.out, HFIN.out]
              exact ⟨rfl, bdn HBR.out⟩
            · have hd7 : decide (x ≤ y) = false := decide_eq_false h4
              have HFIN : Aside0 ((decide (y < x) && (decide (x < (n : Int)) && (decide (x ≠ (i : Int)) && goNeeds n i x (ns.drop (k + 1))))) = goNeeds n i (lastOf ns (k + 1)) (ns.drop (k + 1))) := ⟨by rw [HL.out, decide_eq_true (p := x ≠ (i : Int)) h3, decide_eq_true (p := x < (n : Int)) (by omega), decide_eq_true (show y < x by omega)]; rfl⟩
              have HP : Aside0 (0 < k + 1 → 0 ≤ lastOf ns (k + 1)) := ⟨fun _ => by rw [HL.out]; omega⟩
              clear h1 h2 h3 h4
              go_wp2
              go_quiet (fail)
              go_wp2
              go_roundw
              case rel => exact ⟨k + 1, hlt, by go_num, by rw [HG.out]; exact HFIN.out, HP.out, bdn HBR.out⟩
              case measure => simp [intOf]; omega
  · have hi' : k = ns.length := by omega
    have hd2 : decide ((k : Int) < (ns.length : Int)) = false := decide_eq_false (by omega)
    go_wp2
    go_ret
    rw [HG.out, hi', List.drop_length]
    exact ⟨rfl, HBR.out⟩
end Go.Proofs.YtgjddnaidjbhlaaGreatDoor.Pl

/- odysseyref11.alone: the walk, by hand. -/
namespace Go.Proofs.YtgjddnaidjbhlaaGreatDoor.Pl
open Go.RowKit Go.IntWalk Go.Proofs.YtgjddnaidjbhlaaGreatDoorW.PrintWords Go.Proofs.YtgjddnaidjbhlaaGreatDoor.PlName

set_option maxHeartbeats 8000000 in
set_option maxRecDepth 100000 in
theorem aloneR_calls (nm : ByteArray) (l : List Step) (A : Option Addr) (c : Nat) (i : Nat) (s : Step) (w : World) (hi : l[i]? = some s) (hS : StepsAt w A l) (hb : StepB s) (hn : l.length ≤ 8) (hc : l.length ≤ c) :
 Calls Tryz.prog 50 #[.agg #[.string nm, .slice A l.length c], .int .i64 (i : Int)] w fun e w' => e = .returned (.int .i64 (aloneE l i s)) ∧ Below w.heap.size w w' := by
 obtain ⟨ad, rfl, A1, c1, A2, c2, h1⟩ := hS.one hi
 have hil : i < l.length := (List.getElem?_eq_some_iff.1 hi).1
 have hse : stepAt l i = s := by
  have := stepAt_eq hil
  rw [hi] at this
  exact (Option.some.inj this).symm
 have hbb := below_one w (.cells #[.string nm, .slice (some ad) l.length c] 24)
 obtain ⟨hq0, hq1, hq2, hq3, hq4, _, _, _, _⟩ := h1.below hbb
 have HW := Aside0.mk (Alo.start w nm (.slice (some ad) l.length c) s (.slice A1 s.keys.length c1) (.slice A2 s.needs.length c2))
 have HC53 : Aside0 (∀ W, Calls Tryz.prog 34 #[.string s.name] W fun e w' => e = .returned (.bool (Nm.isName s.name)) ∧ Below W.heap.size W w') := ⟨fun W => isR_calls _ W (by have := hb.1; omega)⟩
 have HC69 : Aside0 (∀ W, Below w.heap.size w W → Calls Tryz.prog 106 #[.agg #[.string nm, .slice (some ad) l.length c], .int .i64 (i : Int)] W fun e w' => e = .returned (.bool (twice l i s)) ∧ Below W.heap.size W w') :=
  ⟨fun W hW => by have := twiceR_calls nm l ad c i W (hS.below hW) hil hn; rw [hse] at this; exact this⟩
 have HC71 : Aside0 (∀ W, Below w.heap.size w W → Calls Tryz.prog 107 #[.agg #[.string s.name, .int .i64 s.kind, .int .i64 s.part, .slice A1 s.keys.length c1, .slice A2 s.needs.length c2]] W fun e w' => e = .returned (.bool (keysOk s)) ∧ Below W.heap.size W w') :=
  ⟨fun W hW => keysR_calls s A1 c1 _ s.needs.length c2 A2 W rfl (Kd.C_below h1.keys hW) hb.2.2.2.1.1 hb.2.2.2.1.2⟩
 have HC72 : Aside0 (∀ W, Below w.heap.size w W → Calls Tryz.prog 108 #[.slice A2 s.needs.length c2, .int .i64 (i : Int), .int .i64 (l.length : Int)] W fun e w' => e = .returned (.bool (needsOk l.length i s.needs)) ∧ Below W.heap.size W w') :=
  ⟨fun W hW => needsR_calls A2 c2 s.needs l.length i W (Kd.C_below h1.needs hW) hb.2.2.2.2.2 hn hil⟩
 have HF := Aside0.mk (aloneE_B l i s)
 have hpe : decide (3 < s.part) = decide (4 ≤ s.part) := decide_eq_decide.2 (by omega)
 clear h1 hS hb hbb hi hse
 generalize aloneE l i s = r at *
 generalize Nm.isName s.name = bn at *
 generalize twice l i s = bt at *
 generalize keysOk s = bk at *
 generalize needsOk l.length i s.needs = bd at *
 generalize hd1 : decide (s.kind < 1) = b1 at *
 generalize hd2 : decide (3 < s.kind) = b2 at *
 generalize hd3 : decide (s.part < 0) = b3 at *
 generalize hd4 : decide (4 ≤ s.part) = b4 at *
 go_enter Tryz.func50, Tryz.ntmps50
 rcases alone_ways bn bt b1 b2 b3 b4 bk bd with rfl | ⟨rfl, rfl⟩ | ⟨rfl, rfl, rfl⟩ | ⟨rfl, rfl, rfl, rfl⟩ | ⟨rfl, rfl, rfl, rfl, rfl⟩ | ⟨rfl, rfl, rfl, rfl, rfl, rfl⟩ | ⟨rfl, rfl, rfl, rfl, rfl, rfl, rfl⟩ | ⟨rfl, rfl, rfl, rfl, rfl, rfl, rfl, rfl⟩ | ⟨rfl, rfl, rfl, rfl, rfl, rfl, rfl, rfl⟩
 all_goals
  go_wp2_with (first | (go_at_call 34; refine (HC53.out _).mono ?_; rintro e w3 ⟨rfl, hb3⟩; have H3 := Aside0.mk (HW.out.on hb3); clear hb3; obtain ⟨a30, a31, a32, a33, a34, d30, d31⟩ := H3.out.cells) | (go_at_call 106; refine (HC69.out _ H3.out.below).mono ?_; rintro e w4 ⟨rfl, hb4⟩; have H4 := Aside0.mk (H3.out.on hb4); clear hb4; obtain ⟨a40, a41, a42, a43, a44, d40, d41⟩ := H4.out.cells) | (go_at_call 107; refine (HC71.out _ H4.out.below).mono ?_; rintro e w5 ⟨rfl, hb5⟩; have H5 := Aside0.mk (H4.out.on hb5); clear hb5; obtain ⟨a50, a51, a52, a53, a54, d50, d51⟩ := H5.out.cells) | (go_at_call 108; refine (HC72.out _ H5.out.below).mono ?_; rintro e w6 ⟨rfl, hb6⟩; have H6 := Aside0.mk (H5.out.on hb6); clear hb6; obtain ⟨a60, a61, a62, a63, a64, d60, d61⟩ := H6.out.cells))
  go_ret
  rw [HF.out]
  exact ⟨rfl, H6.out.below⟩

/-- Orders, over a step of which something is so. -/
theorem any_take {α : Type} {p : α → Bool} {l : List α} {k : Nat} (h : ∀ j (hj : j < k) (hl : j < l.length), p l[j] = false) (hk : l.length ≤ k) : l.any p = false := by
 rw [List.any_eq_false]
 intro x hx
 obtain ⟨j, hj, e⟩ := List.getElem_of_mem hx
 rw [← e, h j (by omega) hj]
 simp
theorem any_hit {α : Type} {p : α → Bool} {l : List α} {k : Nat} (hk : k < l.length) (h : p l[k] = true) : l.any p = true := by
 rw [List.any_eq_true]
 exact ⟨_, List.getElem_mem hk, h⟩
end Go.Proofs.YtgjddnaidjbhlaaGreatDoor.Pl

/- odysseyref11.order: the walk, by hand. -/
namespace Go.Proofs.YtgjddnaidjbhlaaGreatDoor.Pl
open Go.RowKit Go.IntWalk Go.Proofs.YtgjddnaidjbhlaaGreatDoorW.PrintWords Go.Proofs.YtgjddnaidjbhlaaGreatDoorW.PrintLast Go.Proofs.YtgjddnaidjbhlaaGreatDoorW.PrintMore Go.Proofs.YtgjddnaidjbhlaaGreatDoor.PlName

set_option maxHeartbeats 8000000 in
set_option maxRecDepth 100000 in
theorem orderR_calls (nm : ByteArray) (l : List Step) (ad : Addr) (c : Nat) (i : Nat) (w : World) (hS : StepsAt w (some ad) l) (hi : i < l.length) (hin : Within l (stepAt l i) ∧ (stepAt l i).needs.length ≤ 8) :
 Calls Tryz.prog 109 #[.agg #[.string nm, .slice (some ad) l.length c], .int .i64 (i : Int)] w fun e w' => e = .returned (.bool (ordersBad l i)) ∧ Below w.heap.size w w' := by
 obtain ⟨_, e1, A1, c1, A2, c2, h1⟩ := hS.one (stepAt_eq hi)
 cases e1
 have hbb := below_one w (.cells #[.string nm, .slice (some ad) l.length c] 24)
 obtain ⟨hq0, hq1, hq2, hq3, hq4, _, _, _, _⟩ := h1.below hbb
 have HW := Aside0.mk (Alo.start w nm (.slice (some ad) l.length c) (stepAt l i) (.slice A1 (stepAt l i).keys.length c1) (.slice A2 (stepAt l i).needs.length c2))
 have HA := Aside0.mk (And.intro hS (And.intro h1.needs hin.1))
 have hn8 := hin.2
 have HF : Aside0 (ordersBad l i = ((stepAt l i).kind != 3 && (stepAt l i).needs.any fun x => (stepAt l x.toNat).kind != 1)) := ⟨rfl⟩
 clear h1 hbb hin hS
 generalize ordersBad l i = rr at *
 generalize stepAt l i = s at *
 go_enter Tryz.func109, Tryz.ntmps109
 cases hk3 : (s.kind != 3)
 · rw [hk3, Bool.false_and] at HF
   go_wp2
   generalize hW : World.alloc (World.alloc w _) _ = w0 at *
   obtain ⟨a0, a1, a2, a3, a4, d0, d1⟩ := HW.out.cells
   go_loopw [6] (fun v6 wr => v6 = .int .i64 0 ∧ wr = w0) (fun _ _ => 0)
   case atStart => exact ⟨rfl, rfl⟩
   case round =>
    obtain ⟨rfl, rfl⟩ := hrel
    by_cases hl : s.needs.length = 0
    · have hd : decide (0 < (s.needs.length : Int)) = false := decide_eq_false (by omega)
      have hdn : decide (0 < s.needs.length) = false := decide_eq_false (by omega)
      clear hl
      go_wp2
      go_ret
      rw [HF.out]
      exact ⟨rfl, HW.out.below⟩
    · have hd : decide (0 < (s.needs.length : Int)) = true := decide_eq_true (by omega)
      have hdn : decide (0 < s.needs.length) = true := decide_eq_true (by omega)
      clear hl
      go_wp2
      go_ret
      rw [HF.out]
      exact ⟨rfl, HW.out.below⟩
 · rw [hk3, Bool.true_and] at HF
   go_wp2
   generalize hW : World.alloc (World.alloc w _) _ = w0 at *
   clear hq0 hq1 hq2 hq3 hq4
   go_loopw [6] (fun v6 wr => ∃ k : Nat, k ≤ s.needs.length ∧ v6 = .int .i64 (k : Int) ∧ (∀ j (hj : j < k) (hl : j < s.needs.length), ((stepAt l s.needs[j].toNat).kind != 1) = false) ∧ Alo w wr nm (.slice (some ad) l.length c) s (.slice A1 s.keys.length c1) (.slice A2 s.needs.length c2)) (fun v6 _ => s.needs.length - (intOf v6).toNat)
   case atStart => exact ⟨0, Nat.zero_le _, rfl, fun j hj => absurd hj (Nat.not_lt_zero _), HW.out⟩
   case round =>
    obtain ⟨k, hk, rfl, hal, hA⟩ := hrel
    have HG := Aside0.mk (And.intro hal hA)
    obtain ⟨a0, a1, a2, a3, a4, d0, d1⟩ := hA.cells
    clear hal hA
    by_cases hlt : k < s.needs.length
    · have hd2 : decide ((k : Int) < (s.needs.length : Int)) = true := decide_eq_true (by omega)
      obtain ⟨an, rfl, hx⟩ := int_at HA.out.2.1 hlt
      replace hx := cell_on HG.out.2.below hx
      obtain ⟨hx0, hx1⟩ := HA.out.2.2 _ (List.getElem_mem hlt)
      obtain ⟨m, hm⟩ : ∃ m : Nat, s.needs[k] = (m : Int) := ⟨s.needs[k].toNat, by omega⟩
      have hml : m < l.length := by omega
      rw [hm] at hx
      have hms : stepAt l s.needs[k].toNat = stepAt l m := by rw [hm]; rfl
      have HMS := Aside0.mk hms
      clear hx0 hx1 hms
      obtain ⟨_, e1, B1, b1, B2, b2, h2⟩ := HA.out.1.one (stepAt_eq hml)
      cases e1
      have hkd := (h2.below HG.out.2.below).c1_
      have HM := Aside0.mk hm
      clear h2 hm
      cases hbad : ((stepAt l m).kind != 1)
      · go_wp2
        go_quiet (fail)
        go_wp2
        go_roundw
        case rel =>
         refine ⟨k + 1, hlt, by go_num, fun j hj hl => ?_, HG.out.2.on (bdn (Below.refl _ _))⟩
         rcases Nat.lt_succ_iff_lt_or_eq.1 hj with h | h
         · exact HG.out.1 j h hl
         · subst h
           rw [HMS.out]
           exact hbad
        case measure => simp [intOf]; omega
      · have HX : Aside0 (rr = true) := ⟨by rw [HF.out]; exact any_hit hlt (by rw [HMS.out]; exact hbad)⟩
        go_wp2
        go_quiet (fail)
        go_wp2
        go_ret
        rw [HX.out]
        exact ⟨rfl, bdn HG.out.2.below⟩
    · have hd2 : decide ((k : Int) < (s.needs.length : Int)) = false := decide_eq_false (by omega)
      have HX : Aside0 (rr = false) := ⟨by rw [HF.out]; exact any_take HG.out.1 (by omega)⟩
      go_wp2
      go_ret
      rw [HX.out]
      exact ⟨rfl, HG.out.2.below⟩
end Go.Proofs.YtgjddnaidjbhlaaGreatDoor.Pl

/- odysseyref11.ring: the walk, by hand. -/
namespace Go.Proofs.YtgjddnaidjbhlaaGreatDoor.Pl
open Go.RowKit Go.IntWalk Go.Proofs.YtgjddnaidjbhlaaGreatDoorW.PrintWords Go.Proofs.YtgjddnaidjbhlaaGreatDoor.PlName

/-- What has been met so far: nothing but what is reached. -/
def Sound (l : List Step) (i : Nat) (f : Nat → Bool) : Prop := ∀ x, x < l.length → f x = true → Reach l i x
def Init (l : List Step) (i : Nat) (f : Nat → Bool) : Prop := ∀ x : Nat, (x : Int) ∈ (stepAt l i).needs → f x = true
def Closed (l : List Step) (f : Nat → Bool) : Prop := ∀ k, k < l.length → f k = true → ∀ x : Nat, (x : Int) ∈ (stepAt l k).needs → f x = true
theorem reach_snoc {l : List Step} {i k x : Nat} (h : Reach l i k) (hx : (x : Int) ∈ (stepAt l k).needs) : Reach l i x := by
 induction h with
 | one h => exact .more h (.one hx)
 | more h _ ih => exact .more h (ih hx)
theorem closed_all {l : List Step} {f : Nat → Bool} (hin : ∀ k, k < l.length → Within l (stepAt l k)) (hc : Closed l f) {k x : Nat} (h : Reach l k x) : k < l.length → f k = true → f x = true := by
 induction h with
 | one h => exact fun hk hf => hc _ hk hf _ h
 | more h _ ih =>
  intro hk hf
  have := hin _ hk _ h
  exact ih (by omega) (hc _ hk hf _ h)
theorem ring_answer {l : List Step} {f : Nat → Bool} {i : Nat} (hin : ∀ k, k < l.length → Within l (stepAt l k)) (hi : i < l.length) (hs : Sound l i f) (h0 : Init l i f) (hc : Closed l f) : f i = ringAt l i := by
 refine (ringAt_eq (b := f i) ⟨fun h => hs i hi h, fun h => ?_⟩).symm
 cases h with
 | one h => exact h0 _ h
 | more h h2 =>
  have := hin _ hi _ h
  exact closed_all hin hc h2 (by omega) (h0 _ h)
/-- A round, in its middle. -/
structure Mid (l : List Step) (i : Nat) (f g : Nat → Bool) (k : Nat) : Prop where
 sound : Sound l i g
 le : ∀ x, x < l.length → f x = true → g x = true
 hit : ∀ q, q < k → q < l.length → f q = true → ∀ x : Nat, (x : Int) ∈ (stepAt l q).needs → g x = true
 same : Closed l f → ∀ x, x < l.length → g x = f x
theorem mid_start {l : List Step} {i : Nat} {f : Nat → Bool} (hs : Sound l i f) : Mid l i f f 0 := ⟨hs, fun _ _ h => h, fun q hq => absurd hq (Nat.not_lt_zero _), fun _ _ _ => rfl⟩
theorem mid_end {l : List Step} {i r : Nat} {f g : Nat → Bool} (hin : ∀ k, k < l.length → Within l (stepAt l k)) (h : Mid l i f g l.length) (hf : Closed l f ∨ r ≤ cnt f l.length) (h0 : Init l i f) (hi : i < l.length) : Sound l i g ∧ Init l i g ∧ (Closed l g ∨ r + 1 ≤ cnt g l.length) := by
 refine ⟨h.sound, fun x hx => ?_, ?_⟩
 · have := hin _ hi _ hx
   exact h.le x (by omega) (h0 x hx)
 · by_cases hc : Closed l f
   · left
     intro k hk hg x hx
     have := hin _ hk _ hx
     rw [h.same hc k hk] at hg
     rw [h.same hc x (by omega)]
     exact hc k hk hg x hx
   · right
     rcases hf with hf | hf
     · exact absurd hf hc
     · have h2 : ∃ k x : Nat, k < l.length ∧ f k = true ∧ (x : Int) ∈ (stepAt l k).needs ∧ f x = false := by
        apply Classical.byContradiction
        intro hno
        apply hc
        intro k hk hfk x hx
        cases hfx : f x
        · exact absurd ⟨k, x, hk, hfk, hx, hfx⟩ hno
        · rfl
       obtain ⟨k, x, hk, hfk, hx, hfx⟩ := h2
       have h3 := hin _ hk _ hx
       have := cnt_lt (f := f) (g := g) (k := x) (n := l.length) h.le (by omega) (h.hit k hk hk hfk x hx) hfx
       omega
theorem mid_skip {l : List Step} {i k : Nat} {f g : Nat → Bool} (h : Mid l i f g k) (hk : g k = false) : Mid l i f g (k + 1) := by
 refine ⟨h.sound, h.le, fun q hq hl hf x hx => ?_, h.same⟩
 rcases Nat.lt_succ_iff_lt_or_eq.1 hq with h2 | h2
 · exact h.hit q h2 hl hf x hx
 · subst h2
   rw [h.le q hl hf] at hk
   cases hk
/-- A step's needs, so far. -/
structure Low (l : List Step) (i : Nat) (f g g2 : Nat → Bool) (k j : Nat) : Prop where
 mid : Mid l i f g2 k
 le : ∀ x, x < l.length → g x = true → g2 x = true
 hit : ∀ q (hq : q < j) (hl : q < (stepAt l k).needs.length), g2 (stepAt l k).needs[q].toNat = true
theorem low_step {l : List Step} {i k j m : Nat} {f g g2 : Nat → Bool} (hk : k < l.length) (h : Low l i f g g2 k j) (hgk : g k = true) (hj : j < (stepAt l k).needs.length) (hm : (stepAt l k).needs[j] = (m : Int)) (hml : m < l.length) : Low l i f g (upd g2 m true) k (j + 1) := by
 have hmem : (m : Int) ∈ (stepAt l k).needs := hm ▸ List.getElem_mem hj
 have up : ∀ x, g2 x = true → upd g2 m true x = true := fun x hx => by
  unfold upd
  split
  · rfl
  · exact hx
 refine ⟨⟨fun x hx h2 => ?_, fun x hx h2 => up x (h.mid.le x hx h2), fun q hq hl hf x hx => up x (h.mid.hit q hq hl hf x hx), fun hc x hx => ?_⟩, fun x hx h2 => up x (h.le x hx h2), fun q hq hl => ?_⟩
 · unfold upd at h2
   split at h2
   · rename_i e
     subst e
     exact reach_snoc (h.mid.sound k hk (h.le k hk hgk)) hmem
   · exact h.mid.sound x hx h2
 · unfold upd
   split
   · rename_i e
     subst e
     have h3 := h.mid.same hc k hk
     rw [h.le k hk hgk] at h3
     exact (hc k hk h3.symm x hmem).symm
   · exact h.mid.same hc x hx
 · rcases Nat.lt_succ_iff_lt_or_eq.1 hq with h2 | h2
   · exact up _ (h.hit q h2 hl)
   · subst h2
     rw [hm]
     unfold upd
     simp
theorem low_end {l : List Step} {i k : Nat} {f g g2 : Nat → Bool} (h : Low l i f g g2 k (stepAt l k).needs.length) : Mid l i f g2 (k + 1) := by
 refine ⟨h.mid.sound, h.mid.le, fun q hq hl hf x hx => ?_, h.mid.same⟩
 rcases Nat.lt_succ_iff_lt_or_eq.1 hq with h2 | h2
 · exact h.mid.hit q h2 hl hf x hx
 · subst h2
   obtain ⟨j, hj, e⟩ := List.getElem_of_mem hx
   have := h.hit j hj hj
   rw [e] at this
   exact this
/-- The worlds of ring. -/
structure Rn (w wr : World) (nm : ByteArray) (l : List Step) (ad : Addr) (c : Nat) (f : Nat → Bool) : Prop where
 below : Below w.heap.size w wr
 box : wr.heap[w.heap.size]? = some (.cells #[.string nm, .slice (some ad) l.length c] 24 (0, 0))
 row : wr.heap[w.heap.size + 1]? = some (.cells (rowA f l.length) 4 (0, 0))
theorem Rn.set {w wr : World} {nm : ByteArray} {l : List Step} {ad : Addr} {c : Nat} {f : Nat → Bool} (h : Rn w wr nm l ad c f) (m : Nat) : Rn w (wr.setCell ⟨w.heap.size + 1, m, none⟩ (.bool true)) nm l ad c (upd f m true) :=
 ⟨h.below.setCell (p := ⟨w.heap.size + 1, m, none⟩) (Nat.le_succ _) _, row_setCell_ne h.box _ _ (Nat.ne_of_lt (Nat.lt_succ_self _)), by rw [row_setCell h.row, rowA_set]⟩
theorem Rn.congr {w wr : World} {nm : ByteArray} {l : List Step} {ad : Addr} {c : Nat} {f g : Nat → Bool} (h : Rn w wr nm l ad c f) (he : ∀ x, x < l.length → f x = g x) : Rn w wr nm l ad c g := ⟨h.below, h.box, by rw [h.row, rowA_congr he]⟩

set_option maxHeartbeats 16000000 in
set_option maxRecDepth 100000 in
theorem ringR_calls (nm : ByteArray) (l : List Step) (ad : Addr) (c : Nat) (i : Nat) (w : World) (hS : StepsAt w (some ad) l) (hi : i < l.length) (hl8 : l.length ≤ 8) (hin : ∀ k, k < l.length → Within l (stepAt l k) ∧ (stepAt l k).needs.length ≤ 8) :
 Calls Tryz.prog 110 #[.agg #[.string nm, .slice (some ad) l.length c], .int .i64 (i : Int)] w fun e w' => e = .returned (.bool (ringAt l i)) ∧ Below w.heap.size w w' := by
 have hbb := below_one w (.cells #[.string nm, .slice (some ad) l.length c] 24)
 have hr0 := alloc1 w (.cells #[.string nm, .slice (some ad) l.length c] 24)
 have hq1 := row_cell (j := 1) hr0 rfl
 have hsz : (w.alloc (.cells #[.string nm, .slice (some ad) l.length c] 24)).heap.size = w.heap.size + 1 := by
  show (w.heap.push _).size = _
  simp
 have HW := Aside0.mk (And.intro hbb (And.intro hr0 hsz))
 have HA := Aside0.mk (And.intro hS hin)
 have hlow : w.heap.size ≤ (w.alloc (.cells #[.string nm, .slice (some ad) l.length c] 24)).heap.size := hbb.size
 obtain ⟨i4, hi4, hz4, hs4, hb4⟩ := info_parts bool_info
 have HI := Aside0.mk (And.intro hi4 (And.intro hz4 (And.intro hs4 hb4)))
 clear hbb hr0 hS hin hi4 hz4 hs4 hb4 hsz
 go_enter Tryz.func110, Tryz.ntmps110
 go_wp2_with (first | (at_make; refine wpList_make_full _ rfl (.tmp 12) (.tmp 12) 113 rfl w.heap.size 4 i4 (.bool false) 1 Tryz.underlying113 HI.out.1 HI.out.2.1 HI.out.2.2.1 .i64 .i64 _ _ l.length rfl rfl rfl rfl (by rw [HI.out.2.2.2]; omega) (by unfold maxLen; omega) hlow ?_; intro w3 hown3 hgr3; have HM := Aside0.mk (And.intro hown3 (below_grown (B := (w.alloc (.cells #[.string nm, .slice (some ad) l.length c] 24)).heap.size) hgr3 (Nat.le_refl _) (fun k h => by cases h))); clear hown3 hgr3))
 have HR0 : Aside0 (Rn w w3 nm l ad c (fun _ => false)) := by
  have h1 := HM.out.1
  rw [show (Value.bool false).cells = #[.bool false] from rfl, toList_madeCells_one, Nat.mul_one] at h1
  have h2 := made_row h1 rfl
  rw [HW.out.2.2] at h2
  exact ⟨⟨on_ HW.out.1 HM.out.2, row_on HM.out.2 HW.out.2.1, h2⟩⟩
 clear hq1 hlow
 go_loopw [6] (fun v6 wr => ∃ (k : Nat) (f : Nat → Bool), k ≤ (stepAt l i).needs.length ∧ v6 = .int .i64 (k : Int) ∧ Sound l i f ∧ (∀ j (hj : j < k) (hl : j < (stepAt l i).needs.length), f (stepAt l i).needs[j].toNat = true) ∧ Rn w wr nm l ad c f) (fun v6 _ => (stepAt l i).needs.length - (intOf v6).toNat)
 case atStart => exact ⟨0, _, Nat.zero_le _, rfl, fun x _ h => (by cases h), fun j hj => absurd hj (Nat.not_lt_zero _), HR0.out⟩
 case round =>
  obtain ⟨k, f, hk, rfl, hs, hh, hR⟩ := hrel
  have HG := Aside0.mk (And.intro hs (And.intro hh hR))
  have hq1 := row_cell (j := 1) hR.box rfl
  obtain ⟨_, e1, A1, c1, A2, c2, h1⟩ := HA.out.1.one (stepAt_eq hi)
  cases e1
  have h1b := h1.below hR.below
  have hc4 := h1b.c4
  have hnd := Aside0.mk h1b.needs
  have hlt8 := (HA.out.2 i hi).2
  clear hs hh hR h1 h1b
  by_cases hlt : k < (stepAt l i).needs.length
  · have hd2 : decide ((k : Int) < ((stepAt l i).needs.length : Int)) = true := decide_eq_true (by omega)
    obtain ⟨an, rfl, hx⟩ := int_at hnd.out hlt
    obtain ⟨hx0, hx1⟩ := (HA.out.2 i hi).1 _ (List.getElem_mem hlt)
    obtain ⟨m, hm⟩ : ∃ m : Nat, (stepAt l i).needs[k] = (m : Int) := ⟨(stepAt l i).needs[k].toNat, by omega⟩
    have hml : m < l.length := by omega
    rw [hm] at hx
    have hmq := row_cell (j := m) HG.out.2.2.row (rowA_at hml)
    have hmf := free_of_row (j := m) HG.out.2.2.row
    have HM2 := Aside0.mk hm
    have hmem : (m : Int) ∈ (stepAt l i).needs := hm ▸ List.getElem_mem hlt
    have HMEM := Aside0.mk hmem
    clear hx0 hx1 hm hmem
    go_wp2
    go_roundw
    case rel =>
     refine ⟨k + 1, _, hlt, by go_num, fun x hx h2 => ?_, fun j hj hl => ?_, HG.out.2.2.set m⟩
     · unfold upd at h2
       split at h2
       · rename_i e
         subst e
         exact .one HMEM.out
       · exact HG.out.1 x hx h2
     · rcases Nat.lt_succ_iff_lt_or_eq.1 hj with h | h
       · have := HG.out.2.1 j h hl
         unfold upd
         split
         · rfl
         · exact this
       · subst h
         rw [HM2.out]
         unfold upd
         simp
    case measure => simp [intOf]; omega
  · have hd2 : decide ((k : Int) < ((stepAt l i).needs.length : Int)) = false := decide_eq_false (by omega)
    have H0 : Aside0 (Sound l i f ∧ Init l i f ∧ Rn w wr nm l ad c f) := ⟨HG.out.1, fun x hx => by
     obtain ⟨j, hj, e⟩ := List.getElem_of_mem hx
     have := HG.out.2.1 j (by omega) hj
     rw [e] at this
     exact this, HG.out.2.2⟩
    clear HG hnd
    go_wp2
    clear hc4 hq1
    go_loopw [7] (fun v7 wr => ∃ (r : Nat) (f : Nat → Bool), r ≤ l.length ∧ v7 = .int .i64 (r : Int) ∧ Sound l i f ∧ Init l i f ∧ (Closed l f ∨ r ≤ cnt f l.length) ∧ Rn w wr nm l ad c f) (fun v7 _ => l.length - (intOf v7).toNat)
    case atStart => exact ⟨0, _, Nat.zero_le _, rfl, H0.out.1, H0.out.2.1, .inr (Nat.zero_le _), H0.out.2.2⟩
    case round =>
     obtain ⟨r, f, hr, rfl, hs, h0, hc, hR⟩ := hrel
     have HG := Aside0.mk (And.intro hs (And.intro h0 (And.intro hc hR)))
     have hq1 := row_cell (j := 1) hR.box rfl
     clear hs h0 hc hR H0
     by_cases hlr : r < l.length
     · have hd3 : decide ((r : Int) < (l.length : Int)) = true := decide_eq_true (by omega)
       go_wp2
       clear hq1
       go_loopw [8] (fun v8 wr => ∃ (k : Nat) (g : Nat → Bool), k ≤ l.length ∧ v8 = .int .i64 (k : Int) ∧ Mid l i f g k ∧ Rn w wr nm l ad c g) (fun v8 _ => l.length - (intOf v8).toNat)
       case atStart => exact ⟨0, _, Nat.zero_le _, rfl, mid_start HG.out.1, HG.out.2.2.2⟩
       case round =>
        obtain ⟨k, g, hk, rfl, hm, hR⟩ := hrel
        have HM := Aside0.mk (And.intro hm hR)
        have hq1 := row_cell (j := 1) hR.box rfl
        clear hm hR
        by_cases hlk : k < l.length
        · have hd4 : decide ((k : Int) < (l.length : Int)) = true := decide_eq_true (by omega)
          obtain ⟨_, e1, A1, c1, A2, c2, h1⟩ := HA.out.1.one (stepAt_eq hlk)
          cases e1
          have HN := Aside0.mk h1.needs
          have hkr := row_cell (j := k) HM.out.2.row (rowA_at hlk)
          have h1b := h1.below HM.out.2.below
          have hc4 := h1b.c4
          have hlt8 := (HA.out.2 k hlk).2
          have HS1 := Aside0.mk h1
          clear h1 h1b
          cases hgk : g k
          · rw [hgk] at hkr
            go_wp2
            go_loopw [9] (fun v9 wq => v9 = .int .i64 0 ∧ wq = wr) (fun _ _ => 0)
            case atStart => exact ⟨rfl, rfl⟩
            case round =>
             obtain ⟨rfl, rfl⟩ := hrel
             by_cases hl : (stepAt l k).needs.length = 0
             · have hd : decide (0 < ((stepAt l k).needs.length : Int)) = false := decide_eq_false (by omega)
               have hdn : decide (0 < (stepAt l k).needs.length) = false := decide_eq_false (by omega)
               clear hl
               go_wp2
               go_roundw
               case rel => exact ⟨k + 1, g, hlk, by go_num, mid_skip HM.out.1 hgk, HM.out.2⟩
               case measure => simp [intOf]; omega
             · have hd : decide (0 < ((stepAt l k).needs.length : Int)) = true := decide_eq_true (by omega)
               have hdn : decide (0 < (stepAt l k).needs.length) = true := decide_eq_true (by omega)
               clear hl
               go_wp2
               go_roundw
               case rel => exact ⟨k + 1, g, hlk, by go_num, mid_skip HM.out.1 hgk, HM.out.2⟩
               case measure => simp [intOf]; omega
          · clear hkr hc4
            go_wp2
            clear hq1
            go_loopw [9] (fun v9 wq => ∃ (j : Nat) (g2 : Nat → Bool), j ≤ (stepAt l k).needs.length ∧ v9 = .int .i64 (j : Int) ∧ Low l i f g g2 k j ∧ Rn w wq nm l ad c g2) (fun v9 _ => (stepAt l k).needs.length - (intOf v9).toNat)
            case atStart => exact ⟨0, g, Nat.zero_le _, rfl, ⟨HM.out.1, fun _ _ h => h, fun q hq => absurd hq (Nat.not_lt_zero _)⟩, HM.out.2⟩
            case round =>
             obtain ⟨j, g2, hj, rfl, hlo, hR⟩ := hrel
             have HL := Aside0.mk (And.intro hlo hR)
             have hq1 := row_cell (j := 1) hR.box rfl
             have hc4 := (HS1.out.below hR.below).c4
             have hkr := row_cell (j := k) hR.row (rowA_at hlk)
             rw [hlo.le k hlk hgk] at hkr
             clear hlo hR
             by_cases hlt : j < (stepAt l k).needs.length
             · have hd2 : decide ((j : Int) < ((stepAt l k).needs.length : Int)) = true := decide_eq_true (by omega)
               obtain ⟨an, rfl, hx⟩ := int_at HN.out hlt
               replace hx := cell_on HL.out.2.below hx
               obtain ⟨hx0, hx1⟩ := (HA.out.2 k hlk).1 _ (List.getElem_mem hlt)
               obtain ⟨m, hm⟩ : ∃ m : Nat, (stepAt l k).needs[j] = (m : Int) := ⟨(stepAt l k).needs[j].toNat, by omega⟩
               have hml : m < l.length := by omega
               rw [hm] at hx
               have hmq := row_cell (j := m) HL.out.2.row (rowA_at hml)
               have hmf := free_of_row (j := m) HL.out.2.row
               have HM2 := Aside0.mk (And.intro (low_step hlk HL.out.1 hgk hlt hm hml) (HL.out.2.set m))
               clear hx0 hx1 hm
               go_wp2
               go_roundw
               case rel => exact ⟨j + 1, _, hlt, by go_num, HM2.out.1, HM2.out.2⟩
               case measure => simp [intOf]; omega
             · have hd2 : decide ((j : Int) < ((stepAt l k).needs.length : Int)) = false := decide_eq_false (by omega)
               have hj' : j = (stepAt l k).needs.length := by omega
               have HE : Aside0 (Mid l i f g2 (k + 1)) := ⟨low_end (by have := HL.out.1; rw [hj'] at this; exact this)⟩
               clear hj'
               go_wp2
               go_roundw
               case rel => exact ⟨k + 1, g2, hlk, by go_num, HE.out, HL.out.2⟩
               case measure => simp [intOf]; omega
        · have hk' : k = l.length := by omega
          subst hk'
          have hd4 : decide ((l.length : Int) < (l.length : Int)) = false := decide_eq_false (by omega)
          have HE := Aside0.mk (mid_end (r := r) (fun k hk => (HA.out.2 k hk).1) HM.out.1 HG.out.2.2.1 HG.out.2.1 hi)
          go_wp2
          go_roundw
          case rel => exact ⟨r + 1, g, hlr, by go_num, HE.out.1, HE.out.2.1, HE.out.2.2, HM.out.2⟩
          case measure => simp [intOf]; omega
     · have hr' : r = l.length := by omega
       subst hr'
       have hd3 : decide ((l.length : Int) < (l.length : Int)) = false := decide_eq_false (by omega)
       have hfi := row_cell (j := i) HG.out.2.2.2.row (rowA_at hi)
       have HE : Aside0 (f i = ringAt l i) := ⟨ring_answer (fun k hk => (HA.out.2 k hk).1) hi HG.out.1 HG.out.2.1 (by
        rcases HG.out.2.2.1 with h | h
        · exact h
        · have h2 := cnt_full (f := f) (n := l.length) (by have := cnt_le f l.length; omega)
          intro k hk _ x hx
          have := (HA.out.2 k hk).1 _ hx
          exact h2 x (by omega))⟩
       generalize f i = b at *
       go_wp2
       go_ret
       rw [← HE.out]
       exact ⟨rfl, HG.out.2.2.2.below⟩
end Go.Proofs.YtgjddnaidjbhlaaGreatDoor.Pl

/- odysseyref11.loose: the walk, by hand. -/
namespace Go.Proofs.YtgjddnaidjbhlaaGreatDoor.Pl
open Go.RowKit Go.IntWalk Go.Proofs.YtgjddnaidjbhlaaGreatDoorW.PrintWords Go.Proofs.YtgjddnaidjbhlaaGreatDoorW.PrintLast Go.Proofs.YtgjddnaidjbhlaaGreatDoorW.PrintMore Go.Proofs.YtgjddnaidjbhlaaGreatDoor.PlName

theorem beq_bytes {a b : ByteArray} (h : (a.toList == b.toList) = true) : a = b := by
 have h := beq_iff_eq.1 h
 rw [ByteArray.toList_eq, ByteArray.toList_eq] at h
 cases a; cases b
 exact congrArg ByteArray.mk (Array.toList_inj.1 h)
def hasK (ks : List ByteArray) (k : ByteArray) : Bool := ks.any fun x => x.toList == k.toList
theorem hasK_snoc (ks : List ByteArray) (x k : ByteArray) : hasK (ks ++ [x]) k = (hasK ks k || (x.toList == k.toList)) := by
 unfold hasK
 simp
theorem held_has (l : List Step) (k : ByteArray) : (heldF l k == 0) = !hasK (heldKeys l) k := by
 unfold heldF countK hasK
 cases h : (heldKeys l).any fun x => x.toList == k.toList
 · rw [List.any_eq_false] at h
   have : (heldKeys l).countP (fun x => decide (x = k)) = 0 := by
    rw [List.countP_eq_zero]
    intro x hx e
    have e := of_decide_eq_true e
    subst e
    exact h x hx (by simp)
   rw [this]
   rfl
 · rw [List.any_eq_true] at h
   obtain ⟨x, hx, e⟩ := h
   have e := beq_bytes e
   subst e
   have : 0 < (heldKeys l).countP (fun y => decide (y = x)) := List.countP_pos_iff.2 ⟨x, hx, by simp⟩
   simp only [Bool.not_true, beq_eq_false_iff_ne, ne_eq]
   omega
theorem lacks_kind {l : List Step} {i : Nat} (hi : i < l.length) (hk : (stepAt l i).kind ≠ 3) : lacksHeld l (heldF l) i = false := by
 unfold lacksHeld
 rw [List.any_eq_false]
 intro k hk2
 rw [held_has]
 have : hasK (heldKeys l) k = true := by
  unfold hasK
  rw [List.any_eq_true]
  refine ⟨k, ?_, by simp⟩
  unfold heldKeys
  rw [List.mem_flatMap]
  exact ⟨stepAt l i, List.mem_of_getElem? (stepAt_eq hi), by rw [if_neg hk]; exact hk2⟩
 rw [this]
 simp
theorem key_cell {w : World} {A : Option Addr} {l : List ByteArray} (h : Kd.C Kd.string w A l.length l) {i : Nat} (hlt : i < l.length) : ∃ ad, A = some ad ∧ w.cell? (ad.add i) = some (.string l[i]) := str_at h hlt

set_option maxHeartbeats 16000000 in
set_option maxRecDepth 100000 in
theorem looseR_calls (nm : ByteArray) (l : List Step) (ad : Addr) (c : Nat) (i : Nat) (w : World) (hS : StepsAt w (some ad) l) (hi : i < l.length) (hl8 : l.length ≤ 8) (hk2 : ∀ k, k < l.length → (stepAt l k).keys.length ≤ 2) :
 Calls Tryz.prog 111 #[.agg #[.string nm, .slice (some ad) l.length c], .int .i64 (i : Int)] w fun e w' => e = .returned (.bool (lacksHeld l (heldF l) i)) ∧ Below w.heap.size w w' := by
 have HB0 := Aside0.mk (And.intro (below_one w (.cells #[.string nm, .slice (some ad) l.length c] 24)) (alloc1 w (.cells #[.string nm, .slice (some ad) l.length c] 24)))
 have HA := Aside0.mk (And.intro hS hk2)
 obtain ⟨_, e1, A1, c1, A2, c2, h1⟩ := hS.one (stepAt_eq hi)
 cases e1
 have HS1 := Aside0.mk h1
 have hki := hk2 i hi
 have HLK := Aside0.mk (fun h => lacks_kind (l := l) hi h)
 have HF : Aside0 (lacksHeld l (heldF l) i = (stepAt l i).keys.any fun k => heldF l k == 0) := ⟨rfl⟩
 clear hS hk2 h1
 generalize lacksHeld l (heldF l) i = rr at *
 go_enter Tryz.func111, Tryz.ntmps111
 go_wp2
 generalize World.alloc w _ = w0 at *
 cases hk3 : ((stepAt l i).kind == 3)
 · have HX : Aside0 (rr = false) := ⟨HLK.out (beq_eq_false_iff_ne.1 hk3)⟩
   have hq1 := row_cell (j := 1) HB0.out.2 rfl
   have hs3 := (HS1.out.below HB0.out.1).c3
   have hs1 := (HS1.out.below HB0.out.1).c1_
   go_loopw [5] (fun v5 wq => v5 = .int .i64 0 ∧ wq = w0) (fun _ _ => 0)
   case atStart => exact ⟨rfl, rfl⟩
   case round =>
    obtain ⟨rfl, rfl⟩ := hrel
    by_cases hl : (stepAt l i).keys.length = 0
    · have hd : decide (0 < ((stepAt l i).keys.length : Int)) = false := decide_eq_false (by omega)
      have hdn : decide (0 < (stepAt l i).keys.length) = false := decide_eq_false (by omega)
      clear hl
      go_wp2
      go_ret
      rw [HX.out]
      exact ⟨rfl, HB0.out.1⟩
    · have hd : decide (0 < ((stepAt l i).keys.length : Int)) = true := decide_eq_true (by omega)
      have hdn : decide (0 < (stepAt l i).keys.length) = true := decide_eq_true (by omega)
      clear hl
      go_wp2
      go_ret
      rw [HX.out]
      exact ⟨rfl, HB0.out.1⟩
 · go_loopw [5] (fun v5 wr => ∃ k : Nat, k ≤ (stepAt l i).keys.length ∧ v5 = .int .i64 (k : Int) ∧ (∀ j (hj : j < k) (hl : j < (stepAt l i).keys.length), (heldF l (stepAt l i).keys[j] == 0) = false) ∧ Below w0.heap.size w0 wr) (fun v5 _ => (stepAt l i).keys.length - (intOf v5).toNat)
   case atStart => exact ⟨0, Nat.zero_le _, rfl, fun j hj => absurd hj (Nat.not_lt_zero _), Below.refl _ _⟩
   case round =>
    obtain ⟨k, hk, rfl, hal, hB⟩ := hrel
    have HG := Aside0.mk (And.intro hal (And.intro hB (on_ HB0.out.1 hB)))
    have hq1 := row_cell (j := 1) (row_on hB HB0.out.2) rfl
    have hs3 := (HS1.out.below (on_ HB0.out.1 hB)).c3
    have hs1 := (HS1.out.below (on_ HB0.out.1 hB)).c1_
    clear hal hB
    by_cases hlt : k < (stepAt l i).keys.length
    · have hd2 : decide ((k : Int) < ((stepAt l i).keys.length : Int)) = true := decide_eq_true (by omega)
      obtain ⟨ai, rfl, hkey⟩ := key_cell HS1.out.keys hlt
      have HKEY := Aside0.mk hkey
      have HHS := Aside0.mk (held_has l (stepAt l i).keys[k])
      have HAN : Aside0 ((heldF l (stepAt l i).keys[k] == 0) = true → rr = true) := ⟨fun h => by rw [HF.out]; exact any_hit hlt h⟩
      have HST : Aside0 ((heldF l (stepAt l i).keys[k] == 0) = false → ∀ j (hj : j < k + 1) (hl : j < (stepAt l i).keys.length), (heldF l (stepAt l i).keys[j] == 0) = false) := ⟨fun h j hj hl => by
       rcases Nat.lt_succ_iff_lt_or_eq.1 hj with h2 | h2
       · exact HG.out.1 j h2 hl
       · subst h2
         exact h⟩
      clear hkey
      generalize (stepAt l i).keys[k] = key at *
      go_wp2
      clear hq1 hs3 hs1
      go_loopw [6, 7] (fun v6 v7 wj => ∃ j : Nat, j ≤ l.length ∧ v7 = .int .i64 (j : Int) ∧ v6 = .bool (hasK (heldKeys (l.take j)) key) ∧ Below w0.heap.size w0 wj) (fun _ v7 _ => l.length - (intOf v7).toNat)
      case atStart => exact ⟨0, Nat.zero_le _, rfl, rfl, HG.out.2.1⟩
      case round =>
       obtain ⟨j, hj, rfl, rfl, hB⟩ := hrel
       have HJ := Aside0.mk (And.intro hB (on_ HB0.out.1 hB))
       have hq1 := row_cell (j := 1) (row_on hB HB0.out.2) rfl
       clear hB
       by_cases hlj : j < l.length
       · have hd3 : decide ((j : Int) < (l.length : Int)) = true := decide_eq_true (by omega)
         obtain ⟨_, e2, B1, b1_, B2, b2_, h2⟩ := HA.out.1.one (stepAt_eq hlj)
         cases e2
         have HS2 := Aside0.mk h2
         have hkj := HA.out.2 j hlj
         have HSN := Aside0.mk (heldKeys_snoc hlj)
         clear h2
         generalize hfb : hasK (heldKeys (l.take j)) key = fb at *
         replace hfb := Aside0.mk hfb
         cases hk4 : ((stepAt l j).kind != 3)
         · have hk4' : (stepAt l j).kind = 3 := bne_eq_false_iff_eq.1 hk4
           have HE : Aside0 (fb = hasK (heldKeys (l.take (j + 1))) key) := ⟨by rw [HSN.out, if_pos hk4', List.append_nil]; exact hfb.out.symm⟩
           have hs3 := (HS2.out.below HJ.out.2).c3
           have hs1 := (HS2.out.below HJ.out.2).c1_
           clear hk4'
           go_wp2
           go_loopw [6, 8] (fun v6 v8 wq => v8 = .int .i64 0 ∧ v6 = .bool fb ∧ wq = wr) (fun _ _ _ => 0)
           case atStart => exact ⟨rfl, rfl, rfl⟩
           case round =>
            obtain ⟨rfl, rfl, rfl⟩ := hrel
            by_cases hl : (stepAt l j).keys.length = 0
            · have hd : decide (0 < ((stepAt l j).keys.length : Int)) = false := decide_eq_false (by omega)
              have hdn : decide (0 < (stepAt l j).keys.length) = false := decide_eq_false (by omega)
              clear hl
              go_wp2
              go_roundw
              case rel => exact ⟨j + 1, hlj, by go_num, by rw [HE.out], HJ.out.1⟩
              case measure => simp [intOf]; omega
            · have hd : decide (0 < ((stepAt l j).keys.length : Int)) = true := decide_eq_true (by omega)
              have hdn : decide (0 < (stepAt l j).keys.length) = true := decide_eq_true (by omega)
              clear hl
              go_wp2
              go_roundw
              case rel => exact ⟨j + 1, hlj, by go_num, by rw [HE.out], HJ.out.1⟩
              case measure => simp [intOf]; omega
         · have hk4' : (stepAt l j).kind ≠ 3 := bne_iff_ne.1 hk4
           have HE : Aside0 (hasK (heldKeys (l.take j) ++ (stepAt l j).keys.take (stepAt l j).keys.length) key = hasK (heldKeys (l.take (j + 1))) key) := ⟨by rw [HSN.out, if_neg hk4', List.take_length]⟩
           clear hk4'
           go_wp2
           clear hq1
           go_loopw [6, 8] (fun v6 v8 wm => ∃ m : Nat, m ≤ (stepAt l j).keys.length ∧ v8 = .int .i64 (m : Int) ∧ v6 = .bool (hasK (heldKeys (l.take j) ++ (stepAt l j).keys.take m) key) ∧ Below w0.heap.size w0 wm) (fun _ v8 _ => (stepAt l j).keys.length - (intOf v8).toNat)
           case atStart => exact ⟨0, Nat.zero_le _, rfl, by rw [List.take_zero, List.append_nil, hfb.out], HJ.out.1⟩
           case round =>
            obtain ⟨m, hm, rfl, rfl, hB⟩ := hrel
            have HM := Aside0.mk (And.intro hB (on_ HB0.out.1 hB))
            have hq1 := row_cell (j := 1) (row_on hB HB0.out.2) rfl
            have hs3 := (HS2.out.below HM.out.2).c3
            have hs1 := (HS2.out.below HM.out.2).c1_
            clear hB
            by_cases hlm : m < (stepAt l j).keys.length
            · have hd4 : decide ((m : Int) < ((stepAt l j).keys.length : Int)) = true := decide_eq_true (by omega)
              obtain ⟨aj, rfl, hkj2⟩ := key_cell HS2.out.keys hlm
              replace hkj2 := cell_on HM.out.2 hkj2
              have hki3 := (HS1.out.below HM.out.2).c3
              have hkey := cell_on HM.out.2 HKEY.out
              have HSS : Aside0 (hasK (heldKeys (l.take j) ++ (stepAt l j).keys.take (m + 1)) key = (hasK (heldKeys (l.take j) ++ (stepAt l j).keys.take m) key || ((stepAt l j).keys[m].toList == key.toList))) := ⟨by rw [List.take_succ_eq_append_getElem hlm, ← List.append_assoc, hasK_snoc]⟩
              generalize (stepAt l j).keys[m] = kj at *
              generalize hasK (heldKeys (l.take j) ++ (stepAt l j).keys.take m) key = b0 at *
              cases b0
              · rw [Bool.false_or] at HSS
                generalize hkk : (kj.toList == key.toList) = b1 at *
                go_wp2
                go_quiet (fail)
                go_wp2
                go_roundw
                case rel => exact ⟨m + 1, hlm, by go_num, by rw [HSS.out], bdn HM.out.1⟩
                case measure => simp [intOf]; omega
              · rw [Bool.true_or] at HSS
                go_wp2
                go_quiet (fail)
                go_wp2
                go_roundw
                case rel => exact ⟨m + 1, hlm, by go_num, by rw [HSS.out], bdn HM.out.1⟩
                case measure => simp [intOf]; omega
            · have hd4 : decide ((m : Int) < ((stepAt l j).keys.length : Int)) = false := decide_eq_false (by omega)
              have hm' : m = (stepAt l j).keys.length := by omega
              have HE2 : Aside0 (hasK (heldKeys (l.take j) ++ (stepAt l j).keys.take m) key = hasK (heldKeys (l.take (j + 1))) key) := ⟨by rw [hm']; exact HE.out⟩
              clear hm'
              go_wp2
              go_roundw
              case rel => exact ⟨j + 1, hlj, by go_num, by rw [HE2.out], HM.out.1⟩
              case measure => simp [intOf]; omega
       · have hj' : j = l.length := by omega
         subst hj'
         have hd3 : decide ((l.length : Int) < (l.length : Int)) = false := decide_eq_false (by omega)
         have HT := Aside0.mk (List.take_length (l := l))
         rw [HT.out]
         generalize hfb : hasK (heldKeys l) key = fb at *
         cases fb
         · have HX := Aside0.mk (HAN.out (by rw [HHS.out]; rfl))
           go_wp2
           go_ret
           rw [HX.out]
           exact ⟨rfl, HJ.out.2⟩
         · go_wp2
           go_roundw
           case rel => exact ⟨k + 1, hlt, by go_num, HST.out (by rw [HHS.out]; rfl), HJ.out.1⟩
           case measure => simp [intOf]; omega
    · have hd2 : decide ((k : Int) < ((stepAt l i).keys.length : Int)) = false := decide_eq_false (by omega)
      have HX : Aside0 (rr = false) := ⟨by rw [HF.out]; exact any_take HG.out.1 (by omega)⟩
      go_wp2
      go_ret
      rw [HX.out]
      exact ⟨rfl, HG.out.2.2⟩
end Go.Proofs.YtgjddnaidjbhlaaGreatDoor.Pl

/- odysseyref11.together, Check: the walks, by hand. -/
namespace Go.Proofs.YtgjddnaidjbhlaaGreatDoor.Pl
open Go.RowKit Go.IntWalk Go.Proofs.YtgjddnaidjbhlaaGreatDoorW.PrintWords Go.Proofs.YtgjddnaidjbhlaaGreatDoor.PlName

theorem allOf_false {p : Nat → Bool} {n j : Nat} (hj : j < n) (h : p j = true) : allOf p n = false := by
 unfold allOf
 rw [Bool.not_eq_false', List.any_eq_true]
 exact ⟨j, List.mem_range'_1.2 ⟨by omega, by omega⟩, h⟩
theorem allOf_true {p : Nat → Bool} {n : Nat} (h : ∀ j, j < n → p j = false) : allOf p n = true := by
 unfold allOf
 rw [Bool.not_eq_true', List.any_eq_false]
 intro x hx
 have := List.mem_range'_1.1 hx
 rw [h x (by omega)]
 simp
noncomputable def togetherOk (l : List Step) : Bool := allOf (fun i => decide (1 < pivots l (i + 1))) l.length && (allOf (ordersBad l) l.length && (allOf (ringAt l) l.length && allOf (lacksHeld l (heldF l)) l.length))
theorem pivots_snoc {l : List Step} {i : Nat} (h : i < l.length) : pivots l (i + 1) = pivots l i + if (stepAt l i).kind = 2 then 1 else 0 := by
 unfold pivots
 rw [List.take_add_one, stepAt_eq h, List.filter_append, List.length_append]
 by_cases e : (stepAt l i).kind = 2 <;> simp [e]
/-- The worlds of together. -/
structure Tg (w wr : World) (nm : ByteArray) (l : List Step) (ad : Addr) (c : Nat) : Prop where
 below : Below w.heap.size w wr
 box : wr.heap[w.heap.size]? = some (.cells #[.string nm, .slice (some ad) l.length c] 24 (0, 0))
theorem Tg.on {w wr w2 : World} {nm : ByteArray} {l : List Step} {ad : Addr} {c : Nat} (h : Tg w wr nm l ad c) (hb : Below wr.heap.size wr w2) : Tg w w2 nm l ad c := ⟨on_ h.below hb, row_on hb h.box⟩
theorem Tg.cells {w wr : World} {nm : ByteArray} {l : List Step} {ad : Addr} {c : Nat} (h : Tg w wr nm l ad c) : wr.cell? ⟨w.heap.size, 0, none⟩ = some (.string nm) ∧ wr.cell? ⟨w.heap.size, 1, none⟩ = some (.slice (some ad) l.length c) :=
 ⟨row_cell h.box rfl, row_cell h.box rfl⟩
theorem upto {p : Nat → Bool} {k : Nat} (h : ∀ j, j < k → p j = false) (hk : p k = false) : ∀ j, j < k + 1 → p j = false := fun j hj => by
 rcases Nat.lt_succ_iff_lt_or_eq.1 hj with h2 | h2
 · exact h j h2
 · exact h2 ▸ hk

set_option maxHeartbeats 16000000 in
set_option maxRecDepth 100000 in
theorem togetherR_calls (nm : ByteArray) (l : List Step) (ad : Addr) (c : Nat) (w : World) (hS : StepsAt w (some ad) l) (hl8 : l.length ≤ 8) (hin : ∀ k, k < l.length → Within l (stepAt l k) ∧ (stepAt l k).needs.length ≤ 8) (hk2 : ∀ k, k < l.length → (stepAt l k).keys.length ≤ 2) :
 Calls Tryz.prog 51 #[.agg #[.string nm, .slice (some ad) l.length c]] w fun e w' => (∃ a b, e = .returned (.tuple #[.int .i64 a, .int .i64 b]) ∧ (b == 0) = togetherOk l) ∧ Below w.heap.size w w' := by
 have HT0 := Aside0.mk (Tg.mk (below_one w (.cells #[.string nm, .slice (some ad) l.length c] 24)) (alloc1 w (.cells #[.string nm, .slice (some ad) l.length c] 24)))
 have HA := Aside0.mk hS
 have HC1 := Aside0.mk (fun W (h : Below w.heap.size w W) i (hi : i < l.length) => orderR_calls nm l ad c i W (hS.below h) hi (hin i hi))
 have HC2 := Aside0.mk (fun W (h : Below w.heap.size w W) i (hi : i < l.length) => ringR_calls nm l ad c i W (hS.below h) hi hl8 hin)
 have HC3 := Aside0.mk (fun W (h : Below w.heap.size w W) i (hi : i < l.length) => looseR_calls nm l ad c i W (hS.below h) hi hl8 hk2)
 have HF : Aside0 (togetherOk l = (allOf (fun i => decide (1 < pivots l (i + 1))) l.length && (allOf (ordersBad l) l.length && (allOf (ringAt l) l.length && allOf (lacksHeld l (heldF l)) l.length)))) := ⟨rfl⟩
 clear hS hin hk2
 generalize togetherOk l = rr at *
 go_enter Tryz.func51, Tryz.ntmps51
 go_wp2
 generalize World.alloc w _ = w0 at *
 go_loopw [4, 5] (fun v4 v5 wr => ∃ i : Nat, i ≤ l.length ∧ v5 = .int .i64 (i : Int) ∧ v4 = .int .i64 (pivots l i : Int) ∧ pivots l i ≤ 1 ∧ (∀ j, j < i → decide (1 < pivots l (j + 1)) = false) ∧ Tg w wr nm l ad c) (fun _ v5 _ => l.length - (intOf v5).toNat)
 case atStart => exact ⟨0, Nat.zero_le _, rfl, rfl, Nat.zero_le _, fun j hj => absurd hj (Nat.not_lt_zero _), HT0.out⟩
 case round =>
  obtain ⟨i, hi, rfl, rfl, hp1, hal, hT⟩ := hrel
  have HG := Aside0.mk (And.intro hal hT)
  obtain ⟨hq0, hq1⟩ := hT.cells
  clear hal hT
  by_cases hlt : i < l.length
  · have hd2 : decide ((i : Int) < (l.length : Int)) = true := decide_eq_true (by omega)
    obtain ⟨_, e1, A1, c1, A2, c2, h1⟩ := HA.out.one (stepAt_eq hlt)
    cases e1
    have hs1 := (h1.below HG.out.2.below).c1_
    have HP := Aside0.mk (pivots_snoc hlt)
    clear h1
    generalize hpv : pivots l i = pv at *
    by_cases hk : (stepAt l i).kind = 2
    · have hd3 : ((stepAt l i).kind == 2) = true := beq_iff_eq.2 hk
      have HP2 : Aside0 (pivots l (i + 1) = pv + 1) := ⟨by rw [HP.out, if_pos hk]⟩
      clear hk
      by_cases hpe : pv = 1
      · subst hpe
        have HX : Aside0 (rr = false) := ⟨by rw [HF.out, allOf_false hlt (by rw [HP2.out]; rfl)]; rfl⟩
        go_wp2
        go_ret2
        rw [HX.out]
        exact ⟨⟨_, _, rfl, rfl⟩, HG.out.2.below⟩
      · have hp0 : pv = 0 := by omega
        subst hp0
        have HS2 : Aside0 (∀ j, j < i + 1 → decide (1 < pivots l (j + 1)) = false) := ⟨upto HG.out.1 (by rw [HP2.out]; rfl)⟩
        go_wp2
        go_roundw
        case rel => exact ⟨i + 1, hlt, by go_num, by rw [HP2.out]; rfl, by rw [HP2.out]; omega, HS2.out, HG.out.2⟩
        case measure => simp [intOf]; omega
    · have hd3 : ((stepAt l i).kind == 2) = false := beq_eq_false_iff_ne.2 hk
      have HP2 : Aside0 (pivots l (i + 1) = pv) := ⟨by rw [HP.out, if_neg hk]; rfl⟩
      clear hk
      have HS2 : Aside0 (∀ j, j < i + 1 → decide (1 < pivots l (j + 1)) = false) := ⟨upto HG.out.1 (by rw [HP2.out]; exact decide_eq_false (by omega))⟩
      have hd5 : ((pv : Int) == 2) = false := beq_eq_false_iff_ne.2 (by omega)
      go_wp2
      go_roundw
      case rel => exact ⟨i + 1, hlt, by go_num, by rw [HP2.out], by rw [HP2.out]; exact hp1, HS2.out, HG.out.2⟩
      case measure => simp [intOf]; omega
  · have hi' : i = l.length := by omega
    subst hi'
    have hd2 : decide ((l.length : Int) < (l.length : Int)) = false := decide_eq_false (by omega)
    replace HF : Aside0 (rr = (allOf (ordersBad l) l.length && (allOf (ringAt l) l.length && allOf (lacksHeld l (heldF l)) l.length))) := ⟨by rw [HF.out, allOf_true HG.out.1, Bool.true_and]⟩
    have HT1 := Aside0.mk HG.out.2
    clear HG hp1
    generalize pivots l l.length = pv at *
    go_wp2
    clear hq0 hq1
    go_loopw [6] (fun v wr => ∃ i : Nat, i ≤ l.length ∧ v = .int .i64 (i : Int) ∧ (∀ j, j < i → (ordersBad l) j = false) ∧ Tg w wr nm l ad c) (fun v _ => l.length - (intOf v).toNat)
    case atStart => exact ⟨0, Nat.zero_le _, rfl, fun j hj => absurd hj (Nat.not_lt_zero _), HT1.out⟩
    case round =>
     obtain ⟨i, hi, rfl, hal, hT⟩ := hrel
     have HG := Aside0.mk (And.intro hal hT)
     obtain ⟨hq0, hq1⟩ := hT.cells
     clear hal hT HT1
     by_cases hlt : i < l.length
     · have hd2 : decide ((i : Int) < (l.length : Int)) = true := decide_eq_true (by omega)
       have hcall := Aside0.mk (HC1.out _ HG.out.2.below i hlt)
       have HST : Aside0 ((ordersBad l) i = false → ∀ j, j < i + 1 → (ordersBad l) j = false) := ⟨fun h => upto HG.out.1 h⟩
       have HXX : Aside0 ((ordersBad l) i = true → rr = false) := ⟨fun h => by rw [HF.out, allOf_false hlt h]; try rfl⟩
       generalize (ordersBad l) i = b at *
       cases b
       · replace HST := Aside0.mk (HST.out rfl)
         go_wp2_with (first | (go_at_call 109; refine hcall.out.mono ?_; rintro e w2 ⟨rfl, hb2⟩; have H2 := Aside0.mk (HG.out.2.on hb2); clear hb2))
         go_roundw
         case rel => exact ⟨i + 1, hlt, by go_num, HST.out, H2.out⟩
         case measure => simp [intOf]; omega
       · replace HXX := Aside0.mk (HXX.out rfl)
         go_wp2_with (first | (go_at_call 109; refine hcall.out.mono ?_; rintro e w2 ⟨rfl, hb2⟩; have H2 := Aside0.mk (HG.out.2.on hb2); clear hb2))
         go_ret2
         rw [HXX.out]
         exact ⟨⟨_, _, rfl, rfl⟩, H2.out.below⟩
     · have hi' : i = l.length := by omega
       subst hi'
       have hd2 : decide ((l.length : Int) < (l.length : Int)) = false := decide_eq_false (by omega)
       replace HF : Aside0 (rr = (allOf (ringAt l) l.length && allOf (lacksHeld l (heldF l)) l.length)) := ⟨by rw [HF.out, allOf_true HG.out.1, Bool.true_and]⟩
       have HT2 := Aside0.mk HG.out.2
       clear HG
       go_wp2
       clear hq0 hq1
       go_loopw [8] (fun v wr => ∃ i : Nat, i ≤ l.length ∧ v = .int .i64 (i : Int) ∧ (∀ j, j < i → (ringAt l) j = false) ∧ Tg w wr nm l ad c) (fun v _ => l.length - (intOf v).toNat)
       case atStart => exact ⟨0, Nat.zero_le _, rfl, fun j hj => absurd hj (Nat.not_lt_zero _), HT2.out⟩
       case round =>
        obtain ⟨i, hi, rfl, hal, hT⟩ := hrel
        have HG := Aside0.mk (And.intro hal hT)
        obtain ⟨hq0, hq1⟩ := hT.cells
        clear hal hT HT2
        by_cases hlt : i < l.length
        · have hd2 : decide ((i : Int) < (l.length : Int)) = true := decide_eq_true (by omega)
          have hcall := Aside0.mk (HC2.out _ HG.out.2.below i hlt)
          have HST : Aside0 ((ringAt l) i = false → ∀ j, j < i + 1 → (ringAt l) j = false) := ⟨fun h => upto HG.out.1 h⟩
          have HXX : Aside0 ((ringAt l) i = true → rr = false) := ⟨fun h => by rw [HF.out, allOf_false hlt h]; try rfl⟩
          generalize (ringAt l) i = b at *
          cases b
          · replace HST := Aside0.mk (HST.out rfl)
            go_wp2_with (first | (go_at_call 110; refine hcall.out.mono ?_; rintro e w2 ⟨rfl, hb2⟩; have H2 := Aside0.mk (HG.out.2.on hb2); clear hb2))
            go_roundw
            case rel => exact ⟨i + 1, hlt, by go_num, HST.out, H2.out⟩
            case measure => simp [intOf]; omega
          · replace HXX := Aside0.mk (HXX.out rfl)
            go_wp2_with (first | (go_at_call 110; refine hcall.out.mono ?_; rintro e w2 ⟨rfl, hb2⟩; have H2 := Aside0.mk (HG.out.2.on hb2); clear hb2))
            go_ret2
            rw [HXX.out]
            exact ⟨⟨_, _, rfl, rfl⟩, H2.out.below⟩
        · have hi' : i = l.length := by omega
          subst hi'
          have hd2 : decide ((l.length : Int) < (l.length : Int)) = false := decide_eq_false (by omega)
          replace HF : Aside0 (rr = allOf (lacksHeld l (heldF l)) l.length) := ⟨by rw [HF.out, allOf_true HG.out.1, Bool.true_and]⟩
          have HT3 := Aside0.mk HG.out.2
          clear HG
          go_wp2
          clear hq0 hq1
          go_loopw [10] (fun v wr => ∃ i : Nat, i ≤ l.length ∧ v = .int .i64 (i : Int) ∧ (∀ j, j < i → (lacksHeld l (heldF l)) j = false) ∧ Tg w wr nm l ad c) (fun v _ => l.length - (intOf v).toNat)
          case atStart => exact ⟨0, Nat.zero_le _, rfl, fun j hj => absurd hj (Nat.not_lt_zero _), HT3.out⟩
          case round =>
           obtain ⟨i, hi, rfl, hal, hT⟩ := hrel
           have HG := Aside0.mk (And.intro hal hT)
           obtain ⟨hq0, hq1⟩ := hT.cells
           clear hal hT HT3
           by_cases hlt : i < l.length
           · have hd2 : decide ((i : Int) < (l.length : Int)) = true := decide_eq_true (by omega)
             have hcall := Aside0.mk (HC3.out _ HG.out.2.below i hlt)
             have HST : Aside0 ((lacksHeld l (heldF l)) i = false → ∀ j, j < i + 1 → (lacksHeld l (heldF l)) j = false) := ⟨fun h => upto HG.out.1 h⟩
             have HXX : Aside0 ((lacksHeld l (heldF l)) i = true → rr = false) := ⟨fun h => by rw [HF.out, allOf_false hlt h]; try rfl⟩
             generalize (lacksHeld l (heldF l)) i = b at *
             cases b
             · replace HST := Aside0.mk (HST.out rfl)
               go_wp2_with (first | (go_at_call 111; refine hcall.out.mono ?_; rintro e w2 ⟨rfl, hb2⟩; have H2 := Aside0.mk (HG.out.2.on hb2); clear hb2))
               go_roundw
               case rel => exact ⟨i + 1, hlt, by go_num, HST.out, H2.out⟩
               case measure => simp [intOf]; omega
             · replace HXX := Aside0.mk (HXX.out rfl)
               go_wp2_with (first | (go_at_call 111; refine hcall.out.mono ?_; rintro e w2 ⟨rfl, hb2⟩; have H2 := Aside0.mk (HG.out.2.on hb2); clear hb2))
               go_ret2
               rw [HXX.out]
               exact ⟨⟨_, _, rfl, rfl⟩, H2.out.below⟩
           · have hi' : i = l.length := by omega
             subst hi'
             have hd2 : decide ((l.length : Int) < (l.length : Int)) = false := decide_eq_false (by omega)
             have HX : Aside0 (rr = true) := ⟨by rw [HF.out, allOf_true HG.out.1]⟩
             go_wp2
             go_ret2
             rw [HX.out]
             exact ⟨⟨_, _, rfl, rfl⟩, HG.out.2.below⟩

set_option maxHeartbeats 16000000 in
set_option maxRecDepth 100000 in
theorem refCheck_calls (nm : ByteArray) (l : List Step) (A : Option Addr) (c : Nat) (w : World) (hnm : nm.size ≤ 140737488351232) (hS : StepsAt w A l) (hb : ∀ s ∈ l, StepB s) (hn : l.length ≤ 9000000000000) (hc : l.length ≤ c) :
 Calls Tryz.prog 20 #[.agg #[.string nm, .slice A l.length c]] w fun e w' => (∃ a b, e = .returned (.tuple #[.int .i64 a, .int .i64 b]) ∧ (b == 0) = defOk nm l) ∧ Below w.heap.size w w' := by
 have HC53 : Aside0 (∀ W, Calls Tryz.prog 34 #[.string nm] W fun e w' => e = .returned (.bool (Nm.isName nm)) ∧ Below W.heap.size W w') := ⟨fun W => isR_calls _ W (by omega)⟩
 have hbb := below_one w (.cells #[.string nm, .slice A l.length c] 24)
 have hr0 := alloc1 w (.cells #[.string nm, .slice A l.length c] 24)
 have HW := Aside0.mk (And.intro hbb hr0)
 have HA := Aside0.mk (And.intro hS hb)
 have hdef : Aside0 (defOk nm l = (Nm.isName nm && (decide (1 ≤ l.length ∧ l.length ≤ 8) && ((List.range' 0 l.length).all (fun i => aloneOk l i (stepAt l i)) && togetherOk l)))) := ⟨rfl⟩
 generalize defOk nm l = rr at *
 clear hbb hr0 hS hb
 go_enter Tryz.func20, Tryz.ntmps20
 cases hnn : Nm.isName nm
 · rw [hnn] at HC53 hdef
   go_wp2_with (first | (go_at_call 34; refine (HC53.out _).mono ?_; rintro e w1 ⟨rfl, hb1⟩))
   go_ret2
   rw [hdef.out]
   exact ⟨⟨_, _, rfl, rfl⟩, on_ HW.out.1 hb1⟩
 · rw [hnn] at HC53 hdef
   by_cases h1 : 1 ≤ l.length ∧ l.length ≤ 8
   · have hd1 : decide ((l.length : Int) < 1) = false := decide_eq_false (by omega)
     have hd2 : decide (8 < (l.length : Int)) = false := decide_eq_false (by omega)
     replace hdef := Aside0.mk (hdef.out.trans (by rw [decide_eq_true h1, Bool.true_and, Bool.true_and]))
     have hl8 : l.length ≤ 8 := h1.2
     obtain ⟨ad, rfl, _⟩ := HA.out.1.one (stepAt_eq (l := l) (i := 0) (by omega))
     have HT0 := Aside0.mk (Tg.mk HW.out.1 HW.out.2 : Tg w _ nm l ad c)
     clear h1 HW
     go_wp2_with (first | (go_at_call 34; refine (HC53.out _).mono ?_; rintro e w1 ⟨rfl, hb1⟩; have HK1 := Aside0.mk (HT0.out.on hb1); have hq1 := HK1.out.cells.2; clear hb1))
     clear hq1 HT0 HC53
     go_loopw [5] (fun v5 wr => ∃ i : Nat, i ≤ l.length ∧ v5 = .int .i64 (i : Int) ∧ (∀ j, j < i → aloneOk l j (stepAt l j) = true) ∧ Tg w wr nm l ad c) (fun v5 _ => l.length - (intOf v5).toNat)
     case atStart => exact ⟨0, Nat.zero_le _, rfl, fun j hj => absurd hj (Nat.not_lt_zero _), HK1.out⟩
     case round =>
      obtain ⟨i, hi, rfl, hal, hck⟩ := hrel
      have HAL := Aside0.mk (And.intro hal hck)
      obtain ⟨hq0, hq1⟩ := hck.cells
      clear hal hck HK1
      by_cases hlt : i < l.length
      · have hd3 : decide ((i : Int) < (l.length : Int)) = true := decide_eq_true (by omega)
        have hcall := Aside0.mk (aloneR_calls nm l (some ad) c i (stepAt l i) _ (stepAt_eq hlt) (HA.out.1.below HAL.out.2.below) (HA.out.2 _ (List.mem_of_getElem? (stepAt_eq hlt))) hl8 hc)
        have HR := Aside0.mk (aloneE_ok l i (stepAt l i))
        generalize aloneE l i (stepAt l i) = r at *
        cases hok : (r == 0)
        · have hd4 : (r != 0) = true := by rw [bne, hok]; rfl
          have HF : Aside0 (rr = false) := ⟨by rw [hdef.out, all_range_false hlt (by rw [← HR.out, hok])]; rfl⟩
          go_wp2_with (first | (go_at_call 50; refine hcall.out.mono ?_; rintro e w2 ⟨rfl, hb2⟩))
          go_ret2
          rw [HF.out]
          exact ⟨⟨_, _, rfl, hok⟩, on_ HAL.out.2.below hb2⟩
        · have hd4 : (r != 0) = false := by rw [bne, hok]; rfl
          have HOK : Aside0 (aloneOk l i (stepAt l i) = true) := ⟨by rw [← HR.out, hok]⟩
          go_wp2_with (first | (go_at_call 50; refine hcall.out.mono ?_; rintro e w2 ⟨rfl, hb2⟩))
          go_roundw
          case rel => exact ⟨i + 1, hlt, by go_num, fun j hj => by rcases Nat.lt_succ_iff_lt_or_eq.1 hj with h | h; exact HAL.out.1 j h; exact h ▸ HOK.out, HAL.out.2.on hb2⟩
          case measure => simp [intOf]; omega
      · have hi' : i = l.length := by omega
        subst hi'
        have hd3 : decide ((l.length : Int) < (l.length : Int)) = false := decide_eq_false (by omega)
        replace hdef := Aside0.mk (hdef.out.trans (by rw [all_range HAL.out.1, Bool.true_and]))
        have htg := Aside0.mk (togetherR_calls nm l ad c _ (HA.out.1.below HAL.out.2.below) hl8 (fun k hk => needs_in hl8 (HAL.out.1 k hk)) (fun k hk => keys_two (HAL.out.1 k hk)))
        go_wp2_with (first | (go_at_call 51; refine htg.out.mono ?_; rintro e w2 ⟨⟨xa, xb, rfl, hxb⟩, hb2⟩; replace hxb := Aside0.mk hxb))
        go_ret2
        exact ⟨⟨_, _, rfl, by rw [hxb.out, hdef.out]⟩, on_ HAL.out.2.below hb2⟩
   · have HF : Aside0 (rr = false) := ⟨by rw [hdef.out, decide_eq_false h1]; rfl⟩
     have hl8 : (l.length : Int) < 1 ∨ (8 < (l.length : Int) ∧ ¬ (l.length : Int) < 1) := by omega
     clear h1
     rcases hl8 with h0 | ⟨h8, h9⟩
     · have hd1 : decide ((l.length : Int) < 1) = true := decide_eq_true h0
       clear h0
       go_wp2_with (first | (go_at_call 34; refine (HC53.out _).mono ?_; rintro e w1 ⟨rfl, hb1⟩; have hq1 : w1.cell? ⟨w.heap.size, 1, none⟩ = some (.slice A l.length c) := row_cell (row_on hb1 HW.out.2) rfl))
       go_ret2
       rw [HF.out]
       exact ⟨⟨_, _, rfl, rfl⟩, on_ HW.out.1 hb1⟩
     · have hd1 : decide ((l.length : Int) < 1) = false := decide_eq_false h9
       have hd2 : decide (8 < (l.length : Int)) = true := decide_eq_true h8
       clear h8 h9
       go_wp2_with (first | (go_at_call 34; refine (HC53.out _).mono ?_; rintro e w1 ⟨rfl, hb1⟩; have hq1 : w1.cell? ⟨w.heap.size, 1, none⟩ = some (.slice A l.length c) := row_cell (row_on hb1 HW.out.2) rfl))
       go_ret2
       rw [HF.out]
       exact ⟨⟨_, _, rfl, rfl⟩, on_ HW.out.1 hb1⟩
end Go.Proofs.YtgjddnaidjbhlaaGreatDoor.Pl

/- odysseylaw12.same, has, pick, trip: the walks, by hand. -/
namespace Go.Proofs.YtgjddnaidjbhlaaGreatDoor.Pl
open Go.RowKit Go.IntWalk Go.Proofs.YtgjddnaidjbhlaaGreatDoorW.PrintWords Go.Proofs.YtgjddnaidjbhlaaGreatDoorW.PrintLast Go.Proofs.YtgjddnaidjbhlaaGreatDoorW.PrintMore Go.Proofs.YtgjddnaidjbhlaaGreatDoor.PlName

/-- A definition that may be. -/
def tripN : ByteArray := ⟨#[116, 114, 105, 112]⟩
def tripL : List Step := [⟨⟨#[97]⟩, 3, 0, [], []⟩, ⟨⟨#[98]⟩, 1, 1, [], []⟩, ⟨⟨#[99]⟩, 1, 2, [], [1]⟩]
theorem cnil {α : Type} (d : Kd α) (w : World) (A : Option Addr) : Kd.C d w A 0 [] := ⟨rfl, by omega, fun h => absurd h (Nat.lt_irrefl _)⟩
theorem stepK {w : World} {s : Step} {A1 A2 : Option Addr} {c1 c2 : Nat} (h1 : s.keys.length ≤ c1) (h2 : Kd.C Kd.string w A1 s.keys.length s.keys) (h3 : s.needs.length ≤ c2) (h4 : Kd.C (Kd.int .i64) w A2 s.needs.length s.needs) : StepK w s (cells s (.slice A1 s.keys.length c1) (.slice A2 s.needs.length c2)) :=
 ⟨A1, c1, A2, c2, rfl, h1, h2, h3, h4⟩
theorem ints_row {W : World} {g : Nat} {arr : Array Value} (h : W.heap[g]? = some (.cells arr 3 (0, 0))) (l : List Int) (hl : arr = (l.map (Value.int .i64)).toArray) (h9 : l.length ≤ 1000000) : Kd.C (Kd.int .i64) W (some ⟨g, 0, none⟩) l.length l := by
 refine ⟨rfl, by omega, fun _ => ⟨_, rfl, fun j p hj => ⟨[.int .i64 p], rfl, rfl, fun i u hu => ?_⟩⟩⟩
 match i, hu with
 | 0, hu =>
  simp at hu
  subst hu
  rw [Addr.add_lit]
  refine row_cell h ?_
  rw [hl, show (Kd.int .i64).sz = 1 from rfl]
  simp [hj]
end Go.Proofs.YtgjddnaidjbhlaaGreatDoor.Pl

/- odysseylaw12.live: the walk, by hand. -/
namespace Go.Proofs.YtgjddnaidjbhlaaGreatDoor.Pl
open Go.RowKit Go.IntWalk Go.Proofs.YtgjddnaidjbhlaaGreatDoorW.PrintWords Go.Proofs.YtgjddnaidjbhlaaGreatDoor.PlName

theorem lit_row (W : World) (l : List Int) (arr : Array Value) (hl : arr = (l.map (Value.int .i64)).toArray) (h9 : l.length ≤ 1000000) : Kd.C (Kd.int .i64) (W.alloc (.cells arr 3)) (some ⟨W.heap.size, 0, none⟩) l.length l := ints_row (alloc1 W _) l hl h9
/-- The worlds of live. -/
structure Lv (w W : World) (g : Nat) (ad : Addr) : Prop where
 below : Below w.heap.size w W
 row : W.heap[g]? = some (.cells #[.string tripN, .slice (some ad) 3 3] 24 (0, 0))
 steps : StepsAt W (some ad) tripL
theorem Lv.on {w W W2 : World} {g : Nat} {ad : Addr} (h : Lv w W g ad) (hb : Below W.heap.size W W2) : Lv w W2 g ad := ⟨on_ h.below hb, row_on hb h.row, h.steps.below hb⟩
theorem Lv.cells {w W : World} {g : Nat} {ad : Addr} (h : Lv w W g ad) : W.cell? ⟨g, 0, none⟩ = some (.string tripN) ∧ W.cell? ⟨g, 1, none⟩ = some (.slice (some ad) 3 3) := ⟨row_cell h.row rfl, row_cell h.row rfl⟩

end Go.Proofs.YtgjddnaidjbhlaaGreatDoor.Pl

/- odysseylaw12.PlanDone: the walk, by hand. -/
namespace Go.Proofs.YtgjddnaidjbhlaaGreatDoor.Pl
open Go.RowKit Go.IntWalk Go.Proofs.YtgjddnaidjbhlaaGreatDoorW.PrintWords Go.Proofs.YtgjddnaidjbhlaaGreatDoor.PlName

def intsA (st : List Int) : Array Value := (st.map (Value.int .i64)).toArray
theorem intsA_at {st : List Int} {i : Nat} (h : i < st.length) : (intsA st)[i]? = some (.int .i64 (stOf st i)) := by
 unfold intsA stOf
 simp [h]
theorem intsA_set (st : List Int) (i : Nat) (v : Int) : (intsA st).setIfInBounds i (.int .i64 v) = intsA (st.set i v) := by
 unfold intsA
 simp [List.map_set]
theorem stOf_set {st : List Int} {i : Nat} (v : Int) (h : i < st.length) (k : Nat) : stOf (st.set i v) k = if k = i then v else stOf st k := by
 unfold stOf
 rw [List.getD_eq_getElem?_getD, List.getD_eq_getElem?_getD, List.getElem?_set]
 by_cases e : i = k
 · subst e
   simp [h]
 · have : ¬ k = i := fun h => e h.symm
   simp [e, this]
/-- The worlds in which states are kept. -/
structure Ds (w W : World) (nm : ByteArray) (l : List Step) (ad : Addr) (c bs : Nat) (st : List Int) : Prop where
 below : Below w.heap.size w W
 box : W.heap[w.heap.size]? = some (.cells #[.string nm, .slice (some ad) l.length c] 24 (0, 0))
 row : W.heap[bs]? = some (.cells (intsA st) 3 (0, 0))
 lt : w.heap.size < bs
 len : st.length = l.length
section
variable {w W W2 : World} {nm : ByteArray} {l : List Step} {ad : Addr} {c bs : Nat} {st : List Int}
theorem Ds.on (h : Ds w W nm l ad c bs st) (hb : Below W.heap.size W W2) : Ds w W2 nm l ad c bs st := ⟨on_ h.below hb, row_on hb h.box, row_on hb h.row, h.lt, h.len⟩
theorem Ds.cells (h : Ds w W nm l ad c bs st) : W.cell? ⟨w.heap.size, 0, none⟩ = some (.string nm) ∧ W.cell? ⟨w.heap.size, 1, none⟩ = some (.slice (some ad) l.length c) := ⟨row_cell h.box rfl, row_cell h.box rfl⟩
theorem Ds.at_ (h : Ds w W nm l ad c bs st) {x : Nat} (hx : x < l.length) : W.cell? ⟨bs, x, none⟩ = some (.int .i64 (stOf st x)) := row_cell h.row (intsA_at (by rw [h.len]; exact hx))
theorem Ds.free (h : Ds w W nm l ad c bs st) (x : Nat) : W.frozen? ⟨bs, x, none⟩ = false := free_of_row h.row
theorem Ds.set (h : Ds w W nm l ad c bs st) (x : Nat) (v : Int) : Ds w (W.setCell ⟨bs, x, none⟩ (.int .i64 v)) nm l ad c bs (st.set x v) :=
 ⟨h.below.setCell (p := ⟨bs, x, none⟩) (Nat.le_of_lt h.lt) _, row_setCell_ne h.box _ _ (Nat.ne_of_lt h.lt), by rw [row_setCell h.row, intsA_set], h.lt, by rw [List.length_set]; exact h.len⟩
end
/-! ### whichever is done -/
structure Dn (st : List Int) (n k : Nat) : Prop where
 len : st.length = n
 two : ∀ i, i < n → stOf st i = 0 ∨ stOf st i = 2
 cnt_ : cnt (doneF st) n = k
theorem sts_ok {st : List Int} {n : Nat} (hl : st.length = n) (h : ∀ i, i < n → 0 ≤ stOf st i ∧ stOf st i ≤ 5) : stsOk st n = true := by
 unfold stsOk
 rw [decide_eq_true hl, Bool.true_and, Bool.not_eq_true', List.any_eq_false]
 intro x hx
 obtain ⟨j, hj, e⟩ := List.getElem_of_mem hx
 have := h j (by omega)
 have e2 : stOf st j = x := by
  unfold stOf
  rw [List.getD_eq_getElem?_getD, List.getElem?_eq_getElem hj]
  exact e
 rw [e2] at this
 unfold oddS
 simp
 omega
theorem Dn.ok {st : List Int} {n k : Nat} (h : Dn st n k) : stsOk st n = true := sts_ok h.len fun i hi => by rcases h.two i hi with e | e <;> omega
theorem sel_has {p : Nat → Bool} {n i : Nat} (hi : i < n) : (sel p n).contains i = p i := by
 cases h : p i
 · cases hc : (sel p n).contains i
   · rfl
   · have := (mem_sel.1 (List.contains_iff_mem.1 hc)).2
     rw [h] at this
     cases this
 · exact List.contains_iff_mem.2 (mem_sel.2 ⟨hi, h⟩)
theorem Dn.step {st : List Int} {n k x : Nat} (h : Dn st n k) (hx : x < n) (h0 : stOf st x = 0) : Dn (st.set x 2) n (k + 1) := by
 have hl : x < st.length := by rw [h.len]; exact hx
 refine ⟨by rw [List.length_set]; exact h.len, fun i hi => ?_, ?_⟩
 · rw [stOf_set 2 hl]
   split
   · exact .inr rfl
   · exact h.two i hi
 · have hf : doneF st x = false := by unfold doneF; rw [h0]; rfl
   have e : ∀ i, i < n → doneF (st.set x 2) i = (i == x || doneF st i) := fun i _ => by
    unfold doneF
    rw [stOf_set 2 hl]
    by_cases e : i = x
    · subst e
      simp
    · simp [e]
   rw [cnt_congr e, cnt_add hf, h.cnt_, if_pos hx]
theorem rep_of (n i : Nat) : stOf (List.replicate n 0) i = 0 := by
 unfold stOf
 rw [List.getD_eq_getElem?_getD, List.getElem?_replicate]
 split <;> rfl
theorem Dn.start (n : Nat) : Dn (List.replicate n 0) n 0 := by
 refine ⟨List.length_replicate, fun i _ => .inl (rep_of n i), ?_⟩
 have : ∀ m, cnt (doneF (List.replicate n 0)) m = 0 := by
  intro m
  induction m with
  | zero => rfl
  | succ m ih =>
   rw [cnt, ih]
   have : doneF (List.replicate n 0) m = false := by
    unfold doneF
    rw [rep_of]
    rfl
   rw [this]
   rfl
 exact this n
end Go.Proofs.YtgjddnaidjbhlaaGreatDoor.Pl

/- odysseyref12: what is ahead, by rounds (the plain law). -/
namespace Go.Proofs.YtgjddnaidjbhlaaGreatDoor.Pl
open Go.RowKit

theorem Thru.snoc {R : Nat → Nat → Bool} {x k y : Nat} (h : Thru R x k) (hk : R k y = true) : Thru R x y := by
 induction h with
 | one h => exact .more h (.one hk)
 | more h _ ih => exact .more h (ih hk)
/-- Nothing more is to be met. -/
def Cl (R : Nat → Nat → Bool) (n b : Nat) (f : Nat → Bool) : Prop := ∀ c, c < n → (c == b || f c) = true → ∀ a, a < n → R c a = true → f a = true
/-- A round, in its middle. -/
structure Rd (R : Nat → Nat → Bool) (n b : Nat) (f g : Nat → Bool) (a c : Nat) : Prop where
 sound : ∀ x, x < n → g x = true → Thru R b x
 le : ∀ x, x < n → f x = true → g x = true
 hit : ∀ q, q < a → q < n → ∀ p, p < n → (p == b || f p) = true → R p q = true → g q = true
 low : ∀ p, p < c → p < n → (p == b || f p) = true → R p a = true → g a = true
 same : Cl R n b f → ∀ x, x < n → g x = f x
section
variable {R : Nat → Nat → Bool} {n b : Nat} {f g : Nat → Bool} {a c : Nat}
theorem Rd.start (hs : ∀ x, x < n → f x = true → Thru R b x) : Rd R n b f f 0 0 := ⟨hs, fun _ _ h => h, fun q hq => absurd hq (Nat.not_lt_zero _), fun p hp => absurd hp (Nat.not_lt_zero _), fun _ _ _ => rfl⟩
theorem Rd.row (h : Rd R n b f g a n) (ha : a < n) : Rd R n b f g (a + 1) 0 := by
 refine ⟨h.sound, h.le, fun q hq hl p hp he hr => ?_, fun p hp => absurd hp (Nat.not_lt_zero _), h.same⟩
 rcases Nat.lt_succ_iff_lt_or_eq.1 hq with h2 | h2
 · exact h.hit q h2 hl p hp he hr
 · subst h2
   exact h.low p hp hp he hr
theorem Rd.ext (h : Rd R n b f g a c) {p : Nat} (hp : p < n) (he : (p == b || f p) = true) : (p == b || g p) = true := by
 rw [Bool.or_eq_true] at he ⊢
 exact he.imp_right (h.le p hp)
theorem Rd.skip (h : Rd R n b f g a c) (hc : c < n) (hn : ((c == b || g c) && R c a) = false) : Rd R n b f g a (c + 1) := by
 refine ⟨h.sound, h.le, h.hit, fun p hp hl he hr => ?_, h.same⟩
 rcases Nat.lt_succ_iff_lt_or_eq.1 hp with h2 | h2
 · exact h.low p h2 hl he hr
 · subst h2
   rw [h.ext hc he, hr] at hn
   cases hn
theorem Rd.set (h : Rd R n b f g a c) (hc : c < n) (ha : a < n) (h1 : (c == b || g c) = true) (h2 : R c a = true) : Rd R n b f (upd g a true) a (c + 1) := by
 have up : ∀ x, g x = true → upd g a true x = true := fun x hx => by
  unfold upd
  split
  · rfl
  · exact hx
 refine ⟨fun x hx h3 => ?_, fun x hx h3 => up x (h.le x hx h3), fun q hq hl p hp he hr => up q (h.hit q hq hl p hp he hr), fun p hp hl he hr => ?_, fun hcl x hx => ?_⟩
 · unfold upd at h3
   split at h3
   · rename_i e
     subst e
     rw [Bool.or_eq_true, beq_iff_eq] at h1
     rcases h1 with rfl | h1
     · exact .one h2
     · exact (h.sound c hc h1).snoc h2
   · exact h.sound x hx h3
 · unfold upd
   simp
 · unfold upd
   split
   · rename_i e
     subst e
     refine (hcl c hc ?_ _ ha h2).symm
     rw [h.same hcl c hc] at h1
     exact h1
   · exact h.same hcl x hx
theorem Rd.done (h : Rd R n b f g n 0) {r : Nat} (hf : Cl R n b f ∨ r ≤ cnt f n) : (∀ x, x < n → g x = true → Thru R b x) ∧ (Cl R n b g ∨ r + 1 ≤ cnt g n) := by
 refine ⟨h.sound, ?_⟩
 by_cases hc : Cl R n b f
 · left
   intro p hp he q hq hr
   rw [h.same hc p hp] at he
   rw [h.same hc q hq]
   exact hc p hp he q hq hr
 · right
   rcases hf with hf | hf
   · exact absurd hf hc
   · have h2 : ∃ p q : Nat, p < n ∧ q < n ∧ (p == b || f p) = true ∧ R p q = true ∧ f q = false := by
      apply Classical.byContradiction
      intro hno
      apply hc
      intro p hp he q hq hr
      cases hfx : f q
      · exact absurd ⟨p, q, hp, hq, he, hr, hfx⟩ hno
      · rfl
     obtain ⟨p, q, hp, hq, he, hr, hfx⟩ := h2
     have := cnt_lt (f := f) (g := g) (k := q) (n := n) h.le hq (h.hit q hq hq p hp he hr) hfx
     omega
end
end Go.Proofs.YtgjddnaidjbhlaaGreatDoor.Pl

/- odysseyref12.directly, may: walked by hand. -/
namespace Go.Proofs.YtgjddnaidjbhlaaGreatDoor.Pl
open Go.RowKit Go.IntWalk Go.Proofs.YtgjddnaidjbhlaaGreatDoorW.PrintWords Go.Proofs.YtgjddnaidjbhlaaGreatDoorW.PrintLast Go.Proofs.YtgjddnaidjbhlaaGreatDoorW.PrintMore Go.Proofs.YtgjddnaidjbhlaaGreatDoor.PlName

set_option maxHeartbeats 8000000 in
set_option maxRecDepth 100000 in
theorem may_calls (nm : ByteArray) (l : List Step) (A : Option Addr) (c : Nat) (w : World) (hnm : nm.size ≤ 140737488351232) (hS : StepsAt w A l) (hb : ∀ s ∈ l, StepB s) (hn : l.length ≤ 9000000000000) (hc : l.length ≤ c) :
 Calls Tryz.prog 160 #[.agg #[.string nm, .slice A l.length c]] w fun e w' => e = .returned (.bool (defOk nm l)) ∧ Below w.heap.size w w' := by
 have hbb := below_one w (.cells #[.string nm, .slice A l.length c] 24)
 have hck := Aside0.mk (refCheck_calls nm l A c _ hnm (hS.below hbb) hb hn hc)
 have HW := Aside0.mk hbb
 clear hbb hS hb
 generalize defOk nm l = rr at *
 go_enter Tryz.func160, Tryz.ntmps160
 go_wp2_with (first | (go_at_call 20; refine hck.out.mono ?_; rintro e w1 ⟨⟨xa, xb, rfl, hxb⟩, hb1⟩; have H1 := Aside0.mk (And.intro hxb (on_ HW.out hb1)); clear hxb hb1))
 go_ret
 exact ⟨by rw [← H1.out.1]; rfl, H1.out.2⟩
end Go.Proofs.YtgjddnaidjbhlaaGreatDoor.Pl

/- odysseyref12.numbers: walked by hand. -/
namespace Go.Proofs.YtgjddnaidjbhlaaGreatDoor.Pl
open Go.RowKit Go.IntWalk Go.Proofs.YtgjddnaidjbhlaaGreatDoorW.PrintWords Go.Proofs.YtgjddnaidjbhlaaGreatDoorW.PrintLast Go.Proofs.YtgjddnaidjbhlaaGreatDoorW.PrintMore Go.Proofs.YtgjddnaidjbhlaaGreatDoor.PlName

/-- The worlds of numbers. -/
structure Nb (w wr : World) (nm : ByteArray) (l : List Step) (A : Option Addr) (c : Nat) (f : Nat → Bool) (v : Value) (i : Nat) : Prop where
 below : Below w.heap.size w wr
 box : wr.heap[w.heap.size]? = some (.cells #[.string nm, .slice A l.length c] 24 (0, 0))
 row : wr.heap[w.heap.size + 1]? = some (.cells (rowA f 8) 153 (0, 0))
 own : Own w wr v (sel f i)
end Go.Proofs.YtgjddnaidjbhlaaGreatDoor.Pl

/- odysseyref12.ahead: walked by hand. -/
namespace Go.Proofs.YtgjddnaidjbhlaaGreatDoor.Pl
open Go.RowKit Go.IntWalk Go.Proofs.YtgjddnaidjbhlaaGreatDoorW.PrintWords Go.Proofs.YtgjddnaidjbhlaaGreatDoorW.PrintLast Go.Proofs.YtgjddnaidjbhlaaGreatDoorW.PrintMore Go.Proofs.YtgjddnaidjbhlaaGreatDoor.PlName

/-- The worlds of ahead. -/
structure An (w wr : World) (nm : ByteArray) (l : List Step) (ad : Addr) (c : Nat) (f : Nat → Bool) : Prop where
 below : Below w.heap.size w wr
 box : wr.heap[w.heap.size]? = some (.cells #[.string nm, .slice (some ad) l.length c] 24 (0, 0))
 res : wr.heap[w.heap.size + 1]? = some (.cells (rowA (fun _ => false) 8) 153 (0, 0))
 row : wr.heap[w.heap.size + 1 + 1]? = some (.cells (rowA f 8) 153 (0, 0))
section
variable {w wr W2 : World} {nm : ByteArray} {l : List Step} {ad : Addr} {c : Nat} {f : Nat → Bool}
theorem An.on (h : An w wr nm l ad c f) (hb : Below wr.heap.size wr W2) : An w W2 nm l ad c f := ⟨on_ h.below hb, row_on hb h.box, row_on hb h.res, row_on hb h.row⟩
theorem An.set (h : An w wr nm l ad c f) (m : Nat) : An w (wr.setCell ⟨w.heap.size + 1 + 1, m, none⟩ (.bool true)) nm l ad c (upd f m true) :=
 ⟨h.below.setCell (p := ⟨w.heap.size + 1 + 1, m, none⟩) (Nat.le_trans (Nat.le_succ _) (Nat.le_succ _)) _, row_setCell_ne h.box _ _ (by show w.heap.size ≠ w.heap.size + 1 + 1; omega), row_setCell_ne h.res _ _ (by show w.heap.size + 1 ≠ w.heap.size + 1 + 1; omega), by rw [row_setCell h.row, rowA_set]⟩
theorem An.cells (h : An w wr nm l ad c f) : wr.cell? ⟨w.heap.size, 0, none⟩ = some (.string nm) ∧ wr.cell? ⟨w.heap.size, 1, none⟩ = some (.slice (some ad) l.length c) := ⟨row_cell h.box rfl, row_cell h.box rfl⟩
theorem An.start (w : World) (nm : ByteArray) (l : List Step) (ad : Addr) (c : Nat) {W : World}
 (hW : ((w.alloc (.cells #[.string nm, .slice (some ad) l.length c] 24)).alloc (.cells #[.bool false, .bool false, .bool false, .bool false, .bool false, .bool false, .bool false, .bool false] 153)).alloc (.cells #[.bool false, .bool false, .bool false, .bool false, .bool false, .bool false, .bool false, .bool false] 153) = W) : An w W nm l ad c (fun _ => false) := by
 subst hW
 have h1 := below_one w (.cells #[.string nm, .slice (some ad) l.length c] 24)
 have r1 := alloc1 w (.cells #[.string nm, .slice (some ad) l.length c] 24)
 have s1 : (w.alloc (.cells #[.string nm, .slice (some ad) l.length c] 24)).heap.size = w.heap.size + 1 := by
  show (w.heap.push _).size = _
  simp
 generalize w.alloc (.cells #[.string nm, .slice (some ad) l.length c] 24) = w1 at *
 have h2 := below_one w1 (.cells (rowA (fun _ => false) 8) 153)
 have r2 := alloc1 w1 (.cells (rowA (fun _ => false) 8) 153)
 have s2 : (w1.alloc (.cells (rowA (fun _ => false) 8) 153)).heap.size = w1.heap.size + 1 := by
  show (w1.heap.push _).size = _
  simp
 show An w ((w1.alloc (.cells (rowA (fun _ => false) 8) 153)).alloc (.cells (rowA (fun _ => false) 8) 153)) nm l ad c (fun _ => false)
 generalize w1.alloc (.cells (rowA (fun _ => false) 8) 153) = w2 at *
 have h3 := below_one w2 (.cells (rowA (fun _ => false) 8) 153)
 have r3 := alloc1 w2 (.cells (rowA (fun _ => false) 8) 153)
 rw [s2, s1] at r3
 rw [s1] at r2
 exact ⟨on_ (on_ h1 h2) h3, row_on h3 (row_on h2 r1), row_on h3 r2, r3⟩
end

end Go.Proofs.YtgjddnaidjbhlaaGreatDoor.Pl

/- odysseyref12.Ahead (ZD): walked by hand. -/
namespace Go.Proofs.YtgjddnaidjbhlaaGreatDoor.Pl
open Go.RowKit Go.IntWalk Go.Proofs.YtgjddnaidjbhlaaGreatDoorW.PrintWords Go.Proofs.YtgjddnaidjbhlaaGreatDoorW.PrintLast Go.Proofs.YtgjddnaidjbhlaaGreatDoorW.PrintMore Go.Proofs.YtgjddnaidjbhlaaGreatDoor.PlName

theorem sel_congr {f g : Nat → Bool} {n : Nat} (h : ∀ x, x < n → f x = g x) : sel f n = sel g n := by
 unfold sel
 exact List.filter_congr fun x hx => h x (List.mem_range.1 hx)
end Go.Proofs.YtgjddnaidjbhlaaGreatDoor.Pl

/- odysseyref12.Behind (ZD): walked by hand. -/
namespace Go.Proofs.YtgjddnaidjbhlaaGreatDoor.Pl
open Go.RowKit Go.IntWalk Go.Proofs.YtgjddnaidjbhlaaGreatDoorW.PrintWords Go.Proofs.YtgjddnaidjbhlaaGreatDoorW.PrintLast Go.Proofs.YtgjddnaidjbhlaaGreatDoorW.PrintMore Go.Proofs.YtgjddnaidjbhlaaGreatDoor.PlName

/-- The worlds of Behind. -/
structure Bn (w wr : World) (nm : ByteArray) (l : List Step) (ad : Addr) (c bs : Nat) (g : Nat → Bool) : Prop where
 below : Below w.heap.size w wr
 box : wr.heap[w.heap.size]? = some (.cells #[.string nm, .slice (some ad) l.length c] 24 (0, 0))
 row : wr.heap[bs]? = some (.cells (rowA g 8) 153 (0, 0))
 lt : w.heap.size < bs
section
variable {w wr W2 : World} {nm : ByteArray} {l : List Step} {ad : Addr} {c bs : Nat} {g : Nat → Bool}
theorem Bn.on (h : Bn w wr nm l ad c bs g) (hb : Below wr.heap.size wr W2) : Bn w W2 nm l ad c bs g := ⟨on_ h.below hb, row_on hb h.box, row_on hb h.row, h.lt⟩
theorem Bn.set (h : Bn w wr nm l ad c bs g) (m : Nat) (x : Bool) : Bn w (wr.setCell ⟨bs, m, none⟩ (.bool x)) nm l ad c bs (upd g m x) :=
 ⟨h.below.setCell (p := ⟨bs, m, none⟩) (Nat.le_of_lt h.lt) _, row_setCell_ne h.box _ _ (Nat.ne_of_lt h.lt), by rw [row_setCell h.row, rowA_set], h.lt⟩
theorem Bn.cells (h : Bn w wr nm l ad c bs g) : wr.cell? ⟨w.heap.size, 0, none⟩ = some (.string nm) ∧ wr.cell? ⟨w.heap.size, 1, none⟩ = some (.slice (some ad) l.length c) := ⟨row_cell h.box rfl, row_cell h.box rfl⟩
end
end Go.Proofs.YtgjddnaidjbhlaaGreatDoor.Pl

/- odysseyref12.fit, stands (ZD): walked by hand. -/
namespace Go.Proofs.YtgjddnaidjbhlaaGreatDoor.Pl
open Go.RowKit Go.IntWalk Go.Proofs.YtgjddnaidjbhlaaGreatDoorW.PrintWords Go.Proofs.YtgjddnaidjbhlaaGreatDoorW.PrintLast Go.Proofs.YtgjddnaidjbhlaaGreatDoorW.PrintMore Go.Proofs.YtgjddnaidjbhlaaGreatDoor.PlName

theorem st_get {st : List Int} {k : Nat} (h : k < st.length) : st[k] = stOf st k := by
 unfold stOf
 simp [h]
end Go.Proofs.YtgjddnaidjbhlaaGreatDoor.Pl

/- odysseyref12.Ready (ZD): walked by hand. -/
namespace Go.Proofs.YtgjddnaidjbhlaaGreatDoor.Pl
open Go.RowKit Go.IntWalk Go.Proofs.YtgjddnaidjbhlaaGreatDoorW.PrintWords Go.Proofs.YtgjddnaidjbhlaaGreatDoorW.PrintLast Go.Proofs.YtgjddnaidjbhlaaGreatDoorW.PrintMore Go.Proofs.YtgjddnaidjbhlaaGreatDoor.PlName

/-- The worlds of Ready's inner loop: another row of marks. -/
structure Rq (w W : World) (nm : ByteArray) (l : List Step) (ad : Addr) (c bs : Nat) (g : Nat → Bool) (ba : Nat) (f : Nat → Bool) : Prop where
 bn : Bn w W nm l ad c bs g
 row2 : W.heap[ba]? = some (.cells (rowA f 8) 153 (0, 0))
 ne : bs < ba
section
variable {w W W2 : World} {nm : ByteArray} {l : List Step} {ad : Addr} {c bs ba : Nat} {g f : Nat → Bool}
theorem Rq.on (h : Rq w W nm l ad c bs g ba f) (hb : Below W.heap.size W W2) : Rq w W2 nm l ad c bs g ba f := ⟨h.bn.on hb, row_on hb h.row2, h.ne⟩
theorem Rq.set (h : Rq w W nm l ad c bs g ba f) (m : Nat) (x : Bool) : Rq w (W.setCell ⟨bs, m, none⟩ (.bool x)) nm l ad c bs (upd g m x) ba f := ⟨h.bn.set m x, row_setCell_ne h.row2 _ _ (Nat.ne_of_gt h.ne), h.ne⟩
theorem Rq.start (h : Bn w W nm l ad c bs g) (hW : W.alloc (.cells #[.bool (f 0), .bool (f 1), .bool (f 2), .bool (f 3), .bool (f 4), .bool (f 5), .bool (f 6), .bool (f 7)] 153) = W2) : Rq w W2 nm l ad c bs g W.heap.size f := by
 subst hW
 exact ⟨h.on (below_one _ _), alloc1 W (.cells (rowA f 8) 153), (Array.getElem?_eq_some_iff.1 h.row).1⟩
end
end Go.Proofs.YtgjddnaidjbhlaaGreatDoor.Pl

/- Instances as plain data, and what may be: as the program has it (plain). -/
namespace Go.Proofs.YtgjddnaidjbhlaaGreatDoor.Ph
open Go.RowKit Go.Proofs.YtgjddnaidjbhlaaGreatDoor.Pl

structure Inst where
 id : Int
 key : ByteArray
 name : ByteArray
 version : Int
 phase : Int
 cause : Int
 steps : List Int
 freed : Nat → Int

def kindOf (l : List Step) (i : Nat) : Int := (stepAt l i).kind
def hasK (l : List Step) (kind : Int) (i : Nat) : Bool := kind == 0 || kindOf l i == kind
def inS (x : Inst) (sts : List Int) (i : Nat) : Bool := sts.contains (stOf x.steps i)
def countL (l : List Step) (x : Inst) (kind : Int) (sts : List Int) : Nat := cnt (fun i => hasK l kind i && inS x sts i) l.length
def kindsL (l : List Step) (kind : Int) : Nat := cnt (hasK l kind) l.length
def allL (l : List Step) (x : Inst) (kind : Int) (sts : List Int) : Bool := allF (hasK l kind) (inS x sts) l.length
def someL (l : List Step) (x : Inst) (kind : Int) (sts : List Int) : Bool := (List.range l.length).any fun i => hasK l kind i && inS x sts i

theorem cnt_and {p q : Nat → Bool} : ∀ {n}, cnt (fun i => p i && q i) n = cnt p n ↔ allF p q n = true
 | 0 => by simp [cnt, allF]
 | n + 1 => by
  have ih := cnt_and (p := p) (q := q) (n := n)
  have hle : cnt (fun i => p i && q i) n ≤ cnt p n := cnt_mono fun i _ h => (Bool.and_eq_true_iff.1 h).1
  have hs : allF p q (n + 1) = (allF p q n && (!p n || q n)) := by
   unfold allF
   rw [List.range_succ, List.all_append]
   simp
  have h1 : cnt (fun i => p i && q i) (n + 1) = cnt (fun i => p i && q i) n + if (p n && q n) = true then 1 else 0 := rfl
  have h2 : cnt p (n + 1) = cnt p n + if p n = true then 1 else 0 := rfl
  rw [hs, h1, h2]
  generalize cnt (fun i => p i && q i) n = A at *
  generalize cnt p n = B at *
  generalize allF p q n = C at *
  generalize p n = u
  generalize q n = v
  cases u <;> cases v <;> cases C <;> simp at * <;> omega
theorem count_all (l : List Step) (x : Inst) (kind : Int) (sts : List Int) : (((countL l x kind sts : Nat) : Int) == (kindsL l kind : Int)) = allL l x kind sts := by
 rw [Bool.eq_iff_iff, beq_iff_eq]
 have := cnt_and (p := hasK l kind) (q := inS x sts) (n := l.length)
 unfold countL kindsL allL
 rw [← this]
 omega
theorem cnt_pos {f : Nat → Bool} : ∀ {n}, 0 < cnt f n ↔ (List.range n).any f = true
 | 0 => by simp [cnt]
 | n + 1 => by
  have h1 : cnt f (n + 1) = cnt f n + if f n = true then 1 else 0 := rfl
  have h2 : (List.range (n + 1)).any f = ((List.range n).any f || f n) := by simp [List.range_succ]
  rw [h1, h2, Bool.or_eq_true, ← cnt_pos (n := n)]
  generalize cnt f n = A
  generalize f n = u
  cases u <;> simp
theorem count_some (l : List Step) (x : Inst) (kind : Int) (sts : List Int) : decide (((countL l x kind sts : Nat) : Int) > 0) = someL l x kind sts := by
 rw [Bool.eq_iff_iff, decide_eq_true_eq]
 unfold someL
 rw [← cnt_pos]
 unfold countL
 omega

def backL (x : Inst) : Bool := x.phase == 5 || x.phase == 6
def overL (x : Inst) : Bool := x.phase == 4 || x.phase == 6
/-- Are all that are ahead of a step done or undone? Is none behind it under way? -/
noncomputable def aheadOk (l : List Step) (x : Inst) (i : Nat) : Bool := allF (fun k => wars (direct l) l.length i k) (fun k => stOf x.steps k == 2 || stOf x.steps k == 5) l.length
noncomputable def behindOk (l : List Step) (x : Inst) (i : Nat) : Bool := allF (fun k => wars (direct l) l.length k i) (fun k => !(stOf x.steps k == 1 || stOf x.steps k == 2)) l.length
noncomputable def stepB (l : List Step) (x : Inst) (i : Nat) : Bool :=
 if stOf x.steps i == 5 then !(kindOf l i == 2 || !behindOk l x i) && (!(kindOf l i == 3 || !backL x) && aheadOk l x i)
 else if stOf x.steps i == 3 || stOf x.steps i == 4 then !(kindOf l i == 3 || !backL x) && aheadOk l x i
 else if stOf x.steps i == 1 || stOf x.steps i == 2 then aheadOk l x i
 else stOf x.steps i == 0
noncomputable def stepsL (l : List Step) (x : Inst) : Bool := (List.range x.steps.length).all (stepB l x)
def named (l : List Step) (p : Nat) : Bool := (List.range l.length).any fun i => (stepAt l i).part == (p : Int)
def mayFree (l : List Step) (x : Inst) (p : Nat) : Bool := x.freed p == 0 || (x.freed p == 1 && named l p && overL x)
def mayL (l : List Step) (x : Inst) : Bool := (List.range 4).all (mayFree l x)
def doneL (l : List Step) (x : Inst) : Bool := (List.range 4).all fun p => x.freed p == 1 || !named l p
def turnedL (l : List Step) (x : Inst) : Bool :=
 if decide (x.cause < 1) || decide (x.cause > 4) then false
 else if !allL l x 3 [0] || (((kindsL l 3 : Nat) : Int) == (l.length : Int) || !allL l x 2 [0, 3, 4]) then false
 else if (someL l x 2 [3] || someL l x 2 [4]) && !allL l x 1 [2, 5] then false
 else if (someL l x 2 [3] && x.cause != 3) || (someL l x 2 [4] && x.cause != 4) then false
 else if x.cause == 3 then someL l x 0 [3]
 else if x.cause == 4 then someL l x 0 [4]
 else true
def fwd (l : List Step) (x : Inst) : Bool := x.cause == 0 && allL l x 3 [0]
def phaseL (l : List Step) (x : Inst) : Bool :=
 if x.phase == 1 then fwd l x && (allL l x 2 [0] && (((kindsL l 2 : Nat) : Int) == 1 || !allL l x 1 [2]))
 else if x.phase == 2 then fwd l x && (allL l x 1 [2] && (((kindsL l 2 : Nat) : Int) == 1 && allL l x 2 [1]))
 else if x.phase == 3 then x.cause == 0 && (allL l x 1 [2] && allL l x 2 [2])
 else if x.phase == 4 then x.cause == 0 && (allL l x 0 [2] && !doneL l x)
 else if x.phase == 5 then turnedL l x
 else if x.phase == 6 then turnedL l x && (!someL l x 0 [1, 2] && !doneL l x)
 else false
def briefL (x : Inst) : Bool := (List.range 4).all (fun p => x.freed p == 0) && ((x.phase == 4 && x.cause == 0) || (x.phase == 6 && (decide (x.cause ≥ 1) && decide (x.cause ≤ 4))))
noncomputable def headOk (nm : ByteArray) (l : List Step) (x : Inst) : Bool := defOk nm l && (decide (1 ≤ x.id) && (decide (x.id ≤ 60) && (Nm.isName x.key && (x.name.toList == nm.toList && (decide (1 ≤ x.version) && decide (x.version ≤ 16))))))
/-- The sort of an instance: 0 none, 1 open, 2 a brief. -/
noncomputable def sortL (nm : ByteArray) (l : List Step) (x : Inst) : Int :=
 if !headOk nm l x then 0
 else if x.steps.length == 0 then (if briefL x then 2 else 0)
 else if x.steps.length != l.length then 0
 else if !stepsL l x || !phaseL l x then 0
 else if mayL l x then 1 else 0
end Go.Proofs.YtgjddnaidjbhlaaGreatDoor.Ph

/- phase.view: over, back, kinds, count, all (P19): walked by hand. -/
namespace Go.Proofs.YtgjddnaidjbhlaaGreatDoor.Ph
open Go.RowKit Go.IntWalk Go.Proofs.YtgjddnaidjbhlaaGreatDoorW.PrintWords Go.Proofs.YtgjddnaidjbhlaaGreatDoorW.PrintLast Go.Proofs.YtgjddnaidjbhlaaGreatDoorW.PrintMore Go.Proofs.YtgjddnaidjbhlaaGreatDoor.PlName Go.Proofs.YtgjddnaidjbhlaaGreatDoor.Pl

/-- A view lies in a box. -/
structure Vw (w W : World) (nm : ByteArray) (l : List Step) (A : Option Addr) (c : Nat) (x : Inst) (B : Option Addr) (cb : Nat) : Prop where
 below : Below w.heap.size w W
 box : W.heap[w.heap.size]? = some (.cells #[.string nm, .slice A l.length c, .int .i64 x.id, .string x.key, .string x.name, .int .i64 x.version, .int .i64 x.phase, .int .i64 x.cause, .slice B x.steps.length cb, .int .i64 (x.freed 0), .int .i64 (x.freed 1), .int .i64 (x.freed 2), .int .i64 (x.freed 3)] 65 (0, 0))
section
variable {w W W2 : World} {nm : ByteArray} {l : List Step} {A : Option Addr} {c : Nat} {x : Inst} {B : Option Addr} {cb : Nat}
theorem Vw.on (h : Vw w W nm l A c x B cb) (hb : Below W.heap.size W W2) : Vw w W2 nm l A c x B cb := ⟨on_ h.below hb, row_on hb h.box⟩
theorem Vw.start (nm : ByteArray) (l : List Step) (A : Option Addr) (c : Nat) (x : Inst) (B : Option Addr) (cb : Nat) (w : World) : Vw w (w.alloc (.cells #[.string nm, .slice A l.length c, .int .i64 x.id, .string x.key, .string x.name, .int .i64 x.version, .int .i64 x.phase, .int .i64 x.cause, .slice B x.steps.length cb, .int .i64 (x.freed 0), .int .i64 (x.freed 1), .int .i64 (x.freed 2), .int .i64 (x.freed 3)] 65)) nm l A c x B cb := ⟨below_one _ _, alloc1 w _⟩
theorem Vw.cells (h : Vw w W nm l A c x B cb) : W.cell? ⟨w.heap.size, 0, none⟩ = some (.string nm) ∧ W.cell? ⟨w.heap.size, 1, none⟩ = some (.slice A l.length c) ∧ W.cell? ⟨w.heap.size, 2, none⟩ = some (.int .i64 x.id) ∧ W.cell? ⟨w.heap.size, 3, none⟩ = some (.string x.key) ∧ W.cell? ⟨w.heap.size, 4, none⟩ = some (.string x.name) ∧ W.cell? ⟨w.heap.size, 5, none⟩ = some (.int .i64 x.version) ∧ W.cell? ⟨w.heap.size, 6, none⟩ = some (.int .i64 x.phase) ∧ W.cell? ⟨w.heap.size, 7, none⟩ = some (.int .i64 x.cause) ∧ W.cell? ⟨w.heap.size, 8, none⟩ = some (.slice B x.steps.length cb) ∧ W.cell? ⟨w.heap.size, 9, none⟩ = some (.int .i64 (x.freed 0)) ∧ W.cell? ⟨w.heap.size, 10, none⟩ = some (.int .i64 (x.freed 1)) ∧ W.cell? ⟨w.heap.size, 11, none⟩ = some (.int .i64 (x.freed 2)) ∧ W.cell? ⟨w.heap.size, 12, none⟩ = some (.int .i64 (x.freed 3)) := ⟨row_cell h.box rfl, row_cell h.box rfl, row_cell h.box rfl, row_cell h.box rfl, row_cell h.box rfl, row_cell h.box rfl, row_cell h.box rfl, row_cell h.box rfl, row_cell h.box rfl, row_cell h.box rfl, row_cell h.box rfl, row_cell h.box rfl, row_cell h.box rfl⟩
theorem Vw.phase (h : Vw w W nm l A c x B cb) : W.cell? ⟨w.heap.size, 6, none⟩ = some (.int .i64 x.phase) := row_cell h.box rfl
theorem Vw.st (h : Vw w W nm l A c x B cb) : W.cell? ⟨w.heap.size, 8, none⟩ = some (.slice B x.steps.length cb) := row_cell h.box rfl
end

set_option maxHeartbeats 4000000 in
set_option maxRecDepth 100000 in
theorem over_calls (nm : ByteArray) (l : List Step) (A : Option Addr) (c : Nat) (x : Inst) (B : Option Addr) (cb : Nat) (w : World) : Calls Tryz.prog 58 #[.agg #[.string nm, .slice A l.length c, .int .i64 x.id, .string x.key, .string x.name, .int .i64 x.version, .int .i64 x.phase, .int .i64 x.cause, .slice B x.steps.length cb, .int .i64 (x.freed 0), .int .i64 (x.freed 1), .int .i64 (x.freed 2), .int .i64 (x.freed 3)]] w fun e w' => e = .returned (.bool (overL x)) ∧ Below w.heap.size w w' := by
 have HF : Aside0 (overL x = ((x.phase == 4) || (x.phase == 6))) := ⟨rfl⟩
 have HV := Aside0.mk (Vw.start nm l A c x B cb w)
 generalize overL x = rr at *
 go_enter Tryz.func58, Tryz.ntmps58
 cases h1 : (x.phase == 4)
 all_goals
  rw [h1] at HF
  go_wp2
  go_ret
  exact ⟨by rw [HF.out]; rfl, HV.out.below⟩
set_option maxHeartbeats 4000000 in
set_option maxRecDepth 100000 in
theorem back_calls (nm : ByteArray) (l : List Step) (A : Option Addr) (c : Nat) (x : Inst) (B : Option Addr) (cb : Nat) (w : World) : Calls Tryz.prog 164 #[.agg #[.string nm, .slice A l.length c, .int .i64 x.id, .string x.key, .string x.name, .int .i64 x.version, .int .i64 x.phase, .int .i64 x.cause, .slice B x.steps.length cb, .int .i64 (x.freed 0), .int .i64 (x.freed 1), .int .i64 (x.freed 2), .int .i64 (x.freed 3)]] w fun e w' => e = .returned (.bool (backL x)) ∧ Below w.heap.size w w' := by
 have HF : Aside0 (backL x = ((x.phase == 5) || (x.phase == 6))) := ⟨rfl⟩
 have HV := Aside0.mk (Vw.start nm l A c x B cb w)
 generalize backL x = rr at *
 go_enter Tryz.func164, Tryz.ntmps164
 cases h1 : (x.phase == 5)
 all_goals
  rw [h1] at HF
  go_wp2
  go_ret
  exact ⟨by rw [HF.out]; rfl, HV.out.below⟩

theorem stepAt_mem {l : List Step} {i : Nat} (h : i < l.length) : stepAt l i ∈ l := List.mem_of_getElem? (stepAt_eq h)
theorem cnt_hit {f : Nat → Bool} {k : Nat} (h : f k = true) : cnt f (k + 1) = cnt f k + 1 := by
 show cnt f k + (if f k = true then 1 else 0) = _
 rw [if_pos h]
theorem cnt_miss {f : Nat → Bool} {k : Nat} (h : f k = false) : cnt f (k + 1) = cnt f k := by
 show cnt f k + (if f k = true then 1 else 0) = _
 rw [h]
 simp
set_option maxHeartbeats 8000000 in
set_option maxRecDepth 100000 in
theorem kinds_calls (nm : ByteArray) (l : List Step) (A : Option Addr) (c : Nat) (x : Inst) (B : Option Addr) (cb : Nat) (kind : Int) (w : World) (hS : StepsAt w A l) (hl8 : l.length ≤ 8) : Calls Tryz.prog 33 #[.agg #[.string nm, .slice A l.length c, .int .i64 x.id, .string x.key, .string x.name, .int .i64 x.version, .int .i64 x.phase, .int .i64 x.cause, .slice B x.steps.length cb, .int .i64 (x.freed 0), .int .i64 (x.freed 1), .int .i64 (x.freed 2), .int .i64 (x.freed 3)], .int .i64 kind] w fun e w' => e = .returned (.int .i64 (kindsL l kind : Nat)) ∧ Below w.heap.size w w' := by
 have HV := Aside0.mk (Vw.start nm l A c x B cb w)
 have HA := Aside0.mk hS
 clear hS
 go_enter Tryz.func33, Tryz.ntmps33
 go_wp2
 generalize World.alloc w _ = w0 at *
 go_loopw [5, 12] (fun v5 v12 wr => ∃ k : Nat, k ≤ l.length ∧ v12 = .int .i64 (k : Int) ∧ v5 = .int .i64 (cnt (hasK l kind) k : Nat) ∧ Vw w wr nm l A c x B cb) (fun _ v12 _ => l.length - (intOf v12).toNat)
 case atStart => exact ⟨0, Nat.zero_le _, rfl, rfl, HV.out⟩
 case round =>
  obtain ⟨k, hk, rfl, rfl, hN⟩ := hrel
  have HG := Aside0.mk hN
  have hle := cnt_le (hasK l kind) k
  clear HV hN
  by_cases hlt : k < l.length
  · have hd1 : decide ((k : Int) < (l.length : Int)) = true := decide_eq_true (by omega)
    obtain ⟨ad, rfl, A1, c1, A2, c2, h1⟩ := HA.out.one (stepAt_eq hlt)
    obtain ⟨hq0, hq1, hq2, hq3, hq4, _, _, _, _⟩ := h1.below HG.out.below
    have HH : Aside0 (hasK l kind k = ((kind == 0) || ((stepAt l k).kind == kind))) := ⟨rfl⟩
    clear h1
    generalize stepAt l k = s at *
    have hbx := Aside0.mk (HG.out.on (below_one wr (.cells #[.string s.name, .int .i64 s.kind, .int .i64 s.part, .slice A1 s.keys.length c1, .slice A2 s.needs.length c2] 70)))
    cases h0 : (kind == 0)
    · cases h2 : (s.kind == kind)
      · have HE : Aside0 (hasK l kind k = false) := ⟨by rw [HH.out, h0, h2]; rfl⟩
        go_wp2
        go_roundw
        case rel => exact ⟨k + 1, hlt, by go_num, by rw [cnt_miss HE.out], hbx.out⟩
        case measure => simp [intOf]; omega
      · have HE : Aside0 (hasK l kind k = true) := ⟨by rw [HH.out, h0, h2]; rfl⟩
        go_wp2
        go_roundw
        case rel => exact ⟨k + 1, hlt, by go_num, by rw [cnt_hit HE.out]; go_num, hbx.out⟩
        case measure => simp [intOf]; omega
    · have HE : Aside0 (hasK l kind k = true) := ⟨by rw [HH.out, h0]; rfl⟩
      go_wp2
      go_roundw
      case rel => exact ⟨k + 1, hlt, by go_num, by rw [cnt_hit HE.out]; go_num, hbx.out⟩
      case measure => simp [intOf]; omega
  · have hk' : k = l.length := by omega
    subst hk'
    have hd1 : decide ((l.length : Int) < (l.length : Int)) = false := decide_eq_false (by omega)
    go_wp2
    go_ret
    exact ⟨rfl, HG.out.below⟩
end Go.Proofs.YtgjddnaidjbhlaaGreatDoor.Ph

/- slices.Clone over numbers and over strings: the walks, by hand. -/
namespace Go.Proofs.YtgjddnaidjbhlaaGreatDoor.Ph
open Go.RowKit Go.IntWalk Go.Proofs.YtgjddnaidjbhlaaGreatDoorW.PrintWords Go.Proofs.YtgjddnaidjbhlaaGreatDoor.PlName Go.Proofs.YtgjddnaidjbhlaaGreatDoor.Pl

theorem nil_int (w : World) (a : Option Addr) (n c n' c' : Nat) : (binOp .eql 25 (.slice a n c) (.slice none n' c')).run Tryz.prog w = .ok (.bool a.isNone) w := by
 cases a <;> kernel_rfl
theorem nil_str (w : World) (a : Option Addr) (n c n' c' : Nat) : (binOp .eql 53 (.slice a n c) (.slice none n' c')).run Tryz.prog w = .ok (.bool a.isNone) w := by
 cases a <;> kernel_rfl
/-- Numbers that lie in memory of one's own, from a block on. -/
def OwnI (w : World) (lo : Nat) (v : Value) (xs : List Int) : Prop := w.ownsRow lo 3 1 v xs.length (encs (Value.int .i64) xs)
theorem OwnI.reads {w : World} {lo : Nat} {v : Value} {xs : List Int} (h : OwnI w lo v xs) : ∃ A c, v = .slice A xs.length c ∧ xs.length ≤ c ∧ Kd.C (Kd.int .i64) w A xs.length xs := by
 obtain ⟨A, c, e, h2, h3⟩ := Kd.R_reads (d := Kd.int .i64) (Kd.R_of_own (enc := Value.int .i64) (h1 := fun _ => rfl) (ok := fun _ => True) h fun _ _ => trivial)
 exact ⟨A, c, e, h2, h3⟩
set_option maxHeartbeats 1000000 in
set_option maxRecDepth 100000 in
theorem cloneI_calls (w : World) (A : Option Addr) (c : Nat) (ks : List Int) (hr : Kd.C (Kd.int .i64) w A ks.length ks) (hl : ks.length * 8 ≤ 140737488355328) :
 Calls Tryz.prog 61 #[.slice A ks.length c] w fun e w' => ∃ v, e = .returned v ∧ OwnI w' w.heap.size v ks ∧ Below w.heap.size w w' := by
 cases A with
 | none =>
  have h0 : ks = [] := by
   by_cases hlt : 0 < ks.length
   · obtain ⟨ad, e, _⟩ := int_at hr hlt
     cases e
   · exact List.eq_nil_of_length_eq_zero (by omega)
  subst h0
  clear hr hl
  have he := fun n c n' c' => nil_int w none n c n' c'
  go_enter Tryz.func61, Tryz.ntmps61
  go_wp2
  go_ret
  exact ⟨_, rfl, World.ownsRow_nil _ _ _ _, Below.refl _ _⟩
 | some a =>
  have he := fun n c n' c' => nil_int w (some a) n c n' c'
  have HR := Aside0.mk (And.intro hr hl)
  clear hr hl
  go_enter Tryz.func61, Tryz.ntmps61
  go_wp2_with (at_builtin; refine Kd.R_append_rows (Kd.int .i64) (Rr := (Kd.int .i64).K w) (w0 := w) w.heap.size rfl _ _ 25 3 (.int .i64 0) 8 rfl Tryz.underlying25 (by kernel_rfl) rfl (by decide) (by decide) _ [] ks (some a) ks.length c (fun _ => True) (fun _ => False) rfl rfl ?_ ?_ ?_ ?_ ?_ ?_ ?_ ?_ ?_)
  · exact Kd.R_of_own (World.ownsRow_made w #[] 0 (Nat.le_refl _) (Nat.zero_le _) rfl) (fun _ _ => trivial)
  · exact Kd.C_below HR.out.1 ((Below.refl _ _).alloc (Nat.le_refl _) _)
  · intro x cs h
    exact h
  · intro k hk
    exact hk.elim
  · intro _ _
    trivial
  · exact (Below.refl _ _).alloc (Nat.le_refl _) _
  · simp
  · have := HR.out.2
    simpa using this
  · intro v1 w1 hv1 hb1 _ _
    have H1 := Aside0.mk (And.intro hv1 hb1)
    clear hv1 hb1
    go_wp2
    go_ret
    exact ⟨_, rfl, Kd.own_of_R H1.out.1, H1.out.2⟩
set_option maxHeartbeats 1000000 in
set_option maxRecDepth 100000 in
theorem cloneS_calls (w : World) (A : Option Addr) (c : Nat) (ks : List ByteArray) (hr : Kd.C Kd.string w A ks.length ks) (hl : ks.length * 16 ≤ 140737488355328) :
 Calls Tryz.prog 67 #[.slice A ks.length c] w fun e w' => ∃ v, e = .returned v ∧ Kd.R Kd.string 9 w' w.heap.size (fun _ => True) v ks ∧ Below w.heap.size w w' := by
 cases A with
 | none =>
  have h0 : ks = [] := by
   by_cases hlt : 0 < ks.length
   · obtain ⟨ad, e, _⟩ := Kd.at_string hr ((0 : Nat) : Int) (by omega) (by omega)
     cases e
   · exact List.eq_nil_of_length_eq_zero (by omega)
  subst h0
  clear hr hl
  have he := fun n c n' c' => nil_str w none n c n' c'
  go_enter Tryz.func67, Tryz.ntmps67
  go_wp2
  go_ret
  exact ⟨_, rfl, Kd.R_nil _ _ _ _ _, Below.refl _ _⟩
 | some a =>
  have he := fun n c n' c' => nil_str w (some a) n c n' c'
  have HR := Aside0.mk (And.intro hr hl)
  clear hr hl
  go_enter Tryz.func67, Tryz.ntmps67
  go_wp2_with (at_builtin; refine Kd.R_append_rows Kd.string (Rr := Kd.string.K w) (w0 := w) w.heap.size rfl _ _ 53 9 (.string ByteArray.empty) 16 rfl Tryz.underlying53 (by kernel_rfl) rfl (by decide) (by decide) _ [] ks (some a) ks.length c (fun _ => True) (fun _ => False) rfl rfl ?_ ?_ ?_ ?_ ?_ ?_ ?_ ?_ ?_)
  · exact Kd.R_of_own (World.ownsRow_made w #[] 0 (Nat.le_refl _) (Nat.zero_le _) rfl) (fun _ _ => trivial)
  · exact Kd.C_below HR.out.1 ((Below.refl _ _).alloc (Nat.le_refl _) _)
  · intro x cs h
    exact h
  · intro k hk
    exact hk.elim
  · intro _ _
    trivial
  · exact (Below.refl _ _).alloc (Nat.le_refl _) _
  · simp
  · have := HR.out.2
    simpa using this
  · intro v1 w1 hv1 hb1 _ _
    have H1 := Aside0.mk (And.intro hv1 hb1)
    clear hv1 hb1
    go_wp2
    go_ret
    exact ⟨_, rfl, H1.out.1, H1.out.2⟩
end Go.Proofs.YtgjddnaidjbhlaaGreatDoor.Ph

/- phase.view: count, all (P19): walked by hand. -/
namespace Go.Proofs.YtgjddnaidjbhlaaGreatDoor.Ph
open Go.RowKit Go.IntWalk Go.Proofs.YtgjddnaidjbhlaaGreatDoorW.PrintWords Go.Proofs.YtgjddnaidjbhlaaGreatDoorW.PrintLast Go.Proofs.YtgjddnaidjbhlaaGreatDoorW.PrintMore Go.Proofs.YtgjddnaidjbhlaaGreatDoor.PlName Go.Proofs.YtgjddnaidjbhlaaGreatDoor.Pl

set_option maxHeartbeats 8000000 in
set_option maxRecDepth 100000 in
theorem count_calls (nm : ByteArray) (l : List Step) (A : Option Addr) (c : Nat) (x : Inst) (B : Option Addr) (cb : Nat) (kind : Int) (S : Option Addr) (cs : Nat) (sts : List Int) (w : World) (hS : StepsAt w A l) (hl8 : l.length ≤ 8) (hx : x.steps.length = l.length) (hB : Kd.C (Kd.int .i64) w B x.steps.length x.steps) (hs : Kd.C (Kd.int .i64) w S sts.length sts) (hs8 : sts.length ≤ 8) :
 Calls Tryz.prog 136 #[.agg #[.string nm, .slice A l.length c, .int .i64 x.id, .string x.key, .string x.name, .int .i64 x.version, .int .i64 x.phase, .int .i64 x.cause, .slice B x.steps.length cb, .int .i64 (x.freed 0), .int .i64 (x.freed 1), .int .i64 (x.freed 2), .int .i64 (x.freed 3)], .int .i64 kind, .slice S sts.length cs] w fun e w' => e = .returned (.int .i64 (countL l x kind sts : Nat)) ∧ Below w.heap.size w w' := by
 have HV := Aside0.mk (Vw.start nm l A c x B cb w)
 have HX := Aside0.mk hx
 have HA := Aside0.mk (And.intro hS (And.intro hB hs))
 have hx8 : x.steps.length ≤ 8 := by omega
 clear hS hB hs hx
 go_enter Tryz.func136, Tryz.ntmps136
 go_wp2
 generalize World.alloc w _ = w0 at *
 go_loopw [7, 14] (fun v7 v14 wr => ∃ k : Nat, k ≤ l.length ∧ v14 = .int .i64 (k : Int) ∧ v7 = .int .i64 (cnt (fun i => hasK l kind i && inS x sts i) k : Nat) ∧ Vw w wr nm l A c x B cb) (fun _ v14 _ => l.length - (intOf v14).toNat)
 case atStart => exact ⟨0, Nat.zero_le _, rfl, rfl, HV.out⟩
 case round =>
  obtain ⟨k, hk, rfl, rfl, hN⟩ := hrel
  have HG := Aside0.mk hN
  have hle := cnt_le (fun i => hasK l kind i && inS x sts i) k
  clear HV hN
  by_cases hlt : k < l.length
  · have hd1 : decide ((k : Int) < (l.length : Int)) = true := decide_eq_true (by omega)
    have hkx : k < x.steps.length := by have := HX.out; omega
    have hd2 : decide ((k : Int) < (x.steps.length : Int)) = true := decide_eq_true (by omega)
    obtain ⟨ad, rfl, A1, c1, A2, c2, h1⟩ := HA.out.1.one (stepAt_eq hlt)
    obtain ⟨hq0, hq1, hq2, hq3, hq4, _, _, _, _⟩ := h1.below HG.out.below
    obtain ⟨ab, rfl, hy⟩ := int_at HA.out.2.1 hkx
    rw [st_get hkx] at hy
    have HH : Aside0 ((hasK l kind k && inS x sts k) = (((kind == 0) || ((stepAt l k).kind == kind)) && sts.contains (stOf x.steps k))) := ⟨rfl⟩
    clear h1
    generalize stepAt l k = s at *
    generalize stOf x.steps k = y at *
    have hbx := Aside0.mk (HG.out.on (below_one wr (.cells #[.string s.name, .int .i64 s.kind, .int .i64 s.part, .slice A1 s.keys.length c1, .slice A2 s.needs.length c2] 70)))
    have hq8 := hbx.out.st
    have hy2 := cell_on hbx.out.below hy
    have hcon := Aside0.mk (contains_calls S cs sts y _ (Kd.C_below HA.out.2.2 hbx.out.below) (by omega))
    clear hy
    cases h0 : (kind == 0)
    · cases h2 : (s.kind == kind)
      · have HE : Aside0 ((hasK l kind k && inS x sts k) = false) := ⟨by rw [HH.out, h0, h2]; rfl⟩
        go_wp2
        go_roundw
        case rel => exact ⟨k + 1, hlt, by go_num, by rw [cnt_miss HE.out], hbx.out⟩
        case measure => simp [intOf]; omega
      · cases hcc : sts.contains y
        · have HE : Aside0 ((hasK l kind k && inS x sts k) = false) := ⟨by rw [HH.out, hcc, Bool.and_false]⟩
          rw [hcc] at hcon
          go_wp2_with (first | (go_at_call 118; refine hcon.out.mono ?_; rintro e w5 ⟨rfl, rfl⟩))
          go_roundw
          case rel => exact ⟨k + 1, hlt, by go_num, by rw [cnt_miss HE.out], hbx.out⟩
          case measure => simp [intOf]; omega
        · have HE : Aside0 ((hasK l kind k && inS x sts k) = true) := ⟨by rw [HH.out, h0, h2, hcc]; rfl⟩
          rw [hcc] at hcon
          go_wp2_with (first | (go_at_call 118; refine hcon.out.mono ?_; rintro e w5 ⟨rfl, rfl⟩))
          go_roundw
          case rel => exact ⟨k + 1, hlt, by go_num, by rw [cnt_hit HE.out]; go_num, hbx.out⟩
          case measure => simp [intOf]; omega
    · cases hcc : sts.contains y
      · have HE : Aside0 ((hasK l kind k && inS x sts k) = false) := ⟨by rw [HH.out, hcc, Bool.and_false]⟩
        rw [hcc] at hcon
        go_wp2_with (first | (go_at_call 118; refine hcon.out.mono ?_; rintro e w5 ⟨rfl, rfl⟩))
        go_roundw
        case rel => exact ⟨k + 1, hlt, by go_num, by rw [cnt_miss HE.out], hbx.out⟩
        case measure => simp [intOf]; omega
      · have HE : Aside0 ((hasK l kind k && inS x sts k) = true) := ⟨by rw [HH.out, h0, hcc]; rfl⟩
        rw [hcc] at hcon
        go_wp2_with (first | (go_at_call 118; refine hcon.out.mono ?_; rintro e w5 ⟨rfl, rfl⟩))
        go_roundw
        case rel => exact ⟨k + 1, hlt, by go_num, by rw [cnt_hit HE.out]; go_num, hbx.out⟩
        case measure => simp [intOf]; omega
  · have hk' : k = l.length := by omega
    subst hk'
    have hd1 : decide ((l.length : Int) < (l.length : Int)) = false := decide_eq_false (by omega)
    go_wp2
    go_ret
    exact ⟨rfl, HG.out.below⟩
end Go.Proofs.YtgjddnaidjbhlaaGreatDoor.Ph

/- phase.view: steps (P19): walked by hand. -/
namespace Go.Proofs.YtgjddnaidjbhlaaGreatDoor.Ph
open Go.RowKit Go.IntWalk Go.Proofs.YtgjddnaidjbhlaaGreatDoorW.PrintWords Go.Proofs.YtgjddnaidjbhlaaGreatDoorW.PrintLast Go.Proofs.YtgjddnaidjbhlaaGreatDoorW.PrintMore Go.Proofs.YtgjddnaidjbhlaaGreatDoor.PlName Go.Proofs.YtgjddnaidjbhlaaGreatDoor.Pl

set_option maxHeartbeats 4000000 in
set_option maxRecDepth 100000 in
theorem under_calls {nm : ByteArray} {l : List Step} {A : Option Addr} {c : Nat} {x : Inst} {B : Option Addr} {cb : Nat} {w W : World} (h : Vw w W nm l A c x B cb) (hB : Kd.C (Kd.int .i64) W B x.steps.length x.steps) {k : Nat} (hk : k < x.steps.length) (hx8 : x.steps.length ≤ 8) :
 Calls Tryz.prog 163 #[.int .i64 (k : Int), .pointer (some ⟨w.heap.size, 0, none⟩)] W fun e w' => e = .returned (.bool (stOf x.steps k == 1 || stOf x.steps k == 2)) ∧ Below W.heap.size W w' := by
 obtain ⟨ab, rfl, hy⟩ := int_at hB hk
 rw [st_get hk] at hy
 have hq := h.st
 have hd : decide ((k : Int) < (x.steps.length : Int)) = true := decide_eq_true (by omega)
 clear h hB
 generalize stOf x.steps k = y at *
 go_enter Tryz.func163, Tryz.ntmps163
 cases h1 : (y == 1)
 all_goals
  go_wp2
  go_ret
  exact ⟨rfl, Below.refl _ _⟩
set_option maxHeartbeats 4000000 in
set_option maxRecDepth 100000 in
theorem undone_calls {nm : ByteArray} {l : List Step} {A : Option Addr} {c : Nat} {x : Inst} {B : Option Addr} {cb : Nat} {w W : World} (h : Vw w W nm l A c x B cb) (hB : Kd.C (Kd.int .i64) W B x.steps.length x.steps) {k : Nat} (hk : k < x.steps.length) (hx8 : x.steps.length ≤ 8) :
 Calls Tryz.prog 165 #[.int .i64 (k : Int), .pointer (some ⟨w.heap.size, 0, none⟩)] W fun e w' => e = .returned (.bool (stOf x.steps k != 2 && stOf x.steps k != 5)) ∧ Below W.heap.size W w' := by
 obtain ⟨ab, rfl, hy⟩ := int_at hB hk
 rw [st_get hk] at hy
 have hq := h.st
 have hd : decide ((k : Int) < (x.steps.length : Int)) = true := decide_eq_true (by omega)
 clear h hB
 generalize stOf x.steps k = y at *
 go_enter Tryz.func165, Tryz.ntmps165
 cases h1 : (y != 2)
 all_goals
  go_wp2
  go_ret
  exact ⟨rfl, Below.refl _ _⟩
theorem any_sel (p q r : Nat → Bool) (n : Nat) (h : ∀ k, q k = !r k) : (intsOf (sel p n)).any (fun z => q z.toNat) = !allF p r n := by
 rw [Bool.eq_iff_iff, Bool.not_eq_true', List.any_eq_true]
 constructor
 · rintro ⟨z, hz, hq⟩
   unfold intsOf at hz
   obtain ⟨k, hk, rfl⟩ := List.mem_map.1 hz
   obtain ⟨hkn, hp⟩ := mem_sel.1 hk
   refine allF_false hkn hp ?_
   have := h k
   simp at hq
   rw [hq] at this
   simpa using this.symm
 · intro ha
   apply Classical.byContradiction
   intro hno
   have : allF p r n = true := allF_true fun k hk hp => by
    cases hr : r k
    · exact absurd ⟨(k : Int), by unfold intsOf; exact List.mem_map.2 ⟨k, mem_sel.2 ⟨hk, hp⟩, rfl⟩, by simp [h, hr]⟩ hno
    · rfl
   rw [this] at ha
   cases ha
theorem mem_intsOf {p : Nat → Bool} {n : Nat} {z : Int} (h : z ∈ intsOf (sel p n)) : ∃ k : Nat, k < n ∧ z = (k : Int) := by
 unfold intsOf at h
 obtain ⟨k, hk, rfl⟩ := List.mem_map.1 h
 exact ⟨k, (mem_sel.1 hk).1, rfl⟩
theorem under_all {nm : ByteArray} {l : List Step} {A : Option Addr} {c : Nat} {x : Inst} {B : Option Addr} {cb : Nat} {w W W0 : World} {v : Value} {i : Nat} (h : Vw w W nm l A c x B cb) (hB : Kd.C (Kd.int .i64) W B x.steps.length x.steps) (hx : x.steps.length = l.length) (hx8 : x.steps.length ≤ 8) (ho : Pl.Own W0 W v (sel (fun k => wars (direct l) l.length k i) l.length)) :
 Calls Tryz.prog 74 #[v, .func (.func 163) #[] #[.pointer (some ⟨w.heap.size, 0, none⟩)]] W fun e w' => e = .returned (.bool (!behindOk l x i)) ∧ Below W.heap.size W w' := by
 obtain ⟨A', c', rfl, _, hr⟩ := own_reads ho
 have hsl := sel_len (fun k => wars (direct l) l.length k i) l.length
 have eg : ∀ args w, (callFunc 163 args).run Tryz.prog w = .ok (.enter 163 args) w := fun _ _ => by kernel_rfl
 have := containsI_calls _ #[.pointer (some ⟨w.heap.size, 0, none⟩)] (fun z => stOf x.steps z.toNat == 1 || stOf x.steps z.toNat == 2) _ A' c' W eg (fun W2 k hk hW => by
  obtain ⟨j, hj, rfl⟩ := mem_intsOf hk
  exact under_calls (h.on hW) (Kd.C_below hB hW) (by omega) hx8) hr (by rw [intsOf_len]; omega)
 rw [intsOf_len, any_sel _ (fun k => stOf x.steps k == 1 || stOf x.steps k == 2) (fun k => !(stOf x.steps k == 1 || stOf x.steps k == 2)) _ (fun k => by rw [Bool.not_not])] at this
 exact this
theorem undone_all {nm : ByteArray} {l : List Step} {A : Option Addr} {c : Nat} {x : Inst} {B : Option Addr} {cb : Nat} {w W W0 : World} {v : Value} {i : Nat} (h : Vw w W nm l A c x B cb) (hB : Kd.C (Kd.int .i64) W B x.steps.length x.steps) (hx : x.steps.length = l.length) (hx8 : x.steps.length ≤ 8) (ho : Pl.Own W0 W v (sel (fun k => wars (direct l) l.length i k) l.length)) :
 Calls Tryz.prog 74 #[v, .func (.func 165) #[] #[.pointer (some ⟨w.heap.size, 0, none⟩)]] W fun e w' => e = .returned (.bool (!aheadOk l x i)) ∧ Below W.heap.size W w' := by
 obtain ⟨A', c', rfl, _, hr⟩ := own_reads ho
 have hsl := sel_len (fun k => wars (direct l) l.length i k) l.length
 have eg : ∀ args w, (callFunc 165 args).run Tryz.prog w = .ok (.enter 165 args) w := fun _ _ => by kernel_rfl
 have := containsI_calls _ #[.pointer (some ⟨w.heap.size, 0, none⟩)] (fun z => stOf x.steps z.toNat != 2 && stOf x.steps z.toNat != 5) _ A' c' W eg (fun W2 k hk hW => by
  obtain ⟨j, hj, rfl⟩ := mem_intsOf hk
  exact undone_calls (h.on hW) (Kd.C_below hB hW) (by omega) hx8) hr (by rw [intsOf_len]; omega)
 rw [intsOf_len, any_sel _ (fun k => stOf x.steps k != 2 && stOf x.steps k != 5) (fun k => stOf x.steps k == 2 || stOf x.steps k == 5) _ (fun k => by rw [Bool.not_or]; rfl)] at this
 exact this
set_option maxHeartbeats 64000000 in
set_option maxRecDepth 100000 in
theorem steps_calls (nm : ByteArray) (l : List Step) (A : Option Addr) (c : Nat) (x : Inst) (B : Option Addr) (cb : Nat) (w : World) (hok : defOk nm l = true) (hnm : nm.size ≤ 140737488351232) (hS : StepsAt w A l) (hb : ∀ s ∈ l, StepB s) (hc : l.length ≤ c) (hT : TabsAt w) (hx : x.steps.length = l.length) (hB : Kd.C (Kd.int .i64) w B x.steps.length x.steps) :
 Calls Tryz.prog 112 #[.agg #[.string nm, .slice A l.length c, .int .i64 x.id, .string x.key, .string x.name, .int .i64 x.version, .int .i64 x.phase, .int .i64 x.cause, .slice B x.steps.length cb, .int .i64 (x.freed 0), .int .i64 (x.freed 1), .int .i64 (x.freed 2), .int .i64 (x.freed 3)]] w fun e w' => e = .returned (.bool (stepsL l x)) ∧ Below w.heap.size w w' := by
 obtain ⟨hl1, hl8, -⟩ := defOk_len hok
 have hx8 : x.steps.length ≤ 8 := by omega
 obtain ⟨ad, rfl, -⟩ := hS.one (stepAt_eq (l := l) (i := 0) (by omega))
 obtain ⟨ab, rfl, -⟩ := int_at hB (i := 0) (by omega)
 have HV := Aside0.mk (Vw.start nm l (some ad) c x (some ab) cb w)
 have HA := Aside0.mk (And.intro hS hB)
 have hbeA := Aside0.mk (fun k (hk : k < l.length) W (h : Below w.heap.size w W) => (by
  have := behind_calls nm l (some ad) c (k : Int) W hnm (hS.below h) hb (by omega) hc (tabs_on hT h)
  rw [show behindL nm l (k : Int) = sel (fun j => wars (direct l) l.length j k) l.length by
   unfold behindL
   rw [hok, decide_eq_true (p := 0 ≤ (k : Int) ∧ (k : Int) < l.length) (by omega)]
   rfl] at this
  exact this : Calls Tryz.prog 123 #[.agg #[.string nm, .slice (some ad) l.length c], .int .i64 (k : Int)] W fun e w' => (∃ v, e = .returned v ∧ Pl.Own W w' v (sel (fun j => wars (direct l) l.length j k) l.length)) ∧ Below W.heap.size W w'))
 have hahA := Aside0.mk (fun k (hk : k < l.length) W (h : Below w.heap.size w W) => (by
  have := ahead_calls nm l (some ad) c (k : Int) W hnm (hS.below h) hb (by omega) hc (tabs_on hT h)
  rw [show aheadL nm l (k : Int) = sel (fun j => wars (direct l) l.length k j) l.length by
   unfold aheadL
   rw [hok, decide_eq_true (p := 0 ≤ (k : Int) ∧ (k : Int) < l.length) (by omega)]
   rfl] at this
  exact this : Calls Tryz.prog 166 #[.agg #[.string nm, .slice (some ad) l.length c], .int .i64 (k : Int)] W fun e w' => (∃ v, e = .returned v ∧ Pl.Own W w' v (sel (fun j => wars (direct l) l.length k j) l.length)) ∧ Below W.heap.size W w'))
 have huA := Aside0.mk (fun k W W0 v (h : Vw w W nm l (some ad) c x (some ab) cb) (ho : Pl.Own W0 W v (sel (fun j => wars (direct l) l.length j k) l.length)) => under_all h (Kd.C_below hB h.below) hx hx8 ho)
 have hnA := Aside0.mk (fun k W W0 v (h : Vw w W nm l (some ad) c x (some ab) cb) (ho : Pl.Own W0 W v (sel (fun j => wars (direct l) l.length k j) l.length)) => undone_all h (Kd.C_below hB h.below) hx hx8 ho)
 have HS : Aside0 (∀ b, (List.range x.steps.length).all (stepB l x) = b → stepsL l x = b) := ⟨fun b h => h⟩
 have HX := Aside0.mk hx
 clear hok hnm hS hb hc hT hx hB
 generalize stepsL l x = rr at *
 go_enter Tryz.func112, Tryz.ntmps112
 go_wp2
 generalize World.alloc w _ = w0 at *
 go_loopw [12] (fun v12 wr => ∃ k : Nat, k ≤ x.steps.length ∧ v12 = .int .i64 (k : Int) ∧ (∀ j, j < k → stepB l x j = true) ∧ Vw w wr nm l (some ad) c x (some ab) cb) (fun v12 _ => x.steps.length - (intOf v12).toNat)
 case atStart => exact ⟨0, Nat.zero_le _, rfl, fun j hj => absurd hj (Nat.not_lt_zero _), HV.out⟩
 case round =>
  obtain ⟨k, hk, rfl, hal, hN⟩ := hrel
  have HG := Aside0.mk hN
  have HAL := Aside0.mk hal
  obtain ⟨hq0, hq1, hq2, hq3, hq4, hq5, hq6, hq7, hq8, hq9, hq10, hq11, hq12⟩ := hN.cells
  clear HV hN hal
  by_cases hlt : k < x.steps.length
  · have hd1 : decide ((k : Int) < (x.steps.length : Int)) = true := decide_eq_true (by omega)
    have hkl : k < l.length := by have := HX.out; omega
    have hd2 : decide ((k : Int) < (l.length : Int)) = true := decide_eq_true (by omega)
    obtain ⟨_, e, A1, c1, A2, c2, h1⟩ := HA.out.1.one (stepAt_eq hkl)
    cases e
    have hkd := (h1.below HG.out.below).c1_
    obtain ⟨_, e, hy⟩ := int_at HA.out.2 hlt
    cases e
    rw [st_get hlt] at hy
    replace hy := cell_on HG.out.below hy
    clear h1
    have hbe := Aside0.mk (hbeA.out k hkl)
    have hah := Aside0.mk (hahA.out k hkl)
    have hua1 := Aside0.mk (huA.out k)
    have hua := Aside0.mk (hnA.out k)
    have HF : Aside0 (stepB l x k = if stOf x.steps k == 5 then !(kindOf l k == 2 || !behindOk l x k) && (!(kindOf l k == 3 || !backL x) && aheadOk l x k)
     else if stOf x.steps k == 3 || stOf x.steps k == 4 then !(kindOf l k == 3 || !backL x) && aheadOk l x k
     else if stOf x.steps k == 1 || stOf x.steps k == 2 then aheadOk l x k else stOf x.steps k == 0) := ⟨rfl⟩
    have HNO : Aside0 (stepB l x k = false → rr = false) := ⟨fun h => HS.out _ (by
     rw [List.all_eq_false]
     exact ⟨k, List.mem_range.2 hlt, by simp [h]⟩)⟩
    have HYES : Aside0 (stepB l x k = true → ∀ j, j < k + 1 → stepB l x j = true) := ⟨fun h j hj => by
     rcases Nat.lt_succ_iff_lt_or_eq.1 hj with e | e
     · exact HAL.out j e
     · subst e
       exact h⟩
    have hbk : Aside0 (∀ W, Calls Tryz.prog 164 #[.agg #[.string nm, .slice (some ad) l.length c, .int .i64 x.id, .string x.key, .string x.name, .int .i64 x.version, .int .i64 x.phase, .int .i64 x.cause, .slice (some ab) x.steps.length cb, .int .i64 (x.freed 0), .int .i64 (x.freed 1), .int .i64 (x.freed 2), .int .i64 (x.freed 3)]] W fun e w' => e = .returned (.bool (backL x)) ∧ Below W.heap.size W w') := ⟨fun W => back_calls nm l (some ad) c x (some ab) cb W⟩
    unfold kindOf at HF
    generalize stepB l x k = sb at *
    generalize (stepAt l k).kind = kd at *
    generalize stOf x.steps k = y at *
    generalize behindOk l x k = bo at *
    generalize aheadOk l x k = ao at *
    generalize backL x = bk at *
    by_cases e5 : y = 5
    · subst e5
      cases h2 : (kd == 2)
      · cases bo
        · have HE : Aside0 (sb = false) := ⟨by rw [HF.out]; rw [h2]; simp⟩
          go_wp2_with (first | (go_at_call 123; refine (hbe.out _ HG.out.below).mono ?_; rintro e w4 ⟨⟨v4, rfl, ho4⟩, hb4⟩; have H4 := Aside0.mk (And.intro (HG.out.on hb4) ho4); clear hb4 ho4) | (go_at_call 74; refine (hua.out _ _ _ H7.out.1 H7.out.2).mono ?_; rintro e w8 ⟨rfl, hb8⟩; have H8 := Aside0.mk (H7.out.1.on hb8); clear hb8) | (go_at_call 74; refine (hua1.out _ _ _ H4.out.1 H4.out.2).mono ?_; rintro e w5 ⟨rfl, hb5⟩; have H5 := Aside0.mk (H4.out.1.on hb5); obtain ⟨hc0, hc1, hc2, hc3, hc4, hc5, hc6, hc7, hc8, hc9, hc10, hc11, hc12⟩ := H5.out.cells; clear hb5) | (go_at_call 164; refine (hbk.out _).mono ?_; rintro e w6 ⟨rfl, hb6⟩; have H6 := Aside0.mk (H5.out.on hb6); have hd0 := H6.out.cells.1; have hd1' := H6.out.cells.2.1; clear hb6) | (go_at_call 164; refine (hbk.out _).mono ?_; rintro e w6 ⟨rfl, hb6⟩; have H6 := Aside0.mk (HG.out.on hb6); have hd0 := H6.out.cells.1; have hd1' := H6.out.cells.2.1; clear hb6) | (go_at_call 166; refine (hah.out _ H6.out.below).mono ?_; rintro e w7 ⟨⟨v7, rfl, ho7⟩, hb7⟩; have H7 := Aside0.mk (And.intro (H6.out.on hb7) ho7); clear hb7 ho7) | (go_at_call 166; refine (hah.out _ HG.out.below).mono ?_; rintro e w7 ⟨⟨v7, rfl, ho7⟩, hb7⟩; have H7 := Aside0.mk (And.intro (HG.out.on hb7) ho7); clear hb7 ho7))
          go_ret
          exact ⟨by rw [HNO.out HE.out]; rfl, by first | exact H8.out.below | exact H6.out.below | exact H5.out.below | exact HG.out.below⟩
        · skip
          cases h3 : (kd == 3)
          · cases bk
            · have HE : Aside0 (sb = false) := ⟨by rw [HF.out]; rw [h3, h2]; simp⟩
              go_wp2_with (first | (go_at_call 123; refine (hbe.out _ HG.out.below).mono ?_; rintro e w4 ⟨⟨v4, rfl, ho4⟩, hb4⟩; have H4 := Aside0.mk (And.intro (HG.out.on hb4) ho4); clear hb4 ho4) | (go_at_call 74; refine (hua.out _ _ _ H7.out.1 H7.out.2).mono ?_; rintro e w8 ⟨rfl, hb8⟩; have H8 := Aside0.mk (H7.out.1.on hb8); clear hb8) | (go_at_call 74; refine (hua1.out _ _ _ H4.out.1 H4.out.2).mono ?_; rintro e w5 ⟨rfl, hb5⟩; have H5 := Aside0.mk (H4.out.1.on hb5); obtain ⟨hc0, hc1, hc2, hc3, hc4, hc5, hc6, hc7, hc8, hc9, hc10, hc11, hc12⟩ := H5.out.cells; clear hb5) | (go_at_call 164; refine (hbk.out _).mono ?_; rintro e w6 ⟨rfl, hb6⟩; have H6 := Aside0.mk (H5.out.on hb6); have hd0 := H6.out.cells.1; have hd1' := H6.out.cells.2.1; clear hb6) | (go_at_call 164; refine (hbk.out _).mono ?_; rintro e w6 ⟨rfl, hb6⟩; have H6 := Aside0.mk (HG.out.on hb6); have hd0 := H6.out.cells.1; have hd1' := H6.out.cells.2.1; clear hb6) | (go_at_call 166; refine (hah.out _ H6.out.below).mono ?_; rintro e w7 ⟨⟨v7, rfl, ho7⟩, hb7⟩; have H7 := Aside0.mk (And.intro (H6.out.on hb7) ho7); clear hb7 ho7) | (go_at_call 166; refine (hah.out _ HG.out.below).mono ?_; rintro e w7 ⟨⟨v7, rfl, ho7⟩, hb7⟩; have H7 := Aside0.mk (And.intro (HG.out.on hb7) ho7); clear hb7 ho7))
              go_ret
              exact ⟨by rw [HNO.out HE.out]; rfl, by first | exact H8.out.below | exact H6.out.below | exact H5.out.below | exact HG.out.below⟩
            · cases ao
              · have HE : Aside0 (sb = false) := ⟨by rw [HF.out]; rw [h3, h2]; simp⟩
                go_wp2_with (first | (go_at_call 123; refine (hbe.out _ HG.out.below).mono ?_; rintro e w4 ⟨⟨v4, rfl, ho4⟩, hb4⟩; have H4 := Aside0.mk (And.intro (HG.out.on hb4) ho4); clear hb4 ho4) | (go_at_call 74; refine (hua.out _ _ _ H7.out.1 H7.out.2).mono ?_; rintro e w8 ⟨rfl, hb8⟩; have H8 := Aside0.mk (H7.out.1.on hb8); clear hb8) | (go_at_call 74; refine (hua1.out _ _ _ H4.out.1 H4.out.2).mono ?_; rintro e w5 ⟨rfl, hb5⟩; have H5 := Aside0.mk (H4.out.1.on hb5); obtain ⟨hc0, hc1, hc2, hc3, hc4, hc5, hc6, hc7, hc8, hc9, hc10, hc11, hc12⟩ := H5.out.cells; clear hb5) | (go_at_call 164; refine (hbk.out _).mono ?_; rintro e w6 ⟨rfl, hb6⟩; have H6 := Aside0.mk (H5.out.on hb6); have hd0 := H6.out.cells.1; have hd1' := H6.out.cells.2.1; clear hb6) | (go_at_call 164; refine (hbk.out _).mono ?_; rintro e w6 ⟨rfl, hb6⟩; have H6 := Aside0.mk (HG.out.on hb6); have hd0 := H6.out.cells.1; have hd1' := H6.out.cells.2.1; clear hb6) | (go_at_call 166; refine (hah.out _ H6.out.below).mono ?_; rintro e w7 ⟨⟨v7, rfl, ho7⟩, hb7⟩; have H7 := Aside0.mk (And.intro (H6.out.on hb7) ho7); clear hb7 ho7) | (go_at_call 166; refine (hah.out _ HG.out.below).mono ?_; rintro e w7 ⟨⟨v7, rfl, ho7⟩, hb7⟩; have H7 := Aside0.mk (And.intro (HG.out.on hb7) ho7); clear hb7 ho7))
                go_ret
                exact ⟨by rw [HNO.out HE.out]; rfl, by first | exact H8.out.below | exact H6.out.below | exact H5.out.below | exact HG.out.below⟩
              · have HE : Aside0 (sb = true) := ⟨by rw [HF.out]; rw [h3, h2]; simp⟩
                go_wp2_with (first | (go_at_call 123; refine (hbe.out _ HG.out.below).mono ?_; rintro e w4 ⟨⟨v4, rfl, ho4⟩, hb4⟩; have H4 := Aside0.mk (And.intro (HG.out.on hb4) ho4); clear hb4 ho4) | (go_at_call 74; refine (hua.out _ _ _ H7.out.1 H7.out.2).mono ?_; rintro e w8 ⟨rfl, hb8⟩; have H8 := Aside0.mk (H7.out.1.on hb8); clear hb8) | (go_at_call 74; refine (hua1.out _ _ _ H4.out.1 H4.out.2).mono ?_; rintro e w5 ⟨rfl, hb5⟩; have H5 := Aside0.mk (H4.out.1.on hb5); obtain ⟨hc0, hc1, hc2, hc3, hc4, hc5, hc6, hc7, hc8, hc9, hc10, hc11, hc12⟩ := H5.out.cells; clear hb5) | (go_at_call 164; refine (hbk.out _).mono ?_; rintro e w6 ⟨rfl, hb6⟩; have H6 := Aside0.mk (H5.out.on hb6); have hd0 := H6.out.cells.1; have hd1' := H6.out.cells.2.1; clear hb6) | (go_at_call 164; refine (hbk.out _).mono ?_; rintro e w6 ⟨rfl, hb6⟩; have H6 := Aside0.mk (HG.out.on hb6); have hd0 := H6.out.cells.1; have hd1' := H6.out.cells.2.1; clear hb6) | (go_at_call 166; refine (hah.out _ H6.out.below).mono ?_; rintro e w7 ⟨⟨v7, rfl, ho7⟩, hb7⟩; have H7 := Aside0.mk (And.intro (H6.out.on hb7) ho7); clear hb7 ho7) | (go_at_call 166; refine (hah.out _ HG.out.below).mono ?_; rintro e w7 ⟨⟨v7, rfl, ho7⟩, hb7⟩; have H7 := Aside0.mk (And.intro (HG.out.on hb7) ho7); clear hb7 ho7))
                go_roundw
                case rel => exact ⟨k + 1, hlt, by go_num, HYES.out HE.out, by first | exact H8.out | exact HG.out⟩
                case measure => simp [intOf]; omega
          · have HE : Aside0 (sb = false) := ⟨by rw [HF.out]; rw [h3, h2]; simp⟩
            go_wp2_with (first | (go_at_call 123; refine (hbe.out _ HG.out.below).mono ?_; rintro e w4 ⟨⟨v4, rfl, ho4⟩, hb4⟩; have H4 := Aside0.mk (And.intro (HG.out.on hb4) ho4); clear hb4 ho4) | (go_at_call 74; refine (hua.out _ _ _ H7.out.1 H7.out.2).mono ?_; rintro e w8 ⟨rfl, hb8⟩; have H8 := Aside0.mk (H7.out.1.on hb8); clear hb8) | (go_at_call 74; refine (hua1.out _ _ _ H4.out.1 H4.out.2).mono ?_; rintro e w5 ⟨rfl, hb5⟩; have H5 := Aside0.mk (H4.out.1.on hb5); obtain ⟨hc0, hc1, hc2, hc3, hc4, hc5, hc6, hc7, hc8, hc9, hc10, hc11, hc12⟩ := H5.out.cells; clear hb5) | (go_at_call 164; refine (hbk.out _).mono ?_; rintro e w6 ⟨rfl, hb6⟩; have H6 := Aside0.mk (H5.out.on hb6); have hd0 := H6.out.cells.1; have hd1' := H6.out.cells.2.1; clear hb6) | (go_at_call 164; refine (hbk.out _).mono ?_; rintro e w6 ⟨rfl, hb6⟩; have H6 := Aside0.mk (HG.out.on hb6); have hd0 := H6.out.cells.1; have hd1' := H6.out.cells.2.1; clear hb6) | (go_at_call 166; refine (hah.out _ H6.out.below).mono ?_; rintro e w7 ⟨⟨v7, rfl, ho7⟩, hb7⟩; have H7 := Aside0.mk (And.intro (H6.out.on hb7) ho7); clear hb7 ho7) | (go_at_call 166; refine (hah.out _ HG.out.below).mono ?_; rintro e w7 ⟨⟨v7, rfl, ho7⟩, hb7⟩; have H7 := Aside0.mk (And.intro (HG.out.on hb7) ho7); clear hb7 ho7))
            go_ret
            exact ⟨by rw [HNO.out HE.out]; rfl, by first | exact H8.out.below | exact H6.out.below | exact H5.out.below | exact HG.out.below⟩
      · have HE : Aside0 (sb = false) := ⟨by rw [HF.out]; rw [h2]; simp⟩
        go_wp2_with (first | (go_at_call 123; refine (hbe.out _ HG.out.below).mono ?_; rintro e w4 ⟨⟨v4, rfl, ho4⟩, hb4⟩; have H4 := Aside0.mk (And.intro (HG.out.on hb4) ho4); clear hb4 ho4) | (go_at_call 74; refine (hua.out _ _ _ H7.out.1 H7.out.2).mono ?_; rintro e w8 ⟨rfl, hb8⟩; have H8 := Aside0.mk (H7.out.1.on hb8); clear hb8) | (go_at_call 74; refine (hua1.out _ _ _ H4.out.1 H4.out.2).mono ?_; rintro e w5 ⟨rfl, hb5⟩; have H5 := Aside0.mk (H4.out.1.on hb5); obtain ⟨hc0, hc1, hc2, hc3, hc4, hc5, hc6, hc7, hc8, hc9, hc10, hc11, hc12⟩ := H5.out.cells; clear hb5) | (go_at_call 164; refine (hbk.out _).mono ?_; rintro e w6 ⟨rfl, hb6⟩; have H6 := Aside0.mk (H5.out.on hb6); have hd0 := H6.out.cells.1; have hd1' := H6.out.cells.2.1; clear hb6) | (go_at_call 164; refine (hbk.out _).mono ?_; rintro e w6 ⟨rfl, hb6⟩; have H6 := Aside0.mk (HG.out.on hb6); have hd0 := H6.out.cells.1; have hd1' := H6.out.cells.2.1; clear hb6) | (go_at_call 166; refine (hah.out _ H6.out.below).mono ?_; rintro e w7 ⟨⟨v7, rfl, ho7⟩, hb7⟩; have H7 := Aside0.mk (And.intro (H6.out.on hb7) ho7); clear hb7 ho7) | (go_at_call 166; refine (hah.out _ HG.out.below).mono ?_; rintro e w7 ⟨⟨v7, rfl, ho7⟩, hb7⟩; have H7 := Aside0.mk (And.intro (HG.out.on hb7) ho7); clear hb7 ho7))
        go_ret
        exact ⟨by rw [HNO.out HE.out]; rfl, by first | exact H8.out.below | exact H6.out.below | exact H5.out.below | exact HG.out.below⟩
    · have hn5 : (y == 5) = false := beq_eq_false_iff_ne.2 e5
      by_cases e34 : y = 3 ∨ y = 4
      · rcases e34 with rfl | rfl
        · skip
          cases h3 : (kd == 3)
          · cases bk
            · have HE : Aside0 (sb = false) := ⟨by rw [HF.out]; rw [h3, hn5]; simp⟩
              go_wp2_with (first | (go_at_call 123; refine (hbe.out _ HG.out.below).mono ?_; rintro e w4 ⟨⟨v4, rfl, ho4⟩, hb4⟩; have H4 := Aside0.mk (And.intro (HG.out.on hb4) ho4); clear hb4 ho4) | (go_at_call 74; refine (hua.out _ _ _ H7.out.1 H7.out.2).mono ?_; rintro e w8 ⟨rfl, hb8⟩; have H8 := Aside0.mk (H7.out.1.on hb8); clear hb8) | (go_at_call 74; refine (hua1.out _ _ _ H4.out.1 H4.out.2).mono ?_; rintro e w5 ⟨rfl, hb5⟩; have H5 := Aside0.mk (H4.out.1.on hb5); obtain ⟨hc0, hc1, hc2, hc3, hc4, hc5, hc6, hc7, hc8, hc9, hc10, hc11, hc12⟩ := H5.out.cells; clear hb5) | (go_at_call 164; refine (hbk.out _).mono ?_; rintro e w6 ⟨rfl, hb6⟩; have H6 := Aside0.mk (H5.out.on hb6); have hd0 := H6.out.cells.1; have hd1' := H6.out.cells.2.1; clear hb6) | (go_at_call 164; refine (hbk.out _).mono ?_; rintro e w6 ⟨rfl, hb6⟩; have H6 := Aside0.mk (HG.out.on hb6); have hd0 := H6.out.cells.1; have hd1' := H6.out.cells.2.1; clear hb6) | (go_at_call 166; refine (hah.out _ H6.out.below).mono ?_; rintro e w7 ⟨⟨v7, rfl, ho7⟩, hb7⟩; have H7 := Aside0.mk (And.intro (H6.out.on hb7) ho7); clear hb7 ho7) | (go_at_call 166; refine (hah.out _ HG.out.below).mono ?_; rintro e w7 ⟨⟨v7, rfl, ho7⟩, hb7⟩; have H7 := Aside0.mk (And.intro (HG.out.on hb7) ho7); clear hb7 ho7))
              go_ret
              exact ⟨by rw [HNO.out HE.out]; rfl, by first | exact H8.out.below | exact H6.out.below | exact H5.out.below | exact HG.out.below⟩
            · cases ao
              · have HE : Aside0 (sb = false) := ⟨by rw [HF.out]; rw [h3, hn5]; simp⟩
                go_wp2_with (first | (go_at_call 123; refine (hbe.out _ HG.out.below).mono ?_; rintro e w4 ⟨⟨v4, rfl, ho4⟩, hb4⟩; have H4 := Aside0.mk (And.intro (HG.out.on hb4) ho4); clear hb4 ho4) | (go_at_call 74; refine (hua.out _ _ _ H7.out.1 H7.out.2).mono ?_; rintro e w8 ⟨rfl, hb8⟩; have H8 := Aside0.mk (H7.out.1.on hb8); clear hb8) | (go_at_call 74; refine (hua1.out _ _ _ H4.out.1 H4.out.2).mono ?_; rintro e w5 ⟨rfl, hb5⟩; have H5 := Aside0.mk (H4.out.1.on hb5); obtain ⟨hc0, hc1, hc2, hc3, hc4, hc5, hc6, hc7, hc8, hc9, hc10, hc11, hc12⟩ := H5.out.cells; clear hb5) | (go_at_call 164; refine (hbk.out _).mono ?_; rintro e w6 ⟨rfl, hb6⟩; have H6 := Aside0.mk (H5.out.on hb6); have hd0 := H6.out.cells.1; have hd1' := H6.out.cells.2.1; clear hb6) | (go_at_call 164; refine (hbk.out _).mono ?_; rintro e w6 ⟨rfl, hb6⟩; have H6 := Aside0.mk (HG.out.on hb6); have hd0 := H6.out.cells.1; have hd1' := H6.out.cells.2.1; clear hb6) | (go_at_call 166; refine (hah.out _ H6.out.below).mono ?_; rintro e w7 ⟨⟨v7, rfl, ho7⟩, hb7⟩; have H7 := Aside0.mk (And.intro (H6.out.on hb7) ho7); clear hb7 ho7) | (go_at_call 166; refine (hah.out _ HG.out.below).mono ?_; rintro e w7 ⟨⟨v7, rfl, ho7⟩, hb7⟩; have H7 := Aside0.mk (And.intro (HG.out.on hb7) ho7); clear hb7 ho7))
                go_ret
                exact ⟨by rw [HNO.out HE.out]; rfl, by first | exact H8.out.below | exact H6.out.below | exact H5.out.below | exact HG.out.below⟩
              · have HE : Aside0 (sb = true) := ⟨by rw [HF.out]; rw [h3, hn5]; simp⟩
                go_wp2_with (first | (go_at_call 123; refine (hbe.out _ HG.out.below).mono ?_; rintro e w4 ⟨⟨v4, rfl, ho4⟩, hb4⟩; have H4 := Aside0.mk (And.intro (HG.out.on hb4) ho4); clear hb4 ho4) | (go_at_call 74; refine (hua.out _ _ _ H7.out.1 H7.out.2).mono ?_; rintro e w8 ⟨rfl, hb8⟩; have H8 := Aside0.mk (H7.out.1.on hb8); clear hb8) | (go_at_call 74; refine (hua1.out _ _ _ H4.out.1 H4.out.2).mono ?_; rintro e w5 ⟨rfl, hb5⟩; have H5 := Aside0.mk (H4.out.1.on hb5); obtain ⟨hc0, hc1, hc2, hc3, hc4, hc5, hc6, hc7, hc8, hc9, hc10, hc11, hc12⟩ := H5.out.cells; clear hb5) | (go_at_call 164; refine (hbk.out _).mono ?_; rintro e w6 ⟨rfl, hb6⟩; have H6 := Aside0.mk (H5.out.on hb6); have hd0 := H6.out.cells.1; have hd1' := H6.out.cells.2.1; clear hb6) | (go_at_call 164; refine (hbk.out _).mono ?_; rintro e w6 ⟨rfl, hb6⟩; have H6 := Aside0.mk (HG.out.on hb6); have hd0 := H6.out.cells.1; have hd1' := H6.out.cells.2.1; clear hb6) | (go_at_call 166; refine (hah.out _ H6.out.below).mono ?_; rintro e w7 ⟨⟨v7, rfl, ho7⟩, hb7⟩; have H7 := Aside0.mk (And.intro (H6.out.on hb7) ho7); clear hb7 ho7) | (go_at_call 166; refine (hah.out _ HG.out.below).mono ?_; rintro e w7 ⟨⟨v7, rfl, ho7⟩, hb7⟩; have H7 := Aside0.mk (And.intro (HG.out.on hb7) ho7); clear hb7 ho7))
                go_roundw
                case rel => exact ⟨k + 1, hlt, by go_num, HYES.out HE.out, by first | exact H8.out | exact HG.out⟩
                case measure => simp [intOf]; omega
          · have HE : Aside0 (sb = false) := ⟨by rw [HF.out]; rw [h3, hn5]; simp⟩
            go_wp2_with (first | (go_at_call 123; refine (hbe.out _ HG.out.below).mono ?_; rintro e w4 ⟨⟨v4, rfl, ho4⟩, hb4⟩; have H4 := Aside0.mk (And.intro (HG.out.on hb4) ho4); clear hb4 ho4) | (go_at_call 74; refine (hua.out _ _ _ H7.out.1 H7.out.2).mono ?_; rintro e w8 ⟨rfl, hb8⟩; have H8 := Aside0.mk (H7.out.1.on hb8); clear hb8) | (go_at_call 74; refine (hua1.out _ _ _ H4.out.1 H4.out.2).mono ?_; rintro e w5 ⟨rfl, hb5⟩; have H5 := Aside0.mk (H4.out.1.on hb5); obtain ⟨hc0, hc1, hc2, hc3, hc4, hc5, hc6, hc7, hc8, hc9, hc10, hc11, hc12⟩ := H5.out.cells; clear hb5) | (go_at_call 164; refine (hbk.out _).mono ?_; rintro e w6 ⟨rfl, hb6⟩; have H6 := Aside0.mk (H5.out.on hb6); have hd0 := H6.out.cells.1; have hd1' := H6.out.cells.2.1; clear hb6) | (go_at_call 164; refine (hbk.out _).mono ?_; rintro e w6 ⟨rfl, hb6⟩; have H6 := Aside0.mk (HG.out.on hb6); have hd0 := H6.out.cells.1; have hd1' := H6.out.cells.2.1; clear hb6) | (go_at_call 166; refine (hah.out _ H6.out.below).mono ?_; rintro e w7 ⟨⟨v7, rfl, ho7⟩, hb7⟩; have H7 := Aside0.mk (And.intro (H6.out.on hb7) ho7); clear hb7 ho7) | (go_at_call 166; refine (hah.out _ HG.out.below).mono ?_; rintro e w7 ⟨⟨v7, rfl, ho7⟩, hb7⟩; have H7 := Aside0.mk (And.intro (HG.out.on hb7) ho7); clear hb7 ho7))
            go_ret
            exact ⟨by rw [HNO.out HE.out]; rfl, by first | exact H8.out.below | exact H6.out.below | exact H5.out.below | exact HG.out.below⟩
        · skip
          cases h3 : (kd == 3)
          · cases bk
            · have HE : Aside0 (sb = false) := ⟨by rw [HF.out]; rw [h3, hn5]; simp⟩
              go_wp2_with (first | (go_at_call 123; refine (hbe.out _ HG.out.below).mono ?_; rintro e w4 ⟨⟨v4, rfl, ho4⟩, hb4⟩; have H4 := Aside0.mk (And.intro (HG.out.on hb4) ho4); clear hb4 ho4) | (go_at_call 74; refine (hua.out _ _ _ H7.out.1 H7.out.2).mono ?_; rintro e w8 ⟨rfl, hb8⟩; have H8 := Aside0.mk (H7.out.1.on hb8); clear hb8) | (go_at_call 74; refine (hua1.out _ _ _ H4.out.1 H4.out.2).mono ?_; rintro e w5 ⟨rfl, hb5⟩; have H5 := Aside0.mk (H4.out.1.on hb5); obtain ⟨hc0, hc1, hc2, hc3, hc4, hc5, hc6, hc7, hc8, hc9, hc10, hc11, hc12⟩ := H5.out.cells; clear hb5) | (go_at_call 164; refine (hbk.out _).mono ?_; rintro e w6 ⟨rfl, hb6⟩; have H6 := Aside0.mk (H5.out.on hb6); have hd0 := H6.out.cells.1; have hd1' := H6.out.cells.2.1; clear hb6) | (go_at_call 164; refine (hbk.out _).mono ?_; rintro e w6 ⟨rfl, hb6⟩; have H6 := Aside0.mk (HG.out.on hb6); have hd0 := H6.out.cells.1; have hd1' := H6.out.cells.2.1; clear hb6) | (go_at_call 166; refine (hah.out _ H6.out.below).mono ?_; rintro e w7 ⟨⟨v7, rfl, ho7⟩, hb7⟩; have H7 := Aside0.mk (And.intro (H6.out.on hb7) ho7); clear hb7 ho7) | (go_at_call 166; refine (hah.out _ HG.out.below).mono ?_; rintro e w7 ⟨⟨v7, rfl, ho7⟩, hb7⟩; have H7 := Aside0.mk (And.intro (HG.out.on hb7) ho7); clear hb7 ho7))
              go_ret
              exact ⟨by rw [HNO.out HE.out]; rfl, by first | exact H8.out.below | exact H6.out.below | exact H5.out.below | exact HG.out.below⟩
            · cases ao
              · have HE : Aside0 (sb = false) := ⟨by rw [HF.out]; rw [h3, hn5]; simp⟩
                go_wp2_with (first | (go_at_call 123; refine (hbe.out _ HG.out.below).mono ?_; rintro e w4 ⟨⟨v4, rfl, ho4⟩, hb4⟩; have H4 := Aside0.mk (And.intro (HG.out.on hb4) ho4); clear hb4 ho4) | (go_at_call 74; refine (hua.out _ _ _ H7.out.1 H7.out.2).mono ?_; rintro e w8 ⟨rfl, hb8⟩; have H8 := Aside0.mk (H7.out.1.on hb8); clear hb8) | (go_at_call 74; refine (hua1.out _ _ _ H4.out.1 H4.out.2).mono ?_; rintro e w5 ⟨rfl, hb5⟩; have H5 := Aside0.mk (H4.out.1.on hb5); obtain ⟨hc0, hc1, hc2, hc3, hc4, hc5, hc6, hc7, hc8, hc9, hc10, hc11, hc12⟩ := H5.out.cells; clear hb5) | (go_at_call 164; refine (hbk.out _).mono ?_; rintro e w6 ⟨rfl, hb6⟩; have H6 := Aside0.mk (H5.out.on hb6); have hd0 := H6.out.cells.1; have hd1' := H6.out.cells.2.1; clear hb6) | (go_at_call 164; refine (hbk.out _).mono ?_; rintro e w6 ⟨rfl, hb6⟩; have H6 := Aside0.mk (HG.out.on hb6); have hd0 := H6.out.cells.1; have hd1' := H6.out.cells.2.1; clear hb6) | (go_at_call 166; refine (hah.out _ H6.out.below).mono ?_; rintro e w7 ⟨⟨v7, rfl, ho7⟩, hb7⟩; have H7 := Aside0.mk (And.intro (H6.out.on hb7) ho7); clear hb7 ho7) | (go_at_call 166; refine (hah.out _ HG.out.below).mono ?_; rintro e w7 ⟨⟨v7, rfl, ho7⟩, hb7⟩; have H7 := Aside0.mk (And.intro (HG.out.on hb7) ho7); clear hb7 ho7))
                go_ret
                exact ⟨by rw [HNO.out HE.out]; rfl, by first | exact H8.out.below | exact H6.out.below | exact H5.out.below | exact HG.out.below⟩
              · have HE : Aside0 (sb = true) := ⟨by rw [HF.out]; rw [h3, hn5]; simp⟩
                go_wp2_with (first | (go_at_call 123; refine (hbe.out _ HG.out.below).mono ?_; rintro e w4 ⟨⟨v4, rfl, ho4⟩, hb4⟩; have H4 := Aside0.mk (And.intro (HG.out.on hb4) ho4); clear hb4 ho4) | (go_at_call 74; refine (hua.out _ _ _ H7.out.1 H7.out.2).mono ?_; rintro e w8 ⟨rfl, hb8⟩; have H8 := Aside0.mk (H7.out.1.on hb8); clear hb8) | (go_at_call 74; refine (hua1.out _ _ _ H4.out.1 H4.out.2).mono ?_; rintro e w5 ⟨rfl, hb5⟩; have H5 := Aside0.mk (H4.out.1.on hb5); obtain ⟨hc0, hc1, hc2, hc3, hc4, hc5, hc6, hc7, hc8, hc9, hc10, hc11, hc12⟩ := H5.out.cells; clear hb5) | (go_at_call 164; refine (hbk.out _).mono ?_; rintro e w6 ⟨rfl, hb6⟩; have H6 := Aside0.mk (H5.out.on hb6); have hd0 := H6.out.cells.1; have hd1' := H6.out.cells.2.1; clear hb6) | (go_at_call 164; refine (hbk.out _).mono ?_; rintro e w6 ⟨rfl, hb6⟩; have H6 := Aside0.mk (HG.out.on hb6); have hd0 := H6.out.cells.1; have hd1' := H6.out.cells.2.1; clear hb6) | (go_at_call 166; refine (hah.out _ H6.out.below).mono ?_; rintro e w7 ⟨⟨v7, rfl, ho7⟩, hb7⟩; have H7 := Aside0.mk (And.intro (H6.out.on hb7) ho7); clear hb7 ho7) | (go_at_call 166; refine (hah.out _ HG.out.below).mono ?_; rintro e w7 ⟨⟨v7, rfl, ho7⟩, hb7⟩; have H7 := Aside0.mk (And.intro (HG.out.on hb7) ho7); clear hb7 ho7))
                go_roundw
                case rel => exact ⟨k + 1, hlt, by go_num, HYES.out HE.out, by first | exact H8.out | exact HG.out⟩
                case measure => simp [intOf]; omega
          · have HE : Aside0 (sb = false) := ⟨by rw [HF.out]; rw [h3, hn5]; simp⟩
            go_wp2_with (first | (go_at_call 123; refine (hbe.out _ HG.out.below).mono ?_; rintro e w4 ⟨⟨v4, rfl, ho4⟩, hb4⟩; have H4 := Aside0.mk (And.intro (HG.out.on hb4) ho4); clear hb4 ho4) | (go_at_call 74; refine (hua.out _ _ _ H7.out.1 H7.out.2).mono ?_; rintro e w8 ⟨rfl, hb8⟩; have H8 := Aside0.mk (H7.out.1.on hb8); clear hb8) | (go_at_call 74; refine (hua1.out _ _ _ H4.out.1 H4.out.2).mono ?_; rintro e w5 ⟨rfl, hb5⟩; have H5 := Aside0.mk (H4.out.1.on hb5); obtain ⟨hc0, hc1, hc2, hc3, hc4, hc5, hc6, hc7, hc8, hc9, hc10, hc11, hc12⟩ := H5.out.cells; clear hb5) | (go_at_call 164; refine (hbk.out _).mono ?_; rintro e w6 ⟨rfl, hb6⟩; have H6 := Aside0.mk (H5.out.on hb6); have hd0 := H6.out.cells.1; have hd1' := H6.out.cells.2.1; clear hb6) | (go_at_call 164; refine (hbk.out _).mono ?_; rintro e w6 ⟨rfl, hb6⟩; have H6 := Aside0.mk (HG.out.on hb6); have hd0 := H6.out.cells.1; have hd1' := H6.out.cells.2.1; clear hb6) | (go_at_call 166; refine (hah.out _ H6.out.below).mono ?_; rintro e w7 ⟨⟨v7, rfl, ho7⟩, hb7⟩; have H7 := Aside0.mk (And.intro (H6.out.on hb7) ho7); clear hb7 ho7) | (go_at_call 166; refine (hah.out _ HG.out.below).mono ?_; rintro e w7 ⟨⟨v7, rfl, ho7⟩, hb7⟩; have H7 := Aside0.mk (And.intro (HG.out.on hb7) ho7); clear hb7 ho7))
            go_ret
            exact ⟨by rw [HNO.out HE.out]; rfl, by first | exact H8.out.below | exact H6.out.below | exact H5.out.below | exact HG.out.below⟩
      · have hn3 : (y == 3) = false := beq_eq_false_iff_ne.2 (fun h => e34 (.inl h))
        have hn4 : (y == 4) = false := beq_eq_false_iff_ne.2 (fun h => e34 (.inr h))
        by_cases e12 : y = 1 ∨ y = 2
        · rcases e12 with rfl | rfl
          · cases ao
            · have HE : Aside0 (sb = false) := ⟨by rw [HF.out]; rw [hn5, hn3, hn4]; rfl⟩
              go_wp2_with (first | (go_at_call 123; refine (hbe.out _ HG.out.below).mono ?_; rintro e w4 ⟨⟨v4, rfl, ho4⟩, hb4⟩; have H4 := Aside0.mk (And.intro (HG.out.on hb4) ho4); clear hb4 ho4) | (go_at_call 74; refine (hua.out _ _ _ H7.out.1 H7.out.2).mono ?_; rintro e w8 ⟨rfl, hb8⟩; have H8 := Aside0.mk (H7.out.1.on hb8); clear hb8) | (go_at_call 74; refine (hua1.out _ _ _ H4.out.1 H4.out.2).mono ?_; rintro e w5 ⟨rfl, hb5⟩; have H5 := Aside0.mk (H4.out.1.on hb5); obtain ⟨hc0, hc1, hc2, hc3, hc4, hc5, hc6, hc7, hc8, hc9, hc10, hc11, hc12⟩ := H5.out.cells; clear hb5) | (go_at_call 164; refine (hbk.out _).mono ?_; rintro e w6 ⟨rfl, hb6⟩; have H6 := Aside0.mk (H5.out.on hb6); have hd0 := H6.out.cells.1; have hd1' := H6.out.cells.2.1; clear hb6) | (go_at_call 164; refine (hbk.out _).mono ?_; rintro e w6 ⟨rfl, hb6⟩; have H6 := Aside0.mk (HG.out.on hb6); have hd0 := H6.out.cells.1; have hd1' := H6.out.cells.2.1; clear hb6) | (go_at_call 166; refine (hah.out _ H6.out.below).mono ?_; rintro e w7 ⟨⟨v7, rfl, ho7⟩, hb7⟩; have H7 := Aside0.mk (And.intro (H6.out.on hb7) ho7); clear hb7 ho7) | (go_at_call 166; refine (hah.out _ HG.out.below).mono ?_; rintro e w7 ⟨⟨v7, rfl, ho7⟩, hb7⟩; have H7 := Aside0.mk (And.intro (HG.out.on hb7) ho7); clear hb7 ho7))
              go_ret
              exact ⟨by rw [HNO.out HE.out]; rfl, by first | exact H8.out.below | exact H6.out.below | exact H5.out.below | exact HG.out.below⟩
            · have HE : Aside0 (sb = true) := ⟨by rw [HF.out]; rw [hn5, hn3, hn4]; rfl⟩
              go_wp2_with (first | (go_at_call 123; refine (hbe.out _ HG.out.below).mono ?_; rintro e w4 ⟨⟨v4, rfl, ho4⟩, hb4⟩; have H4 := Aside0.mk (And.intro (HG.out.on hb4) ho4); clear hb4 ho4) | (go_at_call 74; refine (hua.out _ _ _ H7.out.1 H7.out.2).mono ?_; rintro e w8 ⟨rfl, hb8⟩; have H8 := Aside0.mk (H7.out.1.on hb8); clear hb8) | (go_at_call 74; refine (hua1.out _ _ _ H4.out.1 H4.out.2).mono ?_; rintro e w5 ⟨rfl, hb5⟩; have H5 := Aside0.mk (H4.out.1.on hb5); obtain ⟨hc0, hc1, hc2, hc3, hc4, hc5, hc6, hc7, hc8, hc9, hc10, hc11, hc12⟩ := H5.out.cells; clear hb5) | (go_at_call 164; refine (hbk.out _).mono ?_; rintro e w6 ⟨rfl, hb6⟩; have H6 := Aside0.mk (H5.out.on hb6); have hd0 := H6.out.cells.1; have hd1' := H6.out.cells.2.1; clear hb6) | (go_at_call 164; refine (hbk.out _).mono ?_; rintro e w6 ⟨rfl, hb6⟩; have H6 := Aside0.mk (HG.out.on hb6); have hd0 := H6.out.cells.1; have hd1' := H6.out.cells.2.1; clear hb6) | (go_at_call 166; refine (hah.out _ H6.out.below).mono ?_; rintro e w7 ⟨⟨v7, rfl, ho7⟩, hb7⟩; have H7 := Aside0.mk (And.intro (H6.out.on hb7) ho7); clear hb7 ho7) | (go_at_call 166; refine (hah.out _ HG.out.below).mono ?_; rintro e w7 ⟨⟨v7, rfl, ho7⟩, hb7⟩; have H7 := Aside0.mk (And.intro (HG.out.on hb7) ho7); clear hb7 ho7))
              go_roundw
              case rel => exact ⟨k + 1, hlt, by go_num, HYES.out HE.out, by first | exact H8.out | exact HG.out⟩
              case measure => simp [intOf]; omega
          · cases ao
            · have HE : Aside0 (sb = false) := ⟨by rw [HF.out]; rw [hn5, hn3, hn4]; rfl⟩
              go_wp2_with (first | (go_at_call 123; refine (hbe.out _ HG.out.below).mono ?_; rintro e w4 ⟨⟨v4, rfl, ho4⟩, hb4⟩; have H4 := Aside0.mk (And.intro (HG.out.on hb4) ho4); clear hb4 ho4) | (go_at_call 74; refine (hua.out _ _ _ H7.out.1 H7.out.2).mono ?_; rintro e w8 ⟨rfl, hb8⟩; have H8 := Aside0.mk (H7.out.1.on hb8); clear hb8) | (go_at_call 74; refine (hua1.out _ _ _ H4.out.1 H4.out.2).mono ?_; rintro e w5 ⟨rfl, hb5⟩; have H5 := Aside0.mk (H4.out.1.on hb5); obtain ⟨hc0, hc1, hc2, hc3, hc4, hc5, hc6, hc7, hc8, hc9, hc10, hc11, hc12⟩ := H5.out.cells; clear hb5) | (go_at_call 164; refine (hbk.out _).mono ?_; rintro e w6 ⟨rfl, hb6⟩; have H6 := Aside0.mk (H5.out.on hb6); have hd0 := H6.out.cells.1; have hd1' := H6.out.cells.2.1; clear hb6) | (go_at_call 164; refine (hbk.out _).mono ?_; rintro e w6 ⟨rfl, hb6⟩; have H6 := Aside0.mk (HG.out.on hb6); have hd0 := H6.out.cells.1; have hd1' := H6.out.cells.2.1; clear hb6) | (go_at_call 166; refine (hah.out _ H6.out.below).mono ?_; rintro e w7 ⟨⟨v7, rfl, ho7⟩, hb7⟩; have H7 := Aside0.mk (And.intro (H6.out.on hb7) ho7); clear hb7 ho7) | (go_at_call 166; refine (hah.out _ HG.out.below).mono ?_; rintro e w7 ⟨⟨v7, rfl, ho7⟩, hb7⟩; have H7 := Aside0.mk (And.intro (HG.out.on hb7) ho7); clear hb7 ho7))
              go_ret
              exact ⟨by rw [HNO.out HE.out]; rfl, by first | exact H8.out.below | exact H6.out.below | exact H5.out.below | exact HG.out.below⟩
            · have HE : Aside0 (sb = true) := ⟨by rw [HF.out]; rw [hn5, hn3, hn4]; rfl⟩
              go_wp2_with (first | (go_at_call 123; refine (hbe.out _ HG.out.below).mono ?_; rintro e w4 ⟨⟨v4, rfl, ho4⟩, hb4⟩; have H4 := Aside0.mk (And.intro (HG.out.on hb4) ho4); clear hb4 ho4) | (go_at_call 74; refine (hua.out _ _ _ H7.out.1 H7.out.2).mono ?_; rintro e w8 ⟨rfl, hb8⟩; have H8 := Aside0.mk (H7.out.1.on hb8); clear hb8) | (go_at_call 74; refine (hua1.out _ _ _ H4.out.1 H4.out.2).mono ?_; rintro e w5 ⟨rfl, hb5⟩; have H5 := Aside0.mk (H4.out.1.on hb5); obtain ⟨hc0, hc1, hc2, hc3, hc4, hc5, hc6, hc7, hc8, hc9, hc10, hc11, hc12⟩ := H5.out.cells; clear hb5) | (go_at_call 164; refine (hbk.out _).mono ?_; rintro e w6 ⟨rfl, hb6⟩; have H6 := Aside0.mk (H5.out.on hb6); have hd0 := H6.out.cells.1; have hd1' := H6.out.cells.2.1; clear hb6) | (go_at_call 164; refine (hbk.out _).mono ?_; rintro e w6 ⟨rfl, hb6⟩; have H6 := Aside0.mk (HG.out.on hb6); have hd0 := H6.out.cells.1; have hd1' := H6.out.cells.2.1; clear hb6) | (go_at_call 166; refine (hah.out _ H6.out.below).mono ?_; rintro e w7 ⟨⟨v7, rfl, ho7⟩, hb7⟩; have H7 := Aside0.mk (And.intro (H6.out.on hb7) ho7); clear hb7 ho7) | (go_at_call 166; refine (hah.out _ HG.out.below).mono ?_; rintro e w7 ⟨⟨v7, rfl, ho7⟩, hb7⟩; have H7 := Aside0.mk (And.intro (HG.out.on hb7) ho7); clear hb7 ho7))
              go_roundw
              case rel => exact ⟨k + 1, hlt, by go_num, HYES.out HE.out, by first | exact H8.out | exact HG.out⟩
              case measure => simp [intOf]; omega
        · have hn1 : (y == 1) = false := beq_eq_false_iff_ne.2 (fun h => e12 (.inl h))
          have hn2 : (y == 2) = false := beq_eq_false_iff_ne.2 (fun h => e12 (.inr h))
          clear e5 e34 e12
          cases h0 : (y == 0)
          · have HE : Aside0 (sb = false) := ⟨by rw [HF.out]; rw [hn5, hn3, hn4, hn1, hn2, h0]; rfl⟩
            go_wp2_with (first | (go_at_call 123; refine (hbe.out _ HG.out.below).mono ?_; rintro e w4 ⟨⟨v4, rfl, ho4⟩, hb4⟩; have H4 := Aside0.mk (And.intro (HG.out.on hb4) ho4); clear hb4 ho4) | (go_at_call 74; refine (hua.out _ _ _ H7.out.1 H7.out.2).mono ?_; rintro e w8 ⟨rfl, hb8⟩; have H8 := Aside0.mk (H7.out.1.on hb8); clear hb8) | (go_at_call 74; refine (hua1.out _ _ _ H4.out.1 H4.out.2).mono ?_; rintro e w5 ⟨rfl, hb5⟩; have H5 := Aside0.mk (H4.out.1.on hb5); obtain ⟨hc0, hc1, hc2, hc3, hc4, hc5, hc6, hc7, hc8, hc9, hc10, hc11, hc12⟩ := H5.out.cells; clear hb5) | (go_at_call 164; refine (hbk.out _).mono ?_; rintro e w6 ⟨rfl, hb6⟩; have H6 := Aside0.mk (H5.out.on hb6); have hd0 := H6.out.cells.1; have hd1' := H6.out.cells.2.1; clear hb6) | (go_at_call 164; refine (hbk.out _).mono ?_; rintro e w6 ⟨rfl, hb6⟩; have H6 := Aside0.mk (HG.out.on hb6); have hd0 := H6.out.cells.1; have hd1' := H6.out.cells.2.1; clear hb6) | (go_at_call 166; refine (hah.out _ H6.out.below).mono ?_; rintro e w7 ⟨⟨v7, rfl, ho7⟩, hb7⟩; have H7 := Aside0.mk (And.intro (H6.out.on hb7) ho7); clear hb7 ho7) | (go_at_call 166; refine (hah.out _ HG.out.below).mono ?_; rintro e w7 ⟨⟨v7, rfl, ho7⟩, hb7⟩; have H7 := Aside0.mk (And.intro (HG.out.on hb7) ho7); clear hb7 ho7))
            go_ret
            exact ⟨by rw [HNO.out HE.out]; rfl, by first | exact H8.out.below | exact H6.out.below | exact H5.out.below | exact HG.out.below⟩
          · have HE : Aside0 (sb = true) := ⟨by rw [HF.out]; rw [hn5, hn3, hn4, hn1, hn2, h0]; rfl⟩
            go_wp2_with (first | (go_at_call 123; refine (hbe.out _ HG.out.below).mono ?_; rintro e w4 ⟨⟨v4, rfl, ho4⟩, hb4⟩; have H4 := Aside0.mk (And.intro (HG.out.on hb4) ho4); clear hb4 ho4) | (go_at_call 74; refine (hua.out _ _ _ H7.out.1 H7.out.2).mono ?_; rintro e w8 ⟨rfl, hb8⟩; have H8 := Aside0.mk (H7.out.1.on hb8); clear hb8) | (go_at_call 74; refine (hua1.out _ _ _ H4.out.1 H4.out.2).mono ?_; rintro e w5 ⟨rfl, hb5⟩; have H5 := Aside0.mk (H4.out.1.on hb5); obtain ⟨hc0, hc1, hc2, hc3, hc4, hc5, hc6, hc7, hc8, hc9, hc10, hc11, hc12⟩ := H5.out.cells; clear hb5) | (go_at_call 164; refine (hbk.out _).mono ?_; rintro e w6 ⟨rfl, hb6⟩; have H6 := Aside0.mk (H5.out.on hb6); have hd0 := H6.out.cells.1; have hd1' := H6.out.cells.2.1; clear hb6) | (go_at_call 164; refine (hbk.out _).mono ?_; rintro e w6 ⟨rfl, hb6⟩; have H6 := Aside0.mk (HG.out.on hb6); have hd0 := H6.out.cells.1; have hd1' := H6.out.cells.2.1; clear hb6) | (go_at_call 166; refine (hah.out _ H6.out.below).mono ?_; rintro e w7 ⟨⟨v7, rfl, ho7⟩, hb7⟩; have H7 := Aside0.mk (And.intro (H6.out.on hb7) ho7); clear hb7 ho7) | (go_at_call 166; refine (hah.out _ HG.out.below).mono ?_; rintro e w7 ⟨⟨v7, rfl, ho7⟩, hb7⟩; have H7 := Aside0.mk (And.intro (HG.out.on hb7) ho7); clear hb7 ho7))
            go_roundw
            case rel => exact ⟨k + 1, hlt, by go_num, HYES.out HE.out, by first | exact H8.out | exact HG.out⟩
            case measure => simp [intOf]; omega
  · have hd1 : decide ((k : Int) < (x.steps.length : Int)) = false := decide_eq_false (by omega)
    have hk' : k = x.steps.length := by omega
    have HR : Aside0 (rr = true) := ⟨HS.out _ (by
     rw [List.all_eq_true]
     exact fun j hj => HAL.out j (by have := List.mem_range.1 hj; omega))⟩
    clear hk'
    go_wp2
    go_ret
    exact ⟨by rw [HR.out]; rfl, HG.out.below⟩
end Go.Proofs.YtgjddnaidjbhlaaGreatDoor.Ph

/- phase.view: all (P19): walked by hand. -/
namespace Go.Proofs.YtgjddnaidjbhlaaGreatDoor.Ph
open Go.RowKit Go.IntWalk Go.Proofs.YtgjddnaidjbhlaaGreatDoorW.PrintWords Go.Proofs.YtgjddnaidjbhlaaGreatDoorW.PrintLast Go.Proofs.YtgjddnaidjbhlaaGreatDoorW.PrintMore Go.Proofs.YtgjddnaidjbhlaaGreatDoor.PlName Go.Proofs.YtgjddnaidjbhlaaGreatDoor.Pl

set_option maxHeartbeats 8000000 in
set_option maxRecDepth 100000 in
theorem all_calls (nm : ByteArray) (l : List Step) (A : Option Addr) (c : Nat) (x : Inst) (B : Option Addr) (cb : Nat) (kind : Int) (S : Option Addr) (cs : Nat) (sts : List Int) (w : World) (hS : StepsAt w A l) (hl8 : l.length ≤ 8) (hx : x.steps.length = l.length) (hB : Kd.C (Kd.int .i64) w B x.steps.length x.steps) (hs : Kd.C (Kd.int .i64) w S sts.length sts) (hs8 : sts.length ≤ 8) :
 Calls Tryz.prog 135 #[.agg #[.string nm, .slice A l.length c, .int .i64 x.id, .string x.key, .string x.name, .int .i64 x.version, .int .i64 x.phase, .int .i64 x.cause, .slice B x.steps.length cb, .int .i64 (x.freed 0), .int .i64 (x.freed 1), .int .i64 (x.freed 2), .int .i64 (x.freed 3)], .int .i64 kind, .slice S sts.length cs] w fun e w' => e = .returned (.bool (allL l x kind sts)) ∧ Below w.heap.size w w' := by
 have HV := Aside0.mk (Vw.start nm l A c x B cb w)
 have hcn := Aside0.mk (fun W (h : Vw w W nm l A c x B cb) => count_calls nm l A c x B cb kind S cs sts W (hS.below h.below) hl8 hx (Kd.C_below hB h.below) (Kd.C_below hs h.below) hs8)
 have hki := Aside0.mk (fun W (h : Vw w W nm l A c x B cb) => kinds_calls nm l A c x B cb kind W (hS.below h.below) hl8)
 have HF := Aside0.mk (count_all l x kind sts)
 clear hS hx hB hs
 generalize allL l x kind sts = rr at *
 generalize countL l x kind sts = cn at *
 generalize kindsL l kind = ki at *
 go_enter Tryz.func135, Tryz.ntmps135
 go_wp2
 generalize World.alloc w _ = w0 at *
 obtain ⟨hq0, hq1, hq2, hq3, hq4, hq5, hq6, hq7, hq8, hq9, hq10, hq11, hq12⟩ := HV.out.cells
 refine start_ (n := 9) (S := fun w' => w'.cell? ⟨w.heap.size, 0, none⟩ = some (.string nm) ∧ w'.cell? ⟨w.heap.size, 1, none⟩ = some (.slice A l.length c) ∧ w'.cell? ⟨w.heap.size, 2, none⟩ = some (.int .i64 x.id) ∧ w'.cell? ⟨w.heap.size, 3, none⟩ = some (.string x.key) ∧ w'.cell? ⟨w.heap.size, 4, none⟩ = some (.string x.name) ∧ w'.cell? ⟨w.heap.size, 5, none⟩ = some (.int .i64 x.version) ∧ w'.cell? ⟨w.heap.size, 6, none⟩ = some (.int .i64 x.phase) ∧ w'.cell? ⟨w.heap.size, 7, none⟩ = some (.int .i64 x.cause) ∧ w'.cell? ⟨w.heap.size, 8, none⟩ = some (.slice B x.steps.length cb) ∧ w'.cell? ⟨w.heap.size, 9, none⟩ = some (.int .i64 (x.freed 0)) ∧ w'.cell? ⟨w.heap.size, 10, none⟩ = some (.int .i64 (x.freed 1)) ∧ w'.cell? ⟨w.heap.size, 11, none⟩ = some (.int .i64 (x.freed 2)) ∧ w'.cell? ⟨w.heap.size, 12, none⟩ = some (.int .i64 (x.freed 3)) ∧ Vw w w' nm l A c x B cb) (ds := []) #[false,false,false,false,false,false,false,false,false] (by kernel_rfl) rfl rfl ⟨(by go_keep), (by go_keep), (by go_keep), (by go_keep), (by go_keep), (by go_keep), (by go_keep), (by go_keep), (by go_keep), (by go_keep), (by go_keep), (by go_keep), (by go_keep), (HV.out.on (below_drew (Below.refl _ _)))⟩ (fun hHeld => ?_)
 refine zV 1 8 9 2 ?_
 refine zV 2 9 9 6 ?_
 refine zV 5 12 9 38 ?_
 refine zT 0 7 9 39 hHeld ?_
 refine zT 4 11 9 55 hHeld ?_
 refine one_ (i := 3) (N := some 10) (zG 9 63) rfl rfl (by kernel_rfl) (by decide) (fun K hK => ?_)
 refine goes_ Tryz.func136 (by kernel_rfl) rfl #[.agg #[.string nm, .slice A l.length c, .int .i64 x.id, .string x.key, .string x.name, .int .i64 x.version, .int .i64 x.phase, .int .i64 x.cause, .slice B x.steps.length cb, .int .i64 (x.freed 0), .int .i64 (x.freed 1), .int .i64 (x.freed 2), .int .i64 (x.freed 3)], .int .i64 kind, .slice S sts.length cs] (by rfl) rfl rfl (by simp only [List.map_toArray, List.map_cons, List.map_nil]; rfl) ?_
 with_reducible refine (hcn.out _ hHeld.2.2.2.2.2.2.2.2.2.2.2.2.2).mono ?_
 rintro e w1 ⟨rfl, hb1⟩
 refine ⟨_, rfl, ?_⟩
 refine hK.out _ _ ⟨(cell_on hb1 hHeld.1), (cell_on hb1 hHeld.2.1), (cell_on hb1 hHeld.2.2.1), (cell_on hb1 hHeld.2.2.2.1), (cell_on hb1 hHeld.2.2.2.2.1), (cell_on hb1 hHeld.2.2.2.2.2.1), (cell_on hb1 hHeld.2.2.2.2.2.2.1), (cell_on hb1 hHeld.2.2.2.2.2.2.2.1), (cell_on hb1 hHeld.2.2.2.2.2.2.2.2.1), (cell_on hb1 hHeld.2.2.2.2.2.2.2.2.2.1), (cell_on hb1 hHeld.2.2.2.2.2.2.2.2.2.2.1), (cell_on hb1 hHeld.2.2.2.2.2.2.2.2.2.2.2.1), (cell_on hb1 hHeld.2.2.2.2.2.2.2.2.2.2.2.2.1), (hHeld.2.2.2.2.2.2.2.2.2.2.2.2.2.on hb1)⟩ (fun hHeld => ?_)
 clear hK K
 refine norm_ (a' := ?_) ?_ ?_
 rotate_left
 · show Act.put _ (some 10) _ = _
   simp only [Act.put, zA, zB, zC, i64_w, i32_w]
   rfl
 refine one_ (i := 6) (N := some 13) (zG 9 127) rfl rfl (by kernel_rfl) (by decide) (fun K hK => ?_)
 refine goes_ Tryz.func33 (by kernel_rfl) rfl #[.agg #[.string nm, .slice A l.length c, .int .i64 x.id, .string x.key, .string x.name, .int .i64 x.version, .int .i64 x.phase, .int .i64 x.cause, .slice B x.steps.length cb, .int .i64 (x.freed 0), .int .i64 (x.freed 1), .int .i64 (x.freed 2), .int .i64 (x.freed 3)], .int .i64 kind] (by rfl) rfl rfl (by simp only [List.map_toArray, List.map_cons, List.map_nil]; rfl) ?_
 with_reducible refine (hki.out _ hHeld.2.2.2.2.2.2.2.2.2.2.2.2.2).mono ?_
 rintro e w2 ⟨rfl, hb2⟩
 refine ⟨_, rfl, ?_⟩
 refine hK.out _ _ ⟨(cell_on hb2 hHeld.1), (cell_on hb2 hHeld.2.1), (cell_on hb2 hHeld.2.2.1), (cell_on hb2 hHeld.2.2.2.1), (cell_on hb2 hHeld.2.2.2.2.1), (cell_on hb2 hHeld.2.2.2.2.2.1), (cell_on hb2 hHeld.2.2.2.2.2.2.1), (cell_on hb2 hHeld.2.2.2.2.2.2.2.1), (cell_on hb2 hHeld.2.2.2.2.2.2.2.2.1), (cell_on hb2 hHeld.2.2.2.2.2.2.2.2.2.1), (cell_on hb2 hHeld.2.2.2.2.2.2.2.2.2.2.1), (cell_on hb2 hHeld.2.2.2.2.2.2.2.2.2.2.2.1), (cell_on hb2 hHeld.2.2.2.2.2.2.2.2.2.2.2.2.1), (hHeld.2.2.2.2.2.2.2.2.2.2.2.2.2.on hb2)⟩ (fun hHeld => ?_)
 clear hK K
 refine norm_ (a' := ?_) ?_ ?_
 rotate_left
 · show Act.put _ (some 13) _ = _
   simp only [Act.put, zA, zB, zC, i64_w, i32_w]
   rfl
 refine zV 7 14 9 255 ?_
 refine zV 8 6 9 511 ?_
 refine done_ (by kernel_rfl) ?_
 go_wp2
 go_ret
 exact ⟨by rw [← HF.out]; rfl, hHeld.2.2.2.2.2.2.2.2.2.2.2.2.2.below⟩
end Go.Proofs.YtgjddnaidjbhlaaGreatDoor.Ph

/- cost.own, cost.parts (P19): walked by hand. -/
namespace Go.Proofs.YtgjddnaidjbhlaaGreatDoor.Ph
open Go.RowKit Go.IntWalk Go.Proofs.YtgjddnaidjbhlaaGreatDoorW.PrintWords Go.Proofs.YtgjddnaidjbhlaaGreatDoorW.PrintLast Go.Proofs.YtgjddnaidjbhlaaGreatDoorW.PrintMore Go.Proofs.YtgjddnaidjbhlaaGreatDoor.PlName Go.Proofs.YtgjddnaidjbhlaaGreatDoor.Pl

def ownC (s : Step) : Int := if s.kind == 1 then 2 else 1
set_option maxHeartbeats 4000000 in
set_option maxRecDepth 100000 in
theorem own_calls (s : Step) (v1 v2 : Value) (A1 : Option Addr) (n1 c1 : Nat) (A2 : Option Addr) (n2 c2 : Nat) (h1 : v1 = .slice A1 n1 c1) (h2 : v2 = .slice A2 n2 c2) (w : World) :
 Calls Tryz.prog 69 #[.agg #[.string s.name, .int .i64 s.kind, .int .i64 s.part, v1, v2]] w fun e w' => e = .returned (.int .i64 (ownC s)) ∧ Below w.heap.size w w' := by
 subst h1 h2
 have HF : Aside0 (ownC s = if s.kind == 1 then 2 else 1) := ⟨rfl⟩
 generalize ownC s = rr at *
 go_enter Tryz.func69, Tryz.ntmps69
 cases hk : (s.kind == 1)
 all_goals
  rw [hk] at HF
  go_wp2
  go_ret
  exact ⟨by rw [HF.out]; rfl, below_one _ _⟩

def rowI (f : Nat → Int) : Array Value := #[.int .i64 (f 0), .int .i64 (f 1), .int .i64 (f 2), .int .i64 (f 3)]
def updI (f : Nat → Int) (j : Nat) (v : Int) : Nat → Int := fun k => if k = j then v else f k
theorem rowI_at {f : Nat → Int} {j : Nat} (h : j < 4) : (rowI f)[j]? = some (.int .i64 (f j)) := by
 have : j = 0 ∨ j = 1 ∨ j = 2 ∨ j = 3 := by omega
 rcases this with rfl | rfl | rfl | rfl <;> rfl
theorem rowI_set {f : Nat → Int} {j : Nat} (h : j < 4) (v : Int) : (rowI f).setIfInBounds j (.int .i64 v) = rowI (updI f j v) := by
 have : j = 0 ∨ j = 1 ∨ j = 2 ∨ j = 3 := by omega
 rcases this with rfl | rfl | rfl | rfl <;> rfl
theorem updI_at (f : Nat → Int) (j : Nat) (v : Int) : updI f j v j = v := by
 unfold updI
 simp
theorem updI_ne {f : Nat → Int} {j k : Nat} (v : Int) (h : k ≠ j) : updI f j v k = f k := by
 unfold updI
 simp [h]
theorem updI_updI (f : Nat → Int) (j : Nat) (a b : Int) : updI (updI f j a) j b = updI f j b := by
 funext k
 unfold updI
 split <;> rfl
/-- The worlds of parts. -/
structure Pt (w W : World) (nm : ByteArray) (l : List Step) (ad : Addr) (c : Nat) (f : Nat → Int) : Prop where
 below : Below w.heap.size w W
 box : W.heap[w.heap.size]? = some (.cells #[.string nm, .slice (some ad) l.length c] 24 (0, 0))
 out : W.heap[w.heap.size + 1]? = some (.cells (rowI f) 26 (0, 0))
section
variable {w W W2 : World} {nm : ByteArray} {l : List Step} {ad : Addr} {c : Nat} {f : Nat → Int}
theorem Pt.on (h : Pt w W nm l ad c f) (hb : Below W.heap.size W W2) : Pt w W2 nm l ad c f := ⟨on_ h.below hb, row_on hb h.box, row_on hb h.out⟩
theorem Pt.set (h : Pt w W nm l ad c f) {m : Nat} (hm : m < 4) (v : Int) : Pt w (W.setCell ⟨w.heap.size + 1, m, none⟩ (.int .i64 v)) nm l ad c (updI f m v) :=
 ⟨h.below.setCell (p := ⟨w.heap.size + 1, m, none⟩) (Nat.le_succ _) _, row_setCell_ne h.box _ _ (by show w.heap.size ≠ w.heap.size + 1; omega), by rw [row_setCell h.out, rowI_set hm]⟩
theorem Pt.start (hW : (w.alloc (.cells #[.string nm, .slice (some ad) l.length c] 24)).alloc (.cells #[.int .i64 0, .int .i64 0, .int .i64 0, .int .i64 0] 26) = W) : Pt w W nm l ad c (fun _ => 0) := by
 subst hW
 have h1 := below_one w (.cells #[.string nm, .slice (some ad) l.length c] 24)
 have r1 := alloc1 w (.cells #[.string nm, .slice (some ad) l.length c] 24)
 have s1 : (w.alloc (.cells #[.string nm, .slice (some ad) l.length c] 24)).heap.size = w.heap.size + 1 := by
  show (w.heap.push _).size = _
  simp
 generalize w.alloc (.cells #[.string nm, .slice (some ad) l.length c] 24) = w1 at *
 have h2 := below_one w1 (.cells (rowI (fun _ => 0)) 26)
 have r2 := alloc1 w1 (.cells (rowI (fun _ => 0)) 26)
 rw [s1] at r2
 exact ⟨on_ h1 h2, row_on h2 r1, r2⟩
end
theorem step_cells {W : World} {gx : Nat} {a : ByteArray} {k p : Int} {v1 v2 : Value} (h : W.heap[gx]? = some (.cells #[.string a, .int .i64 k, .int .i64 p, v1, v2] 70 (0, 0))) : W.cell? ⟨gx, 0, none⟩ = some (.string a) ∧ W.cell? ⟨gx, 1, none⟩ = some (.int .i64 k) ∧ W.cell? ⟨gx, 2, none⟩ = some (.int .i64 p) ∧ W.cell? ⟨gx, 3, none⟩ = some v1 ∧ W.cell? ⟨gx, 4, none⟩ = some v2 := ⟨row_cell h rfl, row_cell h rfl, row_cell h rfl, row_cell h rfl, row_cell h rfl⟩
def namedUp (l : List Step) (k p : Nat) : Bool := (List.range k).any fun i => (stepAt l i).part == (p : Int)
theorem namedUp_succ (l : List Step) (k p : Nat) : namedUp l (k + 1) p = (namedUp l k p || (stepAt l k).part == (p : Int)) := by
 unfold namedUp
 simp [List.range_succ]
/-- What the counts tell. -/
def Cn (l : List Step) (k : Nat) (f : Nat → Int) : Prop := ∀ p, p < 4 → 0 ≤ f p ∧ f p ≤ 3 * k ∧ decide (0 < f p) = namedUp l k p
theorem Cn.step {l : List Step} {k m : Nat} {f : Nat → Int} (h : Cn l k f) (hm : m < 4) (hp : (stepAt l k).part = (m : Int)) {v : Int} (h1 : f m < v) (h2 : v ≤ f m + 3) : Cn l (k + 1) (updI f m v) := fun p hp4 => by
 obtain ⟨a, b, c⟩ := h p hp4
 rw [namedUp_succ, hp]
 by_cases e : p = m
 · subst e
   rw [updI_at]
   refine ⟨by omega, by omega, ?_⟩
   rw [decide_eq_true (by omega)]
   simp
 · rw [updI_ne v e, c]
   refine ⟨a, by omega, ?_⟩
   have : ((m : Int) == (p : Int)) = false := beq_eq_false_iff_ne.2 (by omega)
   rw [this, Bool.or_false]
set_option maxHeartbeats 16000000 in
set_option maxRecDepth 100000 in
theorem parts_calls (nm : ByteArray) (l : List Step) (ad : Addr) (c : Nat) (w : World) (hS : StepsAt w (some ad) l) (hl8 : l.length ≤ 8) (hp : ∀ i, i < l.length → 0 ≤ (stepAt l i).part ∧ (stepAt l i).part ≤ 3) :
 Calls Tryz.prog 68 #[.agg #[.string nm, .slice (some ad) l.length c]] w fun e w' => (∃ f : Nat → Int, e = .returned (.agg #[.int .i64 (f 0), .int .i64 (f 1), .int .i64 (f 2), .int .i64 (f 3)]) ∧ Cn l l.length f) ∧ Below w.heap.size w w' := by
 have HA := Aside0.mk (And.intro hS hp)
 have HW := Aside0.mk (fun W hW => Pt.start (w := w) (W := W) (nm := nm) (l := l) (ad := ad) (c := c) hW)
 clear hS hp
 go_enter Tryz.func68, Tryz.ntmps68
 go_wp2
 generalize hW : World.alloc (World.alloc w _) _ = w0 at *
 have H0 := Aside0.mk (HW.out _ rfl)
 clear hW HW
 go_loopw [8] (fun v8 wr => ∃ (k : Nat) (f : Nat → Int), k ≤ l.length ∧ v8 = .int .i64 (k : Int) ∧ Cn l k f ∧ Pt w wr nm l ad c f) (fun v8 _ => l.length - (intOf v8).toNat)
 case atStart => exact ⟨0, _, Nat.zero_le _, rfl, fun p _ => ⟨by omega, by omega, rfl⟩, H0.out⟩
 case round =>
  obtain ⟨wo, rfl⟩ : ∃ wo : World, wo = wr := ⟨_, rfl⟩
  obtain ⟨k, f, hk, rfl, hcn, hN⟩ := hrel
  have HG := Aside0.mk (And.intro hcn hN)
  clear H0 hcn
  by_cases hlt : k < l.length
  · have hd1 : decide ((k : Int) < (l.length : Int)) = true := decide_eq_true (by omega)
    obtain ⟨_, e, A1, c1, A2, c2, h1⟩ := HA.out.1.one (stepAt_eq hlt)
    cases e
    obtain ⟨hq0, hq1, hq2, hq3, hq4, _, _, _, _⟩ := h1.below HG.out.2.below
    clear h1
    obtain ⟨p, hpp⟩ : ∃ p : Nat, (stepAt l k).part = (p : Int) := ⟨(stepAt l k).part.toNat, by have := HA.out.2 k hlt; omega⟩
    have hp4 : p < 4 := by have := HA.out.2 k hlt; omega
    have hd4 : decide ((p : Int) < 4) = true := decide_eq_true (by omega)
    have hp4i : (p : Int) < 4 := by omega
    obtain ⟨hf0, hf1, -⟩ := HG.out.1 p hp4
    have hfb : f p ≤ 24 := by omega
    clear hf1
    have HS : Aside0 (∀ v, f p < v → v ≤ f p + 3 → Cn l (k + 1) (updI f p v)) := ⟨fun v h1 h2 => HG.out.1.step hp4 hpp h1 h2⟩
    have hown := Aside0.mk (fun W => own_calls (stepAt l k) _ _ A1 (stepAt l k).keys.length c1 A2 (stepAt l k).needs.length c2 rfl rfl W)
    have ho3 : 1 ≤ ownC (stepAt l k) ∧ ownC (stepAt l k) ≤ 2 := by unfold ownC; split <;> omega
    rw [hpp] at hq2 hown
    generalize (stepAt l k).part = pt at *
    generalize stepAt l k = s at *
    generalize ownC s = oc at *
    obtain ⟨ho1, ho2⟩ := ho3
    clear hpp
    have hx := Aside0.mk (And.intro (HG.out.2.on (below_one wo (.cells #[.string s.name, .int .i64 s.kind, .int .i64 (p : Int), .slice A1 s.keys.length c1, .slice A2 s.needs.length c2] 70))) (alloc1 wo (.cells #[.string s.name, .int .i64 s.kind, .int .i64 (p : Int), .slice A1 s.keys.length c1, .slice A2 s.needs.length c2] 70)))
    have hqp := row_cell (j := p) hx.out.1.out (rowI_at hp4)
    have hfp := free_of_row (j := p) hx.out.1.out
    clear hN
    cases hz : (f p == 0)
    · go_wp2
      have HB0 : Aside0 (∀ W, wo.alloc (.cells #[.string s.name, .int .i64 s.kind, .int .i64 (p : Int), .slice A1 s.keys.length c1, .slice A2 s.needs.length c2] 70) = W → Pt w W nm l ad c f ∧ W.heap[wo.heap.size]? = some (.cells #[.string s.name, .int .i64 s.kind, .int .i64 (p : Int), .slice A1 s.keys.length c1, .slice A2 s.needs.length c2] 70 (0, 0))) := ⟨fun W h => h ▸ hx.out⟩
      generalize hW : World.alloc wo _ = w4 at *
      have H4 := Aside0.mk (HB0.out _ rfl)
      generalize wo.heap.size = gx at *
      clear hqp hfp hq0 hq1 hq2 hq3 hq4 hx HB0 hW
      obtain ⟨hr0, hr1, hr2, hr3, hr4⟩ := step_cells H4.out.2
      have hqp := row_cell (j := p) H4.out.1.out (rowI_at hp4)
      refine start_ (n := 9) (S := fun w' => w'.cell? ⟨gx, 0, none⟩ = some (.string s.name) ∧ w'.cell? ⟨gx, 1, none⟩ = some (.int .i64 s.kind) ∧ w'.cell? ⟨gx, 2, none⟩ = some (.int .i64 (p : Int)) ∧ w'.cell? ⟨gx, 3, none⟩ = some (.slice A1 s.keys.length c1) ∧ w'.cell? ⟨gx, 4, none⟩ = some (.slice A2 s.needs.length c2) ∧ w'.cell? ⟨w.heap.size + 1, p, none⟩ = some (.int .i64 (f p))) (ds := [8]) #[false,false,false,false,false,false,false,false,false] (by kernel_rfl) rfl rfl ⟨(by go_keep), (by go_keep), (by go_keep), (by go_keep), (by go_keep), (by go_keep)⟩ (fun hHeld => ?_)
      refine zV 0 23 9 1 ?_
      refine zT 1 24 9 3 hHeld ?_
      refine zV 2 25 9 7 ?_
      refine zT 3 26 9 15 hHeld ?_
      refine zT 4 27 9 31 hHeld ?_
      refine one_ (i := 5) (N := some 28) (zG 9 63) rfl rfl (by kernel_rfl) (by decide) (fun K hK => ?_)
      refine goes_ Tryz.func69 (by kernel_rfl) rfl #[.agg #[.string s.name, .int .i64 s.kind, .int .i64 (p : Int), .slice A1 s.keys.length c1, .slice A2 s.needs.length c2]] (by rfl) rfl rfl (by simp only [List.map_toArray, List.map_cons, List.map_nil]; rfl) ?_
      with_reducible refine (hown.out _).mono ?_
      rintro e w5 ⟨rfl, hb5⟩
      refine ⟨_, rfl, ?_⟩
      refine hK.out _ _ ⟨(cell_on hb5 hHeld.1), (cell_on hb5 hHeld.2.1), (cell_on hb5 hHeld.2.2.1), (cell_on hb5 hHeld.2.2.2.1), (cell_on hb5 hHeld.2.2.2.2.1), (cell_on hb5 hHeld.2.2.2.2.2)⟩ (fun hHeld => ?_)
      clear hK K
      refine norm_ (a' := ?_) ?_ ?_
      rotate_left
      · show Act.put _ (some 28) _ = _
        simp only [Act.put, zA, zB, zC, i64_w, i32_w]
        rfl
      refine zV 6 29 9 127 ?_
      refine zV 7 30 9 255 ?_
      refine last_ (i := 8) (N := none) #[true,true,true,true,true,true,true,true,true] rfl rfl (by kernel_rfl) (by decide) (fun K hK => ?_)
      have H5 := Aside0.mk (H4.out.1.on (on_ (below_drew (Below.refl _ _)) hb5))
      have hqp5 := row_cell (j := p) H5.out.out (rowI_at hp4)
      have hfp5 := free_of_row (j := p) H5.out.out
      refine skip_ (w1 := ?_) (by rfl) rfl ?_ ?_
      rotate_left
      · go_simp
        rfl
      refine hK.out _ _ ?_
      clear hK K
      refine done_ (by kernel_rfl) ?_
      have HC := Aside0.mk (HS.out (f p + oc) (by omega) (by omega))
      go_wp2
      go_roundw
      case rel => exact ⟨k + 1, _, hlt, by go_num, HC.out, by rw [show wrap64 (f p + oc) = f p + oc by unfold wrap64; omega]; exact H5.out.set hp4 (f p + oc)⟩
      case measure => simp [intOf]; omega
    · go_wp2
      have HB0 : Aside0 (∀ W, (wo.alloc (.cells #[.string s.name, .int .i64 s.kind, .int .i64 (p : Int), .slice A1 s.keys.length c1, .slice A2 s.needs.length c2] 70)).setCell ⟨w.heap.size + 1, p, none⟩ (.int .i64 (f p + 1)) = W → Pt w W nm l ad c (updI f p (f p + 1)) ∧ W.heap[wo.heap.size]? = some (.cells #[.string s.name, .int .i64 s.kind, .int .i64 (p : Int), .slice A1 s.keys.length c1, .slice A2 s.needs.length c2] 70 (0, 0))) := ⟨fun W h => by
       subst h
       refine ⟨hx.out.1.set hp4 _, row_setCell_ne hx.out.2 _ _ (fun e => ?_)⟩
       have h1 := (Array.getElem?_eq_some_iff.1 HG.out.2.out).1
       have e : wo.heap.size = w.heap.size + 1 := e
       omega⟩
      generalize hW : World.setCell (World.alloc wo _) _ _ = w4 at *
      have H4 := Aside0.mk (HB0.out _ rfl)
      generalize wo.heap.size = gx at *
      clear hqp hfp hq0 hq1 hq2 hq3 hq4 hx HB0 hW
      obtain ⟨hr0, hr1, hr2, hr3, hr4⟩ := step_cells H4.out.2
      have hqp := row_cell (j := p) H4.out.1.out (rowI_at hp4)
      rw [updI_at] at hqp
      refine start_ (n := 9) (S := fun w' => w'.cell? ⟨gx, 0, none⟩ = some (.string s.name) ∧ w'.cell? ⟨gx, 1, none⟩ = some (.int .i64 s.kind) ∧ w'.cell? ⟨gx, 2, none⟩ = some (.int .i64 (p : Int)) ∧ w'.cell? ⟨gx, 3, none⟩ = some (.slice A1 s.keys.length c1) ∧ w'.cell? ⟨gx, 4, none⟩ = some (.slice A2 s.needs.length c2) ∧ w'.cell? ⟨w.heap.size + 1, p, none⟩ = some (.int .i64 (f p + 1))) (ds := [8]) #[false,false,false,false,false,false,false,false,false] (by kernel_rfl) rfl rfl ⟨(by go_keep), (by go_keep), (by go_keep), (by go_keep), (by go_keep), (by go_keep)⟩ (fun hHeld => ?_)
      refine zV 0 23 9 1 ?_
      refine zT 1 24 9 3 hHeld ?_
      refine zV 2 25 9 7 ?_
      refine zT 3 26 9 15 hHeld ?_
      refine zT 4 27 9 31 hHeld ?_
      refine one_ (i := 5) (N := some 28) (zG 9 63) rfl rfl (by kernel_rfl) (by decide) (fun K hK => ?_)
      refine goes_ Tryz.func69 (by kernel_rfl) rfl #[.agg #[.string s.name, .int .i64 s.kind, .int .i64 (p : Int), .slice A1 s.keys.length c1, .slice A2 s.needs.length c2]] (by rfl) rfl rfl (by simp only [List.map_toArray, List.map_cons, List.map_nil]; rfl) ?_
      with_reducible refine (hown.out _).mono ?_
      rintro e w5 ⟨rfl, hb5⟩
      refine ⟨_, rfl, ?_⟩
      refine hK.out _ _ ⟨(cell_on hb5 hHeld.1), (cell_on hb5 hHeld.2.1), (cell_on hb5 hHeld.2.2.1), (cell_on hb5 hHeld.2.2.2.1), (cell_on hb5 hHeld.2.2.2.2.1), (cell_on hb5 hHeld.2.2.2.2.2)⟩ (fun hHeld => ?_)
      clear hK K
      refine norm_ (a' := ?_) ?_ ?_
      rotate_left
      · show Act.put _ (some 28) _ = _
        simp only [Act.put, zA, zB, zC, i64_w, i32_w]
        rfl
      refine zV 6 29 9 127 ?_
      refine zV 7 30 9 255 ?_
      refine last_ (i := 8) (N := none) #[true,true,true,true,true,true,true,true,true] rfl rfl (by kernel_rfl) (by decide) (fun K hK => ?_)
      have H5 := Aside0.mk (H4.out.1.on (on_ (below_drew (Below.refl _ _)) hb5))
      have hqp5 := row_cell (j := p) H5.out.out (rowI_at hp4)
      have hfp5 := free_of_row (j := p) H5.out.out
      refine skip_ (w1 := ?_) (by rfl) rfl ?_ ?_
      rotate_left
      · go_simp
        rfl
      refine hK.out _ _ ?_
      clear hK K
      refine done_ (by kernel_rfl) ?_
      have HC := Aside0.mk (HS.out (f p + 1 + oc) (by omega) (by omega))
      have HW5 := Aside0.mk (H5.out.set hp4 (f p + 1 + oc))
      rw [updI_updI] at HW5
      go_wp2
      go_roundw
      case rel => exact ⟨k + 1, _, hlt, by go_num, HC.out, by rw [show wrap64 (f p + 1 + oc) = f p + 1 + oc by unfold wrap64; omega]; exact HW5.out⟩
      case measure => simp [intOf]; omega
  · have hk' : k = l.length := by omega
    subst hk'
    have hd1 : decide ((l.length : Int) < (l.length : Int)) = false := decide_eq_false (by omega)
    have q0 := row_cell (j := 0) hN.out (rowI_at (by decide))
    have q1 := row_cell (j := 1) hN.out (rowI_at (by decide))
    have q2 := row_cell (j := 2) hN.out (rowI_at (by decide))
    have q3 := row_cell (j := 3) hN.out (rowI_at (by decide))
    have z0 := free_of_row (j := 0) hN.out
    have z1 := free_of_row (j := 1) hN.out
    have z2 := free_of_row (j := 2) hN.out
    have z3 := free_of_row (j := 3) hN.out
    have hE := Aside0.mk (row_setCell (row_setCell (row_setCell (row_setCell hN.out 0 (.int .i64 (f 0))) 1 (.int .i64 (f 1))) 2 (.int .i64 (f 2))) 3 (.int .i64 (f 3)))
    have hB := Aside0.mk ((((hN.below.setCell (p := ⟨w.heap.size + 1, 0, none⟩) (Nat.le_succ _) (.int .i64 (f 0))).setCell (p := ⟨w.heap.size + 1, 1, none⟩) (Nat.le_succ _) (.int .i64 (f 1))).setCell (p := ⟨w.heap.size + 1, 2, none⟩) (Nat.le_succ _) (.int .i64 (f 2))).setCell (p := ⟨w.heap.size + 1, 3, none⟩) (Nat.le_succ _) (.int .i64 (f 3)))
    clear hN
    go_wp2
    have r1 := hE.out
    refine bodyPost_ret (results_single rfl (.cell (w.heap.size + 1) 26 _ (0, 0) _ rfl r1 Tryz.underlying26 rfl (by kernel_rfl) .nil)) rfl ?_
    exact ⟨⟨f, rfl, HG.out.1⟩, hB.out⟩
end Go.Proofs.YtgjddnaidjbhlaaGreatDoor.Ph

/- cost.Named (P19): walked by hand. -/
namespace Go.Proofs.YtgjddnaidjbhlaaGreatDoor.Ph
open Go.RowKit Go.IntWalk Go.Proofs.YtgjddnaidjbhlaaGreatDoorW.PrintWords Go.Proofs.YtgjddnaidjbhlaaGreatDoorW.PrintLast Go.Proofs.YtgjddnaidjbhlaaGreatDoorW.PrintMore Go.Proofs.YtgjddnaidjbhlaaGreatDoor.PlName Go.Proofs.YtgjddnaidjbhlaaGreatDoor.Pl

noncomputable def namedL (nm : ByteArray) (l : List Step) : List Nat := if defOk nm l = true then sel (named l) 4 else []
theorem alone_part {l : List Step} {i : Nat} {s : Step} (h : aloneOk l i s = true) : 0 ≤ s.part ∧ s.part ≤ 3 := by
 unfold aloneOk at h
 simp only [Bool.and_eq_true, decide_eq_true_eq] at h
 exact h.2.2.2.1
set_option maxRecDepth 100000 in
theorem idx4 (f : Nat → Int) (w : World) {b : Nat} (hb : b < 4) : (Instr.index 26 (.agg #[.int .i64 (f 0), .int .i64 (f 1), .int .i64 (f 2), .int .i64 (f 3)]) (.int .i64 (b : Int))).run Tryz.prog w = .ok (.int .i64 (f b)) w := by
 have h : b = 0 ∨ b = 1 ∨ b = 2 ∨ b = 3 := by omega
 rcases h with rfl | rfl | rfl | rfl
 all_goals rfl
theorem size_int (w : World) : (sizeOf 3).run Tryz.prog w = .ok 1 w := by kernel_rfl
theorem part_int (cs : Array Value) (i : Nat) (x : Int) (w : World) (h : cs[i]? = some (.int .i64 x)) : (part 3 cs (i * 1)).run Tryz.prog w = .ok (.int .i64 x) w := by
 simp [part, isAgg, run_underlying Tryz.underlying3, h]
theorem eqI4 (d : Nat) (w : World) (x0 x1 x2 x3 y0 y1 y2 y3 : Int) :
 (Op.equalIn (d + 2) 26 (.agg #[.int .i64 x0, .int .i64 x1, .int .i64 x2, .int .i64 x3]) (.agg #[.int .i64 y0, .int .i64 y1, .int .i64 y2, .int .i64 y3])).run Tryz.prog w = .ok (x0 == y0 && (x1 == y1 && (x2 == y2 && x3 == y3))) w := by
 rw [Op.equalIn]
 simp only [Sem.run_bind, run_underlying Tryz.underlying26, Result.andThen_ok, size_int, Std.Legacy.Range.forIn_eq_forIn_range', Std.Legacy.Range.size, Nat.sub_zero, Nat.add_sub_cancel, Nat.div_one]
 have e : List.range' 0 4 1 = [0, 1, 2, 3] := rfl
 rw [e]
 have pe : ∀ a b : Int, (Op.equalIn (d + 1) 3 (.int .i64 a) (.int .i64 b)).run Tryz.prog w = .ok (a == b) w := fun a b => run_equalIn_int w d 3 .i64 .i64 a b Tryz.underlying3
 have px0 := part_int #[.int .i64 x0, .int .i64 x1, .int .i64 x2, .int .i64 x3] 0 x0 w rfl
 have px1 := part_int #[.int .i64 x0, .int .i64 x1, .int .i64 x2, .int .i64 x3] 1 x1 w rfl
 have px2 := part_int #[.int .i64 x0, .int .i64 x1, .int .i64 x2, .int .i64 x3] 2 x2 w rfl
 have px3 := part_int #[.int .i64 x0, .int .i64 x1, .int .i64 x2, .int .i64 x3] 3 x3 w rfl
 have py0 := part_int #[.int .i64 y0, .int .i64 y1, .int .i64 y2, .int .i64 y3] 0 y0 w rfl
 have py1 := part_int #[.int .i64 y0, .int .i64 y1, .int .i64 y2, .int .i64 y3] 1 y1 w rfl
 have py2 := part_int #[.int .i64 y0, .int .i64 y1, .int .i64 y2, .int .i64 y3] 2 y2 w rfl
 have py3 := part_int #[.int .i64 y0, .int .i64 y1, .int .i64 y2, .int .i64 y3] 3 y3 w rfl
 have q0 := pe x0 y0
 have q1 := pe x1 y1
 have q2 := pe x2 y2
 have q3 := pe x3 y3
 clear pe
 generalize (x0 == y0) = b0 at *
 generalize (x1 == y1) = b1 at *
 generalize (x2 == y2) = b2 at *
 generalize (x3 == y3) = b3 at *
 cases b0 <;> cases b1 <;> cases b2 <;> cases b3 <;> simp [List.forIn_cons, Sem.run_bind, Result.andThen_ok, px0, px1, px2, px3, py0, py1, py2, py3, q0, q1, q2, q3]
/-- The worlds of Named. -/
structure Nm4 (w W : World) (f : Nat → Int) (v : Value) (k : Nat) : Prop where
 below : Below w.heap.size w W
 own : Pl.Own w W v (sel (fun p => decide (0 < f p)) k)

set_option maxHeartbeats 16000000 in
set_option maxRecDepth 100000 in
theorem named_calls (nm : ByteArray) (l : List Step) (A : Option Addr) (c : Nat) (w : World) (hnm : nm.size ≤ 140737488351232) (hS : StepsAt w A l) (hb : ∀ s ∈ l, StepB s) (hn : l.length ≤ 9000000000000) (hc : l.length ≤ c) (hT : TabsAt w) :
 Calls Tryz.prog 66 #[.agg #[.string nm, .slice A l.length c]] w fun e w' => (∃ v, e = .returned v ∧ Pl.Own w w' v (namedL nm l)) ∧ Below w.heap.size w w' := by
 have hbb := below_one w (.cells #[.string nm, .slice A l.length c] 24)
 have hr0 := alloc1 w (.cells #[.string nm, .slice A l.length c] 24)
 have hck := Aside0.mk (check_calls nm l A c _ hnm (hS.below hbb) hb hn hc (tabs_on hT hbb))
 have HW := Aside0.mk (And.intro hbb hr0)
 have HA := Aside0.mk hS
 have HR : Aside0 (namedL nm l = if defOk nm l = true then sel (named l) 4 else []) := ⟨rfl⟩
 clear hbb hr0 hS hb hT
 generalize namedL nm l = rr at *
 go_enter Tryz.func66, Tryz.ntmps66
 cases hok : defOk nm l
 · rw [hok] at hck HR
   go_wp2_with (first | (go_at_call 31; refine hck.out.mono ?_; rintro e w1 ⟨⟨xa, xb, rfl, hxb⟩, hb1⟩; have hd1 : (xb != 0) = true := (by rw [bne, hxb]; rfl); have H1 := Aside0.mk (on_ HW.out.1 hb1); clear hxb hb1))
   go_ret
   exact ⟨⟨_, rfl, by rw [HR.out]; exact own_nil _ _⟩, H1.out⟩
 · rw [hok, if_pos rfl] at HR
   rw [hok] at hck
   obtain ⟨hl1, hl8, hal⟩ := defOk_len hok
   have hpt : ∀ i, i < l.length → 0 ≤ (stepAt l i).part ∧ (stepAt l i).part ≤ 3 := fun i hi => alone_part (hal i hi)
   obtain ⟨ad, rfl, -⟩ := HA.out.one (stepAt_eq (l := l) (i := 0) (by omega))
   have hpa := Aside0.mk (fun W (h : Below w.heap.size w W) => parts_calls nm l ad c W (HA.out.below h) hl8 hpt)
   have HSOME : Aside0 (∀ f, Cn l l.length f → (f 0 == 0 && (f 1 == 0 && (f 2 == 0 && f 3 == 0))) = false) := ⟨fun f hf => by
    obtain ⟨a, b⟩ := hpt 0 (by omega)
    obtain ⟨p, hp⟩ : ∃ p : Nat, (stepAt l 0).part = (p : Int) := ⟨(stepAt l 0).part.toNat, by omega⟩
    have h1 : namedUp l l.length p = true := by
     unfold namedUp
     rw [List.any_eq_true]
     exact ⟨0, List.mem_range.2 (by omega), by rw [hp]; simp⟩
    have h2 := (hf p (by omega)).2.2
    rw [h1, decide_eq_true_eq] at h2
    have h4 : p = 0 ∨ p = 1 ∨ p = 2 ∨ p = 3 := by omega
    have hne : (f p == 0) = false := beq_eq_false_iff_ne.2 (by omega)
    rcases h4 with rfl | rfl | rfl | rfl <;> simp [hne]⟩
   have HSEL : Aside0 (∀ f, Cn l l.length f → sel (fun p => decide (0 < f p)) 4 = sel (named l) 4) := ⟨fun f hf => sel_congr fun p hp => (hf p hp).2.2⟩
   obtain ⟨i3, hi3, hz3, hs3, hb3⟩ := info_parts int_info
   have HI := Aside0.mk (And.intro hi3 (And.intro hz3 (And.intro hs3 hb3)))
   have heq := fun (w : World) (x0 x1 x2 x3 : Int) => eqI4 9998 w x0 x1 x2 x3 0 0 0 0
   clear hal hpt hok hi3 hz3 hs3 hb3
   go_wp2_with (first | (go_at_call 31; refine hck.out.mono ?_; rintro e w1 ⟨⟨xa, xb, rfl, hxb⟩, hb1⟩; have hd1 : (xb != 0) = false := (by rw [bne, hxb]; rfl); have H1 := Aside0.mk (And.intro (on_ HW.out.1 hb1) (row_on hb1 HW.out.2)); have hq0 := row_cell (j := 0) H1.out.2 rfl; have hq1 := row_cell (j := 1) H1.out.2 rfl; clear hxb hb1) | (go_at_call 68; refine (hpa.out _ H1.out.1).mono ?_; rintro e w2 ⟨⟨f, rfl, hf⟩, hb2⟩; have H2 := Aside0.mk (And.intro hf (on_ H1.out.1 hb2)); have hs1 := HSOME.out f hf; clear hf hb2))
   have HB2 := Aside0.mk (on_ H2.out.2 (below_one w2 (.cells #[.int .i64 (f 0), .int .i64 (f 1), .int .i64 (f 2), .int .i64 (f 3)] 26)))
   generalize World.alloc w2 _ = w3 at *
   clear hq0 hq1
   go_loopw [6, 22] (fun v6 v22 wr => ∃ k : Nat, k ≤ 4 ∧ v22 = .int .i64 (k : Int) ∧ Nm4 w wr f v6 k) (fun _ v22 _ => 4 - (intOf v22).toNat)
   case atStart => exact ⟨0, by omega, rfl, HB2.out, World.ownsRow_nil _ _ _ _⟩
   case round =>
    obtain ⟨k, hk, rfl, hN⟩ := hrel
    have HG := Aside0.mk hN
    clear HB2 hN
    by_cases hlt : k < 4
    · have hd2 : decide ((k : Int) < 4) = true := decide_eq_true (by omega)
      have hix := fun w => idx4 f w hlt
      cases hz : decide (0 < f k)
      · have HS : Aside0 (sel (fun p => decide (0 < f p)) (k + 1) = sel (fun p => decide (0 < f p)) k) := ⟨sel_miss hz⟩
        go_wp2
        go_roundw
        case rel => exact ⟨k + 1, by omega, by go_num, HG.out.below, by rw [HS.out]; exact HG.out.own⟩
        case measure => simp [intOf]; omega
      · have hsl := sel_len (fun p => decide (0 < f p)) k
        have hlow := HG.out.below.size
        have HS : Aside0 (sel (fun p => decide (0 < f p)) (k + 1) = sel (fun p => decide (0 < f p)) k ++ [k]) := ⟨sel_hit hz⟩
        generalize hL : sel (fun p => decide (0 < f p)) k = L at *
        have hown0 := Aside0.mk (show Pl.Own w wr _ L from hL ▸ HG.out.own)
        go_wp2_with (first | (at_builtin; refine wpList_append_own _ rfl (.tmp 28) (.tmp 30) 25 rfl w.heap.size 3 i3 (.int .i64 0) 1 8 Tryz.underlying25 HI.out.1 HI.out.2.1 HI.out.2.2.1 HI.out.2.2.2 rfl (by decide) _ L.length (selV L) rfl (hown0.out.alloc _) ⟨wr.heap.size, 0, none⟩ 1 1 [.int .i64 (k : Int)] rfl rfl (one_new _ _ _) (by intro u hu; simp at hu; subst hu; rfl) (by unfold maxLen; omega) (by omega) (by simp; omega) ?_; intro v' w5 hown5 hgr5 _; have HN := Aside0.mk (And.intro hown5 ((HG.out.below.alloc HG.out.below.size _).grown hgr5 (by simp; omega) fun q hq => (hown0.out.lt q hq).1)); clear hown5 hgr5))
        go_roundw
        case rel => exact ⟨k + 1, by omega, by go_num, HN.out.2, by rw [HS.out]; unfold Pl.Own; rw [selV_snoc, List.length_append]; exact HN.out.1⟩
        case measure => simp [intOf]; omega
    · have hk' : k = 4 := by omega
      subst hk'
      have hd2 : decide ((4 : Int) < 4) = false := by decide
      have HS := HSEL.out f H2.out.1
      have HO : Aside0 (Pl.Own w wr _ (sel (named l) 4)) := ⟨HS ▸ HG.out.own⟩
      clear HS
      go_wp2
      go_ret
      exact ⟨⟨_, rfl, by rw [HR.out]; exact HO.out⟩, HG.out.below⟩
end Go.Proofs.YtgjddnaidjbhlaaGreatDoor.Ph

/- How an instance goes on, as plain data: as the program has it (plain). -/
namespace Go.Proofs.YtgjddnaidjbhlaaGreatDoor.Ph
open Go.RowKit Go.Proofs.YtgjddnaidjbhlaaGreatDoor.Pl

/-- A note. -/
structure Note where
 kind : Int
 inst : Int
 step : Int
 state : Int
 part : Int
 cause : Int
 key : ByteArray
 name : ByteArray
 version : Int
 text : ByteArray
def btwN (n a b : Int) : Bool := decide (a ≤ n) && decide (n ≤ b)
def noteZ : Note → Int × Int × Int × Int × Int := fun n => (n.step, n.state, n.part, n.cause, n.version)
/-- May a note be? -/
def mayNote (n : Note) : Bool :=
 if n.kind = 1 then btwN n.text.size 1 1800 && (n.inst == 0 && (noteZ n == (0, 0, 0, 0, 0) && (n.key.toList == [] && n.name.toList == [])))
 else btwN n.inst 1 60 && (n.text.toList == [] &&
  if n.kind = 2 then Nm.isName n.key && (Nm.isName n.name && (btwN n.version 1 16 && noteZ n == (0, 0, 0, 0, n.version)))
  else n.key.toList == [] && (n.name.toList == [] &&
   if n.kind = 3 ∨ n.kind = 4 ∨ n.kind = 7 then noteZ n == (0, 0, 0, 0, 0)
   else if n.kind = 5 then btwN n.step 0 7 && noteZ n == (n.step, 0, 0, 0, 0)
   else if n.kind = 6 then btwN n.step 0 7 && (btwN n.state 2 5 && noteZ n == (n.step, n.state, 0, 0, 0))
   else if n.kind = 8 then btwN n.part 0 3 && noteZ n == (0, 0, n.part, 0, 0)
   else if n.kind = 9 then ((n.state == 4 && n.cause == 0) || (n.state == 6 && btwN n.cause 1 4)) && noteZ n == (0, n.state, 0, n.cause, 0)
   else false))
def hasI (L : List Nat) (i : Int) : Bool := (intsOf L).contains i
noncomputable def startOk (nm : ByteArray) (l : List Step) (id : Int) (key : ByteArray) (version : Int) : Bool := defOk nm l && (decide (1 ≤ id) && (decide (id ≤ 60) && (Nm.isName key && (decide (1 ≤ version) && decide (version ≤ 16)))))
def startX (nm : ByteArray) (l : List Step) (id : Int) (key : ByteArray) (version : Int) : Inst :=
 ⟨id, key, nm, version, if kindsL l 3 == l.length then 3 else 1, 0, List.replicate l.length 0, fun _ => 0⟩
def nullX : Inst := ⟨0, ByteArray.empty, ByteArray.empty, 0, 0, 0, [], fun _ => 0⟩
def closeX (x : Inst) : Inst := { x with steps := [], freed := fun _ => 0 }
def turnX (x : Inst) (cause : Int) : Inst := { x with phase := 5, cause := cause }
def setSt (x : Inst) (i : Nat) (s : Int) : Inst := { x with steps := x.steps.set i s }
def phX (x : Inst) (p : Int) : Inst := { x with phase := p }
def phcX (x : Inst) (p c : Int) : Inst := { x with phase := p, cause := c }
noncomputable def issueX (nm : ByteArray) (l : List Step) (x : Inst) (i : Int) : Option Inst :=
 if (x.phase != 1 && x.phase != 3) || !hasI (readyL nm l x.steps) i then none
 else some (if kindOf l i.toNat == 2 then phX (setSt x i.toNat 1) 2 else setSt x i.toNat 1)
noncomputable def markX (nm : ByteArray) (l : List Step) (x : Inst) (i s : Int) : Option Inst :=
 if decide (i ≥ x.steps.length) then none
 else if s = 5 then (if x.phase == 5 && hasI (undoL nm l x.steps) i then some (setSt x i.toNat 5) else none)
 else if s = 2 then (if stOf x.steps i.toNat == 1 then some (if kindOf l i.toNat == 2 || (x.phase == 1 && (((kindsL l 2 : Nat) : Int) == 0 && allL l (setSt x i.toNat 2) 1 [2])) then phX (setSt x i.toNat 2) 3 else setSt x i.toNat 2) else none)
 else if x.phase = 1 ∨ x.phase = 2 then (if stOf x.steps i.toNat == 1 then some (phcX (setSt x i.toNat s) 5 s) else none)
 else if x.phase = 5 then (if stOf x.steps i.toNat == 1 then some (setSt x i.toNat s) else none)
 else none
def endX (l : List Step) (x : Inst) : Option Inst :=
 if x.phase == 3 && allL l x 0 [2] then some (phX x 4)
 else if x.phase == 5 && !someL l x 0 [1, 2] then some (phX x 6)
 else none
def setFr (x : Inst) (p : Nat) : Inst := { x with freed := fun q => if q = p then 1 else x.freed q }
noncomputable def freeX (nm : ByteArray) (l : List Step) (x : Inst) (p : Int) : Option Inst :=
 if !overL x || (x.freed p.toNat != 0 || !hasI (namedL nm l) p) then none
 else some (if doneL l (setFr x p.toNat) then closeX (setFr x p.toNat) else setFr x p.toNat)
def briefX (nm : ByteArray) (l : List Step) (x : Inst) (state cause : Int) : Option Inst :=
 if x.phase == (startX nm l x.id x.key x.version).phase && (x.cause == 0 && decide (x.steps = List.replicate l.length 0)) then some (closeX (phcX x state cause)) else none
/-- What a note makes of an instance that is open; none: it cannot come. -/
noncomputable def onX (nm : ByteArray) (l : List Step) (x : Inst) (n : Note) : Option Inst :=
 if n.kind = 3 then (if x.phase == 1 then some (turnX x 1) else none)
 else if n.kind = 4 then (if x.phase == 1 then some (turnX x 2) else none)
 else if n.kind = 5 then issueX nm l x n.step
 else if n.kind = 6 then markX nm l x n.step n.state
 else if n.kind = 7 then endX l x
 else if n.kind = 8 then freeX nm l x n.part
 else if n.kind = 9 then briefX nm l x n.state n.cause
 else none
end Go.Proofs.YtgjddnaidjbhlaaGreatDoor.Ph

/- What an instance tells: its notes, what comes next, what it wants, as plain data: as the program has it (plain). -/
namespace Go.Proofs.YtgjddnaidjbhlaaGreatDoor.Ph
open Go.RowKit Go.Proofs.YtgjddnaidjbhlaaGreatDoor.Pl

/-- A letter. -/
structure Lt where
 kind : Int
 part : Int
 inst : Int
 step : Int
 sort : Int
 keys : List ByteArray
def noteOf (x : Inst) (k : Int) : Note := ⟨k, x.id, 0, 0, 0, 0, ByteArray.empty, ByteArray.empty, 0, ByteArray.empty⟩
def issueOf (x : Inst) (i : Nat) : Note := ⟨5, x.id, i, 0, 0, 0, ByteArray.empty, ByteArray.empty, 0, ByteArray.empty⟩
def markOf (x : Inst) (s : Int) (i : Nat) : Note := ⟨6, x.id, i, s, 0, 0, ByteArray.empty, ByteArray.empty, 0, ByteArray.empty⟩
def freedOf (x : Inst) (p : Nat) : Note := ⟨8, x.id, 0, 0, p, 0, ByteArray.empty, ByteArray.empty, 0, ByteArray.empty⟩
def briefOf (x : Inst) : Note := ⟨9, x.id, 0, x.phase, 0, x.cause, ByteArray.empty, ByteArray.empty, 0, ByteArray.empty⟩
/-- Is a NoteMark told of a step, going forward? -/
noncomputable def ledBy (l : List Step) (x : Inst) (i : Nat) : Bool := (stOf x.steps i == 2 && x.cause == 0) || !allF (fun k => wars (direct l) l.length k i) (fun k => stOf x.steps k == 0) l.length
noncomputable def forthAt (l : List Step) (x : Inst) (i : Nat) : List Note := if stOf x.steps i == 0 then [] else issueOf x i :: (if ledBy l x i then [markOf x 2 i] else [])
noncomputable def toldAt (l : List Step) (x : Inst) (i : Nat) : Bool := !(stOf x.steps i == 0) && ledBy l x i
def firstSt (x : Inst) (s : Int) : Nat := x.steps.findIdx (· == s)
def turnN (x : Inst) : List Note :=
 if x.cause = 1 then [noteOf x 3] else if x.cause = 2 then [noteOf x 4] else if x.cause = 3 then [markOf x 3 (firstSt x 3)] else if x.cause = 4 then [markOf x 4 (firstSt x 4)] else []
def turnTold (x : Inst) (i : Nat) : Bool := (x.cause == 3 && i == firstSt x 3) || (x.cause == 4 && i == firstSt x 4)
noncomputable def restAt (l : List Step) (x : Inst) (o : List Nat) (i : Nat) : List Note :=
 if !(x.cause == 0) && (!((o.contains i && toldAt l x i) || turnTold x i) && (decide (2 ≤ stOf x.steps i) && decide (stOf x.steps i ≤ 4))) then [markOf x (stOf x.steps i) i] else []
def backAt (x : Inst) (i : Nat) : List Note := if stOf x.steps i == 5 then [markOf x 5 i] else []
def freedAt (x : Inst) (p : Nat) : List Note := if x.freed p == 1 then [freedOf x p] else []
noncomputable def orderL (l : List Step) : List Nat := ordL (wars (direct l) l.length) l.length l.length
noncomputable def openN (l : List Step) (x : Inst) : List Note :=
 (orderL l).flatMap (forthAt l x) ++ (turnN x ++ ((List.range x.steps.length).flatMap (restAt l x (orderL l)) ++ ((orderL l).reverse.flatMap (backAt x) ++ (if overL x then noteOf x 7 :: (List.range 4).flatMap (freedAt x) else []))))
noncomputable def notesL (nm : ByteArray) (l : List Step) (x : Inst) : List Note :=
 if sortL nm l x == 0 then [] else if sortL nm l x == 2 then [briefOf x] else openN l x
noncomputable def readyN (nm : ByteArray) (l : List Step) (x : Inst) : List Note := if x.phase == 1 || x.phase == 3 then (readyL nm l x.steps).map (issueOf x) else []
noncomputable def nextL (nm : ByteArray) (l : List Step) (x : Inst) : List Note :=
 if sortL nm l x != 1 then [] else readyN nm l x ++ (if (readyN nm l x).isEmpty && (endX l x).isSome then [noteOf x 7] else [])
def undoOf (l : List Step) (x : Inst) (i : Nat) : Lt := ⟨2, (stepAt l i).part, x.id, i, 0, []⟩
def freeOf (x : Inst) (p : Nat) : Lt := ⟨3, p, x.id, 0, 0, []⟩
def doOf (l : List Step) (x : Inst) (i : Nat) : Lt := ⟨1, (stepAt l i).part, x.id, i, (stepAt l i).kind, (stepAt l i).keys⟩
noncomputable def wantsL (nm : ByteArray) (l : List Step) (x : Inst) : List Lt :=
 if sortL nm l x != 1 then []
 else if x.phase == 5 then (undoL nm l x.steps).map (undoOf l x)
 else if x.phase == 4 || x.phase == 6 then ((namedL nm l).filter fun p => x.freed p == 0).map (freeOf x)
 else (List.range l.length).flatMap fun i => if stOf x.steps i == 1 then [doOf l x i] else []
end Go.Proofs.YtgjddnaidjbhlaaGreatDoor.Ph

/- phase: a view in a box of one's own, written into (P19). -/
namespace Go.Proofs.YtgjddnaidjbhlaaGreatDoor.Ph
open Go.RowKit Go.IntWalk Go.Proofs.YtgjddnaidjbhlaaGreatDoorW.PrintWords Go.Proofs.YtgjddnaidjbhlaaGreatDoor.PlName Go.Proofs.YtgjddnaidjbhlaaGreatDoor.Pl

/-- A view lies in a box of one's own, and its states too. -/
structure Bx (w0 W : World) (p : Nat) (nm : ByteArray) (l : List Step) (A : Option Addr) (c : Nat) (x : Inst) (B : Option Addr) (cb : Nat) : Prop where
 below : Below w0.heap.size w0 W
 box : W.heap[p]? = some (.cells #[.string nm, .slice A l.length c, .int .i64 x.id, .string x.key, .string x.name, .int .i64 x.version, .int .i64 x.phase, .int .i64 x.cause, .slice B x.steps.length cb, .int .i64 (x.freed 0), .int .i64 (x.freed 1), .int .i64 (x.freed 2), .int .i64 (x.freed 3)] 65 (0, 0))
 lo : w0.heap.size ≤ p
 own : OwnI W w0.heap.size (.slice B x.steps.length cb) x.steps
 ne : ∀ b, B = some b → b.block ≠ p
theorem own_on {W W2 : World} {lo : Nat} {v : Value} {xs : List Int} (h : OwnI W lo v xs) (hb : Below W.heap.size W W2) : OwnI W2 lo v xs := by
 refine ⟨h.1, ?_⟩
 rcases h.2 with hn | ⟨g, cap, cur, e, h1, h2, rest⟩
 · exact .inl hn
 · exact .inr ⟨g, cap, cur, e, h1, row_on hb h2, rest⟩
theorem own_ne {W : World} {lo : Nat} {B : Option Addr} {n cb : Nat} {xs : List Int} (h : OwnI W lo (.slice B n cb) xs) {p j : Nat} {u : Value} (hne : ∀ b, B = some b → b.block ≠ p) : OwnI (W.setCell ⟨p, j, none⟩ u) lo (.slice B n cb) xs := by
 refine ⟨h.1, ?_⟩
 rcases h.2 with hn | ⟨g, cap, cur, e, h1, h2, rest⟩
 · exact .inl hn
 · refine .inr ⟨g, cap, cur, e, h1, row_setCell_ne h2 _ _ ?_, rest⟩
   injection e with e1 _ _
   exact hne _ e1
section
variable {w W W2 : World} {p : Nat} {nm : ByteArray} {l : List Step} {A : Option Addr} {c : Nat} {x : Inst} {B : Option Addr} {cb : Nat}
theorem Bx.on (h : Bx w W p nm l A c x B cb) (hb : Below W.heap.size W W2) : Bx w W2 p nm l A c x B cb := ⟨on_ h.below hb, row_on hb h.box, h.lo, own_on h.own hb, h.ne⟩
theorem Bx.cells (h : Bx w W p nm l A c x B cb) : W.cell? ⟨p, 0, none⟩ = some (.string nm) ∧ W.cell? ⟨p, 1, none⟩ = some (.slice A l.length c) ∧ W.cell? ⟨p, 2, none⟩ = some (.int .i64 x.id) ∧ W.cell? ⟨p, 3, none⟩ = some (.string x.key) ∧ W.cell? ⟨p, 4, none⟩ = some (.string x.name) ∧ W.cell? ⟨p, 5, none⟩ = some (.int .i64 x.version) ∧ W.cell? ⟨p, 6, none⟩ = some (.int .i64 x.phase) ∧ W.cell? ⟨p, 7, none⟩ = some (.int .i64 x.cause) ∧ W.cell? ⟨p, 8, none⟩ = some (.slice B x.steps.length cb) ∧ W.cell? ⟨p, 9, none⟩ = some (.int .i64 (x.freed 0)) ∧ W.cell? ⟨p, 10, none⟩ = some (.int .i64 (x.freed 1)) ∧ W.cell? ⟨p, 11, none⟩ = some (.int .i64 (x.freed 2)) ∧ W.cell? ⟨p, 12, none⟩ = some (.int .i64 (x.freed 3)) := ⟨row_cell h.box rfl, row_cell h.box rfl, row_cell h.box rfl, row_cell h.box rfl, row_cell h.box rfl, row_cell h.box rfl, row_cell h.box rfl, row_cell h.box rfl, row_cell h.box rfl, row_cell h.box rfl, row_cell h.box rfl, row_cell h.box rfl, row_cell h.box rfl⟩
theorem Bx.free (h : Bx w W p nm l A c x B cb) (j : Nat) : W.frozen? ⟨p, j, none⟩ = false := by
 simp [World.frozen?, h.box]
theorem Bx.reads (h : Bx w W p nm l A c x B cb) : Kd.C (Kd.int .i64) W B x.steps.length x.steps := by
 obtain ⟨A', c', e, _, hr⟩ := h.own.reads
 injection e with e1 _ _
 exact e1 ▸ hr
theorem Bx.setPh (h : Bx w W p nm l A c x B cb) (q : Int) : Bx w (W.setCell ⟨p, 6, none⟩ (.int .i64 q)) p nm l A c (phX x q) B cb :=
 ⟨h.below.setCell h.lo _, by rw [row_setCell h.box]; simp [phX], h.lo, own_ne h.own h.ne, h.ne⟩
theorem Bx.setCause (h : Bx w W p nm l A c x B cb) (q : Int) : Bx w (W.setCell ⟨p, 7, none⟩ (.int .i64 q)) p nm l A c (phcX x x.phase q) B cb :=
 ⟨h.below.setCell h.lo _, by rw [row_setCell h.box]; simp [phcX], h.lo, own_ne h.own h.ne, h.ne⟩
theorem Bx.setFr0 (h : Bx w W p nm l A c x B cb) : Bx w (W.setCell ⟨p, 9, none⟩ (.int .i64 1)) p nm l A c (setFr x 0) B cb :=
 ⟨h.below.setCell h.lo _, by rw [row_setCell h.box]; simp [setFr], h.lo, own_ne h.own h.ne, h.ne⟩
theorem Bx.setFr1 (h : Bx w W p nm l A c x B cb) : Bx w (W.setCell ⟨p, 10, none⟩ (.int .i64 1)) p nm l A c (setFr x 1) B cb :=
 ⟨h.below.setCell h.lo _, by rw [row_setCell h.box]; simp [setFr], h.lo, own_ne h.own h.ne, h.ne⟩
theorem Bx.setFr2 (h : Bx w W p nm l A c x B cb) : Bx w (W.setCell ⟨p, 11, none⟩ (.int .i64 1)) p nm l A c (setFr x 2) B cb :=
 ⟨h.below.setCell h.lo _, by rw [row_setCell h.box]; simp [setFr], h.lo, own_ne h.own h.ne, h.ne⟩
theorem Bx.setFr3 (h : Bx w W p nm l A c x B cb) : Bx w (W.setCell ⟨p, 12, none⟩ (.int .i64 1)) p nm l A c (setFr x 3) B cb :=
 ⟨h.below.setCell h.lo _, by rw [row_setCell h.box]; simp [setFr], h.lo, own_ne h.own h.ne, h.ne⟩
/-- The steps' block, and what lies in it. -/
theorem Bx.row (h : Bx w W p nm l A c x B cb) {i : Nat} (hi : i < x.steps.length) : ∃ g cur, B = some ⟨g, 0, none⟩ ∧ g ≠ p ∧ w.heap.size ≤ g ∧ W.heap[g]? = some (.cells cur 3 (0, 0)) ∧ W.cell? ⟨g, i, none⟩ = some (.int .i64 (stOf x.steps i)) ∧
 ∀ s, Bx w (W.setCell ⟨g, i, none⟩ (.int .i64 s)) p nm l A c (setSt x i s) B cb := by
 obtain ⟨hlen, hn | ⟨g, cap, cur, e, h1, h2, h3, h4, h5, h6⟩⟩ := id h.own
 · omega
 · injection e with e1 _ e3
   subst e1 e3
   have hne : g ≠ p := h.ne _ rfl
   refine ⟨g, cur, rfl, hne, h1, h2, ?_, fun s => ⟨h.below.setCell h1 _, ?_, h.lo, ⟨?_, .inr ⟨g, _, cur.setIfInBounds i (.int .i64 s), ?_, h1, row_setCell h2 _ _, ?_, h4, ?_, ?_⟩⟩, h.ne⟩⟩
   · obtain ⟨ab, e, hy⟩ := int_at h.reads hi
     cases e
     rw [st_get hi] at hy
     simpa [Addr.add_lit] using hy
   · rw [row_setCell_ne h.box _ _ (Ne.symm hne)]
     simp [setSt]
   · simp [setSt, encs]
   · simp [setSt]
   · simpa [setSt] using h3
   · simpa using h5
   · have h6' : cur.toList.take x.steps.length = x.steps.map (Value.int .i64) := by simpa [encs] using h6
     show (cur.setIfInBounds i (.int .i64 s)).toList.take ((x.steps.set i s).length * 1) = encs (Value.int .i64) (x.steps.set i s)
     rw [Array.toList_setIfInBounds, List.take_set, List.length_set, Nat.mul_one, h6']
     simp [encs, List.map_set]
end
end Go.Proofs.YtgjddnaidjbhlaaGreatDoor.Ph

/- phase: small facts of heads (plain). -/
namespace Go.Proofs.YtgjddnaidjbhlaaGreatDoor.Ph
open Go.RowKit Go.IntWalk Go.Proofs.YtgjddnaidjbhlaaGreatDoorW.PrintWords Go.Proofs.YtgjddnaidjbhlaaGreatDoor.PlName Go.Proofs.YtgjddnaidjbhlaaGreatDoor.Pl

theorem alloc_two (w : World) (a b : Obj) : ((w.alloc a).alloc b).heap[w.heap.size + 1]? = some b := by
 have h1 := alloc1 (w.alloc a) b
 have h2 : (w.alloc a).heap.size = w.heap.size + 1 := by
  show (w.heap.push _).size = _
  simp
 rw [h2] at h1
 exact h1
theorem lt_one (a : Int) : decide (a < 1) = !decide (1 ≤ a) := by
 rw [Bool.eq_iff_iff]
 simp <;> omega
theorem gt_of (a b : Int) : decide (b < a) = !decide (a ≤ b) := by
 rw [Bool.eq_iff_iff]
 simp
theorem count_none (l : List Step) (x : Inst) (kind : Int) (sts : List Int) : (((countL l x kind sts : Nat) : Int) == 0) = !someL l x kind sts := by
 rw [← count_some, Bool.eq_iff_iff, beq_iff_eq, Bool.not_eq_true', decide_eq_false_iff_not]
 omega
end Go.Proofs.YtgjddnaidjbhlaaGreatDoor.Ph

/- phase: turn, close, end, free of a view in a box (P19): walked by hand. -/
namespace Go.Proofs.YtgjddnaidjbhlaaGreatDoor.Ph
open Go.RowKit Go.IntWalk Go.Proofs.YtgjddnaidjbhlaaGreatDoorW.PrintWords Go.Proofs.YtgjddnaidjbhlaaGreatDoorW.PrintLast Go.Proofs.YtgjddnaidjbhlaaGreatDoorW.PrintMore Go.Proofs.YtgjddnaidjbhlaaGreatDoor.PlName Go.Proofs.YtgjddnaidjbhlaaGreatDoor.Pl

/-- What a method that turns a view answers. -/
def OnRes (w W : World) (p : Nat) (nm : ByteArray) (l : List Step) (A : Option Addr) (c : Nat) (o : Option Inst) (e : Ending) : Prop :=
 e = .returned (.bool o.isSome) ∧ Below w.heap.size w W ∧ ∀ y, o = some y → ∃ B cb, Bx w W p nm l A c y B cb
theorem OnRes.no {w W : World} {p : Nat} {nm : ByteArray} {l : List Step} {A : Option Addr} {c : Nat} {o : Option Inst} (ho : o = none) (h : Below w.heap.size w W) : OnRes w W p nm l A c o (.returned (.bool false)) :=
 ⟨by rw [ho]; rfl, h, fun y hy => by rw [ho] at hy; cases hy⟩
theorem OnRes.yes {w W : World} {p : Nat} {nm : ByteArray} {l : List Step} {A : Option Addr} {c : Nat} {x : Inst} {B : Option Addr} {cb : Nat} {o : Option Inst} (ho : o = some x) (h : Bx w W p nm l A c x B cb) : OnRes w W p nm l A c o (.returned (.bool true)) :=
 ⟨by rw [ho]; rfl, h.below, fun y hy => by rw [ho] at hy; cases hy; exact ⟨B, cb, h⟩⟩
set_option maxHeartbeats 16000000 in
set_option maxRecDepth 100000 in
theorem turn_calls {nm : ByteArray} {l : List Step} {A : Option Addr} {c : Nat} {x : Inst} {B : Option Addr} {cb : Nat} {w W : World} {p : Nat} (h : Bx w W p nm l A c x B cb) (cause : Int) :
 Calls Tryz.prog 127 #[.pointer (some ⟨p, 0, none⟩), .int .i64 cause] W fun e W' => OnRes w W' p nm l A c (if x.phase == 1 then some (turnX x cause) else none) e := by
 have HB := Aside0.mk h
 obtain ⟨hq0, hq1, hq2, hq3, hq4, hq5, hq6, hq7, hq8, hq9, hq10, hq11, hq12⟩ := h.cells
 have hf6 := h.free 6
 have hf7 := h.free 7
 clear h
 go_enter Tryz.func127, Tryz.ntmps127
 cases h1 : (x.phase == 1)
 all_goals
  go_wp2
  go_ret
 · exact OnRes.no rfl ((HB.out.setPh 5).setCause cause).below
 · exact OnRes.yes rfl ((HB.out.setPh 5).setCause cause)
theorem Bx.shut {nm : ByteArray} {l : List Step} {A : Option Addr} {c : Nat} {x : Inst} {B : Option Addr} {cb : Nat} {w W : World} {p : Nat} (h : Bx w W p nm l A c x B cb) : Bx w (((((W.setCell ⟨p, 8, none⟩ (.slice none 0 0)).setCell ⟨p, 9, none⟩ (.int .i64 0)).setCell ⟨p, 10, none⟩ (.int .i64 0)).setCell ⟨p, 11, none⟩ (.int .i64 0)).setCell ⟨p, 12, none⟩ (.int .i64 0)) p nm l A c (closeX x) none 0 := by
 have s : ∀ (U : World) (arr : Array Value) (j : Nat) (v : Value), U.heap[p]? = some (.cells arr 65 (0, 0)) → (U.setCell ⟨p, j, none⟩ v).heap[p]? = some (.cells (arr.setIfInBounds j v) 65 (0, 0)) := fun U arr j v h => row_setCell h j v
 exact ⟨((((h.below.setCell h.lo _).setCell h.lo _).setCell h.lo _).setCell h.lo _).setCell h.lo _, s _ _ 12 _ (s _ _ 11 _ (s _ _ 10 _ (s _ _ 9 _ (s _ _ 8 _ h.box)))), h.lo, World.ownsRow_nil _ _ _ _, fun b e => by cases e⟩
set_option maxHeartbeats 16000000 in
set_option maxRecDepth 100000 in
theorem close_calls {nm : ByteArray} {l : List Step} {A : Option Addr} {c : Nat} {x : Inst} {B : Option Addr} {cb : Nat} {w W : World} {p : Nat} (h : Bx w W p nm l A c x B cb) :
 Calls Tryz.prog 169 #[.pointer (some ⟨p, 0, none⟩)] W fun e W' => e = .returned (.tuple #[]) ∧ Bx w W' p nm l A c (closeX x) none 0 := by
 have HB := Aside0.mk h
 obtain ⟨hq0, hq1, hq2, hq3, hq4, hq5, hq6, hq7, hq8, hq9, hq10, hq11, hq12⟩ := h.cells
 have hf8 := h.free 8
 have hf9 := h.free 9
 have hf10 := h.free 10
 have hf11 := h.free 11
 have hf12 := h.free 12
 clear h
 go_enter Tryz.func169, Tryz.ntmps169
 go_wp2
 go_end0
 exact ⟨rfl, HB.out.shut⟩
set_option maxHeartbeats 16000000 in
set_option maxRecDepth 100000 in
theorem end_calls {nm : ByteArray} {l : List Step} {A : Option Addr} {c : Nat} {x : Inst} {B : Option Addr} {cb : Nat} {w W : World} {p : Nat} (h : Bx w W p nm l A c x B cb) (hl8 : l.length ≤ 8) (hS : StepsAt w A l) (hx : x.steps.length = l.length) :
 Calls Tryz.prog 64 #[.pointer (some ⟨p, 0, none⟩)] W fun e W' => OnRes w W' p nm l A c (endX l x) e := by
 have hal := Aside0.mk (fun W (h : Bx w W p nm l A c x B cb) (S : Option Addr) (cs : Nat) (hs : Kd.C (Kd.int .i64) W S 1 [2]) => (by exact all_calls nm l A c x B cb 0 S cs [2] W (hS.below h.below) hl8 hx h.reads hs (by show 1 ≤ 8; omega) : Calls Tryz.prog 135 #[.agg #[.string nm, .slice A l.length c, .int .i64 x.id, .string x.key, .string x.name, .int .i64 x.version, .int .i64 x.phase, .int .i64 x.cause, .slice B x.steps.length cb, .int .i64 (x.freed 0), .int .i64 (x.freed 1), .int .i64 (x.freed 2), .int .i64 (x.freed 3)], .int .i64 0, .slice S 1 cs] W fun e w' => e = .returned (.bool (allL l x 0 [2])) ∧ Below W.heap.size W w'))
 have hcn := Aside0.mk (fun W (h : Bx w W p nm l A c x B cb) (S : Option Addr) (cs : Nat) (hs : Kd.C (Kd.int .i64) W S 2 [1, 2]) => (by exact count_calls nm l A c x B cb 0 S cs [1, 2] W (hS.below h.below) hl8 hx h.reads hs (by show 2 ≤ 8; omega) : Calls Tryz.prog 136 #[.agg #[.string nm, .slice A l.length c, .int .i64 x.id, .string x.key, .string x.name, .int .i64 x.version, .int .i64 x.phase, .int .i64 x.cause, .slice B x.steps.length cb, .int .i64 (x.freed 0), .int .i64 (x.freed 1), .int .i64 (x.freed 2), .int .i64 (x.freed 3)], .int .i64 0, .slice S 2 cs] W fun e w' => e = .returned (.int .i64 (countL l x 0 [1, 2] : Nat)) ∧ Below W.heap.size W w'))
 have HF : Aside0 (endX l x = if (x.phase == 3 && allL l x 0 [2]) = true then some (phX x 4) else if (x.phase == 5 && !someL l x 0 [1, 2]) = true then some (phX x 6) else none) := ⟨rfl⟩
 have HZ := Aside0.mk (And.intro (count_none l x 0 [1, 2]) (show countL l x 0 [1, 2] ≤ 8 from Nat.le_trans (cnt_le _ _) hl8))
 have HB := Aside0.mk h
 have h35 : (x.phase == 3) = true → (x.phase == 5) = false := fun h => by
  rw [beq_iff_eq] at h
  rw [h]
  rfl
 obtain ⟨hq0, hq1, hq2, hq3, hq4, hq5, hq6, hq7, hq8, hq9, hq10, hq11, hq12⟩ := h.cells
 have hf6 := h.free 6
 clear h hS hx
 generalize endX l x = rr at *
 generalize allL l x 0 [2] = a2 at *
 generalize countL l x 0 [1, 2] = cn at *
 generalize someL l x 0 [1, 2] = sm at *
 generalize hp3 : (x.phase == 3) = p3 at *
 generalize hp5 : (x.phase == 5) = p5 at *
 go_enter Tryz.func64, Tryz.ntmps64
 rcases (by cases p3 <;> cases a2 <;> simp : p3 = false ∨ (p3 = true ∧ a2 = false) ∨ (p3 = true ∧ a2 = true)) with rfl | ⟨rfl, rfl⟩ | ⟨rfl, rfl⟩
 case' inr.inr => clear h35
 case' inr.inl => (have e5 : p5 = false := h35 rfl; subst e5; clear h35)
 case' inl => (clear h35; rcases (by cases p5 <;> cases sm <;> simp : p5 = false ∨ (p5 = true ∧ sm = true) ∨ (p5 = true ∧ sm = false)) with rfl | ⟨rfl, rfl⟩ | ⟨rfl, rfl⟩)
 all_goals
  have hz0 := HZ.out.1
  have hcb := HZ.out.2
  (try simp only [Bool.not_true, Bool.not_false] at hz0)
  go_wp2_with (first | (go_at_call 135; refine (hal.out _ (HB.out.on (below_one _ _)) _ _ (lit_row _ [2] _ rfl (by show 1 ≤ 1000000; omega))).mono ?_; rintro e w5 ⟨rfl, hb5⟩; have H5 := Aside0.mk ((HB.out.on (below_one _ _)).on hb5); clear hb5; obtain ⟨hr0, hr1, hr2, hr3, hr4, hr5, hr6, hr7, hr8, hr9, hr10, hr11, hr12⟩ := H5.out.cells; have hg6 := H5.out.free 6) | (go_at_call 136; refine (hcn.out _ (HB.out.on (below_one _ _)) _ _ (lit_row _ [1, 2] _ rfl (by show 2 ≤ 1000000; omega))).mono ?_; rintro e w6 ⟨rfl, hb6⟩; have H6 := Aside0.mk ((HB.out.on (below_one _ _)).on hb6); clear hb6; obtain ⟨hr0, hr1, hr2, hr3, hr4, hr5, hr6, hr7, hr8, hr9, hr10, hr11, hr12⟩ := H6.out.cells; have hg6 := H6.out.free 6))
  go_ret
  first
   | exact OnRes.yes (by rw [HF.out]; rfl) (H6.out.setPh 6)
   | exact OnRes.yes (by rw [HF.out]; rfl) (H5.out.setPh 4)
   | exact OnRes.no (by rw [HF.out]; rfl) H6.out.below
   | exact OnRes.no (by rw [HF.out]; rfl) H5.out.below
   | exact OnRes.no (by rw [HF.out]; rfl) HB.out.below
end Go.Proofs.YtgjddnaidjbhlaaGreatDoor.Ph

/- phase: end of a view whose states are the caller's (P19): walked by hand. -/
namespace Go.Proofs.YtgjddnaidjbhlaaGreatDoor.Ph
open Go.RowKit Go.IntWalk Go.Proofs.YtgjddnaidjbhlaaGreatDoorW.PrintWords Go.Proofs.YtgjddnaidjbhlaaGreatDoorW.PrintLast Go.Proofs.YtgjddnaidjbhlaaGreatDoorW.PrintMore Go.Proofs.YtgjddnaidjbhlaaGreatDoor.PlName Go.Proofs.YtgjddnaidjbhlaaGreatDoor.Pl

/-- A view lies in a box of one's own; its states are the caller's. -/
structure Bv (w W : World) (p : Nat) (nm : ByteArray) (l : List Step) (A : Option Addr) (c : Nat) (x : Inst) (B : Option Addr) (cb : Nat) : Prop where
 below : Below w.heap.size w W
 box : W.heap[p]? = some (.cells #[.string nm, .slice A l.length c, .int .i64 x.id, .string x.key, .string x.name, .int .i64 x.version, .int .i64 x.phase, .int .i64 x.cause, .slice B x.steps.length cb, .int .i64 (x.freed 0), .int .i64 (x.freed 1), .int .i64 (x.freed 2), .int .i64 (x.freed 3)] 65 (0, 0))
 lo : w.heap.size ≤ p
 rd : Kd.C (Kd.int .i64) w B x.steps.length x.steps
section
variable {w W W2 : World} {p : Nat} {nm : ByteArray} {l : List Step} {A : Option Addr} {c : Nat} {x : Inst} {B : Option Addr} {cb : Nat}
theorem Bv.on (h : Bv w W p nm l A c x B cb) (hb : Below W.heap.size W W2) : Bv w W2 p nm l A c x B cb := ⟨on_ h.below hb, row_on hb h.box, h.lo, h.rd⟩
theorem Bv.cells (h : Bv w W p nm l A c x B cb) : W.cell? ⟨p, 0, none⟩ = some (.string nm) ∧ W.cell? ⟨p, 1, none⟩ = some (.slice A l.length c) ∧ W.cell? ⟨p, 2, none⟩ = some (.int .i64 x.id) ∧ W.cell? ⟨p, 3, none⟩ = some (.string x.key) ∧ W.cell? ⟨p, 4, none⟩ = some (.string x.name) ∧ W.cell? ⟨p, 5, none⟩ = some (.int .i64 x.version) ∧ W.cell? ⟨p, 6, none⟩ = some (.int .i64 x.phase) ∧ W.cell? ⟨p, 7, none⟩ = some (.int .i64 x.cause) ∧ W.cell? ⟨p, 8, none⟩ = some (.slice B x.steps.length cb) ∧ W.cell? ⟨p, 9, none⟩ = some (.int .i64 (x.freed 0)) ∧ W.cell? ⟨p, 10, none⟩ = some (.int .i64 (x.freed 1)) ∧ W.cell? ⟨p, 11, none⟩ = some (.int .i64 (x.freed 2)) ∧ W.cell? ⟨p, 12, none⟩ = some (.int .i64 (x.freed 3)) := ⟨row_cell h.box rfl, row_cell h.box rfl, row_cell h.box rfl, row_cell h.box rfl, row_cell h.box rfl, row_cell h.box rfl, row_cell h.box rfl, row_cell h.box rfl, row_cell h.box rfl, row_cell h.box rfl, row_cell h.box rfl, row_cell h.box rfl, row_cell h.box rfl⟩
theorem Bv.free (h : Bv w W p nm l A c x B cb) (j : Nat) : W.frozen? ⟨p, j, none⟩ = false := free_of_row h.box
theorem Bv.reads (h : Bv w W p nm l A c x B cb) : Kd.C (Kd.int .i64) W B x.steps.length x.steps := Kd.C_below h.rd h.below
end
set_option maxHeartbeats 16000000 in
set_option maxRecDepth 100000 in
theorem end_tells {nm : ByteArray} {l : List Step} {A : Option Addr} {c : Nat} {x : Inst} {B : Option Addr} {cb : Nat} {w W : World} {p : Nat} (h : Bv w W p nm l A c x B cb) (hl8 : l.length ≤ 8) (hS : StepsAt w A l) (hx : x.steps.length = l.length) :
 Calls Tryz.prog 64 #[.pointer (some ⟨p, 0, none⟩)] W fun e W' => e = .returned (.bool (endX l x).isSome) ∧ Below w.heap.size w W' ∧ ∀ k o, k ≠ p → W.heap[k]? = some o → W'.heap[k]? = some o := by
 have hal := Aside0.mk (fun W (h : Bv w W p nm l A c x B cb) (S : Option Addr) (cs : Nat) (hs : Kd.C (Kd.int .i64) W S 1 [2]) => (by exact all_calls nm l A c x B cb 0 S cs [2] W (hS.below h.below) hl8 hx h.reads hs (by show 1 ≤ 8; omega) : Calls Tryz.prog 135 #[.agg #[.string nm, .slice A l.length c, .int .i64 x.id, .string x.key, .string x.name, .int .i64 x.version, .int .i64 x.phase, .int .i64 x.cause, .slice B x.steps.length cb, .int .i64 (x.freed 0), .int .i64 (x.freed 1), .int .i64 (x.freed 2), .int .i64 (x.freed 3)], .int .i64 0, .slice S 1 cs] W fun e w' => e = .returned (.bool (allL l x 0 [2])) ∧ Below W.heap.size W w'))
 have hcn := Aside0.mk (fun W (h : Bv w W p nm l A c x B cb) (S : Option Addr) (cs : Nat) (hs : Kd.C (Kd.int .i64) W S 2 [1, 2]) => (by exact count_calls nm l A c x B cb 0 S cs [1, 2] W (hS.below h.below) hl8 hx h.reads hs (by show 2 ≤ 8; omega) : Calls Tryz.prog 136 #[.agg #[.string nm, .slice A l.length c, .int .i64 x.id, .string x.key, .string x.name, .int .i64 x.version, .int .i64 x.phase, .int .i64 x.cause, .slice B x.steps.length cb, .int .i64 (x.freed 0), .int .i64 (x.freed 1), .int .i64 (x.freed 2), .int .i64 (x.freed 3)], .int .i64 0, .slice S 2 cs] W fun e w' => e = .returned (.int .i64 (countL l x 0 [1, 2] : Nat)) ∧ Below W.heap.size W w'))
 have HF : Aside0 (endX l x = if (x.phase == 3 && allL l x 0 [2]) = true then some (phX x 4) else if (x.phase == 5 && !someL l x 0 [1, 2]) = true then some (phX x 6) else none) := ⟨rfl⟩
 have HZ := Aside0.mk (And.intro (count_none l x 0 [1, 2]) (show countL l x 0 [1, 2] ≤ 8 from Nat.le_trans (cnt_le _ _) hl8))
 have HB := Aside0.mk h
 have h35 : (x.phase == 3) = true → (x.phase == 5) = false := fun h => by
  rw [beq_iff_eq] at h
  rw [h]
  rfl
 obtain ⟨hq0, hq1, hq2, hq3, hq4, hq5, hq6, hq7, hq8, hq9, hq10, hq11, hq12⟩ := h.cells
 have hf6 := h.free 6
 clear h hS hx
 generalize endX l x = rr at *
 generalize allL l x 0 [2] = a2 at *
 generalize countL l x 0 [1, 2] = cn at *
 generalize someL l x 0 [1, 2] = sm at *
 generalize hp3 : (x.phase == 3) = p3 at *
 generalize hp5 : (x.phase == 5) = p5 at *
 go_enter Tryz.func64, Tryz.ntmps64
 rcases (by cases p3 <;> cases a2 <;> simp : p3 = false ∨ (p3 = true ∧ a2 = false) ∨ (p3 = true ∧ a2 = true)) with rfl | ⟨rfl, rfl⟩ | ⟨rfl, rfl⟩
 case' inr.inr => clear h35
 case' inr.inl => (have e5 : p5 = false := h35 rfl; subst e5; clear h35)
 case' inl => (clear h35; rcases (by cases p5 <;> cases sm <;> simp : p5 = false ∨ (p5 = true ∧ sm = true) ∨ (p5 = true ∧ sm = false)) with rfl | ⟨rfl, rfl⟩ | ⟨rfl, rfl⟩)
 all_goals
  have hz0 := HZ.out.1
  have hcb := HZ.out.2
  (try simp only [Bool.not_true, Bool.not_false] at hz0)
  go_wp2_with (first | (go_at_call 135; refine (hal.out _ (HB.out.on (below_one _ _)) _ _ (lit_row _ [2] _ rfl (by show 1 ≤ 1000000; omega))).mono ?_; rintro e w5 ⟨rfl, hb5⟩; have H5 := Aside0.mk ((HB.out.on (below_one _ _)).on hb5); have K5 := Aside0.mk (on_ (below_one _ _) hb5); clear hb5; obtain ⟨hr0, hr1, hr2, hr3, hr4, hr5, hr6, hr7, hr8, hr9, hr10, hr11, hr12⟩ := H5.out.cells; have hg6 := H5.out.free 6) | (go_at_call 136; refine (hcn.out _ (HB.out.on (below_one _ _)) _ _ (lit_row _ [1, 2] _ rfl (by show 2 ≤ 1000000; omega))).mono ?_; rintro e w6 ⟨rfl, hb6⟩; have H6 := Aside0.mk ((HB.out.on (below_one _ _)).on hb6); have K6 := Aside0.mk (on_ (below_one _ _) hb6); clear hb6; obtain ⟨hr0, hr1, hr2, hr3, hr4, hr5, hr6, hr7, hr8, hr9, hr10, hr11, hr12⟩ := H6.out.cells; have hg6 := H6.out.free 6))
  go_ret
  first
   | exact ⟨by rw [HF.out]; rfl, H6.out.below.setCell H6.out.lo _, fun k o hk ho => row_setCell_ne (row_on K6.out ho) _ _ hk⟩
   | exact ⟨by rw [HF.out]; rfl, H5.out.below.setCell H5.out.lo _, fun k o hk ho => row_setCell_ne (row_on K5.out ho) _ _ hk⟩
   | exact ⟨by rw [HF.out]; rfl, H6.out.below, fun k o _ ho => row_on K6.out ho⟩
   | exact ⟨by rw [HF.out]; rfl, H5.out.below, fun k o _ ho => row_on K5.out ho⟩
   | exact ⟨by rw [HF.out]; rfl, HB.out.below, fun k o _ ho => ho⟩
end Go.Proofs.YtgjddnaidjbhlaaGreatDoor.Ph

/- Lists of notes in memory of one's own (P19). -/
namespace Go.Proofs.YtgjddnaidjbhlaaGreatDoor.Ph
open Go.RowKit Go.IntWalk Go.Proofs.YtgjddnaidjbhlaaGreatDoorW.PrintWords Go.Proofs.YtgjddnaidjbhlaaGreatDoor.PlName Go.Proofs.YtgjddnaidjbhlaaGreatDoor.Pl

def noteC (n : Note) : List Value := [.int .i64 n.kind, .int .i64 n.inst, .int .i64 n.step, .int .i64 n.state, .int .i64 n.part, .int .i64 n.cause, .string n.key, .string n.name, .int .i64 n.version, .string n.text]
def OwnN (w : World) (lo : Nat) (v : Value) (L : List Note) : Prop := w.ownsRow lo 37 10 v L.length (L.flatMap noteC)
theorem note_info : (Tryz.prog.info? 37).map (fun i => (i.zero, i.size, i.bytes)) = some (some (.agg #[.int .i64 0, .int .i64 0, .int .i64 0, .int .i64 0, .int .i64 0, .int .i64 0, .string ByteArray.empty, .string ByteArray.empty, .int .i64 0, .string ByteArray.empty]), 10, 104) := by kernel_rfl
theorem ownN_nil (w : World) (lo : Nat) : OwnN w lo (.slice none 0 0) [] := World.ownsRow_nil _ _ _ _
theorem ownN_on {W W2 : World} {lo : Nat} {v : Value} {L : List Note} (h : OwnN W lo v L) (hb : Below W.heap.size W W2) : OwnN W2 lo v L := by
 refine ⟨h.1, ?_⟩
 rcases h.2 with hn | ⟨g, cap, cur, e, h1, h2, rest⟩
 · exact .inl hn
 · exact .inr ⟨g, cap, cur, e, h1, row_on hb h2, rest⟩
theorem ownN_snoc {w : World} {lo : Nat} {v : Value} {L : List Note} {n : Note} (h : w.ownsRow lo 37 10 v (L.length + 1) (L.flatMap noteC ++ noteC n)) : OwnN w lo v (L ++ [n]) := by
 unfold OwnN
 rw [List.flatMap_append, List.length_append]
 simpa using h
/-- One note, laid in a block of its own, for an append. -/
theorem note_new (W : World) (n : Note) : ∀ j u, (noteC n)[j]? = some u → (W.alloc (.cells (noteC n).toArray 37)).cell? (Addr.add ⟨W.heap.size, 0, none⟩ j) = some u := fun j u hj => by
 have h1 := alloc1 W (.cells (noteC n).toArray 37)
 have h2 := row_cell (j := j) (v := u) h1 (by simpa using hj)
 rw [Addr.add_lit, Nat.zero_add]
 exact h2
theorem note_one (n : Note) : ∀ u ∈ noteC n, u.oneCell' = true := fun u hu => by
 simp [noteC] at hu
 rcases hu with rfl | rfl | rfl | rfl | rfl | rfl | rfl | rfl | rfl | rfl <;> rfl
end Go.Proofs.YtgjddnaidjbhlaaGreatDoor.Ph

/- Lists of letters in memory of one's own (P19). -/
namespace Go.Proofs.YtgjddnaidjbhlaaGreatDoor.Ph
open Go.RowKit Go.IntWalk Go.Proofs.YtgjddnaidjbhlaaGreatDoorW.PrintWords Go.Proofs.YtgjddnaidjbhlaaGreatDoorW.PrintLast Go.Proofs.YtgjddnaidjbhlaaGreatDoorW.PrintMore Go.Proofs.YtgjddnaidjbhlaaGreatDoor.PlName Go.Proofs.YtgjddnaidjbhlaaGreatDoor.Pl

theorem grown_drew {W W1 : World} {r : Option Nat} (h : W.grownBy W1 r) : W.grownBy W1.drew r := ⟨h.os, h.tape, h.output, h.size, h.block⟩
/-- A letter, as its cells. -/
def ltK : Kd Lt := Kd.iso (Kd.pair (Kd.int .i64) (Kd.pair (Kd.int .i64) (Kd.pair (Kd.int .i64) (Kd.pair (Kd.int .i64) (Kd.pair (Kd.int .i64) (Kd.slice 9 Kd.string)))))) (fun x => (x.kind, x.part, x.inst, x.step, x.sort, x.keys))
def ltC (n : Lt) (kv : Value) : List Value := [.int .i64 n.kind, .int .i64 n.part, .int .i64 n.inst, .int .i64 n.step, .int .i64 n.sort, kv]
def OwnLt (w : World) (lo : Nat) (v : Value) (L : List Lt) : Prop := ltK.R 55 w lo (fun _ => True) v L
def KeysO (w : World) (lo : Nat) (v : Value) (ks : List ByteArray) : Prop := Kd.R Kd.string 9 w lo (fun _ => True) v ks
theorem lt_info : (Tryz.prog.info? 55).map (fun i => (i.zero, i.size, i.bytes)) = some (some (.agg #[.int .i64 0, .int .i64 0, .int .i64 0, .int .i64 0, .int .i64 0, .slice none 0 0]), 6, 64) := by kernel_rfl
theorem ltM {W : World} {base : Nat} {ok : Nat → Prop} (n : Lt) {kv : Value} (h : Kd.R Kd.string 9 W base ok kv n.keys) : ltK.M W base ok n (ltC n kv) :=
 ⟨[_], _, rfl, rfl, [_], _, rfl, rfl, [_], _, rfl, rfl, [_], _, rfl, rfl, [_], _, rfl, rfl, kv, rfl, h⟩
theorem ownLt_nil (w : World) (lo : Nat) : OwnLt w lo (.slice none 0 0) [] := Kd.R_nil _ _ _ _ _
theorem keysO_nil (w : World) (lo : Nat) : KeysO w lo (.slice none 0 0) [] := Kd.R_nil _ _ _ _ _
theorem ownLt_on {W W2 : World} {lo : Nat} {v : Value} {L : List Lt} (h : OwnLt W lo v L) (hb : Below W.heap.size W W2) : OwnLt W2 lo v L := Kd.R_below h hb
theorem ownLt_low {w : World} {lo lo' : Nat} {v : Value} {L : List Lt} (h : OwnLt w lo v L) (hle : lo' ≤ lo) : OwnLt w lo' v L := Kd.R_lower h hle
theorem keysO_low {w : World} {lo lo' : Nat} {v : Value} {L : List ByteArray} (h : KeysO w lo v L) (hle : lo' ≤ lo) : KeysO w lo' v L := Kd.R_lower h hle
/-- What an append wants of the letters, and what it leaves. -/
theorem ownLt_open {W : World} {lo : Nat} {v : Value} {L : List Lt} (h : OwnLt W lo v L) : ∃ inner, W.ownsRow lo 55 6 v L.length inner ∧
 ∀ (n : Lt) (kv : Value) (W1 : World) (g cap : Nat), KeysO W lo kv n.keys → W1.ownsRow lo 55 6 (.slice (some ⟨g, 0, none⟩) (L.length + 1) cap) (L.length + 1) (inner ++ ltC n kv) → W.grownBy W1 v.ownBlock → (v.ownBlock = some g ∨ W.heap.size ≤ g) → OwnLt W1 lo (.slice (some ⟨g, 0, none⟩) (L.length + 1) cap) (L ++ [n]) := by
 obtain ⟨h0, inner, ho, hr⟩ := h
 refine ⟨inner, ho, fun n kv W1 g cap hk hown hg hat => ?_⟩
 refine Kd.R_appended (okp := fun k => some k ≠ v.ownBlock) h0 hr (ltM n (Kd.R_mono (Kd.R_bound hk) fun k hk e => ?_)) (fun k hk => ⟨trivial, hk⟩) (fun _ _ => trivial) hown hg ?_
 · obtain ⟨_, _, _, q, hq, cells, hc⟩ := hk
   obtain ⟨c2, hc2⟩ := own_typed ho k e.symm
   rw [hc] at hc2
   injection hc2 with hc2
   injection hc2 with _ hc2
   have : q = 9 := by simpa [Kd.string, Kd.scalar] using hq
   rw [this] at hc2
   exact absurd hc2 (by decide)
 · rcases hat with hat | hat
   · exact .inl hat.symm
   · exact .inr ⟨g, rfl, hat⟩
theorem ltC_one (n : Lt) {kv : Value} (h : kv.oneCell' = true) : ∀ u ∈ ltC n kv, u.oneCell' = true := fun u hu => by
 simp [ltC] at hu
 rcases hu with rfl | rfl | rfl | rfl | rfl | rfl <;> first | rfl | exact h
theorem keys_one {w : World} {lo : Nat} {v : Value} {ks : List ByteArray} (h : KeysO w lo v ks) : v.oneCell' = true := by
 obtain ⟨A, c, rfl⟩ := Kd.R_slice h
 rfl
end Go.Proofs.YtgjddnaidjbhlaaGreatDoor.Ph

/- phase.writer: note, mark (P19): walked by hand. -/
namespace Go.Proofs.YtgjddnaidjbhlaaGreatDoor.Ph
open Go.RowKit Go.IntWalk Go.Proofs.YtgjddnaidjbhlaaGreatDoorW.PrintWords Go.Proofs.YtgjddnaidjbhlaaGreatDoorW.PrintLast Go.Proofs.YtgjddnaidjbhlaaGreatDoorW.PrintMore Go.Proofs.YtgjddnaidjbhlaaGreatDoor.PlName Go.Proofs.YtgjddnaidjbhlaaGreatDoor.Pl Go.Proofs.YtgjddnaidjbhlaaGreatDoor.LgMaps Go.Maps
attribute [local go_sem ↓] Go.wp_at_zero Go.wp_at_succ

theorem lawI3 : Keyed Tryz.prog 3 := int_keyed Tryz.underlying3
theorem zeroI3 (w : World) : (zeroValue 3).run Tryz.prog w = .ok (.int .i64 0) w := by kernel_rfl
theorem keyI3 {i : Int} (h : (Lit.int .i64 i).wf = true) : keyOf Tryz.prog 3 (.int .i64 i) = some (.int .i64 i) := by
 simp [keyOf, mapKey, Tryz.underlying3, h]
theorem grown_set (W : World) (p j : Nat) (u : Value) : W.grownBy (W.setCell ⟨p, j, none⟩ u) (some p) :=
 ⟨rfl, rfl, rfl, (KeepsWalks.setCell W _ u).size, fun k _ hk => Below.heap_setCell _ _ _ k (fun e => hk (by rw [e]))⟩
/-- What is told of steps: a map of counts. -/
def ToldM (W : World) (mb n : Nat) (T : Int → Nat) : Prop := ∃ D, W.ownsMap Tryz.prog 3 raw mb n D ∧ ∀ k : Int, val D (.int .i64 k) (.int .i64 0) = .int .i64 (T k : Int) ∧ T k ≤ n
def upd (T : Int → Nat) (i : Int) : Int → Nat := fun k => if k = i then T i + 1 else T k
theorem ToldM.on {W W2 : World} {mb n : Nat} {T : Int → Nat} (h : ToldM W mb n T) (hb : Below W.heap.size W W2) : ToldM W2 mb n T := by
 obtain ⟨D, ho, hv⟩ := h
 exact ⟨D, ho.kept (row := none) ⟨hb.os, hb.tape, hb.output, hb.size, fun k hk _ => hb.block k hk⟩ (by simp), hv⟩
theorem ToldM.kept {W W2 : World} {mb n : Nat} {T : Int → Nat} {row : Option Nat} (h : ToldM W mb n T) (hb : W.grownBy W2 row) (hne : some mb ≠ row) : ToldM W2 mb n T := by
 obtain ⟨D, ho, hv⟩ := h
 exact ⟨D, ho.kept hb hne, hv⟩
theorem ToldM.look {W : World} {mb n : Nat} {T : Int → Nat} (h : ToldM W mb n T) {i : Int} (hi : (Lit.int .i64 i).wf = true) : (Instr.lookup 80 (.map (some mb)) (.int .i64 i) false).run Tryz.prog W = .ok (.int .i64 (T i : Int)) W := by
 obtain ⟨D, ho, hv⟩ := h
 rw [← (hv i).1]
 exact mlook ho lawI3 Tryz.underlying80 (zeroI3 W) (keyI3 hi)
theorem ToldM.put {W : World} {mb n : Nat} {T : Int → Nat} (h : ToldM W mb n T) {i : Int} (hi : (Lit.int .i64 i).wf = true) (hn : n < maxLen) : ∃ W2, (Instr.mapUpdate 80 (.map (some mb)) (.int .i64 i) (.int .i64 ((T i : Int) + 1))).run Tryz.prog W = .ok () W2 ∧ ToldM W2 mb (n + 1) (upd T i) ∧ W.grownBy W2 (some mb) := by
 obtain ⟨D, ho, hv⟩ := h
 obtain ⟨W2, hr, ho2, hg⟩ := mput ho lawI3 Tryz.underlying80 hn (v := .int .i64 ((T i : Int) + 1)) (keyI3 hi)
 refine ⟨W2, hr, ⟨_, ho2, fun k => ?_⟩, hg⟩
 unfold upd
 by_cases hk : k = i
 · subst hk
   rw [val_put_same ho.isMap (by simp [WideAt.IsKeyLit]), if_pos rfl]
   exact ⟨by rw [Int.natCast_add]; rfl, by have := (hv k).2; omega⟩
 · rw [val_put_other (by simpa using hk), if_neg hk]
   exact ⟨(hv k).1, by have := (hv k).2; omega⟩
theorem ToldM.lt {W : World} {mb n : Nat} {T : Int → Nat} (h : ToldM W mb n T) : mb < W.heap.size := by
 obtain ⟨D, ho, _⟩ := h
 exact ho.lt
theorem ToldM.isMap {W : World} {mb n : Nat} {T : Int → Nat} (h : ToldM W mb n T) : ∃ es cl, W.heap[mb]? = some (.map es cl) := by
 obtain ⟨D, ho, _⟩ := h
 obtain ⟨es, cl, h1, _⟩ := ho
 exact ⟨es, cl, h1⟩

/-- A writer lies in a box of one's own, with its notes and what it told. -/
structure Wx (w0 W : World) (p : Nat) (nm : ByteArray) (l : List Step) (A : Option Addr) (c : Nat) (x : Inst) (B : Option Addr) (cb : Nat) (v : Value) (L : List Note) (mb n : Nat) (T : Int → Nat) : Prop where
 below : Below w0.heap.size w0 W
 box : W.heap[p]? = some (.cells #[.string nm, .slice A l.length c, .int .i64 x.id, .string x.key, .string x.name, .int .i64 x.version, .int .i64 x.phase, .int .i64 x.cause, .slice B x.steps.length cb, .int .i64 (x.freed 0), .int .i64 (x.freed 1), .int .i64 (x.freed 2), .int .i64 (x.freed 3), v, .map (some mb)] 82 (0, 0))
 lo : w0.heap.size ≤ p
 rd : Kd.C (Kd.int .i64) w0 B x.steps.length x.steps
 own : OwnN W w0.heap.size v L
 told : ToldM W mb n T
 mlo : w0.heap.size ≤ mb
section
variable {w W W2 : World} {p : Nat} {nm : ByteArray} {l : List Step} {A : Option Addr} {c : Nat} {x : Inst} {B : Option Addr} {cb : Nat} {v : Value} {L : List Note} {mb n : Nat} {T : Int → Nat}
theorem Wx.on (h : Wx w W p nm l A c x B cb v L mb n T) (hb : Below W.heap.size W W2) : Wx w W2 p nm l A c x B cb v L mb n T := ⟨on_ h.below hb, row_on hb h.box, h.lo, h.rd, ownN_on h.own hb, h.told.on hb, h.mlo⟩
theorem Wx.cells (h : Wx w W p nm l A c x B cb v L mb n T) : W.cell? ⟨p, 0, none⟩ = some (.string nm) ∧ W.cell? ⟨p, 1, none⟩ = some (.slice A l.length c) ∧ W.cell? ⟨p, 2, none⟩ = some (.int .i64 x.id) ∧ W.cell? ⟨p, 3, none⟩ = some (.string x.key) ∧ W.cell? ⟨p, 4, none⟩ = some (.string x.name) ∧ W.cell? ⟨p, 5, none⟩ = some (.int .i64 x.version) ∧ W.cell? ⟨p, 6, none⟩ = some (.int .i64 x.phase) ∧ W.cell? ⟨p, 7, none⟩ = some (.int .i64 x.cause) ∧ W.cell? ⟨p, 8, none⟩ = some (.slice B x.steps.length cb) ∧ W.cell? ⟨p, 9, none⟩ = some (.int .i64 (x.freed 0)) ∧ W.cell? ⟨p, 10, none⟩ = some (.int .i64 (x.freed 1)) ∧ W.cell? ⟨p, 11, none⟩ = some (.int .i64 (x.freed 2)) ∧ W.cell? ⟨p, 12, none⟩ = some (.int .i64 (x.freed 3)) ∧ W.cell? ⟨p, 13, none⟩ = some v ∧ W.cell? ⟨p, 14, none⟩ = some (.map (some mb)) := ⟨row_cell h.box rfl, row_cell h.box rfl, row_cell h.box rfl, row_cell h.box rfl, row_cell h.box rfl, row_cell h.box rfl, row_cell h.box rfl, row_cell h.box rfl, row_cell h.box rfl, row_cell h.box rfl, row_cell h.box rfl, row_cell h.box rfl, row_cell h.box rfl, row_cell h.box rfl, row_cell h.box rfl⟩
theorem Wx.free (h : Wx w W p nm l A c x B cb v L mb n T) (j : Nat) : W.frozen? ⟨p, j, none⟩ = false := free_of_row h.box
theorem Wx.reads (h : Wx w W p nm l A c x B cb v L mb n T) : Kd.C (Kd.int .i64) W B x.steps.length x.steps := Kd.C_below h.rd h.below
/-- The notes' block is another one than the writer's. -/
theorem Wx.apart (h : Wx w W p nm l A c x B cb v L mb n T) : v.ownBlock ≠ some p := fun e => by
 rcases h.own.2 with ⟨hv, _⟩ | ⟨g, cap, cur, hv, _, hg, _⟩
 · rw [hv] at e
   cases e
 · rw [hv] at e
   have : g = p := by simpa [Value.ownBlock] using e
   subst this
   rw [h.box] at hg
   injection hg with hg
   injection hg with _ hg
   exact absurd hg (by decide)
theorem Wx.mapart (h : Wx w W p nm l A c x B cb v L mb n T) : mb ≠ p ∧ v.ownBlock ≠ some mb := by
 obtain ⟨es, cl, hm⟩ := h.told.isMap
 refine ⟨fun e => (by rw [e, h.box] at hm; cases hm), fun e => ?_⟩
 rcases h.own.2 with ⟨hv, _⟩ | ⟨g, cap, cur, hv, _, hg, _⟩
 · rw [hv] at e
   cases e
 · rw [hv] at e
   have : g = mb := by simpa [Value.ownBlock] using e
   rw [this, hm] at hg
   cases hg
theorem Wx.after (h : Wx w W p nm l A c x B cb v L mb n T) (hg : W.grownBy W2 v.ownBlock) : W2.heap[p]? = some (.cells #[.string nm, .slice A l.length c, .int .i64 x.id, .string x.key, .string x.name, .int .i64 x.version, .int .i64 x.phase, .int .i64 x.cause, .slice B x.steps.length cb, .int .i64 (x.freed 0), .int .i64 (x.freed 1), .int .i64 (x.freed 2), .int .i64 (x.freed 3), v, .map (some mb)] 82 (0, 0)) := by
 rw [hg.block p (Array.getElem?_eq_some_iff.1 h.box).1 (fun e => h.apart e.symm)]
 exact h.box
theorem Wx.one (h : Wx w W p nm l A c x B cb v L mb n T) : p < W.heap.size := (Array.getElem?_eq_some_iff.1 h.box).1
end
/-- Behind an append of a note, and its store. -/
theorem Wx.push {nm : ByteArray} {l : List Step} {A : Option Addr} {c : Nat} {x : Inst} {B : Option Addr} {cb : Nat} {v : Value} {L : List Note} {mb n : Nat} {T : Int → Nat} {w W W1 : World} {p gg cap : Nat} {nt : Note} (h : Wx w W p nm l A c x B cb v L mb n T) (hown : W1.ownsRow w.heap.size 37 10 (.slice (some ⟨gg, 0, none⟩) (L.length + 1) cap) (L.length + 1) (L.flatMap noteC ++ noteC nt)) (hg : W.grownBy W1 v.ownBlock) :
 Wx w (W1.setCell ⟨p, 13, none⟩ (.slice (some ⟨gg, 0, none⟩) (L.length + 1) cap)) p nm l A c x B cb (.slice (some ⟨gg, 0, none⟩) (L.length + 1) cap) (L ++ [nt]) mb n T := by
 have hbx := h.after hg
 have ho := ownN_snoc hown
 have hne : gg ≠ p := fun e => by
  subst e
  rcases hown.2 with ⟨hv, _⟩ | ⟨g, cap, cur, hv, _, hgg, _⟩
  · cases hv
  · cases hv
    rw [hbx] at hgg
    injection hgg with hgg
    injection hgg with _ hgg
    exact absurd hgg (by decide)
 refine ⟨Below.setCell (h.below.grown hg (by have := h.below.size; omega) fun q hq => ?_) h.lo _, by rw [row_setCell hbx]; simp, h.lo, h.rd, ?_, ?_, h.mlo⟩
 · exact (h.own.lt q hq).1
 · refine ⟨ho.1, ?_⟩
   rcases ho.2 with hn | ⟨g, cap, cur, e, h1, h2, rest⟩
   · exact .inl hn
   · refine .inr ⟨g, cap, cur, e, h1, row_setCell_ne h2 _ _ ?_, rest⟩
     injection e with e1 _ _
     cases e1
     exact hne
 · exact (h.told.kept hg fun e => h.mapart.2 e.symm).kept (grown_set W1 p 13 _) (fun e => h.mapart.1 (Option.some.inj e))
/-- What stands beside a writer, its map and its notes stays. -/
structure Fr (W W' : World) (p mb : Nat) (v v' : Value) : Prop where
 size : W.heap.size ≤ W'.heap.size
 old : ∀ k, k < W.heap.size → k ≠ p → k ≠ mb → v.ownBlock ≠ some k → W'.heap[k]? = W.heap[k]? ∧ v'.ownBlock ≠ some k
theorem Fr.below {W W' : World} (p mb : Nat) (v : Value) (h : Below W.heap.size W W') : Fr W W' p mb v v := ⟨h.size, fun k hk _ _ hv => ⟨h.block k hk, hv⟩⟩
theorem Fr.trans {W W1 W2 : World} {p mb : Nat} {v v1 v2 : Value} (h : Fr W W1 p mb v v1) (h2 : Fr W1 W2 p mb v1 v2) : Fr W W2 p mb v v2 :=
 ⟨Nat.le_trans h.size h2.size, fun k hk hp hm hv => by
  obtain ⟨e1, n1⟩ := h.old k hk hp hm hv
  obtain ⟨e2, n2⟩ := h2.old k (Nat.lt_of_lt_of_le hk h.size) hp hm n1
  exact ⟨e2.trans e1, n2⟩⟩
theorem Fr.row {W W' : World} {p mb : Nat} {v v' : Value} (h : Fr W W' p mb v v') {k : Nat} {o : Obj} (ho : W.heap[k]? = some o) (hp : k ≠ p) (hm : k ≠ mb) (hv : v.ownBlock ≠ some k) : W'.heap[k]? = some o :=
 ((h.old k (Array.getElem?_eq_some_iff.1 ho).1 hp hm hv).1).trans ho
theorem Fr.push {W W1 : World} {p mb gg n cap : Nat} {v u : Value} (hg : W.grownBy W1 v.ownBlock) (hat : v.ownBlock = some gg ∨ gg = W.heap.size + 1) : Fr W (W1.setCell ⟨p, 13, none⟩ u) p mb v (.slice (some ⟨gg, 0, none⟩) n cap) :=
 ⟨Nat.le_trans hg.size (KeepsWalks.setCell W1 _ u).size, fun k hk hp _ hv => ⟨(Below.heap_setCell _ _ _ k hp).trans (hg.block k hk (fun e => hv e.symm)), fun e => by
  have : gg = k := by simpa [Value.ownBlock] using e
  subst this
  rcases hat with h | h
  · exact hv h
  · omega⟩⟩
theorem Fr.map {W W1 : World} {p mb : Nat} {v : Value} (hg : W.grownBy W1 (some mb)) : Fr W W1 p mb v v := ⟨hg.size, fun k hk _ hm hv => ⟨hg.block k hk (fun e => hm (Option.some.inj e)), hv⟩⟩
set_option maxHeartbeats 16000000 in
set_option maxRecDepth 100000 in
theorem note_calls {nm : ByteArray} {l : List Step} {A : Option Addr} {c : Nat} {x : Inst} {B : Option Addr} {cb : Nat} {v : Value} {L : List Note} {mb n : Nat} {T : Int → Nat} {w W : World} {p : Nat} (h : Wx w W p nm l A c x B cb v L mb n T) (kind : Int) (hL : L.length ≤ 100) :
 Calls Tryz.prog 59 #[.pointer (some ⟨p, 0, none⟩), .int .i64 kind] W fun e W' => e = .returned (.tuple #[]) ∧ ∃ v', Wx w W' p nm l A c x B cb v' (L ++ [noteOf x kind]) mb n T ∧ Fr W W' p mb v v' := by
 obtain ⟨i37, hi37, hz37, hs37, hb37⟩ := info_parts note_info
 have HI := Aside0.mk (And.intro hi37 (And.intro hz37 (And.intro hs37 hb37)))
 clear hi37 hz37 hs37 hb37
 have HW := Aside0.mk h
 have ha2 := h.cells.2.2.1
 have ha13 := h.cells.2.2.2.2.2.2.2.2.2.2.2.2.2.1
 have hnn := World.new_ne W _ ha13
 clear h
 go_enter Tryz.func59, Tryz.ntmps59
 go_wp2_with fail
 refine start_ (n := 18) (S := fun w' => w'.cell? ⟨p, 2, none⟩ = some (.int .i64 x.id) ∧ w'.cell? ⟨p, 13, none⟩ = some v) (ds := [17]) #[false,false,false,false,false,false,false,false,false,false,false,false,false,false,false,false,false,false] (by kernel_rfl) rfl rfl ⟨(by go_keep), (by go_keep)⟩ (fun hHeld => ?_)
 refine zV 0 4 18 1 ?_
 refine zV 1 5 18 3 ?_
 refine zV 2 6 18 7 ?_
 refine zV 3 7 18 15 ?_
 refine zV 5 9 18 47 ?_
 refine zV 6 10 18 111 ?_
 refine zV 7 11 18 239 ?_
 refine zV 8 12 18 495 ?_
 refine zV 9 13 18 1007 ?_
 refine zV 10 14 18 2031 ?_
 refine zT 4 8 18 2047 hHeld ?_
 refine zT 11 15 18 4095 hHeld ?_
 refine zV 12 16 18 8191 ?_
 refine one_ (i := 13) (N := some 17) (zG 18 16383) rfl rfl (by kernel_rfl) (by decide) (fun K hK => ?_)
 refine value_ (w1 := ?_) (v := ?_) (by rfl) rfl ?_ ?_
 rotate_left 2
 · go_simp
   constructor
   · rfl
   · rfl
 refine hK.out _ _ ⟨(by go_keep), (by go_keep)⟩ (fun hHeld => ?_)
 clear hK K
 refine norm_ (a' := ?_) ?_ ?_
 rotate_left
 · show Act.put _ (some 17) _ = _
   simp only [Act.put, zA, zB, zC, i64_w, i32_w]
   rfl
 refine one_ (i := 14) (N := some 18) (zG 18 32767) rfl rfl (by kernel_rfl) (by decide) (fun K hK => ?_)
 refine step_append_lies _ (by rfl) _ _ _ (by rfl) w.heap.size 37 i37 _ 10 104 Tryz.underlying48 HI.out.1 HI.out.2.1 HI.out.2.2.1 HI.out.2.2.2 rfl (by decide) v L.length (L.flatMap noteC) (by rfl) ((HW.out.own.alloc _).drew) ⟨W.heap.size, 0, none⟩ 1 1 (noteC (noteOf x kind)) (by rfl) (by rfl) (World.news_of_block (heap_alloc_new W _)) (note_one _) (by omega) (by unfold maxLen; omega) (by omega) (by have := HW.out.below.size; simp; omega) (W.heap.size + 1) (by simp) ?_
 intro gg cap w1 hown1 hgrow hat hlt
 have hgr := (grown_drew (World.grownBy_alloc W _ _)).trans hgrow
 have hbx := HW.out.after hgr
 have hb2 := row_cell (j := 2) hbx rfl
 have hb13 := row_cell (j := 13) hbx rfl
 have hf13 := free_of_row (j := 13) hbx
 have HX := Aside0.mk (HW.out.push hown1 hgr)
 have HR := Aside0.mk (Fr.push (mb := mb) (p := p) (n := L.length + 1) (cap := cap) (u := .slice (some ⟨gg, 0, none⟩) (L.length + 1) cap) hgr hat)
 clear hown1 hgrow hgr hbx hat
 refine hK.out _ _ ⟨hb2, hb13⟩ (fun hHeld => ?_)
 clear hK K
 refine norm_ (a' := ?_) ?_ ?_
 rotate_left
 · show Act.put _ (some 18) _ = _
   simp only [Act.put, zA, zB, zC, i64_w, i32_w]
   rfl
 refine zV 15 19 18 65535 ?_
 refine zV 16 20 18 131071 ?_
 refine last_ (i := 17) (N := none) #[true,true,true,true,true,true,true,true,true,true,true,true,true,true,true,true,true,true] rfl rfl (by kernel_rfl) (by decide) (fun K hK => ?_)
 refine skip_ (w1 := ?_) (by rfl) rfl ?_ ?_
 rotate_left
 · go_simp
   rfl
 refine hK.out _ _ ?_
 clear hK K
 refine done_ (by kernel_rfl) ?_
 all_goals
  go_wp2_with fail
  go_end0
  exact ⟨rfl, _, HX.out, HR.out⟩
theorem Wx.put {nm : ByteArray} {l : List Step} {A : Option Addr} {c : Nat} {x : Inst} {B : Option Addr} {cb : Nat} {v : Value} {L : List Note} {mb n : Nat} {T : Int → Nat} {w W : World} {p : Nat} (h : Wx w W p nm l A c x B cb v L mb n T) {i : Int} (hi : (Lit.int .i64 i).wf = true) (hn : n ≤ 1000) : ∃ W2, (Instr.mapUpdate 80 (.map (some mb)) (.int .i64 i) (.int .i64 ((T i : Int) + 1))).run Tryz.prog W = .ok () W2 ∧ Wx w W2 p nm l A c x B cb v L mb (n + 1) (upd T i) ∧ W.grownBy W2 (some mb) := by
 obtain ⟨W2, hr, ht, hg⟩ := h.told.put hi (by unfold maxLen; omega)
 refine ⟨W2, hr, ⟨h.below.grown hg h.below.size (fun k hk => by cases hk; exact h.mlo), by rw [hg.block p h.one (fun e => h.mapart.1 (Option.some.inj e).symm)]; exact h.box, h.lo, h.rd, ?_, ht, h.mlo⟩, hg⟩
 obtain ⟨h1, h2⟩ := h.own
 refine ⟨h1, ?_⟩
 rcases h2 with hn | ⟨g, cap, cur, e, hl, hrow, rest⟩
 · exact .inl hn
 · refine .inr ⟨g, cap, cur, e, hl, ?_, rest⟩
   rw [hg.block g (Array.getElem?_eq_some_iff.1 hrow).1 (fun e2 => h.mapart.2 (by rw [e, ← e2]; rfl))]
   exact hrow
set_option maxHeartbeats 16000000 in
set_option maxRecDepth 100000 in
theorem mark_tells {nm : ByteArray} {l : List Step} {A : Option Addr} {c : Nat} {x : Inst} {B : Option Addr} {cb : Nat} {v : Value} {L : List Note} {mb n : Nat} {T : Int → Nat} {w W : World} {p : Nat} (h : Wx w W p nm l A c x B cb v L mb n T) (i : Nat) (s : Int) (hi : i < 1000) (hL : L.length ≤ 100) (hn : n ≤ 100) :
 Calls Tryz.prog 56 #[.pointer (some ⟨p, 0, none⟩), .int .i64 (i : Int), .int .i64 s] W fun e W' => e = .returned (.tuple #[]) ∧ ∃ v', Wx w W' p nm l A c x B cb v' (L ++ [markOf x s i]) mb (n + 1) (upd T i) ∧ Fr W W' p mb v v' := by
 obtain ⟨i37, hi37, hz37, hs37, hb37⟩ := info_parts note_info
 have HI := Aside0.mk (And.intro hi37 (And.intro hz37 (And.intro hs37 hb37)))
 clear hi37 hz37 hs37 hb37
 have HW := Aside0.mk h
 have ha2 := h.cells.2.2.1
 have ha13 := h.cells.2.2.2.2.2.2.2.2.2.2.2.2.2.1
 have hnn := World.new_ne W _ ha13
 have hwf : (Lit.int .i64 (i : Int)).wf = true := WalkArith.wf_i64 (by omega)
 have hTi : T (i : Int) ≤ 100 := by
  obtain ⟨D, _, hv⟩ := h.told
  have := (hv (i : Int)).2
  omega
 have hT0 : (0 : Int) ≤ (T (i : Int) : Int) := Int.natCast_nonneg _
 clear h
 go_enter Tryz.func56, Tryz.ntmps56
 go_wp2_with fail
 refine start_ (n := 19) (S := fun w' => w'.cell? ⟨p, 2, none⟩ = some (.int .i64 x.id) ∧ w'.cell? ⟨p, 13, none⟩ = some v) (ds := [18]) #[false,false,false,false,false,false,false,false,false,false,false,false,false,false,false,false,false,false,false] (by kernel_rfl) rfl rfl ⟨(by go_keep), (by go_keep)⟩ (fun hHeld => ?_)
 refine zV 0 6 19 1 ?_
 refine zV 1 7 19 3 ?_
 refine zV 2 8 19 7 ?_
 refine zV 3 9 19 15 ?_
 refine zV 5 11 19 47 ?_
 refine zV 6 12 19 111 ?_
 refine zV 7 13 19 239 ?_
 refine zV 8 14 19 495 ?_
 refine zV 9 15 19 1007 ?_
 refine zV 11 17 19 3055 ?_
 refine zV 12 18 19 7151 ?_
 refine zT 4 10 19 7167 hHeld ?_
 refine zT 10 16 19 8191 hHeld ?_
 refine zV 13 19 19 16383 ?_
 refine one_ (i := 14) (N := some 20) (zG 19 32767) rfl rfl (by kernel_rfl) (by decide) (fun K hK => ?_)
 refine value_ (w1 := ?_) (v := ?_) (by rfl) rfl ?_ ?_
 rotate_left 2
 · go_simp
   constructor
   · rfl
   · rfl
 refine hK.out _ _ ⟨(by go_keep), (by go_keep)⟩ (fun hHeld => ?_)
 clear hK K
 refine norm_ (a' := ?_) ?_ ?_
 rotate_left
 · show Act.put _ (some 20) _ = _
   simp only [Act.put, zA, zB, zC, i64_w, i32_w]
   rfl
 refine one_ (i := 15) (N := some 21) (zG 19 65535) rfl rfl (by kernel_rfl) (by decide) (fun K hK => ?_)
 refine step_append_lies _ (by rfl) _ _ _ (by rfl) w.heap.size 37 i37 _ 10 104 Tryz.underlying48 HI.out.1 HI.out.2.1 HI.out.2.2.1 HI.out.2.2.2 rfl (by decide) v L.length (L.flatMap noteC) (by rfl) ((HW.out.own.alloc _).drew) ⟨W.heap.size, 0, none⟩ 1 1 (noteC (markOf x s i)) (by rfl) (by rfl) (World.news_of_block (heap_alloc_new W _)) (note_one _) (by omega) (by unfold maxLen; omega) (by omega) (by have := HW.out.below.size; simp; omega) (W.heap.size + 1) (by simp) ?_
 intro gg cap w1 hown1 hgrow hat hlt
 have hgr := (grown_drew (World.grownBy_alloc W _ _)).trans hgrow
 have hbx := HW.out.after hgr
 have hb2 := row_cell (j := 2) hbx rfl
 have hb13 := row_cell (j := 13) hbx rfl
 have hf13 := free_of_row (j := 13) hbx
 have HX := Aside0.mk (HW.out.push hown1 hgr)
 have HR := Aside0.mk (Fr.push (mb := mb) (p := p) (n := L.length + 1) (cap := cap) (u := .slice (some ⟨gg, 0, none⟩) (L.length + 1) cap) hgr hat)
 clear hown1 hgrow hgr hbx hat
 refine hK.out _ _ ⟨hb2, hb13⟩ (fun hHeld => ?_)
 clear hK K
 refine norm_ (a' := ?_) ?_ ?_
 rotate_left
 · show Act.put _ (some 21) _ = _
   simp only [Act.put, zA, zB, zC, i64_w, i32_w]
   rfl
 refine zV 16 22 19 131071 ?_
 refine zV 17 23 19 262143 ?_
 refine last_ (i := 18) (N := none) #[true,true,true,true,true,true,true,true,true,true,true,true,true,true,true,true,true,true,true] rfl rfl (by kernel_rfl) (by decide) (fun K hK => ?_)
 refine skip_ (w1 := ?_) (by rfl) rfl ?_ ?_
 rotate_left
 · go_simp
   rfl
 refine hK.out _ _ ?_
 clear hK K
 refine done_ (by kernel_rfl) ?_
 obtain ⟨W2, hput, hx2, hg2⟩ := HX.out.put hwf (by omega)
 have hlook := HX.out.told.look hwf
 have hx14 := HX.out.cells.2.2.2.2.2.2.2.2.2.2.2.2.2.2
 replace hx2 := Aside0.mk (And.intro hx2 (HR.out.trans (Fr.map hg2)))
 clear hg2 HR
 clear ha2 ha13 hb2 hb13 hf13 HW HI hlt hwf
 generalize World.setCell _ _ _ = w2 at *
 generalize T (i : Int) = ti at *
 go_wp2_with fail
 go_end0
 exact ⟨rfl, _, hx2.out⟩
end Go.Proofs.YtgjddnaidjbhlaaGreatDoor.Ph

/- slices.Index, slices.Equal over numbers (P19): walked by hand. -/
namespace Go.Proofs.YtgjddnaidjbhlaaGreatDoor.Ph
open Go.RowKit Go.IntWalk Go.Proofs.YtgjddnaidjbhlaaGreatDoorW.PrintWords Go.Proofs.YtgjddnaidjbhlaaGreatDoor.PlName Go.Proofs.YtgjddnaidjbhlaaGreatDoor.Pl

set_option maxHeartbeats 16000000 in
set_option maxRecDepth 100000 in
theorem indexOf_calls (A : Option Addr) (c : Nat) (ks : List Int) (n : Int) (w : World) (hr : Kd.C (Kd.int .i64) w A ks.length ks) (hl : ks.length ≤ 17592186044416) (hin : n ∈ ks) :
 Calls Tryz.prog 124 #[.slice A ks.length c, .int .i64 n] w fun e w' => e = .returned (.int .i64 (ks.findIdx (· == n) : Nat)) ∧ Below w.heap.size w w' := by
 have HK := Aside0.mk (And.intro hr hin)
 clear hr hin
 go_enter Tryz.func124, Tryz.ntmps124
 go_wp2
 go_loopw [5, 8] (fun _ v8 wr => ∃ k : Nat, k ≤ ks.length ∧ v8 = .int .i64 (k : Int) ∧ (∀ j (hj : j < k) (ha : j < ks.length), ks[j] ≠ n) ∧ Below w.heap.size w wr) (fun _ v8 _ => ks.length - (intOf v8).toNat)
 case atStart => exact ⟨0, Nat.zero_le _, rfl, fun j hj => absurd hj (Nat.not_lt_zero _), Below.refl _ _⟩
 case round =>
  obtain ⟨k, hk, rfl, hal, hB⟩ := hrel
  have HG := Aside0.mk (And.intro hal hB)
  clear hal hB
  by_cases hlt : k < ks.length
  · have hd2 : decide ((k : Int) < (ks.length : Int)) = true := decide_eq_true (by omega)
    obtain ⟨aa, rfl, hx⟩ := int_at HK.out.1 hlt
    replace hx := cell_on HG.out.2 hx
    by_cases hxy : ks[k] = n
    · have HS : Aside0 (ks.findIdx (· == n) = k) := ⟨(List.findIdx_eq hlt).2 ⟨beq_iff_eq.2 hxy, fun j hj => beq_eq_false_iff_ne.2 (HG.out.1 j hj (by omega))⟩⟩
      have hd3 : (n == ks[k]) = true := beq_iff_eq.2 hxy.symm
      clear hxy
      generalize ks[k] = x at *
      go_wp2
      go_ret
      rw [HS.out]
      exact ⟨rfl, HG.out.2⟩
    · have HS : Aside0 (∀ j (hj : j < k + 1) (ha : j < ks.length), ks[j] ≠ n) := ⟨fun j hj h1 => by
       rcases Nat.lt_succ_iff_lt_or_eq.1 hj with h | h
       · exact HG.out.1 j h h1
       · subst h
         exact hxy⟩
      have hd3 : (n == ks[k]) = false := beq_eq_false_iff_ne.2 (Ne.symm hxy)
      clear hxy
      generalize ks[k] = x at *
      go_wp2
      go_roundw
      case rel => exact ⟨k + 1, hlt, by go_num, HS.out, HG.out.2⟩
      case measure => simp [intOf]; omega
  · exfalso
    obtain ⟨j, hj, e⟩ := List.mem_iff_getElem.1 HK.out.2
    exact HG.out.1 j (by omega) hj e
end Go.Proofs.YtgjddnaidjbhlaaGreatDoor.Ph

/- phase.writer: turn (P19): walked by hand. -/
namespace Go.Proofs.YtgjddnaidjbhlaaGreatDoor.Ph
open Go.RowKit Go.IntWalk Go.Proofs.YtgjddnaidjbhlaaGreatDoorW.PrintWords Go.Proofs.YtgjddnaidjbhlaaGreatDoorW.PrintLast Go.Proofs.YtgjddnaidjbhlaaGreatDoorW.PrintMore Go.Proofs.YtgjddnaidjbhlaaGreatDoor.PlName Go.Proofs.YtgjddnaidjbhlaaGreatDoor.Pl Go.Proofs.YtgjddnaidjbhlaaGreatDoor.LgMaps Go.Maps

/-- The counts say which steps were told. -/
def TB (T : Int → Nat) (f : Nat → Bool) : Prop := ∀ i : Nat, (((T (i : Int) : Nat) : Int) == 0) = !f i
theorem TB.upd {T : Int → Nat} {f : Nat → Bool} (h : TB T f) (i : Nat) : TB (upd T i) fun k => k == i || f k := fun k => by
 show (((Ph.upd T i (k : Int) : Nat) : Int) == 0) = !(k == i || f k)
 unfold Ph.upd
 by_cases hk : k = i
 · subst hk
   rw [if_pos rfl, beq_self_eq_true, Bool.true_or, beq_eq_false_iff_ne.2 (by omega)]
   rfl
 · rw [if_neg (by omega), beq_eq_false_iff_ne.2 hk, Bool.false_or]
   exact h k
theorem TB.congr {T : Int → Nat} {f g : Nat → Bool} (h : TB T f) (e : ∀ k, f k = g k) : TB T g := fun k => by rw [h k, e k]
theorem ToldM.mono {W : World} {mb n n' : Nat} {T : Int → Nat} (h : ToldM W mb n T) (hn : n ≤ n') : ToldM W mb n' T := by
 obtain ⟨D, ho, hv⟩ := h
 exact ⟨D, ho.mono hn, fun k => ⟨(hv k).1, Nat.le_trans (hv k).2 hn⟩⟩
theorem Wx.mono {nm : ByteArray} {l : List Step} {A : Option Addr} {c : Nat} {x : Inst} {B : Option Addr} {cb : Nat} {v : Value} {L : List Note} {mb n : Nat} {T : Int → Nat} {w W : World} {p n' : Nat} (h : Wx w W p nm l A c x B cb v L mb n T) (hn : n ≤ n') : Wx w W p nm l A c x B cb v L mb n' T := ⟨h.below, h.box, h.lo, h.rd, h.own, h.told.mono hn, h.mlo⟩
/-- What a call of a writer leaves: more notes, more steps told. -/
def Wrote (w W W' : World) (p : Nat) (nm : ByteArray) (l : List Step) (A : Option Addr) (c : Nat) (x : Inst) (B : Option Addr) (cb : Nat) (v : Value) (L : List Note) (mb n : Nat) (f : Nat → Bool) : Prop :=
 ∃ v' T, Wx w W' p nm l A c x B cb v' L mb n T ∧ TB T f ∧ Fr W W' p mb v v'
theorem first_lt {x : Inst} {s : Int} (h : s ∈ x.steps) : firstSt x s < x.steps.length := by
 unfold firstSt
 exact List.findIdx_lt_length_of_exists ⟨s, h, by simp⟩
set_option maxHeartbeats 16000000 in
set_option maxRecDepth 100000 in
theorem wturn_calls {nm : ByteArray} {l : List Step} {A : Option Addr} {c : Nat} {x : Inst} {B : Option Addr} {cb : Nat} {v : Value} {L : List Note} {mb n : Nat} {T : Int → Nat} {f : Nat → Bool} {w W : World} {p : Nat} (h : Wx w W p nm l A c x B cb v L mb n T) (hf : TB T f) (hL : L.length ≤ 90) (hn : n ≤ 90) (hx8 : x.steps.length ≤ 8) (h3 : x.cause = 3 → (3 : Int) ∈ x.steps) (h4 : x.cause = 4 → (4 : Int) ∈ x.steps) :
 Calls Tryz.prog 55 #[.pointer (some ⟨p, 0, none⟩)] W fun e W' => e = .returned (.tuple #[]) ∧ Wrote w W W' p nm l A c x B cb v (L ++ turnN x) mb (n + 1) (fun i => turnTold x i || f i) := by
 have HW := Aside0.mk (And.intro h hf)
 have hcell := h.cells
 have hc7 := hcell.2.2.2.2.2.2.2.1
 have hc8 := hcell.2.2.2.2.2.2.2.2.1
 have hno := Aside0.mk (fun k => note_calls h k (by omega))
 have hix := Aside0.mk (fun (k : Int) (hk : k ∈ x.steps) => (by exact indexOf_calls B cb x.steps k W h.reads (by omega) hk : Calls Tryz.prog 124 #[.slice B x.steps.length cb, .int .i64 k] W fun e w' => e = .returned (.int .i64 (firstSt x k : Nat)) ∧ Below W.heap.size W w'))
 have hmk := Aside0.mk (fun (W2 : World) (hb : Below W.heap.size W W2) (i : Nat) (s : Int) (hi : i < 1000) => mark_tells (h.on hb) i s hi (by omega) (by omega))
 have HX := Aside0.mk (And.intro (And.intro h3 h4) hx8)
 have hN : Aside0 (turnN x = if x.cause = 1 then [noteOf x 3] else if x.cause = 2 then [noteOf x 4] else if x.cause = 3 then [markOf x 3 (firstSt x 3)] else if x.cause = 4 then [markOf x 4 (firstSt x 4)] else []) := ⟨rfl⟩
 have hT : Aside0 (∀ i, turnTold x i = ((x.cause == 3 && i == firstSt x 3) || (x.cause == 4 && i == firstSt x 4))) := ⟨fun _ => rfl⟩
 clear h hf hL hn hx8 h3 h4 hcell
 generalize turnN x = tn at *
 generalize hx5 : x.cause = xc at *
 go_enter Tryz.func55, Tryz.ntmps55
 have hcs : xc = 1 ∨ xc = 2 ∨ xc = 3 ∨ xc = 4 ∨ (xc ≠ 1 ∧ xc ≠ 2 ∧ xc ≠ 3 ∧ xc ≠ 4) := by omega
 rcases hcs with rfl | rfl | rfl | rfl | ⟨n1, n2, n3, n4⟩
 · go_wp2_with (first | (go_at_call 59; refine (hno.out _).mono ?_; rintro e w1 ⟨rfl, hh1⟩; have H1 := Aside0.mk hh1; clear hh1))
   go_end0
   obtain ⟨v', hw, hfr⟩ := H1.out
   refine ⟨rfl, v', _, ?_, HW.out.2.congr fun k => ?_, hfr⟩
   · rw [hN.out]
     exact hw.mono (by omega)
   · rw [hT.out]
     rfl
 · go_wp2_with (first | (go_at_call 59; refine (hno.out _).mono ?_; rintro e w1 ⟨rfl, hh1⟩; have H1 := Aside0.mk hh1; clear hh1))
   go_end0
   obtain ⟨v', hw, hfr⟩ := H1.out
   refine ⟨rfl, v', _, ?_, HW.out.2.congr fun k => ?_, hfr⟩
   · rw [hN.out]
     exact hw.mono (by omega)
   · rw [hT.out]
     rfl
 · have hlt := first_lt (HX.out.1.1 rfl)
   have HI := Aside0.mk (And.intro (HX.out.1.1 rfl) (show firstSt x 3 < 1000 by have := HX.out.2; omega))
   have hix3 := Aside0.mk (hix.out 3 HI.out.1)
   have hi1 := HI.out.2
   clear hlt hix HI
   generalize firstSt x 3 = i3 at *
   go_wp2_with (first | (go_at_call 124; refine hix3.out.mono ?_; rintro e w1 ⟨rfl, hb1⟩; have H1 := Aside0.mk hb1; clear hb1) | (go_at_call 56; refine (hmk.out _ H1.out i3 3 hi1).mono ?_; rintro e w2 ⟨rfl, hh2⟩; have H2 := Aside0.mk hh2; clear hh2))
   go_end0
   obtain ⟨v', hw, hfr⟩ := H2.out
   refine ⟨rfl, v', _, ?_, (HW.out.2.upd i3).congr fun k => ?_, (Fr.below p mb v H1.out).trans hfr⟩
   · rw [hN.out]
     exact hw
   · rw [hT.out]
     simp
 · have hlt := first_lt (HX.out.1.2 rfl)
   have HI := Aside0.mk (And.intro (HX.out.1.2 rfl) (show firstSt x 4 < 1000 by have := HX.out.2; omega))
   have hix4 := Aside0.mk (hix.out 4 HI.out.1)
   have hi1 := HI.out.2
   clear hlt hix HI
   generalize firstSt x 4 = i4 at *
   go_wp2_with (first | (go_at_call 124; refine hix4.out.mono ?_; rintro e w1 ⟨rfl, hb1⟩; have H1 := Aside0.mk hb1; clear hb1) | (go_at_call 56; refine (hmk.out _ H1.out i4 4 hi1).mono ?_; rintro e w2 ⟨rfl, hh2⟩; have H2 := Aside0.mk hh2; clear hh2))
   go_end0
   obtain ⟨v', hw, hfr⟩ := H2.out
   refine ⟨rfl, v', _, ?_, (HW.out.2.upd i4).congr fun k => ?_, (Fr.below p mb v H1.out).trans hfr⟩
   · rw [hN.out]
     exact hw
   · rw [hT.out]
     simp
 · have q1 : (xc == 1) = false := beq_eq_false_iff_ne.2 n1
   have q2 : (xc == 2) = false := beq_eq_false_iff_ne.2 n2
   have q3 : (xc == 3) = false := beq_eq_false_iff_ne.2 n3
   have q4 : (xc == 4) = false := beq_eq_false_iff_ne.2 n4
   have HQ : Aside0 (tn = [] ∧ ∀ i, turnTold x i = false) := ⟨by rw [hN.out, if_neg n1, if_neg n2, if_neg n3, if_neg n4], fun i => by rw [hT.out, q3, q4]; rfl⟩
   clear n1 n2 n3 n4 hN hT
   go_wp2
   go_end0
   refine ⟨rfl, v, _, ?_, HW.out.2.congr fun k => ?_, Fr.below p mb v (Below.refl _ _)⟩
   · rw [HQ.out.1, List.append_nil]
     exact HW.out.1.mono (by omega)
   · rw [HQ.out.2, Bool.false_or]
end Go.Proofs.YtgjddnaidjbhlaaGreatDoor.Ph
