/- Several texts in one, in build order: PlRefUnd, PlZReady, PlOpens, PlZOpens, PlZLawAheads, PlZLawReadies, PlTabs, RowPlanReadies. -/
import Derived.Test.YthlgcibckakhbaaGreatDoorMPR4
import Derived.Test.YthlgcibckakhbaaGreatDoorRows
import Derived.ProofKit
import Derived.LaidMore
import Derived.Lay
import Derived.OpenShut
import Derived.Stop.Joined
import Derived.PinnedBridge
import Derived.Lib.LaidU8
import Derived.Test.YthlgcibckakhbaaGreatDoorCards
import Derived.Test.YthlgcibckakhbaaGreatDoorTie
import Derived.SevenTiedAt
import Derived.WalkKit
import Derived.ShutString
import Derived.ChangeOld
import Derived.Below
import Derived.SizedLaws
import Derived.Carry
set_option linter.unusedVariables false
set_option linter.unusedSimpArgs false
/- odysseyref12.Undo (ZD): walked by hand. -/
namespace Go.Proofs.YthlgcibckakhbaaGreatDoor.Pl
open Go.RowKit Go.IntWalk Go.Proofs.YthlgcibckakhbaaGreatDoorW.PrintWords Go.Proofs.YthlgcibckakhbaaGreatDoorW.PrintLast Go.Proofs.YthlgcibckakhbaaGreatDoorW.PrintMore Go.Proofs.YthlgcibckakhbaaGreatDoor.PlName

set_option maxHeartbeats 16000000 in
set_option maxRecDepth 100000 in
theorem refUndoL_calls (nm : ByteArray) (l : List Step) (A : Option Addr) (c : Nat) (B : Option Addr) (cs : Nat) (st : List Int) (w : World) (hnm : nm.size ≤ 140737488351232) (hS : StepsAt w A l) (hb : ∀ s ∈ l, StepB s) (hn : l.length ≤ 9000000000000) (hc : l.length ≤ c)
 (hs : Kd.C (Kd.int .i64) w B st.length st) (hsl : st.length ≤ 17592186044416) :
 Calls Tryz.prog 17 #[.agg #[.string nm, .slice A l.length c], .slice B st.length cs] w fun e w' => (∃ v, e = .returned v ∧ Own w w' v (undoL nm l st)) ∧ Below w.heap.size w w' := by
 have hbb := below_one w (.cells #[.string nm, .slice A l.length c] 24)
 have hr0 := alloc1 w (.cells #[.string nm, .slice A l.length c] 24)
 have hft := Aside0.mk (fit_calls nm l A c B cs st _ hnm (hS.below hbb) hb hn hc (Kd.C_below hs hbb) hsl)
 have HW := Aside0.mk (And.intro hbb hr0)
 have HA := Aside0.mk (And.intro hS (And.intro hs hnm))
 have HR : Aside0 (undoL nm l st = if (defOk nm l && stsOk st l.length) = true then sel (undoF (wars (direct l) l.length) st l.length) l.length else []) := ⟨rfl⟩
 have HD := Aside0.mk (fun (h : (defOk nm l && stsOk st l.length) = true) => And.intro (defOk_len (nm := nm) (l := l) (Bool.and_eq_true_iff.1 h).1) (sts_len (Bool.and_eq_true_iff.1 h).2))
 clear hbb hr0 hS hb hs
 generalize undoL nm l st = rr at *
 go_enter Tryz.func17, Tryz.ntmps17
 cases hok : (defOk nm l && stsOk st l.length)
 · rw [hok] at hft HR
   go_wp2_with (first | (go_at_call 31; refine hft.out.mono ?_; rintro e w1 ⟨rfl, hb1⟩; have H1 := Aside0.mk (on_ HW.out.1 hb1); clear hb1))
   go_ret
   exact ⟨⟨_, rfl, by rw [HR.out]; exact own_nil _ _⟩, H1.out⟩
 · obtain ⟨⟨hl1, hl8, hal⟩, hlen⟩ := HD.out hok
   rw [hok] at hft HR
   have HL := Aside0.mk hlen
   have hs8 : st.length ≤ 8 := by omega
   have hs1 : 1 ≤ st.length := by omega
   clear hlen HD hok
   obtain ⟨ad, rfl, _⟩ := HA.out.1.one (stepAt_eq (l := l) (i := 0) (by omega))
   obtain ⟨a0, rfl, _⟩ := int_at HA.out.2.1 (i := 0) (by omega)
   have hah := Aside0.mk (fun W (h : Below w.heap.size w W) (x : Nat) (hx : x < l.length) => refAhead_calls nm l ad c x W (HA.out.1.below h) hx hl8 (fun k hk => (needs_in hl8 (hal k hk)).2))
   have hint := Aside0.mk (fun W (h : Below w.heap.size w W) (x : Nat) (hx : x < st.length) => (by
    obtain ⟨a1, e, h1⟩ := int_at HA.out.2.1 hx
    cases e
    rw [st_get hx] at h1
    exact cell_on h h1 : W.cell? (a0.add x) = some (.int .i64 (stOf st x))))
   have HR2 : Aside0 (rr = sel (undoF (wars (direct l) l.length) st l.length) l.length) := ⟨by rw [HR.out, if_pos rfl]⟩
   clear hal HR
   have HP : Aside0 (∀ k, undoF (wars (direct l) l.length) st l.length k = (standsF st k && allF (fun b => wars (direct l) l.length b k) (fun b => !standsF st b) st.length)) := ⟨fun k => by rw [HL.out]; rfl⟩
   generalize undoF (wars (direct l) l.length) st l.length = P at *
   go_wp2_with (first | (go_at_call 31; refine hft.out.mono ?_; rintro e w1 ⟨rfl, hb1⟩; have H1 := Aside0.mk (And.intro (on_ HW.out.1 hb1) (row_on hb1 HW.out.2)); clear hb1))
   have HB0 : Aside0 (∀ W, w1.alloc (.cells #[.bool false, .bool false, .bool false, .bool false, .bool false, .bool false, .bool false, .bool false] 48) = W → Bn w W nm l ad c w1.heap.size (fun _ => false)) := ⟨fun W hW => by
    subst hW
    exact ⟨on_ H1.out.1 (below_one _ _), row_on (below_one _ _) H1.out.2, alloc1 w1 (.cells (rowA (fun _ => false) 8) 48), (Array.getElem?_eq_some_iff.1 H1.out.2).1⟩⟩
   generalize hW : World.alloc w1 _ = w2 at *
   have HB := Aside0.mk (HB0.out _ rfl)
   generalize w1.heap.size = bs at *
   clear HB0 hW
   go_loopw [6] (fun v6 wr => ∃ (k : Nat) (g : Nat → Bool), k ≤ st.length ∧ v6 = .int .i64 (k : Int) ∧ (∀ x, x < k → g x = P x) ∧ Bn w wr nm l ad c bs g) (fun v6 _ => st.length - (intOf v6).toNat)
   case atStart => exact ⟨0, _, Nat.zero_le _, rfl, fun x hx => absurd hx (Nat.not_lt_zero _), HB.out⟩
   case round =>
    obtain ⟨wo, rfl⟩ : ∃ wo : World, wo = wr := ⟨_, rfl⟩
    obtain ⟨k, g, hk, rfl, hg, hN⟩ := hrel
    have HG := Aside0.mk (And.intro hg hN)
    obtain ⟨hq0, hq1⟩ := hN.cells
    clear hg HB
    by_cases hlk : k < st.length
    · have hd3 : decide ((k : Int) < (st.length : Int)) = true := decide_eq_true (by omega)
      have hd8 : decide ((k : Int) < 8) = true := decide_eq_true (by omega)
      have hk8 : k < 8 := by omega
      have hkl : k < l.length := by have := HL.out; omega
      have hx := hint.out _ HG.out.2.below k hlk
      have hqk := row_cell (j := k) hN.row (rowA_at hk8)
      have hfk := free_of_row (j := k) hN.row
      have HZ : Aside0 (P k = (stB (stOf st k) && allF (fun b => wars (direct l) l.length b k) (fun b => !standsF st b) st.length)) := ⟨HP.out k⟩
      generalize stOf st k = xk at *
      have hst := Aside0.mk (fun W => stands12_calls xk W)
      clear hN
      generalize stB xk = z at *
      go_wp2_with (first | (go_at_call 32; refine (hst.out _).mono ?_; rintro e w5 ⟨rfl, hb5⟩; have H5 := Aside0.mk (HG.out.2.on hb5); have hqk5 := row_cell (j := k) H5.out.row (rowA_at hk8); have hfk5 := free_of_row (j := k) H5.out.row; clear hb5))
      have HB0 : Aside0 (∀ W, World.setCell w5 ⟨bs, k, none⟩ (.bool z) = W → Bn w W nm l ad c bs (upd g k z)) := ⟨fun W hW => by
       subst hW
       exact H5.out.set k z⟩
      generalize hW : World.setCell w5 _ _ = w6 at *
      have H6 := Aside0.mk (HB0.out _ rfl)
      have H7 := Aside0.mk (And.intro (upd_low z HG.out.1) (upd_at g k z))
      generalize upd g k z = g0 at *
      clear hq0 hq1 hx hqk hfk hqk5 hfk5 HB0 hW H5 HG hst
      go_loopw [7] (fun v7 wr => ∃ (a : Nat) (g2 : Nat → Bool), a ≤ st.length ∧ v7 = .int .i64 (a : Int) ∧ (∀ x, x < k → g2 x = P x) ∧ g2 k = (z && allF (fun b => wars (direct l) l.length b k) (fun b => !standsF st b) a) ∧ Bn w wr nm l ad c bs g2) (fun v7 _ => st.length - (intOf v7).toNat)
      case atStart => exact ⟨0, g0, Nat.zero_le _, rfl, H7.out.1, by rw [H7.out.2, allF_zero, Bool.and_true], H6.out⟩
      case round =>
       obtain ⟨a, g2, ha, rfl, hlo, hat, hR⟩ := hrel
       have HM := Aside0.mk (And.intro hlo (And.intro hat hR))
       clear hlo hat H6 H7
       by_cases hla : a < st.length
       · have hd4 : decide ((a : Int) < (st.length : Int)) = true := decide_eq_true (by omega)
         have hd9 : decide ((k : Int) < 8) = true := decide_eq_true (by omega)
         have hal : a < l.length := by have := HL.out; omega
         have hy := hint.out _ hR.below a hla
         have hD : Aside0 (standsF st a = stB (stOf st a)) := ⟨rfl⟩
         clear hR
         generalize stOf st a = y at *
         have hst := Aside0.mk (fun W => stands12_calls y W)
         cases hys : stB y
         · rw [hys] at hst hD
           go_wp2_with (first | (go_at_call 32; refine (hst.out _).mono ?_; rintro e w7 ⟨rfl, hb7⟩; have H7 := Aside0.mk (HM.out.2.2.on hb7); clear hb7))
           go_roundw
           case rel => exact ⟨a + 1, g2, hla, by go_num, HM.out.1, by rw [allF_succ, hD.out, HM.out.2.1]; simp, H7.out⟩
           case measure => simp [intOf]; omega
         · rw [hys] at hst hD
           go_wp2_with (first | (go_at_call 32; refine (hst.out _).mono ?_; rintro e w7 ⟨rfl, hb7⟩; have H7 := Aside0.mk (HM.out.2.2.on hb7); obtain ⟨hp0, hp1⟩ := H7.out.cells; clear hb7) | (go_at_call 24; refine (hah.out _ H7.out.below a hal).mono ?_; rintro e w8 ⟨⟨f, rfl, hf⟩, hb8⟩; have H8 := Aside0.mk (And.intro (H7.out.on hb8) (hf k hkl)); have hix := idx8 f w8 hk8; have hqk8 := row_cell (j := k) H8.out.1.row (rowA_at hk8); have hfk8 := free_of_row (j := k) H8.out.1.row; clear hb8 hf; cases hfk : f k))
           · go_roundw
             case rel => exact ⟨a + 1, g2, hla, by go_num, HM.out.1, by rw [allF_succ, ← H8.out.2, hfk, hD.out, HM.out.2.1]; simp, H8.out.1⟩
             case measure => simp [intOf]; omega
           · go_roundw
             case rel => exact ⟨a + 1, upd g2 k false, hla, by go_num, upd_low false HM.out.1, by rw [upd_at, allF_succ, ← H8.out.2, hfk, hD.out]; simp, H8.out.1.set k false⟩
             case measure => simp [intOf]; omega
       · have hd4 : decide ((a : Int) < (st.length : Int)) = false := decide_eq_false (by omega)
         have ha' : a = st.length := by omega
         have HE : Aside0 (g2 k = P k) := ⟨by rw [HM.out.2.1, ha', HZ.out]⟩
         clear hR ha'
         go_wp2
         go_roundw
         case rel => exact ⟨k + 1, g2, hlk, by go_num, lowP_step HM.out.1 HE.out, HM.out.2.2⟩
         case measure => simp [intOf]; omega
    · have hd3 : decide ((k : Int) < (st.length : Int)) = false := decide_eq_false (by omega)
      have hk' : k = l.length := by have := HL.out; omega
      subst hk'
      have hrow := hN.row
      have HS : Aside0 (sel g l.length = sel P l.length) := ⟨sel_congr fun x hx => HG.out.1 x hx⟩
      have q0 := row_cell (j := 0) hrow (rowA_at (show 0 < 8 by decide))
      have q1 := row_cell (j := 1) hrow (rowA_at (show 1 < 8 by decide))
      have q2 := row_cell (j := 2) hrow (rowA_at (show 2 < 8 by decide))
      have q3 := row_cell (j := 3) hrow (rowA_at (show 3 < 8 by decide))
      have q4 := row_cell (j := 4) hrow (rowA_at (show 4 < 8 by decide))
      have q5 := row_cell (j := 5) hrow (rowA_at (show 5 < 8 by decide))
      have q6 := row_cell (j := 6) hrow (rowA_at (show 6 < 8 by decide))
      have q7 := row_cell (j := 7) hrow (rowA_at (show 7 < 8 by decide))
      clear hN
      go_wp2_with (first | (go_at_call 23; refine (numbers_calls nm l (some ad) c g _ hl8).mono ?_; rintro e w6 ⟨⟨v6, rfl, ho6⟩, hb6⟩))
      go_ret
      exact ⟨⟨_, rfl, by rw [HR2.out, ← HS.out]; exact ho6.low HG.out.2.below.size⟩, on_ HG.out.2.below hb6⟩
end Go.Proofs.YthlgcibckakhbaaGreatDoor.Pl

/- odysseylaw12.PlanReadies (ZD): the walk, by hand. -/
namespace Go.Proofs.YthlgcibckakhbaaGreatDoor.Pl
open Go.RowKit Go.IntWalk Go.Proofs.YthlgcibckakhbaaGreatDoorW.PrintWords Go.Proofs.YthlgcibckakhbaaGreatDoorW.PrintLast Go.Proofs.YthlgcibckakhbaaGreatDoorW.PrintMore Go.Proofs.YthlgcibckakhbaaGreatDoor.PlName

theorem readyL_len (nm : ByteArray) (l : List Step) (st : List Int) : (readyL nm l st).length ≤ 1000 := by
 unfold readyL
 split
 · rename_i h
   obtain ⟨_, h8, _⟩ := defOk_len (Bool.and_eq_true_iff.1 h).1
   have := sel_len (readyF (wars (direct l) l.length) st l.length) l.length
   omega
 · simp
theorem undoL_len (nm : ByteArray) (l : List Step) (st : List Int) : (undoL nm l st).length ≤ 1000 := by
 unfold undoL
 split
 · rename_i h
   obtain ⟨_, h8, _⟩ := defOk_len (Bool.and_eq_true_iff.1 h).1
   have := sel_len (undoF (wars (direct l) l.length) st l.length) l.length
   omega
 · simp
/-- The worlds of PlanReadies: the copies stand. -/
structure Ry (w W : World) (nm : ByteArray) (l : List Step) (A : Option Addr) (c bq : Nat) (A2 : Option Addr) (c2 : Nat) (Ak : Option Addr) (st : List Int) : Prop where
 ah : Ah w W nm l A c bq A2 c2
 kept : Kd.C (Kd.int .i64) W Ak st.length st
theorem Ry.on {w W W2 : World} {nm : ByteArray} {l : List Step} {A : Option Addr} {c bq : Nat} {A2 : Option Addr} {c2 : Nat} {Ak : Option Addr} {st : List Int} (h : Ry w W nm l A c bq A2 c2 Ak st) (hb : Below W.heap.size W W2) : Ry w W2 nm l A c bq A2 c2 Ak st := ⟨h.ah.on hb, Kd.C_below h.kept hb⟩

set_option maxHeartbeats 32000000 in
set_option maxRecDepth 100000 in
theorem planReadies_calls (nm : ByteArray) (l : List Step) (A : Option Addr) (c : Nat) (B : Option Addr) (cs : Nat) (st : List Int) (w : World) (hnm : nm.size ≤ 140737488351232) (hS : StepsAt w A l) (hb : ∀ s ∈ l, StepB s) (hn : l.length ≤ 9000000000000) (hc : l.length ≤ c) (hT : TabsAt w) (ht : Tight l)
 (hs : Kd.C (Kd.int .i64) w B st.length st) (hsl : st.length ≤ 17592186044416) :
 Calls Tryz.prog 4 #[.agg #[.string nm, .slice A l.length c], .slice B st.length cs] w fun e w' => e = .returned (.bool true) ∧ Below w.heap.size w w' := by
 have hbb := below_one w (.cells #[.string nm, .slice A l.length c] 24)
 have hr0 := alloc1 w (.cells #[.string nm, .slice A l.length c] 24)
 have hcp := Aside0.mk (copy_calls nm l A c _ (hS.below hbb) hc ht)
 have HW := Aside0.mk (And.intro hbb hr0)
 have hrd := Aside0.mk (fun W (h : Below w.heap.size w W) => ready_at nm l A c B cs st W hnm (hS.below h) hb hn hc (tabs_on hT h) (Kd.C_below hs h) (by omega))
 have hun := Aside0.mk (fun W (h : Below w.heap.size w W) => undo_at nm l A c B cs st W hnm (hS.below h) hb hn hc (tabs_on hT h) (Kd.C_below hs h) (by omega))
 have hrr := Aside0.mk (fun W bq A2 c2 Ak ck (hc2 : l.length ≤ c2) (h : Ry w W nm l A c bq A2 c2 Ak st) => refReadyL_calls nm l A2 c2 Ak ck st W hnm h.ah.steps hb hn hc2 h.kept hsl)
 have hru := Aside0.mk (fun W bq A2 c2 Ak ck (hc2 : l.length ≤ c2) (h : Ry w W nm l A c bq A2 c2 Ak st) => refUndoL_calls nm l A2 c2 Ak ck st W hnm h.ah.steps hb hn hc2 h.kept hsl)
 have hlv := Aside0.mk (fun W (h : Below w.heap.size w W) => live_calls W (tabs_on hT h))
 have hsm := Aside0.mk (fun W bq A2 c2 Ak (h : Ry w W nm l A c bq A2 c2 Ak st) => same10_calls nm l A c A2 c2 W (hS.below h.ah.below) h.ah.steps hb hn)
 have hsk := Aside0.mk (fun W bq A2 c2 Ak ck (h : Ry w W nm l A c bq A2 c2 Ak st) => (by
  have := same_calls B Ak cs ck st st W (Kd.C_below hs h.ah.below) h.kept hsl
  rw [show sameI st st = true from decide_eq_true rfl] at this
  exact this : Calls Tryz.prog 8 #[.slice B st.length cs, .slice Ak st.length ck] W fun e w' => e = .returned (.bool true) ∧ Below W.heap.size W w'))
 have HL1 := Aside0.mk (readyL_len nm l st)
 have HL2 := Aside0.mk (undoL_len nm l st)
 have HS := Aside0.mk hs
 clear hbb hr0 hS hb hT hc hnm ht hs
 generalize readyL nm l st = L1 at *
 generalize undoL nm l st = L2 at *
 go_enter Tryz.func4, Tryz.ntmps4
 go_wp2_with (first | (go_at_call 5; refine hcp.out.mono ?_; rintro e w1 ⟨⟨A2, c2, rfl, hc2, hS2⟩, hb1⟩; have H1 := Aside0.mk (And.intro (on_ HW.out.1 hb1) (And.intro (row_on hb1 HW.out.2) (And.intro hc2 hS2))); clear hc2 hS2 hb1) | (at_builtin; refine Kd.R_append_rows (Kd.int .i64) (w0 := w) w.heap.size rfl (.tmp 12) (.tmp 13) 26 3 (.int .i64 0) 8 rfl Tryz.underlying26 int_info rfl (by decide) (by omega) (.slice none 0 0) ([] : List Int) st _ _ _ (fun _ => True) (fun _ => False) rfl rfl (Kd.R_nil _ _ _ _ _) (Kd.C_below HS.out (on_ H1.out.1 (below_one _ _))) (fun _ _ h => h) (fun _ h => h.elim) (fun _ _ => trivial) (on_ H1.out.1 (below_one _ _)) (on_ H1.out.1 (below_one _ _)).size (by simp; omega) ?_; intro vk w3 hR hB hgr _; rw [List.nil_append] at hR; obtain ⟨Ak, ck, rfl, _, hCk⟩ := Kd.R_reads hR; have H3 := Aside0.mk (And.intro (Ry.mk ((⟨on_ H1.out.1 (below_one _ _), row_on (below_one _ _) H1.out.2.1, alloc1 w1 _, H1.out.2.2.2.below (below_one _ _)⟩ : Ah w (w1.alloc (.cells #[.string nm, .slice A2 l.length c2] 24)) nm l A c w1.heap.size A2 c2).on (below_grown (B := (w1.alloc (.cells #[.string nm, .slice A2 l.length c2] 24)).heap.size) hgr (Nat.le_refl _) (fun k h => by cases h))) hCk) H1.out.2.2.1); clear hR hB hgr hCk H1; generalize w1.heap.size = bq at *; obtain ⟨hp0, hp1, hp2, hp3⟩ := H3.out.1.ah.cells) | (go_at_call 14; with_reducible refine (hrd.out _ H3.out.1.ah.below).mono ?_; rintro e w4 ⟨⟨va, rfl, ho⟩, hb4⟩; have H4 := Aside0.mk (And.intro (H3.out.1.on hb4) (And.intro ho hb4)); clear ho hb4 hp0 hp1 hp2 hp3; obtain ⟨hp0, hp1, hp2, hp3⟩ := H4.out.1.ah.cells) | (go_at_call 15; with_reducible refine (hun.out _ H4.out.1.ah.below).mono ?_; rintro e w5 ⟨⟨vb, rfl, ho⟩, hb5⟩; have H5 := Aside0.mk (And.intro (H4.out.1.on hb5) (And.intro ho (And.intro hb5 (on_ H4.out.2.2 hb5)))); clear ho hb5 hp0 hp1 hp2 hp3; obtain ⟨hp0, hp1, hp2, hp3⟩ := H5.out.1.ah.cells) | (go_at_call 16; with_reducible refine (hrr.out _ _ _ _ _ _ H3.out.2 H5.out.1).mono ?_; rintro e w6 ⟨⟨vc, rfl, ho⟩, hb6⟩; have H6 := Aside0.mk (And.intro (H5.out.1.on hb6) (And.intro ho hb6)); clear ho hb6 hp0 hp1 hp2 hp3; obtain ⟨hp0, hp1, hp2, hp3⟩ := H6.out.1.ah.cells) | (go_at_call 17; with_reducible refine (hru.out _ _ _ _ _ _ H3.out.2 H7.out.1).mono ?_; rintro e w8 ⟨⟨vd, rfl, ho⟩, hb8⟩; have H8 := Aside0.mk (And.intro (H7.out.1.on hb8) (And.intro ho hb8)); clear ho hb8 hp0 hp1 hp2 hp3; obtain ⟨hp0, hp1, hp2, hp3⟩ := H8.out.1.ah.cells) | (go_at_call 8; with_reducible refine (own_same2 H5.out.2.1 (on_ H6.out.2.2 (on_ H7.out.2 H8.out.2.2)) H8.out.2.1 (Below.refl _ _) HL2.out).mono ?_; rintro e w9 ⟨rfl, hb9⟩; have H9 := Aside0.mk (And.intro (H8.out.1.on hb9) (And.intro (on_ H5.out.2.2.2 (on_ H6.out.2.2 (on_ H7.out.2 (on_ H8.out.2.2 hb9)))) hb9)); clear hb9 hp0 hp1 hp2 hp3) | (go_at_call 8; with_reducible refine (own_same2 H4.out.2.1 (on_ H5.out.2.2.1 H6.out.2.2) H6.out.2.1 (Below.refl _ _) HL1.out).mono ?_; rintro e w7 ⟨rfl, hb7⟩; have H7 := Aside0.mk (And.intro (H6.out.1.on hb7) hb7); clear hb7 hp0 hp1 hp2 hp3; obtain ⟨hp0, hp1, hp2, hp3⟩ := H7.out.1.ah.cells))
 have ho9 := ownsRow_on H4.out.2.1 (on_ H5.out.2.2.1 (on_ H6.out.2.2 (on_ H7.out.2 (on_ H8.out.2.2 H9.out.2.2))))
 refine (filled_calls ho9 H9.out.2.1 HL1.out).mono ?_
 rintro e w10 ⟨rfl, hb10, hc10⟩
 have H10 := Aside0.mk (And.intro (ownsRow_chg (ownsRow_on (H5.out.2.1.low H4.out.2.2.size) (on_ H6.out.2.2 (on_ H7.out.2 (on_ H8.out.2.2 H9.out.2.2)))) hc10 (own_apart H4.out.2.1 H5.out.2.1)) hb10)
 clear hb10 hc10 ho9
 go_wp2_with (first | (go_at_call 11; refine (filled_calls H10.out.1 H10.out.2 HL2.out).mono ?_; rintro e w11 ⟨rfl, hb11, _⟩; have H11 := Aside0.mk (H3.out.1.on hb11); clear hb11) | (go_at_call 12; refine (hlv.out _ H11.out.ah.below).mono ?_; rintro e w12 ⟨rfl, hb12⟩; have H12 := Aside0.mk (H11.out.on hb12); clear hb12; obtain ⟨hp0, hp1, hp2, hp3⟩ := H12.out.ah.cells) | (go_at_call 13; refine (hsm.out _ _ _ _ _ H12.out).mono ?_; rintro e w13 ⟨rfl, hb13⟩; have H13 := Aside0.mk (H12.out.on hb13); clear hb13 hp0 hp1 hp2 hp3) | (go_at_call 8; refine (hsk.out _ _ _ _ _ _ H13.out).mono ?_; rintro e w14 ⟨rfl, hb14⟩; have H14 := Aside0.mk (on_ H13.out.ah.below hb14); clear hb14))
 go_ret
 exact ⟨rfl, H14.out⟩
end Go.Proofs.YthlgcibckakhbaaGreatDoor.Pl

/- A definition that came in, read as plain data. -/
namespace Go.Proofs.YthlgcibckakhbaaGreatDoor.Opening
open Go.ChangeShapes Go.WideShapes Go.RowKit Go.Proofs.YthlgcibckakhbaaGreatDoorW.PrintWords Go.Proofs.YthlgcibckakhbaaGreatDoor.Pl

def DefK (w : World) (d : Def) (cs : List Value) : Prop := ∃ A c, cs = [.string d.name, .slice A d.steps.length c] ∧ d.steps.length ≤ c ∧ StepsAt w A d.steps
theorem bytes9 : Tryz.prog.bytesOf 9 = 16 := by kernel_rfl
theorem bytes3 : Tryz.prog.bytesOf 3 = 8 := by kernel_rfl
theorem bytes35 : Tryz.prog.bytesOf 37 = 80 := by kernel_rfl
end Go.Proofs.YthlgcibckakhbaaGreatDoor.Opening

/- A definition that came in, read as plain data, with memory's bounds. -/
namespace Go.Proofs.YthlgcibckakhbaaGreatDoor.Opening
open Go.ChangeShapes Go.WideShapes Go.RowKit Go.Proofs.YthlgcibckakhbaaGreatDoorW.PrintWords Go.Proofs.YthlgcibckakhbaaGreatDoor.Pl

def StepT (s : Step) : Prop := StepB s ∧ s.keys.length < 8796093022208 ∧ s.needs.length < 17592186044416
def DefT (d : Def) : Prop := d.name.size ≤ 140737488351232 ∧ (∀ s ∈ d.steps, StepT s) ∧ d.steps.length ≤ 1759218604390
theorem DefT.tight {d : Def} (h : DefT d) : Tight d.steps := ⟨fun s hs => (h.2.1 s hs).2, h.2.2⟩
theorem DefT.all {d : Def} (h : DefT d) : ∀ s ∈ d.steps, StepB s := fun s hs => (h.2.1 s hs).1
set_option maxRecDepth 100000 in
theorem opens_StepT : OpensK Tryz.prog 37 StepK StepT := by
 refine ⟨fun enc w fuel cs x h hz => ?_⟩
 obtain ⟨hl, hf⟩ := fields Tryz.underlying37 h hz
 obtain ⟨a0, k0, b0⟩ := hf 0 _ rfl (.of (opens_string Tryz.underlying9))
 obtain ⟨a1, k1, b1⟩ := hf 1 _ rfl (.of (opens_int (k := .i64) Tryz.underlying3))
 obtain ⟨a2, k2, b2⟩ := hf 2 _ rfl (.of (opens_int (k := .i64) Tryz.underlying3))
 obtain ⟨a3, k3, b3⟩ := hf 3 _ rfl (.of (opens_slice Tryz.underlying35 (by kernel_rfl) (opens_string Tryz.underlying9)))
 obtain ⟨a4, k4, b4⟩ := hf 4 _ rfl (.of (opens_slice Tryz.underlying26 (by kernel_rfl) (opens_int (k := .i64) Tryz.underlying3)))
 have hn : cs.length = 5 := hl.trans (by kernel_rfl)
 obtain ⟨c0, r0, rfl, n0⟩ := cons_len hn
 obtain ⟨c1, r1, rfl, n1⟩ := cons_len n0
 obtain ⟨c2, r2, rfl, n2⟩ := cons_len n1
 obtain ⟨c3, r3, rfl, n3⟩ := cons_len n2
 obtain ⟨c4, r4, rfl, n4⟩ := cons_len n3
 obtain rfl := List.eq_nil_of_length_eq_zero n4
 replace k0 : [c0] = [.string a0] := k0
 cases k0
 replace k1 : [c1] = [.int .i64 a1] := k1
 cases k1
 replace k2 : [c2] = [.int .i64 a2] := k2
 cases k2
 obtain ⟨A3, d3, k3, hc3, hC3⟩ := k3
 replace k3 : [c3] = [.slice A3 a3.length d3] := k3
 cases k3
 obtain ⟨A4, d4, k4, hc4, hC4⟩ := k4
 replace k4 : [c4] = [.slice A4 a4.length d4] := k4
 cases k4
 refine ⟨⟨a0, a1, a2, a3, a4⟩, ⟨A3, d3, A4, d4, rfl, hc3, hC3, hc4, hC4⟩, ⟨⟨b0, b1, b2, ⟨b3.1, ?_⟩, ⟨b4.1, ?_⟩⟩, ?_, ?_⟩⟩
 · have := b3.2
   rw [bytes9] at this
   unfold reachBytes at this
   show a3.length ≤ _
   omega
 · have := b4.2
   rw [bytes3] at this
   unfold reachBytes at this
   show a4.length ≤ _
   omega
 · have := b3.2
   rw [bytes9] at this
   unfold reachBytes at this
   show a3.length < _
   omega
 · have := b4.2
   rw [bytes3] at this
   unfold reachBytes at this
   show a4.length < _
   omega
set_option maxRecDepth 100000 in
theorem opens_DefT : OpensK Tryz.prog 24 DefK DefT := by
 refine ⟨fun enc w fuel cs x h hz => ?_⟩
 obtain ⟨hl, hf⟩ := fields Tryz.underlying24 h hz
 obtain ⟨a0, k0, b0⟩ := hf 0 _ rfl (.of (opens_string Tryz.underlying9))
 obtain ⟨a1, k1, b1⟩ := hf 1 _ rfl (K := fun w (l : List Step) cs => ∃ A c, cs = [.slice A l.length c] ∧ l.length ≤ c ∧ StepsAt w A l) (B := fun l => (∀ s ∈ l, StepT s) ∧ l.length * Tryz.prog.bytesOf 37 ≤ reachBytes) ⟨fun enc w fuel cs x hx hz => by
  obtain ⟨A, c, l, e, h1, h2, h3, h4⟩ := opensK_slice (sz := 5) Tryz.underlying22 (by kernel_rfl) opens_StepT hx hz
  exact ⟨l, ⟨A, c, e, h1, h2⟩, h3, h4⟩⟩
 have hn : cs.length = 2 := hl.trans (by kernel_rfl)
 obtain ⟨c0, r0, rfl, n0⟩ := cons_len hn
 obtain ⟨c1, r1, rfl, n1⟩ := cons_len n0
 obtain rfl := List.eq_nil_of_length_eq_zero n1
 replace k0 : [c0] = [.string a0] := k0
 cases k0
 obtain ⟨A1, d1, k1, hc1, hC1⟩ := k1
 replace k1 : [c1] = [.slice A1 a1.length d1] := k1
 cases k1
 refine ⟨⟨a0, a1⟩, ⟨A1, d1, rfl, hc1, hC1⟩, b0, b1.1, ?_⟩
 have := b1.2
 rw [bytes35] at this
 unfold reachBytes at this
 show a1.length ≤ _
 omega
end Go.Proofs.YthlgcibckakhbaaGreatDoor.Opening

/- PlanAheads, at what came in. -/
namespace Go.Proofs.YthlgcibckakhbaaGreatDoor.PlLaw
open Go.RowKit Go.Proofs.YthlgcibckakhbaaGreatDoorW.PrintWords Go.Proofs.YthlgcibckakhbaaGreatDoor.Pl

theorem cells_of {cs : Array Value} {l : List Value} (h : cs.toList = l) : cs = l.toArray := by
 cases cs
 simpa using h
end Go.Proofs.YthlgcibckakhbaaGreatDoor.PlLaw

/- PlanReadies, at what came in. -/
namespace Go.Proofs.YthlgcibckakhbaaGreatDoor.PlLaw
open Go.RowKit Go.Proofs.YthlgcibckakhbaaGreatDoorW.PrintWords Go.Proofs.YthlgcibckakhbaaGreatDoor.Pl

theorem walkReadies (cs0 : Array Value) (a0 : Def) (A1 : Option Addr) (c1 : Nat) (a1 : List Int) (w : World) (hK0 : Opening.DefK w a0 cs0.toList) (w0 : Opening.DefT a0) (_ : a1.length ≤ c1) (hC1 : Kd.C (Kd.int .i64) w A1 a1.length a1)
 (w1 : (∀ x ∈ a1, (Lit.int .i64 x).wf = true) ∧ a1.length * Tryz.prog.bytesOf 3 ≤ reachBytes) (hT : PlName.TabsAt w) :
 Calls Tryz.prog 4 #[.agg cs0, .slice A1 a1.length c1] w fun e w' => e = .returned (.bool true) ∧ Below w.heap.size w w' := by
 obtain ⟨A, c, e, hc, hS⟩ := hK0
 obtain rfl := cells_of e
 have h3 := w0.2.2
 have h8 := w1.2
 rw [Opening.bytes3] at h8
 unfold reachBytes at h8
 exact planReadies_calls a0.name a0.steps A c A1 c1 a1 w w0.1 hS w0.all (by omega) hc hT w0.tight hC1 (by omega)
end Go.Proofs.YthlgcibckakhbaaGreatDoor.PlLaw

/- The tables of unicode/utf8, as the row lists them. -/
namespace Go.Proofs.YthlgcibckakhbaaGreatDoor.Pl
open Go.RowKit Go.Lib

abbrev laids : List (String × DataW Unit) := [("unicode/utf8.acceptRanges", Rows.laid_unicode_utf8_acceptRanges), ("unicode/utf8.first", Rows.laid_unicode_utf8_first)]
theorem u8extra : U8Extra Tryz.prog Tryz.lays260_ren := ⟨by kernel_rfl, by kernel_rfl, by kernel_rfl, by kernel_rfl, by kernel_rfl, by kernel_rfl, by kernel_rfl⟩
theorem tabs_laid {W : World} (h : laidMetH Tryz.prog laids W) : PlName.TabsAt W := by
 rw [MakeChecks.laidMetH_plain _ _ _ (by kernel_rfl)] at h
 have h4 := laidMet.reads h (n := "unicode/utf8.acceptRanges") (d := Rows.laid_unicode_utf8_acceptRanges) (List.mem_cons_self)
 have h3 := laidMet.reads h (n := "unicode/utf8.first") (d := Rows.laid_unicode_utf8_first) (List.mem_cons_of_mem _ List.mem_cons_self)
 rw [show Rows.laid_unicode_utf8_acceptRanges = acceptData by kernel_rfl] at h4
 rw [show Rows.laid_unicode_utf8_first = firstData by kernel_rfl] at h3
 exact utf8Tabs_of_reads Tryz.lays260 u8extra h3 h4
theorem door_met (os : Os) (args : Array Value) : laidMetH Tryz.prog laids ((World.laidAll Tryz.prog os laids).forCall (fun _ _ => 0) ⟨#[], args, []⟩).memory := by
 rw [MakeChecks.laidMetH_plain _ _ _ (by kernel_rfl)]
 exact laidMet_laidAll _ (by kernel_rfl) (by kernel_rfl)
theorem own : ownKnob Tryz.prog.godebug = none := by kernel_rfl
theorem laidOut : laidOutB Tryz.prog = true := by kernel_rfl
end Go.Proofs.YthlgcibckakhbaaGreatDoor.Pl

/- The row of the law PlanReadies, out of its walk. -/
namespace Go.Proofs.YthlgcibckakhbaaGreatDoor.planReadies
open Go.ChangeShapes Go.WideShapes Go.ChangeAt Go.RowKit
open Go.ChangeMaps (open_string shut_string)
theorem laidOut : laidOutB Tryz.prog = true := Pl.laidOut
set_option maxRecDepth 100000 in
theorem lifted (os : Os) (started : os.Started) (H : Type) (enc : TypeId × Value → H) :
 ReturnsInHanded {} Tryz.checked os 4 .any (fun w args => (Rows.planReadiesSpec.pre enc Tryz.prog Tryz.f4 Rows.planReadiesRow.domain false w args ∧ laidMetH Tryz.prog Pl.laids w) ∧ sizedMet enc Tryz.prog Tryz.f4 (OpenSpec.ofChange Rows.planReadiesSpec) false w args) (Rows.planReadiesSpec.post enc Tryz.prog Tryz.f4 false true false false) := by
 refine returnsInHanded_of_change_and (C := Tryz.checked) (X := fun w _ => laidMetH Tryz.prog Pl.laids w) (fun _ _ _ hh h => h.of_heap hh) Pl.own started (by kernel_rfl) Tryz.func4
  (ChangeSpec.witness_shaped (enc := enc) (C := Tryz.checked) (os := os) (X := fun w _ => laidMetH Tryz.prog Pl.laids w) false (World.laidAll Tryz.prog os Pl.laids) #[.agg #[(.string ByteArray.empty), (.slice none 0 0)], .slice none 0 0] 8 (World.laidAll_os _ _ _) (World.shaped_of_ZipB (by kernel_rfl) (by kernel_rfl)) (by kernel_rfl) (by kernel_rfl) (by kernel_rfl) (Pl.door_met os _)) ?_
 intro W base args ds gs before hval0 hW hcnd hsz0 hL _
 have hsz : (DataW.weightsEach Tryz.prog (Tryz.f4.params.toList ++ Rows.planReadiesSpec.plain.varTypes Tryz.prog) (ds ++ gs)).all (· ≤ reachBytes) = true := hsz0
 have hval : ∀ (j : Nat) t v, Tryz.f4.params[j]? = some t → args[j]? = some v → Value.okWide Tryz.prog W .any base t v := hval0
 have hW' := hW
 obtain ⟨p, q, hA0, hV, rfl, hfz, hnd⟩ := hW
 have hA : DataW.TrodAll enc Tryz.prog W 0 (fun _ => true) true Tryz.f4.params.toList args.toList ds p := hA0
 rw [Tryz.params4] at hA hval hsz
 obtain ⟨v0, vs0, d0, ds0, p0, q0, hargs, rfl, rfl, h0, r0⟩ := trodAll_cons hA
 obtain ⟨v1, vs1, d1, ds1, p1, q1, rfl, rfl, rfl, h1, r1⟩ := trodAll_cons r0
 obtain ⟨rfl, rfl, rfl⟩ := trodAll_nil r1
 obtain rfl : args = #[v0, v1] := by cases args; simp_all
 obtain ⟨rfl, rfl⟩ := trodVars_none hV
 have k0 := h0
 have lt0 : ∀ x ∈ p0, x.block < W.heap.size := by obtain ⟨m, hm⟩ := k0; exact DataW.trod_lt m _ _ _ hm
 obtain ⟨cs0, rfl, hs0⟩ := okWide_struct Tryz.underlying24 (hval 0 24 v0 rfl rfl)
 obtain ⟨a0, hK0, w0⟩ := Opening.openedK Opening.opens_DefT hsz (j := 0) (t := 24) rfl rfl h0
 have k1 := h1
 have lt1 : ∀ x ∈ p1, x.block < W.heap.size := by obtain ⟨m, hm⟩ := k1; exact DataW.trod_lt m _ _ _ hm
 obtain ⟨A1, n1, c1, rfl⟩ := okWide_slice Tryz.underlying26 (hval 1 26 v1 rfl rfl)
 obtain ⟨a1, rfl, hl1, hC1, w1⟩ := Opening.opened_slice (Opening.opens_slice Tryz.underlying26 (by kernel_rfl) (Opening.opens_int (k := .i64) Tryz.underlying3)) hsz (j := 1) (t := 26) rfl rfl h1
 clear hA0 hval0 hsz0 hsz
 refine (PlLaw.walkReadies cs0 a0 A1 c1 a1 W hK0 w0 hl1 hC1 w1 (Pl.tabs_laid hL)).mono fun e W' ⟨he, bel⟩ => ?_
 subst he
 exact ⟨_, rfl, _, _, _, [], _, [], hW', trodAll_mk1 (shut_bool Tryz.underlying4 _), (trodAll_cons_mk (Below.trod laidOut (by kernel_rfl) (of_decide_eq_true (by kernel_rfl)) k0 bel lt0) (trodAll_cons_mk (Below.trod laidOut (by kernel_rfl) (of_decide_eq_true (by kernel_rfl)) k1 bel lt1) trodAll_mk0)), rfl, bel.frame _, fun h => by cases h⟩
theorem over : Rows.planReadiesRow.holds Tryz.pinned (OpenSpec.ofChange Rows.planReadiesSpec) :=
 OpenClaim.holds_of_wide 4 Tryz.f4 rfl rfl rfl rfl rfl rfl rfl ⟨rfl, rfl, rfl, rfl, rfl⟩ rfl rfl rfl rfl rfl (by kernel_rfl) Tryz.func4 (by kernel_rfl)
  (of_decide_eq_true (by kernel_rfl)) (by unfold Func.isWrapper; first | (rw [if_pos (by decide +kernel)]; kernel_rfl) | (rw [if_neg (by decide +kernel)]; exact ⟨rfl, rfl⟩))
  (fun os started H enc _ => lifted os started H enc)
theorem proved : Rows.PlanReadiesSaid := over
#print axioms proved
end Go.Proofs.YthlgcibckakhbaaGreatDoor.planReadies
namespace Go.Proofs.YthlgcibckakhbaaGreatDoor
theorem planReadies_row : Rows.PlanReadiesSaid := planReadies.proved
/-- The tied card, under a short name, for the claim. -/
theorem planReadies_holds : Rows.PlanReadiesCardSaid :=
 Claim7.holds_tied_plain_at .later [] [.data, .pinned] true (true, "d3ea26b5b91ba6c3d29962a1dea7dd99b9c0d1544c54c02a0b068e86bed22a5b") false planReadies_row (fun _ h => by cases h) (by kernel_rfl) (fun _ h => by cases h) planReadies_row_tie rfl ⟨rfl, rfl⟩ (by kernel_rfl) rfl
  (fun f fn hf hfn => by
   obtain rfl : f = 4 := Option.some.inj ((show Tryz.prog.funcNamed "odyssey/odysseylaw12.PlanReadies" = some 4 by kernel_rfl).symm.trans hf) |>.symm
   obtain rfl : fn = Tryz.f4 := (Option.some.inj (Tryz.func4.symm.trans hfn)).symm
   exact ⟨by kernel_rfl, fun j t ht => by
    rw [Tryz.params4] at ht
    have hm : t ∈ [24, 26] := by simpa using Array.mem_of_getElem? ht
    have hall : ([24, 26].all fun u => !Tryz.prog.wantsStandIn u) = true := by kernel_rfl
    exact (show Tryz.prog.wantsStandIn t = false by simpa using List.all_eq_true.1 hall t hm)⟩)
  (by kernel_rfl)
end Go.Proofs.YthlgcibckakhbaaGreatDoor
