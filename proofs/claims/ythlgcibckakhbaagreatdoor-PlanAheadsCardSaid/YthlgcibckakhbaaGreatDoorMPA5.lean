/- Several texts in one, in build order: PlZAhead, PlOpens, PlZOpens, PlZLawAheads, PlTabs, RowPlanAheads. -/
import Derived.Test.YthlgcibckakhbaaGreatDoorMPA4
import Derived.Test.YthlgcibckakhbaaGreatDoorRows
import Derived.ProofKit
import Derived.LaidMore
import Derived.Lay
import Derived.OpenShut
import Derived.Stop.Joined
import Derived.PinnedBridge
import Derived.Lib.LaidU8
import Derived.Test.YthlgcibckakhbaaGreatDoorCards
import Derived.Test.YthlgcibckakhbaaGreatDoorTie
import Derived.SevenTiedAt
import Derived.WalkKit
import Derived.ShutString
import Derived.ChangeOld
import Derived.Below
import Derived.SizedLaws
import Derived.Carry
set_option linter.unusedVariables false
set_option linter.unusedSimpArgs false
/- odysseylaw12.PlanAheads (ZD): the walk, by hand. -/
namespace Go.Proofs.YthlgcibckakhbaaGreatDoor.Pl
open Go.RowKit Go.IntWalk Go.Proofs.YthlgcibckakhbaaGreatDoorW.PrintWords Go.Proofs.YthlgcibckakhbaaGreatDoorW.PrintLast Go.Proofs.YthlgcibckakhbaaGreatDoorW.PrintMore Go.Proofs.YthlgcibckakhbaaGreatDoor.PlName

/-- The worlds of PlanAheads. -/
structure Ah (w W : World) (nm : ByteArray) (l : List Step) (A : Option Addr) (c bq : Nat) (A2 : Option Addr) (c2 : Nat) : Prop where
 below : Below w.heap.size w W
 box : W.heap[w.heap.size]? = some (.cells #[.string nm, .slice A l.length c] 24 (0, 0))
 was : W.heap[bq]? = some (.cells #[.string nm, .slice A2 l.length c2] 24 (0, 0))
 steps : StepsAt W A2 l
theorem Ah.on {w W W2 : World} {nm : ByteArray} {l : List Step} {A : Option Addr} {c bq : Nat} {A2 : Option Addr} {c2 : Nat} (h : Ah w W nm l A c bq A2 c2) (hb : Below W.heap.size W W2) : Ah w W2 nm l A c bq A2 c2 := ⟨on_ h.below hb, row_on hb h.box, row_on hb h.was, h.steps.below hb⟩
theorem Ah.cells {w W : World} {nm : ByteArray} {l : List Step} {A : Option Addr} {c bq : Nat} {A2 : Option Addr} {c2 : Nat} (h : Ah w W nm l A c bq A2 c2) : W.cell? ⟨w.heap.size, 0, none⟩ = some (.string nm) ∧ W.cell? ⟨w.heap.size, 1, none⟩ = some (.slice A l.length c) ∧ W.cell? ⟨bq, 0, none⟩ = some (.string nm) ∧ W.cell? ⟨bq, 1, none⟩ = some (.slice A2 l.length c2) := ⟨row_cell h.box rfl, row_cell h.box rfl, row_cell h.was rfl, row_cell h.was rfl⟩
theorem aheadL_len (nm : ByteArray) (l : List Step) (i : Int) : (aheadL nm l i).length ≤ 1000 := by
 unfold aheadL
 cases hok : defOk nm l
 · simp
 · obtain ⟨_, h8, _⟩ := defOk_len hok
   split
   · have := sel_len (fun k => wars (direct l) l.length i.toNat k) l.length
     omega
   · simp
theorem behindL_len (nm : ByteArray) (l : List Step) (i : Int) : (behindL nm l i).length ≤ 1000 := by
 unfold behindL
 cases hok : defOk nm l
 · simp
 · obtain ⟨_, h8, _⟩ := defOk_len hok
   split
   · have := sel_len (fun k => wars (direct l) l.length k i.toNat) l.length
     omega
   · simp

theorem own_same2 {w0 w1 w2 w3 W : World} {v u : Value} {L : List Nat} (h : Own w0 w1 v L) (hb : Below w1.heap.size w1 W) (h2 : Own w2 w3 u L) (hb2 : Below w3.heap.size w3 W) (hl : L.length ≤ 1000) :
 Calls Tryz.prog 8 #[v, u] W fun e w' => e = .returned (.bool true) ∧ Below W.heap.size W w' := by
 obtain ⟨A, c, rfl, _, hr⟩ := own_reads h2
 have := own_same h hb (intsOf L) A c (Kd.C_below hr hb2) hl rfl
 rw [intsOf_len] at this
 exact this
/-- Behind two fillings all is as it was. -/
theorem own_apart {w0 w1 w2 : World} {v u : Value} {L M : List Nat} (h : Own w0 w1 v L) (hu : Own w1 w2 u M) : ∀ q, u.ownBlock = some q → v.ownBlock ≠ some q := fun q hq e => by
 have h1 := (hu.lt q hq).1
 have h2 := (h.lt q e).2
 omega

set_option maxHeartbeats 32000000 in
set_option maxRecDepth 100000 in
theorem planAheads_calls (nm : ByteArray) (l : List Step) (A : Option Addr) (c : Nat) (i : Int) (w : World) (hnm : nm.size ≤ 140737488351232) (hS : StepsAt w A l) (hb : ∀ s ∈ l, StepB s) (hn : l.length ≤ 9000000000000) (hc : l.length ≤ c) (hT : TabsAt w) (ht : Tight l) :
 Calls Tryz.prog 3 #[.agg #[.string nm, .slice A l.length c], .int .i64 i] w fun e w' => e = .returned (.bool true) ∧ Below w.heap.size w w' := by
 have hbb := below_one w (.cells #[.string nm, .slice A l.length c] 24)
 have hr0 := alloc1 w (.cells #[.string nm, .slice A l.length c] 24)
 have hcp := Aside0.mk (copy_calls nm l A c _ (hS.below hbb) hc ht)
 have HW := Aside0.mk (And.intro hbb hr0)
 have HA := Aside0.mk (And.intro hS (And.intro hb (And.intro hT (And.intro hc (And.intro hnm ht)))))
 clear hbb hr0 hS hb hT hc hnm ht
 go_enter Tryz.func3, Tryz.ntmps3
 go_wp2_with (first | (go_at_call 5; refine hcp.out.mono ?_; rintro e w1 ⟨⟨A2, c2, rfl, hc2, hS2⟩, hb1⟩; have H1 := Aside0.mk (And.intro (on_ HW.out.1 hb1) (And.intro (row_on hb1 HW.out.2) (And.intro hc2 hS2))); clear hc2 hS2 hb1))
 have HB0 : Aside0 (∀ W, w1.alloc (.cells #[.string nm, .slice A2 l.length c2] 24) = W → Ah w W nm l A c w1.heap.size A2 c2) := ⟨fun W hW => by
  subst hW
  exact ⟨on_ H1.out.1 (below_one _ _), row_on (below_one _ _) H1.out.2.1, alloc1 w1 _, H1.out.2.2.2.below (below_one _ _)⟩⟩
 have HC2 := Aside0.mk H1.out.2.2.1
 generalize hW : World.alloc w1 _ = w2 at *
 have HB := Aside0.mk (HB0.out _ rfl)
 generalize w1.heap.size = bq at *
 clear HB0 hW H1
 have hup := Aside0.mk (fun W (h : Below w.heap.size w W) (n : Int) => ahead_calls nm l A c n W HA.out.2.2.2.2.1 (HA.out.1.below h) HA.out.2.1 hn HA.out.2.2.2.1 (tabs_on HA.out.2.2.1 h))
 have hdn := Aside0.mk (fun W (h : Below w.heap.size w W) (n : Int) => behind_calls nm l A c n W HA.out.2.2.2.2.1 (HA.out.1.below h) HA.out.2.1 hn HA.out.2.2.2.1 (tabs_on HA.out.2.2.1 h))
 have hru := Aside0.mk (fun W (h : Ah w W nm l A c bq A2 c2) (n : Int) => refAheadL_calls nm l A2 c2 n W HA.out.2.2.2.2.1 h.steps HA.out.2.1 hn HC2.out)
 have hrd := Aside0.mk (fun W (h : Ah w W nm l A c bq A2 c2) (n : Int) => refBehindL_calls nm l A2 c2 n W HA.out.2.2.2.2.1 h.steps HA.out.2.1 hn HC2.out)
 go_loopw [6] (fun v6 wr => ∃ k : Int, -1 ≤ k ∧ k ≤ 10 ∧ v6 = .int .i64 k ∧ Ah w wr nm l A c bq A2 c2) (fun v6 _ => (10 - intOf v6).toNat)
 case atStart => exact ⟨-1, by omega, by omega, rfl, HB.out⟩
 case round =>
  obtain ⟨k, hk1, hk2, rfl, hN⟩ := hrel
  have HG := Aside0.mk hN
  obtain ⟨hp0, hp1, hp2, hp3⟩ := hN.cells
  clear HB hN
  by_cases hlk : k ≤ l.length
  · have hd1 : decide (k ≤ (l.length : Int)) = true := decide_eq_true hlk
    by_cases hk9 : k ≤ 9
    · have hd2 : decide (k ≤ 9) = true := decide_eq_true hk9
      have hcase : ∃ n : Int, (decide (k < 0) = true ∧ n = i) ∨ (decide (k < 0) = false ∧ k = n) := by
       by_cases h0 : k < 0
       · exact ⟨i, .inl ⟨decide_eq_true h0, rfl⟩⟩
       · exact ⟨k, .inr ⟨decide_eq_false h0, rfl⟩⟩
      rcases hcase with ⟨n, ⟨hd3, rfl⟩ | ⟨hd3, rfl⟩⟩
      all_goals
       go_wp2_with (first | (go_at_call 6; with_reducible refine (hup.out _ HG.out.below _).mono ?_; rintro e w3 ⟨⟨va, rfl, ho⟩, hb3⟩; have H3 := Aside0.mk (And.intro (HG.out.on hb3) (And.intro ho hb3)); clear ho hb3 hp0 hp1 hp2 hp3; obtain ⟨hp0, hp1, hp2, hp3⟩ := H3.out.1.cells) | (go_at_call 7; with_reducible refine (hdn.out _ H3.out.1.below _).mono ?_; rintro e w4 ⟨⟨vb, rfl, ho⟩, hb4⟩; have H4 := Aside0.mk (And.intro (H3.out.1.on hb4) (And.intro ho (And.intro hb4 (on_ H3.out.2.2 hb4)))); clear ho hb4 hp0 hp1 hp2 hp3; obtain ⟨hp0, hp1, hp2, hp3⟩ := H4.out.1.cells) | (go_at_call 9; with_reducible refine (hru.out _ H4.out.1 _).mono ?_; rintro e w5 ⟨⟨vc, rfl, ho⟩, hb5⟩; have H5 := Aside0.mk (And.intro (H4.out.1.on hb5) (And.intro ho hb5)); clear ho hb5 hp0 hp1 hp2 hp3; obtain ⟨hp0, hp1, hp2, hp3⟩ := H5.out.1.cells) | (go_at_call 10; with_reducible refine (hrd.out _ H6.out.1 _).mono ?_; rintro e w7 ⟨⟨vd, rfl, ho⟩, hb7⟩; have H7 := Aside0.mk (And.intro (H6.out.1.on hb7) (And.intro ho hb7)); clear ho hb7 hp0 hp1 hp2 hp3; obtain ⟨hp0, hp1, hp2, hp3⟩ := H7.out.1.cells) | (go_at_call 8; with_reducible refine (own_same2 H4.out.2.1 (on_ H5.out.2.2 (on_ H6.out.2 H7.out.2.2)) H7.out.2.1 (Below.refl _ _) (behindL_len nm l _)).mono ?_; rintro e w8 ⟨rfl, hb8⟩; have H8 := Aside0.mk (And.intro (H7.out.1.on hb8) (And.intro (on_ H4.out.2.2.2 (on_ H5.out.2.2 (on_ H6.out.2 (on_ H7.out.2.2 hb8)))) hb8)); clear hb8) | (go_at_call 8; with_reducible refine (own_same2 H3.out.2.1 (on_ H4.out.2.2.1 H5.out.2.2) H5.out.2.1 (Below.refl _ _) (aheadL_len nm l _)).mono ?_; rintro e w6 ⟨rfl, hb6⟩; have H6 := Aside0.mk (And.intro (H5.out.1.on hb6) hb6); clear hb6 hp0 hp1 hp2 hp3; obtain ⟨hp0, hp1, hp2, hp3⟩ := H6.out.1.cells))
       have ho9 := ownsRow_on H3.out.2.1 (on_ H4.out.2.2.1 (on_ H5.out.2.2 (on_ H6.out.2 (on_ H7.out.2.2 H8.out.2.2))))
       have ho8 := H8.out.2.1
       refine (filled_calls ho9 ho8 (aheadL_len nm l _)).mono ?_
       rintro e w9 ⟨rfl, hb9, hc9⟩
       have H9 := Aside0.mk (And.intro (ownsRow_chg (ownsRow_on (H4.out.2.1.low H3.out.2.2.size) (on_ H5.out.2.2 (on_ H6.out.2 (on_ H7.out.2.2 H8.out.2.2)))) hc9 (own_apart H3.out.2.1 H4.out.2.1)) hb9)
       clear hb9 hc9
       go_wp2_with (first | (go_at_call 11; refine (filled_calls H9.out.1 H9.out.2 (behindL_len nm l _)).mono ?_; rintro e w10 ⟨rfl, hb10, _⟩; have H10 := Aside0.mk (HG.out.on hb10); clear hb10))
       go_roundw
       case rel => exact ⟨k + 1, by omega, by omega, by go_num, H10.out⟩
       case measure => simp [intOf]; omega
    · have hd2 : decide (k ≤ 9) = false := decide_eq_false hk9
      go_wp2_with (first | (go_at_call 12; refine (live_calls _ (tabs_on HA.out.2.2.1 HG.out.below)).mono ?_; rintro e w3 ⟨rfl, hb3⟩; have H3 := Aside0.mk (HG.out.on hb3); clear hb3 hp0 hp1 hp2 hp3; obtain ⟨hp0, hp1, hp2, hp3⟩ := H3.out.cells) | (go_at_call 13; refine (same10_calls nm l A c A2 c2 _ (HA.out.1.below H3.out.below) H3.out.steps HA.out.2.1 hn).mono ?_; rintro e w4 ⟨rfl, hb4⟩; have H4 := Aside0.mk (on_ H3.out.below hb4); clear hb4))
      go_ret
      exact ⟨rfl, H4.out⟩
  · have hd1 : decide (k ≤ (l.length : Int)) = false := decide_eq_false hlk
    go_wp2_with (first | (go_at_call 12; refine (live_calls _ (tabs_on HA.out.2.2.1 HG.out.below)).mono ?_; rintro e w3 ⟨rfl, hb3⟩; have H3 := Aside0.mk (HG.out.on hb3); clear hb3 hp0 hp1 hp2 hp3; obtain ⟨hp0, hp1, hp2, hp3⟩ := H3.out.cells) | (go_at_call 13; refine (same10_calls nm l A c A2 c2 _ (HA.out.1.below H3.out.below) H3.out.steps HA.out.2.1 hn).mono ?_; rintro e w4 ⟨rfl, hb4⟩; have H4 := Aside0.mk (on_ H3.out.below hb4); clear hb4))
    go_ret
    exact ⟨rfl, H4.out⟩
end Go.Proofs.YthlgcibckakhbaaGreatDoor.Pl

/- A definition that came in, read as plain data. -/
namespace Go.Proofs.YthlgcibckakhbaaGreatDoor.Opening
open Go.ChangeShapes Go.WideShapes Go.RowKit Go.Proofs.YthlgcibckakhbaaGreatDoorW.PrintWords Go.Proofs.YthlgcibckakhbaaGreatDoor.Pl

def DefK (w : World) (d : Def) (cs : List Value) : Prop := ∃ A c, cs = [.string d.name, .slice A d.steps.length c] ∧ d.steps.length ≤ c ∧ StepsAt w A d.steps
theorem bytes9 : Tryz.prog.bytesOf 9 = 16 := by kernel_rfl
theorem bytes3 : Tryz.prog.bytesOf 3 = 8 := by kernel_rfl
theorem bytes35 : Tryz.prog.bytesOf 37 = 80 := by kernel_rfl
end Go.Proofs.YthlgcibckakhbaaGreatDoor.Opening

/- A definition that came in, read as plain data, with memory's bounds. -/
namespace Go.Proofs.YthlgcibckakhbaaGreatDoor.Opening
open Go.ChangeShapes Go.WideShapes Go.RowKit Go.Proofs.YthlgcibckakhbaaGreatDoorW.PrintWords Go.Proofs.YthlgcibckakhbaaGreatDoor.Pl

def StepT (s : Step) : Prop := StepB s ∧ s.keys.length < 8796093022208 ∧ s.needs.length < 17592186044416
def DefT (d : Def) : Prop := d.name.size ≤ 140737488351232 ∧ (∀ s ∈ d.steps, StepT s) ∧ d.steps.length ≤ 1759218604390
theorem DefT.tight {d : Def} (h : DefT d) : Tight d.steps := ⟨fun s hs => (h.2.1 s hs).2, h.2.2⟩
theorem DefT.all {d : Def} (h : DefT d) : ∀ s ∈ d.steps, StepB s := fun s hs => (h.2.1 s hs).1
set_option maxRecDepth 100000 in
theorem opens_StepT : OpensK Tryz.prog 37 StepK StepT := by
 refine ⟨fun enc w fuel cs x h hz => ?_⟩
 obtain ⟨hl, hf⟩ := fields Tryz.underlying37 h hz
 obtain ⟨a0, k0, b0⟩ := hf 0 _ rfl (.of (opens_string Tryz.underlying9))
 obtain ⟨a1, k1, b1⟩ := hf 1 _ rfl (.of (opens_int (k := .i64) Tryz.underlying3))
 obtain ⟨a2, k2, b2⟩ := hf 2 _ rfl (.of (opens_int (k := .i64) Tryz.underlying3))
 obtain ⟨a3, k3, b3⟩ := hf 3 _ rfl (.of (opens_slice Tryz.underlying35 (by kernel_rfl) (opens_string Tryz.underlying9)))
 obtain ⟨a4, k4, b4⟩ := hf 4 _ rfl (.of (opens_slice Tryz.underlying26 (by kernel_rfl) (opens_int (k := .i64) Tryz.underlying3)))
 have hn : cs.length = 5 := hl.trans (by kernel_rfl)
 obtain ⟨c0, r0, rfl, n0⟩ := cons_len hn
 obtain ⟨c1, r1, rfl, n1⟩ := cons_len n0
 obtain ⟨c2, r2, rfl, n2⟩ := cons_len n1
 obtain ⟨c3, r3, rfl, n3⟩ := cons_len n2
 obtain ⟨c4, r4, rfl, n4⟩ := cons_len n3
 obtain rfl := List.eq_nil_of_length_eq_zero n4
 replace k0 : [c0] = [.string a0] := k0
 cases k0
 replace k1 : [c1] = [.int .i64 a1] := k1
 cases k1
 replace k2 : [c2] = [.int .i64 a2] := k2
 cases k2
 obtain ⟨A3, d3, k3, hc3, hC3⟩ := k3
 replace k3 : [c3] = [.slice A3 a3.length d3] := k3
 cases k3
 obtain ⟨A4, d4, k4, hc4, hC4⟩ := k4
 replace k4 : [c4] = [.slice A4 a4.length d4] := k4
 cases k4
 refine ⟨⟨a0, a1, a2, a3, a4⟩, ⟨A3, d3, A4, d4, rfl, hc3, hC3, hc4, hC4⟩, ⟨⟨b0, b1, b2, ⟨b3.1, ?_⟩, ⟨b4.1, ?_⟩⟩, ?_, ?_⟩⟩
 · have := b3.2
   rw [bytes9] at this
   unfold reachBytes at this
   show a3.length ≤ _
   omega
 · have := b4.2
   rw [bytes3] at this
   unfold reachBytes at this
   show a4.length ≤ _
   omega
 · have := b3.2
   rw [bytes9] at this
   unfold reachBytes at this
   show a3.length < _
   omega
 · have := b4.2
   rw [bytes3] at this
   unfold reachBytes at this
   show a4.length < _
   omega
set_option maxRecDepth 100000 in
theorem opens_DefT : OpensK Tryz.prog 24 DefK DefT := by
 refine ⟨fun enc w fuel cs x h hz => ?_⟩
 obtain ⟨hl, hf⟩ := fields Tryz.underlying24 h hz
 obtain ⟨a0, k0, b0⟩ := hf 0 _ rfl (.of (opens_string Tryz.underlying9))
 obtain ⟨a1, k1, b1⟩ := hf 1 _ rfl (K := fun w (l : List Step) cs => ∃ A c, cs = [.slice A l.length c] ∧ l.length ≤ c ∧ StepsAt w A l) (B := fun l => (∀ s ∈ l, StepT s) ∧ l.length * Tryz.prog.bytesOf 37 ≤ reachBytes) ⟨fun enc w fuel cs x hx hz => by
  obtain ⟨A, c, l, e, h1, h2, h3, h4⟩ := opensK_slice (sz := 5) Tryz.underlying22 (by kernel_rfl) opens_StepT hx hz
  exact ⟨l, ⟨A, c, e, h1, h2⟩, h3, h4⟩⟩
 have hn : cs.length = 2 := hl.trans (by kernel_rfl)
 obtain ⟨c0, r0, rfl, n0⟩ := cons_len hn
 obtain ⟨c1, r1, rfl, n1⟩ := cons_len n0
 obtain rfl := List.eq_nil_of_length_eq_zero n1
 replace k0 : [c0] = [.string a0] := k0
 cases k0
 obtain ⟨A1, d1, k1, hc1, hC1⟩ := k1
 replace k1 : [c1] = [.slice A1 a1.length d1] := k1
 cases k1
 refine ⟨⟨a0, a1⟩, ⟨A1, d1, rfl, hc1, hC1⟩, b0, b1.1, ?_⟩
 have := b1.2
 rw [bytes35] at this
 unfold reachBytes at this
 show a1.length ≤ _
 omega
end Go.Proofs.YthlgcibckakhbaaGreatDoor.Opening

/- PlanAheads, at what came in. -/
namespace Go.Proofs.YthlgcibckakhbaaGreatDoor.PlLaw
open Go.RowKit Go.Proofs.YthlgcibckakhbaaGreatDoorW.PrintWords Go.Proofs.YthlgcibckakhbaaGreatDoor.Pl

theorem cells_of {cs : Array Value} {l : List Value} (h : cs.toList = l) : cs = l.toArray := by
 cases cs
 simpa using h
theorem walkAheads (cs0 : Array Value) (a0 : Def) (a1 : Int) (w : World) (hK0 : Opening.DefK w a0 cs0.toList) (w0 : Opening.DefT a0) (_ : (Lit.int .i64 a1).wf = true) (hT : PlName.TabsAt w) :
 Calls Tryz.prog 3 #[.agg cs0, .int .i64 a1] w fun e w' => e = .returned (.bool true) ∧ Below w.heap.size w w' := by
 obtain ⟨A, c, e, hc, hS⟩ := hK0
 obtain rfl := cells_of e
 have h3 := w0.2.2
 exact planAheads_calls a0.name a0.steps A c a1 w w0.1 hS w0.all (by omega) hc hT w0.tight
end Go.Proofs.YthlgcibckakhbaaGreatDoor.PlLaw

/- The tables of unicode/utf8, as the row lists them. -/
namespace Go.Proofs.YthlgcibckakhbaaGreatDoor.Pl
open Go.RowKit Go.Lib

abbrev laids : List (String × DataW Unit) := [("unicode/utf8.acceptRanges", Rows.laid_unicode_utf8_acceptRanges), ("unicode/utf8.first", Rows.laid_unicode_utf8_first)]
theorem u8extra : U8Extra Tryz.prog Tryz.lays260_ren := ⟨by kernel_rfl, by kernel_rfl, by kernel_rfl, by kernel_rfl, by kernel_rfl, by kernel_rfl, by kernel_rfl⟩
theorem tabs_laid {W : World} (h : laidMetH Tryz.prog laids W) : PlName.TabsAt W := by
 rw [MakeChecks.laidMetH_plain _ _ _ (by kernel_rfl)] at h
 have h4 := laidMet.reads h (n := "unicode/utf8.acceptRanges") (d := Rows.laid_unicode_utf8_acceptRanges) (List.mem_cons_self)
 have h3 := laidMet.reads h (n := "unicode/utf8.first") (d := Rows.laid_unicode_utf8_first) (List.mem_cons_of_mem _ List.mem_cons_self)
 rw [show Rows.laid_unicode_utf8_acceptRanges = acceptData by kernel_rfl] at h4
 rw [show Rows.laid_unicode_utf8_first = firstData by kernel_rfl] at h3
 exact utf8Tabs_of_reads Tryz.lays260 u8extra h3 h4
theorem door_met (os : Os) (args : Array Value) : laidMetH Tryz.prog laids ((World.laidAll Tryz.prog os laids).forCall (fun _ _ => 0) ⟨#[], args, []⟩).memory := by
 rw [MakeChecks.laidMetH_plain _ _ _ (by kernel_rfl)]
 exact laidMet_laidAll _ (by kernel_rfl) (by kernel_rfl)
theorem own : ownKnob Tryz.prog.godebug = none := by kernel_rfl
theorem laidOut : laidOutB Tryz.prog = true := by kernel_rfl
end Go.Proofs.YthlgcibckakhbaaGreatDoor.Pl

/- The row of the law PlanAheads, out of its walk. -/
namespace Go.Proofs.YthlgcibckakhbaaGreatDoor.planAheads
open Go.ChangeShapes Go.WideShapes Go.ChangeAt Go.RowKit
open Go.ChangeMaps (open_string shut_string)
theorem laidOut : laidOutB Tryz.prog = true := Pl.laidOut
set_option maxRecDepth 100000 in
theorem lifted (os : Os) (started : os.Started) (H : Type) (enc : TypeId × Value → H) :
 ReturnsInHanded {} Tryz.checked os 3 .any (fun w args => (Rows.planAheadsSpec.pre enc Tryz.prog Tryz.f3 Rows.planAheadsRow.domain false w args ∧ laidMetH Tryz.prog Pl.laids w) ∧ sizedMet enc Tryz.prog Tryz.f3 (OpenSpec.ofChange Rows.planAheadsSpec) false w args) (Rows.planAheadsSpec.post enc Tryz.prog Tryz.f3 false true false false) := by
 refine returnsInHanded_of_change_and (C := Tryz.checked) (X := fun w _ => laidMetH Tryz.prog Pl.laids w) (fun _ _ _ hh h => h.of_heap hh) Pl.own started (by kernel_rfl) Tryz.func3
  (ChangeSpec.witness_shaped (enc := enc) (C := Tryz.checked) (os := os) (X := fun w _ => laidMetH Tryz.prog Pl.laids w) false (World.laidAll Tryz.prog os Pl.laids) #[.agg #[(.string ByteArray.empty), (.slice none 0 0)], .int .i64 0] 8 (World.laidAll_os _ _ _) (World.shaped_of_ZipB (by kernel_rfl) (by kernel_rfl)) (by kernel_rfl) (by kernel_rfl) (by kernel_rfl) (Pl.door_met os _)) ?_
 intro W base args ds gs before hval0 hW hcnd hsz0 hL _
 have hsz : (DataW.weightsEach Tryz.prog (Tryz.f3.params.toList ++ Rows.planAheadsSpec.plain.varTypes Tryz.prog) (ds ++ gs)).all (· ≤ reachBytes) = true := hsz0
 have hval : ∀ (j : Nat) t v, Tryz.f3.params[j]? = some t → args[j]? = some v → Value.okWide Tryz.prog W .any base t v := hval0
 have hW' := hW
 obtain ⟨p, q, hA0, hV, rfl, hfz, hnd⟩ := hW
 have hA : DataW.TrodAll enc Tryz.prog W 0 (fun _ => true) true Tryz.f3.params.toList args.toList ds p := hA0
 rw [Tryz.params3] at hA hval hsz
 obtain ⟨v0, vs0, d0, ds0, p0, q0, hargs, rfl, rfl, h0, r0⟩ := trodAll_cons hA
 obtain ⟨v1, vs1, d1, ds1, p1, q1, rfl, rfl, rfl, h1, r1⟩ := trodAll_cons r0
 obtain ⟨rfl, rfl, rfl⟩ := trodAll_nil r1
 obtain rfl : args = #[v0, v1] := by cases args; simp_all
 obtain ⟨rfl, rfl⟩ := trodVars_none hV
 have k0 := h0
 have lt0 : ∀ x ∈ p0, x.block < W.heap.size := by obtain ⟨m, hm⟩ := k0; exact DataW.trod_lt m _ _ _ hm
 obtain ⟨cs0, rfl, hs0⟩ := okWide_struct Tryz.underlying24 (hval 0 24 v0 rfl rfl)
 obtain ⟨a0, hK0, w0⟩ := Opening.openedK Opening.opens_DefT hsz (j := 0) (t := 24) rfl rfl h0
 obtain ⟨a1, rfl, rfl, rfl, w1⟩ := open_int Tryz.underlying3 (hval 1 3 v1 rfl rfl) h1
 clear hA0 hval0 hsz0 hsz
 refine (PlLaw.walkAheads cs0 a0 a1 W hK0 w0 w1 (Pl.tabs_laid hL)).mono fun e W' ⟨he, bel⟩ => ?_
 subst he
 exact ⟨_, rfl, _, _, _, [], _, [], hW', trodAll_mk1 (shut_bool Tryz.underlying4 _), (trodAll_cons_mk (Below.trod laidOut (by kernel_rfl) (of_decide_eq_true (by kernel_rfl)) k0 bel lt0) (trodAll_cons_mk (shut_int Tryz.underlying3 w1) trodAll_mk0)), rfl, bel.frame _, fun h => by cases h⟩
theorem over : Rows.planAheadsRow.holds Tryz.pinned (OpenSpec.ofChange Rows.planAheadsSpec) :=
 OpenClaim.holds_of_wide 3 Tryz.f3 rfl rfl rfl rfl rfl rfl rfl ⟨rfl, rfl, rfl, rfl, rfl⟩ rfl rfl rfl rfl rfl (by kernel_rfl) Tryz.func3 (by kernel_rfl)
  (of_decide_eq_true (by kernel_rfl)) (by unfold Func.isWrapper; first | (rw [if_pos (by decide +kernel)]; kernel_rfl) | (rw [if_neg (by decide +kernel)]; exact ⟨rfl, rfl⟩))
  (fun os started H enc _ => lifted os started H enc)
theorem proved : Rows.PlanAheadsSaid := over
#print axioms proved
end Go.Proofs.YthlgcibckakhbaaGreatDoor.planAheads
namespace Go.Proofs.YthlgcibckakhbaaGreatDoor
theorem planAheads_row : Rows.PlanAheadsSaid := planAheads.proved
/-- The tied card, under a short name, for the claim. -/
theorem planAheads_holds : Rows.PlanAheadsCardSaid :=
 Claim7.holds_tied_plain_at .later [] [.data, .pinned] true (true, "d3ea26b5b91ba6c3d29962a1dea7dd99b9c0d1544c54c02a0b068e86bed22a5b") false planAheads_row (fun _ h => by cases h) (by kernel_rfl) (fun _ h => by cases h) planAheads_row_tie rfl ⟨rfl, rfl⟩ (by kernel_rfl) rfl
  (fun f fn hf hfn => by
   obtain rfl : f = 3 := Option.some.inj ((show Tryz.prog.funcNamed "odyssey/odysseylaw12.PlanAheads" = some 3 by kernel_rfl).symm.trans hf) |>.symm
   obtain rfl : fn = Tryz.f3 := (Option.some.inj (Tryz.func3.symm.trans hfn)).symm
   exact ⟨by kernel_rfl, fun j t ht => by
    rw [Tryz.params3] at ht
    have hm : t ∈ [24, 3] := by simpa using Array.mem_of_getElem? ht
    have hall : ([24, 3].all fun u => !Tryz.prog.wantsStandIn u) = true := by kernel_rfl
    exact (show Tryz.prog.wantsStandIn t = false by simpa using List.all_eq_true.1 hall t hm)⟩)
  (by kernel_rfl)
end Go.Proofs.YthlgcibckakhbaaGreatDoor
