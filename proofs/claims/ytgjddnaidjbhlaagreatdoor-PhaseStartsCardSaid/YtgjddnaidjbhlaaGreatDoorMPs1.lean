/- Several texts in one, in build order: PlAhead, PlSeq, PlOrd, PlOrder, PlApp, PlIter, PhBack, PPhaseStartsx0, PPhaseStartsx1, PPhaseStartsx2, PPhaseStartsx3, PlRefIs, PlRef01, PlSort, PlOrdered, PlTold, PlAnswers, PlRKeys. -/
import Derived.Test.YtgjddnaidjbhlaaGreatDoorMPs0
import Derived.RangeFuncWrites
import Derived.RangeFuncLeaves
import Derived.RangeFuncCalls
import Derived.Shelf.Abstract
import Derived.OwnWalkIn
import Derived.TacticsInMore
import Derived.LoopNIn
import Derived.LoopIn
import Derived.Test.YtgjddnaidjbhlaaGreatDoorProg
import Derived.Below
import Derived.Deep.Draws
import Derived.Deep.AppendLies
import Derived.Maps.AppendAt
import Derived.OwnWalk
import Derived.Laws.BytesArg
import Derived.Laws.MakeOwn
import Derived.Laws.OwnMore
import Derived.Deep.OwnRows
import Derived.Tactics
import Derived.Lib.ConvBytes
import Derived.Laws.Slices
import Derived.WalkKit
import Derived.KernelRfl
import Derived.RowKit3
import Derived.Deep.LoopGhost
import Derived.Deep.QuietTactic
import Derived.BigQuiet
import Derived.WideLaws
import Derived.Deep.DeepCutAuto
import Derived.Deep.CutBlock
import Derived.Deep.RegionHeld3
import Derived.Laws.Rows
import Derived.Lib.AppendStr
import Derived.ArgAppend
import Derived.Laws.IdiomCopy
import Derived.OrdersHeld
import Derived.Laws.BitsLemmas
import Derived.RowKit
import Derived.Test.YtgjddnaidjbhlaaGreatDoorMPsWWords
import Derived.Test.YtgjddnaidjbhlaaGreatDoorMPsWLast
import Derived.Test.YtgjddnaidjbhlaaGreatDoorMPsWTab
import Derived.Test.YtgjddnaidjbhlaaGreatDoorMPsWApart
import Derived.Test.YtgjddnaidjbhlaaGreatDoorMPsWArr
import Derived.Test.YtgjddnaidjbhlaaGreatDoorMPsWFoot
import Derived.Test.YtgjddnaidjbhlaaGreatDoorMPsWKept
import Derived.Test.YtgjddnaidjbhlaaGreatDoorMPsWShare
import Derived.Test.YtgjddnaidjbhlaaGreatDoorMPsWN
import Derived.Test.YtgjddnaidjbhlaaGreatDoorMPsWEqStruct
import Derived.Test.YtgjddnaidjbhlaaGreatDoorMPsWRepsOne
import Derived.Test.YtgjddnaidjbhlaaGreatDoorMPsWInv
import Derived.Test.YtgjddnaidjbhlaaGreatDoorMPsWInvWords
import Derived.Test.YtgjddnaidjbhlaaGreatDoorMPsWMore
set_option linter.unusedVariables false
set_option linter.unusedSimpArgs false
/- plan.Ahead, plan.Behind: the walks, by hand. -/
namespace Go.Proofs.YtgjddnaidjbhlaaGreatDoor.Pl
open Go.RowKit Go.IntWalk Go.Proofs.YtgjddnaidjbhlaaGreatDoorW.PrintWords Go.Proofs.YtgjddnaidjbhlaaGreatDoorW.PrintLast Go.Proofs.YtgjddnaidjbhlaaGreatDoorW.PrintMore Go.Proofs.YtgjddnaidjbhlaaGreatDoor.PlName

/-- A graph that two boxes lead to. -/
structure GrB (w : World) (lo bg bi gg : Nat) (ga cap : Nat) (vs : Value) (rb : Nat → Nat) (n : Nat) (M : Nat → Nat → Bool) (i : Int) : Prop where
 gr : Gr w lo gg (.slice (some ⟨ga, 0, none⟩) n cap) vs rb n n M
 bg_ : w.heap[bg]? = some (.cells #[.pointer (some ⟨gg, 0, none⟩)] 127 (0, 0))
 bi_ : w.heap[bi]? = some (.cells #[.int .i64 i] 3 (0, 0))
section
variable {w w' : World} {lo bg bi gg ga cap : Nat} {vs : Value} {rb : Nat → Nat} {n : Nat} {M : Nat → Nat → Bool} {i : Int}
theorem GrB.on (h : GrB w lo bg bi gg ga cap vs rb n M i) (hb : Below w.heap.size w w') : GrB w' lo bg bi gg ga cap vs rb n M i :=
 ⟨h.gr.on hb, row_on hb h.bg_, row_on hb h.bi_⟩
theorem GrB.keep {i : Nat} (h : GrB w lo bg bi gg ga cap vs rb n M (i : Int)) : w.cell? ⟨bg, 0, none⟩ = some (.pointer (some ⟨gg, 0, none⟩)) ∧ w.cell? ⟨bi, 0, none⟩ = some (.int .i64 (i : Int)) ∧ w.cell? ⟨gg, 0, none⟩ = some (.slice (some ⟨ga, 0, none⟩) n cap) :=
 ⟨row_cell h.bg_ rfl, row_cell h.bi_ rfl, row_cell h.gr.box rfl⟩

set_option maxHeartbeats 4000000 in
set_option maxRecDepth 100000 in
theorem ahead1_calls {i k : Nat} (h : GrB w lo bg bi gg ga cap vs rb n M (i : Int)) (hi : i < n) (hk : k < n) (hn : n ≤ 1000000) :
 Calls Tryz.prog 182 #[.int .i64 (k : Int), .pointer (some ⟨bg, 0, none⟩), .pointer (some ⟨bi, 0, none⟩)] w fun e w' => e = .returned (.bool (M i k)) ∧ Below w.heap.size w w' := by
 obtain ⟨h1, h2, h3⟩ := h.keep
 have h4 := h.gr.slot hi
 have h5 := h.gr.at_ hi hk
 clear h
 generalize M i k = mm at *
 generalize rb i = ri at *
 go_enter Tryz.func182, Tryz.ntmps182
 go_wp2
 refine start_ (n := 11) (S := fun w' => w'.cell? ⟨bg, 0, none⟩ = some (.pointer (some ⟨gg, 0, none⟩)) ∧ w'.cell? ⟨bi, 0, none⟩ = some (.int .i64 (i : Int)) ∧ w'.cell? ⟨gg, 0, none⟩ = some (.slice (some ⟨ga, 0, none⟩) n cap) ∧ w'.cell? ⟨ga, i, none⟩ = some (.slice (some ⟨ri, 0, none⟩) n n) ∧ w'.cell? ⟨ri, k, none⟩ = some (.bool mm)) (ds := []) #[false,false,false,false,false,false,false,false,false,false,false] (by kernel_rfl) rfl rfl ⟨(by go_keep), (by go_keep), (by go_keep), (by go_keep), (by go_keep)⟩ (fun hHeld => ?_)
 refine zV 7 12 11 128 ?_
 refine zT 0 5 11 129 hHeld ?_
 refine zV 1 6 11 131 ?_
 refine zV 2 7 11 135 ?_
 refine zT 3 8 11 143 hHeld ?_
 refine zT 4 9 11 159 hHeld ?_
 refine zV 5 10 11 191 ?_
 refine zT 6 11 11 255 hHeld ?_
 refine zV 8 13 11 511 ?_
 refine zT 9 14 11 1023 hHeld ?_
 refine zV 10 4 11 2047 ?_
 refine done_ (by kernel_rfl) ?_
 go_wp2
 go_ret
 exact ⟨rfl, below_drew (Below.refl _ _)⟩

set_option maxHeartbeats 4000000 in
set_option maxRecDepth 100000 in
theorem behind1_calls {i k : Nat} (h : GrB w lo bg bi gg ga cap vs rb n M (i : Int)) (hi : i < n) (hk : k < n) (hn : n ≤ 1000000) :
 Calls Tryz.prog 168 #[.int .i64 (k : Int), .pointer (some ⟨bg, 0, none⟩), .pointer (some ⟨bi, 0, none⟩)] w fun e w' => e = .returned (.bool (M k i)) ∧ Below w.heap.size w w' := by
 obtain ⟨h1, h2, h3⟩ := h.keep
 have h4 := h.gr.slot hk
 have h5 := h.gr.at_ hk hi
 clear h
 generalize M k i = mm at *
 generalize rb k = ri at *
 go_enter Tryz.func168, Tryz.ntmps168
 go_wp2
 refine start_ (n := 11) (S := fun w' => w'.cell? ⟨bg, 0, none⟩ = some (.pointer (some ⟨gg, 0, none⟩)) ∧ w'.cell? ⟨bi, 0, none⟩ = some (.int .i64 (i : Int)) ∧ w'.cell? ⟨gg, 0, none⟩ = some (.slice (some ⟨ga, 0, none⟩) n cap) ∧ w'.cell? ⟨ga, k, none⟩ = some (.slice (some ⟨ri, 0, none⟩) n n) ∧ w'.cell? ⟨ri, i, none⟩ = some (.bool mm)) (ds := []) #[false,false,false,false,false,false,false,false,false,false,false] (by kernel_rfl) rfl rfl ⟨(by go_keep), (by go_keep), (by go_keep), (by go_keep), (by go_keep)⟩ (fun hHeld => ?_)
 refine zV 4 9 11 16 ?_
 refine zT 0 5 11 17 hHeld ?_
 refine zV 1 6 11 19 ?_
 refine zV 2 7 11 23 ?_
 refine zT 3 8 11 31 hHeld ?_
 refine zV 5 10 11 63 ?_
 refine zT 6 11 11 127 hHeld ?_
 refine zT 7 12 11 255 hHeld ?_
 refine zV 8 13 11 511 ?_
 refine zT 9 14 11 1023 hHeld ?_
 refine zV 10 4 11 2047 ?_
 refine done_ (by kernel_rfl) ?_
 go_wp2
 go_ret
 exact ⟨rfl, below_drew (Below.refl _ _)⟩

end
theorem Own.low {w0 w1 w : World} {v : Value} {l : List Nat} (h : Own w1 w v l) (hle : w0.heap.size ≤ w1.heap.size) : Own w0 w v l := by
 refine ⟨h.1, ?_⟩
 rcases h.2 with hn | ⟨g, cap, cur, rfl, h1, rest⟩
 · exact .inl hn
 · exact .inr ⟨g, cap, cur, rfl, Nat.le_trans hle h1, rest⟩
theorem own_nil (w0 w : World) : Own w0 w (.slice none 0 0) [] := World.ownsRow_nil _ _ _ _
/-- What is ahead of one, what behind. -/
noncomputable def aheadL (nm : ByteArray) (l : List Step) (i : Int) : List Nat := if (defOk nm l && decide (0 ≤ i ∧ i < l.length)) = true then sel (fun k => wars (direct l) l.length i.toNat k) l.length else []
noncomputable def behindL (nm : ByteArray) (l : List Step) (i : Int) : List Nat := if (defOk nm l && decide (0 ≤ i ∧ i < l.length)) = true then sel (fun k => wars (direct l) l.length k i.toNat) l.length else []

set_option maxHeartbeats 8000000 in
set_option maxRecDepth 100000 in
theorem ahead_calls (nm : ByteArray) (l : List Step) (A : Option Addr) (c : Nat) (i : Int) (w : World) (hnm : nm.size ≤ 140737488351232) (hS : StepsAt w A l) (hb : ∀ s ∈ l, StepB s) (hn : l.length ≤ 9000000000000) (hc : l.length ≤ c) (hT : TabsAt w) :
 Calls Tryz.prog 166 #[.agg #[.string nm, .slice A l.length c], .int .i64 i] w fun e w' => (∃ v, e = .returned v ∧ Own w w' v (aheadL nm l i)) ∧ Below w.heap.size w w' := by
 have hs1 : (w.alloc (.cells #[.string nm, .slice A l.length c] 24)).heap.size = w.heap.size + 1 := by
  show (w.heap.push _).size = _
  simp
 have hb2 := on_ (below_one w (.cells #[.string nm, .slice A l.length c] 24)) (below_one (w.alloc (.cells #[.string nm, .slice A l.length c] 24)) (.cells #[.int .i64 i] 3))
 have hri := alloc1 (w.alloc (.cells #[.string nm, .slice A l.length c] 24)) (.cells #[.int .i64 i] 3)
 rw [hs1] at hri
 have hm := made_calls nm l A c _ hnm (hS.below hb2) hb hn hc (tabs_on hT hb2)
 have HW := Aside0.mk (And.intro hb2 hri)
 have HR : Aside0 (aheadL nm l i = if (defOk nm l && decide (0 ≤ i ∧ i < l.length)) = true then sel (fun k => wars (direct l) l.length i.toNat k) l.length else []) := ⟨rfl⟩
 have HD := Aside0.mk (fun h => defOk_len (nm := nm) (l := l) h)
 generalize aheadL nm l i = rr at *
 clear hb2 hri hs1 hS hb hT
 cases hok : defOk nm l
 · rw [hok] at hm HR
   replace hm := Aside0.mk hm
   go_enter Tryz.func166, Tryz.ntmps166
   go_wp2_with (first | (go_at_call 115; refine hm.out.mono ?_; rintro e w3 ⟨he, hb3⟩; cases he; have H3 := Aside0.mk (on_ (on_ HW.out.1 hb3) (below_one w3 (.cells #[.pointer none] 127))); have h1 := row_cell (j := 0) (alloc1 w3 (.cells #[.pointer none] 127)) rfl; have h2 := row_cell (j := 0) (row_on (on_ hb3 (below_one w3 (.cells #[.pointer none] 127))) HW.out.2) rfl; clear hb3))
   generalize hW : World.alloc w3 _ = w4 at *
   generalize w3.heap.size = bg at *
   refine start_ (n := 15) (S := fun w' => w'.cell? ⟨bg, 0, none⟩ = some (.pointer none)) (ds := []) #[false,false,false,false,false,false,false,false,false,false,false,false,false,false,false] (by kernel_rfl) rfl rfl ((by go_keep)) (fun hHeld => ?_)
   refine take_ (i := 0) (N := some 8) (v := ?_) (a' := ?_) #[true,false,false,false,false,false,false,false,false,false,false,false,false,false,false] rfl rfl (by kernel_rfl) (fun _ _ _ h => h) (Or.inl ⟨by rfl, ?_⟩) hHeld ?_ ?_
   rotate_left
   · intro w' s0
     go_simp
     with_reducible rfl
   rotate_left
   · simp only [Act.put, zA, zB, zC, i64_w, i32_w]
     rfl
   refine zV 1 9 15 3 ?_
   refine zV 2 10 15 7 ?_
   refine zU 3 11 15 15 ?_
   refine zU 4 12 15 31 ?_
   refine zV 5 13 15 63 ?_
   refine zV 6 14 15 127 ?_
   refine zU 7 15 15 255 ?_
   refine zU 8 16 15 511 ?_
   refine zU 9 17 15 1023 ?_
   refine zU 10 18 15 2047 ?_
   refine zU 11 19 15 4095 ?_
   refine zU 12 20 15 8191 ?_
   refine zU 13 21 15 16383 ?_
   refine zV 14 22 15 32767 ?_
   refine done_ (by kernel_rfl) ?_
   go_wp2
   go_ret
   exact ⟨⟨_, rfl, by rw [HR.out]; exact own_nil _ _⟩, below_drew H3.out⟩
 · rw [hok] at hm HR
   obtain ⟨hl1, hl8, _⟩ := HD.out hok
   replace hm := Aside0.mk hm
   clear HD
   go_enter Tryz.func166, Tryz.ntmps166
   go_wp2_with (first | (go_at_call 115; refine hm.out.mono ?_; rintro e w3 ⟨⟨gg, v, rb, rfl, hg⟩, hb3⟩; have H3 := Aside0.mk (And.intro (on_ (on_ HW.out.1 hb3) (below_one w3 (.cells #[.pointer (some ⟨gg, 0, none⟩)] 127))) (And.intro (hg.on (below_one w3 (.cells #[.pointer (some ⟨gg, 0, none⟩)] 127))) (And.intro (alloc1 w3 (.cells #[.pointer (some ⟨gg, 0, none⟩)] 127)) (row_on (on_ hb3 (below_one w3 (.cells #[.pointer (some ⟨gg, 0, none⟩)] 127))) HW.out.2)))); clear hb3 hg))
   generalize hW : World.alloc w3 _ = w4 at *
   generalize w3.heap.size = bg at *
   obtain ⟨ga, cap, rfl, _⟩ := H3.out.2.1.ahead (by omega)
   have HB := Aside0.mk (GrB.mk H3.out.2.1 H3.out.2.2.1 H3.out.2.2.2)
   have h1 := row_cell (j := 0) HB.out.bg_ rfl
   have h2 := row_cell (j := 0) HB.out.bi_ rfl
   have h3 := row_cell (j := 0) HB.out.gr.box rfl
   by_cases hi0 : i < 0
   · have hd1 : decide (i < 0) = true := decide_eq_true hi0
     have HF : Aside0 (rr = []) := ⟨by rw [HR.out, decide_eq_false (by omega)]; rfl⟩
     clear hi0
     refine start_ (n := 15) (S := fun w' => w'.cell? ⟨bg, 0, none⟩ = some (.pointer (some ⟨gg, 0, none⟩)) ∧ w'.cell? ⟨w.heap.size + 1, 0, none⟩ = some (.int .i64 i)) (ds := []) #[false,false,false,false,false,false,false,false,false,false,false,false,false,false,false] (by kernel_rfl) rfl rfl ⟨(by go_keep), (by go_keep)⟩ (fun hHeld => ?_)
     refine zT 0 8 15 1 hHeld ?_
     refine zV 1 9 15 3 ?_
     refine zV 2 10 15 7 ?_
     refine zT 3 11 15 15 hHeld ?_
     refine zV 4 12 15 31 ?_
     refine zV 5 13 15 63 ?_
     refine zV 6 14 15 127 ?_
     refine zU 7 15 15 255 ?_
     refine zU 8 16 15 511 ?_
     refine zU 9 17 15 1023 ?_
     refine zU 10 18 15 2047 ?_
     refine zU 11 19 15 4095 ?_
     refine zU 12 20 15 8191 ?_
     refine zU 13 21 15 16383 ?_
     refine zV 14 22 15 32767 ?_
     refine done_ (by kernel_rfl) ?_
     go_wp2
     go_ret
     exact ⟨⟨_, rfl, by rw [HF.out]; exact own_nil _ _⟩, below_drew H3.out.1⟩
   · have hd1 : decide (i < 0) = false := decide_eq_false hi0
     by_cases hin : (l.length : Int) ≤ i
     · have hd2 : decide ((l.length : Int) ≤ i) = true := decide_eq_true hin
       have HF : Aside0 (rr = []) := ⟨by rw [HR.out, decide_eq_false (by omega)]; rfl⟩
       clear hi0 hin
       refine start_ (n := 15) (S := fun w' => w'.cell? ⟨bg, 0, none⟩ = some (.pointer (some ⟨gg, 0, none⟩)) ∧ w'.cell? ⟨w.heap.size + 1, 0, none⟩ = some (.int .i64 i) ∧ w'.cell? ⟨gg, 0, none⟩ = some (.slice (some ⟨ga, 0, none⟩) l.length cap)) (ds := []) #[false,false,false,false,false,false,false,false,false,false,false,false,false,false,false] (by kernel_rfl) rfl rfl ⟨(by go_keep), (by go_keep), (by go_keep)⟩ (fun hHeld => ?_)
       refine zT 0 8 15 1 hHeld ?_
       refine zV 1 9 15 3 ?_
       refine zV 2 10 15 7 ?_
       refine zT 3 11 15 15 hHeld ?_
       refine zV 4 12 15 31 ?_
       refine zV 5 13 15 63 ?_
       refine zV 6 14 15 127 ?_
       refine zT 7 15 15 255 hHeld ?_
       refine zT 8 16 15 511 hHeld ?_
       refine zV 9 17 15 1023 ?_
       refine zV 10 18 15 2047 ?_
       refine zT 11 19 15 4095 hHeld ?_
       refine zV 12 20 15 8191 ?_
       refine zV 13 21 15 16383 ?_
       refine zV 14 22 15 32767 ?_
       refine done_ (by kernel_rfl) ?_
       go_wp2
       go_ret
       exact ⟨⟨_, rfl, by rw [HF.out]; exact own_nil _ _⟩, below_drew H3.out.1⟩
     · have hd2 : decide ((l.length : Int) ≤ i) = false := decide_eq_false hin
       obtain ⟨i0, rfl⟩ : ∃ i0 : Nat, i = (i0 : Int) := ⟨i.toNat, by omega⟩
       have HF : Aside0 (rr = sel (fun k => wars (direct l) l.length i0 k) l.length) := ⟨by rw [HR.out, decide_eq_true (by omega)]; rfl⟩
       have hlt : i0 < l.length := by omega
       have HT : Aside0 (∀ W, Below w4.heap.size w4 W → Tells W 182 #[] #[.pointer (some ⟨bg, 0, none⟩), .pointer (some ⟨w.heap.size + 1, 0, none⟩)] (fun k => wars (direct l) l.length i0 k) l.length) := ⟨fun W hb W2 k hk hw => by simpa using ahead1_calls (HB.out.on (on_ hb hw)) hlt hk (by omega)⟩
       have eg : ∀ args w, (callFunc 182 args).run Tryz.prog w = .ok (.enter 182 args) w := fun _ _ => by kernel_rfl
       clear hi0 hin
       refine start_ (n := 15) (S := fun w' => w'.cell? ⟨bg, 0, none⟩ = some (.pointer (some ⟨gg, 0, none⟩)) ∧ w'.cell? ⟨w.heap.size + 1, 0, none⟩ = some (.int .i64 (i0 : Int)) ∧ w'.cell? ⟨gg, 0, none⟩ = some (.slice (some ⟨ga, 0, none⟩) l.length cap)) (ds := []) #[false,false,false,false,false,false,false,false,false,false,false,false,false,false,false] (by kernel_rfl) rfl rfl ⟨(by go_keep), (by go_keep), (by go_keep)⟩ (fun hHeld => ?_)
       refine zT 0 8 15 1 hHeld ?_
       refine zV 1 9 15 3 ?_
       refine zV 2 10 15 7 ?_
       refine zT 3 11 15 15 hHeld ?_
       refine zV 4 12 15 31 ?_
       refine zV 5 13 15 63 ?_
       refine zV 6 14 15 127 ?_
       refine zT 7 15 15 255 hHeld ?_
       refine zT 8 16 15 511 hHeld ?_
       refine zV 9 17 15 1023 ?_
       refine zV 10 18 15 2047 ?_
       refine zT 11 19 15 4095 hHeld ?_
       refine zV 12 20 15 8191 ?_
       refine zV 13 21 15 16383 ?_
       refine zV 14 22 15 32767 ?_
       refine done_ (by kernel_rfl) ?_
       have hb4 := Aside0.mk (below_drew (Below.refl w4.heap.size w4))
       go_wp2_with (first | (go_at_call 119; refine (those_calls 182 gg _ cap l.length _ _ _ _ eg (HT.out _ hb4.out) (HB.out.on hb4.out).gr.box (by omega)).mono ?_; rintro e w5 ⟨⟨v5, rfl, hown⟩, hb5⟩; have H5 := Aside0.mk (And.intro hown hb5); clear hown hb5))
       go_ret
       refine ⟨⟨_, rfl, ?_⟩, on_ (below_drew H3.out.1) H5.out.2⟩
       rw [HF.out]
       exact H5.out.1.low (below_drew H3.out.1).size

set_option maxHeartbeats 8000000 in
set_option maxRecDepth 100000 in
theorem behind_calls (nm : ByteArray) (l : List Step) (A : Option Addr) (c : Nat) (i : Int) (w : World) (hnm : nm.size ≤ 140737488351232) (hS : StepsAt w A l) (hb : ∀ s ∈ l, StepB s) (hn : l.length ≤ 9000000000000) (hc : l.length ≤ c) (hT : TabsAt w) :
 Calls Tryz.prog 123 #[.agg #[.string nm, .slice A l.length c], .int .i64 i] w fun e w' => (∃ v, e = .returned v ∧ Own w w' v (behindL nm l i)) ∧ Below w.heap.size w w' := by
 have hs1 : (w.alloc (.cells #[.string nm, .slice A l.length c] 24)).heap.size = w.heap.size + 1 := by
  show (w.heap.push _).size = _
  simp
 have hb2 := on_ (below_one w (.cells #[.string nm, .slice A l.length c] 24)) (below_one (w.alloc (.cells #[.string nm, .slice A l.length c] 24)) (.cells #[.int .i64 i] 3))
 have hri := alloc1 (w.alloc (.cells #[.string nm, .slice A l.length c] 24)) (.cells #[.int .i64 i] 3)
 rw [hs1] at hri
 have hm := made_calls nm l A c _ hnm (hS.below hb2) hb hn hc (tabs_on hT hb2)
 have HW := Aside0.mk (And.intro hb2 hri)
 have HR : Aside0 (behindL nm l i = if (defOk nm l && decide (0 ≤ i ∧ i < l.length)) = true then sel (fun k => wars (direct l) l.length k i.toNat) l.length else []) := ⟨rfl⟩
 have HD := Aside0.mk (fun h => defOk_len (nm := nm) (l := l) h)
 generalize behindL nm l i = rr at *
 clear hb2 hri hs1 hS hb hT
 cases hok : defOk nm l
 · rw [hok] at hm HR
   replace hm := Aside0.mk hm
   go_enter Tryz.func123, Tryz.ntmps123
   go_wp2_with (first | (go_at_call 115; refine hm.out.mono ?_; rintro e w3 ⟨he, hb3⟩; cases he; have H3 := Aside0.mk (on_ (on_ HW.out.1 hb3) (below_one w3 (.cells #[.pointer none] 127))); have h1 := row_cell (j := 0) (alloc1 w3 (.cells #[.pointer none] 127)) rfl; have h2 := row_cell (j := 0) (row_on (on_ hb3 (below_one w3 (.cells #[.pointer none] 127))) HW.out.2) rfl; clear hb3))
   generalize hW : World.alloc w3 _ = w4 at *
   generalize w3.heap.size = bg at *
   refine start_ (n := 15) (S := fun w' => w'.cell? ⟨bg, 0, none⟩ = some (.pointer none)) (ds := []) #[false,false,false,false,false,false,false,false,false,false,false,false,false,false,false] (by kernel_rfl) rfl rfl ((by go_keep)) (fun hHeld => ?_)
   refine take_ (i := 0) (N := some 8) (v := ?_) (a' := ?_) #[true,false,false,false,false,false,false,false,false,false,false,false,false,false,false] rfl rfl (by kernel_rfl) (fun _ _ _ h => h) (Or.inl ⟨by rfl, ?_⟩) hHeld ?_ ?_
   rotate_left
   · intro w' s0
     go_simp
     with_reducible rfl
   rotate_left
   · simp only [Act.put, zA, zB, zC, i64_w, i32_w]
     rfl
   refine zV 1 9 15 3 ?_
   refine zV 2 10 15 7 ?_
   refine zU 3 11 15 15 ?_
   refine zU 4 12 15 31 ?_
   refine zV 5 13 15 63 ?_
   refine zV 6 14 15 127 ?_
   refine zU 7 15 15 255 ?_
   refine zU 8 16 15 511 ?_
   refine zU 9 17 15 1023 ?_
   refine zU 10 18 15 2047 ?_
   refine zU 11 19 15 4095 ?_
   refine zU 12 20 15 8191 ?_
   refine zU 13 21 15 16383 ?_
   refine zV 14 22 15 32767 ?_
   refine done_ (by kernel_rfl) ?_
   go_wp2
   go_ret
   exact ⟨⟨_, rfl, by rw [HR.out]; exact own_nil _ _⟩, below_drew H3.out⟩
 · rw [hok] at hm HR
   obtain ⟨hl1, hl8, _⟩ := HD.out hok
   replace hm := Aside0.mk hm
   clear HD
   go_enter Tryz.func123, Tryz.ntmps123
   go_wp2_with (first | (go_at_call 115; refine hm.out.mono ?_; rintro e w3 ⟨⟨gg, v, rb, rfl, hg⟩, hb3⟩; have H3 := Aside0.mk (And.intro (on_ (on_ HW.out.1 hb3) (below_one w3 (.cells #[.pointer (some ⟨gg, 0, none⟩)] 127))) (And.intro (hg.on (below_one w3 (.cells #[.pointer (some ⟨gg, 0, none⟩)] 127))) (And.intro (alloc1 w3 (.cells #[.pointer (some ⟨gg, 0, none⟩)] 127)) (row_on (on_ hb3 (below_one w3 (.cells #[.pointer (some ⟨gg, 0, none⟩)] 127))) HW.out.2)))); clear hb3 hg))
   generalize hW : World.alloc w3 _ = w4 at *
   generalize w3.heap.size = bg at *
   obtain ⟨ga, cap, rfl, _⟩ := H3.out.2.1.ahead (by omega)
   have HB := Aside0.mk (GrB.mk H3.out.2.1 H3.out.2.2.1 H3.out.2.2.2)
   have h1 := row_cell (j := 0) HB.out.bg_ rfl
   have h2 := row_cell (j := 0) HB.out.bi_ rfl
   have h3 := row_cell (j := 0) HB.out.gr.box rfl
   by_cases hi0 : i < 0
   · have hd1 : decide (i < 0) = true := decide_eq_true hi0
     have HF : Aside0 (rr = []) := ⟨by rw [HR.out, decide_eq_false (by omega)]; rfl⟩
     clear hi0
     refine start_ (n := 15) (S := fun w' => w'.cell? ⟨bg, 0, none⟩ = some (.pointer (some ⟨gg, 0, none⟩)) ∧ w'.cell? ⟨w.heap.size + 1, 0, none⟩ = some (.int .i64 i)) (ds := []) #[false,false,false,false,false,false,false,false,false,false,false,false,false,false,false] (by kernel_rfl) rfl rfl ⟨(by go_keep), (by go_keep)⟩ (fun hHeld => ?_)
     refine zT 0 8 15 1 hHeld ?_
     refine zV 1 9 15 3 ?_
     refine zV 2 10 15 7 ?_
     refine zT 3 11 15 15 hHeld ?_
     refine zV 4 12 15 31 ?_
     refine zV 5 13 15 63 ?_
     refine zV 6 14 15 127 ?_
     refine zU 7 15 15 255 ?_
     refine zU 8 16 15 511 ?_
     refine zU 9 17 15 1023 ?_
     refine zU 10 18 15 2047 ?_
     refine zU 11 19 15 4095 ?_
     refine zU 12 20 15 8191 ?_
     refine zU 13 21 15 16383 ?_
     refine zV 14 22 15 32767 ?_
     refine done_ (by kernel_rfl) ?_
     go_wp2
     go_ret
     exact ⟨⟨_, rfl, by rw [HF.out]; exact own_nil _ _⟩, below_drew H3.out.1⟩
   · have hd1 : decide (i < 0) = false := decide_eq_false hi0
     by_cases hin : (l.length : Int) ≤ i
     · have hd2 : decide ((l.length : Int) ≤ i) = true := decide_eq_true hin
       have HF : Aside0 (rr = []) := ⟨by rw [HR.out, decide_eq_false (by omega)]; rfl⟩
       clear hi0 hin
       refine start_ (n := 15) (S := fun w' => w'.cell? ⟨bg, 0, none⟩ = some (.pointer (some ⟨gg, 0, none⟩)) ∧ w'.cell? ⟨w.heap.size + 1, 0, none⟩ = some (.int .i64 i) ∧ w'.cell? ⟨gg, 0, none⟩ = some (.slice (some ⟨ga, 0, none⟩) l.length cap)) (ds := []) #[false,false,false,false,false,false,false,false,false,false,false,false,false,false,false] (by kernel_rfl) rfl rfl ⟨(by go_keep), (by go_keep), (by go_keep)⟩ (fun hHeld => ?_)
       refine zT 0 8 15 1 hHeld ?_
       refine zV 1 9 15 3 ?_
       refine zV 2 10 15 7 ?_
       refine zT 3 11 15 15 hHeld ?_
       refine zV 4 12 15 31 ?_
       refine zV 5 13 15 63 ?_
       refine zV 6 14 15 127 ?_
       refine zT 7 15 15 255 hHeld ?_
       refine zT 8 16 15 511 hHeld ?_
       refine zV 9 17 15 1023 ?_
       refine zV 10 18 15 2047 ?_
       refine zT 11 19 15 4095 hHeld ?_
       refine zV 12 20 15 8191 ?_
       refine zV 13 21 15 16383 ?_
       refine zV 14 22 15 32767 ?_
       refine done_ (by kernel_rfl) ?_
       go_wp2
       go_ret
       exact ⟨⟨_, rfl, by rw [HF.out]; exact own_nil _ _⟩, below_drew H3.out.1⟩
     · have hd2 : decide ((l.length : Int) ≤ i) = false := decide_eq_false hin
       obtain ⟨i0, rfl⟩ : ∃ i0 : Nat, i = (i0 : Int) := ⟨i.toNat, by omega⟩
       have HF : Aside0 (rr = sel (fun k => wars (direct l) l.length k i0) l.length) := ⟨by rw [HR.out, decide_eq_true (by omega)]; rfl⟩
       have hlt : i0 < l.length := by omega
       have HT : Aside0 (∀ W, Below w4.heap.size w4 W → Tells W 168 #[] #[.pointer (some ⟨bg, 0, none⟩), .pointer (some ⟨w.heap.size + 1, 0, none⟩)] (fun k => wars (direct l) l.length k i0) l.length) := ⟨fun W hb W2 k hk hw => by simpa using behind1_calls (HB.out.on (on_ hb hw)) hlt hk (by omega)⟩
       have eg : ∀ args w, (callFunc 168 args).run Tryz.prog w = .ok (.enter 168 args) w := fun _ _ => by kernel_rfl
       clear hi0 hin
       refine start_ (n := 15) (S := fun w' => w'.cell? ⟨bg, 0, none⟩ = some (.pointer (some ⟨gg, 0, none⟩)) ∧ w'.cell? ⟨w.heap.size + 1, 0, none⟩ = some (.int .i64 (i0 : Int)) ∧ w'.cell? ⟨gg, 0, none⟩ = some (.slice (some ⟨ga, 0, none⟩) l.length cap)) (ds := []) #[false,false,false,false,false,false,false,false,false,false,false,false,false,false,false] (by kernel_rfl) rfl rfl ⟨(by go_keep), (by go_keep), (by go_keep)⟩ (fun hHeld => ?_)
       refine zT 0 8 15 1 hHeld ?_
       refine zV 1 9 15 3 ?_
       refine zV 2 10 15 7 ?_
       refine zT 3 11 15 15 hHeld ?_
       refine zV 4 12 15 31 ?_
       refine zV 5 13 15 63 ?_
       refine zV 6 14 15 127 ?_
       refine zT 7 15 15 255 hHeld ?_
       refine zT 8 16 15 511 hHeld ?_
       refine zV 9 17 15 1023 ?_
       refine zV 10 18 15 2047 ?_
       refine zT 11 19 15 4095 hHeld ?_
       refine zV 12 20 15 8191 ?_
       refine zV 13 21 15 16383 ?_
       refine zV 14 22 15 32767 ?_
       refine done_ (by kernel_rfl) ?_
       have hb4 := Aside0.mk (below_drew (Below.refl w4.heap.size w4))
       go_wp2_with (first | (go_at_call 119; refine (those_calls 168 gg _ cap l.length _ _ _ _ eg (HT.out _ hb4.out) (HB.out.on hb4.out).gr.box (by omega)).mono ?_; rintro e w5 ⟨⟨v5, rfl, hown⟩, hb5⟩; have H5 := Aside0.mk (And.intro hown hb5); clear hown hb5))
       go_ret
       refine ⟨⟨_, rfl, ?_⟩, on_ (below_drew H3.out.1) H5.out.2⟩
       rw [HF.out]
       exact H5.out.1.low (below_drew H3.out.1).size

end Go.Proofs.YtgjddnaidjbhlaaGreatDoor.Pl

/- A range over a function whose iterator keeps state of its own in cells: the law. -/
namespace Go.Proofs.YtgjddnaidjbhlaaGreatDoor.Pl
open Go.RowKit

/-- Some blocks lie as they lay. -/
structure Keep (Y : Nat → Prop) (W W' : World) : Prop where
 size : W.heap.size ≤ W'.heap.size
 same : ∀ k, Y k → W'.heap[k]? = W.heap[k]?
theorem Keep.refl (Y : Nat → Prop) (W : World) : Keep Y W W := ⟨Nat.le_refl _, fun _ _ => rfl⟩
theorem Keep.trans {Y : Nat → Prop} {a b c : World} (h : Keep Y a b) (k : Keep Y b c) : Keep Y a c := ⟨Nat.le_trans h.size k.size, fun i hi => (k.same i hi).trans (h.same i hi)⟩
theorem Keep.mono {X Y : Nat → Prop} {a b : World} (h : Keep Y a b) (hx : ∀ k, X k → Y k) : Keep X a b := ⟨h.size, fun k hk => h.same k (hx k hk)⟩
theorem Keep.row {Y : Nat → Prop} {a b : World} (h : Keep Y a b) {k : Nat} {o : Obj} (hk : a.heap[k]? = some o) (hy : Y k) : b.heap[k]? = some o := (h.same k hy).trans hk
theorem Keep.putObj {Y : Nat → Prop} (W : World) {l : Nat} (o : Obj) (h : ¬ Y l) : Keep Y W (W.putObj l o) := ⟨by simp, fun k hk => World.putObj_heap_other (fun e => h (e ▸ hk))⟩
theorem Keep.of_chg {X Y : Nat → Prop} {a b : World} (h : Chg X a b) (hy : ∀ k, Y k → k < a.heap.size ∧ ¬ X k) : Keep Y a b := ⟨h.size, fun k hk => h.block k (hy k hk).1 (hy k hk).2⟩
/-- Blocks of Y, and those that have come. -/
def More (Y : Nat → Prop) (W W' : World) : Nat → Prop := fun k => Y k ∨ (W.heap.size ≤ k ∧ k < W'.heap.size)

/-- What an iterator promises: whatever its rounds do that leave its own blocks alone. -/
def SeqY {α : Type} (P : Program) (g : Nat) (lb : Array Value) (enc : α → Array Value) (S : List α → Prop) (N : List α → α → Prop) (X : Nat → Prop) (w0 : World) : Prop :=
 ∀ (l : Nat) (J : List α → (Nat → Prop) → World → Prop) (W : World), Keep X w0 W →
  (∀ pre Y W1 W2, J pre Y W1 → Chg Y W1 W2 → J pre (More Y W1 W2) W2) →
  (∀ pre Y x W1, J pre Y W1 → N pre x → YieldAt Fence.wide 3 P l (enc x) W1 fun e W' => e = .returned (.bool true) ∧ J (pre ++ [x]) Y W' ∧ Keep Y W1 W') →
  J [] X W →
  CallsIn Fence.wide 4 P g (#[.func (.yield l) #[] #[]] ++ lb) W fun e W' => (∃ v, e = .returned v) ∧ ∃ xs Y, S xs ∧ J xs Y W'

/-- How a round's body may be left: it goes on. -/
def postY {α : Type} (B : Nat) (I : List α → (Nat → Prop) → World → Prop) (xs : List α) (Y : Nat → Prop) (W : World) : Exit → Act → World → Prop
 | .normal, _, W' => KeepsFrom B W W' ∧ Keep Y W W' ∧ I xs Y W'
 | _, _, _ => False

theorem wpIn_rangeFunc_Y {α : Type} {P : Program} {g : Operand} {ps : Array Tmp} {assign body : Code} {Q : Exit → Act → World → Prop} {a : Act} {w : World}
 {gf : Nat} {lb : Array Value} (hg : a.eval g = .func (.func gf) #[] lb) (eg : ∀ args w, (callFunc gf args).run P w = .ok (.enter gf args) w)
 {enc : α → Array Value} {S : List α → Prop} {N : List α → α → Prop} {X : Nat → Prop} {w0 : World} (hseq : SeqY P gf lb enc S N X w0)
 (hb0 : Keep X w0 w) (hX : ∀ k, X k → k < w.heap.size) (hps : ∀ x, (enc x).size = ps.size)
 (I : List α → (Nat → Prop) → World → Prop) (hIa : ∀ pre Y W1 W2, I pre Y W1 → Chg Y W1 W2 → I pre (More Y W1 W2) W2) (hIm : ∀ pre Y Y' W, I pre Y W → (∀ k, Y' k → Y k) → I pre Y' W)
 (hIr : ∀ pre Y W l o o', I pre Y W → w.heap.size ≤ l → W.heap[l]? = some o → o.isCells = false → I pre Y (W.putObj l o'))
 (h0 : I [] X w) (a₁ : α → Act)
 (hassign : ∀ (l : Nat) (x : α) (W : World) (K : Act → World → Prop), K (a₁ x) W →
  assign.wpIn (Fence.wide.inRound l) 3 P (Exit.then K (fun _ _ _ => False)) { tmps := (ps.zip (enc x)).foldl (fun t (p, v) => t.setIfInBounds p v) a.tmps, defers := [] } W)
 (hbody : ∀ (l : Nat) (pre : List α) (x : α) (Y : Nat → Prop) (W : World), I pre Y W → N pre x → body.wpIn (Fence.wide.inRound l) 3 P (postY w.heap.size I (pre ++ [x]) Y W) (a₁ x) W)
 (hdone : ∀ (D : Nat) (xs : List α) (Y : Nat → Prop) (W : World), w.heap.size ≤ D → S xs → I xs Y W → W.heap[D]? = some (.deferred (some [])) → Q .normal { a with defers := { target := .collected D, args := #[] } :: a.defers } W) :
 (Code.rangeFunc g ps assign body).wpIn Fence.wide 5 P Q a w := by
 refine wpIn_rangeFunc ?_
 intro fn hfn
 obtain ⟨rec, hrec⟩ : ∃ rec : LoopState → Option Code → Loop, rec = fun st pe => { state := st, pending := pe, fn, tmps := a.tmps, params := ps, assign, body, defers := w.heap.size } := ⟨_, rfl⟩
 obtain ⟨W1, hW1⟩ : ∃ W1, (w.alloc (.deferred (some []))).alloc (.loop (rec .ready none)) = W1 := ⟨_, rfl⟩
 have hL1 : W1.heap[w.heap.size + 1]? = some (.loop (rec .ready none)) := by
  rw [← hW1]; have := World.alloc_heap_new (w.alloc (.deferred (some []))) (.loop (rec .ready none)); rwa [World.size_alloc] at this
 have hK1 : W1.heap[w.heap.size]? = some (.deferred (some [])) := by
  rw [← hW1]; exact (Below.heap_alloc _ _ _ (by simp)).trans (World.alloc_heap_new w _)
 have hB1 : Below w.heap.size w W1 := by
  rw [← hW1]; exact ((Below.refl _ w).alloc (Nat.le_refl _) _).alloc (by simp) _
 have hI1 : I [] X W1 := hIm _ _ _ _ (hIa _ _ _ _ h0 (Chg.of_below hB1)) fun k hk => .inl hk
 have hb1 : Keep X w0 W1 := hb0.trans ⟨hB1.size, fun k hk => hB1.block k (hX k hk)⟩
 refine ⟨w.heap.size + 1, [{ target := .collected w.heap.size, args := #[] }], W1, { target := .fn (.func gf) lb, args := #[.func (.yield (w.heap.size + 1)) #[] #[]] }, W1, gf,
  #[.func (.yield (w.heap.size + 1)) #[] #[]] ++ lb, W1, ?_, ?_, ?_, ?_, (fun _ => by omega), ?_⟩
 · rw [← hW1, hrec]; exact run_enterLoop_outer _ _ _ _ _
 · simp only [resolve, hg]
   simp [go_sem]
 · intro f' hf'; trivial
 · simp [invoke, go_sem, eg]
 · refine (hseq (w.heap.size + 1)
    (fun pre Y W => I pre Y W ∧ W.heap[w.heap.size + 1]? = some (.loop (rec .ready none)) ∧ W.heap[w.heap.size]? = some (.deferred (some [])) ∧ ¬ Y (w.heap.size + 1) ∧ ¬ Y w.heap.size)
    W1 hb1 ?_ ?_ ⟨hI1, hL1, hK1, fun h => by have := hX _ h; omega, fun h => by have := hX _ h; omega⟩).mono ?_
   · rintro pre Y A B ⟨hi, hl, hk, n1, n2⟩ hc
     have l1 := (Array.getElem?_eq_some_iff.1 hl).1
     exact ⟨hIa _ _ _ _ hi hc, hc.row hl n1, hc.row hk n2, fun h => by rcases h with h | h; exact n1 h; omega, fun h => by rcases h with h | h; exact n2 h; omega⟩
   · rintro pre Y x W ⟨hi, hl, hk, n1, n2⟩ hlen
     have hlt : w.heap.size + 1 < W.heap.size := (Array.getElem?_eq_some_iff.1 hl).1
     have hy := run_yield (P := P) (args := enc x) hl (by rw [hrec]; exact hps x)
     rw [hrec] at hy
     refine ⟨fn, _, assign, body, hy, roundIn_of_wpIn hfn (hassign _ x W _ ⟨_, run_beginRound hl (by rw [hrec]), ?_⟩)⟩
     have hl2 : (W.putObj (w.heap.size + 1) (.loop { rec .ready none with state := .busy })).heap[w.heap.size + 1]? = some (.loop { rec .ready none with state := .busy }) := World.putObj_heap_same hlt
     have hk2 : (W.putObj (w.heap.size + 1) (.loop { rec .ready none with state := .busy })).heap[w.heap.size]? = some (.deferred (some [])) := (World.putObj_heap_other (by omega)).trans hk
     refine wpIn_mono (hbody _ pre x Y _ (hIr _ _ _ _ _ _ hi (by omega) hl rfl) hlen) ?_
     have fin : ∀ (jump : Option Code) (W3 : World), KeepsFrom w.heap.size (W.putObj (w.heap.size + 1) (.loop { rec .ready none with state := .busy })) W3 →
      (Instr.endRound (w.heap.size + 1) jump).run P W3 = .ok (.bool jump.isNone) (W3.putObj (w.heap.size + 1) (.loop (rec (if jump.isNone then .ready else .done) jump))) ∧
      W3.heap[w.heap.size + 1]? = some (.loop { rec .ready none with state := .busy }) ∧
      (W3.putObj (w.heap.size + 1) (.loop (rec (if jump.isNone then .ready else .done) jump))).heap[w.heap.size + 1]? = some (.loop (rec (if jump.isNone then .ready else .done) jump)) ∧
      (W3.putObj (w.heap.size + 1) (.loop (rec (if jump.isNone then .ready else .done) jump))).heap[w.heap.size]? = some (.deferred (some [])) := fun jump W3 hk3 => by
      have hl3 := hk3.same _ _ (by omega) hl2 rfl
      have := run_endRound (P := P) jump hl3
      rw [hrec] at this ⊢
      exact ⟨this, by rw [hrec] at hl3; exact hl3, World.putObj_heap_same (Array.getElem?_eq_some_iff.1 hl3).1, (World.putObj_heap_other (by omega)).trans (hk3.same _ _ (Nat.le_refl _) hk2 rfl)⟩
     rintro e a3 W3 hp
     cases e with
     | normal =>
      obtain ⟨hk3, hky, hi3⟩ := hp
      obtain ⟨hr, hl3, hl4, hk4⟩ := fin none W3 hk3
      exact ⟨_, _, hr, rfl, ⟨hIr _ _ _ _ _ _ hi3 (by omega) hl3 rfl, hl4, hk4, n1, n2⟩, ((Keep.putObj W _ n1).trans hky).trans (Keep.putObj W3 _ n1)⟩
     | ret => exact hp.elim
     | exit id => exact hp.elim
     | goto t => exact hp.elim
     | panic ch => exact hp.elim
     | outgrown => exact hp.elim
   · rintro e W2 ⟨⟨v, rfl⟩, xs, Y, hS, hi, hl, hk, n1, n2⟩
     exact ⟨none, _, by have := run_endLoop (P := P) hl (by rw [hrec]; simp); rw [hrec] at this; exact this, hdone _ xs Y _ (Nat.le_refl _) hS (hIr _ _ _ _ _ _ hi (by omega) hl rfl) ((World.putObj_heap_other (by omega)).trans hk)⟩
end Go.Proofs.YtgjddnaidjbhlaaGreatDoor.Pl

/- The order in which steps are told: each once. -/
namespace Go.Proofs.YtgjddnaidjbhlaaGreatDoor.Pl

/-- How many numbers below n are so. -/
def cnt (f : Nat → Bool) : Nat → Nat
 | 0 => 0
 | n + 1 => cnt f n + if f n = true then 1 else 0
theorem cnt_le (f : Nat → Bool) : ∀ n, cnt f n ≤ n
 | 0 => Nat.le_refl _
 | n + 1 => by
  have := cnt_le f n
  rw [cnt]
  split <;> omega
theorem cnt_all {f : Nat → Bool} : ∀ {n}, (∀ i, i < n → f i = true) → cnt f n = n
 | 0, _ => rfl
 | n + 1, h => by
  rw [cnt, cnt_all (fun i hi => h i (by omega)), if_pos (h n (by omega))]
theorem cnt_full {f : Nat → Bool} : ∀ {n}, cnt f n = n → ∀ i, i < n → f i = true
 | 0, _, i, hi => absurd hi (Nat.not_lt_zero _)
 | n + 1, h, i, hi => by
  rw [cnt] at h
  have := cnt_le f n
  split at h
  · rename_i hf
    rcases Nat.lt_succ_iff_lt_or_eq.1 hi with h2 | rfl
    · exact cnt_full (by omega) i h2
    · exact hf
  · omega
theorem cnt_mono {f g : Nat → Bool} : ∀ {n}, (∀ i, i < n → f i = true → g i = true) → cnt f n ≤ cnt g n
 | 0, _ => Nat.le_refl _
 | n + 1, h => by
  have h1 := cnt_mono (n := n) fun i hi => h i (by omega)
  have h2 := h n (by omega)
  rw [cnt, cnt]
  cases hf : f n
  · simp
    omega
  · rw [h2 hf]
    simp
    exact h1
theorem cnt_lt {f g : Nat → Bool} {k : Nat} : ∀ {n}, (∀ i, i < n → f i = true → g i = true) → k < n → g k = true → f k = false → cnt f n < cnt g n
 | 0, _, hk, _, _ => absurd hk (Nat.not_lt_zero _)
 | n + 1, h, hk, hg, hf => by
  rw [cnt, cnt]
  rcases Nat.lt_succ_iff_lt_or_eq.1 hk with h2 | rfl
  · have h1 := cnt_lt (fun i hi => h i (by omega)) h2 hg hf
    have h3 := h n (by omega)
    cases hf2 : f n
    · simp
      omega
    · rw [h3 hf2]
      simp
      omega
  · have h1 := cnt_mono (n := k) fun i hi => h i (by omega)
    rw [hg, hf]
    simp
    omega
theorem cnt_congr {f g : Nat → Bool} : ∀ {n}, (∀ i, i < n → f i = g i) → cnt f n = cnt g n
 | 0, _ => rfl
 | n + 1, h => by rw [cnt, cnt, cnt_congr (fun i hi => h i (by omega)), h n (by omega)]
theorem cnt_add {f : Nat → Bool} {a : Nat} (ha : f a = false) : ∀ {n}, cnt (fun i => i == a || f i) n = cnt f n + if a < n then 1 else 0
 | 0 => rfl
 | n + 1 => by
  rw [cnt, cnt, cnt_add ha]
  by_cases e : n = a
  · subst e
    simp [ha]
  · have h1 : (n == a) = false := beq_eq_false_iff_ne.2 e
    rw [h1, Bool.false_or]
    by_cases h2 : a < n
    · simp [h2, Nat.lt_succ_of_lt h2]
      omega
    · have : ¬ a < n + 1 := by omega
      simp [h2, this]
theorem cnt_told : ∀ {told : List Nat} {n : Nat}, told.Nodup → (∀ x ∈ told, x < n) → cnt (fun i => told.contains i) n = told.length
 | [], n, _, _ => by
  have : cnt (fun i => ([] : List Nat).contains i) n = 0 := by
   induction n with
   | zero => rfl
   | succ n ih => rw [cnt, ih (fun x hx => by simp at hx)]; rfl
  exact this
 | a :: told, n, hn, hl => by
  obtain ⟨h1, h2⟩ := List.nodup_cons.1 hn
  have e : (fun i => (a :: told).contains i) = fun i => i == a || told.contains i := by
   funext i
   rw [List.contains_cons]
  rw [e, cnt_add (f := fun i => told.contains i) (by simpa using h1), cnt_told h2 (fun x hx => hl x (List.mem_cons_of_mem _ hx)), if_pos (hl a List.mem_cons_self)]
  rfl

/-- What is ahead leads on, and to nobody back. -/
structure Acyc (M : Nat → Nat → Bool) (n : Nat) : Prop where
 trans : ∀ x k y, x < n → k < n → y < n → M x k = true → M k y = true → M x y = true
 irr : ∀ x, x < n → M x x = false
/-- May a step be told next? -/
def nextP (M : Nat → Nat → Bool) (n : Nat) (told : List Nat) (i : Nat) : Bool := !told.contains i && allF (M i) (fun k => told.contains k) n
theorem next_some {M : Nat → Nat → Bool} {n : Nat} (hA : Acyc M n) (told : List Nat) : ∀ (c i : Nat), cnt (M i) n ≤ c → i < n → told.contains i = false → ∃ k, k < n ∧ nextP M n told k = true
 | c, i, hc, hi, hn => by
  by_cases h : allF (M i) (fun k => told.contains k) n = true
  · exact ⟨i, hi, by unfold nextP; rw [h, hn]; rfl⟩
  · have h2 : ∃ k, k < n ∧ M i k = true ∧ told.contains k = false := by
     apply Classical.byContradiction
     intro hno
     apply h
     rw [allF_iff]
     intro k hk hm
     cases ht : told.contains k
     · exact absurd ⟨k, hk, hm, ht⟩ hno
     · rfl
    obtain ⟨k, hk, hm, ht⟩ := h2
    have hlt : cnt (M k) n < cnt (M i) n := cnt_lt (k := k) (fun j hj h3 => hA.trans i k j hi hk hj hm h3) hk hm (hA.irr k hk)
    cases c with
    | zero => omega
    | succ c => exact next_some hA told c k (by omega) hk ht
/-- The order, so far. -/
def ordL (M : Nat → Nat → Bool) (n : Nat) : Nat → List Nat
 | 0 => []
 | t + 1 => ordL M n t ++ [(sel (nextP M n (ordL M n t)) n).headD 0]
theorem ordL_len (M : Nat → Nat → Bool) (n : Nat) : ∀ t, (ordL M n t).length = t
 | 0 => rfl
 | t + 1 => by rw [ordL, List.length_append, ordL_len M n t]; rfl
theorem ordL_ok {M : Nat → Nat → Bool} {n : Nat} (hA : Acyc M n) : ∀ {t}, t ≤ n → (ordL M n t).Nodup ∧ (∀ x ∈ ordL M n t, x < n) ∧ (t < n → ∃ x xs, sel (nextP M n (ordL M n t)) n = x :: xs ∧ x < n ∧ x ∉ ordL M n t)
 | t, ht => by
  have h1 : (ordL M n t).Nodup ∧ (∀ x ∈ ordL M n t, x < n) := by
   cases t with
   | zero => exact ⟨List.nodup_nil, fun x hx => absurd hx List.not_mem_nil⟩
   | succ t =>
    obtain ⟨h1, h2, h3⟩ := ordL_ok hA (t := t) (by omega)
    obtain ⟨x, xs, e, hx, hxn⟩ := h3 (by omega)
    rw [ordL, e]
    refine ⟨?_, ?_⟩
    · rw [List.nodup_append]
      refine ⟨h1, List.nodup_cons.2 ⟨List.not_mem_nil, List.nodup_nil⟩, ?_⟩
      intro a ha b hb eab
      have hb : b = x := List.mem_singleton.1 hb
      rw [eab, hb] at ha
      exact hxn ha
    · intro y hy
      rcases List.mem_append.1 hy with hy | hy
      · exact h2 y hy
      · have : y = x := List.mem_singleton.1 hy
        omega
  refine ⟨h1.1, h1.2, fun hlt => ?_⟩
  have h2 : ∃ i, i < n ∧ (ordL M n t).contains i = false := by
   apply Classical.byContradiction
   intro hno
   have h3 := cnt_told h1.1 h1.2
   rw [ordL_len, cnt_all (fun i hi => ?_)] at h3
   · omega
   · cases hc : (ordL M n t).contains i
     · exact absurd ⟨i, hi, hc⟩ hno
     · rfl
  obtain ⟨i, hi, hc⟩ := h2
  obtain ⟨k, hk, hp⟩ := next_some hA (ordL M n t) _ i (Nat.le_refl _) hi hc
  have hmem := mem_sel.2 ⟨hk, hp⟩
  cases he : sel (nextP M n (ordL M n t)) n with
  | nil => rw [he] at hmem; exact absurd hmem List.not_mem_nil
  | cons x xs =>
   have hx := mem_sel.1 (he ▸ List.mem_cons_self (a := x) (l := xs))
   refine ⟨x, xs, rfl, hx.1, fun hm => ?_⟩
   have h4 := hx.2
   unfold nextP at h4
   rw [List.contains_iff_mem.2 hm] at h4
   cases h4
theorem ordL_perm {M : Nat → Nat → Bool} {n : Nat} (hA : Acyc M n) : (ordL M n n).Perm (List.range n) := by
 obtain ⟨h1, h2, _⟩ := ordL_ok hA (Nat.le_refl n)
 have h3 := cnt_told h1 h2
 rw [ordL_len] at h3
 have h4 := cnt_full h3
 rw [List.perm_iff_count]
 intro a
 rw [h1.count, List.nodup_range.count]
 by_cases ha : a < n
 · rw [if_pos (List.contains_iff_mem.1 (h4 a ha)), if_pos (List.mem_range.2 ha)]
 · rw [if_neg (fun h => ha (h2 a h)), if_neg (fun h => ha (List.mem_range.1 h))]
/-- Sorted, those of which something is so come out in their own order. -/
theorem ord_sort {M : Nat → Nat → Bool} {n : Nat} (hA : Acyc M n) (p : Nat → Bool) : (((ordL M n n).filter p).map fun k : Nat => (k : Int)).mergeSort (fun x y => decide (x ≤ y)) = (sel p n).map fun k : Nat => (k : Int) := by
 apply List.Perm.eq_of_pairwise (le := fun x y : Int => decide (x ≤ y) = true)
 · intro a b _ _ h1 h2
   have h1 := of_decide_eq_true h1
   have h2 := of_decide_eq_true h2
   omega
 · refine List.pairwise_mergeSort ?_ ?_ _
   · intro a b c h1 h2
     have h1 := of_decide_eq_true h1
     have h2 := of_decide_eq_true h2
     exact decide_eq_true (by omega)
   · intro a b
     rcases Int.le_total a b with h | h
     · simp [h]
     · simp [h]
 · rw [List.pairwise_map]
   refine List.Pairwise.imp ?_ (List.Pairwise.filter p List.pairwise_lt_range)
   intro a b h
   exact decide_eq_true (by omega)
 · exact (List.mergeSort_perm _ _).trans (((ordL_perm hA).filter p).map _)
end Go.Proofs.YtgjddnaidjbhlaaGreatDoor.Pl

/- plan.Order and its closures: the walks, by hand. -/
namespace Go.Proofs.YtgjddnaidjbhlaaGreatDoor.Pl
open Go.RowKit Go.IntWalk Go.Proofs.YtgjddnaidjbhlaaGreatDoorW.PrintWords Go.Proofs.YtgjddnaidjbhlaaGreatDoor.PlName

def intsOf (l : List Nat) : List Int := l.map fun k : Nat => (k : Int)
theorem intsOf_len (l : List Nat) : (intsOf l).length = l.length := by
 unfold intsOf
 rw [List.length_map]
theorem intsOf_has (l : List Nat) (i : Nat) : (intsOf l).contains (i : Int) = l.contains i := by
 unfold intsOf
 induction l with
 | nil => rfl
 | cons a l ih =>
  rw [List.map_cons, List.contains_cons, List.contains_cons, ih]
  congr 1
  rw [Bool.eq_iff_iff, beq_iff_eq, beq_iff_eq]
  omega
theorem own_reads {w : World} {base : Nat} {v : Value} {l : List Nat} (h : w.ownsRow base 3 1 v l.length (selV l)) : ∃ A c, v = .slice A l.length c ∧ l.length ≤ c ∧ Kd.C (Kd.int .i64) w A (intsOf l).length (intsOf l) := by
 have h1 : w.ownsRow base 3 1 v (intsOf l).length (encs (Value.int .i64) (intsOf l)) := by
  rw [intsOf_len]
  have e : encs (Value.int .i64) (intsOf l) = selV l := by
   unfold encs intsOf selV
   simp
  rw [e]
  exact h
 obtain ⟨A, c, e, h2, h3⟩ := Kd.R_reads (d := Kd.int .i64) (Kd.R_of_own (enc := Value.int .i64) (h1 := fun _ => rfl) (ok := fun _ => True) h1 fun _ _ => trivial)
 rw [intsOf_len] at e h2
 exact ⟨A, c, e, h2, h3⟩
theorem Gr.low {w : World} {lo lo' gg : Nat} {v vs : Value} {rb : Nat → Nat} {m n : Nat} {M : Nat → Nat → Bool} (h : Gr w lo gg v vs rb m n M) (hle : lo' ≤ lo) : Gr w lo' gg v vs rb m n M := by
 refine ⟨h.box, ⟨h.own.1, ?_⟩, h.row, h.inj, ⟨Nat.le_trans hle h.lo_.1, fun k hk => Nat.le_trans hle (h.lo_.2 k hk)⟩⟩
 rcases h.own.2 with hn | ⟨g, cap, cur, e, h1, rest⟩
 · exact .inl hn
 · exact .inr ⟨g, cap, cur, e, Nat.le_trans hle h1, rest⟩

/-- What Order gives. -/
def OrdAt (w w' : World) (e : Ending) (l : List Step) (ok : Bool) : Prop :=
 ∃ bg, e = .returned (.func (.func 116) #[] #[.pointer (some ⟨bg, 0, none⟩)]) ∧ w.heap.size ≤ bg ∧
  (if ok = true then ∃ gg v rb, w'.heap[bg]? = some (.cells #[.pointer (some ⟨gg, 0, none⟩)] 127 (0, 0)) ∧ Gr w' w.heap.size gg v (.slice none 0 0) rb l.length l.length (wars (direct l) l.length) else w'.heap[bg]? = some (.cells #[.pointer none] 127 (0, 0)))
set_option maxHeartbeats 4000000 in
set_option maxRecDepth 100000 in
theorem order_calls (nm : ByteArray) (l : List Step) (A : Option Addr) (c : Nat) (w : World) (hnm : nm.size ≤ 140737488351232) (hS : StepsAt w A l) (hb : ∀ s ∈ l, StepB s) (hn : l.length ≤ 9000000000000) (hc : l.length ≤ c) (hT : TabsAt w) :
 Calls Tryz.prog 53 #[.agg #[.string nm, .slice A l.length c]] w fun e w' => OrdAt w w' e l (defOk nm l) ∧ Below w.heap.size w w' := by
 have hb2 := below_one w (.cells #[.string nm, .slice A l.length c] 24)
 have hm := made_calls nm l A c _ hnm (hS.below hb2) hb hn hc (tabs_on hT hb2)
 have HW := Aside0.mk hb2
 clear hb2 hS hb hT
 cases hok : defOk nm l
 · rw [hok] at hm
   replace hm := Aside0.mk hm
   go_enter Tryz.func53, Tryz.ntmps53
   go_wp2_with (first | (go_at_call 115; refine hm.out.mono ?_; rintro e w3 ⟨he, hb3⟩; cases he; have H3 := Aside0.mk (And.intro (on_ HW.out hb3) (And.intro (below_one w3 (.cells #[.pointer none] 127)) (alloc1 w3 (.cells #[.pointer none] 127)))); clear hb3))
   go_ret
   exact ⟨⟨_, rfl, H3.out.1.size, H3.out.2.2⟩, on_ H3.out.1 H3.out.2.1⟩
 · rw [hok] at hm
   replace hm := Aside0.mk hm
   go_enter Tryz.func53, Tryz.ntmps53
   go_wp2_with (first | (go_at_call 115; refine hm.out.mono ?_; rintro e w3 ⟨⟨gg, v, rb, rfl, hg⟩, hb3⟩; have H3 := Aside0.mk (And.intro (on_ HW.out hb3) (And.intro (below_one w3 (.cells #[.pointer (some ⟨gg, 0, none⟩)] 127)) (And.intro (alloc1 w3 (.cells #[.pointer (some ⟨gg, 0, none⟩)] 127)) (hg.on (below_one w3 (.cells #[.pointer (some ⟨gg, 0, none⟩)] 127)))))); clear hb3 hg))
   go_ret
   exact ⟨⟨_, rfl, H3.out.1.size, ⟨gg, v, rb, H3.out.2.2.1, H3.out.2.2.2.low HW.out.size⟩⟩, on_ H3.out.1 H3.out.2.1⟩

/-- What has been told lies in a box. -/
structure Told (w : World) (bt base : Nat) (v : Value) (l : List Nat) : Prop where
 box : w.heap[bt]? = some (.cells #[v] 25 (0, 0))
 own : w.ownsRow base 3 1 v l.length (selV l)
theorem Told.on {w w' : World} {bt base : Nat} {v : Value} {l : List Nat} (h : Told w bt base v l) (hb : Below w.heap.size w w') : Told w' bt base v l := ⟨row_on hb h.box, ownsRow_on h.own hb⟩

set_option maxHeartbeats 4000000 in
set_option maxRecDepth 100000 in
theorem was_calls {w : World} {bt base : Nat} {v : Value} {l : List Nat} (h : Told w bt base v l) (hl : l.length ≤ 1000000) (i : Nat) :
 Calls Tryz.prog 117 #[.int .i64 (i : Int), .pointer (some ⟨bt, 0, none⟩)] w fun e w' => e = .returned (.bool (l.contains i)) ∧ Below w.heap.size w w' := by
 obtain ⟨A, c, rfl, _, hr⟩ := own_reads h.own
 have hcon := contains_calls A c (intsOf l) (i : Int) w hr (by rw [intsOf_len]; omega)
 rw [intsOf_has, intsOf_len] at hcon
 have hq := row_cell (j := 0) h.box rfl
 generalize l.contains i = bb at *
 replace hcon := Aside0.mk hcon
 clear hr h
 go_enter Tryz.func117, Tryz.ntmps117
 go_wp2_with (first | (go_at_call 118; refine hcon.out.mono ?_; rintro e w5 ⟨rfl, rfl⟩))
 go_ret
 exact ⟨rfl, Below.refl _ _⟩

def wasV (bt : Nat) : Value := .func (.func 117) #[] #[.pointer (some ⟨bt, 0, none⟩)]
set_option maxHeartbeats 4000000 in
set_option maxRecDepth 100000 in
theorem next_calls {w : World} {bt bw bg base lo gg : Nat} {v va vs : Value} {told : List Nat} {rb : Nat → Nat} {n : Nat} {M : Nat → Nat → Bool} (h : Told w bt base v told) (hw : w.heap[bw]? = some (.cells #[wasV bt] 104 (0, 0))) (hbg : w.heap[bg]? = some (.cells #[.pointer (some ⟨gg, 0, none⟩)] 127 (0, 0))) (hg : Gr w lo gg va vs rb n n M)
 (hl : told.length ≤ 1000000) (hn : n ≤ 1000000) {i : Nat} (hi : i < n) :
 Calls Tryz.prog 120 #[.int .i64 (i : Int), .pointer (some ⟨bw, 0, none⟩), .pointer (some ⟨bg, 0, none⟩)] w fun e w' => e = .returned (.bool (nextP M n told i)) ∧ Below w.heap.size w w' := by
 have eg : ∀ args w, (callFunc 117 args).run Tryz.prog w = .ok (.enter 117 args) w := fun _ _ => by kernel_rfl
 have hc1 := Aside0.mk (was_calls h hl i)
 have hc2 : Aside0 (∀ W, Below w.heap.size w W → Calls Tryz.prog 121 #[.pointer (some ⟨gg, 0, none⟩), .int .i64 (i : Int), .func (.func 117) #[] #[.pointer (some ⟨bt, 0, none⟩)]] W fun e w' => e = .returned (.bool (allF (M i) (fun k => told.contains k) n)) ∧ Below W.heap.size W w') :=
  ⟨fun W hb => all_calls _ lo gg va vs rb M n i #[] _ (fun k => told.contains k) W eg (fun W2 k hk hb2 => by simpa using was_calls (h.on (on_ hb hb2)) hl k) (hg.on hb) hi hn⟩
 have HB := Aside0.mk (And.intro hw hbg)
 have hq1 := row_cell (j := 0) hw rfl
 have hq2 := row_cell (j := 0) hbg rfl
 have HF : Aside0 (nextP M n told i = (!told.contains i && allF (M i) (fun k => told.contains k) n)) := ⟨rfl⟩
 clear h hg hw hbg
 generalize nextP M n told i = rr at *
 generalize allF (M i) (fun k => told.contains k) n = b2 at *
 generalize told.contains i = b1 at *
 simp only [wasV] at hq1 HB
 go_enter Tryz.func120, Tryz.ntmps120
 cases b1
 · go_wp2_with (first | (go_at_fn 117; refine hc1.out.mono ?_; rintro e w1 ⟨rfl, hb1⟩; have hq3 := row_cell (j := 0) (row_on hb1 HB.out.1) rfl; have hq4 := row_cell (j := 0) (row_on hb1 HB.out.2) rfl) | (go_at_call 121; refine (hc2.out _ hb1).mono ?_; rintro e w2 ⟨rfl, hb2⟩))
   go_ret
   rw [HF.out]
   exact ⟨rfl, on_ hb1 hb2⟩
 · go_wp2_with (first | (go_at_fn 117; refine hc1.out.mono ?_; rintro e w1 ⟨rfl, hb1⟩))
   go_ret
   rw [HF.out]
   exact ⟨rfl, hb1⟩
end Go.Proofs.YtgjddnaidjbhlaaGreatDoor.Pl

/- An append tells where its row lies: where it lay, or in new memory. -/
namespace Go.Proofs.YtgjddnaidjbhlaaGreatDoor.Pl
open Go.RowKit

theorem append_where {P : Program} (w : World) (base : Nat) (t ty e : TypeId) (i : TypeInfo) (z : Value) (bytes : Nat) (ht : P.underlying t = some (.slice e)) (hi : P.info? e = some i) (hz : i.zero = some z)
 (hsize : i.size = 1) (hby : i.bytes = bytes) (hzs : z.cells.size = 1) (v : Value) (n : Nat) (xs : List Value) (hown : w.ownsRow base e 1 v n xs)
 (a : Addr) (c : Nat) (u : Value) (hu : ∀ j x, [u][j]? = some x → w.cell? (a.add j) = some x) (h1 : ∀ x ∈ [u], x.oneCell' = true)
 (h63 : n + 1 ≤ maxLen) (hbytes : (n + 1) * bytes ≤ 140737488355328) (hbase : base ≤ w.heap.size) :
 ∃ v' w', (Builtin.append_ #[t, t] ty #[v, .slice (some a) 1 c]).run P w = .ok v' w' ∧ w'.ownsRow base e 1 v' (n + 1) (xs ++ [u]) ∧ w.grownBy w' v.ownBlock ∧ (∀ k, v'.ownBlock = some k → v.ownBlock = some k ∨ w.heap.size ≤ k) := by
 obtain ⟨v', w', hr, h2, h3, _⟩ := run_append_own (P := P) w base t ty e i z 1 bytes ht hi hz hsize hby hzs (by omega) v n xs hown a 1 c [u] rfl hu h1 h63 hbytes hbase
 refine ⟨v', w', hr, h2, h3, ?_⟩
 have hsm : n + 1 ≤ 9223372036854775807 := by simp only [maxLen] at h63; omega
 rcases hown.2 with ⟨rfl, rfl⟩ | ⟨g, cap, cur, rfl, hbg, hg, hnc, hcm, hcs, htake⟩
 · have h4 := run_append_nil (P := P) w t ty e i z ht hi hz a 1 c [u] (by rw [hsize]; rfl) hu (by omega) (by omega) (by rw [hby]; omega)
   rw [hr] at h4
   injection h4 with e1 e2
   subst e1
   intro k hk
   injection hk with hk
   exact .inr (by rw [← hk]; exact Nat.le_refl _)
 · by_cases hroom : n + 1 ≤ cap
   · obtain ⟨w2, h4, _⟩ := run_append_fits (P := P) w base t ty e i 1 ht hi hsize g n cap xs hown a 1 c [u] rfl hu h1 hroom
     rw [hr] at h4
     injection h4 with e1 e2
     subst e1
     intro k hk
     exact .inl hk
   · have holds : ∀ j x, xs[j]? = some x → w.cell? ((⟨g, 0, none⟩ : Addr).add j) = some x := hown.cells (g := g) rfl
     have h4 := run_append_grow (P := P) w t ty e i z ht hi hz ⟨g, 0, none⟩ n cap xs (by rw [hsize]; exact hown.1) holds a 1 c [u] (by rw [hsize]; rfl) hu (by omega) (by omega) (growslice_fits (by omega) (by rw [hby]; exact hbytes))
     rw [hr] at h4
     injection h4 with e1 e2
     subst e1
     intro k hk
     injection hk with hk
     exact .inr (by rw [← hk]; exact Nat.le_refl _)

theorem wpListIn_append_where {F : Fence} {n : Nat} {P : Program} (w : World) {ops : Array Oper} {rest : List Oper} {o : Oper} {a : Act} {Q : Exit → Act → World → Prop}
 (hg : o.guard = none) (s x : Operand) (t : TypeId) (hop : o.op = Op.call { callee := Callee.builtin Builtin.append, args := #[s, x], argTypes := #[t, t] })
 (base : Nat) (e : TypeId) (i : TypeInfo) (z : Value) (bytes : Nat) (ht : P.underlying t = some (.slice e)) (hi : P.info? e = some i) (hz : i.zero = some z)
 (hsize : i.size = 1) (hby : i.bytes = bytes) (hzs : z.cells.size = 1) (v : Value) (k : Nat) (xs : List Value) (hs : a.eval s = v) (hown : w.ownsRow base e 1 v k xs)
 (ad : Addr) (c : Nat) (u : Value) (hx : a.eval x = .slice (some ad) 1 c) (hu : ∀ j x, [u][j]? = some x → w.cell? (ad.add j) = some x) (h1 : ∀ x ∈ [u], x.oneCell' = true)
 (h63 : k + 1 ≤ maxLen) (hbytes : (k + 1) * bytes ≤ 140737488355328) (hbase : base ≤ w.heap.size)
 (hK : ∀ v' w', w'.ownsRow base e 1 v' (k + 1) (xs ++ [u]) → w.grownBy w' v.ownBlock → (∀ k, v'.ownBlock = some k → v.ownBlock = some k ∨ w.heap.size ≤ k) → wpListIn F n P ops Q rest (a.put o.dst v') w') :
 wpListIn F n P ops Q (o :: rest) a w := by
 refine wpListIn_plain hg fun K hK' => ?_
 obtain ⟨v', w', hrun, r1, r2, r3⟩ := append_where (P := P) w base t o.type e i z bytes ht hi hz hsize hby hzs v k xs hown ad c u hu h1 h63 hbytes hbase
 unfold Oper.wpIn
 refine ⟨?_, ?_⟩
 · simp [Oper.about, hop, resolve, Target.leads, Sem.run_pure]
 · rw [Oper.semAt_plain F _ _ (by rw [hop]; intro c hc'; cases hc')]
   simp [execOp, hop, resolve, invoke, builtin, hs, hx, hrun, Result.andThen]
   exact hK' _ _ (hK v' w' r1 r2 r3)

/-- A number has been appended to the slice of a box, and the slice laid back. -/
theorem laid {wr w5 w6 : World} {b base : Nat} {v v' : Value} {l : List Nat} {x : Nat} {tmp : Obj} (h : Told wr b base v l) (hb : Below wr.heap.size wr w5)
 (hown : w6.ownsRow base 3 1 v' (l.length + 1) (selV l ++ [.int .i64 (x : Int)])) (hgr : (w5.alloc tmp).grownBy w6 v.ownBlock) :
 w6.heap[b]? = some (.cells #[v] 25 (0, 0)) ∧ Told (w6.setCell ⟨b, 0, none⟩ v') b base v' (l ++ [x]) ∧ Chg (fun k => k = b ∨ v.ownBlock = some k) wr (w6.setCell ⟨b, 0, none⟩ v') := by
 have hb2 : Below wr.heap.size wr (w5.alloc tmp) := on_ hb (below_one w5 tmp)
 have hnb : ∀ {W : World} {u : Value} {m : Nat} {ys : List Value} {q : Value}, W.ownsRow base 3 1 u m ys → W.heap[b]? = some (.cells #[q] 25 (0, 0)) → u.ownBlock ≠ some b := fun {W u m ys q} ho hb e => by
  rcases ho.2 with ⟨rfl, _⟩ | ⟨g, cap, cur, rfl, _, h2, _⟩
  · cases e
  · injection e with e
    have e : g = b := e
    subst e
    have h3 := h2.symm.trans hb
    simp at h3
 have h6 : w6.heap[b]? = some (.cells #[v] 25 (0, 0)) := by
  have h5 := row_on hb2 h.box
  exact (hgr.block b (Array.getElem?_eq_some_iff.1 h5).1 (fun e => hnb h.own h.box e.symm)).trans h5
 refine ⟨h6, ⟨?_, ?_⟩, ?_⟩
 · rw [row_setCell h6]
   rfl
 · rw [selV_snoc, List.length_append]
   exact ownsRow_chg hown (Chg.setCell w6 _ _) fun k hk e => hnb hown h6 (by rw [hk]; exact congrArg some e)
 · exact (((Chg.of_below hb2 : Chg (fun k => k = b ∨ v.ownBlock = some k) _ _)).trans ((Chg.of_own hgr).mono fun k hk => Or.inr hk)).trans ((Chg.setCell w6 ⟨b, 0, none⟩ v').mono fun k hk => Or.inl hk)
end Go.Proofs.YtgjddnaidjbhlaaGreatDoor.Pl

/- plan.Order's iterator: what it promises. -/
namespace Go.Proofs.YtgjddnaidjbhlaaGreatDoor.Pl
open Go.RowKit Go.IntWalk Go.Shelf Go.Proofs.YtgjddnaidjbhlaaGreatDoorW.PrintWords Go.Proofs.YtgjddnaidjbhlaaGreatDoor.PlName
attribute [local go_sem] Oper.semAt_some

theorem Gr.keep {w w' : World} {lo gg : Nat} {v vs : Value} {rb : Nat → Nat} {m n : Nat} {M : Nat → Nat → Bool} {Y : Nat → Prop} (h : Gr w lo gg v vs rb m n M) (hk : Keep Y w w') (hY : ∀ k, lo ≤ k → k < w.heap.size → Y k) : Gr w' lo gg v vs rb m n M := by
 have hb : ∀ {k : Nat} {o : Obj}, w.heap[k]? = some o → lo ≤ k → w'.heap[k]? = some o := fun {k o} ho hl => hk.row ho (hY k hl (Array.getElem?_eq_some_iff.1 ho).1)
 refine ⟨hb h.box h.lo_.1, ⟨h.own.1, ?_⟩, fun k hm => hb (h.row k hm) (h.lo_.2 k hm), h.inj, h.lo_⟩
 rcases h.own.2 with hn | ⟨g, cap, cur, e, h1, h2, rest⟩
 · exact .inl hn
 · exact .inr ⟨g, cap, cur, e, h1, hb h2 h1, rest⟩
/-- The iterator, between two rounds. -/
structure It (w0 W wr : World) (lo : Nat) (Y : Nat → Prop) (bt bw : Nat) (v : Value) (l : List Nat) : Prop where
 told : Told wr bt W.heap.size v l
 was : wr.heap[bw]? = some (.cells #[wasV bt] 104 (0, 0))
 keep : Keep (fun k => lo ≤ k ∧ k < w0.heap.size) w0 wr
 x : ∀ k, lo ≤ k ∧ k < w0.heap.size → Y k
 yt : Y bt
 yw : Y bw
 yv : ∀ k, v.ownBlock = some k → Y k
 size : w0.heap.size ≤ W.heap.size ∧ W.heap.size ≤ wr.heap.size ∧ W.heap.size ≤ bt
theorem It.chg {w0 W wr W7 : World} {lo : Nat} {Y : Nat → Prop} {bt bw : Nat} {v v' : Value} {l : List Nat} {x : Nat} (h : It w0 W wr lo Y bt bw v l) (hc : Chg (fun k => k = bt ∨ v.ownBlock = some k) wr W7) (ht : Told W7 bt W.heap.size v' (l ++ [x]))
 (hw : ∀ k, v'.ownBlock = some k → v.ownBlock = some k ∨ wr.heap.size ≤ k) : It w0 W W7 lo (More Y wr W7) bt bw v' (l ++ [x]) ∧ Chg Y wr W7 := by
 have hlow : ∀ k, v.ownBlock = some k → W.heap.size ≤ k := fun k hk => (h.told.own.lt k hk).1
 refine ⟨⟨ht, hc.row h.was ?_, ?_, fun k hk => .inl (h.x k hk), .inl h.yt, .inl h.yw, fun k hk => ?_, h.size.1, Nat.le_trans h.size.2.1 hc.size, h.size.2.2⟩, hc.mono ?_⟩
 · rintro (e | e)
   · subst e
     have h1 := h.was.symm.trans h.told.box
     simp at h1
   · rcases h.told.own.2 with ⟨e2, _⟩ | ⟨g, cap, cur, e2, _, h2, _⟩
     · rw [e2] at e
       cases e
     · rw [e2] at e
       injection e with e
       have e : g = bw := e
       subst e
       have h1 := h.was.symm.trans h2
       simp at h1
 · refine h.keep.trans (Keep.of_chg hc fun k hk => ⟨?_, ?_⟩)
   · have := h.size
     omega
   · rintro (e | e)
     · have := h.size
       omega
     · have := hlow k e
       have := h.size
       omega
 · rcases hw k hk with h1 | h1
   · exact .inl (h.yv k h1)
   · exact .inr ⟨h1, (ht.own.lt k hk).2⟩
 · rintro k (e | e)
   · exact e ▸ h.yt
   · exact h.yv k e

theorem It.kept {w0 W wr W8 : World} {lo : Nat} {Y : Nat → Prop} {bt bw : Nat} {v : Value} {l : List Nat} (h : It w0 W wr lo Y bt bw v l) (hk : Keep Y wr W8) : It w0 W W8 lo Y bt bw v l := by
 refine ⟨⟨hk.row h.told.box h.yt, ⟨h.told.own.1, ?_⟩⟩, hk.row h.was h.yw, h.keep.trans (hk.mono h.x), h.x, h.yt, h.yw, h.yv, h.size.1, Nat.le_trans h.size.2.1 hk.size, h.size.2.2⟩
 rcases h.told.own.2 with hn | ⟨g, cap, cur, e, h1, h2, rest⟩
 · exact .inl hn
 · exact .inr ⟨g, cap, cur, e, h1, hk.row h2 (h.yv g (by rw [e]; rfl)), rest⟩

set_option maxHeartbeats 4000000 in
set_option maxRecDepth 100000 in
theorem seq_order {w0 : World} {bg lo gg : Nat} {v0 vs : Value} {rb : Nat → Nat} {n : Nat} {M : Nat → Nat → Bool} (hbg : w0.heap[bg]? = some (.cells #[.pointer (some ⟨gg, 0, none⟩)] 127 (0, 0))) (hlo : lo ≤ bg)
 (hg : Gr w0 lo gg v0 vs rb n n M) (hA : Acyc M n) (hn : n ≤ 1000000) (hn0 : 0 < n) :
 SeqY Tryz.prog 116 #[.pointer (some ⟨bg, 0, none⟩)] (fun x : Nat => #[Value.int .i64 (x : Int)]) (fun xs => xs = ordL M n n) (fun pre x => pre.length < n ∧ x < n) (fun k => lo ≤ k ∧ k < w0.heap.size) w0 := by
 intro l J W hK hJa hY h0
 obtain ⟨ga, cap, rfl, _⟩ := hg.ahead hn0
 have hbg1 := hK.row hbg ⟨hlo, (Array.getElem?_eq_some_iff.1 hbg).1⟩
 have hq := row_cell (j := 0) hbg1 rfl
 have hs1 : (W.alloc (.cells #[.slice none 0 0] 25)).heap.size = W.heap.size + 1 := by
  show (W.heap.push _).size = _
  simp
 have hr2 := alloc1 (W.alloc (.cells #[.slice none 0 0] 25)) (.cells #[.nilFunc] 104)
 rw [hs1] at hr2
 have hfr : ((W.alloc (.cells #[.slice none 0 0] 25)).alloc (.cells #[.nilFunc] 104)).frozen? ⟨W.heap.size + 1, 0, none⟩ = false := free_of_row hr2
 have hqn : ((W.alloc (.cells #[.slice none 0 0] 25)).alloc (.cells #[.nilFunc] 104)).cell? ⟨W.heap.size + 1, 0, none⟩ = some .nilFunc := row_cell hr2 rfl
 have hst := run_store Tryz.prog ((W.alloc (.cells #[.slice none 0 0] 25)).alloc (.cells #[.nilFunc] 104)) ⟨W.heap.size + 1, 0, none⟩ (wasV W.heap.size) .plain rfl
 rw [hqn] at hst
 simp only [hfr, wasV] at hst
 have hb3 := on_ (below_one W (.cells #[.slice none 0 0] 25)) (below_one (W.alloc (.cells #[.slice none 0 0] 25)) (.cells #[wasV W.heap.size] 104))
 have hr4 := alloc1 (W.alloc (.cells #[.slice none 0 0] 25)) (.cells #[wasV W.heap.size] 104)
 have hr3 := row_on (below_one (W.alloc (.cells #[.slice none 0 0] 25)) (.cells #[wasV W.heap.size] 104)) (alloc1 W (.cells #[.slice none 0 0] 25))
 rw [hs1] at hr4
 have HS := Aside0.mk (And.intro hb3 (And.intro hr3 hr4))
 have hgK := hg.keep hK (fun k h1 h2 => ⟨h1, h2⟩)
 have hqg := row_cell (j := 0) (row_on hb3 hgK.box) rfl
 have hqb := row_cell (j := 0) (row_on hb3 hbg1) rfl
 clear hr2 hqn hb3 hr3 hr4
 simp only [wasV] at hqg hqb
 refine callsIn_of_wp Tryz.func116 rfl trivial ?_ rfl
 simp only [Tryz.ntmps116, List.size_toArray, List.length_cons, List.length_nil, Nat.reduceAdd, Nat.reduceSub, Array.replicate_succ, Array.replicate_zero, List.push_toArray, List.append_toArray, List.nil_append, List.cons_append]
 obtain ⟨i3, hi3, hz3, hs3, hb3⟩ := info_parts int_info
 have HI := Aside0.mk (And.intro hi3 (And.intro hz3 (And.intro hs3 hb3)))
 have hJ1 := hJa _ _ _ _ h0 (Chg.of_below HS.out.1)
 have hIt : It w0 W ((W.alloc (.cells #[.slice none 0 0] 25)).alloc (.cells #[wasV W.heap.size] 104)) lo (More (fun k => lo ≤ k ∧ k < w0.heap.size) W ((W.alloc (.cells #[.slice none 0 0] 25)).alloc (.cells #[wasV W.heap.size] 104))) W.heap.size (W.heap.size + 1) (.slice none 0 0) [] :=
  ⟨⟨HS.out.2.1, World.ownsRow_nil _ _ _ _⟩, HS.out.2.2, hK.trans ⟨HS.out.1.size, fun k hk => HS.out.1.block k (Nat.lt_of_lt_of_le hk.2 hK.size)⟩, fun k hk => .inl hk,
   .inr ⟨Nat.le_refl _, (Array.getElem?_eq_some_iff.1 HS.out.2.1).1⟩, .inr ⟨Nat.le_succ _, (Array.getElem?_eq_some_iff.1 HS.out.2.2).1⟩, fun k hk => (by cases hk), hK.size, HS.out.1.size, Nat.le_refl _⟩
 have H0 := Aside0.mk (And.intro hJ1 hIt)
 have HY := Aside0.mk (And.intro hJa hY)
 have HG := Aside0.mk (And.intro hbg (And.intro hlo (And.intro hg hA)))
 clear hi3 hz3 hs3 hb3 hJ1 hIt hJa hY hg hbg hA h0 hK hgK hbg1 hlo
 have eg : ∀ args w, (callFunc 120 args).run Tryz.prog w = .ok (.enter 120 args) w := fun _ _ => by kernel_rfl
 simp only [wasV] at H0
 gi_wp2
 generalize hW2 : World.alloc (World.alloc W _) _ = W2 at *
 clear hqg hqb hs1
 gi_loopw [14] (fun v14 wr => ∃ (t : Nat) (Y : Nat → Prop) (v : Value), t ≤ n ∧ v14 = .int .i64 (t : Int) ∧ J (ordL M n t) Y wr ∧ It w0 W wr lo Y W.heap.size (W.heap.size + 1) v (ordL M n t)) (fun v14 _ => n - (intOf v14).toNat)
 case atStart => exact ⟨0, _, _, Nat.zero_le _, rfl, H0.out.1, H0.out.2⟩
 case round =>
  obtain ⟨t, Y, v, ht, rfl, hJ, hI⟩ := hrel
  have HR := Aside0.mk (And.intro hJ hI)
  clear hJ hI H0
  by_cases hlt : t < n
  · have hd2 : decide ((t : Int) < (n : Int)) = true := decide_eq_true (by omega)
    obtain ⟨x, xs, hsel, hxn, hxt⟩ := (ordL_ok HG.out.2.2.2 (Nat.le_of_lt hlt)).2.2 hlt
    have hgr := HG.out.2.2.1.keep HR.out.2.keep (fun k h1 h2 => ⟨h1, h2⟩)
    have hbgr := HR.out.2.keep.row HG.out.1 ⟨HG.out.2.1, (Array.getElem?_eq_some_iff.1 HG.out.1).1⟩
    have hqb := row_cell (j := 0) hbgr rfl
    have hlen := ordL_len M n t
    have hthose := Aside0.mk (those_calls 120 gg _ cap n _ #[.pointer (some ⟨W.heap.size + 1, 0, none⟩), .pointer (some ⟨bg, 0, none⟩)] (nextP M n (ordL M n t)) _ eg (fun W2 k hk hb => by simpa using next_calls (HR.out.2.told.on hb) (row_on hb HR.out.2.was) (row_on hb hbgr) (hgr.on hb) (by omega) hn hk) hgr.box hn)
    have hnx : ordL M n (t + 1) = ordL M n t ++ [x] := by rw [ordL, hsel]; rfl
    rw [hsel] at hthose
    have HX := Aside0.mk (And.intro hsel (And.intro hxt hnx))
    clear hgr hbgr hsel hxt hnx
    generalize ordL M n t = l0 at *
    gi_wp2_with (first | (refine ⟨trivial, ?_⟩; gi_at_call 119; refine (callsIn_wide.2 hthose.out).mono ?_; rintro e w5 ⟨⟨v5, rfl, hown5⟩, hb5⟩; obtain ⟨g5, cap5, rfl⟩ := own_some hown5; have hx5 : w5.cell? ⟨g5, 0, none⟩ = some (.int .i64 (x : Int)) := (by have := hown5.cells (g := g5) rfl 0 (.int .i64 (x : Int)) rfl; rw [Addr.add_lit] at this; exact this); have HT5 := Aside0.mk (And.intro hb5 (HR.out.2.told.on hb5)); have hq5 := row_cell (j := 0) HT5.out.2.box rfl; clear hown5 hb5) | (gi_at_builtin; refine wpListIn_append_where _ rfl (.tmp 21) (.tmp 23) 25 rfl W.heap.size 3 i3 (.int .i64 0) 8 Tryz.underlying25 HI.out.1 HI.out.2.1 HI.out.2.2.1 HI.out.2.2.2 rfl v l0.length (selV l0) rfl (HT5.out.2.own.alloc _) ⟨w5.heap.size, 0, none⟩ 1 (.int .i64 (x : Int)) rfl (one_new _ _ _) (by intro u hu; simp at hu; subst hu; rfl) (by unfold maxLen; omega) (by omega) (by have := HR.out.2.size.2.1; have := HT5.out.1.size; simp; omega) ?_; intro v6 w6 hown6 hgr6 hwh6; have hown6' := hown6; rw [hlen] at hown6'; obtain ⟨g6, cap6, rfl⟩ := own_some hown6'; clear hown6'; have HL := Aside0.mk (laid HR.out.2.told HT5.out.1 hown6 hgr6); have hc6 := row_cell (j := 0) HL.out.1 rfl; have hf6 := free_of_row (j := 0) HL.out.1; have HN := Aside0.mk (HR.out.2.chg HL.out.2.2 HL.out.2.1 (fun k hk => (hwh6 k hk).imp_right fun h => Nat.le_trans (Nat.le_trans HT5.out.1.size (below_one w5 _).size) h)); obtain ⟨fn7, tmps7, assign7, body7, hy7, hR7⟩ := HY.out.2 l0 _ x _ (HY.out.1 _ _ _ _ HR.out.1 HN.out.2) ⟨by omega, hxn⟩; replace hR7 := Aside0.mk hR7; clear hown6 hgr6 hwh6))
    refine hR7.out.mono ?_
    rintro e W8 ⟨rfl, hJ8, hk8⟩
    have H8 := Aside0.mk (And.intro hJ8 hk8)
    clear hJ8 hk8
    gi_wp2
    go_roundw
    case rel => exact ⟨t + 1, _, _, hlt, by go_num, by rw [HX.out.2.2]; exact H8.out.1, by rw [HX.out.2.2]; exact HN.out.1.kept H8.out.2⟩
    case measure => simp [intOf]; omega
  · have ht' : t = n := by omega
    subst ht'
    have hd2 : decide ((t : Int) < (t : Int)) = false := decide_eq_false (by omega)
    gi_wp2
    go_end0
    exact ⟨⟨_, rfl⟩, _, _, rfl, HR.out.1⟩
end Go.Proofs.YtgjddnaidjbhlaaGreatDoor.Pl

/- slices.Backward over numbers: what its iterator promises (P19): walked by hand. -/
namespace Go.Proofs.YtgjddnaidjbhlaaGreatDoor.Ph
open Go.RowKit Go.IntWalk Go.Shelf Go.Proofs.YtgjddnaidjbhlaaGreatDoorW.PrintWords Go.Proofs.YtgjddnaidjbhlaaGreatDoor.PlName Go.Proofs.YtgjddnaidjbhlaaGreatDoor.Pl
attribute [local go_sem] Oper.semAt_some

/-- The t-th that it tells: from the last one on. -/
def bkAt (o : List Nat) (t : Nat) : Nat := o.getD (o.length - 1 - t) 0
def bkIx (o : List Nat) (t : Nat) : Nat := o.length - 1 - t
def backE (o : List Nat) (t : Nat) : Array Value := #[.int .i64 (bkIx o t : Int), .int .i64 (bkAt o t : Int)]
set_option maxHeartbeats 4000000 in
set_option maxRecDepth 100000 in
theorem seq_back {w0 : World} {bs : Nat} {As : Option Addr} {cs : Nat} (o : List Nat) (hbs : w0.heap[bs]? = some (.cells #[.slice As o.length cs] 25 (0, 0))) (X : Nat → Prop) (hX : X bs)
 (hr : ∀ W, Keep X w0 W → Kd.C (Kd.int .i64) W As (intsOf o).length (intsOf o)) (ho : o.length ≤ 1000000) :
 SeqY Tryz.prog 125 #[.pointer (some ⟨bs, 0, none⟩)] (backE o) (fun xs => xs = List.range o.length) (fun pre t => t = pre.length ∧ t < o.length) X w0 := by
 intro l J W hK hJa hY h0
 have hq := row_cell (j := 0) (hK.row hbs hX) rfl
 have HG := Aside0.mk (And.intro hbs (And.intro hX hr))
 have HY := Aside0.mk hY
 have H0 := Aside0.mk (And.intro h0 hK)
 clear hbs hr hY h0 hK hJa
 refine callsIn_of_wp Tryz.func125 rfl trivial ?_ rfl
 simp only [Tryz.ntmps125, List.size_toArray, List.length_cons, List.length_nil, Nat.reduceAdd, Nat.reduceSub, Array.replicate_succ, Array.replicate_zero, List.push_toArray, List.append_toArray, List.nil_append, List.cons_append]
 gi_wp2
 gi_loopw [3] (fun v3 wr => ∃ j : Nat, j ≤ o.length ∧ v3 = .int .i64 ((j : Int) - 1) ∧ J (List.range (o.length - j)) X wr ∧ Keep X w0 wr) (fun v3 _ => (intOf v3 + 1).toNat)
 case atStart => exact ⟨o.length, Nat.le_refl _, rfl, by rw [Nat.sub_self]; exact H0.out.1, H0.out.2⟩
 case round =>
  obtain ⟨j, hj, rfl, hJ, hI⟩ := hrel
  have HR := Aside0.mk (And.intro hJ hI)
  clear hJ hI H0 hq
  have hq := row_cell (j := 0) (HR.out.2.row HG.out.1 HG.out.2.1) rfl
  cases j with
  | zero =>
   gi_wp2
   go_end0
   exact ⟨⟨_, rfl⟩, _, _, rfl, by have := HR.out.1; rw [Nat.sub_zero] at this; exact this⟩
  | succ j =>
   have e1 : ((j + 1 : Nat) : Int) - 1 = (j : Int) := by omega
   rw [e1]
   have hki : j < (intsOf o).length := by rw [intsOf_len]; omega
   obtain ⟨ao, rfl, hcell⟩ := int_at (HG.out.2.2 _ HR.out.2) hki
   have hge : (intsOf o)[j]'hki = ((o.getD j 0 : Nat) : Int) := by simp [intsOf, List.getD_eq_getElem?_getD, List.getElem?_eq_getElem (show j < o.length by omega)]
   rw [hge] at hcell
   have hd1 : decide ((j : Int) < (o.length : Int)) = true := decide_eq_true (by omega)
   have hd0 : decide ((j : Int) ≥ 0) = true := decide_eq_true (by omega)
   obtain ⟨fn7, tmps7, assign7, body7, hy7, hR7⟩ := HY.out _ _ (o.length - (j + 1)) _ HR.out.1 ⟨by simp, by omega⟩
   have hE : backE o (o.length - (j + 1)) = #[.int .i64 (j : Int), .int .i64 ((o.getD j 0 : Nat) : Int)] := by
    unfold backE bkIx bkAt
    rw [show o.length - 1 - (o.length - (j + 1)) = j by omega]
   rw [hE] at hy7
   replace hR7 := Aside0.mk hR7
   clear hge hki e1 hE
   generalize o.getD j 0 = z at *
   gi_wp2
   refine hR7.out.mono ?_
   rintro e W8 ⟨rfl, hJ8, hk8⟩
   have H8 := Aside0.mk (And.intro hJ8 (HR.out.2.trans hk8))
   clear hJ8 hk8
   gi_wp2
   go_roundw
   case rel =>
    refine ⟨j, by omega, rfl, ?_, H8.out.2⟩
    rw [show o.length - j = o.length - (j + 1) + 1 by omega, List.range_succ]
    exact H8.out.1
   case measure => simp [intOf]
set_option maxHeartbeats 4000000 in
theorem backward_calls (As : Option Addr) (n cs : Nat) (W : World) :
 Calls Tryz.prog 57 #[.slice As n cs] W fun e w' => e = .returned (.func (.func 125) #[] #[.pointer (some ⟨W.heap.size, 0, none⟩)]) ∧ w' = W.alloc (.cells #[.slice As n cs] 25) := by
 go_enter Tryz.func57, Tryz.ntmps57
 go_wp2
 go_ret
 exact ⟨rfl, rfl⟩
end Go.Proofs.YtgjddnaidjbhlaaGreatDoor.Ph

-- PRINTED BY print.sh 35421559b90ae4d0a3588c463048766b98c2df88dd9212a6774a882060cdf62d: not written by this session
namespace Go.Proofs.YtgjddnaidjbhlaaGreatDoor.PPhaseStarts
open Go.RowKit Go.Proofs.YtgjddnaidjbhlaaGreatDoorW.PrintWords Go.Proofs.YtgjddnaidjbhlaaGreatDoorW.PrintLast Go.Proofs.YtgjddnaidjbhlaaGreatDoorW.PrintMore
attribute [local go_sem] max2_int min2_int max_two min_two max_three min_three max_four min_four   -- for this text's walks alone
set_option linter.unusedVariables false
set_option linter.unusedSimpArgs false

def errW : Option Int → Value
 | none => .nilIface
 | some c => .iface 0 (.int .i64 c)
theorem errW_none : errW none = .nilIface := rfl
theorem errW_some (c : Int) : errW (some c) = .iface 0 (.int .i64 c) := rfl

theorem info3 : (Tryz.prog.info? 3).map (fun i => (i.zero, i.size, i.bytes)) = some (some (.int .i64 0), 1, 8) := by kernel_rfl
-- the values' own types
/-! #### struct type 70 -/
structure S70 where
 f0 : ByteArray
 f1 : Int
 f2 : Int
 f3 : (List ByteArray)
 f4 : (List Int)
def z70 : S70 := ⟨(⟨#[]⟩ : ByteArray), (0 : Int), (0 : Int), ([] : List ByteArray), ([] : List Int)⟩
end Go.Proofs.YtgjddnaidjbhlaaGreatDoor.PPhaseStarts

-- PRINTED BY print.sh 35421559b90ae4d0a3588c463048766b98c2df88dd9212a6774a882060cdf62d: not written by this session
namespace Go.Proofs.YtgjddnaidjbhlaaGreatDoor.PPhaseStarts
open Go.RowKit Go.Proofs.YtgjddnaidjbhlaaGreatDoorW.PrintWords Go.Proofs.YtgjddnaidjbhlaaGreatDoorW.PrintLast Go.Proofs.YtgjddnaidjbhlaaGreatDoorW.PrintMore
attribute [local go_sem] max2_int min2_int max_two min_two max_three min_three max_four min_four   -- for this text's walks alone
set_option linter.unusedVariables false
set_option linter.unusedSimpArgs false

/-! ### name_letter: function 80 -/
def name_letter.j0 : Nat → Int → Bool → Option (Bool)
 | 0, _, _ => none
 | k + 1, x0, x3 => if x3 = true then (some true) else (if x0 ≥ 945 then (if x0 ≤ 969 then (some true) else (if x0 = 228 then (some true) else (if x0 = 246 then (some true) else (if x0 = 252 then (some true) else (some (x0 == 223)))))) else (if x0 = 228 then (some true) else (if x0 = 246 then (some true) else (if x0 = 252 then (some true) else (some (x0 == 223))))))
-- NOT PRINTED: function 32 (name_Is)

-- NOT PRINTED: function 176 (api_Step_176)

-- NOT PRINTED: function 138 (api_Step_138)

-- NOT PRINTED: function 177 (name_Owner)

-- NOT PRINTED: function 197 (utf8_decodeRuneInStringSlow)

-- NOT PRINTED: function 185 (utf8_DecodeRuneInString)

-- NOT PRINTED: function 178 (name_Compare)

-- NOT PRINTED: function 140 (check_keys)

/-! ### check_needs: function 141 -/
-- NOT PRINTED: function 70 (check_alone)

-- NOT PRINTED: function 71 (check_first)

-- NOT PRINTED: function 76 (check_rings)

-- NOT PRINTED: function 31 (check_Check)

-- NOT PRINTED: function 33 (phase_view_kinds)

-- NOT PRINTED: function 12 (phase_Start)

/-! ### odysseyref01_long: function 146 -/
mutual
def odysseyref01_long.j0 : Nat → Int → Bool → Option (Int)
 | 0, _, _ => none
 | k + 1, x0, x6 => if x6 = true then (some 2) else (if x0 ≥ 224 then (odysseyref01_long.j1 k x0 (decide (x0 ≤ 239))) else (odysseyref01_long.j1 k x0 false))
def odysseyref01_long.j1 : Nat → Int → Bool → Option (Int)
 | 0, _, _ => none
 | k + 1, x0, x13 => if x13 = true then (some 3) else (if x0 ≥ 240 then (if x0 ≤ 244 then (some 4) else (some 0)) else (some 0))
end
def odysseyref01_long.f (k : Nat) (a0 : Int) : Option (Int) := if a0 < 128 then (some 1) else (if a0 ≥ 194 then (odysseyref01_long.j0 k a0 (decide (a0 ≤ 223))) else (odysseyref01_long.j0 k a0 false))
set_option maxHeartbeats 8000000 in
set_option maxRecDepth 100000 in
theorem odysseyref01_long.calls (k : Nat) (a0 : Int) (r : Int) (w : World) (h : odysseyref01_long.f k a0 = some r) :
 Calls Tryz.prog 146 #[.int .i64 a0] w fun e w' => e = .returned (.int .i64 r) ∧ Drawn0 w w' := by
 have H : (if a0 < 128 then (some 1) else (if a0 ≥ 194 then (odysseyref01_long.j0 k a0 (decide (a0 ≤ 223))) else (odysseyref01_long.j0 k a0 false))) = some r := h
 clear h
 by_cases c2 : a0 < 128
 · rw [if_pos c2] at H
   have c2b0 : decide (a0 < 128) = true := decide_eq_true c2
   clear c2
   obtain rfl := Option.some.inj H
   go_enter Tryz.func146, Tryz.ntmps146
   go_wp2
   go_ret
   exact ⟨by first | rfl | (simp; done) | (simp [*]; done), by repeat (first | exact Drawn0.refl _ | apply Drawn0.step)⟩
 · rw [if_neg c2] at H
   have c2b0 : decide (a0 < 128) = false := decide_eq_false c2
   clear c2
   have HC3 := Aside0.mk H
   clear H
   go_enter Tryz.func146, Tryz.ntmps146
   go_upto_region 3 with (fail)
   go_cut [6] (fun v6 wc => ∃ (kq : Nat) (x6_2 : Bool), v6 = .bool x6_2 ∧ Aside0 (odysseyref01_long.j0 kq a0 x6_2 = some r) ∧ Aside0 (kq ≤ k) ∧ Drawn0 w wc)
   case first =>
    have H := HC3.out
    clear HC3
    by_cases c4 : a0 ≥ 194
    · rw [if_pos c4] at H
      have c4b0 : decide (194 ≤ a0) = true := decide_eq_true c4
      clear c4
      (first | rw [c4b0] | (simp only [i64_w, i32_w]; rw [c4b0]) | skip)
      have H' := Aside0.mk H
      clear H
      go_wp2
      go_meet
      case rel => exact ⟨_, (decide (a0 ≤ 223)), (by first | rfl | (simp; done) | (simp [*]; done)), H', ⟨by first | omega | exact Nat.le_refl _⟩, by repeat (first | exact Drawn0.refl _ | apply Drawn0.step)⟩
    · rw [if_neg c4] at H
      have c4b0 : decide (194 ≤ a0) = false := decide_eq_false c4
      clear c4
      (first | rw [c4b0] | (simp only [i64_w, i32_w]; rw [c4b0]) | skip)
      have H' := Aside0.mk H
      clear H
      go_wp2
      go_meet
      case rel => exact ⟨_, (false), (by first | rfl | (simp; done) | (simp [*]; done)), H', ⟨by first | omega | exact Nat.le_refl _⟩, by repeat (first | exact Drawn0.refl _ | apply Drawn0.step)⟩
   case rest =>
    clear HC3
    try clear c1
    try clear c2
    try clear c2b0
    try clear p2
    try clear c4
    try clear c4b0
    obtain ⟨kq, x6_2, rfl, HA, HJ2, ⟨mc2, rfl⟩⟩ := hcut
    cases kq with
    | zero => exact absurd HA.out (by simp [odysseyref01_long.j0])
    | succ kj2 =>
     have H := HA.out
     clear HA
     simp only [odysseyref01_long.j0] at H
     by_cases c5 : x6_2 = true
     · subst c5
       have H1 : (some 2) = some r := by rw [if_pos rfl] at H; exact H
       clear H
       have H := H1
       clear H1
       obtain rfl := Option.some.inj H
       go_wp2
       go_ret
       exact ⟨by first | rfl | (simp; done) | (simp [*]; done), by repeat (first | exact Drawn0.refl _ | apply Drawn0.step)⟩
     · replace c5 := Bool.eq_false_iff.mpr c5
       subst c5
       have H1 : (if a0 ≥ 224 then (odysseyref01_long.j1 kj2 a0 (decide (a0 ≤ 239))) else (odysseyref01_long.j1 kj2 a0 false)) = some r := by rw [if_neg (show ¬ (false = true) by decide)] at H; exact H
       clear H
       have H := H1
       clear H1
       have HC6 := Aside0.mk H
       clear H
       go_upto_region 5 with (fail)
       go_cut [13] (fun v13 wc => ∃ (kq : Nat) (x13_5 : Bool), v13 = .bool x13_5 ∧ Aside0 (odysseyref01_long.j1 kq a0 x13_5 = some r) ∧ Aside0 (kq ≤ kj2) ∧ Drawn0 w wc)
       case first =>
        have H := HC6.out
        clear HC6
        by_cases c7 : a0 ≥ 224
        · rw [if_pos c7] at H
          have c7b0 : decide (224 ≤ a0) = true := decide_eq_true c7
          clear c7
          (first | rw [c7b0] | (simp only [i64_w, i32_w]; rw [c7b0]) | skip)
          have H' := Aside0.mk H
          clear H
          go_wp2
          go_meet
          case rel => exact ⟨_, (decide (a0 ≤ 239)), (by first | rfl | (simp; done) | (simp [*]; done)), H', ⟨by have := HJ2.out; first | omega | exact Nat.le_refl _⟩, by repeat (first | exact Drawn0.refl _ | apply Drawn0.step)⟩
        · rw [if_neg c7] at H
          have c7b0 : decide (224 ≤ a0) = false := decide_eq_false c7
          clear c7
          (first | rw [c7b0] | (simp only [i64_w, i32_w]; rw [c7b0]) | skip)
          have H' := Aside0.mk H
          clear H
          go_wp2
          go_meet
          case rel => exact ⟨_, (false), (by first | rfl | (simp; done) | (simp [*]; done)), H', ⟨by have := HJ2.out; first | omega | exact Nat.le_refl _⟩, by repeat (first | exact Drawn0.refl _ | apply Drawn0.step)⟩
       case rest =>
        clear HC6
        try clear c1
        try clear c2
        try clear c2b0
        try clear p2
        try clear c4
        try clear c4b0
        try clear c5
        try clear c7
        try clear c7b0
        try clear p2
        obtain ⟨kq, x13_5, rfl, HA, HJ5, ⟨mc5, rfl⟩⟩ := hcut
        cases kq with
        | zero => exact absurd HA.out (by simp [odysseyref01_long.j1])
        | succ kj5 =>
         have H := HA.out
         clear HA
         simp only [odysseyref01_long.j1] at H
         by_cases c8 : x13_5 = true
         · subst c8
           have H1 : (some 3) = some r := by rw [if_pos rfl] at H; exact H
           clear H
           have H := H1
           clear H1
           obtain rfl := Option.some.inj H
           go_wp2
           go_ret
           exact ⟨by first | rfl | (simp; done) | (simp [*]; done), by repeat (first | exact Drawn0.refl _ | apply Drawn0.step)⟩
         · replace c8 := Bool.eq_false_iff.mpr c8
           subst c8
           have H1 : (if a0 ≥ 240 then (if a0 ≤ 244 then (some 4) else (some 0)) else (some 0)) = some r := by rw [if_neg (show ¬ (false = true) by decide)] at H; exact H
           clear H
           have H := H1
           clear H1
           by_cases c9 : a0 ≥ 240
           · rw [if_pos c9] at H
             have c9b0 : decide (240 ≤ a0) = true := decide_eq_true c9
             clear c9
             by_cases c10 : a0 ≤ 244
             · rw [if_pos c10] at H
               have c10b0 : decide (a0 ≤ 244) = true := decide_eq_true c10
               clear c10
               obtain rfl := Option.some.inj H
               go_wp2
               go_ret
               exact ⟨by first | rfl | (simp; done) | (simp [*]; done), by repeat (first | exact Drawn0.refl _ | apply Drawn0.step)⟩
             · rw [if_neg c10] at H
               have c10b0 : decide (a0 ≤ 244) = false := decide_eq_false c10
               clear c10
               obtain rfl := Option.some.inj H
               go_wp2
               go_ret
               exact ⟨by first | rfl | (simp; done) | (simp [*]; done), by repeat (first | exact Drawn0.refl _ | apply Drawn0.step)⟩
           · rw [if_neg c9] at H
             have c9b0 : decide (240 ≤ a0) = false := decide_eq_false c9
             clear c9
             obtain rfl := Option.some.inj H
             go_wp2
             go_ret
             exact ⟨by first | rfl | (simp; done) | (simp [*]; done), by repeat (first | exact Drawn0.refl _ | apply Drawn0.step)⟩

/-! ### odysseyref01_second: function 147 -/
def odysseyref01_second.f (a0 : Int) (a1 : Int) : Option (Bool) := if a0 = 224 then (if a1 ≥ 160 then (some (decide (a1 ≤ 191))) else (some false)) else (if a0 = 237 then (if a1 ≥ 128 then (some (decide (a1 ≤ 159))) else (some false)) else (if a0 = 240 then (if a1 ≥ 144 then (some (decide (a1 ≤ 191))) else (some false)) else (if a0 = 244 then (if a1 ≥ 128 then (some (decide (a1 ≤ 143))) else (some false)) else (if a1 ≥ 128 then (some (decide (a1 ≤ 191))) else (some false)))))
set_option maxHeartbeats 8000000 in
set_option maxRecDepth 100000 in
theorem odysseyref01_second.calls (a0 : Int) (a1 : Int) (r : Bool) (w : World) (h : odysseyref01_second.f a0 a1 = some r) :
 Calls Tryz.prog 147 #[.int .i64 a0, .int .i64 a1] w fun e w' => e = .returned (.bool r) ∧ Drawn0 w w' := by
 have H : (if a0 = 224 then (if a1 ≥ 160 then (some (decide (a1 ≤ 191))) else (some false)) else (if a0 = 237 then (if a1 ≥ 128 then (some (decide (a1 ≤ 159))) else (some false)) else (if a0 = 240 then (if a1 ≥ 144 then (some (decide (a1 ≤ 191))) else (some false)) else (if a0 = 244 then (if a1 ≥ 128 then (some (decide (a1 ≤ 143))) else (some false)) else (if a1 ≥ 128 then (some (decide (a1 ≤ 191))) else (some false)))))) = some r := h
 clear h
 by_cases c3 : a0 = 224
 · rw [if_pos c3] at H
   have c3b0 : (a0 == 224) = true := beq_iff_eq.mpr c3
   have c3b1 : (a0 != 224) = false := bne_eq_false_iff_eq.mpr c3
   clear c3
   by_cases c4 : a1 ≥ 160
   · rw [if_pos c4] at H
     have c4b0 : decide (160 ≤ a1) = true := decide_eq_true c4
     clear c4
     obtain rfl := Option.some.inj H
     go_enter Tryz.func147, Tryz.ntmps147
     go_wp2
     go_ret
     exact ⟨by first | rfl | (simp; done) | (simp [*]; done), by repeat (first | exact Drawn0.refl _ | apply Drawn0.step)⟩
   · rw [if_neg c4] at H
     have c4b0 : decide (160 ≤ a1) = false := decide_eq_false c4
     clear c4
     obtain rfl := Option.some.inj H
     go_enter Tryz.func147, Tryz.ntmps147
     go_wp2
     go_ret
     exact ⟨by first | rfl | (simp; done) | (simp [*]; done), by repeat (first | exact Drawn0.refl _ | apply Drawn0.step)⟩
 · rw [if_neg c3] at H
   have c3b0 : (a0 == 224) = false := beq_eq_false_iff_ne.mpr c3
   have c3b1 : (a0 != 224) = true := bne_iff_ne.mpr c3
   by_cases c5 : a0 = 237
   · rw [if_pos c5] at H
     have c5b0 : (a0 == 237) = true := beq_iff_eq.mpr c5
     have c5b1 : (a0 != 237) = false := bne_eq_false_iff_eq.mpr c5
     clear c5
     by_cases c6 : a1 ≥ 128
     · rw [if_pos c6] at H
       have c6b0 : decide (128 ≤ a1) = true := decide_eq_true c6
       clear c6
       obtain rfl := Option.some.inj H
       go_enter Tryz.func147, Tryz.ntmps147
       go_wp2
       go_ret
       exact ⟨by first | rfl | (simp; done) | (simp [*]; done), by repeat (first | exact Drawn0.refl _ | apply Drawn0.step)⟩
     · rw [if_neg c6] at H
       have c6b0 : decide (128 ≤ a1) = false := decide_eq_false c6
       clear c6
       obtain rfl := Option.some.inj H
       go_enter Tryz.func147, Tryz.ntmps147
       go_wp2
       go_ret
       exact ⟨by first | rfl | (simp; done) | (simp [*]; done), by repeat (first | exact Drawn0.refl _ | apply Drawn0.step)⟩
   · rw [if_neg c5] at H
     have c5b0 : (a0 == 237) = false := beq_eq_false_iff_ne.mpr c5
     have c5b1 : (a0 != 237) = true := bne_iff_ne.mpr c5
     by_cases c7 : a0 = 240
     · rw [if_pos c7] at H
       have c7b0 : (a0 == 240) = true := beq_iff_eq.mpr c7
       have c7b1 : (a0 != 240) = false := bne_eq_false_iff_eq.mpr c7
       clear c7
       by_cases c8 : a1 ≥ 144
       · rw [if_pos c8] at H
         have c8b0 : decide (144 ≤ a1) = true := decide_eq_true c8
         clear c8
         obtain rfl := Option.some.inj H
         go_enter Tryz.func147, Tryz.ntmps147
         go_wp2
         go_ret
         exact ⟨by first | rfl | (simp; done) | (simp [*]; done), by repeat (first | exact Drawn0.refl _ | apply Drawn0.step)⟩
       · rw [if_neg c8] at H
         have c8b0 : decide (144 ≤ a1) = false := decide_eq_false c8
         clear c8
         obtain rfl := Option.some.inj H
         go_enter Tryz.func147, Tryz.ntmps147
         go_wp2
         go_ret
         exact ⟨by first | rfl | (simp; done) | (simp [*]; done), by repeat (first | exact Drawn0.refl _ | apply Drawn0.step)⟩
     · rw [if_neg c7] at H
       have c7b0 : (a0 == 240) = false := beq_eq_false_iff_ne.mpr c7
       have c7b1 : (a0 != 240) = true := bne_iff_ne.mpr c7
       by_cases c9 : a0 = 244
       · rw [if_pos c9] at H
         have c9b0 : (a0 == 244) = true := beq_iff_eq.mpr c9
         have c9b1 : (a0 != 244) = false := bne_eq_false_iff_eq.mpr c9
         clear c9
         by_cases c10 : a1 ≥ 128
         · rw [if_pos c10] at H
           have c10b0 : decide (128 ≤ a1) = true := decide_eq_true c10
           clear c10
           obtain rfl := Option.some.inj H
           go_enter Tryz.func147, Tryz.ntmps147
           go_wp2
           go_ret
           exact ⟨by first | rfl | (simp; done) | (simp [*]; done), by repeat (first | exact Drawn0.refl _ | apply Drawn0.step)⟩
         · rw [if_neg c10] at H
           have c10b0 : decide (128 ≤ a1) = false := decide_eq_false c10
           clear c10
           obtain rfl := Option.some.inj H
           go_enter Tryz.func147, Tryz.ntmps147
           go_wp2
           go_ret
           exact ⟨by first | rfl | (simp; done) | (simp [*]; done), by repeat (first | exact Drawn0.refl _ | apply Drawn0.step)⟩
       · rw [if_neg c9] at H
         have c9b0 : (a0 == 244) = false := beq_eq_false_iff_ne.mpr c9
         have c9b1 : (a0 != 244) = true := bne_iff_ne.mpr c9
         by_cases c11 : a1 ≥ 128
         · rw [if_pos c11] at H
           have c11b0 : decide (128 ≤ a1) = true := decide_eq_true c11
           clear c11
           obtain rfl := Option.some.inj H
           go_enter Tryz.func147, Tryz.ntmps147
           go_wp2
           go_ret
           exact ⟨by first | rfl | (simp; done) | (simp [*]; done), by repeat (first | exact Drawn0.refl _ | apply Drawn0.step)⟩
         · rw [if_neg c11] at H
           have c11b0 : decide (128 ≤ a1) = false := decide_eq_false c11
           clear c11
           obtain rfl := Option.some.inj H
           go_enter Tryz.func147, Tryz.ntmps147
           go_wp2
           go_ret
           exact ⟨by first | rfl | (simp; done) | (simp [*]; done), by repeat (first | exact Drawn0.refl _ | apply Drawn0.step)⟩

end Go.Proofs.YtgjddnaidjbhlaaGreatDoor.PPhaseStarts

-- PRINTED BY print.sh 35421559b90ae4d0a3588c463048766b98c2df88dd9212a6774a882060cdf62d: not written by this session
namespace Go.Proofs.YtgjddnaidjbhlaaGreatDoor.PPhaseStarts
open Go.RowKit Go.Proofs.YtgjddnaidjbhlaaGreatDoorW.PrintWords Go.Proofs.YtgjddnaidjbhlaaGreatDoorW.PrintLast Go.Proofs.YtgjddnaidjbhlaaGreatDoorW.PrintMore
attribute [local go_sem] max2_int min2_int max_two min_two max_three min_three max_four min_four   -- for this text's walks alone
set_option linter.unusedVariables false
set_option linter.unusedSimpArgs false

/-! ### odysseyref01_Next: function 81 -/
mutual
def odysseyref01_Next.j0 : Nat → ByteArray → Int → Int → Int → Bool → Option (Int × Int × Bool)
 | 0, _, _, _, _, _ => none
 | k + 1, x0, x1, x7, x8, x27 => if x27 = true then (some (65533, 1, false)) else (if x8 = 1 then (some (x7, 1, true)) else (if 0 ≤ (wrap64 (7 - x8)) then (if (shl .i64 1 (wrap64 (7 - x8))) = 0 then (none) else (odysseyref01_Next.l0 k x0 x1 x7 x8 (Int.tmod x7 (shl .i64 1 (wrap64 (7 - x8)))) 1)) else (none)))
def odysseyref01_Next.l0 : Nat → ByteArray → Int → Int → Int → Int → Int → Option (Int × Int × Bool)
 | 0, _, _, _, _, _, _ => none
 | k + 1, x0, x1, x7, x8, x9, x10 => if x10 < x8 then (if 0 ≤ (wrap64 (x1 + x10)) then (if (wrap64 (x1 + x10)) < (x0.size : Int) then (if (wrap64 (bt x0 (wrap64 (x1 + x10)))) < 128 then (some (65533, 1, false)) else (if (wrap64 (bt x0 (wrap64 (x1 + x10)))) > 191 then (some (65533, 1, false)) else (if x10 = 1 then ((odysseyref01_second.f x7 (wrap64 (bt x0 (wrap64 (x1 + x10))))).bind fun t115 => (if t115 = true then (odysseyref01_Next.l0 k x0 x1 x7 x8 (wrap64 ((wrap64 (x9 * 64)) + (Int.tmod (wrap64 (bt x0 (wrap64 (x1 + x10)))) 64))) (wrap64 (x10 + 1))) else (some (65533, 1, false)))) else (odysseyref01_Next.l0 k x0 x1 x7 x8 (wrap64 ((wrap64 (x9 * 64)) + (Int.tmod (wrap64 (bt x0 (wrap64 (x1 + x10)))) 64))) (wrap64 (x10 + 1)))))) else (none)) else (none)) else (some (x9, x8, true))
end
def odysseyref01_Next.f (k : Nat) (a0 : ByteArray) (a1 : Int) : Option (Int × Int × Bool) := if 0 ≤ a1 then (if a1 < (a0.size : Int) then ((odysseyref01_long.f k (wrap64 (bt a0 a1))).bind fun t114 => (if t114 = 0 then (odysseyref01_Next.j0 k a0 a1 (wrap64 (bt a0 a1)) t114 true) else (odysseyref01_Next.j0 k a0 a1 (wrap64 (bt a0 a1)) t114 (decide (t114 > (wrap64 ((a0.size : Int) - a1))))))) else (none)) else (none)
set_option maxHeartbeats 8000000 in
set_option maxRecDepth 100000 in
theorem odysseyref01_Next.calls (k : Nat) (a0 : ByteArray) (a1 : Int) (r1 : Int) (r2 : Int) (r3 : Bool) (w : World) (h : odysseyref01_Next.f k a0 a1 = some (r1, r2, r3)) :
 Calls Tryz.prog 81 #[.string a0, .int .i64 a1] w fun e w' => e = .returned (.tuple #[.int .i64 r1, .int .i64 r2, .bool r3]) ∧ Drawn0 w w' := by
 have H : (if 0 ≤ a1 then (if a1 < (a0.size : Int) then ((odysseyref01_long.f k (wrap64 (bt a0 a1))).bind fun t114 => (if t114 = 0 then (odysseyref01_Next.j0 k a0 a1 (wrap64 (bt a0 a1)) t114 true) else (odysseyref01_Next.j0 k a0 a1 (wrap64 (bt a0 a1)) t114 (decide (t114 > (wrap64 ((a0.size : Int) - a1))))))) else (none)) else (none)) = some (r1, r2, r3) := h
 clear h
 by_cases c3 : 0 ≤ a1
 · rw [if_pos c3] at H
   have c3b0 : decide (0 ≤ a1) = true := decide_eq_true c3
   clear c3
   by_cases c4 : a1 < (a0.size : Int)
   · rw [if_pos c4] at H
     have c4b0 : decide (a1 < (a0.size : Int)) = true := decide_eq_true c4
     clear c4
     replace H := Option.bind_eq_some_iff.mp H
     obtain ⟨t114, A60, H⟩ := H
     replace H : (if t114 = 0 then (odysseyref01_Next.j0 k a0 a1 (wrap64 (bt a0 a1)) t114 true) else (odysseyref01_Next.j0 k a0 a1 (wrap64 (bt a0 a1)) t114 (decide (t114 > (wrap64 ((a0.size : Int) - a1)))))) = some (r1, r2, r3) := H
     have A6 := Aside0.mk A60
     clear A60
     have HC7 := Aside0.mk H
     clear H
     have p5 : 0 ≤ (a1 : Int) := of_decide_eq_true (by first | (with_reducible assumption) | assumption)
     have q5 : a1 < (a0.size : Int) := of_decide_eq_true (by first | (with_reducible assumption) | assumption)
     have hx5 := bt_at a0 a1
     replace p5 := eq_true p5
     replace q5 := eq_true q5
     go_enter Tryz.func81, Tryz.ntmps81
     go_upto_region 3 with (first | ((with_reducible refine gate_callee (f := 146) rfl ?_); refine goesL_ (some 17) rfl rfl Tryz.func146 (by kernel_rfl) rfl #[.int .i64 (wrap64 (bt a0 a1))] rfl (by (try simp only [List.map_toArray, List.map_cons, List.map_nil]); first | done | rfl | (simp only [List.length_drop, List.length_take]; rfl)) ?_; (with_reducible refine (odysseyref01_long.calls k (wrap64 (bt a0 a1)) t114 _ A6.out).mono ?_); rintro e w' ⟨rfl, ⟨nd, rfl⟩⟩; refine ⟨_, rfl, ?_⟩))
     (try simp only [Act.put, List.setIfInBounds_toArray, List.set_cons_zero, List.set_cons_succ])
     go_cut [27] (fun v27 wc => ∃ (kq : Nat) (x27_6 : Bool), v27 = .bool x27_6 ∧ Aside0 (odysseyref01_Next.j0 kq a0 a1 (wrap64 (bt a0 a1)) t114 x27_6 = some (r1, r2, r3)) ∧ Aside0 (kq ≤ k) ∧ Drawn0 w wc)
     case first =>
      have H := HC7.out
      clear HC7
      by_cases c8 : t114 = 0
      · rw [if_pos c8] at H
        have c8b0 : (t114 == 0) = true := beq_iff_eq.mpr c8
        have c8b1 : (t114 != 0) = false := bne_eq_false_iff_eq.mpr c8
        clear c8
        (first | rw [c8b0] | (simp only [i64_w, i32_w]; rw [c8b0]) | skip)
        have H' := Aside0.mk H
        clear H
        go_wp2
        go_meet
        case rel => exact ⟨_, (true), (by first | rfl | (simp; done) | (simp [*]; done)), H', ⟨by first | omega | exact Nat.le_refl _⟩, by repeat (first | exact Drawn0.refl _ | apply Drawn0.step)⟩
      · rw [if_neg c8] at H
        have c8b0 : (t114 == 0) = false := beq_eq_false_iff_ne.mpr c8
        have c8b1 : (t114 != 0) = true := bne_iff_ne.mpr c8
        (first | rw [c8b0] | (simp only [i64_w, i32_w]; rw [c8b0]) | skip)
        have H' := Aside0.mk H
        clear H
        go_wp2
        go_meet
        case rel => exact ⟨_, (decide (t114 > (wrap64 ((a0.size : Int) - a1)))), (by first | rfl | (simp; done) | (simp [*]; done)), H', ⟨by first | omega | exact Nat.le_refl _⟩, by repeat (first | exact Drawn0.refl _ | apply Drawn0.step)⟩
     case rest =>
      clear HC7
      try clear c1
      try clear p2
      try clear c3
      try clear c3b0
      try clear c4
      try clear c4b0
      try clear p5
      try clear q5
      try clear hx5
      try clear p6
      try clear c8
      try clear c8b0
      try clear c8b1
      try clear p5
      try clear q5
      obtain ⟨kq, x27_6, rfl, HA, HJ6, ⟨mc6, rfl⟩⟩ := hcut
      cases kq with
      | zero => exact absurd HA.out (by simp [odysseyref01_Next.j0])
      | succ kj6 =>
       have H := HA.out
       clear HA
       simp only [odysseyref01_Next.j0] at H
       by_cases c9 : x27_6 = true
       · subst c9
         have H1 : (some (65533, 1, false)) = some (r1, r2, r3) := by rw [if_pos rfl] at H; exact H
         clear H
         have H := H1
         clear H1
         simp only [Option.some.injEq, Prod.mk.injEq] at H
         obtain ⟨rfl, rfl, rfl⟩ := H
         go_wp2
         go_ret3
         exact ⟨by first | rfl | (simp; done) | (simp [*]; done), by repeat (first | exact Drawn0.refl _ | apply Drawn0.step)⟩
       · replace c9 := Bool.eq_false_iff.mpr c9
         subst c9
         have H1 : (if t114 = 1 then (some ((wrap64 (bt a0 a1)), 1, true)) else (if 0 ≤ (wrap64 (7 - t114)) then (if (shl .i64 1 (wrap64 (7 - t114))) = 0 then (none) else (odysseyref01_Next.l0 kj6 a0 a1 (wrap64 (bt a0 a1)) t114 (Int.tmod (wrap64 (bt a0 a1)) (shl .i64 1 (wrap64 (7 - t114)))) 1)) else (none))) = some (r1, r2, r3) := by rw [if_neg (show ¬ (false = true) by decide)] at H; exact H
         clear H
         have H := H1
         clear H1
         by_cases c10 : t114 = 1
         · rw [if_pos c10] at H
           have c10b0 : (t114 == 1) = true := beq_iff_eq.mpr c10
           have c10b1 : (t114 != 1) = false := bne_eq_false_iff_eq.mpr c10
           clear c10
           simp only [Option.some.injEq, Prod.mk.injEq] at H
           obtain ⟨rfl, rfl, rfl⟩ := H
           go_wp2
           go_ret3
           exact ⟨by first | rfl | (simp; done) | (simp [*]; done), by repeat (first | exact Drawn0.refl _ | apply Drawn0.step)⟩
         · rw [if_neg c10] at H
           have c10b0 : (t114 == 1) = false := beq_eq_false_iff_ne.mpr c10
           have c10b1 : (t114 != 1) = true := bne_iff_ne.mpr c10
           obtain ⟨ji11, hji11⟩ : ∃ j_ : Int, (wrap64 (7 - t114)) = j_ := ⟨_, rfl⟩
           replace H : (if 0 ≤ (ji11) then (if (shl .i64 1 (ji11)) = 0 then (none) else (odysseyref01_Next.l0 kj6 a0 a1 (wrap64 (bt a0 a1)) t114 (Int.tmod (wrap64 (bt a0 a1)) (shl .i64 1 (ji11))) 1)) else (none)) = some (r1, r2, r3) := by first | (rw [hji11] at H; exact H) | (simp only [hji11] at H ⊢; exact H)
           have hji11w : (IntKind.i64.wrap (7 - t114)) = ji11 := (i64_w _).trans hji11
           by_cases c12 : 0 ≤ (ji11)
           · rw [if_pos c12] at H
             have c12b0 := eq_true c12
             have c12b1 : decide (0 ≤ (ji11)) = true := decide_eq_true c12
             clear c12
             obtain ⟨ji13, hji13⟩ : ∃ j_ : Int, (shl .i64 1 (ji11)) = j_ := ⟨_, rfl⟩
             replace H : (if (ji13) = 0 then (none) else (odysseyref01_Next.l0 kj6 a0 a1 (wrap64 (bt a0 a1)) t114 (Int.tmod (wrap64 (bt a0 a1)) (ji13)) 1)) = some (r1, r2, r3) := by first | (rw [hji13] at H; exact H) | (simp only [hji13] at H ⊢; exact H)
             have hji13_ : (IntKind.i64.wrap (1 * 2 ^ min (ji11).toNat 64)) = ji13 := hji13
             have hji13z : (ji11) ≤ 64 → (IntKind.i64.wrap (1 * 2 ^ (ji11).toNat)) = ji13 := shl_small hji13
             have hji13u : (IntKind.i64.wrap (2 ^ min (ji11).toNat 64)) = ji13 := by have h_ := hji13_; rw [Int.one_mul] at h_; exact h_
             have hji13v : (ji11) ≤ 64 → (IntKind.i64.wrap (2 ^ (ji11).toNat)) = ji13 := fun hle_ => by have h_ := hji13z hle_; rw [Int.one_mul] at h_; exact h_
             have hji13y : (wrap64 (1 * 2 ^ min (ji11).toNat 64)) = ji13 := (i64_w _).symm.trans hji13_
             have hji13x : (ji11) ≤ 64 → (wrap64 (1 * 2 ^ (ji11).toNat)) = ji13 := fun h_ => (i64_w _).symm.trans (hji13z h_)
             by_cases c14 : (ji13) = 0
             · rw [if_pos c14] at H
               exact absurd H (by simp)
             · rw [if_neg c14] at H
               have c14b0 : ((ji13) == 0) = false := beq_eq_false_iff_ne.mpr c14
               have c14b1 : ((ji13) != 0) = true := bne_iff_ne.mpr c14
               have H' := Aside0.mk H
               clear H
               go_wp2
               go_loopg [9, 10] kj6 (fun kq v9 v10 w' => ∃ (x9_2 : Int) (x10_2 : Int), v9 = .int .i64 x9_2 ∧ v10 = .int .i64 x10_2 ∧ Aside0 (odysseyref01_Next.l0 kq a0 a1 (wrap64 (bt a0 a1)) t114 x9_2 x10_2 = some (r1, r2, r3)) ∧ Aside0 (kq ≤ kj6) ∧ Drawn0 w w')
               case atStart => exact ⟨(Int.tmod (wrap64 (bt a0 a1)) (ji13)), (1), (by first | rfl | (simp; done) | (simp only [← hji13] <;> (first | rfl | simp)) | (simp [*]; done)), (by first | rfl | (simp; done) | (simp [*]; done)), H', ⟨Nat.le_refl _⟩, by repeat (first | exact Drawn0.refl _ | apply Drawn0.step)⟩
               case round =>
                clear H'
                try clear c1
                try clear p2
                try clear c3
                try clear c3b0
                try clear c4
                try clear c4b0
                try clear p5
                try clear q5
                try clear hx5
                try clear c6
                try clear p6
                try clear c8
                try clear c8b0
                try clear c8b1
                try clear c9
                try clear c10
                try clear c10b0
                try clear c10b1
                try clear c12
                try clear c12b0
                try clear c12b1
                try clear c14
                try clear c14b0
                try clear c14b1
                try clear p2
                try clear p5
                try clear p6
                try clear q5
                obtain ⟨x9_2, x10_2, rfl, rfl, HA, HK2, ⟨m2, rfl⟩⟩ := hrel
                cases gk with
                | zero => exact absurd HA.out (by simp [odysseyref01_Next.l0])
                | succ k2 =>
                 have H := HA.out
                 clear HA
                 simp only [odysseyref01_Next.l0] at H
                 by_cases c15 : x10_2 < t114
                 · rw [if_pos c15] at H
                   have c15b0 : decide (x10_2 < t114) = true := decide_eq_true c15
                   clear c15
                   obtain ⟨ji16, hji16⟩ : ∃ j_ : Int, (wrap64 (a1 + x10_2)) = j_ := ⟨_, rfl⟩
                   replace H : (if 0 ≤ (ji16) then (if (ji16) < (a0.size : Int) then (if (wrap64 (bt a0 (ji16))) < 128 then (some (65533, 1, false)) else (if (wrap64 (bt a0 (ji16))) > 191 then (some (65533, 1, false)) else (if x10_2 = 1 then ((odysseyref01_second.f (wrap64 (bt a0 a1)) (wrap64 (bt a0 (ji16)))).bind fun t115 => (if t115 = true then (odysseyref01_Next.l0 k2 a0 a1 (wrap64 (bt a0 a1)) t114 (wrap64 ((wrap64 (x9_2 * 64)) + (Int.tmod (wrap64 (bt a0 (ji16))) 64))) (wrap64 (x10_2 + 1))) else (some (65533, 1, false)))) else (odysseyref01_Next.l0 k2 a0 a1 (wrap64 (bt a0 a1)) t114 (wrap64 ((wrap64 (x9_2 * 64)) + (Int.tmod (wrap64 (bt a0 (ji16))) 64))) (wrap64 (x10_2 + 1)))))) else (none)) else (none)) = some (r1, r2, r3) := by first | (rw [hji16] at H; exact H) | (simp only [hji16] at H ⊢; exact H)
                   have hji16w : (IntKind.i64.wrap (a1 + x10_2)) = ji16 := (i64_w _).trans hji16
                   by_cases c17 : 0 ≤ (ji16)
                   · rw [if_pos c17] at H
                     have c17b0 : decide (0 ≤ (ji16)) = true := decide_eq_true c17
                     clear c17
                     by_cases c18 : (ji16) < (a0.size : Int)
                     · rw [if_pos c18] at H
                       have c18b0 : decide ((ji16) < (a0.size : Int)) = true := decide_eq_true c18
                       clear c18
                       by_cases c20 : (wrap64 (bt a0 (ji16))) < 128
                       · rw [if_pos c20] at H
                         have c20b0 : decide ((wrap64 (bt a0 (ji16))) < 128) = true := decide_eq_true c20
                         clear c20
                         simp only [Option.some.injEq, Prod.mk.injEq] at H
                         obtain ⟨rfl, rfl, rfl⟩ := H
                         have p19 : 0 ≤ ((ji16) : Int) := of_decide_eq_true (by first | (with_reducible assumption) | assumption)
                         have q19 : (ji16) < (a0.size : Int) := of_decide_eq_true (by first | (with_reducible assumption) | assumption)
                         have hx19 := bt_at a0 (ji16)
                         replace p19 := eq_true p19
                         replace q19 := eq_true q19
                         go_wp2
                         go_ret3
                         exact ⟨by first | rfl | (simp; done) | (simp only [← hji11, ← hji13, ← hji16] <;> (first | rfl | simp)) | (simp [*]; done), by repeat (first | exact Drawn0.refl _ | apply Drawn0.step)⟩
                       · rw [if_neg c20] at H
                         have c20b0 : decide ((wrap64 (bt a0 (ji16))) < 128) = false := decide_eq_false c20
                         clear c20
                         by_cases c21 : (wrap64 (bt a0 (ji16))) > 191
                         · rw [if_pos c21] at H
                           have c21b0 : decide (191 < (wrap64 (bt a0 (ji16)))) = true := decide_eq_true c21
                           clear c21
                           simp only [Option.some.injEq, Prod.mk.injEq] at H
                           obtain ⟨rfl, rfl, rfl⟩ := H
                           have p19 : 0 ≤ ((ji16) : Int) := of_decide_eq_true (by first | (with_reducible assumption) | assumption)
                           have q19 : (ji16) < (a0.size : Int) := of_decide_eq_true (by first | (with_reducible assumption) | assumption)
                           have hx19 := bt_at a0 (ji16)
                           replace p19 := eq_true p19
                           replace q19 := eq_true q19
                           go_wp2
                           go_ret3
                           exact ⟨by first | rfl | (simp; done) | (simp only [← hji11, ← hji13, ← hji16] <;> (first | rfl | simp)) | (simp [*]; done), by repeat (first | exact Drawn0.refl _ | apply Drawn0.step)⟩
                         · rw [if_neg c21] at H
                           have c21b0 : decide (191 < (wrap64 (bt a0 (ji16)))) = false := decide_eq_false c21
                           clear c21
                           by_cases c22 : x10_2 = 1
                           · rw [if_pos c22] at H
                             have c22b0 : (x10_2 == 1) = true := beq_iff_eq.mpr c22
                             have c22b1 : (x10_2 != 1) = false := bne_eq_false_iff_eq.mpr c22
                             clear c22
                             replace H := Option.bind_eq_some_iff.mp H
                             obtain ⟨t115, A230, H⟩ := H
                             replace H : (if t115 = true then (odysseyref01_Next.l0 k2 a0 a1 (wrap64 (bt a0 a1)) t114 (wrap64 ((wrap64 (x9_2 * 64)) + (Int.tmod (wrap64 (bt a0 (ji16))) 64))) (wrap64 (x10_2 + 1))) else (some (65533, 1, false))) = some (r1, r2, r3) := H
                             have A23 := Aside0.mk A230
                             clear A230
                             by_cases c24 : t115 = true
                             · subst c24
                               have H1 : (odysseyref01_Next.l0 k2 a0 a1 (wrap64 (bt a0 a1)) t114 (wrap64 ((wrap64 (x9_2 * 64)) + (Int.tmod (wrap64 (bt a0 (ji16))) 64))) (wrap64 (x10_2 + 1))) = some (r1, r2, r3) := by rw [if_pos rfl] at H; exact H
                               clear H
                               have H := H1
                               clear H1
                               have H' := Aside0.mk H
                               clear H
                               have p19 : 0 ≤ ((ji16) : Int) := of_decide_eq_true (by first | (with_reducible assumption) | assumption)
                               have q19 : (ji16) < (a0.size : Int) := of_decide_eq_true (by first | (with_reducible assumption) | assumption)
                               have hx19 := bt_at a0 (ji16)
                               replace p19 := eq_true p19
                               replace q19 := eq_true q19
                               go_wp2_with (first | (go_at_call 147; (with_reducible refine (odysseyref01_second.calls (wrap64 (bt a0 a1)) (wrap64 (bt a0 (ji16))) true _ A23.out).mono ?_); rintro e w' ⟨rfl, ⟨nd, rfl⟩⟩))
                               go_roundg k2
                               case measure => have := HJ6.out; have := HK2.out; omega
                               case rel => exact ⟨(wrap64 ((wrap64 (x9_2 * 64)) + (Int.tmod (wrap64 (bt a0 (ji16))) 64))), (wrap64 (x10_2 + 1)), (by first | rfl | (simp; done) | (simp only [← hji16] <;> (first | rfl | simp)) | (simp [*]; done)), (by first | rfl | (simp; done) | (simp [*]; done)), H', ⟨by have := HJ6.out; have := HK2.out; omega⟩, by repeat (first | exact Drawn0.refl _ | apply Drawn0.step)⟩
                             · replace c24 := Bool.eq_false_iff.mpr c24
                               subst c24
                               have H1 : (some (65533, 1, false)) = some (r1, r2, r3) := by rw [if_neg (show ¬ (false = true) by decide)] at H; exact H
                               clear H
                               have H := H1
                               clear H1
                               simp only [Option.some.injEq, Prod.mk.injEq] at H
                               obtain ⟨rfl, rfl, rfl⟩ := H
                               have p19 : 0 ≤ ((ji16) : Int) := of_decide_eq_true (by first | (with_reducible assumption) | assumption)
                               have q19 : (ji16) < (a0.size : Int) := of_decide_eq_true (by first | (with_reducible assumption) | assumption)
                               have hx19 := bt_at a0 (ji16)
                               replace p19 := eq_true p19
                               replace q19 := eq_true q19
                               go_wp2_with (first | (go_at_call 147; (with_reducible refine (odysseyref01_second.calls (wrap64 (bt a0 a1)) (wrap64 (bt a0 (ji16))) false _ A23.out).mono ?_); rintro e w' ⟨rfl, ⟨nd, rfl⟩⟩))
                               go_ret3
                               exact ⟨by first | rfl | (simp; done) | (simp only [← hji11, ← hji13, ← hji16] <;> (first | rfl | simp)) | (simp [*]; done), by repeat (first | exact Drawn0.refl _ | apply Drawn0.step)⟩
                           · rw [if_neg c22] at H
                             have c22b0 : (x10_2 == 1) = false := beq_eq_false_iff_ne.mpr c22
                             have c22b1 : (x10_2 != 1) = true := bne_iff_ne.mpr c22
                             have H' := Aside0.mk H
                             clear H
                             have p19 : 0 ≤ ((ji16) : Int) := of_decide_eq_true (by first | (with_reducible assumption) | assumption)
                             have q19 : (ji16) < (a0.size : Int) := of_decide_eq_true (by first | (with_reducible assumption) | assumption)
                             have hx19 := bt_at a0 (ji16)
                             replace p19 := eq_true p19
                             replace q19 := eq_true q19
                             go_wp2
                             go_roundg k2
                             case measure => have := HJ6.out; have := HK2.out; omega
                             case rel => exact ⟨(wrap64 ((wrap64 (x9_2 * 64)) + (Int.tmod (wrap64 (bt a0 (ji16))) 64))), (wrap64 (x10_2 + 1)), (by first | rfl | (simp; done) | (simp only [← hji16] <;> (first | rfl | simp)) | (simp [*]; done)), (by first | rfl | (simp; done) | (simp [*]; done)), H', ⟨by have := HJ6.out; have := HK2.out; omega⟩, by repeat (first | exact Drawn0.refl _ | apply Drawn0.step)⟩
                     · rw [if_neg c18] at H
                       exact absurd H (by simp)
                   · rw [if_neg c17] at H
                     exact absurd H (by simp)
                 · rw [if_neg c15] at H
                   have c15b0 : decide (x10_2 < t114) = false := decide_eq_false c15
                   clear c15
                   simp only [Option.some.injEq, Prod.mk.injEq] at H
                   obtain ⟨rfl, rfl, rfl⟩ := H
                   go_wp2
                   go_ret3
                   exact ⟨by first | rfl | (simp; done) | (simp only [← hji11, ← hji13] <;> (first | rfl | simp)) | (simp [*]; done), by repeat (first | exact Drawn0.refl _ | apply Drawn0.step)⟩
           · rw [if_neg c12] at H
             exact absurd H (by simp)
   · rw [if_neg c4] at H
     exact absurd H (by simp)
 · rw [if_neg c3] at H
   exact absurd H (by simp)

/-! ### odysseyref01_letter: function 82 -/
def odysseyref01_letter.f (a0 : Int) : Option (Bool) := if a0 ≥ 97 then (if a0 ≤ 122 then (some true) else (if a0 = 228 then (some true) else (if a0 = 246 then (some true) else (if a0 = 252 then (some true) else (if a0 = 223 then (some true) else (if a0 ≥ 945 then (some (decide (a0 ≤ 969))) else (some false))))))) else (if a0 = 228 then (some true) else (if a0 = 246 then (some true) else (if a0 = 252 then (some true) else (if a0 = 223 then (some true) else (if a0 ≥ 945 then (some (decide (a0 ≤ 969))) else (some false))))))
set_option maxHeartbeats 8000000 in
set_option maxRecDepth 100000 in
theorem odysseyref01_letter.calls (a0 : Int) (r : Bool) (w : World) (h : odysseyref01_letter.f a0 = some r) :
 Calls Tryz.prog 82 #[.int .i64 a0] w fun e w' => e = .returned (.bool r) ∧ Drawn0 w w' := by
 have H : (if a0 ≥ 97 then (if a0 ≤ 122 then (some true) else (if a0 = 228 then (some true) else (if a0 = 246 then (some true) else (if a0 = 252 then (some true) else (if a0 = 223 then (some true) else (if a0 ≥ 945 then (some (decide (a0 ≤ 969))) else (some false))))))) else (if a0 = 228 then (some true) else (if a0 = 246 then (some true) else (if a0 = 252 then (some true) else (if a0 = 223 then (some true) else (if a0 ≥ 945 then (some (decide (a0 ≤ 969))) else (some false))))))) = some r := h
 clear h
 by_cases c2 : a0 ≥ 97
 · rw [if_pos c2] at H
   have c2b0 : decide (97 ≤ a0) = true := decide_eq_true c2
   clear c2
   by_cases c3 : a0 ≤ 122
   · rw [if_pos c3] at H
     have c3b0 : decide (a0 ≤ 122) = true := decide_eq_true c3
     clear c3
     obtain rfl := Option.some.inj H
     go_enter Tryz.func82, Tryz.ntmps82
     go_wp2
     go_ret
     exact ⟨by first | rfl | (simp; done) | (simp [*]; done), by repeat (first | exact Drawn0.refl _ | apply Drawn0.step)⟩
   · rw [if_neg c3] at H
     have c3b0 : decide (a0 ≤ 122) = false := decide_eq_false c3
     clear c3
     by_cases c4 : a0 = 228
     · rw [if_pos c4] at H
       have c4b0 : (a0 == 228) = true := beq_iff_eq.mpr c4
       have c4b1 : (a0 != 228) = false := bne_eq_false_iff_eq.mpr c4
       clear c4
       obtain rfl := Option.some.inj H
       go_enter Tryz.func82, Tryz.ntmps82
       go_wp2
       go_ret
       exact ⟨by first | rfl | (simp; done) | (simp [*]; done), by repeat (first | exact Drawn0.refl _ | apply Drawn0.step)⟩
     · rw [if_neg c4] at H
       have c4b0 : (a0 == 228) = false := beq_eq_false_iff_ne.mpr c4
       have c4b1 : (a0 != 228) = true := bne_iff_ne.mpr c4
       by_cases c5 : a0 = 246
       · rw [if_pos c5] at H
         have c5b0 : (a0 == 246) = true := beq_iff_eq.mpr c5
         have c5b1 : (a0 != 246) = false := bne_eq_false_iff_eq.mpr c5
         clear c5
         obtain rfl := Option.some.inj H
         go_enter Tryz.func82, Tryz.ntmps82
         go_wp2
         go_ret
         exact ⟨by first | rfl | (simp; done) | (simp [*]; done), by repeat (first | exact Drawn0.refl _ | apply Drawn0.step)⟩
       · rw [if_neg c5] at H
         have c5b0 : (a0 == 246) = false := beq_eq_false_iff_ne.mpr c5
         have c5b1 : (a0 != 246) = true := bne_iff_ne.mpr c5
         by_cases c6 : a0 = 252
         · rw [if_pos c6] at H
           have c6b0 : (a0 == 252) = true := beq_iff_eq.mpr c6
           have c6b1 : (a0 != 252) = false := bne_eq_false_iff_eq.mpr c6
           clear c6
           obtain rfl := Option.some.inj H
           go_enter Tryz.func82, Tryz.ntmps82
           go_wp2
           go_ret
           exact ⟨by first | rfl | (simp; done) | (simp [*]; done), by repeat (first | exact Drawn0.refl _ | apply Drawn0.step)⟩
         · rw [if_neg c6] at H
           have c6b0 : (a0 == 252) = false := beq_eq_false_iff_ne.mpr c6
           have c6b1 : (a0 != 252) = true := bne_iff_ne.mpr c6
           by_cases c7 : a0 = 223
           · rw [if_pos c7] at H
             have c7b0 : (a0 == 223) = true := beq_iff_eq.mpr c7
             have c7b1 : (a0 != 223) = false := bne_eq_false_iff_eq.mpr c7
             clear c7
             obtain rfl := Option.some.inj H
             go_enter Tryz.func82, Tryz.ntmps82
             go_wp2
             go_ret
             exact ⟨by first | rfl | (simp; done) | (simp [*]; done), by repeat (first | exact Drawn0.refl _ | apply Drawn0.step)⟩
           · rw [if_neg c7] at H
             have c7b0 : (a0 == 223) = false := beq_eq_false_iff_ne.mpr c7
             have c7b1 : (a0 != 223) = true := bne_iff_ne.mpr c7
             by_cases c8 : a0 ≥ 945
             · rw [if_pos c8] at H
               have c8b0 : decide (945 ≤ a0) = true := decide_eq_true c8
               clear c8
               obtain rfl := Option.some.inj H
               go_enter Tryz.func82, Tryz.ntmps82
               go_wp2
               go_ret
               exact ⟨by first | rfl | (simp; done) | (simp [*]; done), by repeat (first | exact Drawn0.refl _ | apply Drawn0.step)⟩
             · rw [if_neg c8] at H
               have c8b0 : decide (945 ≤ a0) = false := decide_eq_false c8
               clear c8
               obtain rfl := Option.some.inj H
               go_enter Tryz.func82, Tryz.ntmps82
               go_wp2
               go_ret
               exact ⟨by first | rfl | (simp; done) | (simp [*]; done), by repeat (first | exact Drawn0.refl _ | apply Drawn0.step)⟩
 · rw [if_neg c2] at H
   have c2b0 : decide (97 ≤ a0) = false := decide_eq_false c2
   clear c2
   by_cases c9 : a0 = 228
   · rw [if_pos c9] at H
     have c9b0 : (a0 == 228) = true := beq_iff_eq.mpr c9
     have c9b1 : (a0 != 228) = false := bne_eq_false_iff_eq.mpr c9
     clear c9
     obtain rfl := Option.some.inj H
     go_enter Tryz.func82, Tryz.ntmps82
     go_wp2
     go_ret
     exact ⟨by first | rfl | (simp; done) | (simp [*]; done), by repeat (first | exact Drawn0.refl _ | apply Drawn0.step)⟩
   · rw [if_neg c9] at H
     have c9b0 : (a0 == 228) = false := beq_eq_false_iff_ne.mpr c9
     have c9b1 : (a0 != 228) = true := bne_iff_ne.mpr c9
     by_cases c10 : a0 = 246
     · rw [if_pos c10] at H
       have c10b0 : (a0 == 246) = true := beq_iff_eq.mpr c10
       have c10b1 : (a0 != 246) = false := bne_eq_false_iff_eq.mpr c10
       clear c10
       obtain rfl := Option.some.inj H
       go_enter Tryz.func82, Tryz.ntmps82
       go_wp2
       go_ret
       exact ⟨by first | rfl | (simp; done) | (simp [*]; done), by repeat (first | exact Drawn0.refl _ | apply Drawn0.step)⟩
     · rw [if_neg c10] at H
       have c10b0 : (a0 == 246) = false := beq_eq_false_iff_ne.mpr c10
       have c10b1 : (a0 != 246) = true := bne_iff_ne.mpr c10
       by_cases c11 : a0 = 252
       · rw [if_pos c11] at H
         have c11b0 : (a0 == 252) = true := beq_iff_eq.mpr c11
         have c11b1 : (a0 != 252) = false := bne_eq_false_iff_eq.mpr c11
         clear c11
         obtain rfl := Option.some.inj H
         go_enter Tryz.func82, Tryz.ntmps82
         go_wp2
         go_ret
         exact ⟨by first | rfl | (simp; done) | (simp [*]; done), by repeat (first | exact Drawn0.refl _ | apply Drawn0.step)⟩
       · rw [if_neg c11] at H
         have c11b0 : (a0 == 252) = false := beq_eq_false_iff_ne.mpr c11
         have c11b1 : (a0 != 252) = true := bne_iff_ne.mpr c11
         by_cases c12 : a0 = 223
         · rw [if_pos c12] at H
           have c12b0 : (a0 == 223) = true := beq_iff_eq.mpr c12
           have c12b1 : (a0 != 223) = false := bne_eq_false_iff_eq.mpr c12
           clear c12
           obtain rfl := Option.some.inj H
           go_enter Tryz.func82, Tryz.ntmps82
           go_wp2
           go_ret
           exact ⟨by first | rfl | (simp; done) | (simp [*]; done), by repeat (first | exact Drawn0.refl _ | apply Drawn0.step)⟩
         · rw [if_neg c12] at H
           have c12b0 : (a0 == 223) = false := beq_eq_false_iff_ne.mpr c12
           have c12b1 : (a0 != 223) = true := bne_iff_ne.mpr c12
           by_cases c13 : a0 ≥ 945
           · rw [if_pos c13] at H
             have c13b0 : decide (945 ≤ a0) = true := decide_eq_true c13
             clear c13
             obtain rfl := Option.some.inj H
             go_enter Tryz.func82, Tryz.ntmps82
             go_wp2
             go_ret
             exact ⟨by first | rfl | (simp; done) | (simp [*]; done), by repeat (first | exact Drawn0.refl _ | apply Drawn0.step)⟩
           · rw [if_neg c13] at H
             have c13b0 : decide (945 ≤ a0) = false := decide_eq_false c13
             clear c13
             obtain rfl := Option.some.inj H
             go_enter Tryz.func82, Tryz.ntmps82
             go_wp2
             go_ret
             exact ⟨by first | rfl | (simp; done) | (simp [*]; done), by repeat (first | exact Drawn0.refl _ | apply Drawn0.step)⟩

/-! ### odysseyref01_Is: function 34 -/
def odysseyref01_Is.l0 : Nat → ByteArray → Int → Int → Option (Bool)
 | 0, _, _, _ => none
 | k + 1, x0, x3, x4 => if x4 < (x0.size : Int) then ((odysseyref01_Next.f k x0 x4).bind fun bt116 => ((odysseyref01_letter.f bt116.1).bind fun t119 => (if bt116.2.2 = true then (if t119 = true then (odysseyref01_Is.l0 k x0 (wrap64 (x3 + 1)) (wrap64 (x4 + bt116.2.1))) else (if x3 > 0 then (if bt116.1 = 45 then (odysseyref01_Is.l0 k x0 (wrap64 (x3 + 1)) (wrap64 (x4 + bt116.2.1))) else (if bt116.1 ≥ 48 then (if bt116.1 ≤ 57 then (odysseyref01_Is.l0 k x0 (wrap64 (x3 + 1)) (wrap64 (x4 + bt116.2.1))) else (some false)) else (some false))) else (some false))) else (some false)))) else (if x3 ≥ 1 then (some (decide (x3 ≤ 8))) else (some false))
def odysseyref01_Is.f (k : Nat) (a0 : ByteArray) : Option (Bool) := odysseyref01_Is.l0 k a0 0 0
set_option maxHeartbeats 8000000 in
set_option maxRecDepth 100000 in
theorem odysseyref01_Is.calls (k : Nat) (a0 : ByteArray) (r : Bool) (w : World) (h : odysseyref01_Is.f k a0 = some r) :
 Calls Tryz.prog 34 #[.string a0] w fun e w' => e = .returned (.bool r) ∧ Drawn0 w w' := by
 have H : (odysseyref01_Is.l0 k a0 0 0) = some r := h
 clear h
 have H' := Aside0.mk H
 clear H
 go_enter Tryz.func34, Tryz.ntmps34
 go_wp2
 go_loopg [3, 4] k (fun kq v3 v4 w' => ∃ (x3_1 : Int) (x4_1 : Int), v3 = .int .i64 x3_1 ∧ v4 = .int .i64 x4_1 ∧ Aside0 (odysseyref01_Is.l0 kq a0 x3_1 x4_1 = some r) ∧ Aside0 (kq ≤ k) ∧ Drawn0 w w')
 case atStart => exact ⟨(0), (0), (by first | rfl | (simp; done) | (simp [*]; done)), (by first | rfl | (simp; done) | (simp [*]; done)), H', ⟨Nat.le_refl _⟩, by repeat (first | exact Drawn0.refl _ | apply Drawn0.step)⟩
 case round =>
  clear H'
  obtain ⟨x3_1, x4_1, rfl, rfl, HA, HK1, ⟨m1, rfl⟩⟩ := hrel
  cases gk with
  | zero => exact absurd HA.out (by simp [odysseyref01_Is.l0])
  | succ k1 =>
   have H := HA.out
   clear HA
   simp only [odysseyref01_Is.l0] at H
   by_cases c2 : x4_1 < (a0.size : Int)
   · rw [if_pos c2] at H
     have c2b0 : decide (x4_1 < (a0.size : Int)) = true := decide_eq_true c2
     clear c2
     replace H := Option.bind_eq_some_iff.mp H
     obtain ⟨⟨t116, t117, t118⟩, A30, H⟩ := H
     replace H : ((odysseyref01_letter.f t116).bind fun t119 => (if t118 = true then (if t119 = true then (odysseyref01_Is.l0 k1 a0 (wrap64 (x3_1 + 1)) (wrap64 (x4_1 + t117))) else (if x3_1 > 0 then (if t116 = 45 then (odysseyref01_Is.l0 k1 a0 (wrap64 (x3_1 + 1)) (wrap64 (x4_1 + t117))) else (if t116 ≥ 48 then (if t116 ≤ 57 then (odysseyref01_Is.l0 k1 a0 (wrap64 (x3_1 + 1)) (wrap64 (x4_1 + t117))) else (some false)) else (some false))) else (some false))) else (some false))) = some r := H
     have A3 := Aside0.mk A30
     clear A30
     replace H := Option.bind_eq_some_iff.mp H
     obtain ⟨t119, A40, H⟩ := H
     replace H : (if t118 = true then (if t119 = true then (odysseyref01_Is.l0 k1 a0 (wrap64 (x3_1 + 1)) (wrap64 (x4_1 + t117))) else (if x3_1 > 0 then (if t116 = 45 then (odysseyref01_Is.l0 k1 a0 (wrap64 (x3_1 + 1)) (wrap64 (x4_1 + t117))) else (if t116 ≥ 48 then (if t116 ≤ 57 then (odysseyref01_Is.l0 k1 a0 (wrap64 (x3_1 + 1)) (wrap64 (x4_1 + t117))) else (some false)) else (some false))) else (some false))) else (some false)) = some r := H
     have A4 := Aside0.mk A40
     clear A40
     by_cases c5 : t118 = true
     · subst c5
       have H1 : (if t119 = true then (odysseyref01_Is.l0 k1 a0 (wrap64 (x3_1 + 1)) (wrap64 (x4_1 + t117))) else (if x3_1 > 0 then (if t116 = 45 then (odysseyref01_Is.l0 k1 a0 (wrap64 (x3_1 + 1)) (wrap64 (x4_1 + t117))) else (if t116 ≥ 48 then (if t116 ≤ 57 then (odysseyref01_Is.l0 k1 a0 (wrap64 (x3_1 + 1)) (wrap64 (x4_1 + t117))) else (some false)) else (some false))) else (some false))) = some r := by rw [if_pos rfl] at H; exact H
       clear H
       have H := H1
       clear H1
       by_cases c6 : t119 = true
       · subst c6
         have H1 : (odysseyref01_Is.l0 k1 a0 (wrap64 (x3_1 + 1)) (wrap64 (x4_1 + t117))) = some r := by rw [if_pos rfl] at H; exact H
         clear H
         have H := H1
         clear H1
         have H' := Aside0.mk H
         clear H
         go_wp2_with (first | ((with_reducible refine gate_callee (f := 81) rfl ?_); refine goesL_ (some 16) rfl rfl Tryz.func81 (by kernel_rfl) rfl #[.string a0, .int .i64 x4_1] rfl (by (try simp only [List.map_toArray, List.map_cons, List.map_nil]); first | done | rfl | (simp only [List.length_drop, List.length_take]; rfl)) ?_; (with_reducible refine (odysseyref01_Next.calls k1 a0 x4_1 t116 t117 true _ A3.out).mono ?_); rintro e w' ⟨rfl, ⟨nd, rfl⟩⟩; refine ⟨_, rfl, ?_⟩) | ((with_reducible refine gate_callee (f := 82) rfl ?_); refine goesL_ (some 21) rfl rfl Tryz.func82 (by kernel_rfl) rfl #[.int .i64 t116] rfl (by (try simp only [List.map_toArray, List.map_cons, List.map_nil]); first | done | rfl | (simp only [List.length_drop, List.length_take]; rfl)) ?_; (with_reducible refine (odysseyref01_letter.calls t116 true _ A4.out).mono ?_); rintro e w' ⟨rfl, ⟨nd, rfl⟩⟩; refine ⟨_, rfl, ?_⟩))
         go_roundg k1
         case measure => have := HK1.out; omega
         case rel => exact ⟨(wrap64 (x3_1 + 1)), (wrap64 (x4_1 + t117)), (by first | rfl | (simp; done) | (simp [*]; done)), (by first | rfl | (simp; done) | (simp [*]; done)), H', ⟨by have := HK1.out; omega⟩, by repeat (first | exact Drawn0.refl _ | apply Drawn0.step)⟩
       · replace c6 := Bool.eq_false_iff.mpr c6
         subst c6
         have H1 : (if x3_1 > 0 then (if t116 = 45 then (odysseyref01_Is.l0 k1 a0 (wrap64 (x3_1 + 1)) (wrap64 (x4_1 + t117))) else (if t116 ≥ 48 then (if t116 ≤ 57 then (odysseyref01_Is.l0 k1 a0 (wrap64 (x3_1 + 1)) (wrap64 (x4_1 + t117))) else (some false)) else (some false))) else (some false)) = some r := by rw [if_neg (show ¬ (false = true) by decide)] at H; exact H
         clear H
         have H := H1
         clear H1
         by_cases c7 : x3_1 > 0
         · rw [if_pos c7] at H
           have c7b0 : decide (0 < x3_1) = true := decide_eq_true c7
           clear c7
           by_cases c8 : t116 = 45
           · rw [if_pos c8] at H
             have c8b0 : (t116 == 45) = true := beq_iff_eq.mpr c8
             have c8b1 : (t116 != 45) = false := bne_eq_false_iff_eq.mpr c8
             clear c8
             have H' := Aside0.mk H
             clear H
             go_wp2_with (first | ((with_reducible refine gate_callee (f := 81) rfl ?_); refine goesL_ (some 16) rfl rfl Tryz.func81 (by kernel_rfl) rfl #[.string a0, .int .i64 x4_1] rfl (by (try simp only [List.map_toArray, List.map_cons, List.map_nil]); first | done | rfl | (simp only [List.length_drop, List.length_take]; rfl)) ?_; (with_reducible refine (odysseyref01_Next.calls k1 a0 x4_1 t116 t117 true _ A3.out).mono ?_); rintro e w' ⟨rfl, ⟨nd, rfl⟩⟩; refine ⟨_, rfl, ?_⟩) | ((with_reducible refine gate_callee (f := 82) rfl ?_); refine goesL_ (some 21) rfl rfl Tryz.func82 (by kernel_rfl) rfl #[.int .i64 t116] rfl (by (try simp only [List.map_toArray, List.map_cons, List.map_nil]); first | done | rfl | (simp only [List.length_drop, List.length_take]; rfl)) ?_; (with_reducible refine (odysseyref01_letter.calls t116 false _ A4.out).mono ?_); rintro e w' ⟨rfl, ⟨nd, rfl⟩⟩; refine ⟨_, rfl, ?_⟩))
             go_roundg k1
             case measure => have := HK1.out; omega
             case rel => exact ⟨(wrap64 (x3_1 + 1)), (wrap64 (x4_1 + t117)), (by first | rfl | (simp; done) | (simp [*]; done)), (by first | rfl | (simp; done) | (simp [*]; done)), H', ⟨by have := HK1.out; omega⟩, by repeat (first | exact Drawn0.refl _ | apply Drawn0.step)⟩
           · rw [if_neg c8] at H
             have c8b0 : (t116 == 45) = false := beq_eq_false_iff_ne.mpr c8
             have c8b1 : (t116 != 45) = true := bne_iff_ne.mpr c8
             by_cases c9 : t116 ≥ 48
             · rw [if_pos c9] at H
               have c9b0 : decide (48 ≤ t116) = true := decide_eq_true c9
               clear c9
               by_cases c10 : t116 ≤ 57
               · rw [if_pos c10] at H
                 have c10b0 : decide (t116 ≤ 57) = true := decide_eq_true c10
                 clear c10
                 have H' := Aside0.mk H
                 clear H
                 go_wp2_with (first | ((with_reducible refine gate_callee (f := 81) rfl ?_); refine goesL_ (some 16) rfl rfl Tryz.func81 (by kernel_rfl) rfl #[.string a0, .int .i64 x4_1] rfl (by (try simp only [List.map_toArray, List.map_cons, List.map_nil]); first | done | rfl | (simp only [List.length_drop, List.length_take]; rfl)) ?_; (with_reducible refine (odysseyref01_Next.calls k1 a0 x4_1 t116 t117 true _ A3.out).mono ?_); rintro e w' ⟨rfl, ⟨nd, rfl⟩⟩; refine ⟨_, rfl, ?_⟩) | ((with_reducible refine gate_callee (f := 82) rfl ?_); refine goesL_ (some 21) rfl rfl Tryz.func82 (by kernel_rfl) rfl #[.int .i64 t116] rfl (by (try simp only [List.map_toArray, List.map_cons, List.map_nil]); first | done | rfl | (simp only [List.length_drop, List.length_take]; rfl)) ?_; (with_reducible refine (odysseyref01_letter.calls t116 false _ A4.out).mono ?_); rintro e w' ⟨rfl, ⟨nd, rfl⟩⟩; refine ⟨_, rfl, ?_⟩))
                 go_roundg k1
                 case measure => have := HK1.out; omega
                 case rel => exact ⟨(wrap64 (x3_1 + 1)), (wrap64 (x4_1 + t117)), (by first | rfl | (simp; done) | (simp [*]; done)), (by first | rfl | (simp; done) | (simp [*]; done)), H', ⟨by have := HK1.out; omega⟩, by repeat (first | exact Drawn0.refl _ | apply Drawn0.step)⟩
               · rw [if_neg c10] at H
                 have c10b0 : decide (t116 ≤ 57) = false := decide_eq_false c10
                 clear c10
                 obtain rfl := Option.some.inj H
                 go_wp2_with (first | ((with_reducible refine gate_callee (f := 81) rfl ?_); refine goesL_ (some 16) rfl rfl Tryz.func81 (by kernel_rfl) rfl #[.string a0, .int .i64 x4_1] rfl (by (try simp only [List.map_toArray, List.map_cons, List.map_nil]); first | done | rfl | (simp only [List.length_drop, List.length_take]; rfl)) ?_; (with_reducible refine (odysseyref01_Next.calls k1 a0 x4_1 t116 t117 true _ A3.out).mono ?_); rintro e w' ⟨rfl, ⟨nd, rfl⟩⟩; refine ⟨_, rfl, ?_⟩) | ((with_reducible refine gate_callee (f := 82) rfl ?_); refine goesL_ (some 21) rfl rfl Tryz.func82 (by kernel_rfl) rfl #[.int .i64 t116] rfl (by (try simp only [List.map_toArray, List.map_cons, List.map_nil]); first | done | rfl | (simp only [List.length_drop, List.length_take]; rfl)) ?_; (with_reducible refine (odysseyref01_letter.calls t116 false _ A4.out).mono ?_); rintro e w' ⟨rfl, ⟨nd, rfl⟩⟩; refine ⟨_, rfl, ?_⟩))
                 go_ret
                 exact ⟨by first | rfl | (simp; done) | (simp [*]; done), by repeat (first | exact Drawn0.refl _ | apply Drawn0.step)⟩
             · rw [if_neg c9] at H
               have c9b0 : decide (48 ≤ t116) = false := decide_eq_false c9
               clear c9
               obtain rfl := Option.some.inj H
               go_wp2_with (first | ((with_reducible refine gate_callee (f := 81) rfl ?_); refine goesL_ (some 16) rfl rfl Tryz.func81 (by kernel_rfl) rfl #[.string a0, .int .i64 x4_1] rfl (by (try simp only [List.map_toArray, List.map_cons, List.map_nil]); first | done | rfl | (simp only [List.length_drop, List.length_take]; rfl)) ?_; (with_reducible refine (odysseyref01_Next.calls k1 a0 x4_1 t116 t117 true _ A3.out).mono ?_); rintro e w' ⟨rfl, ⟨nd, rfl⟩⟩; refine ⟨_, rfl, ?_⟩) | ((with_reducible refine gate_callee (f := 82) rfl ?_); refine goesL_ (some 21) rfl rfl Tryz.func82 (by kernel_rfl) rfl #[.int .i64 t116] rfl (by (try simp only [List.map_toArray, List.map_cons, List.map_nil]); first | done | rfl | (simp only [List.length_drop, List.length_take]; rfl)) ?_; (with_reducible refine (odysseyref01_letter.calls t116 false _ A4.out).mono ?_); rintro e w' ⟨rfl, ⟨nd, rfl⟩⟩; refine ⟨_, rfl, ?_⟩))
               go_ret
               exact ⟨by first | rfl | (simp; done) | (simp [*]; done), by repeat (first | exact Drawn0.refl _ | apply Drawn0.step)⟩
         · rw [if_neg c7] at H
           have c7b0 : decide (0 < x3_1) = false := decide_eq_false c7
           clear c7
           obtain rfl := Option.some.inj H
           go_wp2_with (first | ((with_reducible refine gate_callee (f := 81) rfl ?_); refine goesL_ (some 16) rfl rfl Tryz.func81 (by kernel_rfl) rfl #[.string a0, .int .i64 x4_1] rfl (by (try simp only [List.map_toArray, List.map_cons, List.map_nil]); first | done | rfl | (simp only [List.length_drop, List.length_take]; rfl)) ?_; (with_reducible refine (odysseyref01_Next.calls k1 a0 x4_1 t116 t117 true _ A3.out).mono ?_); rintro e w' ⟨rfl, ⟨nd, rfl⟩⟩; refine ⟨_, rfl, ?_⟩) | ((with_reducible refine gate_callee (f := 82) rfl ?_); refine goesL_ (some 21) rfl rfl Tryz.func82 (by kernel_rfl) rfl #[.int .i64 t116] rfl (by (try simp only [List.map_toArray, List.map_cons, List.map_nil]); first | done | rfl | (simp only [List.length_drop, List.length_take]; rfl)) ?_; (with_reducible refine (odysseyref01_letter.calls t116 false _ A4.out).mono ?_); rintro e w' ⟨rfl, ⟨nd, rfl⟩⟩; refine ⟨_, rfl, ?_⟩))
           go_ret
           exact ⟨by first | rfl | (simp; done) | (simp [*]; done), by repeat (first | exact Drawn0.refl _ | apply Drawn0.step)⟩
     · replace c5 := Bool.eq_false_iff.mpr c5
       subst c5
       have H1 : (some false) = some r := by rw [if_neg (show ¬ (false = true) by decide)] at H; exact H
       clear H
       have H := H1
       clear H1
       obtain rfl := Option.some.inj H
       go_wp2_with (first | ((with_reducible refine gate_callee (f := 81) rfl ?_); refine goesL_ (some 16) rfl rfl Tryz.func81 (by kernel_rfl) rfl #[.string a0, .int .i64 x4_1] rfl (by (try simp only [List.map_toArray, List.map_cons, List.map_nil]); first | done | rfl | (simp only [List.length_drop, List.length_take]; rfl)) ?_; (with_reducible refine (odysseyref01_Next.calls k1 a0 x4_1 t116 t117 false _ A3.out).mono ?_); rintro e w' ⟨rfl, ⟨nd, rfl⟩⟩; refine ⟨_, rfl, ?_⟩) | ((with_reducible refine gate_callee (f := 82) rfl ?_); refine goesL_ (some 21) rfl rfl Tryz.func82 (by kernel_rfl) rfl #[.int .i64 t116] rfl (by (try simp only [List.map_toArray, List.map_cons, List.map_nil]); first | done | rfl | (simp only [List.length_drop, List.length_take]; rfl)) ?_; (with_reducible refine (odysseyref01_letter.calls t116 t119 _ A4.out).mono ?_); rintro e w' ⟨rfl, ⟨nd, rfl⟩⟩; refine ⟨_, rfl, ?_⟩))
       go_ret
       exact ⟨by first | rfl | (simp; done) | (simp [*]; done), by repeat (first | exact Drawn0.refl _ | apply Drawn0.step)⟩
   · rw [if_neg c2] at H
     have c2b0 : decide (x4_1 < (a0.size : Int)) = false := decide_eq_false c2
     clear c2
     by_cases c11 : x3_1 ≥ 1
     · rw [if_pos c11] at H
       have c11b0 : decide (1 ≤ x3_1) = true := decide_eq_true c11
       clear c11
       obtain rfl := Option.some.inj H
       go_wp2
       go_ret
       exact ⟨by first | rfl | (simp; done) | (simp [*]; done), by repeat (first | exact Drawn0.refl _ | apply Drawn0.step)⟩
     · rw [if_neg c11] at H
       have c11b0 : decide (1 ≤ x3_1) = false := decide_eq_false c11
       clear c11
       obtain rfl := Option.some.inj H
       go_wp2
       go_ret
       exact ⟨by first | rfl | (simp; done) | (simp [*]; done), by repeat (first | exact Drawn0.refl _ | apply Drawn0.step)⟩

/-! ### odysseyref11_twice: function 106 -/
end Go.Proofs.YtgjddnaidjbhlaaGreatDoor.PPhaseStarts

-- PRINTED BY print.sh 35421559b90ae4d0a3588c463048766b98c2df88dd9212a6774a882060cdf62d: not written by this session
namespace Go.Proofs.YtgjddnaidjbhlaaGreatDoor.PPhaseStarts
open Go.RowKit Go.Proofs.YtgjddnaidjbhlaaGreatDoorW.PrintWords Go.Proofs.YtgjddnaidjbhlaaGreatDoorW.PrintLast Go.Proofs.YtgjddnaidjbhlaaGreatDoorW.PrintMore
attribute [local go_sem] max2_int min2_int max_two min_two max_three min_three max_four min_four   -- for this text's walks alone
set_option linter.unusedVariables false
set_option linter.unusedSimpArgs false

/-! ### odysseyref01_Runes: function 181 -/
def odysseyref01_Runes.l0 : Nat → ByteArray → List Int → Int → Option (List Int)
 | 0, _, _, _ => none
 | k + 1, x0, x3, x4 => if x4 < (x0.size : Int) then ((odysseyref01_Next.f k x0 x4).bind fun bt123 => (if x3.length < 17592186044416 then (odysseyref01_Runes.l0 k x0 (x3 ++ [bt123.1]) (wrap64 (x4 + bt123.2.1))) else (none))) else (some x3)
def odysseyref01_Runes.f (k : Nat) (a0 : ByteArray) : Option (List Int) := odysseyref01_Runes.l0 k a0 ([] : List Int) 0
set_option maxHeartbeats 8000000 in
set_option maxRecDepth 100000 in
theorem odysseyref01_Runes.calls (k : Nat) (a0 : ByteArray) (r : List Int) (w : World) (h : odysseyref01_Runes.f k a0 = some r) :
 Calls Tryz.prog 181 #[.string a0] w fun e w' => ∃ v0_ : Value, e = .returned (v0_) ∧ Kd.R (Kd.int .i64) 3 w' w.heap.size (fun _ => True) v0_ r ∧ Below w.heap.size w w' := by
 have HB := Aside0.mk (Below.refl w.heap.size w)
 have H : (odysseyref01_Runes.l0 k a0 ([] : List Int) 0) = some r := h
 clear h
 have H' := Aside0.mk H
 clear H
 go_enter Tryz.func181, Tryz.ntmps181
 go_wp2
 go_loopg [3, 4] k (fun kq v3 v4 w' => ∃ (x3_1 : List Int) (x4_1 : Int), v4 = .int .i64 x4_1 ∧ Aside0 (odysseyref01_Runes.l0 kq a0 x3_1 x4_1 = some r) ∧ Aside0 (kq ≤ k) ∧ Aside0 (Kd.R (Kd.int .i64) 3 w' w.heap.size (fun _ => True) v3 x3_1) ∧ Aside0 (Below w.heap.size w w'))
 case atStart => exact ⟨(([] : List Int)), (0), (by first | rfl | (simp; done) | (simp [*]; done)), H', ⟨Nat.le_refl _⟩, ⟨by first | exact Kd.R_nil _ _ _ _ _ | exact Kd.N_nil _ _ _ _ _ | exact Kd.V_nil _ _ _ _ _ | exact Kd.Q_nil _ _ _ _ _ | exact Kd.S_nil _ _ _ _ _⟩, ⟨by repeat (first | (with_reducible first | exact HB.out | apply below_alloc | apply pw_below_drewN | apply below_drew1) | exact HB.out)⟩⟩
 case round =>
  clear H'
  try clear c1
  obtain ⟨x3_1, x4_1, rfl, HA, HK1, HO_3, HB⟩ := hrel
  cases gk with
  | zero => exact absurd HA.out (by simp [odysseyref01_Runes.l0])
  | succ k1 =>
   have H := HA.out
   clear HA
   simp only [odysseyref01_Runes.l0] at H
   by_cases c2 : x4_1 < (a0.size : Int)
   · rw [if_pos c2] at H
     have c2b0 : decide (x4_1 < (a0.size : Int)) = true := decide_eq_true c2
     clear c2
     replace H := Option.bind_eq_some_iff.mp H
     obtain ⟨⟨t123, t124, t125⟩, A30, H⟩ := H
     replace H : (if x3_1.length < 17592186044416 then (odysseyref01_Runes.l0 k1 a0 (x3_1 ++ [t123]) (wrap64 (x4_1 + t124))) else (none)) = some r := H
     have A3 := Aside0.mk A30
     clear A30
     by_cases c4 : x3_1.length < 17592186044416
     · rw [if_pos c4] at H
       have LMc4 := Aside0.mk c4
       clear c4
       obtain ⟨y126, hy126⟩ : ∃ y_ : List Int, y_ = (x3_1 ++ [t123]) := ⟨_, rfl⟩
       replace H : (odysseyref01_Runes.l0 k1 a0 y126 (wrap64 (x4_1 + t124))) = some r := by first | (rw [hy126]; with_reducible exact H) | (have H2_ := (Option.bind_some _ _).symm.trans H; rw [hy126]; with_reducible exact H2_) | (have H2_ := (Option.bind_some _ _).symm.trans H; with_reducible exact H2_) | with_reducible exact H | (rw [hy126]; exact H) | exact H
       have Ny126 := Aside0.mk hy126
       clear hy126
       have H' := Aside0.mk H
       clear H
       go_wp2_with (first | ((with_reducible refine gate_callee (f := 81) rfl ?_); refine goesL_ (some 15) rfl rfl Tryz.func81 (by kernel_rfl) rfl #[.string a0, .int .i64 x4_1] rfl (by (try simp only [List.map_toArray, List.map_cons, List.map_nil]); first | done | rfl | (simp only [List.length_drop, List.length_take]; rfl)) ?_; (with_reducible refine (odysseyref01_Next.calls k1 a0 x4_1 t123 t124 t125 _ A3.out).mono ?_); rintro e w' ⟨rfl, ⟨nd, rfl⟩⟩; refine ⟨_, rfl, ?_⟩) | ((with_reducible refine gate_builtin (b := .append) (xs := #[.tmp 19, .tmp 21]) rfl ?_); at_builtin; refine Kd.R_append (Kd.int .i64) (w0 := w) w.heap.size rfl (.tmp 19) (.tmp 21) 25 3 (.int .i64 0) 8 rfl Tryz.underlying25 info3 rfl (by decide) (by omega) u3 x3_1 t123 [.int .i64 t123] (fun _ => True) (fun _ => False) rfl rfl ?aP (fun _ hk => hk.elim) ?aF ?aO ?aB ?aS ?aL ?_; (case aP => exact rfl); (case aB => exact (by repeat (first | (with_reducible first | exact HB.out | apply below_alloc | apply pw_below_drewN | apply below_drew1) | exact HB.out))); (case aF => exact (fun _ _ => trivial)); (case aO => exact (by (with_reducible repeat (first | apply Kd.R_alloc | apply Kd.R_drewN | apply Kd.R_drew)); exact HO_3.out)); (case aS => exact (below_size (by repeat (first | (with_reducible first | exact HB.out | apply below_alloc | apply pw_below_drewN | apply below_drew1) | exact HB.out)))); (case aL => have := LMc4.out; omega); intro v127 w5 ho hb hg hat; rw [← Ny126.out] at ho; have n0_ := Aside0.mk (hb); have n1_ := Aside0.mk (ho); clear HB; clear HO_3; have HB := n0_; have HO128 := n1_; clear n0_ n1_; clear ho hb hg hat))
       go_roundg k1
       case measure => have := HK1.out; omega
       case rel => exact ⟨(y126), (wrap64 (x4_1 + t124)), (by first | rfl | (simp; done) | (simp [*]; done)), H', ⟨by have := HK1.out; omega⟩, ⟨by (with_reducible repeat (first | apply Kd.R_alloc | apply Kd.R_drewN | apply Kd.R_drew)); exact HO128.out⟩, ⟨by repeat (first | (with_reducible first | exact HB.out | apply below_alloc | apply pw_below_drewN | apply below_drew1) | exact HB.out)⟩⟩
     · rw [if_neg c4] at H
       exact absurd H (by simp)
   · rw [if_neg c2] at H
     have c2b0 : decide (x4_1 < (a0.size : Int)) = false := decide_eq_false c2
     clear c2
     obtain rfl := Option.some.inj H
     go_wp2
     go_ret
     exact ⟨_, by first | rfl | (simp [errW_none, errW_some] <;> rfl) | (simp [*, errW_none, errW_some] <;> rfl), by (with_reducible repeat (first | apply Kd.R_alloc | apply Kd.R_drewN | apply Kd.R_drew)); exact HO_3.out, by repeat (first | (with_reducible first | exact HB.out | apply below_alloc | apply pw_below_drewN | apply below_drew1) | exact HB.out)⟩

/-! ### odysseyref01_Owner: function 161 -/
def odysseyref01_Owner.l0 : Nat → List Int → Int → Int → Option (Int)
 | 0, _, _, _ => none
 | k + 1, x3, x4, x5 => if x5 < (x3.length : Int) then (if 0 ≤ x5 then (odysseyref01_Owner.l0 k x3 (Int.tmod (wrap64 (x4 + (rd x3 x5))) 4) (wrap64 (x5 + 1))) else (none)) else (some x4)
def odysseyref01_Owner.f (k : Nat) (a0 : ByteArray) : Option (Int) := (odysseyref01_Runes.f k a0).bind fun t129 => (odysseyref01_Owner.l0 k t129 0 0)
set_option maxHeartbeats 8000000 in
set_option maxRecDepth 100000 in
theorem odysseyref01_Owner.calls (k : Nat) (a0 : ByteArray) (r : Int) (w : World) (h : odysseyref01_Owner.f k a0 = some r) :
 Calls Tryz.prog 161 #[.string a0] w fun e w' => e = .returned (.int .i64 r) ∧ Below w.heap.size w w' := by
 have HB := Aside0.mk (Below.refl w.heap.size w)
 have H : ((odysseyref01_Runes.f k a0).bind fun t129 => (odysseyref01_Owner.l0 k t129 0 0)) = some r := h
 clear h
 replace H := Option.bind_eq_some_iff.mp H
 obtain ⟨t129, A20, H⟩ := H
 replace H : (odysseyref01_Owner.l0 k t129 0 0) = some r := H
 have A2 := Aside0.mk A20
 clear A20
 have H' := Aside0.mk H
 clear H
 go_enter Tryz.func161, Tryz.ntmps161
 go_wp2_with (first | ((with_reducible refine gate_callee (f := 181) rfl ?_); refine goesL_ (some 7) rfl rfl Tryz.func181 (by kernel_rfl) rfl #[.string a0] rfl (by (try simp only [List.map_toArray, List.map_cons, List.map_nil]); first | done | rfl | (simp only [List.length_drop, List.length_take]; rfl)) ?_; (with_reducible refine (odysseyref01_Runes.calls k a0 t129 _ A2.out).mono ?_); rintro e w3 ⟨v130, rfl, ho0, hb⟩; refine ⟨_, rfl, ?_⟩; have n0_ := Aside0.mk (Kd.R_lower ho0 (below_size (by repeat (first | (with_reducible first | exact HB.out | apply below_alloc | apply pw_below_drewN | apply below_drew1) | exact HB.out)))); have n1_ := Aside0.mk (below_step (by repeat (first | (with_reducible first | exact HB.out | apply below_alloc | apply pw_below_drewN | apply below_drew1) | exact HB.out)) hb); clear HB; have HO131 := n0_; have HB := n1_; clear n0_ n1_; (try clear hb); (try clear hb2); (try clear hk); (try clear hi); (try clear ho0)))
 go_loopg [4, 5] k (fun kq v4 v5 w' => ∃ (x4_1 : Int) (x5_1 : Int), v4 = .int .i64 x4_1 ∧ v5 = .int .i64 x5_1 ∧ Aside0 (odysseyref01_Owner.l0 kq t129 x4_1 x5_1 = some r) ∧ Aside0 (kq ≤ k) ∧ Aside0 (Kd.R (Kd.int .i64) 3 w' w.heap.size (fun _ => True) v130 t129) ∧ Aside0 (Below w.heap.size w w'))
 case atStart => exact ⟨(0), (0), (by first | rfl | (simp; done) | (simp [*]; done)), (by first | rfl | (simp; done) | (simp [*]; done)), H', ⟨Nat.le_refl _⟩, ⟨by (with_reducible repeat (first | apply Kd.R_alloc | apply Kd.R_drewN | apply Kd.R_drew)); exact HO131.out⟩, ⟨by repeat (first | (with_reducible first | exact HB.out | apply below_alloc | apply pw_below_drewN | apply below_drew1) | exact HB.out)⟩⟩
 case round =>
  clear H'
  try clear c1
  try clear p2
  obtain ⟨x4_1, x5_1, rfl, rfl, HA, HK1, HO_3, HB⟩ := hrel
  cases gk with
  | zero => exact absurd HA.out (by simp [odysseyref01_Owner.l0])
  | succ k1 =>
   have H := HA.out
   clear HA
   simp only [odysseyref01_Owner.l0] at H
   by_cases c4 : x5_1 < (t129.length : Int)
   · rw [if_pos c4] at H
     have c4b0 : decide (x5_1 < (t129.length : Int)) = true := decide_eq_true c4
     clear c4
     by_cases c5 : 0 ≤ x5_1
     · rw [if_pos c5] at H
       have c5b0 : decide (0 ≤ x5_1) = true := decide_eq_true c5
       clear c5
       have H' := Aside0.mk H
       clear H
       obtain ⟨Ao6, co6, eo6⟩ := Kd.R_slice HO_3.out
       subst eo6
       have p132 : 0 ≤ (x5_1 : Int) := of_decide_eq_true (by first | (with_reducible assumption) | assumption)
       have q132 : x5_1 < (t129.length : Int) := of_decide_eq_true (by first | (with_reducible assumption) | assumption)
       obtain ⟨ad132, e132, hx132_0⟩ := Kd.at_int (Kd.R_reads' HO_3.out).2.2 x5_1 p132 q132
       cases e132
       replace p132 := eq_true p132
       replace q132 := eq_true q132
       go_wp2
       go_roundg k1
       case measure => have := HK1.out; omega
       case rel => exact ⟨(Int.tmod (wrap64 (x4_1 + (rd t129 x5_1))) 4), (wrap64 (x5_1 + 1)), (by first | rfl | (simp; done) | (simp [*]; done)), (by first | rfl | (simp; done) | (simp [*]; done)), H', ⟨by have := HK1.out; omega⟩, ⟨by (with_reducible repeat (first | apply Kd.R_alloc | apply Kd.R_drewN | apply Kd.R_drew)); exact HO_3.out⟩, ⟨by repeat (first | (with_reducible first | exact HB.out | apply below_alloc | apply pw_below_drewN | apply below_drew1) | exact HB.out)⟩⟩
     · rw [if_neg c5] at H
       exact absurd H (by simp)
   · rw [if_neg c4] at H
     have c4b0 : decide (x5_1 < (t129.length : Int)) = false := decide_eq_false c4
     clear c4
     obtain rfl := Option.some.inj H
     obtain ⟨Ao7, co7, eo7⟩ := Kd.R_slice HO_3.out
     subst eo7
     go_wp2
     go_ret
     exact ⟨by first | rfl | (simp [errW_none, errW_some] <;> rfl) | (simp [*, errW_none, errW_some] <;> rfl), by repeat (first | (with_reducible first | exact HB.out | apply below_alloc | apply pw_below_drewN | apply below_drew1) | exact HB.out)⟩

/-! ### odysseyref01_Compare: function 162 -/
mutual
def odysseyref01_Compare.l0 : Nat → List Int → List Int → Int → Option (Int)
 | 0, _, _, _ => none
 | k + 1, x5, x6, x7 => if x7 < (x5.length : Int) then (odysseyref01_Compare.j1 k x5 x6 x7 (decide (x7 < (x6.length : Int)))) else (odysseyref01_Compare.j1 k x5 x6 x7 false)
def odysseyref01_Compare.j1 : Nat → List Int → List Int → Int → Bool → Option (Int)
 | 0, _, _, _, _ => none
 | k + 1, x5, x6, x7, x21 => if x21 = true then (if 0 ≤ x7 then (if x7 < (x5.length : Int) then (if x7 < (x6.length : Int) then (if (rd x5 x7) < (rd x6 x7) then (some (-1)) else (if (rd x5 x7) > (rd x6 x7) then (some 1) else (odysseyref01_Compare.l0 k x5 x6 (wrap64 (x7 + 1))))) else (none)) else (none)) else (none)) else (if (x5.length : Int) < (x6.length : Int) then (some (-1)) else (if (x5.length : Int) > (x6.length : Int) then (some 1) else (some 0)))
end
def odysseyref01_Compare.f (k : Nat) (a0 : ByteArray) (a1 : ByteArray) : Option (Int) := (odysseyref01_Runes.f k a0).bind fun t133 => ((odysseyref01_Runes.f k a1).bind fun t136 => (odysseyref01_Compare.l0 k t133 t136 0))
set_option maxHeartbeats 8000000 in
set_option maxRecDepth 100000 in
theorem odysseyref01_Compare.calls (k : Nat) (a0 : ByteArray) (a1 : ByteArray) (r : Int) (w : World) (h : odysseyref01_Compare.f k a0 a1 = some r) :
 Calls Tryz.prog 162 #[.string a0, .string a1] w fun e w' => e = .returned (.int .i64 r) ∧ Below w.heap.size w w' := by
 have HB := Aside0.mk (Below.refl w.heap.size w)
 have H : ((odysseyref01_Runes.f k a0).bind fun t133 => ((odysseyref01_Runes.f k a1).bind fun t136 => (odysseyref01_Compare.l0 k t133 t136 0))) = some r := h
 clear h
 replace H := Option.bind_eq_some_iff.mp H
 obtain ⟨t133, A30, H⟩ := H
 replace H : ((odysseyref01_Runes.f k a1).bind fun t136 => (odysseyref01_Compare.l0 k t133 t136 0)) = some r := H
 have A3 := Aside0.mk A30
 clear A30
 replace H := Option.bind_eq_some_iff.mp H
 obtain ⟨t136, A40, H⟩ := H
 replace H : (odysseyref01_Compare.l0 k t133 t136 0) = some r := H
 have A4 := Aside0.mk A40
 clear A40
 have H' := Aside0.mk H
 clear H
 go_enter Tryz.func162, Tryz.ntmps162
 go_wp2_with (first | (go_at_call 181; (with_reducible refine (odysseyref01_Runes.calls k a0 t133 _ A3.out).mono ?_); rintro e w5 ⟨v134, rfl, ho0, hb⟩; have n0_ := Aside0.mk (Kd.R_lower ho0 (below_size (by repeat (first | (with_reducible first | exact HB.out | apply below_alloc | apply pw_below_drewN | apply below_drew1) | exact HB.out)))); have n1_ := Aside0.mk (below_step (by repeat (first | (with_reducible first | exact HB.out | apply below_alloc | apply pw_below_drewN | apply below_drew1) | exact HB.out)) hb); clear HB; have HO135 := n0_; have HB := n1_; clear n0_ n1_; (try clear hb); (try clear hb2); (try clear hk); (try clear hi); (try clear ho0)) | (go_at_call 181; (with_reducible refine (odysseyref01_Runes.calls k a1 t136 _ A4.out).mono ?_); rintro e w6 ⟨v137, rfl, ho0, hb⟩; have n0_ := Aside0.mk (Kd.R_elder' (by (with_reducible repeat (first | apply Kd.R_alloc | apply Kd.R_drewN | apply Kd.R_drew)); exact HO135.out) (Kd.R_base ho0) hb); have n1_ := Aside0.mk (Kd.R_lower (Kd.R_new' ho0 (Kd.R_lt (by (with_reducible repeat (first | apply Kd.R_alloc | apply Kd.R_drewN | apply Kd.R_drew)); exact HO135.out))) (below_size (by repeat (first | (with_reducible first | exact HB.out | apply below_alloc | apply pw_below_drewN | apply below_drew1) | exact HB.out)))); have n2_ := Aside0.mk (below_step (by repeat (first | (with_reducible first | exact HB.out | apply below_alloc | apply pw_below_drewN | apply below_drew1) | exact HB.out)) hb); clear HO135; clear HB; have HO135 := n0_; have HO138 := n1_; have HB := n2_; clear n0_ n1_ n2_; (try clear hb); (try clear hb2); (try clear hk); (try clear hi); (try clear ho0)))
 repeat (go_quiet (first | (go_at_call 181; (with_reducible refine (odysseyref01_Runes.calls k a0 t133 _ A3.out).mono ?_); rintro e w5 ⟨v134, rfl, ho0, hb⟩; have n0_ := Aside0.mk (Kd.R_lower ho0 (below_size (by repeat (first | (with_reducible first | exact HB.out | apply below_alloc | apply pw_below_drewN | apply below_drew1) | exact HB.out)))); have n1_ := Aside0.mk (below_step (by repeat (first | (with_reducible first | exact HB.out | apply below_alloc | apply pw_below_drewN | apply below_drew1) | exact HB.out)) hb); clear HB; have HO135 := n0_; have HB := n1_; clear n0_ n1_; (try clear hb); (try clear hb2); (try clear hk); (try clear hi); (try clear ho0)) | (go_at_call 181; (with_reducible refine (odysseyref01_Runes.calls k a1 t136 _ A4.out).mono ?_); rintro e w6 ⟨v137, rfl, ho0, hb⟩; have n0_ := Aside0.mk (Kd.R_elder' (by (with_reducible repeat (first | apply Kd.R_alloc | apply Kd.R_drewN | apply Kd.R_drew)); exact HO135.out) (Kd.R_base ho0) hb); have n1_ := Aside0.mk (Kd.R_lower (Kd.R_new' ho0 (Kd.R_lt (by (with_reducible repeat (first | apply Kd.R_alloc | apply Kd.R_drewN | apply Kd.R_drew)); exact HO135.out))) (below_size (by repeat (first | (with_reducible first | exact HB.out | apply below_alloc | apply pw_below_drewN | apply below_drew1) | exact HB.out)))); have n2_ := Aside0.mk (below_step (by repeat (first | (with_reducible first | exact HB.out | apply below_alloc | apply pw_below_drewN | apply below_drew1) | exact HB.out)) hb); clear HO135; clear HB; have HO135 := n0_; have HO138 := n1_; have HB := n2_; clear n0_ n1_ n2_; (try clear hb); (try clear hb2); (try clear hk); (try clear hi); (try clear ho0))); try go_wp2_with (first | (go_at_call 181; (with_reducible refine (odysseyref01_Runes.calls k a0 t133 _ A3.out).mono ?_); rintro e w5 ⟨v134, rfl, ho0, hb⟩; have n0_ := Aside0.mk (Kd.R_lower ho0 (below_size (by repeat (first | (with_reducible first | exact HB.out | apply below_alloc | apply pw_below_drewN | apply below_drew1) | exact HB.out)))); have n1_ := Aside0.mk (below_step (by repeat (first | (with_reducible first | exact HB.out | apply below_alloc | apply pw_below_drewN | apply below_drew1) | exact HB.out)) hb); clear HB; have HO135 := n0_; have HB := n1_; clear n0_ n1_; (try clear hb); (try clear hb2); (try clear hk); (try clear hi); (try clear ho0)) | (go_at_call 181; (with_reducible refine (odysseyref01_Runes.calls k a1 t136 _ A4.out).mono ?_); rintro e w6 ⟨v137, rfl, ho0, hb⟩; have n0_ := Aside0.mk (Kd.R_elder' (by (with_reducible repeat (first | apply Kd.R_alloc | apply Kd.R_drewN | apply Kd.R_drew)); exact HO135.out) (Kd.R_base ho0) hb); have n1_ := Aside0.mk (Kd.R_lower (Kd.R_new' ho0 (Kd.R_lt (by (with_reducible repeat (first | apply Kd.R_alloc | apply Kd.R_drewN | apply Kd.R_drew)); exact HO135.out))) (below_size (by repeat (first | (with_reducible first | exact HB.out | apply below_alloc | apply pw_below_drewN | apply below_drew1) | exact HB.out)))); have n2_ := Aside0.mk (below_step (by repeat (first | (with_reducible first | exact HB.out | apply below_alloc | apply pw_below_drewN | apply below_drew1) | exact HB.out)) hb); clear HO135; clear HB; have HO135 := n0_; have HO138 := n1_; have HB := n2_; clear n0_ n1_ n2_; (try clear hb); (try clear hb2); (try clear hk); (try clear hi); (try clear ho0))))
 go_loopg [7] k (fun kq v7 w' => ∃ (x7_1 : Int), v7 = .int .i64 x7_1 ∧ Aside0 (odysseyref01_Compare.l0 kq t133 t136 x7_1 = some r) ∧ Aside0 (kq ≤ k) ∧ Aside0 (Kd.R (Kd.int .i64) 3 w' w.heap.size (fun k_ => some k_ ≠ (v137 : Value).ownBlock) v134 t133) ∧ Aside0 (Kd.R (Kd.int .i64) 3 w' w.heap.size (fun k_ => some k_ ≠ (v134 : Value).ownBlock) v137 t136) ∧ Aside0 (Below w.heap.size w w'))
 case atStart => exact ⟨(0), (by first | rfl | (simp; done) | (simp [*]; done)), H', ⟨Nat.le_refl _⟩, ⟨by (with_reducible repeat (first | apply Kd.R_alloc | apply Kd.R_drewN | apply Kd.R_drew)); exact Kd.R_mono HO135.out (fun _ hk => hk.2)⟩, ⟨by (with_reducible repeat (first | apply Kd.R_alloc | apply Kd.R_drewN | apply Kd.R_drew)); exact Kd.R_mono HO138.out (fun _ hk => hk.2)⟩, ⟨by repeat (first | (with_reducible first | exact HB.out | apply below_alloc | apply pw_below_drewN | apply below_drew1) | exact HB.out)⟩⟩
 case round =>
  clear H'
  try clear c1
  try clear p2
  obtain ⟨x7_1, rfl, HA, HK1, HO_5, HO_6, HB⟩ := hrel
  cases gk with
  | zero => exact absurd HA.out (by simp [odysseyref01_Compare.l0])
  | succ k1 =>
   have H := HA.out
   clear HA
   simp only [odysseyref01_Compare.l0] at H
   have HC7 := Aside0.mk H
   clear H
   go_upto_region 4 with (fail)
   repeat (go_quiet (fail); go_upto_region 4 with (fail))
   go_cut [21] (fun v21 wc => ∃ (kq : Nat) (x21_6 : Bool), v21 = .bool x21_6 ∧ Aside0 (odysseyref01_Compare.j1 kq t133 t136 x7_1 x21_6 = some r) ∧ Aside0 (kq ≤ k1) ∧ Aside0 (Kd.R (Kd.int .i64) 3 wc w.heap.size (fun k_ => some k_ ≠ (v137 : Value).ownBlock) v134 t133) ∧ Aside0 (Kd.R (Kd.int .i64) 3 wc w.heap.size (fun k_ => some k_ ≠ (v134 : Value).ownBlock) v137 t136) ∧ Aside0 (Below w.heap.size w wc))
   case first =>
    have H := HC7.out
    clear HC7
    by_cases c8 : x7_1 < (t133.length : Int)
    · rw [if_pos c8] at H
      have c8b0 : decide (x7_1 < (t133.length : Int)) = true := decide_eq_true c8
      clear c8
      (first | rw [c8b0] | (simp only [i64_w, i32_w]; rw [c8b0]) | skip)
      have H' := Aside0.mk H
      clear H
      obtain ⟨Ao9, co9, eo9⟩ := Kd.R_slice HO_5.out
      subst eo9
      obtain ⟨Ao10, co10, eo10⟩ := Kd.R_slice HO_6.out
      subst eo10
      go_wp2
      repeat (go_quiet (fail); try go_wp2)
      go_meet
      case rel => exact ⟨_, (decide (x7_1 < (t136.length : Int))), (by first | rfl | (simp; done) | (simp [*]; done)), H', ⟨by have := HK1.out; first | omega | exact Nat.le_refl _⟩, ⟨by (with_reducible repeat (first | apply Kd.R_alloc | apply Kd.R_drewN | apply Kd.R_drew)); exact HO_5.out⟩, ⟨by (with_reducible repeat (first | apply Kd.R_alloc | apply Kd.R_drewN | apply Kd.R_drew)); exact HO_6.out⟩, ⟨by repeat (first | (with_reducible first | exact HB.out | apply below_alloc | apply pw_below_drewN | apply below_drew1) | exact HB.out)⟩⟩
    · rw [if_neg c8] at H
      have c8b0 : decide (x7_1 < (t133.length : Int)) = false := decide_eq_false c8
      clear c8
      (first | rw [c8b0] | (simp only [i64_w, i32_w]; rw [c8b0]) | skip)
      have H' := Aside0.mk H
      clear H
      obtain ⟨Ao11, co11, eo11⟩ := Kd.R_slice HO_5.out
      subst eo11
      go_wp2
      repeat (go_quiet (fail); try go_wp2)
      go_meet
      case rel => exact ⟨_, (false), (by first | rfl | (simp; done) | (simp [*]; done)), H', ⟨by have := HK1.out; first | omega | exact Nat.le_refl _⟩, ⟨by (with_reducible repeat (first | apply Kd.R_alloc | apply Kd.R_drewN | apply Kd.R_drew)); exact HO_5.out⟩, ⟨by (with_reducible repeat (first | apply Kd.R_alloc | apply Kd.R_drewN | apply Kd.R_drew)); exact HO_6.out⟩, ⟨by repeat (first | (with_reducible first | exact HB.out | apply below_alloc | apply pw_below_drewN | apply below_drew1) | exact HB.out)⟩⟩
   case rest =>
    clear HC7
    try clear c1
    try clear p2
    try clear c8
    try clear c8b0
    try clear p2
    obtain ⟨kq, x21_6, rfl, HA, HJ6, HO_5, HO_6, HB⟩ := hcut
    cases kq with
    | zero => exact absurd HA.out (by simp [odysseyref01_Compare.j1])
    | succ kj6 =>
     have H := HA.out
     clear HA
     simp only [odysseyref01_Compare.j1] at H
     by_cases c12 : x21_6 = true
     · subst c12
       have H1 : (if 0 ≤ x7_1 then (if x7_1 < (t133.length : Int) then (if x7_1 < (t136.length : Int) then (if (rd t133 x7_1) < (rd t136 x7_1) then (some (-1)) else (if (rd t133 x7_1) > (rd t136 x7_1) then (some 1) else (odysseyref01_Compare.l0 kj6 t133 t136 (wrap64 (x7_1 + 1))))) else (none)) else (none)) else (none)) = some r := by rw [if_pos rfl] at H; exact H
       clear H
       have H := H1
       clear H1
       by_cases c13 : 0 ≤ x7_1
       · rw [if_pos c13] at H
         have c13b0 : decide (0 ≤ x7_1) = true := decide_eq_true c13
         clear c13
         by_cases c14 : x7_1 < (t133.length : Int)
         · rw [if_pos c14] at H
           have c14b0 : decide (x7_1 < (t133.length : Int)) = true := decide_eq_true c14
           clear c14
           by_cases c15 : x7_1 < (t136.length : Int)
           · rw [if_pos c15] at H
             have c15b0 : decide (x7_1 < (t136.length : Int)) = true := decide_eq_true c15
             clear c15
             by_cases c16 : (rd t133 x7_1) < (rd t136 x7_1)
             · rw [if_pos c16] at H
               have c16b0 : decide ((rd t133 x7_1) < (rd t136 x7_1)) = true := decide_eq_true c16
               clear c16
               obtain rfl := Option.some.inj H
               obtain ⟨Ao17, co17, eo17⟩ := Kd.R_slice HO_5.out
               subst eo17
               have p139 : 0 ≤ (x7_1 : Int) := of_decide_eq_true (by first | (with_reducible assumption) | assumption)
               have q139 : x7_1 < (t133.length : Int) := of_decide_eq_true (by first | (with_reducible assumption) | assumption)
               obtain ⟨ad139, e139, hx139_0⟩ := Kd.at_int (Kd.R_reads' HO_5.out).2.2 x7_1 p139 q139
               cases e139
               replace p139 := eq_true p139
               replace q139 := eq_true q139
               obtain ⟨Ao18, co18, eo18⟩ := Kd.R_slice HO_6.out
               subst eo18
               have p140 : 0 ≤ (x7_1 : Int) := of_decide_eq_true (by first | (with_reducible assumption) | assumption)
               have q140 : x7_1 < (t136.length : Int) := of_decide_eq_true (by first | (with_reducible assumption) | assumption)
               obtain ⟨ad140, e140, hx140_0⟩ := Kd.at_int (Kd.R_reads' HO_6.out).2.2 x7_1 p140 q140
               cases e140
               replace p140 := eq_true p140
               replace q140 := eq_true q140
               go_wp2
               repeat (go_quiet (fail); try go_wp2)
               go_ret
               exact ⟨by first | rfl | (simp [errW_none, errW_some] <;> rfl) | (simp [*, errW_none, errW_some] <;> rfl), by repeat (first | (with_reducible first | exact HB.out | apply below_alloc | apply pw_below_drewN | apply below_drew1) | exact HB.out)⟩
             · rw [if_neg c16] at H
               have c16b0 : decide ((rd t133 x7_1) < (rd t136 x7_1)) = false := decide_eq_false c16
               clear c16
               by_cases c19 : (rd t133 x7_1) > (rd t136 x7_1)
               · rw [if_pos c19] at H
                 have c19b0 : decide ((rd t136 x7_1) < (rd t133 x7_1)) = true := decide_eq_true c19
                 clear c19
                 obtain rfl := Option.some.inj H
                 obtain ⟨Ao20, co20, eo20⟩ := Kd.R_slice HO_5.out
                 subst eo20
                 have p139 : 0 ≤ (x7_1 : Int) := of_decide_eq_true (by first | (with_reducible assumption) | assumption)
                 have q139 : x7_1 < (t133.length : Int) := of_decide_eq_true (by first | (with_reducible assumption) | assumption)
                 obtain ⟨ad139, e139, hx139_0⟩ := Kd.at_int (Kd.R_reads' HO_5.out).2.2 x7_1 p139 q139
                 cases e139
                 replace p139 := eq_true p139
                 replace q139 := eq_true q139
                 obtain ⟨Ao21, co21, eo21⟩ := Kd.R_slice HO_6.out
                 subst eo21
                 have p140 : 0 ≤ (x7_1 : Int) := of_decide_eq_true (by first | (with_reducible assumption) | assumption)
                 have q140 : x7_1 < (t136.length : Int) := of_decide_eq_true (by first | (with_reducible assumption) | assumption)
                 obtain ⟨ad140, e140, hx140_0⟩ := Kd.at_int (Kd.R_reads' HO_6.out).2.2 x7_1 p140 q140
                 cases e140
                 replace p140 := eq_true p140
                 replace q140 := eq_true q140
                 have p141 : 0 ≤ (x7_1 : Int) := of_decide_eq_true (by first | (with_reducible assumption) | assumption)
                 have q141 : x7_1 < (t133.length : Int) := of_decide_eq_true (by first | (with_reducible assumption) | assumption)
                 obtain ⟨ad141, e141, hx141_0⟩ := Kd.at_int (Kd.R_reads' HO_5.out).2.2 x7_1 p141 q141
                 obtain rfl : ad139 = ad141 := (by injection e141)
                 replace p141 := eq_true p141
                 replace q141 := eq_true q141
                 have p142 : 0 ≤ (x7_1 : Int) := of_decide_eq_true (by first | (with_reducible assumption) | assumption)
                 have q142 : x7_1 < (t136.length : Int) := of_decide_eq_true (by first | (with_reducible assumption) | assumption)
                 obtain ⟨ad142, e142, hx142_0⟩ := Kd.at_int (Kd.R_reads' HO_6.out).2.2 x7_1 p142 q142
                 obtain rfl : ad140 = ad142 := (by injection e142)
                 replace p142 := eq_true p142
                 replace q142 := eq_true q142
                 go_wp2
                 repeat (go_quiet (fail); try go_wp2)
                 go_ret
                 exact ⟨by first | rfl | (simp [errW_none, errW_some] <;> rfl) | (simp [*, errW_none, errW_some] <;> rfl), by repeat (first | (with_reducible first | exact HB.out | apply below_alloc | apply pw_below_drewN | apply below_drew1) | exact HB.out)⟩
               · rw [if_neg c19] at H
                 have c19b0 : decide ((rd t136 x7_1) < (rd t133 x7_1)) = false := decide_eq_false c19
                 clear c19
                 have H' := Aside0.mk H
                 clear H
                 obtain ⟨Ao22, co22, eo22⟩ := Kd.R_slice HO_5.out
                 subst eo22
                 have p139 : 0 ≤ (x7_1 : Int) := of_decide_eq_true (by first | (with_reducible assumption) | assumption)
                 have q139 : x7_1 < (t133.length : Int) := of_decide_eq_true (by first | (with_reducible assumption) | assumption)
                 obtain ⟨ad139, e139, hx139_0⟩ := Kd.at_int (Kd.R_reads' HO_5.out).2.2 x7_1 p139 q139
                 cases e139
                 replace p139 := eq_true p139
                 replace q139 := eq_true q139
                 obtain ⟨Ao23, co23, eo23⟩ := Kd.R_slice HO_6.out
                 subst eo23
                 have p140 : 0 ≤ (x7_1 : Int) := of_decide_eq_true (by first | (with_reducible assumption) | assumption)
                 have q140 : x7_1 < (t136.length : Int) := of_decide_eq_true (by first | (with_reducible assumption) | assumption)
                 obtain ⟨ad140, e140, hx140_0⟩ := Kd.at_int (Kd.R_reads' HO_6.out).2.2 x7_1 p140 q140
                 cases e140
                 replace p140 := eq_true p140
                 replace q140 := eq_true q140
                 have p141 : 0 ≤ (x7_1 : Int) := of_decide_eq_true (by first | (with_reducible assumption) | assumption)
                 have q141 : x7_1 < (t133.length : Int) := of_decide_eq_true (by first | (with_reducible assumption) | assumption)
                 obtain ⟨ad141, e141, hx141_0⟩ := Kd.at_int (Kd.R_reads' HO_5.out).2.2 x7_1 p141 q141
                 obtain rfl : ad139 = ad141 := (by injection e141)
                 replace p141 := eq_true p141
                 replace q141 := eq_true q141
                 have p142 : 0 ≤ (x7_1 : Int) := of_decide_eq_true (by first | (with_reducible assumption) | assumption)
                 have q142 : x7_1 < (t136.length : Int) := of_decide_eq_true (by first | (with_reducible assumption) | assumption)
                 obtain ⟨ad142, e142, hx142_0⟩ := Kd.at_int (Kd.R_reads' HO_6.out).2.2 x7_1 p142 q142
                 obtain rfl : ad140 = ad142 := (by injection e142)
                 replace p142 := eq_true p142
                 replace q142 := eq_true q142
                 go_wp2
                 repeat (go_quiet (fail); try go_wp2)
                 go_roundg kj6
                 case measure => have := HK1.out; have := HJ6.out; omega
                 case rel => exact ⟨(wrap64 (x7_1 + 1)), (by first | rfl | (simp; done) | (simp [*]; done)), H', ⟨by have := HK1.out; have := HJ6.out; omega⟩, ⟨by (with_reducible repeat (first | apply Kd.R_alloc | apply Kd.R_drewN | apply Kd.R_drew)); exact HO_5.out⟩, ⟨by (with_reducible repeat (first | apply Kd.R_alloc | apply Kd.R_drewN | apply Kd.R_drew)); exact HO_6.out⟩, ⟨by repeat (first | (with_reducible first | exact HB.out | apply below_alloc | apply pw_below_drewN | apply below_drew1) | exact HB.out)⟩⟩
           · rw [if_neg c15] at H
             exact absurd H (by simp)
         · rw [if_neg c14] at H
           exact absurd H (by simp)
       · rw [if_neg c13] at H
         exact absurd H (by simp)
     · replace c12 := Bool.eq_false_iff.mpr c12
       subst c12
       have H1 : (if (t133.length : Int) < (t136.length : Int) then (some (-1)) else (if (t133.length : Int) > (t136.length : Int) then (some 1) else (some 0))) = some r := by rw [if_neg (show ¬ (false = true) by decide)] at H; exact H
       clear H
       have H := H1
       clear H1
       by_cases c24 : (t133.length : Int) < (t136.length : Int)
       · rw [if_pos c24] at H
         have c24b0 : decide ((t133.length : Int) < (t136.length : Int)) = true := decide_eq_true c24
         have c24b1 : decide (t133.length < t136.length) = true := decide_eq_true (Int.ofNat_lt.mp c24)
         clear c24
         obtain rfl := Option.some.inj H
         obtain ⟨Ao25, co25, eo25⟩ := Kd.R_slice HO_5.out
         subst eo25
         obtain ⟨Ao26, co26, eo26⟩ := Kd.R_slice HO_6.out
         subst eo26
         go_wp2
         repeat (go_quiet (fail); try go_wp2)
         go_ret
         exact ⟨by first | rfl | (simp [errW_none, errW_some] <;> rfl) | (simp [*, errW_none, errW_some] <;> rfl), by repeat (first | (with_reducible first | exact HB.out | apply below_alloc | apply pw_below_drewN | apply below_drew1) | exact HB.out)⟩
       · rw [if_neg c24] at H
         have c24b0 : decide ((t133.length : Int) < (t136.length : Int)) = false := decide_eq_false c24
         have c24b1 : decide (t133.length < t136.length) = false := decide_eq_false (fun h => c24 (Int.ofNat_lt.mpr h))
         clear c24
         by_cases c27 : (t133.length : Int) > (t136.length : Int)
         · rw [if_pos c27] at H
           have c27b0 : decide ((t136.length : Int) < (t133.length : Int)) = true := decide_eq_true c27
           have c27b1 : decide (t136.length < t133.length) = true := decide_eq_true (Int.ofNat_lt.mp c27)
           clear c27
           obtain rfl := Option.some.inj H
           obtain ⟨Ao28, co28, eo28⟩ := Kd.R_slice HO_5.out
           subst eo28
           obtain ⟨Ao29, co29, eo29⟩ := Kd.R_slice HO_6.out
           subst eo29
           go_wp2
           repeat (go_quiet (fail); try go_wp2)
           go_ret
           exact ⟨by first | rfl | (simp [errW_none, errW_some] <;> rfl) | (simp [*, errW_none, errW_some] <;> rfl), by repeat (first | (with_reducible first | exact HB.out | apply below_alloc | apply pw_below_drewN | apply below_drew1) | exact HB.out)⟩
         · rw [if_neg c27] at H
           have c27b0 : decide ((t136.length : Int) < (t133.length : Int)) = false := decide_eq_false c27
           have c27b1 : decide (t136.length < t133.length) = false := decide_eq_false (fun h => c27 (Int.ofNat_lt.mpr h))
           clear c27
           obtain rfl := Option.some.inj H
           obtain ⟨Ao30, co30, eo30⟩ := Kd.R_slice HO_5.out
           subst eo30
           obtain ⟨Ao31, co31, eo31⟩ := Kd.R_slice HO_6.out
           subst eo31
           go_wp2
           repeat (go_quiet (fail); try go_wp2)
           go_ret
           exact ⟨by first | rfl | (simp [errW_none, errW_some] <;> rfl) | (simp [*, errW_none, errW_some] <;> rfl), by repeat (first | (with_reducible first | exact HB.out | apply below_alloc | apply pw_below_drewN | apply below_drew1) | exact HB.out)⟩

end Go.Proofs.YtgjddnaidjbhlaaGreatDoor.PPhaseStarts

/- The document's Is is the program's: runes by definition, and by the model's decoder. -/
namespace Go.Proofs.YtgjddnaidjbhlaaGreatDoor.RefIs
open Go.RowKit Go.IntWalk Go.Proofs.YtgjddnaidjbhlaaGreatDoor.PPhaseStarts Go.Proofs.YtgjddnaidjbhlaaGreatDoorW.PrintWords Go.Proofs.YtgjddnaidjbhlaaGreatDoorW.PrintLast Go.Proofs.YtgjddnaidjbhlaaGreatDoorW.PrintMore
open Go.Proofs.YtgjddnaidjbhlaaGreatDoor.Nm (byte byte_lt byte_at byte_get)

theorem bt_byte (s : ByteArray) (i : Nat) (h : i < s.size) : bt s (i : Int) = (byte s i : Int) := by
 unfold bt
 rw [dif_pos (by simpa using h)]
 exact_mod_cast congrArg (fun n : Nat => (n : Int)) (byte_at s i h)
theorem w64 (n : Nat) (h : n ≤ 1000000000000000000) : wrap64 (n : Int) = n := wrap64_in _ (by omega)

/-- The decoder over its bytes. -/
def decB (sz i : Nat) (b0 b1 b2 b3 : Nat) : Nat × Nat :=
 let cont (k b : Nat) : Bool := i + k < sz && b / 64 == 2
 if b0 < 0x80 then (b0, 1)
 else if b0 / 32 == 6 && cont 1 b1 then
  let c := (b0 % 32) * 64 + b1 % 64
  if c ≥ 0x80 then (c, 2) else (65533, 1)
 else if b0 / 16 == 14 && cont 1 b1 && cont 2 b2 then
  let c := (b0 % 16) * 4096 + (b1 % 64) * 64 + b2 % 64
  if c ≥ 0x800 && Utf8.valid c then (c, 3) else (65533, 1)
 else if b0 / 8 == 30 && cont 1 b1 && cont 2 b2 && cont 3 b3 then
  let c := (b0 % 8) * 262144 + (b1 % 64) * 4096 + (b2 % 64) * 64 + b3 % 64
  if c ≥ 0x10000 && Utf8.valid c then (c, 4) else (65533, 1)
 else (65533, 1)
theorem decode_eq (s : ByteArray) (i : Nat) : Utf8.decode s i = decB s.size i (s.get! (i + 0)).toNat (s.get! (i + 1)).toNat (s.get! (i + 2)).toNat (s.get! (i + 3)).toNat := rfl
theorem valid_iff (c : Nat) : Utf8.valid (c : Int) = true ↔ c < 0xD800 ∨ (0xE000 ≤ c ∧ c ≤ 0x10FFFF) := by
 simp [Utf8.valid]
 omega

/-- What Next answers: it is a rune's beginning, and the decoder says so; or it is none, and the decoder tells an error. -/
def Good (r : Option (Int × Int × Bool)) (d : Nat × Nat) : Prop := (r = some ((d.1 : Int), (d.2 : Int), true)) ∨ (∃ x y, r = some (x, y, false) ∧ d.1 = 65533)

theorem shl1 : shl .i64 1 5 = 32 ∧ shl .i64 1 4 = 16 ∧ shl .i64 1 3 = 8 := by
 refine ⟨?_, ?_, ?_⟩ <;> kernel_rfl

theorem second_iff (a b : Nat) : odysseyref01_second.f (a : Int) (b : Int) = some (decide ((if a = 224 then 160 else if a = 240 then 144 else 128) ≤ b ∧ b ≤ (if a = 237 then 159 else if a = 244 then 143 else 191))) := by
 unfold odysseyref01_second.f
 have two : ∀ lo hi : Nat, (if (b : Int) ≥ (lo : Int) then some (decide ((b : Int) ≤ (hi : Int))) else some false) = some (decide (lo ≤ b ∧ b ≤ hi)) := by
  intro lo hi
  by_cases h : (b : Int) ≥ (lo : Int)
  · rw [if_pos h]
    exact congrArg some (decide_eq_decide.2 (by omega))
  · rw [if_neg h]
    exact congrArg some (by rw [eq_comm, decide_eq_false_iff_not]; omega)
 by_cases h1 : a = 224
 · subst h1
   exact two 160 191
 rw [if_neg (by omega), if_neg h1]
 by_cases h2 : a = 237
 · subst h2
   exact two 128 159
 rw [if_neg (by omega), if_neg h2]
 by_cases h3 : a = 240
 · subst h3
   exact two 144 191
 rw [if_neg (by omega), if_neg h3]
 by_cases h4 : a = 244
 · subst h4
   exact two 128 143
 rw [if_neg (by omega), if_neg h4]
 exact two 128 191

/-- One round of Next's loop. -/
theorem round (k : Nat) (s : ByteArray) (at' b0 n : Nat) (r : Nat) (i : Nat) (hi : i < n) (hs : s.size ≤ 1000000000000000) (hl : at' + i < s.size) (hr : r ≤ 100000000) (hn : n ≤ 4) :
 odysseyref01_Next.l0 (k + 1) s at' b0 n r i =
  if byte s (at' + i) < 128 ∨ byte s (at' + i) > 191 then some (65533, 1, false)
  else if i = 1 then (if (if b0 = 224 then 160 else if b0 = 240 then 144 else 128) ≤ byte s (at' + i) ∧ byte s (at' + i) ≤ (if b0 = 237 then 159 else if b0 = 244 then 143 else 191) then odysseyref01_Next.l0 k s at' b0 n ((r * 64 + byte s (at' + i) % 64 : Nat) : Int) ((i + 1 : Nat) : Int) else some (65533, 1, false))
  else odysseyref01_Next.l0 k s at' b0 n ((r * 64 + byte s (at' + i) % 64 : Nat) : Int) ((i + 1 : Nat) : Int) := by
 have hb := byte_lt s (at' + i)
 have c1 : (i : Int) < (n : Int) := by omega
 have c2 : (0 : Int) ≤ ((at' + i : Nat) : Int) := by omega
 have c3 : ((at' + i : Nat) : Int) < (s.size : Int) := by omega
 have e1 : wrap64 ((at' : Int) + (i : Int)) = ((at' + i : Nat) : Int) := by rw [wrap64_in _ (by omega)]; omega
 have e4 : wrap64 ((i : Int) + 1) = ((i + 1 : Nat) : Int) := by rw [wrap64_in _ (by omega)]; omega
 have e5 := bt_byte s _ hl
 generalize byte s (at' + i) = b at *
 have e2 : wrap64 (b : Int) = (b : Int) := w64 _ (by omega)
 have e3 : wrap64 ((wrap64 ((r : Int) * 64)) + (Int.tmod (b : Int) 64)) = ((r * 64 + b % 64 : Nat) : Int) := by
  rw [wrap64_in ((r : Int) * 64) (by omega), Int.tmod_eq_emod_of_nonneg (by omega), wrap64_in _ (by omega)]
  omega
 rw [odysseyref01_Next.l0, if_pos c1, e1, if_pos c2, if_pos c3, e5, e2, e3, e4, second_iff]
 clear e1 e2 e3 e4 e5 c1 c2 c3
 by_cases h1 : b < 128
 · have d1 : (b : Int) < 128 := by omega
   rw [if_pos d1, if_pos (Or.inl h1)]
 · have d1 : ¬ (b : Int) < 128 := by omega
   rw [if_neg d1]
   by_cases h2 : b > 191
   · have d2 : (b : Int) > 191 := by omega
     rw [if_pos d2, if_pos (Or.inr h2)]
   · have d2 : ¬ (b : Int) > 191 := by omega
     have d3 : ¬ (b < 128 ∨ b > 191) := by omega
     rw [if_neg d2, if_neg d3]
     by_cases h3 : i = 1
     · have d4 : (i : Int) = 1 := by omega
       rw [if_pos d4, if_pos h3]
       simp only [Option.bind_some, decide_eq_true_eq]
     · have d4 : ¬ (i : Int) = 1 := by omega
       rw [if_neg d4, if_neg h3]
theorem done (k : Nat) (s : ByteArray) (at' b0 n : Nat) (r : Nat) : odysseyref01_Next.l0 (k + 1) s at' b0 n r n = some ((r : Int), (n : Int), true) := by
 rw [odysseyref01_Next.l0, if_neg (by omega)]

theorem lohi (b0 : Nat) : ((b0 = 224 → (if b0 = 224 then 160 else if b0 = 240 then 144 else 128) = 160) ∧ (b0 = 240 → (if b0 = 224 then 160 else if b0 = 240 then 144 else 128) = 144) ∧ (b0 ≠ 224 → b0 ≠ 240 → (if b0 = 224 then 160 else if b0 = 240 then 144 else 128) = 128)) ∧
 ((b0 = 237 → (if b0 = 237 then 159 else if b0 = 244 then 143 else 191) = 159) ∧ (b0 = 244 → (if b0 = 237 then 159 else if b0 = 244 then 143 else 191) = 143) ∧ (b0 ≠ 237 → b0 ≠ 244 → (if b0 = 237 then 159 else if b0 = 244 then 143 else 191) = 191)) := by
 refine ⟨⟨?_, ?_, ?_⟩, ?_, ?_, ?_⟩
 · rintro rfl; rfl
 · rintro rfl; rfl
 · intro a b; rw [if_neg a, if_neg b]
 · rintro rfl; rfl
 · rintro rfl; rfl
 · intro a b; rw [if_neg a, if_neg b]
theorem long_eq (k b : Nat) : odysseyref01_long.f (k + 2) (b : Int) = some ((if b < 128 then 1 else if 194 ≤ b ∧ b ≤ 223 then 2 else if 224 ≤ b ∧ b ≤ 239 then 3 else if 240 ≤ b ∧ b ≤ 244 then 4 else 0 : Nat) : Int) := by
 unfold odysseyref01_long.f
 by_cases h1 : b < 128
 · rw [if_pos (by omega), if_pos h1]; rfl
 rw [if_neg (by omega), if_neg h1]
 by_cases h2 : 194 ≤ b ∧ b ≤ 223
 · have d : decide ((b : Int) ≤ 223) = true := decide_eq_true (by omega)
   rw [if_pos (by omega), if_pos h2, d, odysseyref01_long.j0, if_pos rfl]; rfl
 have e0 : (if (b : Int) ≥ 194 then odysseyref01_long.j0 (k + 2) b (decide ((b : Int) ≤ 223)) else odysseyref01_long.j0 (k + 2) b false) = odysseyref01_long.j0 (k + 2) b false := by
  by_cases h : (b : Int) ≥ 194
  · have d : decide ((b : Int) ≤ 223) = false := decide_eq_false (by omega)
    rw [if_pos h, d]
  · rw [if_neg h]
 rw [e0, if_neg h2, odysseyref01_long.j0, if_neg (by decide)]
 by_cases h3 : 224 ≤ b ∧ b ≤ 239
 · have d : decide ((b : Int) ≤ 239) = true := decide_eq_true (by omega)
   rw [if_pos (by omega), if_pos h3, d, odysseyref01_long.j1, if_pos rfl]; rfl
 have e1 : (if (b : Int) ≥ 224 then odysseyref01_long.j1 (k + 1) b (decide ((b : Int) ≤ 239)) else odysseyref01_long.j1 (k + 1) b false) = odysseyref01_long.j1 (k + 1) b false := by
  by_cases h : (b : Int) ≥ 224
  · have d : decide ((b : Int) ≤ 239) = false := decide_eq_false (by omega)
    rw [if_pos h, d]
  · rw [if_neg h]
 rw [e1, if_neg h3, odysseyref01_long.j1, if_neg (by decide)]
 by_cases h4 : 240 ≤ b ∧ b ≤ 244
 · rw [if_pos (by omega), if_pos h4, if_pos (by omega)]; rfl
 rw [if_neg h4]
 by_cases h : (b : Int) ≥ 240
 · rw [if_pos h, if_neg (by omega)]; rfl
 · rw [if_neg h]; rfl

theorem decB_eq (sz i b0 b1 b2 b3 : Nat) : decB sz i b0 b1 b2 b3 =
 if b0 < 128 then (b0, 1)
 else if b0 / 32 = 6 ∧ i + 1 < sz ∧ b1 / 64 = 2 then (if (b0 % 32) * 64 + b1 % 64 ≥ 128 then ((b0 % 32) * 64 + b1 % 64, 2) else (65533, 1))
 else if (b0 / 16 = 14 ∧ i + 1 < sz ∧ b1 / 64 = 2) ∧ i + 2 < sz ∧ b2 / 64 = 2 then
  (if (b0 % 16) * 4096 + (b1 % 64) * 64 + b2 % 64 ≥ 2048 ∧ ((b0 % 16) * 4096 + (b1 % 64) * 64 + b2 % 64 < 55296 ∨ (57344 ≤ (b0 % 16) * 4096 + (b1 % 64) * 64 + b2 % 64 ∧ (b0 % 16) * 4096 + (b1 % 64) * 64 + b2 % 64 ≤ 1114111)) then ((b0 % 16) * 4096 + (b1 % 64) * 64 + b2 % 64, 3) else (65533, 1))
 else if ((b0 / 8 = 30 ∧ i + 1 < sz ∧ b1 / 64 = 2) ∧ i + 2 < sz ∧ b2 / 64 = 2) ∧ i + 3 < sz ∧ b3 / 64 = 2 then
  (if (b0 % 8) * 262144 + (b1 % 64) * 4096 + (b2 % 64) * 64 + b3 % 64 ≥ 65536 ∧ ((b0 % 8) * 262144 + (b1 % 64) * 4096 + (b2 % 64) * 64 + b3 % 64 < 55296 ∨ (57344 ≤ (b0 % 8) * 262144 + (b1 % 64) * 4096 + (b2 % 64) * 64 + b3 % 64 ∧ (b0 % 8) * 262144 + (b1 % 64) * 4096 + (b2 % 64) * 64 + b3 % 64 ≤ 1114111)) then ((b0 % 8) * 262144 + (b1 % 64) * 4096 + (b2 % 64) * 64 + b3 % 64, 4) else (65533, 1))
 else (65533, 1) := by
 unfold decB
 simp only [Bool.and_eq_true, beq_iff_eq, decide_eq_true_eq, valid_iff]

theorem next_good (s : ByteArray) (hs : s.size ≤ 1000000000000000) (i : Nat) (hi : i < s.size) (k : Nat) : Good (odysseyref01_Next.f (k + 6) s (i : Int)) (Utf8.decode s i) := by
 have g0 := byte_get s i hi
 have g1 : i + 1 < s.size → (s.get! (i + 1)).toNat = byte s (i + 1) := byte_get s (i + 1)
 have g2 : i + 2 < s.size → (s.get! (i + 2)).toNat = byte s (i + 2) := byte_get s (i + 2)
 have g3 : i + 3 < s.size → (s.get! (i + 3)).toNat = byte s (i + 3) := byte_get s (i + 3)
 rw [decode_eq, decB_eq]
 have z : i + 0 = i := rfl
 rw [z, g0]
 clear z g0
 have hb := byte_lt s i
 have c0 : (0 : Int) ≤ (i : Int) := by omega
 have c1 : (i : Int) < (s.size : Int) := by omega
 have hsub : wrap64 ((s.size : Int) - (i : Int)) = ((s.size - i : Nat) : Int) := by rw [wrap64_in _ (by omega)]; omega
 unfold odysseyref01_Next.f
 rw [if_pos c0, if_pos c1, bt_byte s i hi, w64 _ (by omega), long_eq, Option.bind_some, hsub]
 have hr1 := round (s := s) (at' := i) (b0 := byte s i) (i := 1) (hs := hs)
 have hr2 := round (s := s) (at' := i) (b0 := byte s i) (i := 2) (hs := hs)
 have hr3 := round (s := s) (at' := i) (b0 := byte s i) (i := 3) (hs := hs)
 have l1 := byte_lt s (i + 1)
 have l2 := byte_lt s (i + 2)
 have l3 := byte_lt s (i + 3)
 generalize (s.get! (i + 1)).toNat = b1 at *
 generalize (s.get! (i + 2)).toNat = b2 at *
 generalize (s.get! (i + 3)).toNat = b3 at *
 generalize byte s i = b0 at *
 by_cases h1 : b0 < 128
 · rw [if_pos h1, if_pos h1]
   left
   rw [if_neg (by decide)]
   have d : decide (((1 : Nat) : Int) > ((s.size - i : Nat) : Int)) = false := decide_eq_false (by omega)
   rw [d, odysseyref01_Next.j0, if_neg (by decide), if_pos (by rfl)]
   rfl
 rw [if_neg h1, if_neg h1]
 by_cases h2 : 194 ≤ b0 ∧ b0 ≤ 223
 · rw [if_pos h2]
   by_cases hl : s.size - i < 2
   · right
     have d : decide (((2 : Nat) : Int) > ((s.size - i : Nat) : Int)) = true := decide_eq_true (by omega)
     rw [if_neg (by decide), d, odysseyref01_Next.j0, if_pos rfl]
     refine ⟨_, _, rfl, ?_⟩
     rw [if_neg (by omega), if_neg (by omega), if_neg (by omega)]
   have d : decide (((2 : Nat) : Int) > ((s.size - i : Nat) : Int)) = false := decide_eq_false (by omega)
   have e5 : wrap64 (7 - ((2 : Nat) : Int)) = 5 := by rw [wrap64_in _ (by omega)]; omega
   have et : Int.tmod (b0 : Int) 32 = ((b0 % 32 : Nat) : Int) := by rw [Int.tmod_eq_emod_of_nonneg (by omega)]; omega
   rw [if_neg (by decide), d, odysseyref01_Next.j0, if_neg (by decide), if_neg (by decide), e5, if_pos (by decide), shl1.1, if_neg (by decide), et]
   have hr := hr1 (k := k + 4) (n := 2) (r := b0 % 32) (by omega) (by omega) (by omega) (by omega)
   rw [show (1 : Int) = ((1 : Nat) : Int) from rfl, hr, g1 (by omega)]
   generalize byte s (i + 1) = c1 at *
   by_cases hc : c1 < 128 ∨ c1 > 191
   · rw [if_pos hc]
     right
     refine ⟨_, _, rfl, ?_⟩
     rw [if_neg (by omega), if_neg (by omega), if_neg (by omega)]
   rw [if_neg hc, if_pos rfl, if_pos (by have := lohi b0; omega)]
   left
   rw [if_pos (by omega), if_pos (by omega)]
   exact done (k + 3) s i b0 2 _
 rw [if_neg h2]
 by_cases h3 : 224 ≤ b0 ∧ b0 ≤ 239
 · rw [if_pos h3]
   by_cases hl : s.size - i < 3
   · right
     have d : decide (((3 : Nat) : Int) > ((s.size - i : Nat) : Int)) = true := decide_eq_true (by omega)
     rw [if_neg (by decide), d, odysseyref01_Next.j0, if_pos rfl]
     refine ⟨_, _, rfl, ?_⟩
     rw [if_neg (by omega), if_neg (by omega), if_neg (by omega)]
   have d : decide (((3 : Nat) : Int) > ((s.size - i : Nat) : Int)) = false := decide_eq_false (by omega)
   have e5 : wrap64 (7 - ((3 : Nat) : Int)) = 4 := by rw [wrap64_in _ (by omega)]; omega
   have et : Int.tmod (b0 : Int) 16 = ((b0 % 16 : Nat) : Int) := by rw [Int.tmod_eq_emod_of_nonneg (by omega)]; omega
   rw [if_neg (by decide), d, odysseyref01_Next.j0, if_neg (by decide), if_neg (by decide), e5, if_pos (by decide), shl1.2.1, if_neg (by decide), et]
   clear e5 et d
   have hr := hr1 (k := k + 4) (n := 3) (r := b0 % 16) (by omega) (by omega) (by omega) (by omega)
   rw [show (1 : Int) = ((1 : Nat) : Int) from rfl, hr, g1 (by omega)]
   clear hr hr1
   generalize byte s (i + 1) = c1 at *
   have hlh := lohi b0
   generalize (if b0 = 224 then 160 else if b0 = 240 then 144 else 128) = lo at *
   generalize (if b0 = 237 then 159 else if b0 = 244 then 143 else 191) = hi' at *
   by_cases hc : c1 < 128 ∨ c1 > 191
   · rw [if_pos hc]
     right
     refine ⟨_, _, rfl, ?_⟩
     rw [if_neg (by omega), if_neg (by omega), if_neg (by omega)]
   rw [if_neg hc, if_pos rfl]
   by_cases hs2 : lo ≤ c1 ∧ c1 ≤ hi'
   · rw [if_pos hs2]
     have hr := hr2 (k := k + 3) (n := 3) (r := b0 % 16 * 64 + c1 % 64) (by omega) (by omega) (by omega) (by omega)
     rw [show ((1 + 1 : Nat) : Int) = ((2 : Nat) : Int) from rfl, hr, g2 (by omega)]
     clear hr hr2 hr3
     generalize byte s (i + 2) = c2 at *
     by_cases hd : c2 < 128 ∨ c2 > 191
     · rw [if_pos hd]
       right
       refine ⟨_, _, rfl, ?_⟩
       rw [if_neg (by omega), if_neg (by omega), if_neg (by omega)]
     rw [if_neg hd, if_neg (by decide)]
     left
     rw [if_neg (by omega), if_pos (by omega), if_pos (by omega)]
     have e : (b0 % 16 * 64 + c1 % 64) * 64 + c2 % 64 = b0 % 16 * 4096 + c1 % 64 * 64 + c2 % 64 := by omega
     rw [e]
     exact done (k + 2) s i b0 3 _
   · rw [if_neg hs2]
     right
     refine ⟨_, _, rfl, ?_⟩
     rw [if_neg (by omega)]
     by_cases hb2 : i + 2 < s.size ∧ b2 / 64 = 2
     · rw [if_pos (by omega), if_neg (by omega)]
     · rw [if_neg (by omega), if_neg (by omega)]
 rw [if_neg h3]
 by_cases h4 : 240 ≤ b0 ∧ b0 ≤ 244
 · rw [if_pos h4]
   by_cases hl : s.size - i < 4
   · right
     have d : decide (((4 : Nat) : Int) > ((s.size - i : Nat) : Int)) = true := decide_eq_true (by omega)
     rw [if_neg (by decide), d, odysseyref01_Next.j0, if_pos rfl]
     refine ⟨_, _, rfl, ?_⟩
     rw [if_neg (by omega), if_neg (by omega), if_neg (by omega)]
   have d : decide (((4 : Nat) : Int) > ((s.size - i : Nat) : Int)) = false := decide_eq_false (by omega)
   have e5 : wrap64 (7 - ((4 : Nat) : Int)) = 3 := by rw [wrap64_in _ (by omega)]; omega
   have et : Int.tmod (b0 : Int) 8 = ((b0 % 8 : Nat) : Int) := by rw [Int.tmod_eq_emod_of_nonneg (by omega)]; omega
   rw [if_neg (by decide), d, odysseyref01_Next.j0, if_neg (by decide), if_neg (by decide), e5, if_pos (by decide), shl1.2.2, if_neg (by decide), et]
   clear e5 et d
   have hr := hr1 (k := k + 4) (n := 4) (r := b0 % 8) (by omega) (by omega) (by omega) (by omega)
   rw [show (1 : Int) = ((1 : Nat) : Int) from rfl, hr, g1 (by omega)]
   clear hr hr1
   generalize byte s (i + 1) = c1 at *
   have hlh := lohi b0
   generalize (if b0 = 224 then 160 else if b0 = 240 then 144 else 128) = lo at *
   generalize (if b0 = 237 then 159 else if b0 = 244 then 143 else 191) = hi' at *
   by_cases hc : c1 < 128 ∨ c1 > 191
   · rw [if_pos hc]
     right
     refine ⟨_, _, rfl, ?_⟩
     rw [if_neg (by omega), if_neg (by omega), if_neg (by omega)]
   rw [if_neg hc, if_pos rfl]
   by_cases hs2 : lo ≤ c1 ∧ c1 ≤ hi'
   · rw [if_pos hs2]
     have hr := hr2 (k := k + 3) (n := 4) (r := b0 % 8 * 64 + c1 % 64) (by omega) (by omega) (by omega) (by omega)
     rw [show ((1 + 1 : Nat) : Int) = ((2 : Nat) : Int) from rfl, hr, g2 (by omega)]
     clear hr hr2
     generalize byte s (i + 2) = c2 at *
     by_cases hd : c2 < 128 ∨ c2 > 191
     · rw [if_pos hd]
       right
       refine ⟨_, _, rfl, ?_⟩
       rw [if_neg (by omega), if_neg (by omega), if_neg (by omega)]
     rw [if_neg hd, if_neg (by decide)]
     have hr := hr3 (k := k + 2) (n := 4) (r := (b0 % 8 * 64 + c1 % 64) * 64 + c2 % 64) (by omega) (by omega) (by omega) (by omega)
     rw [show ((2 + 1 : Nat) : Int) = ((3 : Nat) : Int) from rfl, hr, g3 (by omega)]
     clear hr hr3
     generalize byte s (i + 3) = c3 at *
     by_cases hf : c3 < 128 ∨ c3 > 191
     · rw [if_pos hf]
       right
       refine ⟨_, _, rfl, ?_⟩
       rw [if_neg (by omega), if_neg (by omega), if_neg (by omega)]
     rw [if_neg hf, if_neg (by decide)]
     left
     rw [if_neg (by omega), if_neg (by omega), if_pos (by omega), if_pos (by omega)]
     have e : ((b0 % 8 * 64 + c1 % 64) * 64 + c2 % 64) * 64 + c3 % 64 = b0 % 8 * 262144 + c1 % 64 * 4096 + c2 % 64 * 64 + c3 % 64 := by omega
     rw [e]
     exact done (k + 1) s i b0 4 _
   · rw [if_neg hs2]
     right
     refine ⟨_, _, rfl, ?_⟩
     rw [if_neg (by omega), if_neg (by omega)]
     by_cases hb2 : (i + 2 < s.size ∧ b2 / 64 = 2) ∧ i + 3 < s.size ∧ b3 / 64 = 2
     · rw [if_pos (by omega), if_neg (by omega)]
     · rw [if_neg (by omega)]
 rw [if_neg h4, if_pos (by rfl)]
 right
 rw [odysseyref01_Next.j0, if_pos rfl]
 refine ⟨_, _, rfl, ?_⟩
 clear hr1 hr2 hr3
 by_cases q1 : b0 / 32 = 6 ∧ i + 1 < s.size ∧ b1 / 64 = 2
 · rw [if_pos q1, if_neg (by omega)]
 rw [if_neg q1, if_neg (by omega)]
 by_cases q2 : ((b0 / 8 = 30 ∧ i + 1 < s.size ∧ b1 / 64 = 2) ∧ i + 2 < s.size ∧ b2 / 64 = 2) ∧ i + 3 < s.size ∧ b3 / 64 = 2
 · rw [if_pos q2, if_neg (by omega)]
 rw [if_neg q2]

theorem decode_step (s : ByteArray) (i : Nat) : 1 ≤ (Utf8.decode s i).2 ∧ (Utf8.decode s i).2 ≤ 4 := by
 simp only [Utf8.decode]
 repeat' split
 all_goals simp
theorem letter_eq (r : Int) : odysseyref01_letter.f r = some (Nm.letterR r) := by
 unfold odysseyref01_letter.f Nm.letterR
 by_cases h1 : 97 ≤ r
 · rw [if_pos h1]
   by_cases h2 : r ≤ 122
   · rw [if_pos h2]; simp [h1, h2]
   rw [if_neg h2]
   repeat' split
   all_goals (first | (simp_all; done) | (simp_all; intros; omega))
 · rw [if_neg h1]
   repeat' split
   all_goals (first | (simp_all; done) | (simp_all; intros; omega) | (simp_all; constructor <;> intros <;> omega))
/-- The loop of Is. -/
theorem is_loop (s : ByteArray) (hs : s.size ≤ 1000000000000000) : ∀ (m i n k : Nat), s.size - i = m → i ≤ s.size + 4 → n ≤ i → m + 20 < k → odysseyref01_Is.l0 k s (n : Int) (i : Int) = some (Nm.isGo (Nm.from_ s i) n) := by
 intro m
 induction m using Nat.strongRecOn with
 | _ m ih =>
  intro i n k hm hi hn hk
  obtain ⟨k, rfl⟩ : ∃ j, k = j + 1 + 6 := ⟨k - 7, by omega⟩
  rw [show k + 1 + 6 = (k + 6) + 1 from rfl, odysseyref01_Is.l0]
  by_cases hp : i < s.size
  · rw [if_pos (by omega), Nm.from_step s i hp, Nm.isGo]
    have hd := decode_step s i
    have hg := next_good s hs i hp k
    rcases hg with hg | ⟨x, y, hg, he⟩
    · rw [hg, Option.bind_some]
      generalize hq : Utf8.decode s i = d at *
      obtain ⟨r, w⟩ := d
      simp only at hd ⊢
      rw [letter_eq, Option.bind_some, if_pos trivial]
      have e1 : wrap64 ((n : Int) + 1) = ((n + 1 : Nat) : Int) := by rw [wrap64_in _ (by omega)]; omega
      have e2 : wrap64 ((i : Int) + (w : Int)) = ((i + w : Nat) : Int) := by rw [wrap64_in _ (by omega)]; omega
      have hI := ih (s.size - (i + w)) (by omega) (i + w) (n + 1) (k + 6) rfl (by omega) (by omega) (by omega)
      rw [e1, e2, hI]
      unfold Nm.mayR
      cases hL : Nm.letterR (r : Int)
      · simp only [Bool.false_eq_true, if_false, Bool.false_or]
        by_cases hn0 : n > 0
        · rw [if_pos (by omega)]
          by_cases q1 : (r : Int) = 45
          · rw [if_pos q1]; simp [q1, hn0]
          rw [if_neg q1]
          by_cases q2 : (r : Int) ≥ 48
          · rw [if_pos q2]
            by_cases q3 : (r : Int) ≤ 57
            · rw [if_pos q3]
              have : (48 : Int) ≤ r := q2
              simp [hn0, this, q3]
            · rw [if_neg q3]; simp [q1, q3]
          · rw [if_neg q2]
            have : ¬ (48 : Int) ≤ r := q2
            simp [q1, this]
        · rw [if_neg (by omega)]
          simp [hn0]
      · simp
    · rw [hg, Option.bind_some, letter_eq, Option.bind_some, if_neg (by simp)]
      have hz : Nm.mayR ((Utf8.decode s i).1 : Int) n = false := by
       rw [he]
       unfold Nm.mayR Nm.letterR
       simp
      rw [hz, Bool.false_and]
  · rw [if_neg (by omega), Nm.from_end s i (by omega), Nm.isGo]
    by_cases q1 : (n : Int) ≥ 1
    · rw [if_pos q1]
      have : 0 < n := by omega
      simp [this]
      omega
    · rw [if_neg q1]
      have : ¬ 0 < n := by omega
      simp [this]
theorem is_eq (s : ByteArray) (hs : s.size ≤ 1000000000000000) (k : Nat) (hk : s.size + 20 < k) : odysseyref01_Is.f k s = some (Nm.isName s) := by
 unfold odysseyref01_Is.f
 exact is_loop s hs s.size 0 0 k rfl (by omega) (by omega) (by omega)
end Go.Proofs.YtgjddnaidjbhlaaGreatDoor.RefIs

/- The document's Is, Owner, Compare at names. -/
namespace Go.Proofs.YtgjddnaidjbhlaaGreatDoor.Pl
open Go.RowKit Go.IntWalk Go.Proofs.YtgjddnaidjbhlaaGreatDoor.PPhaseStarts Go.Proofs.YtgjddnaidjbhlaaGreatDoorW.PrintWords Go.Proofs.YtgjddnaidjbhlaaGreatDoor.PlName

theorem isGo_len : ∀ (l : List Int) (n : Nat), Nm.isGo l n = true → l.length + n ≤ 8
 | [], n, h => by
  rw [Nm.isGo, Bool.and_eq_true, decide_eq_true_eq, decide_eq_true_eq] at h
  simp
  exact h.2
 | r :: l, n, h => by
  rw [Nm.isGo, Bool.and_eq_true] at h
  have := isGo_len l (n + 1) h.2
  rw [List.length_cons]
  omega
theorem name_len {s : ByteArray} (h : Nm.isName s = true) : (Nm.runes s).length ≤ 8 := isGo_len _ 0 h
theorem name_pos {r : Int} (h : Nm.nameRune r = true) : 0 ≤ r ∧ r ≤ 969 := by
 have := (Nm.nameRune_iff r).1 h
 omega
theorem runes_loop (s : ByteArray) (hs : s.size ≤ 1000000000000000) : ∀ (m i k : Nat) (acc : List Int), s.size - i = m → (∀ r ∈ Nm.from_ s i, Nm.nameRune r = true) → i ≤ s.size + 4 → acc.length + (Nm.from_ s i).length ≤ 8 → m + 20 < k →
 odysseyref01_Runes.l0 k s acc (i : Int) = some (acc ++ Nm.from_ s i) := by
 intro m
 induction m using Nat.strongRecOn with
 | _ m ih =>
  intro i k acc hm hn hi hl hk
  obtain ⟨k, rfl⟩ : ∃ j, k = j + 1 + 6 := ⟨k - 7, by omega⟩
  rw [show k + 1 + 6 = (k + 6) + 1 from rfl, odysseyref01_Runes.l0]
  by_cases hp : i < s.size
  · rw [if_pos (by omega)]
    have hst := Nm.from_step s i hp
    rw [hst] at hn hl ⊢
    have hd := RefIs.decode_step s i
    have hg := RefIs.next_good s hs i hp k
    have hne : (Utf8.decode s i).1 ≠ 65533 := fun e => by
     have h1 := name_pos (hn _ List.mem_cons_self)
     rw [e] at h1
     omega
    rcases hg with hg | ⟨x, y, hg, he⟩
    · rw [hg, Option.bind_some]
      simp only
      rw [List.length_cons] at hl
      rw [if_pos (by omega)]
      have e2 : wrap64 ((i : Int) + ((Utf8.decode s i).2 : Int)) = ((i + (Utf8.decode s i).2 : Nat) : Int) := by rw [wrap64_in _ (by omega)]; omega
      rw [e2, ih (s.size - (i + (Utf8.decode s i).2)) (by omega) (i + (Utf8.decode s i).2) (k + 6) _ rfl (fun r hr => hn r (List.mem_cons_of_mem _ hr)) (by omega) (by rw [List.length_append]; simp; omega) (by omega)]
      simp
    · exact absurd he hne
  · rw [if_neg (by omega), Nm.from_end s i (by omega), List.append_nil]
theorem runes_eq {s : ByteArray} (hs : s.size ≤ 1000000000000000) (h : Nm.isName s = true) {k : Nat} (hk : s.size + 20 < k) : odysseyref01_Runes.f k s = some (Nm.runes s) := by
 unfold odysseyref01_Runes.f
 have := runes_loop s hs s.size 0 k [] rfl (by rw [Nm.from_zero]; exact Nm.isName_all h) (by omega) (by rw [Nm.from_zero]; have := name_len h; simp; exact this) hk
 rw [Nm.from_zero, show ((0 : Nat) : Int) = 0 from rfl] at this
 exact this
theorem owner_loop (l : List Int) (hl : ∀ r ∈ l, 0 ≤ r ∧ r ≤ 969) (h8 : l.length ≤ 8) : ∀ (m i k : Nat) (n : Int), l.length - i = m → 0 ≤ n → n < 4 → i ≤ l.length → m + 2 < k → odysseyref01_Owner.l0 k l n (i : Int) = some ((n + sumR (l.drop i)) % 4) := by
 intro m
 induction m with
 | zero =>
  intro i k n hm h0 h4 hi hk
  obtain ⟨k, rfl⟩ : ∃ j, k = j + 1 := ⟨k - 1, by omega⟩
  rw [odysseyref01_Owner.l0, if_neg (by omega), List.drop_eq_nil_of_le (by omega), sumR, Int.add_zero, Int.emod_eq_of_lt h0 h4]
 | succ m ih =>
  intro i k n hm h0 h4 hi hk
  obtain ⟨k, rfl⟩ : ∃ j, k = j + 1 := ⟨k - 1, by omega⟩
  have hlt : i < l.length := by omega
  have hx := hl _ (List.getElem_mem hlt)
  have e1 : rd l (i : Int) = l[i] := by
   unfold rd
   rw [Int.toNat_natCast, List.getD_eq_getElem?_getD, List.getElem?_eq_getElem hlt]
   rfl
  rw [odysseyref01_Owner.l0, if_pos (by omega), if_pos (by omega), e1, wrap64_in _ (by omega), wrap64_in _ (by omega), show ((i : Int) + 1) = ((i + 1 : Nat) : Int) by omega]
  have e2 : Int.tmod (n + l[i]) 4 = (n + l[i]) % 4 := Int.tmod_eq_emod_of_nonneg (by omega)
  rw [e2, ih (i + 1) k _ (by omega) (by omega) (by omega) (by omega) (by omega), List.drop_eq_getElem_cons hlt, sumR]
  congr 1
  omega
theorem owner_eq {s : ByteArray} (hs : s.size ≤ 1000000000000000) (h : Nm.isName s = true) {k : Nat} (hk : s.size + 20 < k) : odysseyref01_Owner.f k s = some (owner s) := by
 have h8 := name_len h
 unfold odysseyref01_Owner.f
 rw [runes_eq hs h hk, Option.bind_some]
 have := owner_loop (Nm.runes s) (fun r hr => name_pos (Nm.isName_all h r hr)) h8 (Nm.runes s).length 0 k 0 rfl (by omega) (by omega) (by omega) (by omega)
 rw [show ((0 : Nat) : Int) = 0 from rfl] at this
 rw [this]
 unfold owner
 simp
theorem compare_loop (x y : List Int) (hx : x.length ≤ 8) (hy : y.length ≤ 8) : ∀ (m i k : Nat), x.length - i = m → i ≤ x.length → i ≤ y.length → 2 * m + 4 < k → odysseyref01_Compare.l0 k x y (i : Int) = some (cmpR (x.drop i) (y.drop i)) := by
 intro m
 induction m with
 | zero =>
  intro i k hm hi hj hk
  obtain ⟨k, rfl⟩ : ∃ j, k = j + 1 + 1 := ⟨k - 2, by omega⟩
  rw [odysseyref01_Compare.l0, if_neg (by omega), odysseyref01_Compare.j1, if_neg (by simp), List.drop_eq_nil_of_le (show x.length ≤ i by omega)]
  by_cases h : i < y.length
  · rw [if_pos (by omega), List.drop_eq_getElem_cons h]
    rfl
  · rw [if_neg (by omega), if_neg (by omega), List.drop_eq_nil_of_le (show y.length ≤ i by omega)]
    rfl
 | succ m ih =>
  intro i k hm hi hj hk
  obtain ⟨k, rfl⟩ : ∃ j, k = j + 1 + 1 := ⟨k - 2, by omega⟩
  have hlt : i < x.length := by omega
  have e1 : rd x (i : Int) = x[i] := by
   unfold rd
   rw [Int.toNat_natCast, List.getD_eq_getElem?_getD, List.getElem?_eq_getElem hlt]
   rfl
  rw [odysseyref01_Compare.l0, if_pos (by omega), odysseyref01_Compare.j1, List.drop_eq_getElem_cons hlt]
  by_cases h : i < y.length
  · have e2 : rd y (i : Int) = y[i] := by
     unfold rd
     rw [Int.toNat_natCast, List.getD_eq_getElem?_getD, List.getElem?_eq_getElem h]
     rfl
    rw [if_pos (decide_eq_true (by omega)), if_pos (by omega), if_pos (by omega), if_pos (by omega), e1, e2, List.drop_eq_getElem_cons h, cmpR]
    by_cases h1 : x[i] < y[i]
    · rw [if_pos h1, if_pos h1]
    · rw [if_neg h1, if_neg h1]
      by_cases h2 : y[i] < x[i]
      · rw [if_pos h2, if_pos h2]
      · rw [if_neg h2, if_neg h2, wrap64_in _ (by omega), show ((i : Int) + 1) = ((i + 1 : Nat) : Int) by omega]
        exact ih (i + 1) k (by omega) (by omega) (by omega) (by omega)
  · rw [if_neg (by rw [decide_eq_false (by omega)]; simp), if_neg (by omega), if_pos (by omega), List.drop_eq_nil_of_le (show y.length ≤ i by omega)]
    rfl
theorem compare_eq {a b : ByteArray} (ha : a.size ≤ 1000000000000000) (hb : b.size ≤ 1000000000000000) (hna : Nm.isName a = true) (hnb : Nm.isName b = true) {k : Nat} (hk : a.size + 20 < k) (hk2 : b.size + 20 < k) (hk3 : 40 < k) : odysseyref01_Compare.f k a b = some (cmp a b) := by
 have h8 := name_len hna
 unfold odysseyref01_Compare.f
 rw [runes_eq ha hna hk, Option.bind_some, runes_eq hb hnb hk2, Option.bind_some]
 exact compare_loop _ _ h8 (name_len hnb) _ 0 k rfl (by omega) (by omega) (by omega)

theorem isR_calls (s : ByteArray) (w : World) (hs : s.size ≤ 1000000000000000) : Calls Tryz.prog 34 #[.string s] w fun e w' => e = .returned (.bool (Nm.isName s)) ∧ Below w.heap.size w w' :=
 (odysseyref01_Is.calls (s.size + 21) s _ w (RefIs.is_eq s hs _ (by omega))).mono fun _ _ ⟨he, hd⟩ => ⟨he, hd.below⟩
theorem ownerR_calls (s : ByteArray) (w : World) (hs : s.size ≤ 1000000000000000) (h : Nm.isName s = true) : Calls Tryz.prog 161 #[.string s] w fun e w' => e = .returned (.int .i64 (owner s)) ∧ Below w.heap.size w w' :=
 odysseyref01_Owner.calls (s.size + 21) s _ w (owner_eq hs h (by omega))
theorem compareR_calls (a b : ByteArray) (w : World) (ha : a.size ≤ 1000000000000000) (hb : b.size ≤ 1000000000000000) (hna : Nm.isName a = true) (hnb : Nm.isName b = true) : Calls Tryz.prog 162 #[.string a, .string b] w fun e w' => e = .returned (.int .i64 (cmp a b)) ∧ Below w.heap.size w w' :=
 odysseyref01_Compare.calls (a.size + b.size + 41) a b _ w (compare_eq ha hb hna hnb (by omega) (by omega) (by omega))
end Go.Proofs.YtgjddnaidjbhlaaGreatDoor.Pl

/- slices.Sort at a slice of one's own. -/
namespace Go.Proofs.YtgjddnaidjbhlaaGreatDoor.Pl
open Go.RowKit Go.Sort

/-- What sorting leaves. -/
structure Sorted (W W' : World) (base : Nat) (v : Value) (l : List Nat) : Prop where
 own : W'.ownsRow base 3 1 v l.length (selV l)
 chg : Chg (fun k => v.ownBlock = some k) W W'
theorem put_row {W : World} {base g cap k : Nat} {L L' : List Nat} {os : Array Obj} (h : W.ownsRow base 3 1 (.slice (some ⟨g, 0, none⟩) L.length cap) L.length (selV L)) (hl : L'.length = L.length) :
 Sorted W (grow (putRow (Value.int .i64) (Sort.ahead W k) g 0 (intsOf L').toArray) os) base (.slice (some ⟨g, 0, none⟩) L.length cap) L' := by
 rcases h.2 with ⟨h1, _⟩ | ⟨g', cap', cur, h1, hb, hg, hn, hc, hs, ht⟩
 · cases h1
 · injection h1 with e1 e2 e3
   injection e1 with e1
   injection e1 with e1
   subst e1 e3
   have hlt : g < W.heap.size := (Array.getElem?_eq_some_iff.1 hg).1
   have hget : ∀ q, q < W.heap.size → (grow (putRow (Value.int .i64) (Sort.ahead W k) g 0 (intsOf L').toArray) os).heap[q]? = (W.heap.modify g (onCells (putCells (Value.int .i64) 0 (intsOf L').toArray)))[q]? := fun q hq => by
    show ((W.heap.modify g (onCells (putCells (Value.int .i64) 0 (intsOf L').toArray))) ++ os)[q]? = _
    rw [Array.getElem?_append_left (by rw [Array.size_modify]; exact hq)]
   refine ⟨⟨?_, .inr ⟨g, cap, putCells (Value.int .i64) 0 (intsOf L').toArray cur, by rw [hl], hb, ?_, by rw [hl]; exact hn, hc, ?_, ?_⟩⟩, ?_⟩
   · unfold selV
     simp
   · rw [hget g hlt, Array.getElem?_modify, if_pos rfl, hg]
     rfl
   · unfold putCells
     rw [Array.size_mapIdx]
     exact hs
   · have hcl : L.length ≤ cur.size := by omega
     apply List.ext_getElem?
     intro j
     rw [List.getElem?_take]
     unfold selV
     rw [List.getElem?_map]
     by_cases hj : j < L'.length
     · rw [if_pos (by omega)]
       unfold putCells
       rw [Array.getElem?_toList, Array.getElem?_mapIdx, Array.getElem?_eq_getElem (by omega)]
       have hz : (intsOf L').length = L'.length := intsOf_len L'
       have hj2 : j < (intsOf L').toArray.size := by simpa [hz] using hj
       rw [List.getElem?_eq_getElem hj]
       simp only [Option.map_some]
       rw [if_pos ⟨Nat.zero_le _, by rw [Nat.zero_add]; exact hj2⟩, Nat.sub_zero, getElem!_pos _ j hj2]
       simp [intsOf]
     · rw [if_neg (by omega), List.getElem?_eq_none (by omega)]
       rfl
   · refine ⟨rfl, rfl, rfl, ?_, fun q hq hx => ?_⟩
     · show W.heap.size ≤ ((W.heap.modify g _) ++ os).size
       rw [Array.size_append, Array.size_modify]
       exact Nat.le_add_right _ _
     · rw [hget q hq, Array.getElem?_modify, if_neg (fun e => hx (by rw [e]; rfl))]

theorem sort_calls {W : World} {base : Nat} {v : Value} {L L' : List Nat} (h : W.ownsRow base 3 1 v L.length (selV L)) (hs : (intsOf L).mergeSort (fun x y => decide (x ≤ y)) = intsOf L') (hl : L.length ≤ 1000000) :
 Calls Tryz.prog 172 #[v] W fun e w' => e = .returned (.tuple #[]) ∧ Sorted W w' base v L' := by
 have hll : L'.length = L.length := by
  have := congrArg List.length hs
  rw [intsOf_len, List.length_mergeSort, intsOf_len] at this
  omega
 by_cases hL : L.length = 0
 · have e1 : L = [] := List.eq_nil_of_length_eq_zero hL
   have e2 : L' = [] := List.eq_nil_of_length_eq_zero (by omega)
   subst e1 e2
   obtain ⟨A, c, rfl, _⟩ := own_reads h
   refine (Tryz.slices_Sort_int_none A c W).mono ?_
   rintro e w' ⟨rfl, rfl⟩
   exact ⟨rfl, h, Chg.refl _ _⟩
 · obtain ⟨g, cap, e⟩ : ∃ g cap, v = .slice (some ⟨g, 0, none⟩) L.length cap := by
    rcases h.2 with ⟨_, h1⟩ | ⟨g, cap, cur, h1, _⟩
    · exact absurd h1 hL
    · exact ⟨g, cap, h1⟩
   subst e
   have hc := h.cells (g := g) rfl
   have hlen := intsOf_len L
   have hlt := (h.lt g rfl).2
   have := Tryz.slices_Sort_int g 0 cap (intsOf L) W (fun j hj => ⟨?_, ?_⟩) hlt (by rw [hlen]; omega)
   · rw [hlen, hs] at this
     refine this.mono ?_
     rintro e w' ⟨rfl, n, os, rfl⟩
     exact ⟨rfl, put_row h hll⟩
   · have hj2 : j < L.length := by simpa [hlen] using hj
     have := hc j (.int .i64 ((L[j] : Nat) : Int)) (by unfold selV; simp [hj2])
     rw [Addr.add_lit] at this
     rw [getElem!_pos _ j hj, this]
     simp [intsOf]
   · rcases h.2 with ⟨h1, _⟩ | ⟨g', cap', cur, h1, hb, hg, _⟩
     · cases h1
     · injection h1 with e1 e2 e3
       injection e1 with e1
       injection e1 with e1
       subst e1
       exact free_of_row hg
end Go.Proofs.YtgjddnaidjbhlaaGreatDoor.Pl

/- A graph's ordered: the walk, by hand. -/
namespace Go.Proofs.YtgjddnaidjbhlaaGreatDoor.Pl
open Go.RowKit Go.IntWalk Go.Shelf Go.Proofs.YtgjddnaidjbhlaaGreatDoorW.PrintWords Go.Proofs.YtgjddnaidjbhlaaGreatDoor.PlName
attribute [local go_sem] Oper.semAt_some

/-- The loop that collects, between two rounds. -/
structure Col (w w4 W : World) (lo bo bi : Nat) (fv : Value) (Y : Nat → Prop) (v : Value) (l : List Nat) : Prop where
 told : Told W bo w.heap.size v l
 is_ : W.heap[bi]? = some (.cells #[fv] 104 (0, 0))
 yo : ¬ Y bo
 yi : ¬ Y bi
 yv : ∀ k, v.ownBlock = some k → ¬ Y k
 ylo : ∀ k, Y k → lo ≤ k ∧ k < W.heap.size
 below : Below w.heap.size w W
 size : w4.heap.size ≤ W.heap.size ∧ lo ≤ w4.heap.size ∧ w.heap.size ≤ lo ∧ w.heap.size ≤ bo
section
variable {w w4 W W2 : World} {lo bo bi : Nat} {fv : Value} {Y Y' : Nat → Prop} {v v' : Value} {l : List Nat} {x : Nat}
theorem Col.chg (h : Col w w4 W lo bo bi fv Y v l) (hc : Chg Y W W2) : Col w w4 W2 lo bo bi fv (More Y W W2) v l := by
 have hbo := (Array.getElem?_eq_some_iff.1 h.told.box).1
 have hbi := (Array.getElem?_eq_some_iff.1 h.is_).1
 have hs := h.size
 have hs2 := hc.size
 refine ⟨⟨hc.row h.told.box h.yo, ownsRow_chg h.told.own hc h.yv⟩, hc.row h.is_ h.yi, ?_, ?_, fun k hk => ?_, fun k hk => ?_, h.below.trans (hc.below (by omega) fun k hk => by have := (h.ylo k hk).1; omega), by omega⟩
 · rintro (e | e)
   · exact h.yo e
   · omega
 · rintro (e | e)
   · exact h.yi e
   · omega
 · have := (h.told.own.lt k hk).2
   rintro (e | e)
   · exact h.yv k hk e
   · omega
 · rcases hk with hk | hk
   · have := h.ylo k hk
     omega
   · omega
theorem Col.mono (h : Col w w4 W lo bo bi fv Y v l) (hy : ∀ k, Y' k → Y k) : Col w w4 W lo bo bi fv Y' v l :=
 ⟨h.told, h.is_, fun e => h.yo (hy _ e), fun e => h.yi (hy _ e), fun k hk e => h.yv k hk (hy _ e), fun k hk => h.ylo k (hy k hk), h.below, h.size⟩
theorem Col.put (h : Col w w4 W lo bo bi fv Y v l) {q : Nat} {o o' : Obj} (hq : w4.heap.size ≤ q) (ho : W.heap[q]? = some o) (hno : o.isCells = false) : Col w w4 (W.putObj q o') lo bo bi fv Y v l := by
 have hk : ∀ {k : Nat} {a : Array Value} {t : Nat}, W.heap[k]? = some (.cells a t (0, 0)) → (W.putObj q o').heap[k]? = some (.cells a t (0, 0)) := fun {k a t} hr => by
  refine (World.putObj_heap_other (fun e => ?_)).trans hr
  subst e
  rw [ho] at hr
  injection hr with hr
  subst hr
  cases hno
 have hs := h.size
 refine ⟨⟨hk h.told.box, ⟨h.told.own.1, ?_⟩⟩, hk h.is_, h.yo, h.yi, h.yv, fun k hy => by have := h.ylo k hy; simp; omega, h.below.trans ⟨rfl, rfl, rfl, by simp, fun k hk => World.putObj_heap_other (by omega)⟩, by simp; omega⟩
 rcases h.told.own.2 with hn | ⟨g, cap, cur, e, h1, h2, rest⟩
 · exact .inl hn
 · exact .inr ⟨g, cap, cur, e, h1, hk h2, rest⟩
theorem Col.on (h : Col w w4 W lo bo bi fv Y v l) (hb : Below W.heap.size W W2) : Col w w4 W2 lo bo bi fv Y v l := by
 have hs := h.size
 have hs2 := hb.size
 exact ⟨h.told.on hb, row_on hb h.is_, h.yo, h.yi, h.yv, fun k hy => by have := h.ylo k hy; omega, on_ h.below hb, by omega⟩
/-- One more is collected. -/
theorem Col.push (h : Col w w4 W lo bo bi fv Y v l) (hc : Chg (fun k => k = bo ∨ v.ownBlock = some k) W W2) (ht : Told W2 bo w.heap.size v' (l ++ [x])) (hw : ∀ k, v'.ownBlock = some k → v.ownBlock = some k ∨ W.heap.size ≤ k) :
 Col w w4 W2 lo bo bi fv Y v' (l ++ [x]) ∧ Keep Y W W2 := by
 have hs := h.size
 have hs2 := hc.size
 refine ⟨⟨ht, hc.row h.is_ ?_, h.yo, h.yi, fun k hk => ?_, fun k hy => by have := h.ylo k hy; omega, h.below.trans (hc.below (by omega) ?_), by omega⟩, Keep.of_chg hc fun k hk => ⟨(h.ylo k hk).2, ?_⟩⟩
 · rintro (e | e)
   · subst e
     have h1 := h.is_.symm.trans h.told.box
     simp at h1
   · rcases h.told.own.2 with ⟨e2, _⟩ | ⟨g, cap, cur, e2, _, h2, _⟩
     · rw [e2] at e
       cases e
     · rw [e2] at e
       injection e with e
       have e : g = bi := e
       subst e
       have h1 := h.is_.symm.trans h2
       simp at h1
 · intro hy
   rcases hw k hk with h1 | h1
   · exact h.yv k h1 hy
   · have := (h.ylo k hy).2
     omega
 · rintro k (e | e)
   · omega
   · exact (h.told.own.lt k e).1
 · rintro (e | e)
   · exact h.yo (e ▸ hk)
   · exact h.yv k e hk
end
theorem chg_putObj (w : World) (l : Nat) (o : Obj) : Chg (· = l) w (w.putObj l o) := ⟨rfl, rfl, rfl, by simp, fun k _ hk => World.putObj_heap_other hk⟩
theorem keepsFrom_chg {B : Nat} {X : Nat → Prop} {W W' : World} (h : Chg X W W') (hx : ∀ k, X k → ∀ o, W.heap[k]? = some o → o.isCells = true) : KeepsFrom B W W' :=
 ⟨h.size, fun k o _ hk ho => (h.block k (Array.getElem?_eq_some_iff.1 hk).1 fun e => by rw [hx k e o hk] at ho; cases ho).trans hk⟩
theorem keepsFrom_below {B : Nat} {W W' : World} (h : Below W.heap.size W W') : KeepsFrom B W W' :=
 ⟨h.size, fun k o _ hk _ => (h.block k (Array.getElem?_eq_some_iff.1 hk).1).trans hk⟩

set_option maxHeartbeats 8000000 in
set_option maxRecDepth 100000 in
theorem ordered_calls (nm : ByteArray) (l : List Step) (A : Option Addr) (c : Nat) (w : World) (P : Option Addr) (gi : Nat) (ba lb : Array Value) (p : Nat → Bool) (hnm : nm.size ≤ 140737488351232) (hS : StepsAt w A l) (hb : ∀ s ∈ l, StepB s) (hn : l.length ≤ 1000000) (hc : l.length ≤ c) (hT : TabsAt w)
 (hok : defOk nm l = true) (hA : Acyc (wars (direct l) l.length) l.length) (eg : ∀ args w, (callFunc gi args).run Tryz.prog w = .ok (.enter gi args) w) (hp : Tells w gi ba lb p l.length) :
 Calls Tryz.prog 133 #[.pointer P, .agg #[.string nm, .slice A l.length c], .func (.func gi) ba lb] w fun e w' => (∃ v, e = .returned v ∧ Own w w' v (sel p l.length)) ∧ Below w.heap.size w w' := by
 have hl0 := (defOk_len hok).1
 have hs1 : (w.alloc (.cells #[.string nm, .slice A l.length c] 24)).heap.size = w.heap.size + 1 := by
  show (w.heap.push _).size = _
  simp
 have hs2 : ((w.alloc (.cells #[.string nm, .slice A l.length c] 24)).alloc (.cells #[.func (.func gi) ba lb] 104)).heap.size = w.heap.size + 1 + 1 := by
  show ((w.alloc (.cells #[.string nm, .slice A l.length c] 24)).heap.push _).size = _
  simp [hs1]
 have b1 := below_one w (.cells #[.string nm, .slice A l.length c] 24)
 have b2 := below_one (w.alloc (.cells #[.string nm, .slice A l.length c] 24)) (.cells #[.func (.func gi) ba lb] 104)
 have b3 := below_one ((w.alloc (.cells #[.string nm, .slice A l.length c] 24)).alloc (.cells #[.func (.func gi) ba lb] 104)) (.cells #[.slice none 0 0] 25)
 have r2 := row_on b3 (alloc1 (w.alloc (.cells #[.string nm, .slice A l.length c] 24)) (.cells #[.func (.func gi) ba lb] 104))
 have r3 := alloc1 ((w.alloc (.cells #[.string nm, .slice A l.length c] 24)).alloc (.cells #[.func (.func gi) ba lb] 104)) (.cells #[.slice none 0 0] 25)
 rw [hs1] at r2
 rw [hs2] at r3
 have b03 := on_ b1 (on_ b2 b3)
 have ho := Aside0.mk (order_calls nm l A c _ hnm (hS.below b03) hb (by omega) hc (tabs_on hT b03))
 rw [hok] at ho
 have HW := Aside0.mk (And.intro b03 (And.intro r2 r3))
 have HA := Aside0.mk (And.intro hp hA)
 clear b1 b2 b3 r2 r3 b03 hS hb hT hp hA hs1 hs2
 refine (callsIn_wide (n := 5)).1 ?_
 refine callsIn_of_wp_marks Tryz.func133 rfl trivial ?_ rfl
 simp only [Tryz.ntmps133, List.size_toArray, List.length_cons, List.length_nil, Nat.reduceAdd, Nat.reduceSub, Array.replicate_succ, Array.replicate_zero, List.push_toArray, List.append_toArray, List.nil_append, List.cons_append]
 gi_wp2_with (first | (refine ⟨trivial, ?_⟩; gi_at_call 53; refine (callsIn_wide.2 ho.out).mono ?_; rintro e w4 ⟨⟨bg, rfl, hlo, gg, v, rb, hbg, hg⟩, hb4⟩; have H4 := Aside0.mk (And.intro hlo (And.intro hbg (And.intro hg hb4))); clear hlo hbg hg hb4))
 generalize hW3 : World.alloc (World.alloc (World.alloc w _) _) _ = W3 at *
 have HN := Aside0.mk (fun pre => sel_len (p := p) pre)
 obtain ⟨i3, hi3, hz3, hs3, hb3⟩ := info_parts int_info
 have HI := Aside0.mk (And.intro hi3 (And.intro hz3 (And.intro hs3 hb3)))
 clear hi3 hz3 hs3 hb3 HN
 have h34 := H4.out.2.2.2.size
 have hw3 := HW.out.1.size
 have e50 : ∀ args w, (callFunc 116 args).run Tryz.prog w = .ok (.enter 116 args) w := fun _ _ => by kernel_rfl
 have h0 : Col w w4 w4 W3.heap.size (w.heap.size + 1 + 1) (w.heap.size + 1) (.func (.func gi) ba lb) (fun k => W3.heap.size ≤ k ∧ k < w4.heap.size) (.slice none 0 0) ([].filter p) := by
  have q2 := (Array.getElem?_eq_some_iff.1 HW.out.2.2).1
  exact ⟨⟨row_on H4.out.2.2.2 HW.out.2.2, World.ownsRow_nil _ _ _ _⟩, row_on H4.out.2.2.2 HW.out.2.1, fun e => by omega, fun e => by omega, fun k hk => (by cases hk), fun k hk => hk, on_ HW.out.1 H4.out.2.2.2, by omega⟩
 refine wpIn_rangeFunc_Y (gf := 116) (lb := #[.pointer (some ⟨bg, 0, none⟩)]) rfl e50 (seq_order H4.out.2.1 H4.out.1 H4.out.2.2.1 HA.out.2 hn hl0) (Keep.refl _ _) (fun k hk => hk.2) (fun _ => rfl)
  (fun pre Y W => ∃ v, Col w w4 W W3.heap.size (w.heap.size + 1 + 1) (w.heap.size + 1) (.func (.func gi) ba lb) Y v (pre.filter p) ∧ pre.length ≤ l.length)
  (fun pre Y W1 W2 ⟨v, h, hl⟩ hc => ⟨v, h.chg hc, hl⟩) (fun pre Y Y' W ⟨v, h, hl⟩ hy => ⟨v, h.mono hy, hl⟩) (fun pre Y W q o o' ⟨v, h, hl⟩ hq ho hno => ⟨v, h.put hq ho hno, hl⟩)
  ⟨_, h0, Nat.zero_le _⟩
  (fun x => { tmps := #[.pointer P, .agg #[.string nm, .slice A l.length c], .func (.func gi) ba lb, undef, .pointer (some ⟨w.heap.size, 0, none⟩), .pointer (some ⟨w.heap.size + 1, 0, none⟩), .slice none 0 0, .pointer (some ⟨w.heap.size + 1 + 1, 0, none⟩), .int .i64 (x : Int), .agg #[.string nm, .slice A l.length c], .func (.func 116) #[] #[.pointer (some ⟨bg, 0, none⟩)], .int .i64 (x : Int), undef, undef, undef, undef, undef, undef, undef, undef, undef, undef], defers := [] }) ?assign ?body ?done
 case assign =>
  intro l x W K hK
  gi_wp2
  exact hK
 case body =>
  rintro q pre x Y W ⟨v, hcol, hpl⟩ ⟨hlen, hx⟩
  have HC := Aside0.mk hcol
  have hq1 := row_cell (j := 0) hcol.is_ rfl
  have hcall : Calls Tryz.prog gi (ba.push (.int .i64 (x : Int)) ++ lb) W fun e w' => e = .returned (.bool (p x)) ∧ Below W.heap.size W w' := by simpa using HA.out.1 W x hx hcol.below
  replace hcall := Aside0.mk hcall
  have hfl : (pre.filter p).length ≤ pre.length := List.length_filter_le _ _
  have hw : w.heap.size ≤ W.heap.size := hcol.below.size
  clear hcol
  cases hpx : p x
  · rw [hpx] at hcall
    have HF : Aside0 ((pre ++ [x]).filter p = pre.filter p) := ⟨by rw [List.filter_append]; simp [hpx]⟩
    gi_wp2
    refine ⟨trivial, (CallsIn.inRound q (callsIn_wide.2 hcall.out)).mono ?_⟩
    rintro e w5 ⟨rfl, hb5⟩
    have H5 := Aside0.mk hb5
    clear hb5
    gi_wp2
    exact ⟨keepsFrom_below H5.out, ⟨H5.out.size, fun k hk => H5.out.block k (HC.out.ylo k hk).2⟩, v, by rw [HF.out]; exact HC.out.on H5.out, by simp; omega⟩
  · rw [hpx] at hcall
    have HF : Aside0 ((pre ++ [x]).filter p = pre.filter p ++ [x]) := ⟨by rw [List.filter_append]; simp [hpx]⟩
    gi_wp2
    refine ⟨trivial, (CallsIn.inRound q (callsIn_wide.2 hcall.out)).mono ?_⟩
    rintro e w5 ⟨rfl, hb5⟩
    have H5 := Aside0.mk (And.intro hb5 (HC.out.told.on hb5))
    have hw5 := hb5.size
    have hq5 := row_cell (j := 0) H5.out.2.box rfl
    clear hb5
    generalize pre.filter p = l0 at *
    gi_wp2_with (first | (gi_at_builtin; refine wpListIn_append_where _ rfl (.tmp 15) (.tmp 17) 25 rfl w.heap.size 3 i3 (.int .i64 0) 8 Tryz.underlying25 HI.out.1 HI.out.2.1 HI.out.2.2.1 HI.out.2.2.2 rfl v l0.length (selV l0) rfl (H5.out.2.own.alloc _) ⟨w5.heap.size, 0, none⟩ 1 (.int .i64 (x : Int)) rfl (one_new _ _ _) (by intro u hu; simp at hu; subst hu; rfl) (by unfold maxLen; omega) (by omega) (by simp; omega) ?_; intro v6 w6 hown6 hgr6 hwh6; obtain ⟨g6, cap6, rfl⟩ := own_some hown6; have HL := Aside0.mk (laid HC.out.told H5.out.1 hown6 hgr6); have hc6 := row_cell (j := 0) HL.out.1 rfl; have hf6 := free_of_row (j := 0) HL.out.1; have HN := Aside0.mk (HC.out.push HL.out.2.2 HL.out.2.1 (fun k hk => (hwh6 k hk).imp_right fun h => Nat.le_trans (Nat.le_trans H5.out.1.size (below_one w5 _).size) h)); clear hown6 hgr6 hwh6))
    refine ⟨keepsFrom_chg HL.out.2.2 (fun k hk o ho => ?_), HN.out.2, _, by rw [HF.out]; exact HN.out.1, by simp; omega⟩
    rcases hk with e | e
    · subst e
      rw [HC.out.told.box] at ho
      injection ho with ho
      subst ho
      rfl
    · rcases HC.out.told.own.2 with ⟨e2, _⟩ | ⟨g, cap, cur, e2, _, h2, _⟩
      · rw [e2] at e
        cases e
      · rw [e2] at e
        injection e with e
        have e : g = k := e
        subst e
        rw [h2] at ho
        injection ho with ho
        subst ho
        rfl
 case done =>
  rintro D ys Y W hD rfl ⟨v, hcol, _⟩ hK
  have HC := Aside0.mk hcol
  have hq1 := row_cell (j := 0) hcol.told.box rfl
  have hfl : ((ordL (wars (direct l) l.length) l.length l.length).filter p).length ≤ 1000000 := Nat.le_trans (List.length_filter_le _ _) (by rw [ordL_len]; omega)
  have hso := Aside0.mk (sort_calls hcol.told.own (L' := sel p l.length) (ord_sort HA.out.2 p) hfl)
  have hvb : v.ownBlock ≠ some (w.heap.size + 1 + 1) := fun e => by
   rcases hcol.told.own.2 with ⟨e2, _⟩ | ⟨g, cap, cur, e2, _, h2, _⟩
   · rw [e2] at e
     cases e
   · rw [e2] at e
     injection e with e
     have e : g = w.heap.size + 1 + 1 := e
     subst e
     have h3 := h2.symm.trans hcol.told.box
     simp at h3
  replace hvb := Aside0.mk hvb
  replace hK := Aside0.mk hK
  clear hcol hfl
  gi_wp2_with (first | (refine ⟨trivial, ?_⟩; gi_at_call 172; refine (callsIn_wide.2 hso.out).mono ?_; rintro e w6 ⟨rfl, hs6⟩; have H6 := Aside0.mk hs6; have hq6 := row_cell (j := 0) (hs6.chg.row HC.out.told.box hvb.out) rfl; clear hs6))
  have hvd : v.ownBlock ≠ some D := fun e => by
   rcases HC.out.told.own.2 with ⟨e2, _⟩ | ⟨g, cap, cur, e2, _, h2, _⟩
   · rw [e2] at e
     cases e
   · rw [e2] at e
     injection e with e
     have e : g = D := e
     subst e
     have h3 := h2.symm.trans hK.out
     simp at h3
  have hK6 := H6.out.chg.row hK.out hvd
  refine ⟨by simp, .inl ⟨_, _, rfl, run_takeDeferred hK6, ?_⟩⟩
  have hbw := HC.out.below.trans (H6.out.chg.below HC.out.below.size fun k hk => (HC.out.told.own.lt k hk).1)
  have hcp := chg_putObj w6 D (.deferred none)
  exact ⟨_, results_tmp rfl _ _ _, ⟨v, rfl, ownsRow_chg H6.out.own hcp fun k hk e => hvd (by rw [hk]; exact congrArg some e)⟩, hbw.trans (hcp.below hbw.size fun k hk => by have hk : k = D := hk; omega)⟩
end Go.Proofs.YtgjddnaidjbhlaaGreatDoor.Pl

/- odysseylaw12.told: the walk, by hand. -/
namespace Go.Proofs.YtgjddnaidjbhlaaGreatDoor.Pl
open Go.RowKit Go.IntWalk Go.Shelf Go.Proofs.YtgjddnaidjbhlaaGreatDoorW.PrintWords Go.Proofs.YtgjddnaidjbhlaaGreatDoor.PlName
attribute [local go_sem] Oper.semAt_some

/-- The loop that collects, between two rounds. -/
structure Col0 (w w4 W : World) (lo bo : Nat) (Y : Nat → Prop) (v : Value) (l : List Nat) : Prop where
 told : Told W bo w.heap.size v l
 yo : ¬ Y bo
 yv : ∀ k, v.ownBlock = some k → ¬ Y k
 ylo : ∀ k, Y k → lo ≤ k ∧ k < W.heap.size
 below : Below w.heap.size w W
 size : w4.heap.size ≤ W.heap.size ∧ lo ≤ w4.heap.size ∧ w.heap.size ≤ lo ∧ w.heap.size ≤ bo
section
variable {w w4 W W2 : World} {lo bo : Nat} {Y Y' : Nat → Prop} {v v' : Value} {l : List Nat} {x : Nat}
theorem Col0.chg (h : Col0 w w4 W lo bo Y v l) (hc : Chg Y W W2) : Col0 w w4 W2 lo bo (More Y W W2) v l := by
 have hbo := (Array.getElem?_eq_some_iff.1 h.told.box).1
 have hs := h.size
 have hs2 := hc.size
 refine ⟨⟨hc.row h.told.box h.yo, ownsRow_chg h.told.own hc h.yv⟩, ?_, fun k hk => ?_, fun k hk => ?_, h.below.trans (hc.below (by omega) fun k hk => by have := (h.ylo k hk).1; omega), by omega⟩
 · rintro (e | e)
   · exact h.yo e
   · omega
 · have := (h.told.own.lt k hk).2
   rintro (e | e)
   · exact h.yv k hk e
   · omega
 · rcases hk with hk | hk
   · have := h.ylo k hk
     omega
   · omega
theorem Col0.mono (h : Col0 w w4 W lo bo Y v l) (hy : ∀ k, Y' k → Y k) : Col0 w w4 W lo bo Y' v l :=
 ⟨h.told, fun e => h.yo (hy _ e), fun k hk e => h.yv k hk (hy _ e), fun k hk => h.ylo k (hy k hk), h.below, h.size⟩
theorem Col0.put (h : Col0 w w4 W lo bo Y v l) {q : Nat} {o o' : Obj} (hq : w4.heap.size ≤ q) (ho : W.heap[q]? = some o) (hno : o.isCells = false) : Col0 w w4 (W.putObj q o') lo bo Y v l := by
 have hk : ∀ {k : Nat} {a : Array Value} {t : Nat}, W.heap[k]? = some (.cells a t (0, 0)) → (W.putObj q o').heap[k]? = some (.cells a t (0, 0)) := fun {k a t} hr => by
  refine (World.putObj_heap_other (fun e => ?_)).trans hr
  subst e
  rw [ho] at hr
  injection hr with hr
  subst hr
  cases hno
 have hs := h.size
 refine ⟨⟨hk h.told.box, ⟨h.told.own.1, ?_⟩⟩, h.yo, h.yv, fun k hy => by have := h.ylo k hy; simp; omega, h.below.trans ⟨rfl, rfl, rfl, by simp, fun k hk => World.putObj_heap_other (by omega)⟩, by simp; omega⟩
 rcases h.told.own.2 with hn | ⟨g, cap, cur, e, h1, h2, rest⟩
 · exact .inl hn
 · exact .inr ⟨g, cap, cur, e, h1, hk h2, rest⟩
theorem Col0.on (h : Col0 w w4 W lo bo Y v l) (hb : Below W.heap.size W W2) : Col0 w w4 W2 lo bo Y v l := by
 have hs := h.size
 have hs2 := hb.size
 exact ⟨h.told.on hb, h.yo, h.yv, fun k hy => by have := h.ylo k hy; omega, on_ h.below hb, by omega⟩
/-- One more is collected. -/
theorem Col0.push (h : Col0 w w4 W lo bo Y v l) (hc : Chg (fun k => k = bo ∨ v.ownBlock = some k) W W2) (ht : Told W2 bo w.heap.size v' (l ++ [x])) (hw : ∀ k, v'.ownBlock = some k → v.ownBlock = some k ∨ W.heap.size ≤ k) :
 Col0 w w4 W2 lo bo Y v' (l ++ [x]) ∧ Keep Y W W2 := by
 have hs := h.size
 have hs2 := hc.size
 refine ⟨⟨ht, h.yo, fun k hk => ?_, fun k hy => by have := h.ylo k hy; omega, h.below.trans (hc.below (by omega) ?_), by omega⟩, Keep.of_chg hc fun k hk => ⟨(h.ylo k hk).2, ?_⟩⟩
 · intro hy
   rcases hw k hk with h1 | h1
   · exact h.yv k h1 hy
   · have := (h.ylo k hy).2
     omega
 · rintro k (e | e)
   · omega
   · exact (h.told.own.lt k e).1
 · rintro (e | e)
   · exact h.yo (e ▸ hk)
   · exact h.yv k e hk
end

end Go.Proofs.YtgjddnaidjbhlaaGreatDoor.Pl

/- plan.Ready, plan.Undo: the walks, by hand. -/
namespace Go.Proofs.YtgjddnaidjbhlaaGreatDoor.Pl
open Go.RowKit Go.IntWalk Go.Proofs.YtgjddnaidjbhlaaGreatDoorW.PrintWords Go.Proofs.YtgjddnaidjbhlaaGreatDoor.PlName

theorem defOk_acyc {nm : ByteArray} {l : List Step} (h : defOk nm l = true) : Acyc (wars (direct l) l.length) l.length := by
 obtain ⟨h1, h8, hal⟩ := defOk_len h
 unfold defOk at h
 simp only [Bool.and_eq_true, decide_eq_true_eq] at h
 have ho := h.2.2.2.2.1
 have hr := h.2.2.2.2.2.1
 have hk : ∀ k, k < l.length → 1 ≤ (stepAt l k).kind ∧ (stepAt l k).kind ≤ 3 := fun k hk => by
  have := hal k hk
  unfold aloneOk at this
  simp only [Bool.and_eq_true, decide_eq_true_eq] at this
  exact this.2.2.1
 have hi : ∀ x y, direct l x y = true → x < l.length ∧ y < l.length := fun x y h => direct_in h
 refine ⟨fun x k y _ _ _ h1 h2 => ?_, fun x hx => ?_⟩
 · rw [wars_all hi] at h1 h2 ⊢
   exact h1.trans h2
 · cases hc : wars (direct l) l.length x x
   · rfl
   · rw [wars_all hi] at hc
     exact absurd hc (no_ring (down_of hk ho) hr hx)
noncomputable def readyL (nm : ByteArray) (l : List Step) (st : List Int) : List Nat := if (defOk nm l && stsOk st l.length) = true then sel (readyF (wars (direct l) l.length) st l.length) l.length else []
noncomputable def undoL (nm : ByteArray) (l : List Step) (st : List Int) : List Nat := if (defOk nm l && stsOk st l.length) = true then sel (undoF (wars (direct l) l.length) st l.length) l.length else []
theorem ready_tells {w : World} {lo gg : Nat} {v : Value} {A : Option Addr} {c : Nat} {st : List Int} {rb : Nat → Nat} {n : Nat} {M : Nat → Nat → Bool} (h : GrS w lo gg v A c st rb n M) (hn : n ≤ 1000000) : Tells w 134 #[.pointer (some ⟨gg, 0, none⟩)] #[] (readyF M st n) n := fun W k hk hb => by
 have := ready_calls (h.on hb) hk hn
 simpa using this

set_option maxHeartbeats 8000000 in
set_option maxRecDepth 100000 in
theorem ready_at (nm : ByteArray) (l : List Step) (A : Option Addr) (c : Nat) (B : Option Addr) (cs : Nat) (st : List Int) (w : World) (hnm : nm.size ≤ 140737488351232) (hS : StepsAt w A l) (hb : ∀ s ∈ l, StepB s) (hn : l.length ≤ 9000000000000) (hc : l.length ≤ c) (hT : TabsAt w)
 (hs : Kd.C (Kd.int .i64) w B st.length st) (hsl : st.length ≤ 9000000000000000000) :
 Calls Tryz.prog 63 #[.agg #[.string nm, .slice A l.length c], .slice B st.length cs] w fun e w' => (∃ v, e = .returned v ∧ Own w w' v (readyL nm l st)) ∧ Below w.heap.size w w' := by
 have hb2 := below_one w (.cells #[.string nm, .slice A l.length c] 24)
 have hri := alloc1 w (.cells #[.string nm, .slice A l.length c] 24)
 have hm := made_calls nm l A c _ hnm (hS.below hb2) hb (by omega) hc (tabs_on hT hb2)
 have HW := Aside0.mk (And.intro hb2 hri)
 have HA := Aside0.mk (And.intro hS (And.intro hb (And.intro hT hs)))
 have HR : Aside0 (readyL nm l st = if (defOk nm l && stsOk st l.length) = true then sel (readyF (wars (direct l) l.length) st l.length) l.length else []) := ⟨rfl⟩
 have HD := Aside0.mk (fun h => And.intro (defOk_len (nm := nm) (l := l) h) (defOk_acyc (nm := nm) (l := l) h))
 generalize readyL nm l st = rr at *
 clear hb2 hri hS hb hT hs
 cases hok : defOk nm l
 · rw [hok] at hm HR
   replace hm := Aside0.mk hm
   go_enter Tryz.func63, Tryz.ntmps63
   go_wp2_with (first | (go_at_call 115; refine hm.out.mono ?_; rintro e w3 ⟨he, hb3⟩; cases he; have H3 := Aside0.mk (on_ HW.out.1 hb3); clear hb3) | (go_at_call 132; refine (with_nil B st.length cs _).mono ?_; rintro e w4 ⟨rfl, hb4⟩; have H4 := Aside0.mk hb4; clear hb4))
   go_ret
   exact ⟨⟨_, rfl, by rw [HR.out]; exact own_nil _ _⟩, on_ H3.out H4.out⟩
 · rw [hok] at hm HR
   obtain ⟨⟨hl1, hl8, _⟩, hA⟩ := HD.out hok
   replace hm := Aside0.mk hm
   replace hA := Aside0.mk (And.intro hA hok)
   clear HD hok
   have hw := Aside0.mk (fun (w3 : World) (gg : Nat) (v : Value) (rb : Nat → Nat) (hg : Gr w3 (w.alloc (.cells #[.string nm, .slice A l.length c] 24)).heap.size gg v (.slice none 0 0) rb l.length l.length (wars (direct l) l.length)) (hb3 : Below w.heap.size w w3) =>
    with_calls _ gg v (.slice none 0 0) B cs st rb l.length _ w3 hg (fun W hW => Kd.C_below HA.out.2.2.2 (hb3.trans (hW.below hb3.size fun k hk => by have hk : k = gg := hk; have := hg.lo_.1; have := HW.out.1.size; omega))) hsl hl1)
   go_enter Tryz.func63, Tryz.ntmps63
   cases hst : stsOk st l.length
   · rw [hst] at hw HR
     go_wp2_with (first | (go_at_call 115; refine hm.out.mono ?_; rintro e w3 ⟨⟨gg, v, rb, rfl, hg⟩, hb3⟩; have H3 := Aside0.mk (And.intro hg (on_ HW.out.1 hb3)); clear hb3 hg) | (go_at_call 132; refine (hw.out w3 gg v rb H3.out.1 H3.out.2).mono ?_; rintro e w4 ⟨he, hc4⟩; cases he; have H4 := Aside0.mk hc4; clear hc4))
     go_ret
     exact ⟨⟨_, rfl, by rw [HR.out]; exact own_nil _ _⟩, H3.out.2.trans (H4.out.below H3.out.2.size fun k hk => by have hk : k = gg := hk; have := H3.out.1.lo_.1; have := HW.out.1.size; omega)⟩
   · rw [hst] at hw HR
     have eg : ∀ args w, (callFunc 134 args).run Tryz.prog w = .ok (.enter 134 args) w := fun _ _ => by kernel_rfl
     have hbk : Aside0 (∀ (w3 w4 : World) (gg : Nat) (v : Value) (rb : Nat → Nat), Gr w3 (w.alloc (.cells #[.string nm, .slice A l.length c] 24)).heap.size gg v (.slice none 0 0) rb l.length l.length (wars (direct l) l.length) → Below (w.alloc (.cells #[.string nm, .slice A l.length c] 24)).heap.size (w.alloc (.cells #[.string nm, .slice A l.length c] 24)) w3 → Chg (· = gg) w3 w4 → Below w.heap.size w w4 ∧ w4.heap[w.heap.size]? = some (.cells #[.string nm, .slice A l.length c] 24 (0, 0))) := ⟨fun w3 w4 gg v rb hg hb3 hc => by
      have h1 := on_ HW.out.1 hb3
      have h2 := hg.lo_.1
      have h3 := (Array.getElem?_eq_some_iff.1 HW.out.2).1
      exact ⟨h1.trans (hc.below h1.size fun k hk => by have hk : k = gg := hk; omega), hc.row (row_on hb3 HW.out.2) (fun e => by have e : w.heap.size = gg := e; omega)⟩⟩
     go_wp2_with (first | (go_at_call 115; refine hm.out.mono ?_; rintro e w3 ⟨⟨gg, v, rb, rfl, hg⟩, hb3⟩; have H3 := Aside0.mk (And.intro hg (And.intro (on_ HW.out.1 hb3) hb3)); clear hb3 hg) | (go_at_call 132; refine (hw.out w3 gg v rb H3.out.1 H3.out.2.1).mono ?_; rintro e w4 ⟨⟨rfl, hg4⟩, hc4⟩; have H4 := Aside0.mk (And.intro hg4 (hbk.out w3 w4 gg v rb H3.out.1 H3.out.2.2 hc4)); have hq0 := row_cell (j := 0) H4.out.2.2 rfl; have hq1 := row_cell (j := 1) H4.out.2.2 rfl; clear hc4 hg4) | (go_at_call 133; refine (ordered_calls nm l A c w4 _ 134 _ _ (readyF (wars (direct l) l.length) st l.length) hnm (HA.out.1.below H4.out.2.1) HA.out.2.1 (by omega) hc (tabs_on HA.out.2.2.1 H4.out.2.1) hA.out.2 hA.out.1 eg (ready_tells H4.out.1 (by omega))).mono ?_; rintro e w5 ⟨⟨v5, rfl, ho5⟩, hb5⟩; have H5 := Aside0.mk (And.intro ho5 hb5); clear ho5 hb5))
     go_ret
     refine ⟨⟨_, rfl, ?_⟩, on_ H4.out.2.1 H5.out.2⟩
     rw [HR.out]
     exact H5.out.1.low H4.out.2.1.size

theorem undo_tells {w : World} {lo gg : Nat} {v : Value} {A : Option Addr} {c : Nat} {st : List Int} {rb : Nat → Nat} {n : Nat} {M : Nat → Nat → Bool} (h : GrS w lo gg v A c st rb n M) (hn : n ≤ 1000000) : Tells w 137 #[.pointer (some ⟨gg, 0, none⟩)] #[] (undoF M st n) n := fun W k hk hb => by
 have := undo_calls (h.on hb) hk hn
 simpa using this

set_option maxHeartbeats 8000000 in
set_option maxRecDepth 100000 in
theorem undo_at (nm : ByteArray) (l : List Step) (A : Option Addr) (c : Nat) (B : Option Addr) (cs : Nat) (st : List Int) (w : World) (hnm : nm.size ≤ 140737488351232) (hS : StepsAt w A l) (hb : ∀ s ∈ l, StepB s) (hn : l.length ≤ 9000000000000) (hc : l.length ≤ c) (hT : TabsAt w)
 (hs : Kd.C (Kd.int .i64) w B st.length st) (hsl : st.length ≤ 9000000000000000000) :
 Calls Tryz.prog 65 #[.agg #[.string nm, .slice A l.length c], .slice B st.length cs] w fun e w' => (∃ v, e = .returned v ∧ Own w w' v (undoL nm l st)) ∧ Below w.heap.size w w' := by
 have hb2 := below_one w (.cells #[.string nm, .slice A l.length c] 24)
 have hri := alloc1 w (.cells #[.string nm, .slice A l.length c] 24)
 have hm := made_calls nm l A c _ hnm (hS.below hb2) hb (by omega) hc (tabs_on hT hb2)
 have HW := Aside0.mk (And.intro hb2 hri)
 have HA := Aside0.mk (And.intro hS (And.intro hb (And.intro hT hs)))
 have HR : Aside0 (undoL nm l st = if (defOk nm l && stsOk st l.length) = true then sel (undoF (wars (direct l) l.length) st l.length) l.length else []) := ⟨rfl⟩
 have HD := Aside0.mk (fun h => And.intro (defOk_len (nm := nm) (l := l) h) (defOk_acyc (nm := nm) (l := l) h))
 generalize undoL nm l st = rr at *
 clear hb2 hri hS hb hT hs
 cases hok : defOk nm l
 · rw [hok] at hm HR
   replace hm := Aside0.mk hm
   go_enter Tryz.func65, Tryz.ntmps65
   go_wp2_with (first | (go_at_call 115; refine hm.out.mono ?_; rintro e w3 ⟨he, hb3⟩; cases he; have H3 := Aside0.mk (on_ HW.out.1 hb3); clear hb3) | (go_at_call 132; refine (with_nil B st.length cs _).mono ?_; rintro e w4 ⟨rfl, hb4⟩; have H4 := Aside0.mk hb4; clear hb4))
   go_ret
   exact ⟨⟨_, rfl, by rw [HR.out]; exact own_nil _ _⟩, on_ H3.out H4.out⟩
 · rw [hok] at hm HR
   obtain ⟨⟨hl1, hl8, _⟩, hA⟩ := HD.out hok
   replace hm := Aside0.mk hm
   replace hA := Aside0.mk (And.intro hA hok)
   clear HD hok
   have hw := Aside0.mk (fun (w3 : World) (gg : Nat) (v : Value) (rb : Nat → Nat) (hg : Gr w3 (w.alloc (.cells #[.string nm, .slice A l.length c] 24)).heap.size gg v (.slice none 0 0) rb l.length l.length (wars (direct l) l.length)) (hb3 : Below w.heap.size w w3) =>
    with_calls _ gg v (.slice none 0 0) B cs st rb l.length _ w3 hg (fun W hW => Kd.C_below HA.out.2.2.2 (hb3.trans (hW.below hb3.size fun k hk => by have hk : k = gg := hk; have := hg.lo_.1; have := HW.out.1.size; omega))) hsl hl1)
   go_enter Tryz.func65, Tryz.ntmps65
   cases hst : stsOk st l.length
   · rw [hst] at hw HR
     go_wp2_with (first | (go_at_call 115; refine hm.out.mono ?_; rintro e w3 ⟨⟨gg, v, rb, rfl, hg⟩, hb3⟩; have H3 := Aside0.mk (And.intro hg (on_ HW.out.1 hb3)); clear hb3 hg) | (go_at_call 132; refine (hw.out w3 gg v rb H3.out.1 H3.out.2).mono ?_; rintro e w4 ⟨he, hc4⟩; cases he; have H4 := Aside0.mk hc4; clear hc4))
     go_ret
     exact ⟨⟨_, rfl, by rw [HR.out]; exact own_nil _ _⟩, H3.out.2.trans (H4.out.below H3.out.2.size fun k hk => by have hk : k = gg := hk; have := H3.out.1.lo_.1; have := HW.out.1.size; omega)⟩
   · rw [hst] at hw HR
     have eg : ∀ args w, (callFunc 137 args).run Tryz.prog w = .ok (.enter 137 args) w := fun _ _ => by kernel_rfl
     have hbk : Aside0 (∀ (w3 w4 : World) (gg : Nat) (v : Value) (rb : Nat → Nat), Gr w3 (w.alloc (.cells #[.string nm, .slice A l.length c] 24)).heap.size gg v (.slice none 0 0) rb l.length l.length (wars (direct l) l.length) → Below (w.alloc (.cells #[.string nm, .slice A l.length c] 24)).heap.size (w.alloc (.cells #[.string nm, .slice A l.length c] 24)) w3 → Chg (· = gg) w3 w4 → Below w.heap.size w w4 ∧ w4.heap[w.heap.size]? = some (.cells #[.string nm, .slice A l.length c] 24 (0, 0))) := ⟨fun w3 w4 gg v rb hg hb3 hc => by
      have h1 := on_ HW.out.1 hb3
      have h2 := hg.lo_.1
      have h3 := (Array.getElem?_eq_some_iff.1 HW.out.2).1
      exact ⟨h1.trans (hc.below h1.size fun k hk => by have hk : k = gg := hk; omega), hc.row (row_on hb3 HW.out.2) (fun e => by have e : w.heap.size = gg := e; omega)⟩⟩
     go_wp2_with (first | (go_at_call 115; refine hm.out.mono ?_; rintro e w3 ⟨⟨gg, v, rb, rfl, hg⟩, hb3⟩; have H3 := Aside0.mk (And.intro hg (And.intro (on_ HW.out.1 hb3) hb3)); clear hb3 hg) | (go_at_call 132; refine (hw.out w3 gg v rb H3.out.1 H3.out.2.1).mono ?_; rintro e w4 ⟨⟨rfl, hg4⟩, hc4⟩; have H4 := Aside0.mk (And.intro hg4 (hbk.out w3 w4 gg v rb H3.out.1 H3.out.2.2 hc4)); have hq0 := row_cell (j := 0) H4.out.2.2 rfl; have hq1 := row_cell (j := 1) H4.out.2.2 rfl; clear hc4 hg4) | (go_at_call 133; refine (ordered_calls nm l A c w4 _ 137 _ _ (undoF (wars (direct l) l.length) st l.length) hnm (HA.out.1.below H4.out.2.1) HA.out.2.1 (by omega) hc (tabs_on HA.out.2.2.1 H4.out.2.1) hA.out.2 hA.out.1 eg (undo_tells H4.out.1 (by omega))).mono ?_; rintro e w5 ⟨⟨v5, rfl, ho5⟩, hb5⟩; have H5 := Aside0.mk (And.intro ho5 hb5); clear ho5 hb5))
     go_ret
     refine ⟨⟨_, rfl, ?_⟩, on_ H4.out.2.1 H5.out.2⟩
     rw [HR.out]
     exact H5.out.1.low H4.out.2.1.size

end Go.Proofs.YtgjddnaidjbhlaaGreatDoor.Pl

/- odysseyref11.twice, keys, needs: the walks, by hand. -/
namespace Go.Proofs.YtgjddnaidjbhlaaGreatDoor.Pl
open Go.RowKit Go.IntWalk Go.Proofs.YtgjddnaidjbhlaaGreatDoorW.PrintWords Go.Proofs.YtgjddnaidjbhlaaGreatDoorW.PrintLast Go.Proofs.YtgjddnaidjbhlaaGreatDoorW.PrintMore Go.Proofs.YtgjddnaidjbhlaaGreatDoor.PlName

theorem twice_false {l : List Step} {i : Nat} {s : Step} (h : ∀ j, j < i → j < l.length → ((stepAt l j).name.toList == s.name.toList) = false) : twice l i s = false := by
 unfold twice
 rw [List.any_eq_false]
 intro x hx
 obtain ⟨j, hj, e⟩ := List.getElem_of_mem hx
 rw [List.length_take] at hj
 rw [List.getElem_take] at e
 have h1 := h j (by omega) (by omega)
 have h2 : stepAt l j = x := by
  have h3 := stepAt_eq (l := l) (i := j) (by omega)
  rw [List.getElem?_eq_getElem (by omega)] at h3
  rw [← e]
  exact (Option.some.inj h3).symm
 rw [h2] at h1
 rw [h1]
 simp
theorem twice_true {l : List Step} {i j : Nat} {s : Step} (hj : j < i) (hl : j < l.length) (h : ((stepAt l j).name.toList == s.name.toList) = true) : twice l i s = true := by
 unfold twice
 rw [List.any_eq_true]
 refine ⟨stepAt l j, ?_, h⟩
 rw [List.mem_iff_getElem?]
 exact ⟨j, by rw [List.getElem?_take, if_pos hj]; exact stepAt_eq hl⟩

set_option maxHeartbeats 4000000 in
set_option maxRecDepth 100000 in
theorem twiceR_calls (nm : ByteArray) (l : List Step) (ad : Addr) (c : Nat) (i : Nat) (w : World) (hS : StepsAt w (some ad) l) (hi : i < l.length) (hl : l.length ≤ 8) :
 Calls Tryz.prog 106 #[.agg #[.string nm, .slice (some ad) l.length c], .int .i64 (i : Int)] w fun e w' => e = .returned (.bool (twice l i (stepAt l i))) ∧ Below w.heap.size w w' := by
 have HB0 := Aside0.mk (And.intro (below_one w (.cells #[.string nm, .slice (some ad) l.length c] 24)) (alloc1 w (.cells #[.string nm, .slice (some ad) l.length c] 24)))
 replace hS := Aside0.mk hS
 go_enter Tryz.func106, Tryz.ntmps106
 go_wp2
 generalize World.alloc w _ = w0 at *
 go_loopw [5] (fun v5 wr => ∃ k : Nat, k ≤ i ∧ v5 = .int .i64 (k : Int) ∧ (∀ j, j < k → ((stepAt l j).name.toList == (stepAt l i).name.toList) = false) ∧ Below w0.heap.size w0 wr) (fun v5 _ => i - (intOf v5).toNat)
 case atStart => exact ⟨0, Nat.zero_le _, rfl, fun j hj => absurd hj (Nat.not_lt_zero _), Below.refl _ _⟩
 case round =>
  obtain ⟨k, hk, rfl, hal, hB⟩ := hrel
  have HG := Aside0.mk (And.intro hal (on_ HB0.out.1 hB))
  have hq1 := row_cell (j := 1) (row_on hB HB0.out.2) rfl
  have hB2 := Aside0.mk hB
  clear hal hB
  by_cases hlt : k < i
  · have hd2 : decide ((k : Int) < (i : Int)) = true := decide_eq_true (by omega)
    obtain ⟨_, e1, A1, c1, A2, c2, h1⟩ := hS.out.one (stepAt_eq (l := l) (i := k) (by omega))
    cases e1
    obtain ⟨_, e2, B1, d1, B2, d2, h2⟩ := hS.out.one (stepAt_eq hi)
    cases e2
    have hn1 := (h1.below HG.out.2).c0
    have hn2 := (h2.below HG.out.2).c0
    clear h1 h2
    have hkl : k < l.length := by omega
    have hcase := Aside0.mk (And.intro (fun h => twice_true (l := l) (i := i) (j := k) (s := stepAt l i) hlt hkl h) HG.out.1)
    generalize hn3 : (stepAt l k).name = n1 at *
    generalize (stepAt l i).name = n2 at *
    cases hne : (n1.toList == n2.toList)
    · go_wp2
      go_quiet (fail)
      go_wp2
      go_roundw
      case rel => exact ⟨k + 1, hlt, by go_num, fun j hj => by rcases Nat.lt_succ_iff_lt_or_eq.1 hj with h | h; exact hcase.out.2 j h; subst h; rw [hn3]; exact hne, bdn hB2.out⟩
      case measure => simp [intOf]; omega
    · have HX := Aside0.mk (hcase.out.1 hne)
      go_wp2
      go_quiet (fail)
      go_wp2
      go_ret
      rw [HX.out]
      exact ⟨rfl, bdn HG.out.2⟩
  · have hk' : k = i := by omega
    subst hk'
    have hd2 : decide ((k : Int) < (k : Int)) = false := decide_eq_false (by omega)
    have HX := Aside0.mk (twice_false (l := l) (i := k) (s := stepAt l k) fun j h1 _ => HG.out.1 j h1)
    go_wp2
    go_ret
    rw [HX.out]
    exact ⟨rfl, HG.out.2⟩
set_option maxHeartbeats 8000000 in
set_option maxRecDepth 100000 in
theorem keysR_calls (s : Step) (A1 : Option Addr) (c1 : Nat) (v2 : Value) (n2 c2 : Nat) (A2 : Option Addr) (w : World) (hv2 : v2 = .slice A2 n2 c2) (hk : Kd.C Kd.string w A1 s.keys.length s.keys) (hs : ∀ k ∈ s.keys, k.size ≤ 140737488351232) (hl : s.keys.length ≤ 8796093022208) :
 Calls Tryz.prog 107 #[.agg (cells s (.slice A1 s.keys.length c1) v2).toArray] w fun e w' => e = .returned (.bool (keysOk s)) ∧ Below w.heap.size w w' := by
 subst hv2
 have HK := Aside0.mk (And.intro hk (And.intro hs hl))
 clear hk hs hl
 obtain ⟨name, kind, part, l, needs⟩ := s
 simp only [cells] at *
 by_cases h2 : 2 < l.length
 · have hd : decide (2 < (l.length : Int)) = true := decide_eq_true (by omega)
   have HF : Aside0 (keysOk ⟨name, kind, part, l, needs⟩ = false) := ⟨by simp [keysOk]; omega⟩
   clear h2
   go_enter Tryz.func107, Tryz.ntmps107
   go_wp2
   go_ret
   rw [HF.out]
   exact ⟨rfl, below_one _ _⟩
 · have hd : decide (2 < (l.length : Int)) = false := decide_eq_false (by omega)
   have HF : Aside0 (keysOk ⟨name, kind, part, l, needs⟩ = goKeys part none l) := ⟨by simp [keysOk]; omega⟩
   go_enter Tryz.func107, Tryz.ntmps107
   go_wp2
   have hrow := alloc1 w (.cells #[.string name, .int .i64 kind, .int .i64 part, .slice A1 l.length c1, .slice A2 n2 c2] 70)
   have HB0 := Aside0.mk (And.intro (below_one w (.cells #[.string name, .int .i64 kind, .int .i64 part, .slice A1 l.length c1, .slice A2 n2 c2] 70)) hrow)
   generalize World.alloc w _ = w0 at *
   clear hrow
   go_loopw [3] (fun v3 wr => ∃ i : Nat, i ≤ l.length ∧ v3 = .int .i64 (i : Int) ∧ keysOk ⟨name, kind, part, l, needs⟩ = goKeys part (prev l i) (l.drop i) ∧ (∀ h : 0 < l.length, 0 < i → Nm.isName l[0] = true) ∧ Below w0.heap.size w0 wr) (fun v3 _ => l.length - (intOf v3).toNat)
   case atStart => exact ⟨0, Nat.zero_le _, rfl, HF.out, fun _ h => absurd h (Nat.lt_irrefl _), Below.refl _ _⟩
   case round =>
    obtain ⟨i, hi, rfl, hg, hnm0, hB⟩ := hrel
    have HG := Aside0.mk hg
    have HBR := Aside0.mk hB
    have hrow := row_on hB HB0.out.2
    have hq2 : wr.cell? ⟨w.heap.size, 2, none⟩ = some (.int .i64 part) := row_cell hrow rfl
    have hq3 : wr.cell? ⟨w.heap.size, 3, none⟩ = some (.slice A1 l.length c1) := row_cell hrow rfl
    replace hnm0 := Aside0.mk hnm0
    clear hg hrow hB
    by_cases hlt : i < l.length
    · have hd2 : decide ((i : Int) < (l.length : Int)) = true := decide_eq_true (by omega)
      have hi01 : i = 0 ∨ i = 1 := by omega
      obtain ⟨ad, rfl, hkey⟩ := key_at HK.out.1 hlt
      replace hkey := cell_on (on_ HB0.out.1 HBR.out) hkey
      have hmem := List.getElem_mem hlt
      have hsz := HK.out.2.1 _ hmem
      have hdrop : l.drop i = l[i] :: l.drop (i + 1) := List.drop_eq_getElem_cons hlt
      have hprev : prev l (i + 1) = some l[i] := by unfold prev; rw [if_neg (by omega)]; simp [List.getElem?_eq_getElem hlt]
      have HPV := Aside0.mk hprev
      rw [hdrop] at HG
      have HI : Aside0 (∀ W, Calls Tryz.prog 34 #[.string l[i]] W fun e w' => e = .returned (.bool (Nm.isName l[i])) ∧ Below W.heap.size W w') := ⟨fun W => isR_calls _ W (by omega)⟩
      have HOW : Nm.isName l[i] = true → Aside0 (∀ W, Calls Tryz.prog 161 #[.string l[i]] W fun e w' => e = .returned (.int .i64 (owner l[i])) ∧ Below W.heap.size W w') := fun h => ⟨fun W => ownerR_calls _ W (by omega) h⟩
      clear hmem hdrop hprev
      rcases hi01 with rfl | rfl
      · have hp0 : prev l 0 = none := rfl
        rw [hp0, goKeys] at HG
        simp only at hkey
        have hn0 : Aside0 (Nm.isName l[0] = true → ∀ h : 0 < l.length, 0 < 1 → Nm.isName l[0] = true) := ⟨fun h _ _ => h⟩
        generalize hk0 : l[0] = k at *
        clear hp0 hsz
        cases hn : Nm.isName k
        · rw [hn] at HG HI
          clear HOW
          have HFIN : Aside0 ((false && (decide (owner k = part) && goKeys part (some k) (List.drop (0 + 1) l))) = false) := ⟨rfl⟩
          go_wp2_with (first | (go_at_call 34; refine (HI.out _).mono ?_; rintro e w1 ⟨rfl, hb1⟩; have H1 := Aside0.mk hb1; have hrow1 := row_on (on_ HBR.out hb1) HB0.out.2; have hq21 := row_cell (j := 2) hrow1 rfl; have hq31 := row_cell (j := 3) hrow1 rfl; have hkey1 := cell_on hb1 hkey; clear hb1 hrow1))
          go_quiet (fail)
          go_wp2
          go_ret
          rw [HG.out, HFIN.out]
          exact ⟨rfl, on_ (on_ HB0.out.1 HBR.out) (bdn H1.out)⟩
        · rw [hn] at HG HI
          replace HOW := HOW hn
          generalize owner k = o at *
          by_cases ho : o = part
          · have hd3 : (o != part) = false := bne_eq_false_iff_eq.2 ho
            have HFIN : Aside0 ((true && (decide (o = part) && goKeys part (some k) (List.drop (0 + 1) l))) = goKeys part (prev l 1) (l.drop 1)) := ⟨by rw [HPV.out, decide_eq_true ho]; rfl⟩
            clear ho
            go_wp2_with (first | (go_at_call 34; refine (HI.out _).mono ?_; rintro e w1 ⟨rfl, hb1⟩; have H1 := Aside0.mk hb1; have hrow1 := row_on (on_ HBR.out hb1) HB0.out.2; have hq21 := row_cell (j := 2) hrow1 rfl; have hq31 := row_cell (j := 3) hrow1 rfl; have hkey1 := cell_on hb1 hkey; clear hb1 hrow1))
            refine start_ (n := 13) (S := fun w' => w'.cell? ⟨w.heap.size, 2, none⟩ = some (.int .i64 part) ∧ w'.cell? ⟨w.heap.size, 3, none⟩ = some (.slice (some ad) l.length c1) ∧ w'.cell? ad = some (.string k)) (ds := []) #[false,false,false,false,false,false,false,false,false,false,false,false,false] (by kernel_rfl) rfl rfl ⟨(by go_keep), (by go_keep), (by go_keep)⟩ (fun hHeld => ?_)
            refine zV 0 22 13 1 ?_
            refine zV 1 23 13 3 ?_
            refine zV 2 24 13 7 ?_
            refine zV 3 25 13 15 ?_
            refine zV 5 27 13 47 ?_
            refine zV 9 31 13 559 ?_
            refine zT 4 26 13 575 hHeld ?_
            refine zV 6 28 13 639 ?_
            refine zT 7 29 13 767 hHeld ?_
            refine zT 10 32 13 1791 hHeld ?_
            refine one_ (i := 8) (N := some 30) (zG 13 2047) rfl rfl (by kernel_rfl) (by decide) (fun K hK => ?_)
            refine goes_ Tryz.func161 (by kernel_rfl) rfl #[.string k] (by rfl) rfl rfl (by simp only [List.map_toArray, List.map_cons, List.map_nil]; rfl) ?_
            with_reducible refine (HOW.out _).mono ?_
            rintro e w2 ⟨rfl, hb2⟩
            refine ⟨_, rfl, ?_⟩
            refine hK.out _ _ ⟨(cell_on hb2 hHeld.1), (cell_on hb2 hHeld.2.1), (cell_on hb2 hHeld.2.2)⟩ (fun hHeld => ?_)
            clear hK K
            refine norm_ (a' := ?_) ?_ ?_
            rotate_left
            · show Act.put _ (some 30) _ = _
              simp only [Act.put, zA, zB, zC, i64_w, i32_w]
              rfl
            refine zV 11 33 13 4095 ?_
            refine zV 12 34 13 8191 ?_
            refine done_ (by kernel_rfl) ?_
            have H2 := Aside0.mk (on_ (below_drew H1.out) hb2)
            clear hb2
            go_wp2
            go_quiet (fail)
            go_wp2
            go_roundw
            case rel => exact ⟨1, by omega, by go_num, by rw [HG.out]; exact HFIN.out, fun _ _ => (by rw [hk0]; exact hn), on_ HBR.out (bdn H2.out)⟩
            case measure => simp [intOf]; omega
          · have hd3 : (o != part) = true := bne_iff_ne.2 ho
            have HFIN : Aside0 ((true && (decide (o = part) && goKeys part (some k) (List.drop (0 + 1) l))) = false) := ⟨by rw [decide_eq_false ho]; rfl⟩
            clear ho
            go_wp2_with (first | (go_at_call 34; refine (HI.out _).mono ?_; rintro e w1 ⟨rfl, hb1⟩; have H1 := Aside0.mk hb1; have hrow1 := row_on (on_ HBR.out hb1) HB0.out.2; have hq21 := row_cell (j := 2) hrow1 rfl; have hq31 := row_cell (j := 3) hrow1 rfl; have hkey1 := cell_on hb1 hkey; clear hb1 hrow1))
            refine start_ (n := 13) (S := fun w' => w'.cell? ⟨w.heap.size, 2, none⟩ = some (.int .i64 part) ∧ w'.cell? ⟨w.heap.size, 3, none⟩ = some (.slice (some ad) l.length c1) ∧ w'.cell? ad = some (.string k)) (ds := []) #[false,false,false,false,false,false,false,false,false,false,false,false,false] (by kernel_rfl) rfl rfl ⟨(by go_keep), (by go_keep), (by go_keep)⟩ (fun hHeld => ?_)
            refine zV 0 22 13 1 ?_
            refine zV 1 23 13 3 ?_
            refine zV 2 24 13 7 ?_
            refine zV 3 25 13 15 ?_
            refine zV 5 27 13 47 ?_
            refine zV 9 31 13 559 ?_
            refine zT 4 26 13 575 hHeld ?_
            refine zV 6 28 13 639 ?_
            refine zT 7 29 13 767 hHeld ?_
            refine zT 10 32 13 1791 hHeld ?_
            refine one_ (i := 8) (N := some 30) (zG 13 2047) rfl rfl (by kernel_rfl) (by decide) (fun K hK => ?_)
            refine goes_ Tryz.func161 (by kernel_rfl) rfl #[.string k] (by rfl) rfl rfl (by simp only [List.map_toArray, List.map_cons, List.map_nil]; rfl) ?_
            with_reducible refine (HOW.out _).mono ?_
            rintro e w2 ⟨rfl, hb2⟩
            refine ⟨_, rfl, ?_⟩
            refine hK.out _ _ ⟨(cell_on hb2 hHeld.1), (cell_on hb2 hHeld.2.1), (cell_on hb2 hHeld.2.2)⟩ (fun hHeld => ?_)
            clear hK K
            refine norm_ (a' := ?_) ?_ ?_
            rotate_left
            · show Act.put _ (some 30) _ = _
              simp only [Act.put, zA, zB, zC, i64_w, i32_w]
              rfl
            refine zV 11 33 13 4095 ?_
            refine zV 12 34 13 8191 ?_
            refine done_ (by kernel_rfl) ?_
            have H2 := Aside0.mk (on_ (below_drew H1.out) hb2)
            clear hb2
            go_wp2
            go_ret
            rw [HG.out, HFIN.out]
            exact ⟨rfl, on_ (on_ HB0.out.1 HBR.out) H2.out⟩
      · have hl0 : 0 < l.length := by omega
        have hw0 : wrap64 0 = 0 := by unfold wrap64; omega
        have hlp : (0 : Int) < (l.length : Int) := by omega
        obtain ⟨ad', e', hkey0⟩ := key_at HK.out.1 hl0
        injection e' with e'
        subst e'
        replace hkey0 := cell_on (on_ HB0.out.1 HBR.out) hkey0
        have hp1 : prev l 1 = some l[0] := by unfold prev; rw [if_neg (by omega)]; simp [List.getElem?_eq_getElem hl0]
        rw [hp1, goKeys] at HG
        simp only at hkey hkey0
        have hsz0 := HK.out.2.1 _ (List.getElem_mem hl0)
        have HCM0 := Aside0.mk (fun (h : Nm.isName l[1] = true) W => compareR_calls l[0] l[1] W (by omega) (by omega) (hnm0.out hl0 (by omega)) h)
        have HN0 := Aside0.mk (hnm0.out hl0 (by omega))
        clear hnm0 hsz0
        generalize hp00 : l[0] = p at *
        generalize l[1] = k at *
        clear hp1 hsz
        cases hn : Nm.isName k
        · rw [hn] at HG HI
          clear HOW HCM0
          have HFIN : Aside0 ((false && (decide (owner k = part) && (decide (cmp p k < 0) && goKeys part (some k) (List.drop (1 + 1) l)))) = false) := ⟨rfl⟩
          go_wp2_with (first | (go_at_call 34; refine (HI.out _).mono ?_; rintro e w1 ⟨rfl, hb1⟩; have H1 := Aside0.mk hb1; have hrow1 := row_on (on_ HBR.out hb1) HB0.out.2; have hq21 := row_cell (j := 2) hrow1 rfl; have hq31 := row_cell (j := 3) hrow1 rfl; have hkey1 := cell_on hb1 hkey; have hkey01 := cell_on hb1 hkey0; clear hb1 hrow1))
          go_quiet (fail)
          go_wp2
          go_ret
          rw [HG.out, HFIN.out]
          exact ⟨rfl, on_ (on_ HB0.out.1 HBR.out) (bdn H1.out)⟩
        · rw [hn] at HG HI
          replace HOW := HOW hn
          have HCM := Aside0.mk (HCM0.out hn)
          clear hn HCM0
          generalize owner k = o at *
          generalize cmp p k = x at *
          by_cases ho : o = part
          · have hd3 : (o != part) = false := bne_eq_false_iff_eq.2 ho
            by_cases hx : x < 0
            · have hd4 : decide (0 ≤ x) = false := decide_eq_false (by omega)
              have HFIN : Aside0 ((true && (decide (o = part) && (decide (x < 0) && goKeys part (some k) (List.drop (1 + 1) l)))) = goKeys part (prev l 2) (l.drop 2)) := ⟨by rw [HPV.out, decide_eq_true ho, decide_eq_true hx]; rfl⟩
              clear ho hx
              go_wp2_with (first | (go_at_call 34; refine (HI.out _).mono ?_; rintro e w1 ⟨rfl, hb1⟩; have H1 := Aside0.mk hb1; have hrow1 := row_on (on_ HBR.out hb1) HB0.out.2; have hq21 := row_cell (j := 2) hrow1 rfl; have hq31 := row_cell (j := 3) hrow1 rfl; have hkey1 := cell_on hb1 hkey; have hkey01 := cell_on hb1 hkey0; clear hb1 hrow1))
              refine start_ (n := 13) (S := fun w' => w'.cell? ⟨w.heap.size, 2, none⟩ = some (.int .i64 part) ∧ w'.cell? ⟨w.heap.size, 3, none⟩ = some (.slice (some ad) l.length c1) ∧ w'.cell? ⟨ad.block, ad.off + 1, none⟩ = some (.string k) ∧ w'.cell? ad = some (.string p)) (ds := []) #[false,false,false,false,false,false,false,false,false,false,false,false,false] (by kernel_rfl) rfl rfl ⟨(by go_keep), (by go_keep), (by go_keep), (by go_keep)⟩ (fun hHeld => ?_)
              refine zV 0 22 13 1 ?_
              refine zV 1 23 13 3 ?_
              refine zV 2 24 13 7 ?_
              refine zV 3 25 13 15 ?_
              refine zV 5 27 13 47 ?_
              refine zV 9 31 13 559 ?_
              refine zT 4 26 13 575 hHeld ?_
              refine zV 6 28 13 639 ?_
              refine zT 7 29 13 767 hHeld ?_
              refine zT 10 32 13 1791 hHeld ?_
              refine one_ (i := 8) (N := some 30) (zG 13 2047) rfl rfl (by kernel_rfl) (by decide) (fun K hK => ?_)
              refine goes_ Tryz.func161 (by kernel_rfl) rfl #[.string k] (by rfl) rfl rfl (by simp only [List.map_toArray, List.map_cons, List.map_nil]; rfl) ?_
              with_reducible refine (HOW.out _).mono ?_
              rintro e w2 ⟨rfl, hb2⟩
              refine ⟨_, rfl, ?_⟩
              refine hK.out _ _ ⟨(cell_on hb2 hHeld.1), (cell_on hb2 hHeld.2.1), (cell_on hb2 hHeld.2.2.1), (cell_on hb2 hHeld.2.2.2)⟩ (fun hHeld => ?_)
              clear hK K
              refine norm_ (a' := ?_) ?_ ?_
              rotate_left
              · show Act.put _ (some 30) _ = _
                simp only [Act.put, zA, zB, zC, i64_w, i32_w]
                rfl
              refine zV 11 33 13 4095 ?_
              refine zV 12 34 13 8191 ?_
              refine done_ (by kernel_rfl) ?_
              have H2 := Aside0.mk (on_ (below_drew H1.out) hb2)
              have hq32 := hHeld.2.1
              have hkey2 := hHeld.2.2.1
              have hkey02 := hHeld.2.2.2
              clear hb2
              go_wp2
              refine start_ (n := 17) (S := fun w' => w'.cell? ⟨w.heap.size, 3, none⟩ = some (.slice (some ad) l.length c1) ∧ w'.cell? ⟨ad.block, ad.off + 1, none⟩ = some (.string k) ∧ w'.cell? ad = some (.string p)) (ds := []) #[false,false,false,false,false,false,false,false,false,false,false,false,false,false,false,false,false] (by kernel_rfl) rfl rfl ⟨(by go_keep), (by go_keep), (by go_keep)⟩ (fun hHeld => ?_)
              refine zV 0 35 17 1 ?_
              refine zV 1 36 17 3 ?_
              refine zV 2 37 17 7 ?_
              refine zV 3 38 17 15 ?_
              refine zV 5 40 17 47 ?_
              refine zV 6 41 17 111 ?_
              refine zV 9 44 17 623 ?_
              refine zV 11 46 17 2671 ?_
              refine zT 4 39 17 2687 hHeld ?_
              refine zV 7 42 17 2815 ?_
              refine zT 8 43 17 3071 hHeld ?_
              refine zT 10 45 17 4095 hHeld ?_
              refine zV 12 47 17 8191 ?_
              refine zT 13 48 17 16383 hHeld ?_
              refine one_ (i := 14) (N := some 49) (zG 17 32767) rfl rfl (by kernel_rfl) (by decide) (fun K hK => ?_)
              refine goes_ Tryz.func162 (by kernel_rfl) rfl #[.string p, .string k] (by rfl) rfl rfl (by simp only [List.map_toArray, List.map_cons, List.map_nil]; rfl) ?_
              with_reducible refine (HCM.out _).mono ?_
              rintro e w3 ⟨rfl, hb3⟩
              refine ⟨_, rfl, ?_⟩
              refine hK.out _ _ ⟨(cell_on hb3 hHeld.1), (cell_on hb3 hHeld.2.1), (cell_on hb3 hHeld.2.2)⟩ (fun hHeld => ?_)
              clear hK K
              refine norm_ (a' := ?_) ?_ ?_
              rotate_left
              · show Act.put _ (some 49) _ = _
                simp only [Act.put, zA, zB, zC, i64_w, i32_w]
                rfl
              refine zV 15 50 17 65535 ?_
              refine zV 16 51 17 131071 ?_
              refine done_ (by kernel_rfl) ?_
              have H3 := Aside0.mk (on_ (below_drew H2.out) hb3)
              clear hb3
              go_wp2
              go_roundw
              case rel => exact ⟨2, by omega, by go_num, by rw [HG.out]; exact HFIN.out, fun _ _ => (by rw [hp00]; exact HN0.out), on_ HBR.out H3.out⟩
              case measure => simp [intOf]; omega
            · have hd4 : decide (0 ≤ x) = true := decide_eq_true (by omega)
              have HFIN : Aside0 ((true && (decide (o = part) && (decide (x < 0) && goKeys part (some k) (List.drop (1 + 1) l)))) = false) := ⟨by rw [decide_eq_false hx]; simp⟩
              clear ho hx
              go_wp2_with (first | (go_at_call 34; refine (HI.out _).mono ?_; rintro e w1 ⟨rfl, hb1⟩; have H1 := Aside0.mk hb1; have hrow1 := row_on (on_ HBR.out hb1) HB0.out.2; have hq21 := row_cell (j := 2) hrow1 rfl; have hq31 := row_cell (j := 3) hrow1 rfl; have hkey1 := cell_on hb1 hkey; have hkey01 := cell_on hb1 hkey0; clear hb1 hrow1))
              refine start_ (n := 13) (S := fun w' => w'.cell? ⟨w.heap.size, 2, none⟩ = some (.int .i64 part) ∧ w'.cell? ⟨w.heap.size, 3, none⟩ = some (.slice (some ad) l.length c1) ∧ w'.cell? ⟨ad.block, ad.off + 1, none⟩ = some (.string k) ∧ w'.cell? ad = some (.string p)) (ds := []) #[false,false,false,false,false,false,false,false,false,false,false,false,false] (by kernel_rfl) rfl rfl ⟨(by go_keep), (by go_keep), (by go_keep), (by go_keep)⟩ (fun hHeld => ?_)
              refine zV 0 22 13 1 ?_
              refine zV 1 23 13 3 ?_
              refine zV 2 24 13 7 ?_
              refine zV 3 25 13 15 ?_
              refine zV 5 27 13 47 ?_
              refine zV 9 31 13 559 ?_
              refine zT 4 26 13 575 hHeld ?_
              refine zV 6 28 13 639 ?_
              refine zT 7 29 13 767 hHeld ?_
              refine zT 10 32 13 1791 hHeld ?_
              refine one_ (i := 8) (N := some 30) (zG 13 2047) rfl rfl (by kernel_rfl) (by decide) (fun K hK => ?_)
              refine goes_ Tryz.func161 (by kernel_rfl) rfl #[.string k] (by rfl) rfl rfl (by simp only [List.map_toArray, List.map_cons, List.map_nil]; rfl) ?_
              with_reducible refine (HOW.out _).mono ?_
              rintro e w2 ⟨rfl, hb2⟩
              refine ⟨_, rfl, ?_⟩
              refine hK.out _ _ ⟨(cell_on hb2 hHeld.1), (cell_on hb2 hHeld.2.1), (cell_on hb2 hHeld.2.2.1), (cell_on hb2 hHeld.2.2.2)⟩ (fun hHeld => ?_)
              clear hK K
              refine norm_ (a' := ?_) ?_ ?_
              rotate_left
              · show Act.put _ (some 30) _ = _
                simp only [Act.put, zA, zB, zC, i64_w, i32_w]
                rfl
              refine zV 11 33 13 4095 ?_
              refine zV 12 34 13 8191 ?_
              refine done_ (by kernel_rfl) ?_
              have H2 := Aside0.mk (on_ (below_drew H1.out) hb2)
              have hq32 := hHeld.2.1
              have hkey2 := hHeld.2.2.1
              have hkey02 := hHeld.2.2.2
              clear hb2
              go_wp2
              refine start_ (n := 17) (S := fun w' => w'.cell? ⟨w.heap.size, 3, none⟩ = some (.slice (some ad) l.length c1) ∧ w'.cell? ⟨ad.block, ad.off + 1, none⟩ = some (.string k) ∧ w'.cell? ad = some (.string p)) (ds := []) #[false,false,false,false,false,false,false,false,false,false,false,false,false,false,false,false,false] (by kernel_rfl) rfl rfl ⟨(by go_keep), (by go_keep), (by go_keep)⟩ (fun hHeld => ?_)
              refine zV 0 35 17 1 ?_
              refine zV 1 36 17 3 ?_
              refine zV 2 37 17 7 ?_
              refine zV 3 38 17 15 ?_
              refine zV 5 40 17 47 ?_
              refine zV 6 41 17 111 ?_
              refine zV 9 44 17 623 ?_
              refine zV 11 46 17 2671 ?_
              refine zT 4 39 17 2687 hHeld ?_
              refine zV 7 42 17 2815 ?_
              refine zT 8 43 17 3071 hHeld ?_
              refine zT 10 45 17 4095 hHeld ?_
              refine zV 12 47 17 8191 ?_
              refine zT 13 48 17 16383 hHeld ?_
              refine one_ (i := 14) (N := some 49) (zG 17 32767) rfl rfl (by kernel_rfl) (by decide) (fun K hK => ?_)
              refine goes_ Tryz.func162 (by kernel_rfl) rfl #[.string p, .string k] (by rfl) rfl rfl (by simp only [List.map_toArray, List.map_cons, List.map_nil]; rfl) ?_
              with_reducible refine (HCM.out _).mono ?_
              rintro e w3 ⟨rfl, hb3⟩
              refine ⟨_, rfl, ?_⟩
              refine hK.out _ _ ⟨(cell_on hb3 hHeld.1), (cell_on hb3 hHeld.2.1), (cell_on hb3 hHeld.2.2)⟩ (fun hHeld => ?_)
              clear hK K
              refine norm_ (a' := ?_) ?_ ?_
              rotate_left
              · show Act.put _ (some 49) _ = _
                simp only [Act.put, zA, zB, zC, i64_w, i32_w]
                rfl
              refine zV 15 50 17 65535 ?_
              refine zV 16 51 17 131071 ?_
              refine done_ (by kernel_rfl) ?_
              have H3 := Aside0.mk (on_ (below_drew H2.out) hb3)
              clear hb3
              go_wp2
              go_ret
              rw [HG.out, HFIN.out]
              exact ⟨rfl, on_ (on_ HB0.out.1 HBR.out) H3.out⟩
          · have hd3 : (o != part) = true := bne_iff_ne.2 ho
            have HFIN : Aside0 ((true && (decide (o = part) && (decide (x < 0) && goKeys part (some k) (List.drop (1 + 1) l)))) = false) := ⟨by rw [decide_eq_false ho]; rfl⟩
            clear ho
            go_wp2_with (first | (go_at_call 34; refine (HI.out _).mono ?_; rintro e w1 ⟨rfl, hb1⟩; have H1 := Aside0.mk hb1; have hrow1 := row_on (on_ HBR.out hb1) HB0.out.2; have hq21 := row_cell (j := 2) hrow1 rfl; have hq31 := row_cell (j := 3) hrow1 rfl; have hkey1 := cell_on hb1 hkey; have hkey01 := cell_on hb1 hkey0; clear hb1 hrow1))
            refine start_ (n := 13) (S := fun w' => w'.cell? ⟨w.heap.size, 2, none⟩ = some (.int .i64 part) ∧ w'.cell? ⟨w.heap.size, 3, none⟩ = some (.slice (some ad) l.length c1) ∧ w'.cell? ⟨ad.block, ad.off + 1, none⟩ = some (.string k)) (ds := []) #[false,false,false,false,false,false,false,false,false,false,false,false,false] (by kernel_rfl) rfl rfl ⟨(by go_keep), (by go_keep), (by go_keep)⟩ (fun hHeld => ?_)
            refine zV 0 22 13 1 ?_
            refine zV 1 23 13 3 ?_
            refine zV 2 24 13 7 ?_
            refine zV 3 25 13 15 ?_
            refine zV 5 27 13 47 ?_
            refine zV 9 31 13 559 ?_
            refine zT 4 26 13 575 hHeld ?_
            refine zV 6 28 13 639 ?_
            refine zT 7 29 13 767 hHeld ?_
            refine zT 10 32 13 1791 hHeld ?_
            refine one_ (i := 8) (N := some 30) (zG 13 2047) rfl rfl (by kernel_rfl) (by decide) (fun K hK => ?_)
            refine goes_ Tryz.func161 (by kernel_rfl) rfl #[.string k] (by rfl) rfl rfl (by simp only [List.map_toArray, List.map_cons, List.map_nil]; rfl) ?_
            with_reducible refine (HOW.out _).mono ?_
            rintro e w2 ⟨rfl, hb2⟩
            refine ⟨_, rfl, ?_⟩
            refine hK.out _ _ ⟨(cell_on hb2 hHeld.1), (cell_on hb2 hHeld.2.1), (cell_on hb2 hHeld.2.2)⟩ (fun hHeld => ?_)
            clear hK K
            refine norm_ (a' := ?_) ?_ ?_
            rotate_left
            · show Act.put _ (some 30) _ = _
              simp only [Act.put, zA, zB, zC, i64_w, i32_w]
              rfl
            refine zV 11 33 13 4095 ?_
            refine zV 12 34 13 8191 ?_
            refine done_ (by kernel_rfl) ?_
            have H2 := Aside0.mk (on_ (below_drew H1.out) hb2)
            clear hb2
            go_wp2
            go_ret
            rw [HG.out, HFIN.out]
            exact ⟨rfl, on_ (on_ HB0.out.1 HBR.out) H2.out⟩
    · have hi' : i = l.length := by omega
      subst hi'
      have hd2 : decide ((l.length : Int) < (l.length : Int)) = false := decide_eq_false (by omega)
      go_wp2
      go_ret
      rw [HG.out, List.drop_length]
      refine ⟨?_, on_ HB0.out.1 HBR.out⟩
      cases prev l l.length <;> rfl
end Go.Proofs.YtgjddnaidjbhlaaGreatDoor.Pl
