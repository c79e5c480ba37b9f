/- Several texts in one, in build order: PlReady, PlAhead, PlSeq, PlOrd, PlOrder, PlApp, PlIter, PlSort, PlOrdered, PlTold, PlAnswers, PlRKeys. -/
import Derived.Test.YthlgcibckakhbaaGreatDoorMPR1
import Derived.RangeFuncWrites
import Derived.RangeFuncLeaves
import Derived.RangeFuncCalls
import Derived.Shelf.Abstract
import Derived.OwnWalkIn
import Derived.TacticsInMore
import Derived.LoopNIn
import Derived.LoopIn
set_option linter.unusedVariables false
set_option linter.unusedSimpArgs false
/- A graph's ready, undo, with: the walks, by hand. -/
namespace Go.Proofs.YthlgcibckakhbaaGreatDoor.Pl
open Go.RowKit Go.IntWalk Go.Proofs.YthlgcibckakhbaaGreatDoorW.PrintWords Go.Proofs.YthlgcibckakhbaaGreatDoor.PlName

def doneF (st : List Int) (k : Nat) : Bool := stOf st k == 2
def standsF (st : List Int) (k : Nat) : Bool := stOf st k == 1 || stOf st k == 2
def readyF (M : Nat → Nat → Bool) (st : List Int) (n i : Nat) : Bool := (stOf st i == 0) && allF (M i) (doneF st) n
def undoF (M : Nat → Nat → Bool) (st : List Int) (n i : Nat) : Bool := standsF st i && allF (fun k => M k i) (fun k => !standsF st k) n
/-- A graph with states. -/
structure GrS (w : World) (lo gg : Nat) (v : Value) (A : Option Addr) (c : Nat) (st : List Int) (rb : Nat → Nat) (n : Nat) (M : Nat → Nat → Bool) : Prop where
 gr : Gr w lo gg v (.slice A st.length c) rb n n M
 st_ : Kd.C (Kd.int .i64) w A st.length st
 len : st.length = n
theorem GrS.on {w w' : World} {lo gg : Nat} {v : Value} {A : Option Addr} {c : Nat} {st : List Int} {rb : Nat → Nat} {n : Nat} {M : Nat → Nat → Bool} (h : GrS w lo gg v A c st rb n M) (hb : Below w.heap.size w w') : GrS w' lo gg v A c st rb n M :=
 ⟨h.gr.on hb, Kd.C_below h.st_ hb, h.len⟩
section
variable {w : World} {lo gg : Nat} {v : Value} {A : Option Addr} {c : Nat} {st : List Int} {rb : Nat → Nat} {n : Nat} {M : Nat → Nat → Bool}
theorem done_tells (h : GrS w lo gg v A c st rb n M) : Tells w 43 #[.pointer (some ⟨gg, 0, none⟩)] #[] (doneF st) n := fun W k hk hb => by
 have h1 := h.on hb
 have := done_calls (i := k) h1.gr.box h1.st_ (by rw [h1.len]; exact hk)
 simpa [doneF] using this

set_option maxHeartbeats 4000000 in
set_option maxRecDepth 100000 in
theorem ready_calls {i : Nat} (h : GrS w lo gg v A c st rb n M) (hi : i < n) (hn : n ≤ 1000000) :
 Calls Tryz.prog 29 #[.pointer (some ⟨gg, 0, none⟩), .int .i64 (i : Int)] w fun e w' => e = .returned (.bool (readyF M st n i)) ∧ Below w.heap.size w w' := by
 have HH := Aside0.mk h
 have hc1 := Aside0.mk (idle_calls (i := i) h.gr.box h.st_ (by rw [h.len]; exact hi))
 have eg : ∀ args w, (callFunc 43 args).run Tryz.prog w = .ok (.enter 43 args) w := fun _ _ => by kernel_rfl
 have hc2 : Aside0 (∀ W, Below w.heap.size w W → Calls Tryz.prog 42 #[.pointer (some ⟨gg, 0, none⟩), .int .i64 (i : Int), .func (.func 43) #[.pointer (some ⟨gg, 0, none⟩)] #[]] W fun e w' => e = .returned (.bool (allF (M i) (doneF st) n)) ∧ Below W.heap.size W w') :=
  ⟨fun W hb => all_calls _ lo gg v _ rb M n i _ _ (doneF st) W eg (done_tells (h.on hb)) (h.on hb).gr hi hn⟩
 have HF : Aside0 (readyF M st n i = ((stOf st i == 0) && allF (M i) (doneF st) n)) := ⟨rfl⟩
 clear h
 generalize readyF M st n i = rr at *
 generalize allF (M i) (doneF st) n = b2 at *
 generalize (stOf st i == 0) = b1 at *
 go_enter Tryz.func29, Tryz.ntmps29
 cases b1
 · go_wp2_with (first | (go_at_call 41; refine hc1.out.mono ?_; rintro e w1 ⟨rfl, hb1⟩))
   go_ret
   rw [HF.out]
   exact ⟨rfl, hb1⟩
 · go_wp2_with (first | (go_at_call 41; refine hc1.out.mono ?_; rintro e w1 ⟨rfl, hb1⟩) | (go_at_call 42; refine (hc2.out _ hb1).mono ?_; rintro e w2 ⟨rfl, hb2⟩))
   go_ret
   rw [HF.out]
   exact ⟨rfl, on_ hb1 hb2⟩

set_option maxHeartbeats 4000000 in
set_option maxRecDepth 100000 in
theorem undo_calls {i : Nat} (h : GrS w lo gg v A c st rb n M) (hi : i < n) (hn : n ≤ 1000000) :
 Calls Tryz.prog 30 #[.pointer (some ⟨gg, 0, none⟩), .int .i64 (i : Int)] w fun e w' => e = .returned (.bool (undoF M st n i)) ∧ Below w.heap.size w w' := by
 obtain ⟨ga, cap, rfl, _⟩ := h.gr.ahead (by omega)
 have HH := Aside0.mk h
 have hc1 : Aside0 (∀ W k, k < n → Below w.heap.size w W → Calls Tryz.prog 44 #[.pointer (some ⟨gg, 0, none⟩), .int .i64 (k : Int)] W fun e w' => e = .returned (.bool (standsF st k)) ∧ Below W.heap.size W w') :=
  ⟨fun W k hk hb => stands_calls (i := k) (h.on hb).gr.box (h.on hb).st_ (by rw [h.len]; exact hk)⟩
 have hc0 := Aside0.mk (hc1.out w i hi (Below.refl _ _))
 have HF : Aside0 (undoF M st n i = (standsF st i && allF (fun k => M k i) (fun k => !standsF st k) n)) := ⟨rfl⟩
 clear h
 generalize undoF M st n i = rr at *
 go_enter Tryz.func30, Tryz.ntmps30
 cases h1 : standsF st i
 · rw [h1] at hc0 HF
   go_wp2_with (first | (go_at_call 44; refine hc0.out.mono ?_; rintro e w1 ⟨rfl, hb1⟩))
   go_ret
   rw [HF.out]
   exact ⟨rfl, hb1⟩
 · rw [h1, Bool.true_and] at HF
   rw [h1] at hc0
   go_wp2_with (first | (go_at_call 44; refine hc0.out.mono ?_; rintro e w1 ⟨rfl, hb1⟩; have HB1 := Aside0.mk hb1; have hq := row_cell (j := 0) (HH.out.on hb1).gr.box rfl; clear hb1))
   go_loopw [15] (fun v15 wr => ∃ k : Nat, k ≤ n ∧ v15 = .int .i64 (k : Int) ∧ (∀ j, j < k → M j i = true → (!standsF st j) = true) ∧ Below w.heap.size w wr) (fun v15 _ => n - (intOf v15).toNat)
   case atStart => exact ⟨0, Nat.zero_le _, rfl, fun j hj => absurd hj (Nat.not_lt_zero _), HB1.out⟩
   case round =>
    obtain ⟨k, hk, rfl, hal, hB⟩ := hrel
    have HG := Aside0.mk (And.intro hal hB)
    clear hal hB hq
    by_cases hlt : k < n
    · have hd2 : decide ((k : Int) < (n : Int)) = true := decide_eq_true (by omega)
      have hcall := Aside0.mk (hc1.out _ k hlt HG.out.2)
      have hh := (HH.out.on HG.out.2).gr
      have hq := row_cell (j := 0) hh.box rfl
      have hsl := hh.slot hlt
      have hcm := hh.at_ hlt hi
      clear hh
      cases hm : M k i
      · rw [hm] at hcm
        go_wp2
        go_roundw
        case rel => exact ⟨k + 1, hlt, by go_num, step_le HG.out.1 (fun h1 => by rw [hm] at h1; cases h1), HG.out.2⟩
        case measure => simp [intOf]; omega
      · rw [hm] at hcm
        cases hpk : standsF st k
        · rw [hpk] at hcall
          go_wp2_with (first | (go_at_call 44; refine hcall.out.mono ?_; rintro e w1 ⟨rfl, hb1⟩))
          go_roundw
          case rel => exact ⟨k + 1, hlt, by go_num, step_le HG.out.1 (fun _ => by rw [hpk]; rfl), on_ HG.out.2 hb1⟩
          case measure => simp [intOf]; omega
        · rw [hpk] at hcall
          have HX : Aside0 (rr = false) := ⟨by rw [HF.out]; exact allF_false (M := fun k => M k i) hlt hm (by rw [hpk]; rfl)⟩
          go_wp2_with (first | (go_at_call 44; refine hcall.out.mono ?_; rintro e w1 ⟨rfl, hb1⟩))
          go_ret
          rw [HX.out]
          exact ⟨rfl, on_ HG.out.2 hb1⟩
    · have hk' : k = n := by omega
      subst hk'
      have hd2 : decide ((k : Int) < (k : Int)) = false := decide_eq_false (by omega)
      have HX : Aside0 (rr = true) := ⟨by rw [HF.out]; exact allF_true (M := fun k => M k i) HG.out.1⟩
      go_wp2
      go_ret
      rw [HX.out]
      exact ⟨rfl, HG.out.2⟩
end

/-- Is a state none? -/
def oddS (s : Int) : Bool := decide (s < 0) || decide (5 < s)
set_option maxHeartbeats 4000000 in
set_option maxRecDepth 100000 in
theorem odd_calls (s : Int) (w : World) : Calls Tryz.prog 38 #[.int .i64 s] w fun e w' => e = .returned (.bool (oddS s)) ∧ Below w.heap.size w w' := by
 have HF : Aside0 (oddS s = (decide (s < 0) || decide (5 < s))) := ⟨rfl⟩
 generalize oddS s = rr at *
 go_enter Tryz.func38, Tryz.ntmps38
 by_cases h1 : s < 0
 · have hd1 : decide (s < 0) = true := decide_eq_true h1
   rw [hd1] at HF
   clear h1
   go_wp2
   go_ret
   rw [HF.out]
   exact ⟨rfl, Below.refl _ _⟩
 · have hd1 : decide (s < 0) = false := decide_eq_false h1
   rw [hd1, Bool.false_or] at HF
   clear h1
   by_cases h2 : 5 < s
   · have hd2 : decide (5 < s) = true := decide_eq_true h2
     rw [hd2] at HF
     clear h2
     go_wp2
     go_ret
     rw [HF.out]
     exact ⟨rfl, Below.refl _ _⟩
   · have hd2 : decide (5 < s) = false := decide_eq_false h2
     rw [hd2] at HF
     clear h2
     go_wp2
     go_ret
     rw [HF.out]
     exact ⟨rfl, Below.refl _ _⟩
theorem odd_tells (w : World) (st : List Int) : TellsI w 38 #[] oddS st := fun W k _ _ => odd_calls k W
def stsOk (st : List Int) (n : Nat) : Bool := decide (st.length = n) && !st.any oddS

set_option maxHeartbeats 4000000 in
set_option maxRecDepth 100000 in
theorem with_nil (A : Option Addr) (n c : Nat) (w : World) : Calls Tryz.prog 27 #[.pointer none, .slice A n c] w fun e w' => e = .returned (.pointer none) ∧ Below w.heap.size w w' := by
 go_enter Tryz.func27, Tryz.ntmps27
 go_wp2
 go_ret
 exact ⟨rfl, Below.refl _ _⟩

/-- What with gives. -/
def WithAt (w w' : World) (e : Ending) (lo gg : Nat) (v : Value) (A : Option Addr) (c : Nat) (st : List Int) (rb : Nat → Nat) (n : Nat) (M : Nat → Nat → Bool) (ok : Bool) : Prop :=
 if ok = true then e = .returned (.pointer (some ⟨gg, 0, none⟩)) ∧ GrS w' lo gg v A c st rb n M else e = .returned (.pointer none)
set_option maxHeartbeats 4000000 in
set_option maxRecDepth 100000 in
theorem with_calls (lo gg : Nat) (v vs : Value) (A : Option Addr) (c : Nat) (st : List Int) (rb : Nat → Nat) (n : Nat) (M : Nat → Nat → Bool) (w : World) (hg : Gr w lo gg v vs rb n n M) (hs : ∀ W, Chg (· = gg) w W → Kd.C (Kd.int .i64) W A st.length st) (hl : st.length ≤ 9000000000000000000) (hn : 0 < n) :
 Calls Tryz.prog 27 #[.pointer (some ⟨gg, 0, none⟩), .slice A st.length c] w fun e w' => WithAt w w' e lo gg v A c st rb n M (stsOk st n) ∧ Chg (· = gg) w w' := by
 obtain ⟨ga, cap, rfl, _⟩ := hg.ahead hn
 have HG := Aside0.mk (And.intro hg hs)
 have eg : ∀ args w, (callFunc 38 args).run Tryz.prog w = .ok (.enter 38 args) w := fun _ _ => by kernel_rfl
 have hc := Aside0.mk (containsI_calls 38 #[] oddS st A c w eg (odd_tells w st) (hs w (Chg.refl _ _)) hl)
 have hq := row_cell (j := 0) hg.box rfl
 have HF : Aside0 (stsOk st n = (decide (st.length = n) && !st.any oddS)) := ⟨rfl⟩
 clear hg hs eg
 generalize stsOk st n = rr at *
 generalize st.any oddS = b2 at *
 go_enter Tryz.func27, Tryz.ntmps27
 by_cases h1 : st.length = n
 · have hd1 : ((st.length : Int) != (n : Int)) = false := bne_eq_false_iff_eq.2 (by omega)
   rw [decide_eq_true h1, Bool.true_and] at HF
   replace h1 := Aside0.mk h1
   cases b2
   · go_wp2_with (first | (go_at_call 39; refine hc.out.mono ?_; rintro e w1 ⟨rfl, hb1⟩; have HB1 := Aside0.mk hb1; have hq1 := row_cell (j := 1) (HG.out.1.on hb1).box rfl; have hf1 := free_of_row (j := 1) (HG.out.1.on hb1).box; clear hb1))
     go_ret
     have hch : Chg (· = gg) w (w1.setCell ⟨gg, 1, none⟩ (.slice A st.length c)) := (Chg.of_below HB1.out).trans (Chg.setCell w1 ⟨gg, 1, none⟩ _)
     refine ⟨?_, hch⟩
     rw [HF.out]
     exact ⟨rfl, (HG.out.1.on HB1.out).store _, HG.out.2 _ hch, h1.out⟩
   · go_wp2_with (first | (go_at_call 39; refine hc.out.mono ?_; rintro e w1 ⟨rfl, hb1⟩))
     go_ret
     rw [HF.out]
     exact ⟨rfl, Chg.of_below hb1⟩
 · have hd1 : ((st.length : Int) != (n : Int)) = true := bne_iff_ne.2 (by omega)
   rw [decide_eq_false h1, Bool.false_and] at HF
   clear h1
   go_wp2
   go_ret
   rw [HF.out]
   exact ⟨rfl, Chg.refl _ _⟩
end Go.Proofs.YthlgcibckakhbaaGreatDoor.Pl

/- plan.Ahead, plan.Behind: the walks, by hand. -/
namespace Go.Proofs.YthlgcibckakhbaaGreatDoor.Pl
open Go.RowKit Go.IntWalk Go.Proofs.YthlgcibckakhbaaGreatDoorW.PrintWords Go.Proofs.YthlgcibckakhbaaGreatDoorW.PrintLast Go.Proofs.YthlgcibckakhbaaGreatDoorW.PrintMore Go.Proofs.YthlgcibckakhbaaGreatDoor.PlName

/-- A graph that two boxes lead to. -/
structure GrB (w : World) (lo bg bi gg : Nat) (ga cap : Nat) (vs : Value) (rb : Nat → Nat) (n : Nat) (M : Nat → Nat → Bool) (i : Int) : Prop where
 gr : Gr w lo gg (.slice (some ⟨ga, 0, none⟩) n cap) vs rb n n M
 bg_ : w.heap[bg]? = some (.cells #[.pointer (some ⟨gg, 0, none⟩)] 38 (0, 0))
 bi_ : w.heap[bi]? = some (.cells #[.int .i64 i] 3 (0, 0))
section
variable {w w' : World} {lo bg bi gg ga cap : Nat} {vs : Value} {rb : Nat → Nat} {n : Nat} {M : Nat → Nat → Bool} {i : Int}
theorem GrB.on (h : GrB w lo bg bi gg ga cap vs rb n M i) (hb : Below w.heap.size w w') : GrB w' lo bg bi gg ga cap vs rb n M i :=
 ⟨h.gr.on hb, row_on hb h.bg_, row_on hb h.bi_⟩
theorem GrB.keep {i : Nat} (h : GrB w lo bg bi gg ga cap vs rb n M (i : Int)) : w.cell? ⟨bg, 0, none⟩ = some (.pointer (some ⟨gg, 0, none⟩)) ∧ w.cell? ⟨bi, 0, none⟩ = some (.int .i64 (i : Int)) ∧ w.cell? ⟨gg, 0, none⟩ = some (.slice (some ⟨ga, 0, none⟩) n cap) :=
 ⟨row_cell h.bg_ rfl, row_cell h.bi_ rfl, row_cell h.gr.box rfl⟩

set_option maxHeartbeats 4000000 in
set_option maxRecDepth 100000 in
theorem ahead1_calls {i k : Nat} (h : GrB w lo bg bi gg ga cap vs rb n M (i : Int)) (hi : i < n) (hk : k < n) (hn : n ≤ 1000000) :
 Calls Tryz.prog 20 #[.int .i64 (k : Int), .pointer (some ⟨bg, 0, none⟩), .pointer (some ⟨bi, 0, none⟩)] w fun e w' => e = .returned (.bool (M i k)) ∧ Below w.heap.size w w' := by
 obtain ⟨h1, h2, h3⟩ := h.keep
 have h4 := h.gr.slot hi
 have h5 := h.gr.at_ hi hk
 clear h
 generalize M i k = mm at *
 generalize rb i = ri at *
 go_enter Tryz.func20, Tryz.ntmps20
 go_wp2
 refine start_ (n := 11) (S := fun w' => w'.cell? ⟨bg, 0, none⟩ = some (.pointer (some ⟨gg, 0, none⟩)) ∧ w'.cell? ⟨bi, 0, none⟩ = some (.int .i64 (i : Int)) ∧ w'.cell? ⟨gg, 0, none⟩ = some (.slice (some ⟨ga, 0, none⟩) n cap) ∧ w'.cell? ⟨ga, i, none⟩ = some (.slice (some ⟨ri, 0, none⟩) n n) ∧ w'.cell? ⟨ri, k, none⟩ = some (.bool mm)) (ds := []) #[false,false,false,false,false,false,false,false,false,false,false] (by kernel_rfl) rfl rfl ⟨(by go_keep), (by go_keep), (by go_keep), (by go_keep), (by go_keep)⟩ (fun hHeld => ?_)
 refine pure_ (i := 7) (N := some 12) (v := ?_) (a' := ?_) #[false,false,false,false,false,false,false,true,false,false,false] rfl rfl (by kernel_rfl) (fun _ _ _ h => h) (Or.inl ⟨by rfl, ?_⟩) ?_ ?_
 rotate_left
 · intro w'
   go_simp
   with_reducible rfl
 rotate_left
 · simp only [Act.put, zA, zB, zC, i64_w, i32_w]
   rfl
 refine take_ (i := 0) (N := some 5) (v := ?_) (a' := ?_) #[true,false,false,false,false,false,false,true,false,false,false] rfl rfl (by kernel_rfl) (fun _ _ _ h => h) (Or.inl ⟨by rfl, ?_⟩) hHeld ?_ ?_
 rotate_left
 · rintro w' ⟨s0, s1, s2, s3, s4⟩
   go_simp
   with_reducible rfl
 rotate_left
 · simp only [Act.put, zA, zB, zC, i64_w, i32_w]
   rfl
 refine pure_ (i := 1) (N := some 6) (v := ?_) (a' := ?_) #[true,true,false,false,false,false,false,true,false,false,false] rfl rfl (by kernel_rfl) (fun _ _ _ h => h) (Or.inl ⟨by rfl, ?_⟩) ?_ ?_
 rotate_left
 · intro w'
   go_simp
   with_reducible rfl
 rotate_left
 · simp only [Act.put, zA, zB, zC, i64_w, i32_w]
   rfl
 refine pure_ (i := 2) (N := some 7) (v := ?_) (a' := ?_) #[true,true,true,false,false,false,false,true,false,false,false] rfl rfl (by kernel_rfl) (fun _ _ _ h => h) (Or.inl ⟨by rfl, ?_⟩) ?_ ?_
 rotate_left
 · intro w'
   go_simp
   with_reducible rfl
 rotate_left
 · simp only [Act.put, zA, zB, zC, i64_w, i32_w]
   rfl
 refine take_ (i := 3) (N := some 8) (v := ?_) (a' := ?_) #[true,true,true,true,false,false,false,true,false,false,false] rfl rfl (by kernel_rfl) (fun _ _ _ h => h) (Or.inl ⟨by rfl, ?_⟩) hHeld ?_ ?_
 rotate_left
 · rintro w' ⟨s0, s1, s2, s3, s4⟩
   go_simp
   with_reducible rfl
 rotate_left
 · simp only [Act.put, zA, zB, zC, i64_w, i32_w]
   rfl
 refine take_ (i := 4) (N := some 9) (v := ?_) (a' := ?_) #[true,true,true,true,true,false,false,true,false,false,false] rfl rfl (by kernel_rfl) (fun _ _ _ h => h) (Or.inl ⟨by rfl, ?_⟩) hHeld ?_ ?_
 rotate_left
 · rintro w' ⟨s0, s1, s2, s3, s4⟩
   go_simp
   with_reducible rfl
 rotate_left
 · simp only [Act.put, zA, zB, zC, i64_w, i32_w]
   rfl
 refine pure_ (i := 5) (N := some 10) (v := ?_) (a' := ?_) #[true,true,true,true,true,true,false,true,false,false,false] rfl rfl (by kernel_rfl) (fun _ _ _ h => h) (Or.inl ⟨by rfl, ?_⟩) ?_ ?_
 rotate_left
 · intro w'
   go_simp
   with_reducible rfl
 rotate_left
 · simp only [Act.put, zA, zB, zC, i64_w, i32_w]
   rfl
 refine take_ (i := 6) (N := some 11) (v := ?_) (a' := ?_) #[true,true,true,true,true,true,true,true,false,false,false] rfl rfl (by kernel_rfl) (fun _ _ _ h => h) (Or.inl ⟨by rfl, ?_⟩) hHeld ?_ ?_
 rotate_left
 · rintro w' ⟨s0, s1, s2, s3, s4⟩
   go_simp
   with_reducible rfl
 rotate_left
 · simp only [Act.put, zA, zB, zC, i64_w, i32_w]
   rfl
 refine pure_ (i := 8) (N := some 13) (v := ?_) (a' := ?_) #[true,true,true,true,true,true,true,true,true,false,false] rfl rfl (by kernel_rfl) (fun _ _ _ h => h) (Or.inl ⟨by rfl, ?_⟩) ?_ ?_
 rotate_left
 · intro w'
   go_simp
   with_reducible rfl
 rotate_left
 · simp only [Act.put, zA, zB, zC, i64_w, i32_w]
   rfl
 refine take_ (i := 9) (N := some 14) (v := ?_) (a' := ?_) #[true,true,true,true,true,true,true,true,true,true,false] rfl rfl (by kernel_rfl) (fun _ _ _ h => h) (Or.inl ⟨by rfl, ?_⟩) hHeld ?_ ?_
 rotate_left
 · rintro w' ⟨s0, s1, s2, s3, s4⟩
   go_simp
   with_reducible rfl
 rotate_left
 · simp only [Act.put, zA, zB, zC, i64_w, i32_w]
   rfl
 refine pure_ (i := 10) (N := some 4) (v := ?_) (a' := ?_) #[true,true,true,true,true,true,true,true,true,true,true] rfl rfl (by kernel_rfl) (fun _ _ _ h => h) (Or.inl ⟨by rfl, ?_⟩) ?_ ?_
 rotate_left
 · intro w'
   go_simp
   with_reducible rfl
 rotate_left
 · simp only [Act.put, zA, zB, zC, i64_w, i32_w]
   rfl
 refine done_ (by kernel_rfl) ?_
 go_wp2
 go_ret
 exact ⟨rfl, below_drew (Below.refl _ _)⟩

set_option maxHeartbeats 4000000 in
set_option maxRecDepth 100000 in
theorem behind1_calls {i k : Nat} (h : GrB w lo bg bi gg ga cap vs rb n M (i : Int)) (hi : i < n) (hk : k < n) (hn : n ≤ 1000000) :
 Calls Tryz.prog 21 #[.int .i64 (k : Int), .pointer (some ⟨bg, 0, none⟩), .pointer (some ⟨bi, 0, none⟩)] w fun e w' => e = .returned (.bool (M k i)) ∧ Below w.heap.size w w' := by
 obtain ⟨h1, h2, h3⟩ := h.keep
 have h4 := h.gr.slot hk
 have h5 := h.gr.at_ hk hi
 clear h
 generalize M k i = mm at *
 generalize rb k = ri at *
 go_enter Tryz.func21, Tryz.ntmps21
 go_wp2
 refine start_ (n := 11) (S := fun w' => w'.cell? ⟨bg, 0, none⟩ = some (.pointer (some ⟨gg, 0, none⟩)) ∧ w'.cell? ⟨bi, 0, none⟩ = some (.int .i64 (i : Int)) ∧ w'.cell? ⟨gg, 0, none⟩ = some (.slice (some ⟨ga, 0, none⟩) n cap) ∧ w'.cell? ⟨ga, k, none⟩ = some (.slice (some ⟨ri, 0, none⟩) n n) ∧ w'.cell? ⟨ri, i, none⟩ = some (.bool mm)) (ds := []) #[false,false,false,false,false,false,false,false,false,false,false] (by kernel_rfl) rfl rfl ⟨(by go_keep), (by go_keep), (by go_keep), (by go_keep), (by go_keep)⟩ (fun hHeld => ?_)
 refine pure_ (i := 4) (N := some 9) (v := ?_) (a' := ?_) #[false,false,false,false,true,false,false,false,false,false,false] rfl rfl (by kernel_rfl) (fun _ _ _ h => h) (Or.inl ⟨by rfl, ?_⟩) ?_ ?_
 rotate_left
 · intro w'
   go_simp
   with_reducible rfl
 rotate_left
 · simp only [Act.put, zA, zB, zC, i64_w, i32_w]
   rfl
 refine take_ (i := 0) (N := some 5) (v := ?_) (a' := ?_) #[true,false,false,false,true,false,false,false,false,false,false] rfl rfl (by kernel_rfl) (fun _ _ _ h => h) (Or.inl ⟨by rfl, ?_⟩) hHeld ?_ ?_
 rotate_left
 · rintro w' ⟨s0, s1, s2, s3, s4⟩
   go_simp
   with_reducible rfl
 rotate_left
 · simp only [Act.put, zA, zB, zC, i64_w, i32_w]
   rfl
 refine pure_ (i := 1) (N := some 6) (v := ?_) (a' := ?_) #[true,true,false,false,true,false,false,false,false,false,false] rfl rfl (by kernel_rfl) (fun _ _ _ h => h) (Or.inl ⟨by rfl, ?_⟩) ?_ ?_
 rotate_left
 · intro w'
   go_simp
   with_reducible rfl
 rotate_left
 · simp only [Act.put, zA, zB, zC, i64_w, i32_w]
   rfl
 refine pure_ (i := 2) (N := some 7) (v := ?_) (a' := ?_) #[true,true,true,false,true,false,false,false,false,false,false] rfl rfl (by kernel_rfl) (fun _ _ _ h => h) (Or.inl ⟨by rfl, ?_⟩) ?_ ?_
 rotate_left
 · intro w'
   go_simp
   with_reducible rfl
 rotate_left
 · simp only [Act.put, zA, zB, zC, i64_w, i32_w]
   rfl
 refine take_ (i := 3) (N := some 8) (v := ?_) (a' := ?_) #[true,true,true,true,true,false,false,false,false,false,false] rfl rfl (by kernel_rfl) (fun _ _ _ h => h) (Or.inl ⟨by rfl, ?_⟩) hHeld ?_ ?_
 rotate_left
 · rintro w' ⟨s0, s1, s2, s3, s4⟩
   go_simp
   with_reducible rfl
 rotate_left
 · simp only [Act.put, zA, zB, zC, i64_w, i32_w]
   rfl
 refine pure_ (i := 5) (N := some 10) (v := ?_) (a' := ?_) #[true,true,true,true,true,true,false,false,false,false,false] rfl rfl (by kernel_rfl) (fun _ _ _ h => h) (Or.inl ⟨by rfl, ?_⟩) ?_ ?_
 rotate_left
 · intro w'
   go_simp
   with_reducible rfl
 rotate_left
 · simp only [Act.put, zA, zB, zC, i64_w, i32_w]
   rfl
 refine take_ (i := 6) (N := some 11) (v := ?_) (a' := ?_) #[true,true,true,true,true,true,true,false,false,false,false] rfl rfl (by kernel_rfl) (fun _ _ _ h => h) (Or.inl ⟨by rfl, ?_⟩) hHeld ?_ ?_
 rotate_left
 · rintro w' ⟨s0, s1, s2, s3, s4⟩
   go_simp
   with_reducible rfl
 rotate_left
 · simp only [Act.put, zA, zB, zC, i64_w, i32_w]
   rfl
 refine take_ (i := 7) (N := some 12) (v := ?_) (a' := ?_) #[true,true,true,true,true,true,true,true,false,false,false] rfl rfl (by kernel_rfl) (fun _ _ _ h => h) (Or.inl ⟨by rfl, ?_⟩) hHeld ?_ ?_
 rotate_left
 · rintro w' ⟨s0, s1, s2, s3, s4⟩
   go_simp
   with_reducible rfl
 rotate_left
 · simp only [Act.put, zA, zB, zC, i64_w, i32_w]
   rfl
 refine pure_ (i := 8) (N := some 13) (v := ?_) (a' := ?_) #[true,true,true,true,true,true,true,true,true,false,false] rfl rfl (by kernel_rfl) (fun _ _ _ h => h) (Or.inl ⟨by rfl, ?_⟩) ?_ ?_
 rotate_left
 · intro w'
   go_simp
   with_reducible rfl
 rotate_left
 · simp only [Act.put, zA, zB, zC, i64_w, i32_w]
   rfl
 refine take_ (i := 9) (N := some 14) (v := ?_) (a' := ?_) #[true,true,true,true,true,true,true,true,true,true,false] rfl rfl (by kernel_rfl) (fun _ _ _ h => h) (Or.inl ⟨by rfl, ?_⟩) hHeld ?_ ?_
 rotate_left
 · rintro w' ⟨s0, s1, s2, s3, s4⟩
   go_simp
   with_reducible rfl
 rotate_left
 · simp only [Act.put, zA, zB, zC, i64_w, i32_w]
   rfl
 refine pure_ (i := 10) (N := some 4) (v := ?_) (a' := ?_) #[true,true,true,true,true,true,true,true,true,true,true] rfl rfl (by kernel_rfl) (fun _ _ _ h => h) (Or.inl ⟨by rfl, ?_⟩) ?_ ?_
 rotate_left
 · intro w'
   go_simp
   with_reducible rfl
 rotate_left
 · simp only [Act.put, zA, zB, zC, i64_w, i32_w]
   rfl
 refine done_ (by kernel_rfl) ?_
 go_wp2
 go_ret
 exact ⟨rfl, below_drew (Below.refl _ _)⟩

end
theorem Own.low {w0 w1 w : World} {v : Value} {l : List Nat} (h : Own w1 w v l) (hle : w0.heap.size ≤ w1.heap.size) : Own w0 w v l := by
 refine ⟨h.1, ?_⟩
 rcases h.2 with hn | ⟨g, cap, cur, rfl, h1, rest⟩
 · exact .inl hn
 · exact .inr ⟨g, cap, cur, rfl, Nat.le_trans hle h1, rest⟩
theorem own_nil (w0 w : World) : Own w0 w (.slice none 0 0) [] := World.ownsRow_nil _ _ _ _
/-- What is ahead of one, what behind. -/
noncomputable def aheadL (nm : ByteArray) (l : List Step) (i : Int) : List Nat := if (defOk nm l && decide (0 ≤ i ∧ i < l.length)) = true then sel (fun k => wars (direct l) l.length i.toNat k) l.length else []
noncomputable def behindL (nm : ByteArray) (l : List Step) (i : Int) : List Nat := if (defOk nm l && decide (0 ≤ i ∧ i < l.length)) = true then sel (fun k => wars (direct l) l.length k i.toNat) l.length else []

set_option maxHeartbeats 8000000 in
set_option maxRecDepth 100000 in
theorem ahead_calls (nm : ByteArray) (l : List Step) (A : Option Addr) (c : Nat) (i : Int) (w : World) (hnm : nm.size ≤ 140737488351232) (hS : StepsAt w A l) (hb : ∀ s ∈ l, StepB s) (hn : l.length ≤ 9000000000000) (hc : l.length ≤ c) (hT : TabsAt w) :
 Calls Tryz.prog 6 #[.agg #[.string nm, .slice A l.length c], .int .i64 i] w fun e w' => (∃ v, e = .returned v ∧ Own w w' v (aheadL nm l i)) ∧ Below w.heap.size w w' := by
 have hs1 : (w.alloc (.cells #[.string nm, .slice A l.length c] 24)).heap.size = w.heap.size + 1 := by
  show (w.heap.push _).size = _
  simp
 have hb2 := on_ (below_one w (.cells #[.string nm, .slice A l.length c] 24)) (below_one (w.alloc (.cells #[.string nm, .slice A l.length c] 24)) (.cells #[.int .i64 i] 3))
 have hri := alloc1 (w.alloc (.cells #[.string nm, .slice A l.length c] 24)) (.cells #[.int .i64 i] 3)
 rw [hs1] at hri
 have hm := made_calls nm l A c _ hnm (hS.below hb2) hb hn hc (tabs_on hT hb2)
 have HW := Aside0.mk (And.intro hb2 hri)
 have HR : Aside0 (aheadL nm l i = if (defOk nm l && decide (0 ≤ i ∧ i < l.length)) = true then sel (fun k => wars (direct l) l.length i.toNat k) l.length else []) := ⟨rfl⟩
 have HD := Aside0.mk (fun h => defOk_len (nm := nm) (l := l) h)
 generalize aheadL nm l i = rr at *
 clear hb2 hri hs1 hS hb hT
 cases hok : defOk nm l
 · rw [hok] at hm HR
   replace hm := Aside0.mk hm
   go_enter Tryz.func6, Tryz.ntmps6
   go_wp2_with (first | (go_at_call 18; refine hm.out.mono ?_; rintro e w3 ⟨he, hb3⟩; cases he; have H3 := Aside0.mk (on_ (on_ HW.out.1 hb3) (below_one w3 (.cells #[.pointer none] 38))); have h1 := row_cell (j := 0) (alloc1 w3 (.cells #[.pointer none] 38)) rfl; have h2 := row_cell (j := 0) (row_on (on_ hb3 (below_one w3 (.cells #[.pointer none] 38))) HW.out.2) rfl; clear hb3))
   generalize hW : World.alloc w3 _ = w4 at *
   generalize w3.heap.size = bg at *
   refine start_ (n := 15) (S := fun w' => w'.cell? ⟨bg, 0, none⟩ = some (.pointer none)) (ds := []) #[false,false,false,false,false,false,false,false,false,false,false,false,false,false,false] (by kernel_rfl) rfl rfl ((by go_keep)) (fun hHeld => ?_)
   refine take_ (i := 0) (N := some 8) (v := ?_) (a' := ?_) #[true,false,false,false,false,false,false,false,false,false,false,false,false,false,false] rfl rfl (by kernel_rfl) (fun _ _ _ h => h) (Or.inl ⟨by rfl, ?_⟩) hHeld ?_ ?_
   rotate_left
   · intro w' s0
     go_simp
     with_reducible rfl
   rotate_left
   · simp only [Act.put, zA, zB, zC, i64_w, i32_w]
     rfl
   refine pure_ (i := 1) (N := some 9) (v := ?_) (a' := ?_) #[true,true,false,false,false,false,false,false,false,false,false,false,false,false,false] rfl rfl (by kernel_rfl) (fun _ _ _ h => h) (Or.inl ⟨by rfl, ?_⟩) ?_ ?_
   rotate_left
   · intro w'
     go_simp
     with_reducible rfl
   rotate_left
   · simp only [Act.put, zA, zB, zC, i64_w, i32_w]
     rfl
   refine pure_ (i := 2) (N := some 10) (v := ?_) (a' := ?_) #[true,true,true,false,false,false,false,false,false,false,false,false,false,false,false] rfl rfl (by kernel_rfl) (fun _ _ _ h => h) (Or.inl ⟨by rfl, ?_⟩) ?_ ?_
   rotate_left
   · intro w'
     go_simp
     with_reducible rfl
   rotate_left
   · simp only [Act.put, zA, zB, zC, i64_w, i32_w]
     rfl
   refine pure_ (i := 3) (N := some 11) (v := undef) (a' := ?_) #[true,true,true,true,false,false,false,false,false,false,false,false,false,false,false] rfl rfl (by kernel_rfl) (fun _ _ _ h => h) (Or.inr ⟨by rfl, rfl⟩) ?_ ?_
   rotate_left
   · simp only [Act.put, zA, zB, zC, i64_w, i32_w]
     rfl
   refine pure_ (i := 4) (N := some 12) (v := undef) (a' := ?_) #[true,true,true,true,true,false,false,false,false,false,false,false,false,false,false] rfl rfl (by kernel_rfl) (fun _ _ _ h => h) (Or.inr ⟨by rfl, rfl⟩) ?_ ?_
   rotate_left
   · simp only [Act.put, zA, zB, zC, i64_w, i32_w]
     rfl
   refine pure_ (i := 5) (N := some 13) (v := ?_) (a' := ?_) #[true,true,true,true,true,true,false,false,false,false,false,false,false,false,false] rfl rfl (by kernel_rfl) (fun _ _ _ h => h) (Or.inl ⟨by rfl, ?_⟩) ?_ ?_
   rotate_left
   · intro w'
     go_simp
     with_reducible rfl
   rotate_left
   · simp only [Act.put, zA, zB, zC, i64_w, i32_w]
     rfl
   refine pure_ (i := 6) (N := some 14) (v := ?_) (a' := ?_) #[true,true,true,true,true,true,true,false,false,false,false,false,false,false,false] rfl rfl (by kernel_rfl) (fun _ _ _ h => h) (Or.inl ⟨by rfl, ?_⟩) ?_ ?_
   rotate_left
   · intro w'
     go_simp
     with_reducible rfl
   rotate_left
   · simp only [Act.put, zA, zB, zC, i64_w, i32_w]
     rfl
   refine pure_ (i := 7) (N := some 15) (v := undef) (a' := ?_) #[true,true,true,true,true,true,true,true,false,false,false,false,false,false,false] rfl rfl (by kernel_rfl) (fun _ _ _ h => h) (Or.inr ⟨by rfl, rfl⟩) ?_ ?_
   rotate_left
   · simp only [Act.put, zA, zB, zC, i64_w, i32_w]
     rfl
   refine pure_ (i := 8) (N := some 16) (v := undef) (a' := ?_) #[true,true,true,true,true,true,true,true,true,false,false,false,false,false,false] rfl rfl (by kernel_rfl) (fun _ _ _ h => h) (Or.inr ⟨by rfl, rfl⟩) ?_ ?_
   rotate_left
   · simp only [Act.put, zA, zB, zC, i64_w, i32_w]
     rfl
   refine pure_ (i := 9) (N := some 17) (v := undef) (a' := ?_) #[true,true,true,true,true,true,true,true,true,true,false,false,false,false,false] rfl rfl (by kernel_rfl) (fun _ _ _ h => h) (Or.inr ⟨by rfl, rfl⟩) ?_ ?_
   rotate_left
   · simp only [Act.put, zA, zB, zC, i64_w, i32_w]
     rfl
   refine pure_ (i := 10) (N := some 18) (v := undef) (a' := ?_) #[true,true,true,true,true,true,true,true,true,true,true,false,false,false,false] rfl rfl (by kernel_rfl) (fun _ _ _ h => h) (Or.inr ⟨by rfl, rfl⟩) ?_ ?_
   rotate_left
   · simp only [Act.put, zA, zB, zC, i64_w, i32_w]
     rfl
   refine pure_ (i := 11) (N := some 19) (v := undef) (a' := ?_) #[true,true,true,true,true,true,true,true,true,true,true,true,false,false,false] rfl rfl (by kernel_rfl) (fun _ _ _ h => h) (Or.inr ⟨by rfl, rfl⟩) ?_ ?_
   rotate_left
   · simp only [Act.put, zA, zB, zC, i64_w, i32_w]
     rfl
   refine pure_ (i := 12) (N := some 20) (v := undef) (a' := ?_) #[true,true,true,true,true,true,true,true,true,true,true,true,true,false,false] rfl rfl (by kernel_rfl) (fun _ _ _ h => h) (Or.inr ⟨by rfl, rfl⟩) ?_ ?_
   rotate_left
   · simp only [Act.put, zA, zB, zC, i64_w, i32_w]
     rfl
   refine pure_ (i := 13) (N := some 21) (v := undef) (a' := ?_) #[true,true,true,true,true,true,true,true,true,true,true,true,true,true,false] rfl rfl (by kernel_rfl) (fun _ _ _ h => h) (Or.inr ⟨by rfl, rfl⟩) ?_ ?_
   rotate_left
   · simp only [Act.put, zA, zB, zC, i64_w, i32_w]
     rfl
   refine pure_ (i := 14) (N := some 22) (v := ?_) (a' := ?_) #[true,true,true,true,true,true,true,true,true,true,true,true,true,true,true] rfl rfl (by kernel_rfl) (fun _ _ _ h => h) (Or.inl ⟨by rfl, ?_⟩) ?_ ?_
   rotate_left
   · intro w'
     go_simp
     with_reducible rfl
   rotate_left
   · simp only [Act.put, zA, zB, zC, i64_w, i32_w]
     rfl
   refine done_ (by kernel_rfl) ?_
   go_wp2
   go_ret
   exact ⟨⟨_, rfl, by rw [HR.out]; exact own_nil _ _⟩, below_drew H3.out⟩
 · rw [hok] at hm HR
   obtain ⟨hl1, hl8, _⟩ := HD.out hok
   replace hm := Aside0.mk hm
   clear HD
   go_enter Tryz.func6, Tryz.ntmps6
   go_wp2_with (first | (go_at_call 18; refine hm.out.mono ?_; rintro e w3 ⟨⟨gg, v, rb, rfl, hg⟩, hb3⟩; have H3 := Aside0.mk (And.intro (on_ (on_ HW.out.1 hb3) (below_one w3 (.cells #[.pointer (some ⟨gg, 0, none⟩)] 38))) (And.intro (hg.on (below_one w3 (.cells #[.pointer (some ⟨gg, 0, none⟩)] 38))) (And.intro (alloc1 w3 (.cells #[.pointer (some ⟨gg, 0, none⟩)] 38)) (row_on (on_ hb3 (below_one w3 (.cells #[.pointer (some ⟨gg, 0, none⟩)] 38))) HW.out.2)))); clear hb3 hg))
   generalize hW : World.alloc w3 _ = w4 at *
   generalize w3.heap.size = bg at *
   obtain ⟨ga, cap, rfl, _⟩ := H3.out.2.1.ahead (by omega)
   have HB := Aside0.mk (GrB.mk H3.out.2.1 H3.out.2.2.1 H3.out.2.2.2)
   have h1 := row_cell (j := 0) HB.out.bg_ rfl
   have h2 := row_cell (j := 0) HB.out.bi_ rfl
   have h3 := row_cell (j := 0) HB.out.gr.box rfl
   by_cases hi0 : i < 0
   · have hd1 : decide (i < 0) = true := decide_eq_true hi0
     have HF : Aside0 (rr = []) := ⟨by rw [HR.out, decide_eq_false (by omega)]; rfl⟩
     clear hi0
     refine start_ (n := 15) (S := fun w' => w'.cell? ⟨bg, 0, none⟩ = some (.pointer (some ⟨gg, 0, none⟩)) ∧ w'.cell? ⟨w.heap.size + 1, 0, none⟩ = some (.int .i64 i)) (ds := []) #[false,false,false,false,false,false,false,false,false,false,false,false,false,false,false] (by kernel_rfl) rfl rfl ⟨(by go_keep), (by go_keep)⟩ (fun hHeld => ?_)
     refine take_ (i := 0) (N := some 8) (v := ?_) (a' := ?_) #[true,false,false,false,false,false,false,false,false,false,false,false,false,false,false] rfl rfl (by kernel_rfl) (fun _ _ _ h => h) (Or.inl ⟨by rfl, ?_⟩) hHeld ?_ ?_
     rotate_left
     · rintro w' ⟨s0, s1⟩
       go_simp
       with_reducible rfl
     rotate_left
     · simp only [Act.put, zA, zB, zC, i64_w, i32_w]
       rfl
     refine pure_ (i := 1) (N := some 9) (v := ?_) (a' := ?_) #[true,true,false,false,false,false,false,false,false,false,false,false,false,false,false] rfl rfl (by kernel_rfl) (fun _ _ _ h => h) (Or.inl ⟨by rfl, ?_⟩) ?_ ?_
     rotate_left
     · intro w'
       go_simp
       with_reducible rfl
     rotate_left
     · simp only [Act.put, zA, zB, zC, i64_w, i32_w]
       rfl
     refine pure_ (i := 2) (N := some 10) (v := ?_) (a' := ?_) #[true,true,true,false,false,false,false,false,false,false,false,false,false,false,false] rfl rfl (by kernel_rfl) (fun _ _ _ h => h) (Or.inl ⟨by rfl, ?_⟩) ?_ ?_
     rotate_left
     · intro w'
       go_simp
       with_reducible rfl
     rotate_left
     · simp only [Act.put, zA, zB, zC, i64_w, i32_w]
       rfl
     refine take_ (i := 3) (N := some 11) (v := ?_) (a' := ?_) #[true,true,true,true,false,false,false,false,false,false,false,false,false,false,false] rfl rfl (by kernel_rfl) (fun _ _ _ h => h) (Or.inl ⟨by rfl, ?_⟩) hHeld ?_ ?_
     rotate_left
     · rintro w' ⟨s0, s1⟩
       go_simp
       with_reducible rfl
     rotate_left
     · simp only [Act.put, zA, zB, zC, i64_w, i32_w]
       rfl
     refine pure_ (i := 4) (N := some 12) (v := ?_) (a' := ?_) #[true,true,true,true,true,false,false,false,false,false,false,false,false,false,false] rfl rfl (by kernel_rfl) (fun _ _ _ h => h) (Or.inl ⟨by rfl, ?_⟩) ?_ ?_
     rotate_left
     · intro w'
       go_simp
       with_reducible rfl
     rotate_left
     · simp only [Act.put, zA, zB, zC, i64_w, i32_w]
       rfl
     refine pure_ (i := 5) (N := some 13) (v := ?_) (a' := ?_) #[true,true,true,true,true,true,false,false,false,false,false,false,false,false,false] rfl rfl (by kernel_rfl) (fun _ _ _ h => h) (Or.inl ⟨by rfl, ?_⟩) ?_ ?_
     rotate_left
     · intro w'
       go_simp
       with_reducible rfl
     rotate_left
     · simp only [Act.put, zA, zB, zC, i64_w, i32_w]
       rfl
     refine pure_ (i := 6) (N := some 14) (v := ?_) (a' := ?_) #[true,true,true,true,true,true,true,false,false,false,false,false,false,false,false] rfl rfl (by kernel_rfl) (fun _ _ _ h => h) (Or.inl ⟨by rfl, ?_⟩) ?_ ?_
     rotate_left
     · intro w'
       go_simp
       with_reducible rfl
     rotate_left
     · simp only [Act.put, zA, zB, zC, i64_w, i32_w]
       rfl
     refine pure_ (i := 7) (N := some 15) (v := undef) (a' := ?_) #[true,true,true,true,true,true,true,true,false,false,false,false,false,false,false] rfl rfl (by kernel_rfl) (fun _ _ _ h => h) (Or.inr ⟨by rfl, rfl⟩) ?_ ?_
     rotate_left
     · simp only [Act.put, zA, zB, zC, i64_w, i32_w]
       rfl
     refine pure_ (i := 8) (N := some 16) (v := undef) (a' := ?_) #[true,true,true,true,true,true,true,true,true,false,false,false,false,false,false] rfl rfl (by kernel_rfl) (fun _ _ _ h => h) (Or.inr ⟨by rfl, rfl⟩) ?_ ?_
     rotate_left
     · simp only [Act.put, zA, zB, zC, i64_w, i32_w]
       rfl
     refine pure_ (i := 9) (N := some 17) (v := undef) (a' := ?_) #[true,true,true,true,true,true,true,true,true,true,false,false,false,false,false] rfl rfl (by kernel_rfl) (fun _ _ _ h => h) (Or.inr ⟨by rfl, rfl⟩) ?_ ?_
     rotate_left
     · simp only [Act.put, zA, zB, zC, i64_w, i32_w]
       rfl
     refine pure_ (i := 10) (N := some 18) (v := undef) (a' := ?_) #[true,true,true,true,true,true,true,true,true,true,true,false,false,false,false] rfl rfl (by kernel_rfl) (fun _ _ _ h => h) (Or.inr ⟨by rfl, rfl⟩) ?_ ?_
     rotate_left
     · simp only [Act.put, zA, zB, zC, i64_w, i32_w]
       rfl
     refine pure_ (i := 11) (N := some 19) (v := undef) (a' := ?_) #[true,true,true,true,true,true,true,true,true,true,true,true,false,false,false] rfl rfl (by kernel_rfl) (fun _ _ _ h => h) (Or.inr ⟨by rfl, rfl⟩) ?_ ?_
     rotate_left
     · simp only [Act.put, zA, zB, zC, i64_w, i32_w]
       rfl
     refine pure_ (i := 12) (N := some 20) (v := undef) (a' := ?_) #[true,true,true,true,true,true,true,true,true,true,true,true,true,false,false] rfl rfl (by kernel_rfl) (fun _ _ _ h => h) (Or.inr ⟨by rfl, rfl⟩) ?_ ?_
     rotate_left
     · simp only [Act.put, zA, zB, zC, i64_w, i32_w]
       rfl
     refine pure_ (i := 13) (N := some 21) (v := undef) (a' := ?_) #[true,true,true,true,true,true,true,true,true,true,true,true,true,true,false] rfl rfl (by kernel_rfl) (fun _ _ _ h => h) (Or.inr ⟨by rfl, rfl⟩) ?_ ?_
     rotate_left
     · simp only [Act.put, zA, zB, zC, i64_w, i32_w]
       rfl
     refine pure_ (i := 14) (N := some 22) (v := ?_) (a' := ?_) #[true,true,true,true,true,true,true,true,true,true,true,true,true,true,true] rfl rfl (by kernel_rfl) (fun _ _ _ h => h) (Or.inl ⟨by rfl, ?_⟩) ?_ ?_
     rotate_left
     · intro w'
       go_simp
       with_reducible rfl
     rotate_left
     · simp only [Act.put, zA, zB, zC, i64_w, i32_w]
       rfl
     refine done_ (by kernel_rfl) ?_
     go_wp2
     go_ret
     exact ⟨⟨_, rfl, by rw [HF.out]; exact own_nil _ _⟩, below_drew H3.out.1⟩
   · have hd1 : decide (i < 0) = false := decide_eq_false hi0
     by_cases hin : (l.length : Int) ≤ i
     · have hd2 : decide ((l.length : Int) ≤ i) = true := decide_eq_true hin
       have HF : Aside0 (rr = []) := ⟨by rw [HR.out, decide_eq_false (by omega)]; rfl⟩
       clear hi0 hin
       refine start_ (n := 15) (S := fun w' => w'.cell? ⟨bg, 0, none⟩ = some (.pointer (some ⟨gg, 0, none⟩)) ∧ w'.cell? ⟨w.heap.size + 1, 0, none⟩ = some (.int .i64 i) ∧ w'.cell? ⟨gg, 0, none⟩ = some (.slice (some ⟨ga, 0, none⟩) l.length cap)) (ds := []) #[false,false,false,false,false,false,false,false,false,false,false,false,false,false,false] (by kernel_rfl) rfl rfl ⟨(by go_keep), (by go_keep), (by go_keep)⟩ (fun hHeld => ?_)
       refine take_ (i := 0) (N := some 8) (v := ?_) (a' := ?_) #[true,false,false,false,false,false,false,false,false,false,false,false,false,false,false] rfl rfl (by kernel_rfl) (fun _ _ _ h => h) (Or.inl ⟨by rfl, ?_⟩) hHeld ?_ ?_
       rotate_left
       · rintro w' ⟨s0, s1, s2⟩
         go_simp
         with_reducible rfl
       rotate_left
       · simp only [Act.put, zA, zB, zC, i64_w, i32_w]
         rfl
       refine pure_ (i := 1) (N := some 9) (v := ?_) (a' := ?_) #[true,true,false,false,false,false,false,false,false,false,false,false,false,false,false] rfl rfl (by kernel_rfl) (fun _ _ _ h => h) (Or.inl ⟨by rfl, ?_⟩) ?_ ?_
       rotate_left
       · intro w'
         go_simp
         with_reducible rfl
       rotate_left
       · simp only [Act.put, zA, zB, zC, i64_w, i32_w]
         rfl
       refine pure_ (i := 2) (N := some 10) (v := ?_) (a' := ?_) #[true,true,true,false,false,false,false,false,false,false,false,false,false,false,false] rfl rfl (by kernel_rfl) (fun _ _ _ h => h) (Or.inl ⟨by rfl, ?_⟩) ?_ ?_
       rotate_left
       · intro w'
         go_simp
         with_reducible rfl
       rotate_left
       · simp only [Act.put, zA, zB, zC, i64_w, i32_w]
         rfl
       refine take_ (i := 3) (N := some 11) (v := ?_) (a' := ?_) #[true,true,true,true,false,false,false,false,false,false,false,false,false,false,false] rfl rfl (by kernel_rfl) (fun _ _ _ h => h) (Or.inl ⟨by rfl, ?_⟩) hHeld ?_ ?_
       rotate_left
       · rintro w' ⟨s0, s1, s2⟩
         go_simp
         with_reducible rfl
       rotate_left
       · simp only [Act.put, zA, zB, zC, i64_w, i32_w]
         rfl
       refine pure_ (i := 4) (N := some 12) (v := ?_) (a' := ?_) #[true,true,true,true,true,false,false,false,false,false,false,false,false,false,false] rfl rfl (by kernel_rfl) (fun _ _ _ h => h) (Or.inl ⟨by rfl, ?_⟩) ?_ ?_
       rotate_left
       · intro w'
         go_simp
         with_reducible rfl
       rotate_left
       · simp only [Act.put, zA, zB, zC, i64_w, i32_w]
         rfl
       refine pure_ (i := 5) (N := some 13) (v := ?_) (a' := ?_) #[true,true,true,true,true,true,false,false,false,false,false,false,false,false,false] rfl rfl (by kernel_rfl) (fun _ _ _ h => h) (Or.inl ⟨by rfl, ?_⟩) ?_ ?_
       rotate_left
       · intro w'
         go_simp
         with_reducible rfl
       rotate_left
       · simp only [Act.put, zA, zB, zC, i64_w, i32_w]
         rfl
       refine pure_ (i := 6) (N := some 14) (v := ?_) (a' := ?_) #[true,true,true,true,true,true,true,false,false,false,false,false,false,false,false] rfl rfl (by kernel_rfl) (fun _ _ _ h => h) (Or.inl ⟨by rfl, ?_⟩) ?_ ?_
       rotate_left
       · intro w'
         go_simp
         with_reducible rfl
       rotate_left
       · simp only [Act.put, zA, zB, zC, i64_w, i32_w]
         rfl
       refine take_ (i := 7) (N := some 15) (v := ?_) (a' := ?_) #[true,true,true,true,true,true,true,true,false,false,false,false,false,false,false] rfl rfl (by kernel_rfl) (fun _ _ _ h => h) (Or.inl ⟨by rfl, ?_⟩) hHeld ?_ ?_
       rotate_left
       · rintro w' ⟨s0, s1, s2⟩
         go_simp
         with_reducible rfl
       rotate_left
       · simp only [Act.put, zA, zB, zC, i64_w, i32_w]
         rfl
       refine take_ (i := 8) (N := some 16) (v := ?_) (a' := ?_) #[true,true,true,true,true,true,true,true,true,false,false,false,false,false,false] rfl rfl (by kernel_rfl) (fun _ _ _ h => h) (Or.inl ⟨by rfl, ?_⟩) hHeld ?_ ?_
       rotate_left
       · rintro w' ⟨s0, s1, s2⟩
         go_simp
         with_reducible rfl
       rotate_left
       · simp only [Act.put, zA, zB, zC, i64_w, i32_w]
         rfl
       refine pure_ (i := 9) (N := some 17) (v := ?_) (a' := ?_) #[true,true,true,true,true,true,true,true,true,true,false,false,false,false,false] rfl rfl (by kernel_rfl) (fun _ _ _ h => h) (Or.inl ⟨by rfl, ?_⟩) ?_ ?_
       rotate_left
       · intro w'
         go_simp
         with_reducible rfl
       rotate_left
       · simp only [Act.put, zA, zB, zC, i64_w, i32_w]
         rfl
       refine pure_ (i := 10) (N := some 18) (v := ?_) (a' := ?_) #[true,true,true,true,true,true,true,true,true,true,true,false,false,false,false] rfl rfl (by kernel_rfl) (fun _ _ _ h => h) (Or.inl ⟨by rfl, ?_⟩) ?_ ?_
       rotate_left
       · intro w'
         go_simp
         with_reducible rfl
       rotate_left
       · simp only [Act.put, zA, zB, zC, i64_w, i32_w]
         rfl
       refine take_ (i := 11) (N := some 19) (v := ?_) (a' := ?_) #[true,true,true,true,true,true,true,true,true,true,true,true,false,false,false] rfl rfl (by kernel_rfl) (fun _ _ _ h => h) (Or.inl ⟨by rfl, ?_⟩) hHeld ?_ ?_
       rotate_left
       · rintro w' ⟨s0, s1, s2⟩
         go_simp
         with_reducible rfl
       rotate_left
       · simp only [Act.put, zA, zB, zC, i64_w, i32_w]
         rfl
       refine pure_ (i := 12) (N := some 20) (v := ?_) (a' := ?_) #[true,true,true,true,true,true,true,true,true,true,true,true,true,false,false] rfl rfl (by kernel_rfl) (fun _ _ _ h => h) (Or.inl ⟨by rfl, ?_⟩) ?_ ?_
       rotate_left
       · intro w'
         go_simp
         with_reducible rfl
       rotate_left
       · simp only [Act.put, zA, zB, zC, i64_w, i32_w]
         rfl
       refine pure_ (i := 13) (N := some 21) (v := ?_) (a' := ?_) #[true,true,true,true,true,true,true,true,true,true,true,true,true,true,false] rfl rfl (by kernel_rfl) (fun _ _ _ h => h) (Or.inl ⟨by rfl, ?_⟩) ?_ ?_
       rotate_left
       · intro w'
         go_simp
         with_reducible rfl
       rotate_left
       · simp only [Act.put, zA, zB, zC, i64_w, i32_w]
         rfl
       refine pure_ (i := 14) (N := some 22) (v := ?_) (a' := ?_) #[true,true,true,true,true,true,true,true,true,true,true,true,true,true,true] rfl rfl (by kernel_rfl) (fun _ _ _ h => h) (Or.inl ⟨by rfl, ?_⟩) ?_ ?_
       rotate_left
       · intro w'
         go_simp
         with_reducible rfl
       rotate_left
       · simp only [Act.put, zA, zB, zC, i64_w, i32_w]
         rfl
       refine done_ (by kernel_rfl) ?_
       go_wp2
       go_ret
       exact ⟨⟨_, rfl, by rw [HF.out]; exact own_nil _ _⟩, below_drew H3.out.1⟩
     · have hd2 : decide ((l.length : Int) ≤ i) = false := decide_eq_false hin
       obtain ⟨i0, rfl⟩ : ∃ i0 : Nat, i = (i0 : Int) := ⟨i.toNat, by omega⟩
       have HF : Aside0 (rr = sel (fun k => wars (direct l) l.length i0 k) l.length) := ⟨by rw [HR.out, decide_eq_true (by omega)]; rfl⟩
       have hlt : i0 < l.length := by omega
       have HT : Aside0 (∀ W, Below w4.heap.size w4 W → Tells W 20 #[] #[.pointer (some ⟨bg, 0, none⟩), .pointer (some ⟨w.heap.size + 1, 0, none⟩)] (fun k => wars (direct l) l.length i0 k) l.length) := ⟨fun W hb W2 k hk hw => by simpa using ahead1_calls (HB.out.on (on_ hb hw)) hlt hk (by omega)⟩
       have eg : ∀ args w, (callFunc 20 args).run Tryz.prog w = .ok (.enter 20 args) w := fun _ _ => by kernel_rfl
       clear hi0 hin
       refine start_ (n := 15) (S := fun w' => w'.cell? ⟨bg, 0, none⟩ = some (.pointer (some ⟨gg, 0, none⟩)) ∧ w'.cell? ⟨w.heap.size + 1, 0, none⟩ = some (.int .i64 (i0 : Int)) ∧ w'.cell? ⟨gg, 0, none⟩ = some (.slice (some ⟨ga, 0, none⟩) l.length cap)) (ds := []) #[false,false,false,false,false,false,false,false,false,false,false,false,false,false,false] (by kernel_rfl) rfl rfl ⟨(by go_keep), (by go_keep), (by go_keep)⟩ (fun hHeld => ?_)
       refine take_ (i := 0) (N := some 8) (v := ?_) (a' := ?_) #[true,false,false,false,false,false,false,false,false,false,false,false,false,false,false] rfl rfl (by kernel_rfl) (fun _ _ _ h => h) (Or.inl ⟨by rfl, ?_⟩) hHeld ?_ ?_
       rotate_left
       · rintro w' ⟨s0, s1, s2⟩
         go_simp
         with_reducible rfl
       rotate_left
       · simp only [Act.put, zA, zB, zC, i64_w, i32_w]
         rfl
       refine pure_ (i := 1) (N := some 9) (v := ?_) (a' := ?_) #[true,true,false,false,false,false,false,false,false,false,false,false,false,false,false] rfl rfl (by kernel_rfl) (fun _ _ _ h => h) (Or.inl ⟨by rfl, ?_⟩) ?_ ?_
       rotate_left
       · intro w'
         go_simp
         with_reducible rfl
       rotate_left
       · simp only [Act.put, zA, zB, zC, i64_w, i32_w]
         rfl
       refine pure_ (i := 2) (N := some 10) (v := ?_) (a' := ?_) #[true,true,true,false,false,false,false,false,false,false,false,false,false,false,false] rfl rfl (by kernel_rfl) (fun _ _ _ h => h) (Or.inl ⟨by rfl, ?_⟩) ?_ ?_
       rotate_left
       · intro w'
         go_simp
         with_reducible rfl
       rotate_left
       · simp only [Act.put, zA, zB, zC, i64_w, i32_w]
         rfl
       refine take_ (i := 3) (N := some 11) (v := ?_) (a' := ?_) #[true,true,true,true,false,false,false,false,false,false,false,false,false,false,false] rfl rfl (by kernel_rfl) (fun _ _ _ h => h) (Or.inl ⟨by rfl, ?_⟩) hHeld ?_ ?_
       rotate_left
       · rintro w' ⟨s0, s1, s2⟩
         go_simp
         with_reducible rfl
       rotate_left
       · simp only [Act.put, zA, zB, zC, i64_w, i32_w]
         rfl
       refine pure_ (i := 4) (N := some 12) (v := ?_) (a' := ?_) #[true,true,true,true,true,false,false,false,false,false,false,false,false,false,false] rfl rfl (by kernel_rfl) (fun _ _ _ h => h) (Or.inl ⟨by rfl, ?_⟩) ?_ ?_
       rotate_left
       · intro w'
         go_simp
         with_reducible rfl
       rotate_left
       · simp only [Act.put, zA, zB, zC, i64_w, i32_w]
         rfl
       refine pure_ (i := 5) (N := some 13) (v := ?_) (a' := ?_) #[true,true,true,true,true,true,false,false,false,false,false,false,false,false,false] rfl rfl (by kernel_rfl) (fun _ _ _ h => h) (Or.inl ⟨by rfl, ?_⟩) ?_ ?_
       rotate_left
       · intro w'
         go_simp
         with_reducible rfl
       rotate_left
       · simp only [Act.put, zA, zB, zC, i64_w, i32_w]
         rfl
       refine pure_ (i := 6) (N := some 14) (v := ?_) (a' := ?_) #[true,true,true,true,true,true,true,false,false,false,false,false,false,false,false] rfl rfl (by kernel_rfl) (fun _ _ _ h => h) (Or.inl ⟨by rfl, ?_⟩) ?_ ?_
       rotate_left
       · intro w'
         go_simp
         with_reducible rfl
       rotate_left
       · simp only [Act.put, zA, zB, zC, i64_w, i32_w]
         rfl
       refine take_ (i := 7) (N := some 15) (v := ?_) (a' := ?_) #[true,true,true,true,true,true,true,true,false,false,false,false,false,false,false] rfl rfl (by kernel_rfl) (fun _ _ _ h => h) (Or.inl ⟨by rfl, ?_⟩) hHeld ?_ ?_
       rotate_left
       · rintro w' ⟨s0, s1, s2⟩
         go_simp
         with_reducible rfl
       rotate_left
       · simp only [Act.put, zA, zB, zC, i64_w, i32_w]
         rfl
       refine take_ (i := 8) (N := some 16) (v := ?_) (a' := ?_) #[true,true,true,true,true,true,true,true,true,false,false,false,false,false,false] rfl rfl (by kernel_rfl) (fun _ _ _ h => h) (Or.inl ⟨by rfl, ?_⟩) hHeld ?_ ?_
       rotate_left
       · rintro w' ⟨s0, s1, s2⟩
         go_simp
         with_reducible rfl
       rotate_left
       · simp only [Act.put, zA, zB, zC, i64_w, i32_w]
         rfl
       refine pure_ (i := 9) (N := some 17) (v := ?_) (a' := ?_) #[true,true,true,true,true,true,true,true,true,true,false,false,false,false,false] rfl rfl (by kernel_rfl) (fun _ _ _ h => h) (Or.inl ⟨by rfl, ?_⟩) ?_ ?_
       rotate_left
       · intro w'
         go_simp
         with_reducible rfl
       rotate_left
       · simp only [Act.put, zA, zB, zC, i64_w, i32_w]
         rfl
       refine pure_ (i := 10) (N := some 18) (v := ?_) (a' := ?_) #[true,true,true,true,true,true,true,true,true,true,true,false,false,false,false] rfl rfl (by kernel_rfl) (fun _ _ _ h => h) (Or.inl ⟨by rfl, ?_⟩) ?_ ?_
       rotate_left
       · intro w'
         go_simp
         with_reducible rfl
       rotate_left
       · simp only [Act.put, zA, zB, zC, i64_w, i32_w]
         rfl
       refine take_ (i := 11) (N := some 19) (v := ?_) (a' := ?_) #[true,true,true,true,true,true,true,true,true,true,true,true,false,false,false] rfl rfl (by kernel_rfl) (fun _ _ _ h => h) (Or.inl ⟨by rfl, ?_⟩) hHeld ?_ ?_
       rotate_left
       · rintro w' ⟨s0, s1, s2⟩
         go_simp
         with_reducible rfl
       rotate_left
       · simp only [Act.put, zA, zB, zC, i64_w, i32_w]
         rfl
       refine pure_ (i := 12) (N := some 20) (v := ?_) (a' := ?_) #[true,true,true,true,true,true,true,true,true,true,true,true,true,false,false] rfl rfl (by kernel_rfl) (fun _ _ _ h => h) (Or.inl ⟨by rfl, ?_⟩) ?_ ?_
       rotate_left
       · intro w'
         go_simp
         with_reducible rfl
       rotate_left
       · simp only [Act.put, zA, zB, zC, i64_w, i32_w]
         rfl
       refine pure_ (i := 13) (N := some 21) (v := ?_) (a' := ?_) #[true,true,true,true,true,true,true,true,true,true,true,true,true,true,false] rfl rfl (by kernel_rfl) (fun _ _ _ h => h) (Or.inl ⟨by rfl, ?_⟩) ?_ ?_
       rotate_left
       · intro w'
         go_simp
         with_reducible rfl
       rotate_left
       · simp only [Act.put, zA, zB, zC, i64_w, i32_w]
         rfl
       refine pure_ (i := 14) (N := some 22) (v := ?_) (a' := ?_) #[true,true,true,true,true,true,true,true,true,true,true,true,true,true,true] rfl rfl (by kernel_rfl) (fun _ _ _ h => h) (Or.inl ⟨by rfl, ?_⟩) ?_ ?_
       rotate_left
       · intro w'
         go_simp
         with_reducible rfl
       rotate_left
       · simp only [Act.put, zA, zB, zC, i64_w, i32_w]
         rfl
       refine done_ (by kernel_rfl) ?_
       have hb4 := Aside0.mk (below_drew (Below.refl w4.heap.size w4))
       go_wp2_with (first | (go_at_call 19; refine (those_calls 20 gg _ cap l.length _ _ _ _ eg (HT.out _ hb4.out) (HB.out.on hb4.out).gr.box (by omega)).mono ?_; rintro e w5 ⟨⟨v5, rfl, hown⟩, hb5⟩; have H5 := Aside0.mk (And.intro hown hb5); clear hown hb5))
       go_ret
       refine ⟨⟨_, rfl, ?_⟩, on_ (below_drew H3.out.1) H5.out.2⟩
       rw [HF.out]
       exact H5.out.1.low (below_drew H3.out.1).size

set_option maxHeartbeats 8000000 in
set_option maxRecDepth 100000 in
theorem behind_calls (nm : ByteArray) (l : List Step) (A : Option Addr) (c : Nat) (i : Int) (w : World) (hnm : nm.size ≤ 140737488351232) (hS : StepsAt w A l) (hb : ∀ s ∈ l, StepB s) (hn : l.length ≤ 9000000000000) (hc : l.length ≤ c) (hT : TabsAt w) :
 Calls Tryz.prog 7 #[.agg #[.string nm, .slice A l.length c], .int .i64 i] w fun e w' => (∃ v, e = .returned v ∧ Own w w' v (behindL nm l i)) ∧ Below w.heap.size w w' := by
 have hs1 : (w.alloc (.cells #[.string nm, .slice A l.length c] 24)).heap.size = w.heap.size + 1 := by
  show (w.heap.push _).size = _
  simp
 have hb2 := on_ (below_one w (.cells #[.string nm, .slice A l.length c] 24)) (below_one (w.alloc (.cells #[.string nm, .slice A l.length c] 24)) (.cells #[.int .i64 i] 3))
 have hri := alloc1 (w.alloc (.cells #[.string nm, .slice A l.length c] 24)) (.cells #[.int .i64 i] 3)
 rw [hs1] at hri
 have hm := made_calls nm l A c _ hnm (hS.below hb2) hb hn hc (tabs_on hT hb2)
 have HW := Aside0.mk (And.intro hb2 hri)
 have HR : Aside0 (behindL nm l i = if (defOk nm l && decide (0 ≤ i ∧ i < l.length)) = true then sel (fun k => wars (direct l) l.length k i.toNat) l.length else []) := ⟨rfl⟩
 have HD := Aside0.mk (fun h => defOk_len (nm := nm) (l := l) h)
 generalize behindL nm l i = rr at *
 clear hb2 hri hs1 hS hb hT
 cases hok : defOk nm l
 · rw [hok] at hm HR
   replace hm := Aside0.mk hm
   go_enter Tryz.func7, Tryz.ntmps7
   go_wp2_with (first | (go_at_call 18; refine hm.out.mono ?_; rintro e w3 ⟨he, hb3⟩; cases he; have H3 := Aside0.mk (on_ (on_ HW.out.1 hb3) (below_one w3 (.cells #[.pointer none] 38))); have h1 := row_cell (j := 0) (alloc1 w3 (.cells #[.pointer none] 38)) rfl; have h2 := row_cell (j := 0) (row_on (on_ hb3 (below_one w3 (.cells #[.pointer none] 38))) HW.out.2) rfl; clear hb3))
   generalize hW : World.alloc w3 _ = w4 at *
   generalize w3.heap.size = bg at *
   refine start_ (n := 15) (S := fun w' => w'.cell? ⟨bg, 0, none⟩ = some (.pointer none)) (ds := []) #[false,false,false,false,false,false,false,false,false,false,false,false,false,false,false] (by kernel_rfl) rfl rfl ((by go_keep)) (fun hHeld => ?_)
   refine take_ (i := 0) (N := some 8) (v := ?_) (a' := ?_) #[true,false,false,false,false,false,false,false,false,false,false,false,false,false,false] rfl rfl (by kernel_rfl) (fun _ _ _ h => h) (Or.inl ⟨by rfl, ?_⟩) hHeld ?_ ?_
   rotate_left
   · intro w' s0
     go_simp
     with_reducible rfl
   rotate_left
   · simp only [Act.put, zA, zB, zC, i64_w, i32_w]
     rfl
   refine pure_ (i := 1) (N := some 9) (v := ?_) (a' := ?_) #[true,true,false,false,false,false,false,false,false,false,false,false,false,false,false] rfl rfl (by kernel_rfl) (fun _ _ _ h => h) (Or.inl ⟨by rfl, ?_⟩) ?_ ?_
   rotate_left
   · intro w'
     go_simp
     with_reducible rfl
   rotate_left
   · simp only [Act.put, zA, zB, zC, i64_w, i32_w]
     rfl
   refine pure_ (i := 2) (N := some 10) (v := ?_) (a' := ?_) #[true,true,true,false,false,false,false,false,false,false,false,false,false,false,false] rfl rfl (by kernel_rfl) (fun _ _ _ h => h) (Or.inl ⟨by rfl, ?_⟩) ?_ ?_
   rotate_left
   · intro w'
     go_simp
     with_reducible rfl
   rotate_left
   · simp only [Act.put, zA, zB, zC, i64_w, i32_w]
     rfl
   refine pure_ (i := 3) (N := some 11) (v := undef) (a' := ?_) #[true,true,true,true,false,false,false,false,false,false,false,false,false,false,false] rfl rfl (by kernel_rfl) (fun _ _ _ h => h) (Or.inr ⟨by rfl, rfl⟩) ?_ ?_
   rotate_left
   · simp only [Act.put, zA, zB, zC, i64_w, i32_w]
     rfl
   refine pure_ (i := 4) (N := some 12) (v := undef) (a' := ?_) #[true,true,true,true,true,false,false,false,false,false,false,false,false,false,false] rfl rfl (by kernel_rfl) (fun _ _ _ h => h) (Or.inr ⟨by rfl, rfl⟩) ?_ ?_
   rotate_left
   · simp only [Act.put, zA, zB, zC, i64_w, i32_w]
     rfl
   refine pure_ (i := 5) (N := some 13) (v := ?_) (a' := ?_) #[true,true,true,true,true,true,false,false,false,false,false,false,false,false,false] rfl rfl (by kernel_rfl) (fun _ _ _ h => h) (Or.inl ⟨by rfl, ?_⟩) ?_ ?_
   rotate_left
   · intro w'
     go_simp
     with_reducible rfl
   rotate_left
   · simp only [Act.put, zA, zB, zC, i64_w, i32_w]
     rfl
   refine pure_ (i := 6) (N := some 14) (v := ?_) (a' := ?_) #[true,true,true,true,true,true,true,false,false,false,false,false,false,false,false] rfl rfl (by kernel_rfl) (fun _ _ _ h => h) (Or.inl ⟨by rfl, ?_⟩) ?_ ?_
   rotate_left
   · intro w'
     go_simp
     with_reducible rfl
   rotate_left
   · simp only [Act.put, zA, zB, zC, i64_w, i32_w]
     rfl
   refine pure_ (i := 7) (N := some 15) (v := undef) (a' := ?_) #[true,true,true,true,true,true,true,true,false,false,false,false,false,false,false] rfl rfl (by kernel_rfl) (fun _ _ _ h => h) (Or.inr ⟨by rfl, rfl⟩) ?_ ?_
   rotate_left
   · simp only [Act.put, zA, zB, zC, i64_w, i32_w]
     rfl
   refine pure_ (i := 8) (N := some 16) (v := undef) (a' := ?_) #[true,true,true,true,true,true,true,true,true,false,false,false,false,false,false] rfl rfl (by kernel_rfl) (fun _ _ _ h => h) (Or.inr ⟨by rfl, rfl⟩) ?_ ?_
   rotate_left
   · simp only [Act.put, zA, zB, zC, i64_w, i32_w]
     rfl
   refine pure_ (i := 9) (N := some 17) (v := undef) (a' := ?_) #[true,true,true,true,true,true,true,true,true,true,false,false,false,false,false] rfl rfl (by kernel_rfl) (fun _ _ _ h => h) (Or.inr ⟨by rfl, rfl⟩) ?_ ?_
   rotate_left
   · simp only [Act.put, zA, zB, zC, i64_w, i32_w]
     rfl
   refine pure_ (i := 10) (N := some 18) (v := undef) (a' := ?_) #[true,true,true,true,true,true,true,true,true,true,true,false,false,false,false] rfl rfl (by kernel_rfl) (fun _ _ _ h => h) (Or.inr ⟨by rfl, rfl⟩) ?_ ?_
   rotate_left
   · simp only [Act.put, zA, zB, zC, i64_w, i32_w]
     rfl
   refine pure_ (i := 11) (N := some 19) (v := undef) (a' := ?_) #[true,true,true,true,true,true,true,true,true,true,true,true,false,false,false] rfl rfl (by kernel_rfl) (fun _ _ _ h => h) (Or.inr ⟨by rfl, rfl⟩) ?_ ?_
   rotate_left
   · simp only [Act.put, zA, zB, zC, i64_w, i32_w]
     rfl
   refine pure_ (i := 12) (N := some 20) (v := undef) (a' := ?_) #[true,true,true,true,true,true,true,true,true,true,true,true,true,false,false] rfl rfl (by kernel_rfl) (fun _ _ _ h => h) (Or.inr ⟨by rfl, rfl⟩) ?_ ?_
   rotate_left
   · simp only [Act.put, zA, zB, zC, i64_w, i32_w]
     rfl
   refine pure_ (i := 13) (N := some 21) (v := undef) (a' := ?_) #[true,true,true,true,true,true,true,true,true,true,true,true,true,true,false] rfl rfl (by kernel_rfl) (fun _ _ _ h => h) (Or.inr ⟨by rfl, rfl⟩) ?_ ?_
   rotate_left
   · simp only [Act.put, zA, zB, zC, i64_w, i32_w]
     rfl
   refine pure_ (i := 14) (N := some 22) (v := ?_) (a' := ?_) #[true,true,true,true,true,true,true,true,true,true,true,true,true,true,true] rfl rfl (by kernel_rfl) (fun _ _ _ h => h) (Or.inl ⟨by rfl, ?_⟩) ?_ ?_
   rotate_left
   · intro w'
     go_simp
     with_reducible rfl
   rotate_left
   · simp only [Act.put, zA, zB, zC, i64_w, i32_w]
     rfl
   refine done_ (by kernel_rfl) ?_
   go_wp2
   go_ret
   exact ⟨⟨_, rfl, by rw [HR.out]; exact own_nil _ _⟩, below_drew H3.out⟩
 · rw [hok] at hm HR
   obtain ⟨hl1, hl8, _⟩ := HD.out hok
   replace hm := Aside0.mk hm
   clear HD
   go_enter Tryz.func7, Tryz.ntmps7
   go_wp2_with (first | (go_at_call 18; refine hm.out.mono ?_; rintro e w3 ⟨⟨gg, v, rb, rfl, hg⟩, hb3⟩; have H3 := Aside0.mk (And.intro (on_ (on_ HW.out.1 hb3) (below_one w3 (.cells #[.pointer (some ⟨gg, 0, none⟩)] 38))) (And.intro (hg.on (below_one w3 (.cells #[.pointer (some ⟨gg, 0, none⟩)] 38))) (And.intro (alloc1 w3 (.cells #[.pointer (some ⟨gg, 0, none⟩)] 38)) (row_on (on_ hb3 (below_one w3 (.cells #[.pointer (some ⟨gg, 0, none⟩)] 38))) HW.out.2)))); clear hb3 hg))
   generalize hW : World.alloc w3 _ = w4 at *
   generalize w3.heap.size = bg at *
   obtain ⟨ga, cap, rfl, _⟩ := H3.out.2.1.ahead (by omega)
   have HB := Aside0.mk (GrB.mk H3.out.2.1 H3.out.2.2.1 H3.out.2.2.2)
   have h1 := row_cell (j := 0) HB.out.bg_ rfl
   have h2 := row_cell (j := 0) HB.out.bi_ rfl
   have h3 := row_cell (j := 0) HB.out.gr.box rfl
   by_cases hi0 : i < 0
   · have hd1 : decide (i < 0) = true := decide_eq_true hi0
     have HF : Aside0 (rr = []) := ⟨by rw [HR.out, decide_eq_false (by omega)]; rfl⟩
     clear hi0
     refine start_ (n := 15) (S := fun w' => w'.cell? ⟨bg, 0, none⟩ = some (.pointer (some ⟨gg, 0, none⟩)) ∧ w'.cell? ⟨w.heap.size + 1, 0, none⟩ = some (.int .i64 i)) (ds := []) #[false,false,false,false,false,false,false,false,false,false,false,false,false,false,false] (by kernel_rfl) rfl rfl ⟨(by go_keep), (by go_keep)⟩ (fun hHeld => ?_)
     refine take_ (i := 0) (N := some 8) (v := ?_) (a' := ?_) #[true,false,false,false,false,false,false,false,false,false,false,false,false,false,false] rfl rfl (by kernel_rfl) (fun _ _ _ h => h) (Or.inl ⟨by rfl, ?_⟩) hHeld ?_ ?_
     rotate_left
     · rintro w' ⟨s0, s1⟩
       go_simp
       with_reducible rfl
     rotate_left
     · simp only [Act.put, zA, zB, zC, i64_w, i32_w]
       rfl
     refine pure_ (i := 1) (N := some 9) (v := ?_) (a' := ?_) #[true,true,false,false,false,false,false,false,false,false,false,false,false,false,false] rfl rfl (by kernel_rfl) (fun _ _ _ h => h) (Or.inl ⟨by rfl, ?_⟩) ?_ ?_
     rotate_left
     · intro w'
       go_simp
       with_reducible rfl
     rotate_left
     · simp only [Act.put, zA, zB, zC, i64_w, i32_w]
       rfl
     refine pure_ (i := 2) (N := some 10) (v := ?_) (a' := ?_) #[true,true,true,false,false,false,false,false,false,false,false,false,false,false,false] rfl rfl (by kernel_rfl) (fun _ _ _ h => h) (Or.inl ⟨by rfl, ?_⟩) ?_ ?_
     rotate_left
     · intro w'
       go_simp
       with_reducible rfl
     rotate_left
     · simp only [Act.put, zA, zB, zC, i64_w, i32_w]
       rfl
     refine take_ (i := 3) (N := some 11) (v := ?_) (a' := ?_) #[true,true,true,true,false,false,false,false,false,false,false,false,false,false,false] rfl rfl (by kernel_rfl) (fun _ _ _ h => h) (Or.inl ⟨by rfl, ?_⟩) hHeld ?_ ?_
     rotate_left
     · rintro w' ⟨s0, s1⟩
       go_simp
       with_reducible rfl
     rotate_left
     · simp only [Act.put, zA, zB, zC, i64_w, i32_w]
       rfl
     refine pure_ (i := 4) (N := some 12) (v := ?_) (a' := ?_) #[true,true,true,true,true,false,false,false,false,false,false,false,false,false,false] rfl rfl (by kernel_rfl) (fun _ _ _ h => h) (Or.inl ⟨by rfl, ?_⟩) ?_ ?_
     rotate_left
     · intro w'
       go_simp
       with_reducible rfl
     rotate_left
     · simp only [Act.put, zA, zB, zC, i64_w, i32_w]
       rfl
     refine pure_ (i := 5) (N := some 13) (v := ?_) (a' := ?_) #[true,true,true,true,true,true,false,false,false,false,false,false,false,false,false] rfl rfl (by kernel_rfl) (fun _ _ _ h => h) (Or.inl ⟨by rfl, ?_⟩) ?_ ?_
     rotate_left
     · intro w'
       go_simp
       with_reducible rfl
     rotate_left
     · simp only [Act.put, zA, zB, zC, i64_w, i32_w]
       rfl
     refine pure_ (i := 6) (N := some 14) (v := ?_) (a' := ?_) #[true,true,true,true,true,true,true,false,false,false,false,false,false,false,false] rfl rfl (by kernel_rfl) (fun _ _ _ h => h) (Or.inl ⟨by rfl, ?_⟩) ?_ ?_
     rotate_left
     · intro w'
       go_simp
       with_reducible rfl
     rotate_left
     · simp only [Act.put, zA, zB, zC, i64_w, i32_w]
       rfl
     refine pure_ (i := 7) (N := some 15) (v := undef) (a' := ?_) #[true,true,true,true,true,true,true,true,false,false,false,false,false,false,false] rfl rfl (by kernel_rfl) (fun _ _ _ h => h) (Or.inr ⟨by rfl, rfl⟩) ?_ ?_
     rotate_left
     · simp only [Act.put, zA, zB, zC, i64_w, i32_w]
       rfl
     refine pure_ (i := 8) (N := some 16) (v := undef) (a' := ?_) #[true,true,true,true,true,true,true,true,true,false,false,false,false,false,false] rfl rfl (by kernel_rfl) (fun _ _ _ h => h) (Or.inr ⟨by rfl, rfl⟩) ?_ ?_
     rotate_left
     · simp only [Act.put, zA, zB, zC, i64_w, i32_w]
       rfl
     refine pure_ (i := 9) (N := some 17) (v := undef) (a' := ?_) #[true,true,true,true,true,true,true,true,true,true,false,false,false,false,false] rfl rfl (by kernel_rfl) (fun _ _ _ h => h) (Or.inr ⟨by rfl, rfl⟩) ?_ ?_
     rotate_left
     · simp only [Act.put, zA, zB, zC, i64_w, i32_w]
       rfl
     refine pure_ (i := 10) (N := some 18) (v := undef) (a' := ?_) #[true,true,true,true,true,true,true,true,true,true,true,false,false,false,false] rfl rfl (by kernel_rfl) (fun _ _ _ h => h) (Or.inr ⟨by rfl, rfl⟩) ?_ ?_
     rotate_left
     · simp only [Act.put, zA, zB, zC, i64_w, i32_w]
       rfl
     refine pure_ (i := 11) (N := some 19) (v := undef) (a' := ?_) #[true,true,true,true,true,true,true,true,true,true,true,true,false,false,false] rfl rfl (by kernel_rfl) (fun _ _ _ h => h) (Or.inr ⟨by rfl, rfl⟩) ?_ ?_
     rotate_left
     · simp only [Act.put, zA, zB, zC, i64_w, i32_w]
       rfl
     refine pure_ (i := 12) (N := some 20) (v := undef) (a' := ?_) #[true,true,true,true,true,true,true,true,true,true,true,true,true,false,false] rfl rfl (by kernel_rfl) (fun _ _ _ h => h) (Or.inr ⟨by rfl, rfl⟩) ?_ ?_
     rotate_left
     · simp only [Act.put, zA, zB, zC, i64_w, i32_w]
       rfl
     refine pure_ (i := 13) (N := some 21) (v := undef) (a' := ?_) #[true,true,true,true,true,true,true,true,true,true,true,true,true,true,false] rfl rfl (by kernel_rfl) (fun _ _ _ h => h) (Or.inr ⟨by rfl, rfl⟩) ?_ ?_
     rotate_left
     · simp only [Act.put, zA, zB, zC, i64_w, i32_w]
       rfl
     refine pure_ (i := 14) (N := some 22) (v := ?_) (a' := ?_) #[true,true,true,true,true,true,true,true,true,true,true,true,true,true,true] rfl rfl (by kernel_rfl) (fun _ _ _ h => h) (Or.inl ⟨by rfl, ?_⟩) ?_ ?_
     rotate_left
     · intro w'
       go_simp
       with_reducible rfl
     rotate_left
     · simp only [Act.put, zA, zB, zC, i64_w, i32_w]
       rfl
     refine done_ (by kernel_rfl) ?_
     go_wp2
     go_ret
     exact ⟨⟨_, rfl, by rw [HF.out]; exact own_nil _ _⟩, below_drew H3.out.1⟩
   · have hd1 : decide (i < 0) = false := decide_eq_false hi0
     by_cases hin : (l.length : Int) ≤ i
     · have hd2 : decide ((l.length : Int) ≤ i) = true := decide_eq_true hin
       have HF : Aside0 (rr = []) := ⟨by rw [HR.out, decide_eq_false (by omega)]; rfl⟩
       clear hi0 hin
       refine start_ (n := 15) (S := fun w' => w'.cell? ⟨bg, 0, none⟩ = some (.pointer (some ⟨gg, 0, none⟩)) ∧ w'.cell? ⟨w.heap.size + 1, 0, none⟩ = some (.int .i64 i) ∧ w'.cell? ⟨gg, 0, none⟩ = some (.slice (some ⟨ga, 0, none⟩) l.length cap)) (ds := []) #[false,false,false,false,false,false,false,false,false,false,false,false,false,false,false] (by kernel_rfl) rfl rfl ⟨(by go_keep), (by go_keep), (by go_keep)⟩ (fun hHeld => ?_)
       refine take_ (i := 0) (N := some 8) (v := ?_) (a' := ?_) #[true,false,false,false,false,false,false,false,false,false,false,false,false,false,false] rfl rfl (by kernel_rfl) (fun _ _ _ h => h) (Or.inl ⟨by rfl, ?_⟩) hHeld ?_ ?_
       rotate_left
       · rintro w' ⟨s0, s1, s2⟩
         go_simp
         with_reducible rfl
       rotate_left
       · simp only [Act.put, zA, zB, zC, i64_w, i32_w]
         rfl
       refine pure_ (i := 1) (N := some 9) (v := ?_) (a' := ?_) #[true,true,false,false,false,false,false,false,false,false,false,false,false,false,false] rfl rfl (by kernel_rfl) (fun _ _ _ h => h) (Or.inl ⟨by rfl, ?_⟩) ?_ ?_
       rotate_left
       · intro w'
         go_simp
         with_reducible rfl
       rotate_left
       · simp only [Act.put, zA, zB, zC, i64_w, i32_w]
         rfl
       refine pure_ (i := 2) (N := some 10) (v := ?_) (a' := ?_) #[true,true,true,false,false,false,false,false,false,false,false,false,false,false,false] rfl rfl (by kernel_rfl) (fun _ _ _ h => h) (Or.inl ⟨by rfl, ?_⟩) ?_ ?_
       rotate_left
       · intro w'
         go_simp
         with_reducible rfl
       rotate_left
       · simp only [Act.put, zA, zB, zC, i64_w, i32_w]
         rfl
       refine take_ (i := 3) (N := some 11) (v := ?_) (a' := ?_) #[true,true,true,true,false,false,false,false,false,false,false,false,false,false,false] rfl rfl (by kernel_rfl) (fun _ _ _ h => h) (Or.inl ⟨by rfl, ?_⟩) hHeld ?_ ?_
       rotate_left
       · rintro w' ⟨s0, s1, s2⟩
         go_simp
         with_reducible rfl
       rotate_left
       · simp only [Act.put, zA, zB, zC, i64_w, i32_w]
         rfl
       refine pure_ (i := 4) (N := some 12) (v := ?_) (a' := ?_) #[true,true,true,true,true,false,false,false,false,false,false,false,false,false,false] rfl rfl (by kernel_rfl) (fun _ _ _ h => h) (Or.inl ⟨by rfl, ?_⟩) ?_ ?_
       rotate_left
       · intro w'
         go_simp
         with_reducible rfl
       rotate_left
       · simp only [Act.put, zA, zB, zC, i64_w, i32_w]
         rfl
       refine pure_ (i := 5) (N := some 13) (v := ?_) (a' := ?_) #[true,true,true,true,true,true,false,false,false,false,false,false,false,false,false] rfl rfl (by kernel_rfl) (fun _ _ _ h => h) (Or.inl ⟨by rfl, ?_⟩) ?_ ?_
       rotate_left
       · intro w'
         go_simp
         with_reducible rfl
       rotate_left
       · simp only [Act.put, zA, zB, zC, i64_w, i32_w]
         rfl
       refine pure_ (i := 6) (N := some 14) (v := ?_) (a' := ?_) #[true,true,true,true,true,true,true,false,false,false,false,false,false,false,false] rfl rfl (by kernel_rfl) (fun _ _ _ h => h) (Or.inl ⟨by rfl, ?_⟩) ?_ ?_
       rotate_left
       · intro w'
         go_simp
         with_reducible rfl
       rotate_left
       · simp only [Act.put, zA, zB, zC, i64_w, i32_w]
         rfl
       refine take_ (i := 7) (N := some 15) (v := ?_) (a' := ?_) #[true,true,true,true,true,true,true,true,false,false,false,false,false,false,false] rfl rfl (by kernel_rfl) (fun _ _ _ h => h) (Or.inl ⟨by rfl, ?_⟩) hHeld ?_ ?_
       rotate_left
       · rintro w' ⟨s0, s1, s2⟩
         go_simp
         with_reducible rfl
       rotate_left
       · simp only [Act.put, zA, zB, zC, i64_w, i32_w]
         rfl
       refine take_ (i := 8) (N := some 16) (v := ?_) (a' := ?_) #[true,true,true,true,true,true,true,true,true,false,false,false,false,false,false] rfl rfl (by kernel_rfl) (fun _ _ _ h => h) (Or.inl ⟨by rfl, ?_⟩) hHeld ?_ ?_
       rotate_left
       · rintro w' ⟨s0, s1, s2⟩
         go_simp
         with_reducible rfl
       rotate_left
       · simp only [Act.put, zA, zB, zC, i64_w, i32_w]
         rfl
       refine pure_ (i := 9) (N := some 17) (v := ?_) (a' := ?_) #[true,true,true,true,true,true,true,true,true,true,false,false,false,false,false] rfl rfl (by kernel_rfl) (fun _ _ _ h => h) (Or.inl ⟨by rfl, ?_⟩) ?_ ?_
       rotate_left
       · intro w'
         go_simp
         with_reducible rfl
       rotate_left
       · simp only [Act.put, zA, zB, zC, i64_w, i32_w]
         rfl
       refine pure_ (i := 10) (N := some 18) (v := ?_) (a' := ?_) #[true,true,true,true,true,true,true,true,true,true,true,false,false,false,false] rfl rfl (by kernel_rfl) (fun _ _ _ h => h) (Or.inl ⟨by rfl, ?_⟩) ?_ ?_
       rotate_left
       · intro w'
         go_simp
         with_reducible rfl
       rotate_left
       · simp only [Act.put, zA, zB, zC, i64_w, i32_w]
         rfl
       refine take_ (i := 11) (N := some 19) (v := ?_) (a' := ?_) #[true,true,true,true,true,true,true,true,true,true,true,true,false,false,false] rfl rfl (by kernel_rfl) (fun _ _ _ h => h) (Or.inl ⟨by rfl, ?_⟩) hHeld ?_ ?_
       rotate_left
       · rintro w' ⟨s0, s1, s2⟩
         go_simp
         with_reducible rfl
       rotate_left
       · simp only [Act.put, zA, zB, zC, i64_w, i32_w]
         rfl
       refine pure_ (i := 12) (N := some 20) (v := ?_) (a' := ?_) #[true,true,true,true,true,true,true,true,true,true,true,true,true,false,false] rfl rfl (by kernel_rfl) (fun _ _ _ h => h) (Or.inl ⟨by rfl, ?_⟩) ?_ ?_
       rotate_left
       · intro w'
         go_simp
         with_reducible rfl
       rotate_left
       · simp only [Act.put, zA, zB, zC, i64_w, i32_w]
         rfl
       refine pure_ (i := 13) (N := some 21) (v := ?_) (a' := ?_) #[true,true,true,true,true,true,true,true,true,true,true,true,true,true,false] rfl rfl (by kernel_rfl) (fun _ _ _ h => h) (Or.inl ⟨by rfl, ?_⟩) ?_ ?_
       rotate_left
       · intro w'
         go_simp
         with_reducible rfl
       rotate_left
       · simp only [Act.put, zA, zB, zC, i64_w, i32_w]
         rfl
       refine pure_ (i := 14) (N := some 22) (v := ?_) (a' := ?_) #[true,true,true,true,true,true,true,true,true,true,true,true,true,true,true] rfl rfl (by kernel_rfl) (fun _ _ _ h => h) (Or.inl ⟨by rfl, ?_⟩) ?_ ?_
       rotate_left
       · intro w'
         go_simp
         with_reducible rfl
       rotate_left
       · simp only [Act.put, zA, zB, zC, i64_w, i32_w]
         rfl
       refine done_ (by kernel_rfl) ?_
       go_wp2
       go_ret
       exact ⟨⟨_, rfl, by rw [HF.out]; exact own_nil _ _⟩, below_drew H3.out.1⟩
     · have hd2 : decide ((l.length : Int) ≤ i) = false := decide_eq_false hin
       obtain ⟨i0, rfl⟩ : ∃ i0 : Nat, i = (i0 : Int) := ⟨i.toNat, by omega⟩
       have HF : Aside0 (rr = sel (fun k => wars (direct l) l.length k i0) l.length) := ⟨by rw [HR.out, decide_eq_true (by omega)]; rfl⟩
       have hlt : i0 < l.length := by omega
       have HT : Aside0 (∀ W, Below w4.heap.size w4 W → Tells W 21 #[] #[.pointer (some ⟨bg, 0, none⟩), .pointer (some ⟨w.heap.size + 1, 0, none⟩)] (fun k => wars (direct l) l.length k i0) l.length) := ⟨fun W hb W2 k hk hw => by simpa using behind1_calls (HB.out.on (on_ hb hw)) hlt hk (by omega)⟩
       have eg : ∀ args w, (callFunc 21 args).run Tryz.prog w = .ok (.enter 21 args) w := fun _ _ => by kernel_rfl
       clear hi0 hin
       refine start_ (n := 15) (S := fun w' => w'.cell? ⟨bg, 0, none⟩ = some (.pointer (some ⟨gg, 0, none⟩)) ∧ w'.cell? ⟨w.heap.size + 1, 0, none⟩ = some (.int .i64 (i0 : Int)) ∧ w'.cell? ⟨gg, 0, none⟩ = some (.slice (some ⟨ga, 0, none⟩) l.length cap)) (ds := []) #[false,false,false,false,false,false,false,false,false,false,false,false,false,false,false] (by kernel_rfl) rfl rfl ⟨(by go_keep), (by go_keep), (by go_keep)⟩ (fun hHeld => ?_)
       refine take_ (i := 0) (N := some 8) (v := ?_) (a' := ?_) #[true,false,false,false,false,false,false,false,false,false,false,false,false,false,false] rfl rfl (by kernel_rfl) (fun _ _ _ h => h) (Or.inl ⟨by rfl, ?_⟩) hHeld ?_ ?_
       rotate_left
       · rintro w' ⟨s0, s1, s2⟩
         go_simp
         with_reducible rfl
       rotate_left
       · simp only [Act.put, zA, zB, zC, i64_w, i32_w]
         rfl
       refine pure_ (i := 1) (N := some 9) (v := ?_) (a' := ?_) #[true,true,false,false,false,false,false,false,false,false,false,false,false,false,false] rfl rfl (by kernel_rfl) (fun _ _ _ h => h) (Or.inl ⟨by rfl, ?_⟩) ?_ ?_
       rotate_left
       · intro w'
         go_simp
         with_reducible rfl
       rotate_left
       · simp only [Act.put, zA, zB, zC, i64_w, i32_w]
         rfl
       refine pure_ (i := 2) (N := some 10) (v := ?_) (a' := ?_) #[true,true,true,false,false,false,false,false,false,false,false,false,false,false,false] rfl rfl (by kernel_rfl) (fun _ _ _ h => h) (Or.inl ⟨by rfl, ?_⟩) ?_ ?_
       rotate_left
       · intro w'
         go_simp
         with_reducible rfl
       rotate_left
       · simp only [Act.put, zA, zB, zC, i64_w, i32_w]
         rfl
       refine take_ (i := 3) (N := some 11) (v := ?_) (a' := ?_) #[true,true,true,true,false,false,false,false,false,false,false,false,false,false,false] rfl rfl (by kernel_rfl) (fun _ _ _ h => h) (Or.inl ⟨by rfl, ?_⟩) hHeld ?_ ?_
       rotate_left
       · rintro w' ⟨s0, s1, s2⟩
         go_simp
         with_reducible rfl
       rotate_left
       · simp only [Act.put, zA, zB, zC, i64_w, i32_w]
         rfl
       refine pure_ (i := 4) (N := some 12) (v := ?_) (a' := ?_) #[true,true,true,true,true,false,false,false,false,false,false,false,false,false,false] rfl rfl (by kernel_rfl) (fun _ _ _ h => h) (Or.inl ⟨by rfl, ?_⟩) ?_ ?_
       rotate_left
       · intro w'
         go_simp
         with_reducible rfl
       rotate_left
       · simp only [Act.put, zA, zB, zC, i64_w, i32_w]
         rfl
       refine pure_ (i := 5) (N := some 13) (v := ?_) (a' := ?_) #[true,true,true,true,true,true,false,false,false,false,false,false,false,false,false] rfl rfl (by kernel_rfl) (fun _ _ _ h => h) (Or.inl ⟨by rfl, ?_⟩) ?_ ?_
       rotate_left
       · intro w'
         go_simp
         with_reducible rfl
       rotate_left
       · simp only [Act.put, zA, zB, zC, i64_w, i32_w]
         rfl
       refine pure_ (i := 6) (N := some 14) (v := ?_) (a' := ?_) #[true,true,true,true,true,true,true,false,false,false,false,false,false,false,false] rfl rfl (by kernel_rfl) (fun _ _ _ h => h) (Or.inl ⟨by rfl, ?_⟩) ?_ ?_
       rotate_left
       · intro w'
         go_simp
         with_reducible rfl
       rotate_left
       · simp only [Act.put, zA, zB, zC, i64_w, i32_w]
         rfl
       refine take_ (i := 7) (N := some 15) (v := ?_) (a' := ?_) #[true,true,true,true,true,true,true,true,false,false,false,false,false,false,false] rfl rfl (by kernel_rfl) (fun _ _ _ h => h) (Or.inl ⟨by rfl, ?_⟩) hHeld ?_ ?_
       rotate_left
       · rintro w' ⟨s0, s1, s2⟩
         go_simp
         with_reducible rfl
       rotate_left
       · simp only [Act.put, zA, zB, zC, i64_w, i32_w]
         rfl
       refine take_ (i := 8) (N := some 16) (v := ?_) (a' := ?_) #[true,true,true,true,true,true,true,true,true,false,false,false,false,false,false] rfl rfl (by kernel_rfl) (fun _ _ _ h => h) (Or.inl ⟨by rfl, ?_⟩) hHeld ?_ ?_
       rotate_left
       · rintro w' ⟨s0, s1, s2⟩
         go_simp
         with_reducible rfl
       rotate_left
       · simp only [Act.put, zA, zB, zC, i64_w, i32_w]
         rfl
       refine pure_ (i := 9) (N := some 17) (v := ?_) (a' := ?_) #[true,true,true,true,true,true,true,true,true,true,false,false,false,false,false] rfl rfl (by kernel_rfl) (fun _ _ _ h => h) (Or.inl ⟨by rfl, ?_⟩) ?_ ?_
       rotate_left
       · intro w'
         go_simp
         with_reducible rfl
       rotate_left
       · simp only [Act.put, zA, zB, zC, i64_w, i32_w]
         rfl
       refine pure_ (i := 10) (N := some 18) (v := ?_) (a' := ?_) #[true,true,true,true,true,true,true,true,true,true,true,false,false,false,false] rfl rfl (by kernel_rfl) (fun _ _ _ h => h) (Or.inl ⟨by rfl, ?_⟩) ?_ ?_
       rotate_left
       · intro w'
         go_simp
         with_reducible rfl
       rotate_left
       · simp only [Act.put, zA, zB, zC, i64_w, i32_w]
         rfl
       refine take_ (i := 11) (N := some 19) (v := ?_) (a' := ?_) #[true,true,true,true,true,true,true,true,true,true,true,true,false,false,false] rfl rfl (by kernel_rfl) (fun _ _ _ h => h) (Or.inl ⟨by rfl, ?_⟩) hHeld ?_ ?_
       rotate_left
       · rintro w' ⟨s0, s1, s2⟩
         go_simp
         with_reducible rfl
       rotate_left
       · simp only [Act.put, zA, zB, zC, i64_w, i32_w]
         rfl
       refine pure_ (i := 12) (N := some 20) (v := ?_) (a' := ?_) #[true,true,true,true,true,true,true,true,true,true,true,true,true,false,false] rfl rfl (by kernel_rfl) (fun _ _ _ h => h) (Or.inl ⟨by rfl, ?_⟩) ?_ ?_
       rotate_left
       · intro w'
         go_simp
         with_reducible rfl
       rotate_left
       · simp only [Act.put, zA, zB, zC, i64_w, i32_w]
         rfl
       refine pure_ (i := 13) (N := some 21) (v := ?_) (a' := ?_) #[true,true,true,true,true,true,true,true,true,true,true,true,true,true,false] rfl rfl (by kernel_rfl) (fun _ _ _ h => h) (Or.inl ⟨by rfl, ?_⟩) ?_ ?_
       rotate_left
       · intro w'
         go_simp
         with_reducible rfl
       rotate_left
       · simp only [Act.put, zA, zB, zC, i64_w, i32_w]
         rfl
       refine pure_ (i := 14) (N := some 22) (v := ?_) (a' := ?_) #[true,true,true,true,true,true,true,true,true,true,true,true,true,true,true] rfl rfl (by kernel_rfl) (fun _ _ _ h => h) (Or.inl ⟨by rfl, ?_⟩) ?_ ?_
       rotate_left
       · intro w'
         go_simp
         with_reducible rfl
       rotate_left
       · simp only [Act.put, zA, zB, zC, i64_w, i32_w]
         rfl
       refine done_ (by kernel_rfl) ?_
       have hb4 := Aside0.mk (below_drew (Below.refl w4.heap.size w4))
       go_wp2_with (first | (go_at_call 19; refine (those_calls 21 gg _ cap l.length _ _ _ _ eg (HT.out _ hb4.out) (HB.out.on hb4.out).gr.box (by omega)).mono ?_; rintro e w5 ⟨⟨v5, rfl, hown⟩, hb5⟩; have H5 := Aside0.mk (And.intro hown hb5); clear hown hb5))
       go_ret
       refine ⟨⟨_, rfl, ?_⟩, on_ (below_drew H3.out.1) H5.out.2⟩
       rw [HF.out]
       exact H5.out.1.low (below_drew H3.out.1).size

end Go.Proofs.YthlgcibckakhbaaGreatDoor.Pl

/- A range over a function whose iterator keeps state of its own in cells: the law. -/
namespace Go.Proofs.YthlgcibckakhbaaGreatDoor.Pl
open Go.RowKit

/-- Some blocks lie as they lay. -/
structure Keep (Y : Nat → Prop) (W W' : World) : Prop where
 size : W.heap.size ≤ W'.heap.size
 same : ∀ k, Y k → W'.heap[k]? = W.heap[k]?
theorem Keep.refl (Y : Nat → Prop) (W : World) : Keep Y W W := ⟨Nat.le_refl _, fun _ _ => rfl⟩
theorem Keep.trans {Y : Nat → Prop} {a b c : World} (h : Keep Y a b) (k : Keep Y b c) : Keep Y a c := ⟨Nat.le_trans h.size k.size, fun i hi => (k.same i hi).trans (h.same i hi)⟩
theorem Keep.mono {X Y : Nat → Prop} {a b : World} (h : Keep Y a b) (hx : ∀ k, X k → Y k) : Keep X a b := ⟨h.size, fun k hk => h.same k (hx k hk)⟩
theorem Keep.row {Y : Nat → Prop} {a b : World} (h : Keep Y a b) {k : Nat} {o : Obj} (hk : a.heap[k]? = some o) (hy : Y k) : b.heap[k]? = some o := (h.same k hy).trans hk
theorem Keep.putObj {Y : Nat → Prop} (W : World) {l : Nat} (o : Obj) (h : ¬ Y l) : Keep Y W (W.putObj l o) := ⟨by simp, fun k hk => World.putObj_heap_other (fun e => h (e ▸ hk))⟩
theorem Keep.of_chg {X Y : Nat → Prop} {a b : World} (h : Chg X a b) (hy : ∀ k, Y k → k < a.heap.size ∧ ¬ X k) : Keep Y a b := ⟨h.size, fun k hk => h.block k (hy k hk).1 (hy k hk).2⟩
/-- Blocks of Y, and those that have come. -/
def More (Y : Nat → Prop) (W W' : World) : Nat → Prop := fun k => Y k ∨ (W.heap.size ≤ k ∧ k < W'.heap.size)

/-- What an iterator promises: whatever its rounds do that leave its own blocks alone. -/
def SeqY {α : Type} (P : Program) (g : Nat) (lb : Array Value) (enc : α → Array Value) (S : List α → Prop) (N : List α → α → Prop) (X : Nat → Prop) (w0 : World) : Prop :=
 ∀ (l : Nat) (J : List α → (Nat → Prop) → World → Prop) (W : World), Keep X w0 W →
  (∀ pre Y W1 W2, J pre Y W1 → Chg Y W1 W2 → J pre (More Y W1 W2) W2) →
  (∀ pre Y x W1, J pre Y W1 → N pre x → YieldAt Fence.wide 3 P l (enc x) W1 fun e W' => e = .returned (.bool true) ∧ J (pre ++ [x]) Y W' ∧ Keep Y W1 W') →
  J [] X W →
  CallsIn Fence.wide 4 P g (#[.func (.yield l) #[] #[]] ++ lb) W fun e W' => (∃ v, e = .returned v) ∧ ∃ xs Y, S xs ∧ J xs Y W'

/-- How a round's body may be left: it goes on. -/
def postY {α : Type} (B : Nat) (I : List α → (Nat → Prop) → World → Prop) (xs : List α) (Y : Nat → Prop) (W : World) : Exit → Act → World → Prop
 | .normal, _, W' => KeepsFrom B W W' ∧ Keep Y W W' ∧ I xs Y W'
 | _, _, _ => False

theorem wpIn_rangeFunc_Y {α : Type} {P : Program} {g : Operand} {ps : Array Tmp} {assign body : Code} {Q : Exit → Act → World → Prop} {a : Act} {w : World}
 {gf : Nat} {lb : Array Value} (hg : a.eval g = .func (.func gf) #[] lb) (eg : ∀ args w, (callFunc gf args).run P w = .ok (.enter gf args) w)
 {enc : α → Array Value} {S : List α → Prop} {N : List α → α → Prop} {X : Nat → Prop} {w0 : World} (hseq : SeqY P gf lb enc S N X w0)
 (hb0 : Keep X w0 w) (hX : ∀ k, X k → k < w.heap.size) (hps : ∀ x, (enc x).size = ps.size)
 (I : List α → (Nat → Prop) → World → Prop) (hIa : ∀ pre Y W1 W2, I pre Y W1 → Chg Y W1 W2 → I pre (More Y W1 W2) W2) (hIm : ∀ pre Y Y' W, I pre Y W → (∀ k, Y' k → Y k) → I pre Y' W)
 (hIr : ∀ pre Y W l o o', I pre Y W → w.heap.size ≤ l → W.heap[l]? = some o → o.isCells = false → I pre Y (W.putObj l o'))
 (h0 : I [] X w) (a₁ : α → Act)
 (hassign : ∀ (l : Nat) (x : α) (W : World) (K : Act → World → Prop), K (a₁ x) W →
  assign.wpIn (Fence.wide.inRound l) 3 P (Exit.then K (fun _ _ _ => False)) { tmps := (ps.zip (enc x)).foldl (fun t (p, v) => t.setIfInBounds p v) a.tmps, defers := [] } W)
 (hbody : ∀ (l : Nat) (pre : List α) (x : α) (Y : Nat → Prop) (W : World), I pre Y W → N pre x → body.wpIn (Fence.wide.inRound l) 3 P (postY w.heap.size I (pre ++ [x]) Y W) (a₁ x) W)
 (hdone : ∀ (D : Nat) (xs : List α) (Y : Nat → Prop) (W : World), w.heap.size ≤ D → S xs → I xs Y W → W.heap[D]? = some (.deferred (some [])) → Q .normal { a with defers := { target := .collected D, args := #[] } :: a.defers } W) :
 (Code.rangeFunc g ps assign body).wpIn Fence.wide 5 P Q a w := by
 refine wpIn_rangeFunc ?_
 intro fn hfn
 obtain ⟨rec, hrec⟩ : ∃ rec : LoopState → Option Code → Loop, rec = fun st pe => { state := st, pending := pe, fn, tmps := a.tmps, params := ps, assign, body, defers := w.heap.size } := ⟨_, rfl⟩
 obtain ⟨W1, hW1⟩ : ∃ W1, (w.alloc (.deferred (some []))).alloc (.loop (rec .ready none)) = W1 := ⟨_, rfl⟩
 have hL1 : W1.heap[w.heap.size + 1]? = some (.loop (rec .ready none)) := by
  rw [← hW1]; have := World.alloc_heap_new (w.alloc (.deferred (some []))) (.loop (rec .ready none)); rwa [World.size_alloc] at this
 have hK1 : W1.heap[w.heap.size]? = some (.deferred (some [])) := by
  rw [← hW1]; exact (Below.heap_alloc _ _ _ (by simp)).trans (World.alloc_heap_new w _)
 have hB1 : Below w.heap.size w W1 := by
  rw [← hW1]; exact ((Below.refl _ w).alloc (Nat.le_refl _) _).alloc (by simp) _
 have hI1 : I [] X W1 := hIm _ _ _ _ (hIa _ _ _ _ h0 (Chg.of_below hB1)) fun k hk => .inl hk
 have hb1 : Keep X w0 W1 := hb0.trans ⟨hB1.size, fun k hk => hB1.block k (hX k hk)⟩
 refine ⟨w.heap.size + 1, [{ target := .collected w.heap.size, args := #[] }], W1, { target := .fn (.func gf) lb, args := #[.func (.yield (w.heap.size + 1)) #[] #[]] }, W1, gf,
  #[.func (.yield (w.heap.size + 1)) #[] #[]] ++ lb, W1, ?_, ?_, ?_, ?_, (fun _ => by omega), ?_⟩
 · rw [← hW1, hrec]; exact run_enterLoop_outer _ _ _ _ _
 · simp only [resolve, hg]
   simp [go_sem]
 · intro f' hf'; trivial
 · simp [invoke, go_sem, eg]
 · refine (hseq (w.heap.size + 1)
    (fun pre Y W => I pre Y W ∧ W.heap[w.heap.size + 1]? = some (.loop (rec .ready none)) ∧ W.heap[w.heap.size]? = some (.deferred (some [])) ∧ ¬ Y (w.heap.size + 1) ∧ ¬ Y w.heap.size)
    W1 hb1 ?_ ?_ ⟨hI1, hL1, hK1, fun h => by have := hX _ h; omega, fun h => by have := hX _ h; omega⟩).mono ?_
   · rintro pre Y A B ⟨hi, hl, hk, n1, n2⟩ hc
     have l1 := (Array.getElem?_eq_some_iff.1 hl).1
     exact ⟨hIa _ _ _ _ hi hc, hc.row hl n1, hc.row hk n2, fun h => by rcases h with h | h; exact n1 h; omega, fun h => by rcases h with h | h; exact n2 h; omega⟩
   · rintro pre Y x W ⟨hi, hl, hk, n1, n2⟩ hlen
     have hlt : w.heap.size + 1 < W.heap.size := (Array.getElem?_eq_some_iff.1 hl).1
     have hy := run_yield (P := P) (args := enc x) hl (by rw [hrec]; exact hps x)
     rw [hrec] at hy
     refine ⟨fn, _, assign, body, hy, roundIn_of_wpIn hfn (hassign _ x W _ ⟨_, run_beginRound hl (by rw [hrec]), ?_⟩)⟩
     have hl2 : (W.putObj (w.heap.size + 1) (.loop { rec .ready none with state := .busy })).heap[w.heap.size + 1]? = some (.loop { rec .ready none with state := .busy }) := World.putObj_heap_same hlt
     have hk2 : (W.putObj (w.heap.size + 1) (.loop { rec .ready none with state := .busy })).heap[w.heap.size]? = some (.deferred (some [])) := (World.putObj_heap_other (by omega)).trans hk
     refine wpIn_mono (hbody _ pre x Y _ (hIr _ _ _ _ _ _ hi (by omega) hl rfl) hlen) ?_
     have fin : ∀ (jump : Option Code) (W3 : World), KeepsFrom w.heap.size (W.putObj (w.heap.size + 1) (.loop { rec .ready none with state := .busy })) W3 →
      (Instr.endRound (w.heap.size + 1) jump).run P W3 = .ok (.bool jump.isNone) (W3.putObj (w.heap.size + 1) (.loop (rec (if jump.isNone then .ready else .done) jump))) ∧
      W3.heap[w.heap.size + 1]? = some (.loop { rec .ready none with state := .busy }) ∧
      (W3.putObj (w.heap.size + 1) (.loop (rec (if jump.isNone then .ready else .done) jump))).heap[w.heap.size + 1]? = some (.loop (rec (if jump.isNone then .ready else .done) jump)) ∧
      (W3.putObj (w.heap.size + 1) (.loop (rec (if jump.isNone then .ready else .done) jump))).heap[w.heap.size]? = some (.deferred (some [])) := fun jump W3 hk3 => by
      have hl3 := hk3.same _ _ (by omega) hl2 rfl
      have := run_endRound (P := P) jump hl3
      rw [hrec] at this ⊢
      exact ⟨this, by rw [hrec] at hl3; exact hl3, World.putObj_heap_same (Array.getElem?_eq_some_iff.1 hl3).1, (World.putObj_heap_other (by omega)).trans (hk3.same _ _ (Nat.le_refl _) hk2 rfl)⟩
     rintro e a3 W3 hp
     cases e with
     | normal =>
      obtain ⟨hk3, hky, hi3⟩ := hp
      obtain ⟨hr, hl3, hl4, hk4⟩ := fin none W3 hk3
      exact ⟨_, _, hr, rfl, ⟨hIr _ _ _ _ _ _ hi3 (by omega) hl3 rfl, hl4, hk4, n1, n2⟩, ((Keep.putObj W _ n1).trans hky).trans (Keep.putObj W3 _ n1)⟩
     | ret => exact hp.elim
     | exit id => exact hp.elim
     | goto t => exact hp.elim
     | panic ch => exact hp.elim
     | outgrown => exact hp.elim
   · rintro e W2 ⟨⟨v, rfl⟩, xs, Y, hS, hi, hl, hk, n1, n2⟩
     exact ⟨none, _, by have := run_endLoop (P := P) hl (by rw [hrec]; simp); rw [hrec] at this; exact this, hdone _ xs Y _ (Nat.le_refl _) hS (hIr _ _ _ _ _ _ hi (by omega) hl rfl) ((World.putObj_heap_other (by omega)).trans hk)⟩
end Go.Proofs.YthlgcibckakhbaaGreatDoor.Pl

/- The order in which steps are told: each once. -/
namespace Go.Proofs.YthlgcibckakhbaaGreatDoor.Pl

/-- How many numbers below n are so. -/
def cnt (f : Nat → Bool) : Nat → Nat
 | 0 => 0
 | n + 1 => cnt f n + if f n = true then 1 else 0
theorem cnt_le (f : Nat → Bool) : ∀ n, cnt f n ≤ n
 | 0 => Nat.le_refl _
 | n + 1 => by
  have := cnt_le f n
  rw [cnt]
  split <;> omega
theorem cnt_all {f : Nat → Bool} : ∀ {n}, (∀ i, i < n → f i = true) → cnt f n = n
 | 0, _ => rfl
 | n + 1, h => by
  rw [cnt, cnt_all (fun i hi => h i (by omega)), if_pos (h n (by omega))]
theorem cnt_full {f : Nat → Bool} : ∀ {n}, cnt f n = n → ∀ i, i < n → f i = true
 | 0, _, i, hi => absurd hi (Nat.not_lt_zero _)
 | n + 1, h, i, hi => by
  rw [cnt] at h
  have := cnt_le f n
  split at h
  · rename_i hf
    rcases Nat.lt_succ_iff_lt_or_eq.1 hi with h2 | rfl
    · exact cnt_full (by omega) i h2
    · exact hf
  · omega
theorem cnt_mono {f g : Nat → Bool} : ∀ {n}, (∀ i, i < n → f i = true → g i = true) → cnt f n ≤ cnt g n
 | 0, _ => Nat.le_refl _
 | n + 1, h => by
  have h1 := cnt_mono (n := n) fun i hi => h i (by omega)
  have h2 := h n (by omega)
  rw [cnt, cnt]
  cases hf : f n
  · simp
    omega
  · rw [h2 hf]
    simp
    exact h1
theorem cnt_lt {f g : Nat → Bool} {k : Nat} : ∀ {n}, (∀ i, i < n → f i = true → g i = true) → k < n → g k = true → f k = false → cnt f n < cnt g n
 | 0, _, hk, _, _ => absurd hk (Nat.not_lt_zero _)
 | n + 1, h, hk, hg, hf => by
  rw [cnt, cnt]
  rcases Nat.lt_succ_iff_lt_or_eq.1 hk with h2 | rfl
  · have h1 := cnt_lt (fun i hi => h i (by omega)) h2 hg hf
    have h3 := h n (by omega)
    cases hf2 : f n
    · simp
      omega
    · rw [h3 hf2]
      simp
      omega
  · have h1 := cnt_mono (n := k) fun i hi => h i (by omega)
    rw [hg, hf]
    simp
    omega
theorem cnt_congr {f g : Nat → Bool} : ∀ {n}, (∀ i, i < n → f i = g i) → cnt f n = cnt g n
 | 0, _ => rfl
 | n + 1, h => by rw [cnt, cnt, cnt_congr (fun i hi => h i (by omega)), h n (by omega)]
theorem cnt_add {f : Nat → Bool} {a : Nat} (ha : f a = false) : ∀ {n}, cnt (fun i => i == a || f i) n = cnt f n + if a < n then 1 else 0
 | 0 => rfl
 | n + 1 => by
  rw [cnt, cnt, cnt_add ha]
  by_cases e : n = a
  · subst e
    simp [ha]
  · have h1 : (n == a) = false := beq_eq_false_iff_ne.2 e
    rw [h1, Bool.false_or]
    by_cases h2 : a < n
    · simp [h2, Nat.lt_succ_of_lt h2]
      omega
    · have : ¬ a < n + 1 := by omega
      simp [h2, this]
theorem cnt_told : ∀ {told : List Nat} {n : Nat}, told.Nodup → (∀ x ∈ told, x < n) → cnt (fun i => told.contains i) n = told.length
 | [], n, _, _ => by
  have : cnt (fun i => ([] : List Nat).contains i) n = 0 := by
   induction n with
   | zero => rfl
   | succ n ih => rw [cnt, ih (fun x hx => by simp at hx)]; rfl
  exact this
 | a :: told, n, hn, hl => by
  obtain ⟨h1, h2⟩ := List.nodup_cons.1 hn
  have e : (fun i => (a :: told).contains i) = fun i => i == a || told.contains i := by
   funext i
   rw [List.contains_cons]
  rw [e, cnt_add (f := fun i => told.contains i) (by simpa using h1), cnt_told h2 (fun x hx => hl x (List.mem_cons_of_mem _ hx)), if_pos (hl a List.mem_cons_self)]
  rfl

/-- What is ahead leads on, and to nobody back. -/
structure Acyc (M : Nat → Nat → Bool) (n : Nat) : Prop where
 trans : ∀ x k y, x < n → k < n → y < n → M x k = true → M k y = true → M x y = true
 irr : ∀ x, x < n → M x x = false
/-- May a step be told next? -/
def nextP (M : Nat → Nat → Bool) (n : Nat) (told : List Nat) (i : Nat) : Bool := !told.contains i && allF (M i) (fun k => told.contains k) n
theorem next_some {M : Nat → Nat → Bool} {n : Nat} (hA : Acyc M n) (told : List Nat) : ∀ (c i : Nat), cnt (M i) n ≤ c → i < n → told.contains i = false → ∃ k, k < n ∧ nextP M n told k = true
 | c, i, hc, hi, hn => by
  by_cases h : allF (M i) (fun k => told.contains k) n = true
  · exact ⟨i, hi, by unfold nextP; rw [h, hn]; rfl⟩
  · have h2 : ∃ k, k < n ∧ M i k = true ∧ told.contains k = false := by
     apply Classical.byContradiction
     intro hno
     apply h
     rw [allF_iff]
     intro k hk hm
     cases ht : told.contains k
     · exact absurd ⟨k, hk, hm, ht⟩ hno
     · rfl
    obtain ⟨k, hk, hm, ht⟩ := h2
    have hlt : cnt (M k) n < cnt (M i) n := cnt_lt (k := k) (fun j hj h3 => hA.trans i k j hi hk hj hm h3) hk hm (hA.irr k hk)
    cases c with
    | zero => omega
    | succ c => exact next_some hA told c k (by omega) hk ht
/-- The order, so far. -/
def ordL (M : Nat → Nat → Bool) (n : Nat) : Nat → List Nat
 | 0 => []
 | t + 1 => ordL M n t ++ [(sel (nextP M n (ordL M n t)) n).headD 0]
theorem ordL_len (M : Nat → Nat → Bool) (n : Nat) : ∀ t, (ordL M n t).length = t
 | 0 => rfl
 | t + 1 => by rw [ordL, List.length_append, ordL_len M n t]; rfl
theorem ordL_ok {M : Nat → Nat → Bool} {n : Nat} (hA : Acyc M n) : ∀ {t}, t ≤ n → (ordL M n t).Nodup ∧ (∀ x ∈ ordL M n t, x < n) ∧ (t < n → ∃ x xs, sel (nextP M n (ordL M n t)) n = x :: xs ∧ x < n ∧ x ∉ ordL M n t)
 | t, ht => by
  have h1 : (ordL M n t).Nodup ∧ (∀ x ∈ ordL M n t, x < n) := by
   cases t with
   | zero => exact ⟨List.nodup_nil, fun x hx => absurd hx List.not_mem_nil⟩
   | succ t =>
    obtain ⟨h1, h2, h3⟩ := ordL_ok hA (t := t) (by omega)
    obtain ⟨x, xs, e, hx, hxn⟩ := h3 (by omega)
    rw [ordL, e]
    refine ⟨?_, ?_⟩
    · rw [List.nodup_append]
      refine ⟨h1, List.nodup_cons.2 ⟨List.not_mem_nil, List.nodup_nil⟩, ?_⟩
      intro a ha b hb eab
      have hb : b = x := List.mem_singleton.1 hb
      rw [eab, hb] at ha
      exact hxn ha
    · intro y hy
      rcases List.mem_append.1 hy with hy | hy
      · exact h2 y hy
      · have : y = x := List.mem_singleton.1 hy
        omega
  refine ⟨h1.1, h1.2, fun hlt => ?_⟩
  have h2 : ∃ i, i < n ∧ (ordL M n t).contains i = false := by
   apply Classical.byContradiction
   intro hno
   have h3 := cnt_told h1.1 h1.2
   rw [ordL_len, cnt_all (fun i hi => ?_)] at h3
   · omega
   · cases hc : (ordL M n t).contains i
     · exact absurd ⟨i, hi, hc⟩ hno
     · rfl
  obtain ⟨i, hi, hc⟩ := h2
  obtain ⟨k, hk, hp⟩ := next_some hA (ordL M n t) _ i (Nat.le_refl _) hi hc
  have hmem := mem_sel.2 ⟨hk, hp⟩
  cases he : sel (nextP M n (ordL M n t)) n with
  | nil => rw [he] at hmem; exact absurd hmem List.not_mem_nil
  | cons x xs =>
   have hx := mem_sel.1 (he ▸ List.mem_cons_self (a := x) (l := xs))
   refine ⟨x, xs, rfl, hx.1, fun hm => ?_⟩
   have h4 := hx.2
   unfold nextP at h4
   rw [List.contains_iff_mem.2 hm] at h4
   cases h4
theorem ordL_perm {M : Nat → Nat → Bool} {n : Nat} (hA : Acyc M n) : (ordL M n n).Perm (List.range n) := by
 obtain ⟨h1, h2, _⟩ := ordL_ok hA (Nat.le_refl n)
 have h3 := cnt_told h1 h2
 rw [ordL_len] at h3
 have h4 := cnt_full h3
 rw [List.perm_iff_count]
 intro a
 rw [h1.count, List.nodup_range.count]
 by_cases ha : a < n
 · rw [if_pos (List.contains_iff_mem.1 (h4 a ha)), if_pos (List.mem_range.2 ha)]
 · rw [if_neg (fun h => ha (h2 a h)), if_neg (fun h => ha (List.mem_range.1 h))]
/-- Sorted, those of which something is so come out in their own order. -/
theorem ord_sort {M : Nat → Nat → Bool} {n : Nat} (hA : Acyc M n) (p : Nat → Bool) : (((ordL M n n).filter p).map fun k : Nat => (k : Int)).mergeSort (fun x y => decide (x ≤ y)) = (sel p n).map fun k : Nat => (k : Int) := by
 apply List.Perm.eq_of_pairwise (le := fun x y : Int => decide (x ≤ y) = true)
 · intro a b _ _ h1 h2
   have h1 := of_decide_eq_true h1
   have h2 := of_decide_eq_true h2
   omega
 · refine List.pairwise_mergeSort ?_ ?_ _
   · intro a b c h1 h2
     have h1 := of_decide_eq_true h1
     have h2 := of_decide_eq_true h2
     exact decide_eq_true (by omega)
   · intro a b
     rcases Int.le_total a b with h | h
     · simp [h]
     · simp [h]
 · rw [List.pairwise_map]
   refine List.Pairwise.imp ?_ (List.Pairwise.filter p List.pairwise_lt_range)
   intro a b h
   exact decide_eq_true (by omega)
 · exact (List.mergeSort_perm _ _).trans (((ordL_perm hA).filter p).map _)
end Go.Proofs.YthlgcibckakhbaaGreatDoor.Pl

/- plan.Order and its closures: the walks, by hand. -/
namespace Go.Proofs.YthlgcibckakhbaaGreatDoor.Pl
open Go.RowKit Go.IntWalk Go.Proofs.YthlgcibckakhbaaGreatDoorW.PrintWords Go.Proofs.YthlgcibckakhbaaGreatDoor.PlName

def intsOf (l : List Nat) : List Int := l.map fun k : Nat => (k : Int)
theorem intsOf_len (l : List Nat) : (intsOf l).length = l.length := by
 unfold intsOf
 rw [List.length_map]
theorem intsOf_has (l : List Nat) (i : Nat) : (intsOf l).contains (i : Int) = l.contains i := by
 unfold intsOf
 induction l with
 | nil => rfl
 | cons a l ih =>
  rw [List.map_cons, List.contains_cons, List.contains_cons, ih]
  congr 1
  rw [Bool.eq_iff_iff, beq_iff_eq, beq_iff_eq]
  omega
theorem own_reads {w : World} {base : Nat} {v : Value} {l : List Nat} (h : w.ownsRow base 3 1 v l.length (selV l)) : ∃ A c, v = .slice A l.length c ∧ l.length ≤ c ∧ Kd.C (Kd.int .i64) w A (intsOf l).length (intsOf l) := by
 have h1 : w.ownsRow base 3 1 v (intsOf l).length (encs (Value.int .i64) (intsOf l)) := by
  rw [intsOf_len]
  have e : encs (Value.int .i64) (intsOf l) = selV l := by
   unfold encs intsOf selV
   simp
  rw [e]
  exact h
 obtain ⟨A, c, e, h2, h3⟩ := Kd.R_reads (d := Kd.int .i64) (Kd.R_of_own (enc := Value.int .i64) (h1 := fun _ => rfl) (ok := fun _ => True) h1 fun _ _ => trivial)
 rw [intsOf_len] at e h2
 exact ⟨A, c, e, h2, h3⟩
theorem Gr.low {w : World} {lo lo' gg : Nat} {v vs : Value} {rb : Nat → Nat} {m n : Nat} {M : Nat → Nat → Bool} (h : Gr w lo gg v vs rb m n M) (hle : lo' ≤ lo) : Gr w lo' gg v vs rb m n M := by
 refine ⟨h.box, ⟨h.own.1, ?_⟩, h.row, h.inj, ⟨Nat.le_trans hle h.lo_.1, fun k hk => Nat.le_trans hle (h.lo_.2 k hk)⟩⟩
 rcases h.own.2 with hn | ⟨g, cap, cur, e, h1, rest⟩
 · exact .inl hn
 · exact .inr ⟨g, cap, cur, e, Nat.le_trans hle h1, rest⟩

/-- What Order gives. -/
def OrdAt (w w' : World) (e : Ending) (l : List Step) (ok : Bool) : Prop :=
 ∃ bg, e = .returned (.func (.func 59) #[] #[.pointer (some ⟨bg, 0, none⟩)]) ∧ w.heap.size ≤ bg ∧
  (if ok = true then ∃ gg v rb, w'.heap[bg]? = some (.cells #[.pointer (some ⟨gg, 0, none⟩)] 38 (0, 0)) ∧ Gr w' w.heap.size gg v (.slice none 0 0) rb l.length l.length (wars (direct l) l.length) else w'.heap[bg]? = some (.cells #[.pointer none] 38 (0, 0)))
set_option maxHeartbeats 4000000 in
set_option maxRecDepth 100000 in
theorem order_calls (nm : ByteArray) (l : List Step) (A : Option Addr) (c : Nat) (w : World) (hnm : nm.size ≤ 140737488351232) (hS : StepsAt w A l) (hb : ∀ s ∈ l, StepB s) (hn : l.length ≤ 9000000000000) (hc : l.length ≤ c) (hT : TabsAt w) :
 Calls Tryz.prog 37 #[.agg #[.string nm, .slice A l.length c]] w fun e w' => OrdAt w w' e l (defOk nm l) ∧ Below w.heap.size w w' := by
 have hb2 := below_one w (.cells #[.string nm, .slice A l.length c] 24)
 have hm := made_calls nm l A c _ hnm (hS.below hb2) hb hn hc (tabs_on hT hb2)
 have HW := Aside0.mk hb2
 clear hb2 hS hb hT
 cases hok : defOk nm l
 · rw [hok] at hm
   replace hm := Aside0.mk hm
   go_enter Tryz.func37, Tryz.ntmps37
   go_wp2_with (first | (go_at_call 18; refine hm.out.mono ?_; rintro e w3 ⟨he, hb3⟩; cases he; have H3 := Aside0.mk (And.intro (on_ HW.out hb3) (And.intro (below_one w3 (.cells #[.pointer none] 38)) (alloc1 w3 (.cells #[.pointer none] 38)))); clear hb3))
   go_ret
   exact ⟨⟨_, rfl, H3.out.1.size, H3.out.2.2⟩, on_ H3.out.1 H3.out.2.1⟩
 · rw [hok] at hm
   replace hm := Aside0.mk hm
   go_enter Tryz.func37, Tryz.ntmps37
   go_wp2_with (first | (go_at_call 18; refine hm.out.mono ?_; rintro e w3 ⟨⟨gg, v, rb, rfl, hg⟩, hb3⟩; have H3 := Aside0.mk (And.intro (on_ HW.out hb3) (And.intro (below_one w3 (.cells #[.pointer (some ⟨gg, 0, none⟩)] 38)) (And.intro (alloc1 w3 (.cells #[.pointer (some ⟨gg, 0, none⟩)] 38)) (hg.on (below_one w3 (.cells #[.pointer (some ⟨gg, 0, none⟩)] 38)))))); clear hb3 hg))
   go_ret
   exact ⟨⟨_, rfl, H3.out.1.size, ⟨gg, v, rb, H3.out.2.2.1, H3.out.2.2.2.low HW.out.size⟩⟩, on_ H3.out.1 H3.out.2.1⟩

/-- What has been told lies in a box. -/
structure Told (w : World) (bt base : Nat) (v : Value) (l : List Nat) : Prop where
 box : w.heap[bt]? = some (.cells #[v] 26 (0, 0))
 own : w.ownsRow base 3 1 v l.length (selV l)
theorem Told.on {w w' : World} {bt base : Nat} {v : Value} {l : List Nat} (h : Told w bt base v l) (hb : Below w.heap.size w w') : Told w' bt base v l := ⟨row_on hb h.box, ownsRow_on h.own hb⟩

set_option maxHeartbeats 4000000 in
set_option maxRecDepth 100000 in
theorem was_calls {w : World} {bt base : Nat} {v : Value} {l : List Nat} (h : Told w bt base v l) (hl : l.length ≤ 1000000) (i : Nat) :
 Calls Tryz.prog 60 #[.int .i64 (i : Int), .pointer (some ⟨bt, 0, none⟩)] w fun e w' => e = .returned (.bool (l.contains i)) ∧ Below w.heap.size w w' := by
 obtain ⟨A, c, rfl, _, hr⟩ := own_reads h.own
 have hcon := contains_calls A c (intsOf l) (i : Int) w hr (by rw [intsOf_len]; omega)
 rw [intsOf_has, intsOf_len] at hcon
 have hq := row_cell (j := 0) h.box rfl
 generalize l.contains i = bb at *
 replace hcon := Aside0.mk hcon
 clear hr h
 go_enter Tryz.func60, Tryz.ntmps60
 go_wp2_with (first | (go_at_call 34; refine hcon.out.mono ?_; rintro e w5 ⟨rfl, rfl⟩))
 go_ret
 exact ⟨rfl, Below.refl _ _⟩

def wasV (bt : Nat) : Value := .func (.func 60) #[] #[.pointer (some ⟨bt, 0, none⟩)]
set_option maxHeartbeats 4000000 in
set_option maxRecDepth 100000 in
theorem next_calls {w : World} {bt bw bg base lo gg : Nat} {v va vs : Value} {told : List Nat} {rb : Nat → Nat} {n : Nat} {M : Nat → Nat → Bool} (h : Told w bt base v told) (hw : w.heap[bw]? = some (.cells #[wasV bt] 45 (0, 0))) (hbg : w.heap[bg]? = some (.cells #[.pointer (some ⟨gg, 0, none⟩)] 38 (0, 0))) (hg : Gr w lo gg va vs rb n n M)
 (hl : told.length ≤ 1000000) (hn : n ≤ 1000000) {i : Nat} (hi : i < n) :
 Calls Tryz.prog 61 #[.int .i64 (i : Int), .pointer (some ⟨bw, 0, none⟩), .pointer (some ⟨bg, 0, none⟩)] w fun e w' => e = .returned (.bool (nextP M n told i)) ∧ Below w.heap.size w w' := by
 have eg : ∀ args w, (callFunc 60 args).run Tryz.prog w = .ok (.enter 60 args) w := fun _ _ => by kernel_rfl
 have hc1 := Aside0.mk (was_calls h hl i)
 have hc2 : Aside0 (∀ W, Below w.heap.size w W → Calls Tryz.prog 42 #[.pointer (some ⟨gg, 0, none⟩), .int .i64 (i : Int), .func (.func 60) #[] #[.pointer (some ⟨bt, 0, none⟩)]] W fun e w' => e = .returned (.bool (allF (M i) (fun k => told.contains k) n)) ∧ Below W.heap.size W w') :=
  ⟨fun W hb => all_calls _ lo gg va vs rb M n i #[] _ (fun k => told.contains k) W eg (fun W2 k hk hb2 => by simpa using was_calls (h.on (on_ hb hb2)) hl k) (hg.on hb) hi hn⟩
 have HB := Aside0.mk (And.intro hw hbg)
 have hq1 := row_cell (j := 0) hw rfl
 have hq2 := row_cell (j := 0) hbg rfl
 have HF : Aside0 (nextP M n told i = (!told.contains i && allF (M i) (fun k => told.contains k) n)) := ⟨rfl⟩
 clear h hg hw hbg
 generalize nextP M n told i = rr at *
 generalize allF (M i) (fun k => told.contains k) n = b2 at *
 generalize told.contains i = b1 at *
 simp only [wasV] at hq1 HB
 go_enter Tryz.func61, Tryz.ntmps61
 cases b1
 · go_wp2_with (first | (go_at_fn 60; refine hc1.out.mono ?_; rintro e w1 ⟨rfl, hb1⟩; have hq3 := row_cell (j := 0) (row_on hb1 HB.out.1) rfl; have hq4 := row_cell (j := 0) (row_on hb1 HB.out.2) rfl) | (go_at_call 42; refine (hc2.out _ hb1).mono ?_; rintro e w2 ⟨rfl, hb2⟩))
   go_ret
   rw [HF.out]
   exact ⟨rfl, on_ hb1 hb2⟩
 · go_wp2_with (first | (go_at_fn 60; refine hc1.out.mono ?_; rintro e w1 ⟨rfl, hb1⟩))
   go_ret
   rw [HF.out]
   exact ⟨rfl, hb1⟩
end Go.Proofs.YthlgcibckakhbaaGreatDoor.Pl

/- An append tells where its row lies: where it lay, or in new memory. -/
namespace Go.Proofs.YthlgcibckakhbaaGreatDoor.Pl
open Go.RowKit

theorem append_where {P : Program} (w : World) (base : Nat) (t ty e : TypeId) (i : TypeInfo) (z : Value) (bytes : Nat) (ht : P.underlying t = some (.slice e)) (hi : P.info? e = some i) (hz : i.zero = some z)
 (hsize : i.size = 1) (hby : i.bytes = bytes) (hzs : z.cells.size = 1) (v : Value) (n : Nat) (xs : List Value) (hown : w.ownsRow base e 1 v n xs)
 (a : Addr) (c : Nat) (u : Value) (hu : ∀ j x, [u][j]? = some x → w.cell? (a.add j) = some x) (h1 : ∀ x ∈ [u], x.oneCell' = true)
 (h63 : n + 1 ≤ maxLen) (hbytes : (n + 1) * bytes ≤ 140737488355328) (hbase : base ≤ w.heap.size) :
 ∃ v' w', (Builtin.append_ #[t, t] ty #[v, .slice (some a) 1 c]).run P w = .ok v' w' ∧ w'.ownsRow base e 1 v' (n + 1) (xs ++ [u]) ∧ w.grownBy w' v.ownBlock ∧ (∀ k, v'.ownBlock = some k → v.ownBlock = some k ∨ w.heap.size ≤ k) := by
 obtain ⟨v', w', hr, h2, h3, _⟩ := run_append_own (P := P) w base t ty e i z 1 bytes ht hi hz hsize hby hzs (by omega) v n xs hown a 1 c [u] rfl hu h1 h63 hbytes hbase
 refine ⟨v', w', hr, h2, h3, ?_⟩
 have hsm : n + 1 ≤ 9223372036854775807 := by simp only [maxLen] at h63; omega
 rcases hown.2 with ⟨rfl, rfl⟩ | ⟨g, cap, cur, rfl, hbg, hg, hnc, hcm, hcs, htake⟩
 · have h4 := run_append_nil (P := P) w t ty e i z ht hi hz a 1 c [u] (by rw [hsize]; rfl) hu (by omega) (by omega) (by rw [hby]; omega)
   rw [hr] at h4
   injection h4 with e1 e2
   subst e1
   intro k hk
   injection hk with hk
   exact .inr (by rw [← hk]; exact Nat.le_refl _)
 · by_cases hroom : n + 1 ≤ cap
   · obtain ⟨w2, h4, _⟩ := run_append_fits (P := P) w base t ty e i 1 ht hi hsize g n cap xs hown a 1 c [u] rfl hu h1 hroom
     rw [hr] at h4
     injection h4 with e1 e2
     subst e1
     intro k hk
     exact .inl hk
   · have holds : ∀ j x, xs[j]? = some x → w.cell? ((⟨g, 0, none⟩ : Addr).add j) = some x := hown.cells (g := g) rfl
     have h4 := run_append_grow (P := P) w t ty e i z ht hi hz ⟨g, 0, none⟩ n cap xs (by rw [hsize]; exact hown.1) holds a 1 c [u] (by rw [hsize]; rfl) hu (by omega) (by omega) (growslice_fits (by omega) (by rw [hby]; exact hbytes))
     rw [hr] at h4
     injection h4 with e1 e2
     subst e1
     intro k hk
     injection hk with hk
     exact .inr (by rw [← hk]; exact Nat.le_refl _)

theorem wpListIn_append_where {F : Fence} {n : Nat} {P : Program} (w : World) {ops : Array Oper} {rest : List Oper} {o : Oper} {a : Act} {Q : Exit → Act → World → Prop}
 (hg : o.guard = none) (s x : Operand) (t : TypeId) (hop : o.op = Op.call { callee := Callee.builtin Builtin.append, args := #[s, x], argTypes := #[t, t] })
 (base : Nat) (e : TypeId) (i : TypeInfo) (z : Value) (bytes : Nat) (ht : P.underlying t = some (.slice e)) (hi : P.info? e = some i) (hz : i.zero = some z)
 (hsize : i.size = 1) (hby : i.bytes = bytes) (hzs : z.cells.size = 1) (v : Value) (k : Nat) (xs : List Value) (hs : a.eval s = v) (hown : w.ownsRow base e 1 v k xs)
 (ad : Addr) (c : Nat) (u : Value) (hx : a.eval x = .slice (some ad) 1 c) (hu : ∀ j x, [u][j]? = some x → w.cell? (ad.add j) = some x) (h1 : ∀ x ∈ [u], x.oneCell' = true)
 (h63 : k + 1 ≤ maxLen) (hbytes : (k + 1) * bytes ≤ 140737488355328) (hbase : base ≤ w.heap.size)
 (hK : ∀ v' w', w'.ownsRow base e 1 v' (k + 1) (xs ++ [u]) → w.grownBy w' v.ownBlock → (∀ k, v'.ownBlock = some k → v.ownBlock = some k ∨ w.heap.size ≤ k) → wpListIn F n P ops Q rest (a.put o.dst v') w') :
 wpListIn F n P ops Q (o :: rest) a w := by
 refine wpListIn_plain hg fun K hK' => ?_
 obtain ⟨v', w', hrun, r1, r2, r3⟩ := append_where (P := P) w base t o.type e i z bytes ht hi hz hsize hby hzs v k xs hown ad c u hu h1 h63 hbytes hbase
 unfold Oper.wpIn
 refine ⟨?_, ?_⟩
 · simp [Oper.about, hop, resolve, Target.leads, Sem.run_pure]
 · rw [Oper.semAt_plain F _ _ (by rw [hop]; intro c hc'; cases hc')]
   simp [execOp, hop, resolve, invoke, builtin, hs, hx, hrun, Result.andThen]
   exact hK' _ _ (hK v' w' r1 r2 r3)

/-- A number has been appended to the slice of a box, and the slice laid back. -/
theorem laid {wr w5 w6 : World} {b base : Nat} {v v' : Value} {l : List Nat} {x : Nat} {tmp : Obj} (h : Told wr b base v l) (hb : Below wr.heap.size wr w5)
 (hown : w6.ownsRow base 3 1 v' (l.length + 1) (selV l ++ [.int .i64 (x : Int)])) (hgr : (w5.alloc tmp).grownBy w6 v.ownBlock) :
 w6.heap[b]? = some (.cells #[v] 26 (0, 0)) ∧ Told (w6.setCell ⟨b, 0, none⟩ v') b base v' (l ++ [x]) ∧ Chg (fun k => k = b ∨ v.ownBlock = some k) wr (w6.setCell ⟨b, 0, none⟩ v') := by
 have hb2 : Below wr.heap.size wr (w5.alloc tmp) := on_ hb (below_one w5 tmp)
 have hnb : ∀ {W : World} {u : Value} {m : Nat} {ys : List Value} {q : Value}, W.ownsRow base 3 1 u m ys → W.heap[b]? = some (.cells #[q] 26 (0, 0)) → u.ownBlock ≠ some b := fun {W u m ys q} ho hb e => by
  rcases ho.2 with ⟨rfl, _⟩ | ⟨g, cap, cur, rfl, _, h2, _⟩
  · cases e
  · injection e with e
    have e : g = b := e
    subst e
    have h3 := h2.symm.trans hb
    simp at h3
 have h6 : w6.heap[b]? = some (.cells #[v] 26 (0, 0)) := by
  have h5 := row_on hb2 h.box
  exact (hgr.block b (Array.getElem?_eq_some_iff.1 h5).1 (fun e => hnb h.own h.box e.symm)).trans h5
 refine ⟨h6, ⟨?_, ?_⟩, ?_⟩
 · rw [row_setCell h6]
   rfl
 · rw [selV_snoc, List.length_append]
   exact ownsRow_chg hown (Chg.setCell w6 _ _) fun k hk e => hnb hown h6 (by rw [hk]; exact congrArg some e)
 · exact (((Chg.of_below hb2 : Chg (fun k => k = b ∨ v.ownBlock = some k) _ _)).trans ((Chg.of_own hgr).mono fun k hk => Or.inr hk)).trans ((Chg.setCell w6 ⟨b, 0, none⟩ v').mono fun k hk => Or.inl hk)
end Go.Proofs.YthlgcibckakhbaaGreatDoor.Pl

/- plan.Order's iterator: what it promises. -/
namespace Go.Proofs.YthlgcibckakhbaaGreatDoor.Pl
open Go.RowKit Go.IntWalk Go.Shelf Go.Proofs.YthlgcibckakhbaaGreatDoorW.PrintWords Go.Proofs.YthlgcibckakhbaaGreatDoor.PlName
attribute [local go_sem] Oper.semAt_some

theorem Gr.keep {w w' : World} {lo gg : Nat} {v vs : Value} {rb : Nat → Nat} {m n : Nat} {M : Nat → Nat → Bool} {Y : Nat → Prop} (h : Gr w lo gg v vs rb m n M) (hk : Keep Y w w') (hY : ∀ k, lo ≤ k → k < w.heap.size → Y k) : Gr w' lo gg v vs rb m n M := by
 have hb : ∀ {k : Nat} {o : Obj}, w.heap[k]? = some o → lo ≤ k → w'.heap[k]? = some o := fun {k o} ho hl => hk.row ho (hY k hl (Array.getElem?_eq_some_iff.1 ho).1)
 refine ⟨hb h.box h.lo_.1, ⟨h.own.1, ?_⟩, fun k hm => hb (h.row k hm) (h.lo_.2 k hm), h.inj, h.lo_⟩
 rcases h.own.2 with hn | ⟨g, cap, cur, e, h1, h2, rest⟩
 · exact .inl hn
 · exact .inr ⟨g, cap, cur, e, h1, hb h2 h1, rest⟩
/-- The iterator, between two rounds. -/
structure It (w0 W wr : World) (lo : Nat) (Y : Nat → Prop) (bt bw : Nat) (v : Value) (l : List Nat) : Prop where
 told : Told wr bt W.heap.size v l
 was : wr.heap[bw]? = some (.cells #[wasV bt] 45 (0, 0))
 keep : Keep (fun k => lo ≤ k ∧ k < w0.heap.size) w0 wr
 x : ∀ k, lo ≤ k ∧ k < w0.heap.size → Y k
 yt : Y bt
 yw : Y bw
 yv : ∀ k, v.ownBlock = some k → Y k
 size : w0.heap.size ≤ W.heap.size ∧ W.heap.size ≤ wr.heap.size ∧ W.heap.size ≤ bt
theorem It.chg {w0 W wr W7 : World} {lo : Nat} {Y : Nat → Prop} {bt bw : Nat} {v v' : Value} {l : List Nat} {x : Nat} (h : It w0 W wr lo Y bt bw v l) (hc : Chg (fun k => k = bt ∨ v.ownBlock = some k) wr W7) (ht : Told W7 bt W.heap.size v' (l ++ [x]))
 (hw : ∀ k, v'.ownBlock = some k → v.ownBlock = some k ∨ wr.heap.size ≤ k) : It w0 W W7 lo (More Y wr W7) bt bw v' (l ++ [x]) ∧ Chg Y wr W7 := by
 have hlow : ∀ k, v.ownBlock = some k → W.heap.size ≤ k := fun k hk => (h.told.own.lt k hk).1
 refine ⟨⟨ht, hc.row h.was ?_, ?_, fun k hk => .inl (h.x k hk), .inl h.yt, .inl h.yw, fun k hk => ?_, h.size.1, Nat.le_trans h.size.2.1 hc.size, h.size.2.2⟩, hc.mono ?_⟩
 · rintro (e | e)
   · subst e
     have h1 := h.was.symm.trans h.told.box
     simp at h1
   · rcases h.told.own.2 with ⟨e2, _⟩ | ⟨g, cap, cur, e2, _, h2, _⟩
     · rw [e2] at e
       cases e
     · rw [e2] at e
       injection e with e
       have e : g = bw := e
       subst e
       have h1 := h.was.symm.trans h2
       simp at h1
 · refine h.keep.trans (Keep.of_chg hc fun k hk => ⟨?_, ?_⟩)
   · have := h.size
     omega
   · rintro (e | e)
     · have := h.size
       omega
     · have := hlow k e
       have := h.size
       omega
 · rcases hw k hk with h1 | h1
   · exact .inl (h.yv k h1)
   · exact .inr ⟨h1, (ht.own.lt k hk).2⟩
 · rintro k (e | e)
   · exact e ▸ h.yt
   · exact h.yv k e

theorem It.kept {w0 W wr W8 : World} {lo : Nat} {Y : Nat → Prop} {bt bw : Nat} {v : Value} {l : List Nat} (h : It w0 W wr lo Y bt bw v l) (hk : Keep Y wr W8) : It w0 W W8 lo Y bt bw v l := by
 refine ⟨⟨hk.row h.told.box h.yt, ⟨h.told.own.1, ?_⟩⟩, hk.row h.was h.yw, h.keep.trans (hk.mono h.x), h.x, h.yt, h.yw, h.yv, h.size.1, Nat.le_trans h.size.2.1 hk.size, h.size.2.2⟩
 rcases h.told.own.2 with hn | ⟨g, cap, cur, e, h1, h2, rest⟩
 · exact .inl hn
 · exact .inr ⟨g, cap, cur, e, h1, hk.row h2 (h.yv g (by rw [e]; rfl)), rest⟩

set_option maxHeartbeats 4000000 in
set_option maxRecDepth 100000 in
theorem seq_order {w0 : World} {bg lo gg : Nat} {v0 vs : Value} {rb : Nat → Nat} {n : Nat} {M : Nat → Nat → Bool} (hbg : w0.heap[bg]? = some (.cells #[.pointer (some ⟨gg, 0, none⟩)] 38 (0, 0))) (hlo : lo ≤ bg)
 (hg : Gr w0 lo gg v0 vs rb n n M) (hA : Acyc M n) (hn : n ≤ 1000000) (hn0 : 0 < n) :
 SeqY Tryz.prog 59 #[.pointer (some ⟨bg, 0, none⟩)] (fun x : Nat => #[Value.int .i64 (x : Int)]) (fun xs => xs = ordL M n n) (fun pre x => pre.length < n ∧ x < n) (fun k => lo ≤ k ∧ k < w0.heap.size) w0 := by
 intro l J W hK hJa hY h0
 obtain ⟨ga, cap, rfl, _⟩ := hg.ahead hn0
 have hbg1 := hK.row hbg ⟨hlo, (Array.getElem?_eq_some_iff.1 hbg).1⟩
 have hq := row_cell (j := 0) hbg1 rfl
 have hs1 : (W.alloc (.cells #[.slice none 0 0] 26)).heap.size = W.heap.size + 1 := by
  show (W.heap.push _).size = _
  simp
 have hr2 := alloc1 (W.alloc (.cells #[.slice none 0 0] 26)) (.cells #[.nilFunc] 45)
 rw [hs1] at hr2
 have hfr : ((W.alloc (.cells #[.slice none 0 0] 26)).alloc (.cells #[.nilFunc] 45)).frozen? ⟨W.heap.size + 1, 0, none⟩ = false := free_of_row hr2
 have hqn : ((W.alloc (.cells #[.slice none 0 0] 26)).alloc (.cells #[.nilFunc] 45)).cell? ⟨W.heap.size + 1, 0, none⟩ = some .nilFunc := row_cell hr2 rfl
 have hst := run_store Tryz.prog ((W.alloc (.cells #[.slice none 0 0] 26)).alloc (.cells #[.nilFunc] 45)) ⟨W.heap.size + 1, 0, none⟩ (wasV W.heap.size) .plain rfl
 rw [hqn] at hst
 simp only [hfr, wasV] at hst
 have hb3 := on_ (below_one W (.cells #[.slice none 0 0] 26)) (below_one (W.alloc (.cells #[.slice none 0 0] 26)) (.cells #[wasV W.heap.size] 45))
 have hr4 := alloc1 (W.alloc (.cells #[.slice none 0 0] 26)) (.cells #[wasV W.heap.size] 45)
 have hr3 := row_on (below_one (W.alloc (.cells #[.slice none 0 0] 26)) (.cells #[wasV W.heap.size] 45)) (alloc1 W (.cells #[.slice none 0 0] 26))
 rw [hs1] at hr4
 have HS := Aside0.mk (And.intro hb3 (And.intro hr3 hr4))
 have hgK := hg.keep hK (fun k h1 h2 => ⟨h1, h2⟩)
 have hqg := row_cell (j := 0) (row_on hb3 hgK.box) rfl
 have hqb := row_cell (j := 0) (row_on hb3 hbg1) rfl
 clear hr2 hqn hb3 hr3 hr4
 simp only [wasV] at hqg hqb
 refine callsIn_of_wp Tryz.func59 rfl trivial ?_ rfl
 simp only [Tryz.ntmps59, List.size_toArray, List.length_cons, List.length_nil, Nat.reduceAdd, Nat.reduceSub, Array.replicate_succ, Array.replicate_zero, List.push_toArray, List.append_toArray, List.nil_append, List.cons_append]
 obtain ⟨i3, hi3, hz3, hs3, hb3⟩ := info_parts int_info
 have HI := Aside0.mk (And.intro hi3 (And.intro hz3 (And.intro hs3 hb3)))
 have hJ1 := hJa _ _ _ _ h0 (Chg.of_below HS.out.1)
 have hIt : It w0 W ((W.alloc (.cells #[.slice none 0 0] 26)).alloc (.cells #[wasV W.heap.size] 45)) lo (More (fun k => lo ≤ k ∧ k < w0.heap.size) W ((W.alloc (.cells #[.slice none 0 0] 26)).alloc (.cells #[wasV W.heap.size] 45))) W.heap.size (W.heap.size + 1) (.slice none 0 0) [] :=
  ⟨⟨HS.out.2.1, World.ownsRow_nil _ _ _ _⟩, HS.out.2.2, hK.trans ⟨HS.out.1.size, fun k hk => HS.out.1.block k (Nat.lt_of_lt_of_le hk.2 hK.size)⟩, fun k hk => .inl hk,
   .inr ⟨Nat.le_refl _, (Array.getElem?_eq_some_iff.1 HS.out.2.1).1⟩, .inr ⟨Nat.le_succ _, (Array.getElem?_eq_some_iff.1 HS.out.2.2).1⟩, fun k hk => (by cases hk), hK.size, HS.out.1.size, Nat.le_refl _⟩
 have H0 := Aside0.mk (And.intro hJ1 hIt)
 have HY := Aside0.mk (And.intro hJa hY)
 have HG := Aside0.mk (And.intro hbg (And.intro hlo (And.intro hg hA)))
 clear hi3 hz3 hs3 hb3 hJ1 hIt hJa hY hg hbg hA h0 hK hgK hbg1 hlo
 have eg : ∀ args w, (callFunc 61 args).run Tryz.prog w = .ok (.enter 61 args) w := fun _ _ => by kernel_rfl
 simp only [wasV] at H0
 gi_wp2
 generalize hW2 : World.alloc (World.alloc W _) _ = W2 at *
 clear hqg hqb hs1
 gi_loopw [14] (fun v14 wr => ∃ (t : Nat) (Y : Nat → Prop) (v : Value), t ≤ n ∧ v14 = .int .i64 (t : Int) ∧ J (ordL M n t) Y wr ∧ It w0 W wr lo Y W.heap.size (W.heap.size + 1) v (ordL M n t)) (fun v14 _ => n - (intOf v14).toNat)
 case atStart => exact ⟨0, _, _, Nat.zero_le _, rfl, H0.out.1, H0.out.2⟩
 case round =>
  obtain ⟨t, Y, v, ht, rfl, hJ, hI⟩ := hrel
  have HR := Aside0.mk (And.intro hJ hI)
  clear hJ hI H0
  by_cases hlt : t < n
  · have hd2 : decide ((t : Int) < (n : Int)) = true := decide_eq_true (by omega)
    obtain ⟨x, xs, hsel, hxn, hxt⟩ := (ordL_ok HG.out.2.2.2 (Nat.le_of_lt hlt)).2.2 hlt
    have hgr := HG.out.2.2.1.keep HR.out.2.keep (fun k h1 h2 => ⟨h1, h2⟩)
    have hbgr := HR.out.2.keep.row HG.out.1 ⟨HG.out.2.1, (Array.getElem?_eq_some_iff.1 HG.out.1).1⟩
    have hqb := row_cell (j := 0) hbgr rfl
    have hlen := ordL_len M n t
    have hthose := Aside0.mk (those_calls 61 gg _ cap n _ #[.pointer (some ⟨W.heap.size + 1, 0, none⟩), .pointer (some ⟨bg, 0, none⟩)] (nextP M n (ordL M n t)) _ eg (fun W2 k hk hb => by simpa using next_calls (HR.out.2.told.on hb) (row_on hb HR.out.2.was) (row_on hb hbgr) (hgr.on hb) (by omega) hn hk) hgr.box hn)
    have hnx : ordL M n (t + 1) = ordL M n t ++ [x] := by rw [ordL, hsel]; rfl
    rw [hsel] at hthose
    have HX := Aside0.mk (And.intro hsel (And.intro hxt hnx))
    clear hgr hbgr hsel hxt hnx
    generalize ordL M n t = l0 at *
    gi_wp2_with (first | (refine ⟨trivial, ?_⟩; gi_at_call 19; refine (callsIn_wide.2 hthose.out).mono ?_; rintro e w5 ⟨⟨v5, rfl, hown5⟩, hb5⟩; obtain ⟨g5, cap5, rfl⟩ := own_some hown5; have hx5 : w5.cell? ⟨g5, 0, none⟩ = some (.int .i64 (x : Int)) := (by have := hown5.cells (g := g5) rfl 0 (.int .i64 (x : Int)) rfl; rw [Addr.add_lit] at this; exact this); have HT5 := Aside0.mk (And.intro hb5 (HR.out.2.told.on hb5)); have hq5 := row_cell (j := 0) HT5.out.2.box rfl; clear hown5 hb5) | (gi_at_builtin; refine wpListIn_append_where _ rfl (.tmp 21) (.tmp 23) 26 rfl W.heap.size 3 i3 (.int .i64 0) 8 Tryz.underlying26 HI.out.1 HI.out.2.1 HI.out.2.2.1 HI.out.2.2.2 rfl v l0.length (selV l0) rfl (HT5.out.2.own.alloc _) ⟨w5.heap.size, 0, none⟩ 1 (.int .i64 (x : Int)) rfl (one_new _ _ _) (by intro u hu; simp at hu; subst hu; rfl) (by unfold maxLen; omega) (by omega) (by have := HR.out.2.size.2.1; have := HT5.out.1.size; simp; omega) ?_; intro v6 w6 hown6 hgr6 hwh6; have hown6' := hown6; rw [hlen] at hown6'; obtain ⟨g6, cap6, rfl⟩ := own_some hown6'; clear hown6'; have HL := Aside0.mk (laid HR.out.2.told HT5.out.1 hown6 hgr6); have hc6 := row_cell (j := 0) HL.out.1 rfl; have hf6 := free_of_row (j := 0) HL.out.1; have HN := Aside0.mk (HR.out.2.chg HL.out.2.2 HL.out.2.1 (fun k hk => (hwh6 k hk).imp_right fun h => Nat.le_trans (Nat.le_trans HT5.out.1.size (below_one w5 _).size) h)); obtain ⟨fn7, tmps7, assign7, body7, hy7, hR7⟩ := HY.out.2 l0 _ x _ (HY.out.1 _ _ _ _ HR.out.1 HN.out.2) ⟨by omega, hxn⟩; replace hR7 := Aside0.mk hR7; clear hown6 hgr6 hwh6))
    refine hR7.out.mono ?_
    rintro e W8 ⟨rfl, hJ8, hk8⟩
    have H8 := Aside0.mk (And.intro hJ8 hk8)
    clear hJ8 hk8
    gi_wp2
    go_roundw
    case rel => exact ⟨t + 1, _, _, hlt, by go_num, by rw [HX.out.2.2]; exact H8.out.1, by rw [HX.out.2.2]; exact HN.out.1.kept H8.out.2⟩
    case measure => simp [intOf]; omega
  · have ht' : t = n := by omega
    subst ht'
    have hd2 : decide ((t : Int) < (t : Int)) = false := decide_eq_false (by omega)
    gi_wp2
    go_end0
    exact ⟨⟨_, rfl⟩, _, _, rfl, HR.out.1⟩
end Go.Proofs.YthlgcibckakhbaaGreatDoor.Pl

/- slices.Sort at a slice of one's own. -/
namespace Go.Proofs.YthlgcibckakhbaaGreatDoor.Pl
open Go.RowKit Go.Sort

/-- What sorting leaves. -/
structure Sorted (W W' : World) (base : Nat) (v : Value) (l : List Nat) : Prop where
 own : W'.ownsRow base 3 1 v l.length (selV l)
 chg : Chg (fun k => v.ownBlock = some k) W W'
theorem put_row {W : World} {base g cap k : Nat} {L L' : List Nat} {os : Array Obj} (h : W.ownsRow base 3 1 (.slice (some ⟨g, 0, none⟩) L.length cap) L.length (selV L)) (hl : L'.length = L.length) :
 Sorted W (grow (putRow (Value.int .i64) (Sort.ahead W k) g 0 (intsOf L').toArray) os) base (.slice (some ⟨g, 0, none⟩) L.length cap) L' := by
 rcases h.2 with ⟨h1, _⟩ | ⟨g', cap', cur, h1, hb, hg, hn, hc, hs, ht⟩
 · cases h1
 · injection h1 with e1 e2 e3
   injection e1 with e1
   injection e1 with e1
   subst e1 e3
   have hlt : g < W.heap.size := (Array.getElem?_eq_some_iff.1 hg).1
   have hget : ∀ q, q < W.heap.size → (grow (putRow (Value.int .i64) (Sort.ahead W k) g 0 (intsOf L').toArray) os).heap[q]? = (W.heap.modify g (onCells (putCells (Value.int .i64) 0 (intsOf L').toArray)))[q]? := fun q hq => by
    show ((W.heap.modify g (onCells (putCells (Value.int .i64) 0 (intsOf L').toArray))) ++ os)[q]? = _
    rw [Array.getElem?_append_left (by rw [Array.size_modify]; exact hq)]
   refine ⟨⟨?_, .inr ⟨g, cap, putCells (Value.int .i64) 0 (intsOf L').toArray cur, by rw [hl], hb, ?_, by rw [hl]; exact hn, hc, ?_, ?_⟩⟩, ?_⟩
   · unfold selV
     simp
   · rw [hget g hlt, Array.getElem?_modify, if_pos rfl, hg]
     rfl
   · unfold putCells
     rw [Array.size_mapIdx]
     exact hs
   · have hcl : L.length ≤ cur.size := by omega
     apply List.ext_getElem?
     intro j
     rw [List.getElem?_take]
     unfold selV
     rw [List.getElem?_map]
     by_cases hj : j < L'.length
     · rw [if_pos (by omega)]
       unfold putCells
       rw [Array.getElem?_toList, Array.getElem?_mapIdx, Array.getElem?_eq_getElem (by omega)]
       have hz : (intsOf L').length = L'.length := intsOf_len L'
       have hj2 : j < (intsOf L').toArray.size := by simpa [hz] using hj
       rw [List.getElem?_eq_getElem hj]
       simp only [Option.map_some]
       rw [if_pos ⟨Nat.zero_le _, by rw [Nat.zero_add]; exact hj2⟩, Nat.sub_zero, getElem!_pos _ j hj2]
       simp [intsOf]
     · rw [if_neg (by omega), List.getElem?_eq_none (by omega)]
       rfl
   · refine ⟨rfl, rfl, rfl, ?_, fun q hq hx => ?_⟩
     · show W.heap.size ≤ ((W.heap.modify g _) ++ os).size
       rw [Array.size_append, Array.size_modify]
       exact Nat.le_add_right _ _
     · rw [hget q hq, Array.getElem?_modify, if_neg (fun e => hx (by rw [e]; rfl))]

theorem sort_calls {W : World} {base : Nat} {v : Value} {L L' : List Nat} (h : W.ownsRow base 3 1 v L.length (selV L)) (hs : (intsOf L).mergeSort (fun x y => decide (x ≤ y)) = intsOf L') (hl : L.length ≤ 1000000) :
 Calls Tryz.prog 40 #[v] W fun e w' => e = .returned (.tuple #[]) ∧ Sorted W w' base v L' := by
 have hll : L'.length = L.length := by
  have := congrArg List.length hs
  rw [intsOf_len, List.length_mergeSort, intsOf_len] at this
  omega
 by_cases hL : L.length = 0
 · have e1 : L = [] := List.eq_nil_of_length_eq_zero hL
   have e2 : L' = [] := List.eq_nil_of_length_eq_zero (by omega)
   subst e1 e2
   obtain ⟨A, c, rfl, _⟩ := own_reads h
   refine (Tryz.slices_Sort_int_none A c W).mono ?_
   rintro e w' ⟨rfl, rfl⟩
   exact ⟨rfl, h, Chg.refl _ _⟩
 · obtain ⟨g, cap, e⟩ : ∃ g cap, v = .slice (some ⟨g, 0, none⟩) L.length cap := by
    rcases h.2 with ⟨_, h1⟩ | ⟨g, cap, cur, h1, _⟩
    · exact absurd h1 hL
    · exact ⟨g, cap, h1⟩
   subst e
   have hc := h.cells (g := g) rfl
   have hlen := intsOf_len L
   have hlt := (h.lt g rfl).2
   have := Tryz.slices_Sort_int g 0 cap (intsOf L) W (fun j hj => ⟨?_, ?_⟩) hlt (by rw [hlen]; omega)
   · rw [hlen, hs] at this
     refine this.mono ?_
     rintro e w' ⟨rfl, n, os, rfl⟩
     exact ⟨rfl, put_row h hll⟩
   · have hj2 : j < L.length := by simpa [hlen] using hj
     have := hc j (.int .i64 ((L[j] : Nat) : Int)) (by unfold selV; simp [hj2])
     rw [Addr.add_lit] at this
     rw [getElem!_pos _ j hj, this]
     simp [intsOf]
   · rcases h.2 with ⟨h1, _⟩ | ⟨g', cap', cur, h1, hb, hg, _⟩
     · cases h1
     · injection h1 with e1 e2 e3
       injection e1 with e1
       injection e1 with e1
       subst e1
       exact free_of_row hg
end Go.Proofs.YthlgcibckakhbaaGreatDoor.Pl

/- A graph's ordered: the walk, by hand. -/
namespace Go.Proofs.YthlgcibckakhbaaGreatDoor.Pl
open Go.RowKit Go.IntWalk Go.Shelf Go.Proofs.YthlgcibckakhbaaGreatDoorW.PrintWords Go.Proofs.YthlgcibckakhbaaGreatDoor.PlName
attribute [local go_sem] Oper.semAt_some

/-- The loop that collects, between two rounds. -/
structure Col (w w4 W : World) (lo bo bi : Nat) (fv : Value) (Y : Nat → Prop) (v : Value) (l : List Nat) : Prop where
 told : Told W bo w.heap.size v l
 is_ : W.heap[bi]? = some (.cells #[fv] 45 (0, 0))
 yo : ¬ Y bo
 yi : ¬ Y bi
 yv : ∀ k, v.ownBlock = some k → ¬ Y k
 ylo : ∀ k, Y k → lo ≤ k ∧ k < W.heap.size
 below : Below w.heap.size w W
 size : w4.heap.size ≤ W.heap.size ∧ lo ≤ w4.heap.size ∧ w.heap.size ≤ lo ∧ w.heap.size ≤ bo
section
variable {w w4 W W2 : World} {lo bo bi : Nat} {fv : Value} {Y Y' : Nat → Prop} {v v' : Value} {l : List Nat} {x : Nat}
theorem Col.chg (h : Col w w4 W lo bo bi fv Y v l) (hc : Chg Y W W2) : Col w w4 W2 lo bo bi fv (More Y W W2) v l := by
 have hbo := (Array.getElem?_eq_some_iff.1 h.told.box).1
 have hbi := (Array.getElem?_eq_some_iff.1 h.is_).1
 have hs := h.size
 have hs2 := hc.size
 refine ⟨⟨hc.row h.told.box h.yo, ownsRow_chg h.told.own hc h.yv⟩, hc.row h.is_ h.yi, ?_, ?_, fun k hk => ?_, fun k hk => ?_, h.below.trans (hc.below (by omega) fun k hk => by have := (h.ylo k hk).1; omega), by omega⟩
 · rintro (e | e)
   · exact h.yo e
   · omega
 · rintro (e | e)
   · exact h.yi e
   · omega
 · have := (h.told.own.lt k hk).2
   rintro (e | e)
   · exact h.yv k hk e
   · omega
 · rcases hk with hk | hk
   · have := h.ylo k hk
     omega
   · omega
theorem Col.mono (h : Col w w4 W lo bo bi fv Y v l) (hy : ∀ k, Y' k → Y k) : Col w w4 W lo bo bi fv Y' v l :=
 ⟨h.told, h.is_, fun e => h.yo (hy _ e), fun e => h.yi (hy _ e), fun k hk e => h.yv k hk (hy _ e), fun k hk => h.ylo k (hy k hk), h.below, h.size⟩
theorem Col.put (h : Col w w4 W lo bo bi fv Y v l) {q : Nat} {o o' : Obj} (hq : w4.heap.size ≤ q) (ho : W.heap[q]? = some o) (hno : o.isCells = false) : Col w w4 (W.putObj q o') lo bo bi fv Y v l := by
 have hk : ∀ {k : Nat} {a : Array Value} {t : Nat}, W.heap[k]? = some (.cells a t (0, 0)) → (W.putObj q o').heap[k]? = some (.cells a t (0, 0)) := fun {k a t} hr => by
  refine (World.putObj_heap_other (fun e => ?_)).trans hr
  subst e
  rw [ho] at hr
  injection hr with hr
  subst hr
  cases hno
 have hs := h.size
 refine ⟨⟨hk h.told.box, ⟨h.told.own.1, ?_⟩⟩, hk h.is_, h.yo, h.yi, h.yv, fun k hy => by have := h.ylo k hy; simp; omega, h.below.trans ⟨rfl, rfl, rfl, by simp, fun k hk => World.putObj_heap_other (by omega)⟩, by simp; omega⟩
 rcases h.told.own.2 with hn | ⟨g, cap, cur, e, h1, h2, rest⟩
 · exact .inl hn
 · exact .inr ⟨g, cap, cur, e, h1, hk h2, rest⟩
theorem Col.on (h : Col w w4 W lo bo bi fv Y v l) (hb : Below W.heap.size W W2) : Col w w4 W2 lo bo bi fv Y v l := by
 have hs := h.size
 have hs2 := hb.size
 exact ⟨h.told.on hb, row_on hb h.is_, h.yo, h.yi, h.yv, fun k hy => by have := h.ylo k hy; omega, on_ h.below hb, by omega⟩
/-- One more is collected. -/
theorem Col.push (h : Col w w4 W lo bo bi fv Y v l) (hc : Chg (fun k => k = bo ∨ v.ownBlock = some k) W W2) (ht : Told W2 bo w.heap.size v' (l ++ [x])) (hw : ∀ k, v'.ownBlock = some k → v.ownBlock = some k ∨ W.heap.size ≤ k) :
 Col w w4 W2 lo bo bi fv Y v' (l ++ [x]) ∧ Keep Y W W2 := by
 have hs := h.size
 have hs2 := hc.size
 refine ⟨⟨ht, hc.row h.is_ ?_, h.yo, h.yi, fun k hk => ?_, fun k hy => by have := h.ylo k hy; omega, h.below.trans (hc.below (by omega) ?_), by omega⟩, Keep.of_chg hc fun k hk => ⟨(h.ylo k hk).2, ?_⟩⟩
 · rintro (e | e)
   · subst e
     have h1 := h.is_.symm.trans h.told.box
     simp at h1
   · rcases h.told.own.2 with ⟨e2, _⟩ | ⟨g, cap, cur, e2, _, h2, _⟩
     · rw [e2] at e
       cases e
     · rw [e2] at e
       injection e with e
       have e : g = bi := e
       subst e
       have h1 := h.is_.symm.trans h2
       simp at h1
 · intro hy
   rcases hw k hk with h1 | h1
   · exact h.yv k h1 hy
   · have := (h.ylo k hy).2
     omega
 · rintro k (e | e)
   · omega
   · exact (h.told.own.lt k e).1
 · rintro (e | e)
   · exact h.yo (e ▸ hk)
   · exact h.yv k e hk
end
theorem chg_putObj (w : World) (l : Nat) (o : Obj) : Chg (· = l) w (w.putObj l o) := ⟨rfl, rfl, rfl, by simp, fun k _ hk => World.putObj_heap_other hk⟩
theorem keepsFrom_chg {B : Nat} {X : Nat → Prop} {W W' : World} (h : Chg X W W') (hx : ∀ k, X k → ∀ o, W.heap[k]? = some o → o.isCells = true) : KeepsFrom B W W' :=
 ⟨h.size, fun k o _ hk ho => (h.block k (Array.getElem?_eq_some_iff.1 hk).1 fun e => by rw [hx k e o hk] at ho; cases ho).trans hk⟩
theorem keepsFrom_below {B : Nat} {W W' : World} (h : Below W.heap.size W W') : KeepsFrom B W W' :=
 ⟨h.size, fun k o _ hk _ => (h.block k (Array.getElem?_eq_some_iff.1 hk).1).trans hk⟩

set_option maxHeartbeats 8000000 in
set_option maxRecDepth 100000 in
theorem ordered_calls (nm : ByteArray) (l : List Step) (A : Option Addr) (c : Nat) (w : World) (P : Option Addr) (gi : Nat) (ba lb : Array Value) (p : Nat → Bool) (hnm : nm.size ≤ 140737488351232) (hS : StepsAt w A l) (hb : ∀ s ∈ l, StepB s) (hn : l.length ≤ 1000000) (hc : l.length ≤ c) (hT : TabsAt w)
 (hok : defOk nm l = true) (hA : Acyc (wars (direct l) l.length) l.length) (eg : ∀ args w, (callFunc gi args).run Tryz.prog w = .ok (.enter gi args) w) (hp : Tells w gi ba lb p l.length) :
 Calls Tryz.prog 28 #[.pointer P, .agg #[.string nm, .slice A l.length c], .func (.func gi) ba lb] w fun e w' => (∃ v, e = .returned v ∧ Own w w' v (sel p l.length)) ∧ Below w.heap.size w w' := by
 have hl0 := (defOk_len hok).1
 have hs1 : (w.alloc (.cells #[.string nm, .slice A l.length c] 24)).heap.size = w.heap.size + 1 := by
  show (w.heap.push _).size = _
  simp
 have hs2 : ((w.alloc (.cells #[.string nm, .slice A l.length c] 24)).alloc (.cells #[.func (.func gi) ba lb] 45)).heap.size = w.heap.size + 1 + 1 := by
  show ((w.alloc (.cells #[.string nm, .slice A l.length c] 24)).heap.push _).size = _
  simp [hs1]
 have b1 := below_one w (.cells #[.string nm, .slice A l.length c] 24)
 have b2 := below_one (w.alloc (.cells #[.string nm, .slice A l.length c] 24)) (.cells #[.func (.func gi) ba lb] 45)
 have b3 := below_one ((w.alloc (.cells #[.string nm, .slice A l.length c] 24)).alloc (.cells #[.func (.func gi) ba lb] 45)) (.cells #[.slice none 0 0] 26)
 have r2 := row_on b3 (alloc1 (w.alloc (.cells #[.string nm, .slice A l.length c] 24)) (.cells #[.func (.func gi) ba lb] 45))
 have r3 := alloc1 ((w.alloc (.cells #[.string nm, .slice A l.length c] 24)).alloc (.cells #[.func (.func gi) ba lb] 45)) (.cells #[.slice none 0 0] 26)
 rw [hs1] at r2
 rw [hs2] at r3
 have b03 := on_ b1 (on_ b2 b3)
 have ho := Aside0.mk (order_calls nm l A c _ hnm (hS.below b03) hb (by omega) hc (tabs_on hT b03))
 rw [hok] at ho
 have HW := Aside0.mk (And.intro b03 (And.intro r2 r3))
 have HA := Aside0.mk (And.intro hp hA)
 clear b1 b2 b3 r2 r3 b03 hS hb hT hp hA hs1 hs2
 refine (callsIn_wide (n := 5)).1 ?_
 refine callsIn_of_wp_marks Tryz.func28 rfl trivial ?_ rfl
 simp only [Tryz.ntmps28, List.size_toArray, List.length_cons, List.length_nil, Nat.reduceAdd, Nat.reduceSub, Array.replicate_succ, Array.replicate_zero, List.push_toArray, List.append_toArray, List.nil_append, List.cons_append]
 gi_wp2_with (first | (refine ⟨trivial, ?_⟩; gi_at_call 37; refine (callsIn_wide.2 ho.out).mono ?_; rintro e w4 ⟨⟨bg, rfl, hlo, gg, v, rb, hbg, hg⟩, hb4⟩; have H4 := Aside0.mk (And.intro hlo (And.intro hbg (And.intro hg hb4))); clear hlo hbg hg hb4))
 generalize hW3 : World.alloc (World.alloc (World.alloc w _) _) _ = W3 at *
 have HN := Aside0.mk (fun pre => sel_len (p := p) pre)
 obtain ⟨i3, hi3, hz3, hs3, hb3⟩ := info_parts int_info
 have HI := Aside0.mk (And.intro hi3 (And.intro hz3 (And.intro hs3 hb3)))
 clear hi3 hz3 hs3 hb3 HN
 have h34 := H4.out.2.2.2.size
 have hw3 := HW.out.1.size
 have e50 : ∀ args w, (callFunc 59 args).run Tryz.prog w = .ok (.enter 59 args) w := fun _ _ => by kernel_rfl
 have h0 : Col w w4 w4 W3.heap.size (w.heap.size + 1 + 1) (w.heap.size + 1) (.func (.func gi) ba lb) (fun k => W3.heap.size ≤ k ∧ k < w4.heap.size) (.slice none 0 0) ([].filter p) := by
  have q2 := (Array.getElem?_eq_some_iff.1 HW.out.2.2).1
  exact ⟨⟨row_on H4.out.2.2.2 HW.out.2.2, World.ownsRow_nil _ _ _ _⟩, row_on H4.out.2.2.2 HW.out.2.1, fun e => by omega, fun e => by omega, fun k hk => (by cases hk), fun k hk => hk, on_ HW.out.1 H4.out.2.2.2, by omega⟩
 refine wpIn_rangeFunc_Y (gf := 59) (lb := #[.pointer (some ⟨bg, 0, none⟩)]) rfl e50 (seq_order H4.out.2.1 H4.out.1 H4.out.2.2.1 HA.out.2 hn hl0) (Keep.refl _ _) (fun k hk => hk.2) (fun _ => rfl)
  (fun pre Y W => ∃ v, Col w w4 W W3.heap.size (w.heap.size + 1 + 1) (w.heap.size + 1) (.func (.func gi) ba lb) Y v (pre.filter p) ∧ pre.length ≤ l.length)
  (fun pre Y W1 W2 ⟨v, h, hl⟩ hc => ⟨v, h.chg hc, hl⟩) (fun pre Y Y' W ⟨v, h, hl⟩ hy => ⟨v, h.mono hy, hl⟩) (fun pre Y W q o o' ⟨v, h, hl⟩ hq ho hno => ⟨v, h.put hq ho hno, hl⟩)
  ⟨_, h0, Nat.zero_le _⟩
  (fun x => { tmps := #[.pointer P, .agg #[.string nm, .slice A l.length c], .func (.func gi) ba lb, undef, .pointer (some ⟨w.heap.size, 0, none⟩), .pointer (some ⟨w.heap.size + 1, 0, none⟩), .slice none 0 0, .pointer (some ⟨w.heap.size + 1 + 1, 0, none⟩), .int .i64 (x : Int), .agg #[.string nm, .slice A l.length c], .func (.func 59) #[] #[.pointer (some ⟨bg, 0, none⟩)], .int .i64 (x : Int), undef, undef, undef, undef, undef, undef, undef, undef, undef, undef], defers := [] }) ?assign ?body ?done
 case assign =>
  intro l x W K hK
  gi_wp2
  exact hK
 case body =>
  rintro q pre x Y W ⟨v, hcol, hpl⟩ ⟨hlen, hx⟩
  have HC := Aside0.mk hcol
  have hq1 := row_cell (j := 0) hcol.is_ rfl
  have hcall : Calls Tryz.prog gi (ba.push (.int .i64 (x : Int)) ++ lb) W fun e w' => e = .returned (.bool (p x)) ∧ Below W.heap.size W w' := by simpa using HA.out.1 W x hx hcol.below
  replace hcall := Aside0.mk hcall
  have hfl : (pre.filter p).length ≤ pre.length := List.length_filter_le _ _
  have hw : w.heap.size ≤ W.heap.size := hcol.below.size
  clear hcol
  cases hpx : p x
  · rw [hpx] at hcall
    have HF : Aside0 ((pre ++ [x]).filter p = pre.filter p) := ⟨by rw [List.filter_append]; simp [hpx]⟩
    gi_wp2
    refine ⟨trivial, (CallsIn.inRound q (callsIn_wide.2 hcall.out)).mono ?_⟩
    rintro e w5 ⟨rfl, hb5⟩
    have H5 := Aside0.mk hb5
    clear hb5
    gi_wp2
    exact ⟨keepsFrom_below H5.out, ⟨H5.out.size, fun k hk => H5.out.block k (HC.out.ylo k hk).2⟩, v, by rw [HF.out]; exact HC.out.on H5.out, by simp; omega⟩
  · rw [hpx] at hcall
    have HF : Aside0 ((pre ++ [x]).filter p = pre.filter p ++ [x]) := ⟨by rw [List.filter_append]; simp [hpx]⟩
    gi_wp2
    refine ⟨trivial, (CallsIn.inRound q (callsIn_wide.2 hcall.out)).mono ?_⟩
    rintro e w5 ⟨rfl, hb5⟩
    have H5 := Aside0.mk (And.intro hb5 (HC.out.told.on hb5))
    have hw5 := hb5.size
    have hq5 := row_cell (j := 0) H5.out.2.box rfl
    clear hb5
    generalize pre.filter p = l0 at *
    gi_wp2_with (first | (gi_at_builtin; refine wpListIn_append_where _ rfl (.tmp 15) (.tmp 17) 26 rfl w.heap.size 3 i3 (.int .i64 0) 8 Tryz.underlying26 HI.out.1 HI.out.2.1 HI.out.2.2.1 HI.out.2.2.2 rfl v l0.length (selV l0) rfl (H5.out.2.own.alloc _) ⟨w5.heap.size, 0, none⟩ 1 (.int .i64 (x : Int)) rfl (one_new _ _ _) (by intro u hu; simp at hu; subst hu; rfl) (by unfold maxLen; omega) (by omega) (by simp; omega) ?_; intro v6 w6 hown6 hgr6 hwh6; obtain ⟨g6, cap6, rfl⟩ := own_some hown6; have HL := Aside0.mk (laid HC.out.told H5.out.1 hown6 hgr6); have hc6 := row_cell (j := 0) HL.out.1 rfl; have hf6 := free_of_row (j := 0) HL.out.1; have HN := Aside0.mk (HC.out.push HL.out.2.2 HL.out.2.1 (fun k hk => (hwh6 k hk).imp_right fun h => Nat.le_trans (Nat.le_trans H5.out.1.size (below_one w5 _).size) h)); clear hown6 hgr6 hwh6))
    refine ⟨keepsFrom_chg HL.out.2.2 (fun k hk o ho => ?_), HN.out.2, _, by rw [HF.out]; exact HN.out.1, by simp; omega⟩
    rcases hk with e | e
    · subst e
      rw [HC.out.told.box] at ho
      injection ho with ho
      subst ho
      rfl
    · rcases HC.out.told.own.2 with ⟨e2, _⟩ | ⟨g, cap, cur, e2, _, h2, _⟩
      · rw [e2] at e
        cases e
      · rw [e2] at e
        injection e with e
        have e : g = k := e
        subst e
        rw [h2] at ho
        injection ho with ho
        subst ho
        rfl
 case done =>
  rintro D ys Y W hD rfl ⟨v, hcol, _⟩ hK
  have HC := Aside0.mk hcol
  have hq1 := row_cell (j := 0) hcol.told.box rfl
  have hfl : ((ordL (wars (direct l) l.length) l.length l.length).filter p).length ≤ 1000000 := Nat.le_trans (List.length_filter_le _ _) (by rw [ordL_len]; omega)
  have hso := Aside0.mk (sort_calls hcol.told.own (L' := sel p l.length) (ord_sort HA.out.2 p) hfl)
  have hvb : v.ownBlock ≠ some (w.heap.size + 1 + 1) := fun e => by
   rcases hcol.told.own.2 with ⟨e2, _⟩ | ⟨g, cap, cur, e2, _, h2, _⟩
   · rw [e2] at e
     cases e
   · rw [e2] at e
     injection e with e
     have e : g = w.heap.size + 1 + 1 := e
     subst e
     have h3 := h2.symm.trans hcol.told.box
     simp at h3
  replace hvb := Aside0.mk hvb
  replace hK := Aside0.mk hK
  clear hcol hfl
  gi_wp2_with (first | (refine ⟨trivial, ?_⟩; gi_at_call 40; refine (callsIn_wide.2 hso.out).mono ?_; rintro e w6 ⟨rfl, hs6⟩; have H6 := Aside0.mk hs6; have hq6 := row_cell (j := 0) (hs6.chg.row HC.out.told.box hvb.out) rfl; clear hs6))
  have hvd : v.ownBlock ≠ some D := fun e => by
   rcases HC.out.told.own.2 with ⟨e2, _⟩ | ⟨g, cap, cur, e2, _, h2, _⟩
   · rw [e2] at e
     cases e
   · rw [e2] at e
     injection e with e
     have e : g = D := e
     subst e
     have h3 := h2.symm.trans hK.out
     simp at h3
  have hK6 := H6.out.chg.row hK.out hvd
  refine ⟨by simp, .inl ⟨_, _, rfl, run_takeDeferred hK6, ?_⟩⟩
  have hbw := HC.out.below.trans (H6.out.chg.below HC.out.below.size fun k hk => (HC.out.told.own.lt k hk).1)
  have hcp := chg_putObj w6 D (.deferred none)
  exact ⟨_, results_tmp rfl _ _ _, ⟨v, rfl, ownsRow_chg H6.out.own hcp fun k hk e => hvd (by rw [hk]; exact congrArg some e)⟩, hbw.trans (hcp.below hbw.size fun k hk => by have hk : k = D := hk; omega)⟩
end Go.Proofs.YthlgcibckakhbaaGreatDoor.Pl

/- odysseylaw12.told: the walk, by hand. -/
namespace Go.Proofs.YthlgcibckakhbaaGreatDoor.Pl
open Go.RowKit Go.IntWalk Go.Shelf Go.Proofs.YthlgcibckakhbaaGreatDoorW.PrintWords Go.Proofs.YthlgcibckakhbaaGreatDoor.PlName
attribute [local go_sem] Oper.semAt_some

/-- The loop that collects, between two rounds. -/
structure Col0 (w w4 W : World) (lo bo : Nat) (Y : Nat → Prop) (v : Value) (l : List Nat) : Prop where
 told : Told W bo w.heap.size v l
 yo : ¬ Y bo
 yv : ∀ k, v.ownBlock = some k → ¬ Y k
 ylo : ∀ k, Y k → lo ≤ k ∧ k < W.heap.size
 below : Below w.heap.size w W
 size : w4.heap.size ≤ W.heap.size ∧ lo ≤ w4.heap.size ∧ w.heap.size ≤ lo ∧ w.heap.size ≤ bo
section
variable {w w4 W W2 : World} {lo bo : Nat} {Y Y' : Nat → Prop} {v v' : Value} {l : List Nat} {x : Nat}
theorem Col0.chg (h : Col0 w w4 W lo bo Y v l) (hc : Chg Y W W2) : Col0 w w4 W2 lo bo (More Y W W2) v l := by
 have hbo := (Array.getElem?_eq_some_iff.1 h.told.box).1
 have hs := h.size
 have hs2 := hc.size
 refine ⟨⟨hc.row h.told.box h.yo, ownsRow_chg h.told.own hc h.yv⟩, ?_, fun k hk => ?_, fun k hk => ?_, h.below.trans (hc.below (by omega) fun k hk => by have := (h.ylo k hk).1; omega), by omega⟩
 · rintro (e | e)
   · exact h.yo e
   · omega
 · have := (h.told.own.lt k hk).2
   rintro (e | e)
   · exact h.yv k hk e
   · omega
 · rcases hk with hk | hk
   · have := h.ylo k hk
     omega
   · omega
theorem Col0.mono (h : Col0 w w4 W lo bo Y v l) (hy : ∀ k, Y' k → Y k) : Col0 w w4 W lo bo Y' v l :=
 ⟨h.told, fun e => h.yo (hy _ e), fun k hk e => h.yv k hk (hy _ e), fun k hk => h.ylo k (hy k hk), h.below, h.size⟩
theorem Col0.put (h : Col0 w w4 W lo bo Y v l) {q : Nat} {o o' : Obj} (hq : w4.heap.size ≤ q) (ho : W.heap[q]? = some o) (hno : o.isCells = false) : Col0 w w4 (W.putObj q o') lo bo Y v l := by
 have hk : ∀ {k : Nat} {a : Array Value} {t : Nat}, W.heap[k]? = some (.cells a t (0, 0)) → (W.putObj q o').heap[k]? = some (.cells a t (0, 0)) := fun {k a t} hr => by
  refine (World.putObj_heap_other (fun e => ?_)).trans hr
  subst e
  rw [ho] at hr
  injection hr with hr
  subst hr
  cases hno
 have hs := h.size
 refine ⟨⟨hk h.told.box, ⟨h.told.own.1, ?_⟩⟩, h.yo, h.yv, fun k hy => by have := h.ylo k hy; simp; omega, h.below.trans ⟨rfl, rfl, rfl, by simp, fun k hk => World.putObj_heap_other (by omega)⟩, by simp; omega⟩
 rcases h.told.own.2 with hn | ⟨g, cap, cur, e, h1, h2, rest⟩
 · exact .inl hn
 · exact .inr ⟨g, cap, cur, e, h1, hk h2, rest⟩
theorem Col0.on (h : Col0 w w4 W lo bo Y v l) (hb : Below W.heap.size W W2) : Col0 w w4 W2 lo bo Y v l := by
 have hs := h.size
 have hs2 := hb.size
 exact ⟨h.told.on hb, h.yo, h.yv, fun k hy => by have := h.ylo k hy; omega, on_ h.below hb, by omega⟩
/-- One more is collected. -/
theorem Col0.push (h : Col0 w w4 W lo bo Y v l) (hc : Chg (fun k => k = bo ∨ v.ownBlock = some k) W W2) (ht : Told W2 bo w.heap.size v' (l ++ [x])) (hw : ∀ k, v'.ownBlock = some k → v.ownBlock = some k ∨ W.heap.size ≤ k) :
 Col0 w w4 W2 lo bo Y v' (l ++ [x]) ∧ Keep Y W W2 := by
 have hs := h.size
 have hs2 := hc.size
 refine ⟨⟨ht, h.yo, fun k hk => ?_, fun k hy => by have := h.ylo k hy; omega, h.below.trans (hc.below (by omega) ?_), by omega⟩, Keep.of_chg hc fun k hk => ⟨(h.ylo k hk).2, ?_⟩⟩
 · intro hy
   rcases hw k hk with h1 | h1
   · exact h.yv k h1 hy
   · have := (h.ylo k hy).2
     omega
 · rintro k (e | e)
   · omega
   · exact (h.told.own.lt k e).1
 · rintro (e | e)
   · exact h.yo (e ▸ hk)
   · exact h.yv k e hk
end

theorem eq_nilf (W : World) (bg : Nat) : (binOp .eql 60 (.func (.func 59) #[] #[.pointer (some ⟨bg, 0, none⟩)]) .nilFunc).run Tryz.prog W = .ok (.bool false) W := by kernel_rfl

set_option maxHeartbeats 8000000 in
set_option maxRecDepth 100000 in
theorem told_calls (nm : ByteArray) (l : List Step) (A : Option Addr) (c : Nat) (w : World) (hnm : nm.size ≤ 140737488351232) (hS : StepsAt w A l) (hb : ∀ s ∈ l, StepB s) (hn : l.length ≤ 1000000) (hc : l.length ≤ c) (hT : TabsAt w)
 (hok : defOk nm l = true) (hA : Acyc (wars (direct l) l.length) l.length) :
 Calls Tryz.prog 26 #[.agg #[.string nm, .slice A l.length c]] w fun e w' => (∃ v, e = .returned v ∧ Own w w' v (ordL (wars (direct l) l.length) l.length l.length)) ∧ Below w.heap.size w w' := by
 have hl0 := (defOk_len hok).1
 have hs1 : (w.alloc (.cells #[.string nm, .slice A l.length c] 24)).heap.size = w.heap.size + 1 := by
  show (w.heap.push _).size = _
  simp
 have b1 := below_one w (.cells #[.string nm, .slice A l.length c] 24)
 have b2 := below_one (w.alloc (.cells #[.string nm, .slice A l.length c] 24)) (.cells #[.slice none 0 0] 26)
 have r2 := alloc1 (w.alloc (.cells #[.string nm, .slice A l.length c] 24)) (.cells #[.slice none 0 0] 26)
 rw [hs1] at r2
 have b03 := on_ b1 b2
 have ho := Aside0.mk (order_calls nm l A c _ hnm (hS.below b03) hb (by omega) hc (tabs_on hT b03))
 rw [hok] at ho
 have HW := Aside0.mk (And.intro b03 r2)
 replace hA := Aside0.mk hA
 clear b1 b2 r2 b03 hS hb hT hs1
 have hen := eq_nilf
 refine (callsIn_wide (n := 5)).1 ?_
 refine callsIn_of_wp_marks Tryz.func26 rfl trivial ?_ rfl
 simp only [Tryz.ntmps26, List.size_toArray, List.length_cons, List.length_nil, Nat.reduceAdd, Nat.reduceSub, Array.replicate_succ, Array.replicate_zero, List.push_toArray, List.append_toArray, List.nil_append, List.cons_append]
 gi_wp2_with (first | (refine ⟨trivial, ?_⟩; gi_at_call 37; refine (callsIn_wide.2 ho.out).mono ?_; rintro e w4 ⟨⟨bg, rfl, hlo, gg, v, rb, hbg, hg⟩, hb4⟩; have H4 := Aside0.mk (And.intro hlo (And.intro hbg (And.intro hg hb4))); clear hlo hbg hg hb4))
 generalize hW3 : World.alloc (World.alloc w _) _ = W3 at *
 obtain ⟨i3, hi3, hz3, hs3, hb3⟩ := info_parts int_info
 have HI := Aside0.mk (And.intro hi3 (And.intro hz3 (And.intro hs3 hb3)))
 clear hi3 hz3 hs3 hb3
 have h34 := H4.out.2.2.2.size
 have hw3 := HW.out.1.size
 have e50 : ∀ args w, (callFunc 59 args).run Tryz.prog w = .ok (.enter 59 args) w := fun _ _ => by kernel_rfl
 have h0 : Col0 w w4 w4 W3.heap.size (w.heap.size + 1) (fun k => W3.heap.size ≤ k ∧ k < w4.heap.size) (.slice none 0 0) [] := by
  have q2 := (Array.getElem?_eq_some_iff.1 HW.out.2).1
  exact ⟨⟨row_on H4.out.2.2.2 HW.out.2, World.ownsRow_nil _ _ _ _⟩, fun e => by omega, fun k hk => (by cases hk), fun k hk => hk, on_ HW.out.1 H4.out.2.2.2, by omega⟩
 refine wpIn_rangeFunc_Y (gf := 59) (lb := #[.pointer (some ⟨bg, 0, none⟩)]) rfl e50 (seq_order H4.out.2.1 H4.out.1 H4.out.2.2.1 hA.out hn hl0) (Keep.refl _ _) (fun k hk => hk.2) (fun _ => rfl)
  (fun pre Y W => ∃ v, Col0 w w4 W W3.heap.size (w.heap.size + 1) Y v pre)
  (fun pre Y W1 W2 ⟨v, h⟩ hc => ⟨v, h.chg hc⟩) (fun pre Y Y' W ⟨v, h⟩ hy => ⟨v, h.mono hy⟩) (fun pre Y W q o o' ⟨v, h⟩ hq ho hno => ⟨v, h.put hq ho hno⟩)
  ⟨_, h0⟩
  (fun x => { tmps := #[.agg #[.string nm, .slice A l.length c], .pointer (some ⟨w.heap.size, 0, none⟩), .slice none 0 0, .pointer (some ⟨w.heap.size + 1, 0, none⟩), .func (.func 59) #[] #[.pointer (some ⟨bg, 0, none⟩)], .int .i64 (x : Int), .agg #[.string nm, .slice A l.length c], .func (.func 59) #[] #[.pointer (some ⟨bg, 0, none⟩)], .func (.func 59) #[] #[.pointer (some ⟨bg, 0, none⟩)], .bool false, undef, .func (.func 59) #[] #[.pointer (some ⟨bg, 0, none⟩)], .int .i64 (x : Int), undef, undef, undef, undef, undef], defers := [] }) ?assign ?body ?done
 case assign =>
  intro l x W K hK
  gi_wp2
  exact hK
 case body =>
  rintro q pre x Y W ⟨v, hcol⟩ ⟨hlen, hx⟩
  have HC := Aside0.mk hcol
  have hq1 := row_cell (j := 0) hcol.told.box rfl
  have hw : w.heap.size ≤ W.heap.size := hcol.below.size
  clear hcol
  gi_wp2_with (first | (gi_at_builtin; refine wpListIn_append_where _ rfl (.tmp 13) (.tmp 15) 26 rfl w.heap.size 3 i3 (.int .i64 0) 8 Tryz.underlying26 HI.out.1 HI.out.2.1 HI.out.2.2.1 HI.out.2.2.2 rfl v pre.length (selV pre) rfl (HC.out.told.own.alloc _) ⟨W.heap.size, 0, none⟩ 1 (.int .i64 (x : Int)) rfl (one_new _ _ _) (by intro u hu; simp at hu; subst hu; rfl) (by unfold maxLen; omega) (by omega) (by simp; omega) ?_; intro v6 w6 hown6 hgr6 hwh6; obtain ⟨g6, cap6, rfl⟩ := own_some hown6; have HL := Aside0.mk (laid HC.out.told (Below.refl _ _) hown6 hgr6); have hc6 := row_cell (j := 0) HL.out.1 rfl; have hf6 := free_of_row (j := 0) HL.out.1; have HN := Aside0.mk (HC.out.push HL.out.2.2 HL.out.2.1 (fun k hk => (hwh6 k hk).imp_right fun h => Nat.le_trans (below_one W _).size h)); clear hown6 hgr6 hwh6))
  refine ⟨keepsFrom_chg HL.out.2.2 (fun k hk o ho => ?_), HN.out.2, _, HN.out.1⟩
  rcases hk with e | e
  · subst e
    rw [HC.out.told.box] at ho
    injection ho with ho
    subst ho
    rfl
  · rcases HC.out.told.own.2 with ⟨e2, _⟩ | ⟨g, cap, cur, e2, _, h2, _⟩
    · rw [e2] at e
      cases e
    · rw [e2] at e
      injection e with e
      have e : g = k := e
      subst e
      rw [h2] at ho
      injection ho with ho
      subst ho
      rfl
 case done =>
  rintro D ys Y W hD rfl ⟨v, hcol⟩ hK
  have HC := Aside0.mk hcol
  have hq1 := row_cell (j := 0) hcol.told.box rfl
  replace hK := Aside0.mk hK
  clear hcol
  gi_wp2
  have hvd : v.ownBlock ≠ some D := fun e => by
   rcases HC.out.told.own.2 with ⟨e2, _⟩ | ⟨g, cap, cur, e2, _, h2, _⟩
   · rw [e2] at e
     cases e
   · rw [e2] at e
     injection e with e
     have e : g = D := e
     subst e
     have h3 := h2.symm.trans hK.out
     simp at h3
  refine ⟨by simp, .inl ⟨_, _, rfl, run_takeDeferred hK.out, ?_⟩⟩
  have hbw := HC.out.below
  have hcp := chg_putObj W D (.deferred none)
  exact ⟨_, results_tmp rfl _ _ _, ⟨v, rfl, ownsRow_chg HC.out.told.own hcp fun k hk e => hvd (by rw [hk]; exact congrArg some e)⟩, hbw.trans (hcp.below hbw.size fun k hk => by have hk : k = D := hk; omega)⟩
end Go.Proofs.YthlgcibckakhbaaGreatDoor.Pl

/- plan.Ready, plan.Undo: the walks, by hand. -/
namespace Go.Proofs.YthlgcibckakhbaaGreatDoor.Pl
open Go.RowKit Go.IntWalk Go.Proofs.YthlgcibckakhbaaGreatDoorW.PrintWords Go.Proofs.YthlgcibckakhbaaGreatDoor.PlName

theorem defOk_acyc {nm : ByteArray} {l : List Step} (h : defOk nm l = true) : Acyc (wars (direct l) l.length) l.length := by
 obtain ⟨h1, h8, hal⟩ := defOk_len h
 unfold defOk at h
 simp only [Bool.and_eq_true, decide_eq_true_eq] at h
 have ho := h.2.2.2.2.1
 have hr := h.2.2.2.2.2.1
 have hk : ∀ k, k < l.length → 1 ≤ (stepAt l k).kind ∧ (stepAt l k).kind ≤ 3 := fun k hk => by
  have := hal k hk
  unfold aloneOk at this
  simp only [Bool.and_eq_true, decide_eq_true_eq] at this
  exact this.2.2.1
 have hi : ∀ x y, direct l x y = true → x < l.length ∧ y < l.length := fun x y h => direct_in h
 refine ⟨fun x k y _ _ _ h1 h2 => ?_, fun x hx => ?_⟩
 · rw [wars_all hi] at h1 h2 ⊢
   exact h1.trans h2
 · cases hc : wars (direct l) l.length x x
   · rfl
   · rw [wars_all hi] at hc
     exact absurd hc (no_ring (down_of hk ho) hr hx)
noncomputable def readyL (nm : ByteArray) (l : List Step) (st : List Int) : List Nat := if (defOk nm l && stsOk st l.length) = true then sel (readyF (wars (direct l) l.length) st l.length) l.length else []
noncomputable def undoL (nm : ByteArray) (l : List Step) (st : List Int) : List Nat := if (defOk nm l && stsOk st l.length) = true then sel (undoF (wars (direct l) l.length) st l.length) l.length else []
theorem ready_tells {w : World} {lo gg : Nat} {v : Value} {A : Option Addr} {c : Nat} {st : List Int} {rb : Nat → Nat} {n : Nat} {M : Nat → Nat → Bool} (h : GrS w lo gg v A c st rb n M) (hn : n ≤ 1000000) : Tells w 29 #[.pointer (some ⟨gg, 0, none⟩)] #[] (readyF M st n) n := fun W k hk hb => by
 have := ready_calls (h.on hb) hk hn
 simpa using this

set_option maxHeartbeats 8000000 in
set_option maxRecDepth 100000 in
theorem ready_at (nm : ByteArray) (l : List Step) (A : Option Addr) (c : Nat) (B : Option Addr) (cs : Nat) (st : List Int) (w : World) (hnm : nm.size ≤ 140737488351232) (hS : StepsAt w A l) (hb : ∀ s ∈ l, StepB s) (hn : l.length ≤ 9000000000000) (hc : l.length ≤ c) (hT : TabsAt w)
 (hs : Kd.C (Kd.int .i64) w B st.length st) (hsl : st.length ≤ 9000000000000000000) :
 Calls Tryz.prog 14 #[.agg #[.string nm, .slice A l.length c], .slice B st.length cs] w fun e w' => (∃ v, e = .returned v ∧ Own w w' v (readyL nm l st)) ∧ Below w.heap.size w w' := by
 have hb2 := below_one w (.cells #[.string nm, .slice A l.length c] 24)
 have hri := alloc1 w (.cells #[.string nm, .slice A l.length c] 24)
 have hm := made_calls nm l A c _ hnm (hS.below hb2) hb (by omega) hc (tabs_on hT hb2)
 have HW := Aside0.mk (And.intro hb2 hri)
 have HA := Aside0.mk (And.intro hS (And.intro hb (And.intro hT hs)))
 have HR : Aside0 (readyL nm l st = if (defOk nm l && stsOk st l.length) = true then sel (readyF (wars (direct l) l.length) st l.length) l.length else []) := ⟨rfl⟩
 have HD := Aside0.mk (fun h => And.intro (defOk_len (nm := nm) (l := l) h) (defOk_acyc (nm := nm) (l := l) h))
 generalize readyL nm l st = rr at *
 clear hb2 hri hS hb hT hs
 cases hok : defOk nm l
 · rw [hok] at hm HR
   replace hm := Aside0.mk hm
   go_enter Tryz.func14, Tryz.ntmps14
   go_wp2_with (first | (go_at_call 18; refine hm.out.mono ?_; rintro e w3 ⟨he, hb3⟩; cases he; have H3 := Aside0.mk (on_ HW.out.1 hb3); clear hb3) | (go_at_call 27; refine (with_nil B st.length cs _).mono ?_; rintro e w4 ⟨rfl, hb4⟩; have H4 := Aside0.mk hb4; clear hb4))
   go_ret
   exact ⟨⟨_, rfl, by rw [HR.out]; exact own_nil _ _⟩, on_ H3.out H4.out⟩
 · rw [hok] at hm HR
   obtain ⟨⟨hl1, hl8, _⟩, hA⟩ := HD.out hok
   replace hm := Aside0.mk hm
   replace hA := Aside0.mk (And.intro hA hok)
   clear HD hok
   have hw := Aside0.mk (fun (w3 : World) (gg : Nat) (v : Value) (rb : Nat → Nat) (hg : Gr w3 (w.alloc (.cells #[.string nm, .slice A l.length c] 24)).heap.size gg v (.slice none 0 0) rb l.length l.length (wars (direct l) l.length)) (hb3 : Below w.heap.size w w3) =>
    with_calls _ gg v (.slice none 0 0) B cs st rb l.length _ w3 hg (fun W hW => Kd.C_below HA.out.2.2.2 (hb3.trans (hW.below hb3.size fun k hk => by have hk : k = gg := hk; have := hg.lo_.1; have := HW.out.1.size; omega))) hsl hl1)
   go_enter Tryz.func14, Tryz.ntmps14
   cases hst : stsOk st l.length
   · rw [hst] at hw HR
     go_wp2_with (first | (go_at_call 18; refine hm.out.mono ?_; rintro e w3 ⟨⟨gg, v, rb, rfl, hg⟩, hb3⟩; have H3 := Aside0.mk (And.intro hg (on_ HW.out.1 hb3)); clear hb3 hg) | (go_at_call 27; refine (hw.out w3 gg v rb H3.out.1 H3.out.2).mono ?_; rintro e w4 ⟨he, hc4⟩; cases he; have H4 := Aside0.mk hc4; clear hc4))
     go_ret
     exact ⟨⟨_, rfl, by rw [HR.out]; exact own_nil _ _⟩, H3.out.2.trans (H4.out.below H3.out.2.size fun k hk => by have hk : k = gg := hk; have := H3.out.1.lo_.1; have := HW.out.1.size; omega)⟩
   · rw [hst] at hw HR
     have eg : ∀ args w, (callFunc 29 args).run Tryz.prog w = .ok (.enter 29 args) w := fun _ _ => by kernel_rfl
     have hbk : Aside0 (∀ (w3 w4 : World) (gg : Nat) (v : Value) (rb : Nat → Nat), Gr w3 (w.alloc (.cells #[.string nm, .slice A l.length c] 24)).heap.size gg v (.slice none 0 0) rb l.length l.length (wars (direct l) l.length) → Below (w.alloc (.cells #[.string nm, .slice A l.length c] 24)).heap.size (w.alloc (.cells #[.string nm, .slice A l.length c] 24)) w3 → Chg (· = gg) w3 w4 → Below w.heap.size w w4 ∧ w4.heap[w.heap.size]? = some (.cells #[.string nm, .slice A l.length c] 24 (0, 0))) := ⟨fun w3 w4 gg v rb hg hb3 hc => by
      have h1 := on_ HW.out.1 hb3
      have h2 := hg.lo_.1
      have h3 := (Array.getElem?_eq_some_iff.1 HW.out.2).1
      exact ⟨h1.trans (hc.below h1.size fun k hk => by have hk : k = gg := hk; omega), hc.row (row_on hb3 HW.out.2) (fun e => by have e : w.heap.size = gg := e; omega)⟩⟩
     go_wp2_with (first | (go_at_call 18; refine hm.out.mono ?_; rintro e w3 ⟨⟨gg, v, rb, rfl, hg⟩, hb3⟩; have H3 := Aside0.mk (And.intro hg (And.intro (on_ HW.out.1 hb3) hb3)); clear hb3 hg) | (go_at_call 27; refine (hw.out w3 gg v rb H3.out.1 H3.out.2.1).mono ?_; rintro e w4 ⟨⟨rfl, hg4⟩, hc4⟩; have H4 := Aside0.mk (And.intro hg4 (hbk.out w3 w4 gg v rb H3.out.1 H3.out.2.2 hc4)); have hq0 := row_cell (j := 0) H4.out.2.2 rfl; have hq1 := row_cell (j := 1) H4.out.2.2 rfl; clear hc4 hg4) | (go_at_call 28; refine (ordered_calls nm l A c w4 _ 29 _ _ (readyF (wars (direct l) l.length) st l.length) hnm (HA.out.1.below H4.out.2.1) HA.out.2.1 (by omega) hc (tabs_on HA.out.2.2.1 H4.out.2.1) hA.out.2 hA.out.1 eg (ready_tells H4.out.1 (by omega))).mono ?_; rintro e w5 ⟨⟨v5, rfl, ho5⟩, hb5⟩; have H5 := Aside0.mk (And.intro ho5 hb5); clear ho5 hb5))
     go_ret
     refine ⟨⟨_, rfl, ?_⟩, on_ H4.out.2.1 H5.out.2⟩
     rw [HR.out]
     exact H5.out.1.low H4.out.2.1.size

theorem undo_tells {w : World} {lo gg : Nat} {v : Value} {A : Option Addr} {c : Nat} {st : List Int} {rb : Nat → Nat} {n : Nat} {M : Nat → Nat → Bool} (h : GrS w lo gg v A c st rb n M) (hn : n ≤ 1000000) : Tells w 30 #[.pointer (some ⟨gg, 0, none⟩)] #[] (undoF M st n) n := fun W k hk hb => by
 have := undo_calls (h.on hb) hk hn
 simpa using this

set_option maxHeartbeats 8000000 in
set_option maxRecDepth 100000 in
theorem undo_at (nm : ByteArray) (l : List Step) (A : Option Addr) (c : Nat) (B : Option Addr) (cs : Nat) (st : List Int) (w : World) (hnm : nm.size ≤ 140737488351232) (hS : StepsAt w A l) (hb : ∀ s ∈ l, StepB s) (hn : l.length ≤ 9000000000000) (hc : l.length ≤ c) (hT : TabsAt w)
 (hs : Kd.C (Kd.int .i64) w B st.length st) (hsl : st.length ≤ 9000000000000000000) :
 Calls Tryz.prog 15 #[.agg #[.string nm, .slice A l.length c], .slice B st.length cs] w fun e w' => (∃ v, e = .returned v ∧ Own w w' v (undoL nm l st)) ∧ Below w.heap.size w w' := by
 have hb2 := below_one w (.cells #[.string nm, .slice A l.length c] 24)
 have hri := alloc1 w (.cells #[.string nm, .slice A l.length c] 24)
 have hm := made_calls nm l A c _ hnm (hS.below hb2) hb (by omega) hc (tabs_on hT hb2)
 have HW := Aside0.mk (And.intro hb2 hri)
 have HA := Aside0.mk (And.intro hS (And.intro hb (And.intro hT hs)))
 have HR : Aside0 (undoL nm l st = if (defOk nm l && stsOk st l.length) = true then sel (undoF (wars (direct l) l.length) st l.length) l.length else []) := ⟨rfl⟩
 have HD := Aside0.mk (fun h => And.intro (defOk_len (nm := nm) (l := l) h) (defOk_acyc (nm := nm) (l := l) h))
 generalize undoL nm l st = rr at *
 clear hb2 hri hS hb hT hs
 cases hok : defOk nm l
 · rw [hok] at hm HR
   replace hm := Aside0.mk hm
   go_enter Tryz.func15, Tryz.ntmps15
   go_wp2_with (first | (go_at_call 18; refine hm.out.mono ?_; rintro e w3 ⟨he, hb3⟩; cases he; have H3 := Aside0.mk (on_ HW.out.1 hb3); clear hb3) | (go_at_call 27; refine (with_nil B st.length cs _).mono ?_; rintro e w4 ⟨rfl, hb4⟩; have H4 := Aside0.mk hb4; clear hb4))
   go_ret
   exact ⟨⟨_, rfl, by rw [HR.out]; exact own_nil _ _⟩, on_ H3.out H4.out⟩
 · rw [hok] at hm HR
   obtain ⟨⟨hl1, hl8, _⟩, hA⟩ := HD.out hok
   replace hm := Aside0.mk hm
   replace hA := Aside0.mk (And.intro hA hok)
   clear HD hok
   have hw := Aside0.mk (fun (w3 : World) (gg : Nat) (v : Value) (rb : Nat → Nat) (hg : Gr w3 (w.alloc (.cells #[.string nm, .slice A l.length c] 24)).heap.size gg v (.slice none 0 0) rb l.length l.length (wars (direct l) l.length)) (hb3 : Below w.heap.size w w3) =>
    with_calls _ gg v (.slice none 0 0) B cs st rb l.length _ w3 hg (fun W hW => Kd.C_below HA.out.2.2.2 (hb3.trans (hW.below hb3.size fun k hk => by have hk : k = gg := hk; have := hg.lo_.1; have := HW.out.1.size; omega))) hsl hl1)
   go_enter Tryz.func15, Tryz.ntmps15
   cases hst : stsOk st l.length
   · rw [hst] at hw HR
     go_wp2_with (first | (go_at_call 18; refine hm.out.mono ?_; rintro e w3 ⟨⟨gg, v, rb, rfl, hg⟩, hb3⟩; have H3 := Aside0.mk (And.intro hg (on_ HW.out.1 hb3)); clear hb3 hg) | (go_at_call 27; refine (hw.out w3 gg v rb H3.out.1 H3.out.2).mono ?_; rintro e w4 ⟨he, hc4⟩; cases he; have H4 := Aside0.mk hc4; clear hc4))
     go_ret
     exact ⟨⟨_, rfl, by rw [HR.out]; exact own_nil _ _⟩, H3.out.2.trans (H4.out.below H3.out.2.size fun k hk => by have hk : k = gg := hk; have := H3.out.1.lo_.1; have := HW.out.1.size; omega)⟩
   · rw [hst] at hw HR
     have eg : ∀ args w, (callFunc 30 args).run Tryz.prog w = .ok (.enter 30 args) w := fun _ _ => by kernel_rfl
     have hbk : Aside0 (∀ (w3 w4 : World) (gg : Nat) (v : Value) (rb : Nat → Nat), Gr w3 (w.alloc (.cells #[.string nm, .slice A l.length c] 24)).heap.size gg v (.slice none 0 0) rb l.length l.length (wars (direct l) l.length) → Below (w.alloc (.cells #[.string nm, .slice A l.length c] 24)).heap.size (w.alloc (.cells #[.string nm, .slice A l.length c] 24)) w3 → Chg (· = gg) w3 w4 → Below w.heap.size w w4 ∧ w4.heap[w.heap.size]? = some (.cells #[.string nm, .slice A l.length c] 24 (0, 0))) := ⟨fun w3 w4 gg v rb hg hb3 hc => by
      have h1 := on_ HW.out.1 hb3
      have h2 := hg.lo_.1
      have h3 := (Array.getElem?_eq_some_iff.1 HW.out.2).1
      exact ⟨h1.trans (hc.below h1.size fun k hk => by have hk : k = gg := hk; omega), hc.row (row_on hb3 HW.out.2) (fun e => by have e : w.heap.size = gg := e; omega)⟩⟩
     go_wp2_with (first | (go_at_call 18; refine hm.out.mono ?_; rintro e w3 ⟨⟨gg, v, rb, rfl, hg⟩, hb3⟩; have H3 := Aside0.mk (And.intro hg (And.intro (on_ HW.out.1 hb3) hb3)); clear hb3 hg) | (go_at_call 27; refine (hw.out w3 gg v rb H3.out.1 H3.out.2.1).mono ?_; rintro e w4 ⟨⟨rfl, hg4⟩, hc4⟩; have H4 := Aside0.mk (And.intro hg4 (hbk.out w3 w4 gg v rb H3.out.1 H3.out.2.2 hc4)); have hq0 := row_cell (j := 0) H4.out.2.2 rfl; have hq1 := row_cell (j := 1) H4.out.2.2 rfl; clear hc4 hg4) | (go_at_call 28; refine (ordered_calls nm l A c w4 _ 30 _ _ (undoF (wars (direct l) l.length) st l.length) hnm (HA.out.1.below H4.out.2.1) HA.out.2.1 (by omega) hc (tabs_on HA.out.2.2.1 H4.out.2.1) hA.out.2 hA.out.1 eg (undo_tells H4.out.1 (by omega))).mono ?_; rintro e w5 ⟨⟨v5, rfl, ho5⟩, hb5⟩; have H5 := Aside0.mk (And.intro ho5 hb5); clear ho5 hb5))
     go_ret
     refine ⟨⟨_, rfl, ?_⟩, on_ H4.out.2.1 H5.out.2⟩
     rw [HR.out]
     exact H5.out.1.low H4.out.2.1.size

end Go.Proofs.YthlgcibckakhbaaGreatDoor.Pl

/- odysseyref11.twice, keys, needs: the walks, by hand. -/
namespace Go.Proofs.YthlgcibckakhbaaGreatDoor.Pl
open Go.RowKit Go.IntWalk Go.Proofs.YthlgcibckakhbaaGreatDoorW.PrintWords Go.Proofs.YthlgcibckakhbaaGreatDoorW.PrintLast Go.Proofs.YthlgcibckakhbaaGreatDoorW.PrintMore Go.Proofs.YthlgcibckakhbaaGreatDoor.PlName

theorem twice_false {l : List Step} {i : Nat} {s : Step} (h : ∀ j, j < i → j < l.length → ((stepAt l j).name.toList == s.name.toList) = false) : twice l i s = false := by
 unfold twice
 rw [List.any_eq_false]
 intro x hx
 obtain ⟨j, hj, e⟩ := List.getElem_of_mem hx
 rw [List.length_take] at hj
 rw [List.getElem_take] at e
 have h1 := h j (by omega) (by omega)
 have h2 : stepAt l j = x := by
  have h3 := stepAt_eq (l := l) (i := j) (by omega)
  rw [List.getElem?_eq_getElem (by omega)] at h3
  rw [← e]
  exact (Option.some.inj h3).symm
 rw [h2] at h1
 rw [h1]
 simp
theorem twice_true {l : List Step} {i j : Nat} {s : Step} (hj : j < i) (hl : j < l.length) (h : ((stepAt l j).name.toList == s.name.toList) = true) : twice l i s = true := by
 unfold twice
 rw [List.any_eq_true]
 refine ⟨stepAt l j, ?_, h⟩
 rw [List.mem_iff_getElem?]
 exact ⟨j, by rw [List.getElem?_take, if_pos hj]; exact stepAt_eq hl⟩

set_option maxHeartbeats 4000000 in
set_option maxRecDepth 100000 in
theorem twiceR_calls (nm : ByteArray) (l : List Step) (ad : Addr) (c : Nat) (i : Nat) (w : World) (hS : StepsAt w (some ad) l) (hi : i < l.length) (hl : l.length ≤ 8) :
 Calls Tryz.prog 75 #[.agg #[.string nm, .slice (some ad) l.length c], .int .i64 (i : Int)] w fun e w' => e = .returned (.bool (twice l i (stepAt l i))) ∧ Below w.heap.size w w' := by
 have HB0 := Aside0.mk (And.intro (below_one w (.cells #[.string nm, .slice (some ad) l.length c] 24)) (alloc1 w (.cells #[.string nm, .slice (some ad) l.length c] 24)))
 replace hS := Aside0.mk hS
 go_enter Tryz.func75, Tryz.ntmps75
 go_wp2
 generalize World.alloc w _ = w0 at *
 go_loopw [5] (fun v5 wr => ∃ k : Nat, k ≤ i ∧ v5 = .int .i64 (k : Int) ∧ (∀ j, j < k → ((stepAt l j).name.toList == (stepAt l i).name.toList) = false) ∧ Below w0.heap.size w0 wr) (fun v5 _ => i - (intOf v5).toNat)
 case atStart => exact ⟨0, Nat.zero_le _, rfl, fun j hj => absurd hj (Nat.not_lt_zero _), Below.refl _ _⟩
 case round =>
  obtain ⟨k, hk, rfl, hal, hB⟩ := hrel
  have HG := Aside0.mk (And.intro hal (on_ HB0.out.1 hB))
  have hq1 := row_cell (j := 1) (row_on hB HB0.out.2) rfl
  have hB2 := Aside0.mk hB
  clear hal hB
  by_cases hlt : k < i
  · have hd2 : decide ((k : Int) < (i : Int)) = true := decide_eq_true (by omega)
    obtain ⟨_, e1, A1, c1, A2, c2, h1⟩ := hS.out.one (stepAt_eq (l := l) (i := k) (by omega))
    cases e1
    obtain ⟨_, e2, B1, d1, B2, d2, h2⟩ := hS.out.one (stepAt_eq hi)
    cases e2
    have hn1 := (h1.below HG.out.2).c0
    have hn2 := (h2.below HG.out.2).c0
    clear h1 h2
    have hkl : k < l.length := by omega
    have hcase := Aside0.mk (And.intro (fun h => twice_true (l := l) (i := i) (j := k) (s := stepAt l i) hlt hkl h) HG.out.1)
    generalize hn3 : (stepAt l k).name = n1 at *
    generalize (stepAt l i).name = n2 at *
    cases hne : (n1.toList == n2.toList)
    · go_wp2
      refine start_ (n := 13) (S := fun w' => w'.cell? ⟨w.heap.size, 1, none⟩ = some (.slice (some ad) l.length c) ∧ w'.cell? (ad.add (k * 5)) = some (.string n1) ∧ w'.cell? (ad.add (i * 5)) = some (.string n2)) (ds := []) #[false,false,false,false,false,false,false,false,false,false,false,false,false] (by kernel_rfl) rfl rfl ⟨(by go_keep), (by go_keep), (by go_keep)⟩ (fun hHeld => ?_)
      refine pure_ (i := 0) (N := some 11) (v := ?_) (a' := ?_) #[true,false,false,false,false,false,false,false,false,false,false,false,false] rfl rfl (by kernel_rfl) (fun _ _ _ h => h) (Or.inl ⟨by rfl, ?_⟩) ?_ ?_
      rotate_left
      · intro w'
        go_simp
        with_reducible rfl
      rotate_left
      · simp only [Act.put, zA, zB, zC, i64_w, i32_w]
        rfl
      refine pure_ (i := 2) (N := some 13) (v := ?_) (a' := ?_) #[true,false,true,false,false,false,false,false,false,false,false,false,false] rfl rfl (by kernel_rfl) (fun _ _ _ h => h) (Or.inl ⟨by rfl, ?_⟩) ?_ ?_
      rotate_left
      · intro w'
        go_simp
        with_reducible rfl
      rotate_left
      · simp only [Act.put, zA, zB, zC, i64_w, i32_w]
        rfl
      refine pure_ (i := 6) (N := some 17) (v := ?_) (a' := ?_) #[true,false,true,false,false,false,true,false,false,false,false,false,false] rfl rfl (by kernel_rfl) (fun _ _ _ h => h) (Or.inl ⟨by rfl, ?_⟩) ?_ ?_
      rotate_left
      · intro w'
        go_simp
        with_reducible rfl
      rotate_left
      · simp only [Act.put, zA, zB, zC, i64_w, i32_w]
        rfl
      refine pure_ (i := 8) (N := some 19) (v := ?_) (a' := ?_) #[true,false,true,false,false,false,true,false,true,false,false,false,false] rfl rfl (by kernel_rfl) (fun _ _ _ h => h) (Or.inl ⟨by rfl, ?_⟩) ?_ ?_
      rotate_left
      · intro w'
        go_simp
        with_reducible rfl
      rotate_left
      · simp only [Act.put, zA, zB, zC, i64_w, i32_w]
        rfl
      refine take_ (i := 1) (N := some 12) (v := ?_) (a' := ?_) #[true,true,true,false,false,false,true,false,true,false,false,false,false] rfl rfl (by kernel_rfl) (fun _ _ _ h => h) (Or.inl ⟨by rfl, ?_⟩) hHeld ?_ ?_
      rotate_left
      · rintro w' ⟨s0, s1, s2⟩
        go_simp
        with_reducible rfl
      rotate_left
      · simp only [Act.put, zA, zB, zC, i64_w, i32_w]
        rfl
      refine pure_ (i := 3) (N := some 14) (v := ?_) (a' := ?_) #[true,true,true,true,false,false,true,false,true,false,false,false,false] rfl rfl (by kernel_rfl) (fun _ _ _ h => h) (Or.inl ⟨by rfl, ?_⟩) ?_ ?_
      rotate_left
      · intro w'
        go_simp
        with_reducible rfl
      rotate_left
      · simp only [Act.put, zA, zB, zC, i64_w, i32_w]
        rfl
      refine pure_ (i := 4) (N := some 15) (v := ?_) (a' := ?_) #[true,true,true,true,true,false,true,false,true,false,false,false,false] rfl rfl (by kernel_rfl) (fun _ _ _ h => h) (Or.inl ⟨by rfl, ?_⟩) ?_ ?_
      rotate_left
      · intro w'
        go_simp
        with_reducible rfl
      rotate_left
      · simp only [Act.put, zA, zB, zC, i64_w, i32_w]
        rfl
      refine take_ (i := 5) (N := some 16) (v := ?_) (a' := ?_) #[true,true,true,true,true,true,true,false,true,false,false,false,false] rfl rfl (by kernel_rfl) (fun _ _ _ h => h) (Or.inl ⟨by rfl, ?_⟩) hHeld ?_ ?_
      rotate_left
      · rintro w' ⟨s0, s1, s2⟩
        go_simp
        with_reducible rfl
      rotate_left
      · simp only [Act.put, zA, zB, zC, i64_w, i32_w]
        rfl
      refine take_ (i := 7) (N := some 18) (v := ?_) (a' := ?_) #[true,true,true,true,true,true,true,true,true,false,false,false,false] rfl rfl (by kernel_rfl) (fun _ _ _ h => h) (Or.inl ⟨by rfl, ?_⟩) hHeld ?_ ?_
      rotate_left
      · rintro w' ⟨s0, s1, s2⟩
        go_simp
        with_reducible rfl
      rotate_left
      · simp only [Act.put, zA, zB, zC, i64_w, i32_w]
        rfl
      refine pure_ (i := 9) (N := some 20) (v := ?_) (a' := ?_) #[true,true,true,true,true,true,true,true,true,true,false,false,false] rfl rfl (by kernel_rfl) (fun _ _ _ h => h) (Or.inl ⟨by rfl, ?_⟩) ?_ ?_
      rotate_left
      · intro w'
        go_simp
        with_reducible rfl
      rotate_left
      · simp only [Act.put, zA, zB, zC, i64_w, i32_w]
        rfl
      refine pure_ (i := 10) (N := some 21) (v := ?_) (a' := ?_) #[true,true,true,true,true,true,true,true,true,true,true,false,false] rfl rfl (by kernel_rfl) (fun _ _ _ h => h) (Or.inl ⟨by rfl, ?_⟩) ?_ ?_
      rotate_left
      · intro w'
        go_simp
        with_reducible rfl
      rotate_left
      · simp only [Act.put, zA, zB, zC, i64_w, i32_w]
        rfl
      refine take_ (i := 11) (N := some 22) (v := ?_) (a' := ?_) #[true,true,true,true,true,true,true,true,true,true,true,true,false] rfl rfl (by kernel_rfl) (fun _ _ _ h => h) (Or.inl ⟨by rfl, ?_⟩) hHeld ?_ ?_
      rotate_left
      · rintro w' ⟨s0, s1, s2⟩
        go_simp
        with_reducible rfl
      rotate_left
      · simp only [Act.put, zA, zB, zC, i64_w, i32_w]
        rfl
      refine pure_ (i := 12) (N := some 23) (v := ?_) (a' := ?_) #[true,true,true,true,true,true,true,true,true,true,true,true,true] rfl rfl (by kernel_rfl) (fun _ _ _ h => h) (Or.inl ⟨by rfl, ?_⟩) ?_ ?_
      rotate_left
      · intro w'
        go_simp
        with_reducible rfl
      rotate_left
      · simp only [Act.put, zA, zB, zC, i64_w, i32_w]
        rfl
      refine done_ (by kernel_rfl) ?_
      go_wp2
      go_roundw
      case rel => exact ⟨k + 1, hlt, by go_num, fun j hj => by rcases Nat.lt_succ_iff_lt_or_eq.1 hj with h | h; exact hcase.out.2 j h; subst h; rw [hn3]; exact hne, below_drew hB2.out⟩
      case measure => simp [intOf]; omega
    · have HX := Aside0.mk (hcase.out.1 hne)
      go_wp2
      refine start_ (n := 13) (S := fun w' => w'.cell? ⟨w.heap.size, 1, none⟩ = some (.slice (some ad) l.length c) ∧ w'.cell? (ad.add (k * 5)) = some (.string n1) ∧ w'.cell? (ad.add (i * 5)) = some (.string n2)) (ds := []) #[false,false,false,false,false,false,false,false,false,false,false,false,false] (by kernel_rfl) rfl rfl ⟨(by go_keep), (by go_keep), (by go_keep)⟩ (fun hHeld => ?_)
      refine pure_ (i := 0) (N := some 11) (v := ?_) (a' := ?_) #[true,false,false,false,false,false,false,false,false,false,false,false,false] rfl rfl (by kernel_rfl) (fun _ _ _ h => h) (Or.inl ⟨by rfl, ?_⟩) ?_ ?_
      rotate_left
      · intro w'
        go_simp
        with_reducible rfl
      rotate_left
      · simp only [Act.put, zA, zB, zC, i64_w, i32_w]
        rfl
      refine pure_ (i := 2) (N := some 13) (v := ?_) (a' := ?_) #[true,false,true,false,false,false,false,false,false,false,false,false,false] rfl rfl (by kernel_rfl) (fun _ _ _ h => h) (Or.inl ⟨by rfl, ?_⟩) ?_ ?_
      rotate_left
      · intro w'
        go_simp
        with_reducible rfl
      rotate_left
      · simp only [Act.put, zA, zB, zC, i64_w, i32_w]
        rfl
      refine pure_ (i := 6) (N := some 17) (v := ?_) (a' := ?_) #[true,false,true,false,false,false,true,false,false,false,false,false,false] rfl rfl (by kernel_rfl) (fun _ _ _ h => h) (Or.inl ⟨by rfl, ?_⟩) ?_ ?_
      rotate_left
      · intro w'
        go_simp
        with_reducible rfl
      rotate_left
      · simp only [Act.put, zA, zB, zC, i64_w, i32_w]
        rfl
      refine pure_ (i := 8) (N := some 19) (v := ?_) (a' := ?_) #[true,false,true,false,false,false,true,false,true,false,false,false,false] rfl rfl (by kernel_rfl) (fun _ _ _ h => h) (Or.inl ⟨by rfl, ?_⟩) ?_ ?_
      rotate_left
      · intro w'
        go_simp
        with_reducible rfl
      rotate_left
      · simp only [Act.put, zA, zB, zC, i64_w, i32_w]
        rfl
      refine take_ (i := 1) (N := some 12) (v := ?_) (a' := ?_) #[true,true,true,false,false,false,true,false,true,false,false,false,false] rfl rfl (by kernel_rfl) (fun _ _ _ h => h) (Or.inl ⟨by rfl, ?_⟩) hHeld ?_ ?_
      rotate_left
      · rintro w' ⟨s0, s1, s2⟩
        go_simp
        with_reducible rfl
      rotate_left
      · simp only [Act.put, zA, zB, zC, i64_w, i32_w]
        rfl
      refine pure_ (i := 3) (N := some 14) (v := ?_) (a' := ?_) #[true,true,true,true,false,false,true,false,true,false,false,false,false] rfl rfl (by kernel_rfl) (fun _ _ _ h => h) (Or.inl ⟨by rfl, ?_⟩) ?_ ?_
      rotate_left
      · intro w'
        go_simp
        with_reducible rfl
      rotate_left
      · simp only [Act.put, zA, zB, zC, i64_w, i32_w]
        rfl
      refine pure_ (i := 4) (N := some 15) (v := ?_) (a' := ?_) #[true,true,true,true,true,false,true,false,true,false,false,false,false] rfl rfl (by kernel_rfl) (fun _ _ _ h => h) (Or.inl ⟨by rfl, ?_⟩) ?_ ?_
      rotate_left
      · intro w'
        go_simp
        with_reducible rfl
      rotate_left
      · simp only [Act.put, zA, zB, zC, i64_w, i32_w]
        rfl
      refine take_ (i := 5) (N := some 16) (v := ?_) (a' := ?_) #[true,true,true,true,true,true,true,false,true,false,false,false,false] rfl rfl (by kernel_rfl) (fun _ _ _ h => h) (Or.inl ⟨by rfl, ?_⟩) hHeld ?_ ?_
      rotate_left
      · rintro w' ⟨s0, s1, s2⟩
        go_simp
        with_reducible rfl
      rotate_left
      · simp only [Act.put, zA, zB, zC, i64_w, i32_w]
        rfl
      refine take_ (i := 7) (N := some 18) (v := ?_) (a' := ?_) #[true,true,true,true,true,true,true,true,true,false,false,false,false] rfl rfl (by kernel_rfl) (fun _ _ _ h => h) (Or.inl ⟨by rfl, ?_⟩) hHeld ?_ ?_
      rotate_left
      · rintro w' ⟨s0, s1, s2⟩
        go_simp
        with_reducible rfl
      rotate_left
      · simp only [Act.put, zA, zB, zC, i64_w, i32_w]
        rfl
      refine pure_ (i := 9) (N := some 20) (v := ?_) (a' := ?_) #[true,true,true,true,true,true,true,true,true,true,false,false,false] rfl rfl (by kernel_rfl) (fun _ _ _ h => h) (Or.inl ⟨by rfl, ?_⟩) ?_ ?_
      rotate_left
      · intro w'
        go_simp
        with_reducible rfl
      rotate_left
      · simp only [Act.put, zA, zB, zC, i64_w, i32_w]
        rfl
      refine pure_ (i := 10) (N := some 21) (v := ?_) (a' := ?_) #[true,true,true,true,true,true,true,true,true,true,true,false,false] rfl rfl (by kernel_rfl) (fun _ _ _ h => h) (Or.inl ⟨by rfl, ?_⟩) ?_ ?_
      rotate_left
      · intro w'
        go_simp
        with_reducible rfl
      rotate_left
      · simp only [Act.put, zA, zB, zC, i64_w, i32_w]
        rfl
      refine take_ (i := 11) (N := some 22) (v := ?_) (a' := ?_) #[true,true,true,true,true,true,true,true,true,true,true,true,false] rfl rfl (by kernel_rfl) (fun _ _ _ h => h) (Or.inl ⟨by rfl, ?_⟩) hHeld ?_ ?_
      rotate_left
      · rintro w' ⟨s0, s1, s2⟩
        go_simp
        with_reducible rfl
      rotate_left
      · simp only [Act.put, zA, zB, zC, i64_w, i32_w]
        rfl
      refine pure_ (i := 12) (N := some 23) (v := ?_) (a' := ?_) #[true,true,true,true,true,true,true,true,true,true,true,true,true] rfl rfl (by kernel_rfl) (fun _ _ _ h => h) (Or.inl ⟨by rfl, ?_⟩) ?_ ?_
      rotate_left
      · intro w'
        go_simp
        with_reducible rfl
      rotate_left
      · simp only [Act.put, zA, zB, zC, i64_w, i32_w]
        rfl
      refine done_ (by kernel_rfl) ?_
      go_wp2
      go_ret
      rw [HX.out]
      exact ⟨rfl, below_drew HG.out.2⟩
  · have hk' : k = i := by omega
    subst hk'
    have hd2 : decide ((k : Int) < (k : Int)) = false := decide_eq_false (by omega)
    have HX := Aside0.mk (twice_false (l := l) (i := k) (s := stepAt l k) fun j h1 _ => HG.out.1 j h1)
    go_wp2
    go_ret
    rw [HX.out]
    exact ⟨rfl, HG.out.2⟩
set_option maxHeartbeats 8000000 in
set_option maxRecDepth 100000 in
theorem keysR_calls (s : Step) (A1 : Option Addr) (c1 : Nat) (v2 : Value) (n2 c2 : Nat) (A2 : Option Addr) (w : World) (hv2 : v2 = .slice A2 n2 c2) (hk : Kd.C Kd.string w A1 s.keys.length s.keys) (hs : ∀ k ∈ s.keys, k.size ≤ 140737488351232) (hl : s.keys.length ≤ 8796093022208) :
 Calls Tryz.prog 76 #[.agg (cells s (.slice A1 s.keys.length c1) v2).toArray] w fun e w' => e = .returned (.bool (keysOk s)) ∧ Below w.heap.size w w' := by
 subst hv2
 have HK := Aside0.mk (And.intro hk (And.intro hs hl))
 clear hk hs hl
 obtain ⟨name, kind, part, l, needs⟩ := s
 simp only [cells] at *
 by_cases h2 : 2 < l.length
 · have hd : decide (2 < (l.length : Int)) = true := decide_eq_true (by omega)
   have HF : Aside0 (keysOk ⟨name, kind, part, l, needs⟩ = false) := ⟨by simp [keysOk]; omega⟩
   clear h2
   go_enter Tryz.func76, Tryz.ntmps76
   go_wp2
   go_ret
   rw [HF.out]
   exact ⟨rfl, below_one _ _⟩
 · have hd : decide (2 < (l.length : Int)) = false := decide_eq_false (by omega)
   have HF : Aside0 (keysOk ⟨name, kind, part, l, needs⟩ = goKeys part none l) := ⟨by simp [keysOk]; omega⟩
   go_enter Tryz.func76, Tryz.ntmps76
   go_wp2
   have hrow := alloc1 w (.cells #[.string name, .int .i64 kind, .int .i64 part, .slice A1 l.length c1, .slice A2 n2 c2] 37)
   have HB0 := Aside0.mk (And.intro (below_one w (.cells #[.string name, .int .i64 kind, .int .i64 part, .slice A1 l.length c1, .slice A2 n2 c2] 37)) hrow)
   generalize World.alloc w _ = w0 at *
   clear hrow
   go_loopw [3] (fun v3 wr => ∃ i : Nat, i ≤ l.length ∧ v3 = .int .i64 (i : Int) ∧ keysOk ⟨name, kind, part, l, needs⟩ = goKeys part (prev l i) (l.drop i) ∧ (∀ h : 0 < l.length, 0 < i → Nm.isName l[0] = true) ∧ Below w0.heap.size w0 wr) (fun v3 _ => l.length - (intOf v3).toNat)
   case atStart => exact ⟨0, Nat.zero_le _, rfl, HF.out, fun _ h => absurd h (Nat.lt_irrefl _), Below.refl _ _⟩
   case round =>
    obtain ⟨i, hi, rfl, hg, hnm0, hB⟩ := hrel
    have HG := Aside0.mk hg
    have HBR := Aside0.mk hB
    have hrow := row_on hB HB0.out.2
    have hq2 : wr.cell? ⟨w.heap.size, 2, none⟩ = some (.int .i64 part) := row_cell hrow rfl
    have hq3 : wr.cell? ⟨w.heap.size, 3, none⟩ = some (.slice A1 l.length c1) := row_cell hrow rfl
    replace hnm0 := Aside0.mk hnm0
    clear hg hrow hB
    by_cases hlt : i < l.length
    · have hd2 : decide ((i : Int) < (l.length : Int)) = true := decide_eq_true (by omega)
      have hi01 : i = 0 ∨ i = 1 := by omega
      obtain ⟨ad, rfl, hkey⟩ := key_at HK.out.1 hlt
      replace hkey := cell_on (on_ HB0.out.1 HBR.out) hkey
      have hmem := List.getElem_mem hlt
      have hsz := HK.out.2.1 _ hmem
      have hdrop : l.drop i = l[i] :: l.drop (i + 1) := List.drop_eq_getElem_cons hlt
      have hprev : prev l (i + 1) = some l[i] := by unfold prev; rw [if_neg (by omega)]; simp [List.getElem?_eq_getElem hlt]
      have HPV := Aside0.mk hprev
      rw [hdrop] at HG
      have HI : Aside0 (∀ W, Calls Tryz.prog 56 #[.string l[i]] W fun e w' => e = .returned (.bool (Nm.isName l[i])) ∧ Below W.heap.size W w') := ⟨fun W => isR_calls _ W (by omega)⟩
      have HOW : Nm.isName l[i] = true → Aside0 (∀ W, Calls Tryz.prog 97 #[.string l[i]] W fun e w' => e = .returned (.int .i64 (owner l[i])) ∧ Below W.heap.size W w') := fun h => ⟨fun W => ownerR_calls _ W (by omega) h⟩
      clear hmem hdrop hprev
      rcases hi01 with rfl | rfl
      · have hp0 : prev l 0 = none := rfl
        rw [hp0, goKeys] at HG
        simp only at hkey
        have hn0 : Aside0 (Nm.isName l[0] = true → ∀ h : 0 < l.length, 0 < 1 → Nm.isName l[0] = true) := ⟨fun h _ _ => h⟩
        generalize hk0 : l[0] = k at *
        clear hp0 hsz
        cases hn : Nm.isName k
        · rw [hn] at HG HI
          clear HOW
          have HFIN : Aside0 ((false && (decide (owner k = part) && goKeys part (some k) (List.drop (0 + 1) l))) = false) := ⟨rfl⟩
          go_wp2_with (first | (go_at_call 56; refine (HI.out _).mono ?_; rintro e w1 ⟨rfl, hb1⟩; have H1 := Aside0.mk hb1; have hrow1 := row_on (on_ HBR.out hb1) HB0.out.2; have hq21 := row_cell (j := 2) hrow1 rfl; have hq31 := row_cell (j := 3) hrow1 rfl; have hkey1 := cell_on hb1 hkey; clear hb1 hrow1))
          refine start_ (n := 13) (S := fun w' => w'.cell? ⟨w.heap.size, 2, none⟩ = some (.int .i64 part) ∧ w'.cell? ⟨w.heap.size, 3, none⟩ = some (.slice (some ad) l.length c1) ∧ w'.cell? ad = some (.string k)) (ds := []) #[false,false,false,false,false,false,false,false,false,false,false,false,false] (by kernel_rfl) rfl rfl ⟨(by go_keep), (by go_keep), (by go_keep)⟩ (fun hHeld => ?_)
          refine pure_ (i := 0) (N := some 22) (v := ?_) (a' := ?_) #[true,false,false,false,false,false,false,false,false,false,false,false,false] rfl rfl (by kernel_rfl) (fun _ _ _ h => h) (Or.inl ⟨by rfl, ?_⟩) ?_ ?_
          rotate_left
          · intro w'
            go_simp
            with_reducible rfl
          rotate_left
          · simp only [Act.put, zA, zB, zC, i64_w, i32_w]
            rfl
          refine pure_ (i := 1) (N := some 23) (v := ?_) (a' := ?_) #[true,true,false,false,false,false,false,false,false,false,false,false,false] rfl rfl (by kernel_rfl) (fun _ _ _ h => h) (Or.inl ⟨by rfl, ?_⟩) ?_ ?_
          rotate_left
          · intro w'
            go_simp
            with_reducible rfl
          rotate_left
          · simp only [Act.put, zA, zB, zC, i64_w, i32_w]
            rfl
          refine pure_ (i := 2) (N := some 24) (v := ?_) (a' := ?_) #[true,true,true,false,false,false,false,false,false,false,false,false,false] rfl rfl (by kernel_rfl) (fun _ _ _ h => h) (Or.inl ⟨by rfl, ?_⟩) ?_ ?_
          rotate_left
          · intro w'
            go_simp
            with_reducible rfl
          rotate_left
          · simp only [Act.put, zA, zB, zC, i64_w, i32_w]
            rfl
          refine pure_ (i := 3) (N := some 25) (v := undef) (a' := ?_) #[true,true,true,true,false,false,false,false,false,false,false,false,false] rfl rfl (by kernel_rfl) (fun _ _ _ h => h) (Or.inr ⟨by rfl, rfl⟩) ?_ ?_
          rotate_left
          · simp only [Act.put, zA, zB, zC, i64_w, i32_w]
            rfl
          refine pure_ (i := 4) (N := some 26) (v := undef) (a' := ?_) #[true,true,true,true,true,false,false,false,false,false,false,false,false] rfl rfl (by kernel_rfl) (fun _ _ _ h => h) (Or.inr ⟨by rfl, rfl⟩) ?_ ?_
          rotate_left
          · simp only [Act.put, zA, zB, zC, i64_w, i32_w]
            rfl
          refine pure_ (i := 5) (N := some 27) (v := undef) (a' := ?_) #[true,true,true,true,true,true,false,false,false,false,false,false,false] rfl rfl (by kernel_rfl) (fun _ _ _ h => h) (Or.inr ⟨by rfl, rfl⟩) ?_ ?_
          rotate_left
          · simp only [Act.put, zA, zB, zC, i64_w, i32_w]
            rfl
          refine pure_ (i := 6) (N := some 28) (v := undef) (a' := ?_) #[true,true,true,true,true,true,true,false,false,false,false,false,false] rfl rfl (by kernel_rfl) (fun _ _ _ h => h) (Or.inr ⟨by rfl, rfl⟩) ?_ ?_
          rotate_left
          · simp only [Act.put, zA, zB, zC, i64_w, i32_w]
            rfl
          refine pure_ (i := 7) (N := some 29) (v := undef) (a' := ?_) #[true,true,true,true,true,true,true,true,false,false,false,false,false] rfl rfl (by kernel_rfl) (fun _ _ _ h => h) (Or.inr ⟨by rfl, rfl⟩) ?_ ?_
          rotate_left
          · simp only [Act.put, zA, zB, zC, i64_w, i32_w]
            rfl
          refine pure_ (i := 8) (N := some 30) (v := undef) (a' := ?_) #[true,true,true,true,true,true,true,true,true,false,false,false,false] rfl rfl (by kernel_rfl) (fun _ _ _ h => h) (Or.inr ⟨by rfl, rfl⟩) ?_ ?_
          rotate_left
          · simp only [Act.put, zA, zB, zC, i64_w, i32_w]
            rfl
          refine pure_ (i := 9) (N := some 31) (v := undef) (a' := ?_) #[true,true,true,true,true,true,true,true,true,true,false,false,false] rfl rfl (by kernel_rfl) (fun _ _ _ h => h) (Or.inr ⟨by rfl, rfl⟩) ?_ ?_
          rotate_left
          · simp only [Act.put, zA, zB, zC, i64_w, i32_w]
            rfl
          refine pure_ (i := 10) (N := some 32) (v := undef) (a' := ?_) #[true,true,true,true,true,true,true,true,true,true,true,false,false] rfl rfl (by kernel_rfl) (fun _ _ _ h => h) (Or.inr ⟨by rfl, rfl⟩) ?_ ?_
          rotate_left
          · simp only [Act.put, zA, zB, zC, i64_w, i32_w]
            rfl
          refine pure_ (i := 11) (N := some 33) (v := undef) (a' := ?_) #[true,true,true,true,true,true,true,true,true,true,true,true,false] rfl rfl (by kernel_rfl) (fun _ _ _ h => h) (Or.inr ⟨by rfl, rfl⟩) ?_ ?_
          rotate_left
          · simp only [Act.put, zA, zB, zC, i64_w, i32_w]
            rfl
          refine pure_ (i := 12) (N := some 34) (v := ?_) (a' := ?_) #[true,true,true,true,true,true,true,true,true,true,true,true,true] rfl rfl (by kernel_rfl) (fun _ _ _ h => h) (Or.inl ⟨by rfl, ?_⟩) ?_ ?_
          rotate_left
          · intro w'
            go_simp
            with_reducible rfl
          rotate_left
          · simp only [Act.put, zA, zB, zC, i64_w, i32_w]
            rfl
          refine done_ (by kernel_rfl) ?_
          go_wp2
          go_ret
          rw [HG.out, HFIN.out]
          exact ⟨rfl, on_ (on_ HB0.out.1 HBR.out) (below_drew H1.out)⟩
        · rw [hn] at HG HI
          replace HOW := HOW hn
          generalize owner k = o at *
          by_cases ho : o = part
          · have hd3 : (o != part) = false := bne_eq_false_iff_eq.2 ho
            have HFIN : Aside0 ((true && (decide (o = part) && goKeys part (some k) (List.drop (0 + 1) l))) = goKeys part (prev l 1) (l.drop 1)) := ⟨by rw [HPV.out, decide_eq_true ho]; rfl⟩
            clear ho
            go_wp2_with (first | (go_at_call 56; refine (HI.out _).mono ?_; rintro e w1 ⟨rfl, hb1⟩; have H1 := Aside0.mk hb1; have hrow1 := row_on (on_ HBR.out hb1) HB0.out.2; have hq21 := row_cell (j := 2) hrow1 rfl; have hq31 := row_cell (j := 3) hrow1 rfl; have hkey1 := cell_on hb1 hkey; clear hb1 hrow1))
            refine start_ (n := 13) (S := fun w' => w'.cell? ⟨w.heap.size, 2, none⟩ = some (.int .i64 part) ∧ w'.cell? ⟨w.heap.size, 3, none⟩ = some (.slice (some ad) l.length c1) ∧ w'.cell? ad = some (.string k)) (ds := []) #[false,false,false,false,false,false,false,false,false,false,false,false,false] (by kernel_rfl) rfl rfl ⟨(by go_keep), (by go_keep), (by go_keep)⟩ (fun hHeld => ?_)
            refine pure_ (i := 0) (N := some 22) (v := ?_) (a' := ?_) #[true,false,false,false,false,false,false,false,false,false,false,false,false] rfl rfl (by kernel_rfl) (fun _ _ _ h => h) (Or.inl ⟨by rfl, ?_⟩) ?_ ?_
            rotate_left
            · intro w'
              go_simp
              with_reducible rfl
            rotate_left
            · simp only [Act.put, zA, zB, zC, i64_w, i32_w]
              rfl
            refine pure_ (i := 1) (N := some 23) (v := ?_) (a' := ?_) #[true,true,false,false,false,false,false,false,false,false,false,false,false] rfl rfl (by kernel_rfl) (fun _ _ _ h => h) (Or.inl ⟨by rfl, ?_⟩) ?_ ?_
            rotate_left
            · intro w'
              go_simp
              with_reducible rfl
            rotate_left
            · simp only [Act.put, zA, zB, zC, i64_w, i32_w]
              rfl
            refine pure_ (i := 2) (N := some 24) (v := ?_) (a' := ?_) #[true,true,true,false,false,false,false,false,false,false,false,false,false] rfl rfl (by kernel_rfl) (fun _ _ _ h => h) (Or.inl ⟨by rfl, ?_⟩) ?_ ?_
            rotate_left
            · intro w'
              go_simp
              with_reducible rfl
            rotate_left
            · simp only [Act.put, zA, zB, zC, i64_w, i32_w]
              rfl
            refine pure_ (i := 3) (N := some 25) (v := ?_) (a' := ?_) #[true,true,true,true,false,false,false,false,false,false,false,false,false] rfl rfl (by kernel_rfl) (fun _ _ _ h => h) (Or.inl ⟨by rfl, ?_⟩) ?_ ?_
            rotate_left
            · intro w'
              go_simp
              with_reducible rfl
            rotate_left
            · simp only [Act.put, zA, zB, zC, i64_w, i32_w]
              rfl
            refine pure_ (i := 5) (N := some 27) (v := ?_) (a' := ?_) #[true,true,true,true,false,true,false,false,false,false,false,false,false] rfl rfl (by kernel_rfl) (fun _ _ _ h => h) (Or.inl ⟨by rfl, ?_⟩) ?_ ?_
            rotate_left
            · intro w'
              go_simp
              with_reducible rfl
            rotate_left
            · simp only [Act.put, zA, zB, zC, i64_w, i32_w]
              rfl
            refine pure_ (i := 9) (N := some 31) (v := ?_) (a' := ?_) #[true,true,true,true,false,true,false,false,false,true,false,false,false] rfl rfl (by kernel_rfl) (fun _ _ _ h => h) (Or.inl ⟨by rfl, ?_⟩) ?_ ?_
            rotate_left
            · intro w'
              go_simp
              with_reducible rfl
            rotate_left
            · simp only [Act.put, zA, zB, zC, i64_w, i32_w]
              rfl
            refine take_ (i := 4) (N := some 26) (v := ?_) (a' := ?_) #[true,true,true,true,true,true,false,false,false,true,false,false,false] rfl rfl (by kernel_rfl) (fun _ _ _ h => h) (Or.inl ⟨by rfl, ?_⟩) hHeld ?_ ?_
            rotate_left
            · rintro w' ⟨s0, s1, s2⟩
              go_simp
              with_reducible rfl
            rotate_left
            · simp only [Act.put, zA, zB, zC, i64_w, i32_w]
              rfl
            refine pure_ (i := 6) (N := some 28) (v := ?_) (a' := ?_) #[true,true,true,true,true,true,true,false,false,true,false,false,false] rfl rfl (by kernel_rfl) (fun _ _ _ h => h) (Or.inl ⟨by rfl, ?_⟩) ?_ ?_
            rotate_left
            · intro w'
              go_simp
              with_reducible rfl
            rotate_left
            · simp only [Act.put, zA, zB, zC, i64_w, i32_w]
              rfl
            refine take_ (i := 7) (N := some 29) (v := ?_) (a' := ?_) #[true,true,true,true,true,true,true,true,false,true,false,false,false] rfl rfl (by kernel_rfl) (fun _ _ _ h => h) (Or.inl ⟨by rfl, ?_⟩) hHeld ?_ ?_
            rotate_left
            · rintro w' ⟨s0, s1, s2⟩
              go_simp
              with_reducible rfl
            rotate_left
            · simp only [Act.put, zA, zB, zC, i64_w, i32_w]
              rfl
            refine take_ (i := 10) (N := some 32) (v := ?_) (a' := ?_) #[true,true,true,true,true,true,true,true,false,true,true,false,false] rfl rfl (by kernel_rfl) (fun _ _ _ h => h) (Or.inl ⟨by rfl, ?_⟩) hHeld ?_ ?_
            rotate_left
            · rintro w' ⟨s0, s1, s2⟩
              go_simp
              with_reducible rfl
            rotate_left
            · simp only [Act.put, zA, zB, zC, i64_w, i32_w]
              rfl
            refine one_ (i := 8) (N := some 30) #[true,true,true,true,true,true,true,true,true,true,true,false,false] rfl rfl (by kernel_rfl) (by decide) (fun K hK => ?_)
            refine goes_ Tryz.func97 (by kernel_rfl) rfl #[.string k] (by rfl) rfl rfl (by simp only [List.map_toArray, List.map_cons, List.map_nil]; rfl) ?_
            with_reducible refine (HOW.out _).mono ?_
            rintro e w2 ⟨rfl, hb2⟩
            refine ⟨_, rfl, ?_⟩
            refine hK.out _ _ ⟨(cell_on hb2 hHeld.1), (cell_on hb2 hHeld.2.1), (cell_on hb2 hHeld.2.2)⟩ (fun hHeld => ?_)
            clear hK K
            refine norm_ (a' := ?_) ?_ ?_
            rotate_left
            · show Act.put _ (some 30) _ = _
              simp only [Act.put, zA, zB, zC, i64_w, i32_w]
              rfl
            refine pure_ (i := 11) (N := some 33) (v := ?_) (a' := ?_) #[true,true,true,true,true,true,true,true,true,true,true,true,false] rfl rfl (by kernel_rfl) (fun _ _ _ h => h) (Or.inl ⟨by rfl, ?_⟩) ?_ ?_
            rotate_left
            · intro w'
              go_simp
              with_reducible rfl
            rotate_left
            · simp only [Act.put, zA, zB, zC, i64_w, i32_w]
              rfl
            refine pure_ (i := 12) (N := some 34) (v := ?_) (a' := ?_) #[true,true,true,true,true,true,true,true,true,true,true,true,true] rfl rfl (by kernel_rfl) (fun _ _ _ h => h) (Or.inl ⟨by rfl, ?_⟩) ?_ ?_
            rotate_left
            · intro w'
              go_simp
              with_reducible rfl
            rotate_left
            · simp only [Act.put, zA, zB, zC, i64_w, i32_w]
              rfl
            refine done_ (by kernel_rfl) ?_
            have H2 := Aside0.mk (on_ (below_drew H1.out) hb2)
            clear hb2
            go_wp2
            refine start_ (n := 17) (S := fun w' => w'.cell? ⟨w.heap.size, 3, none⟩ = some (.slice (some ad) l.length c1) ∧ w'.cell? ad = some (.string k)) (ds := []) #[false,false,false,false,false,false,false,false,false,false,false,false,false,false,false,false,false] (by kernel_rfl) rfl rfl ⟨(by go_keep), (by go_keep)⟩ (fun hHeld => ?_)
            refine pure_ (i := 0) (N := some 35) (v := ?_) (a' := ?_) #[true,false,false,false,false,false,false,false,false,false,false,false,false,false,false,false,false] rfl rfl (by kernel_rfl) (fun _ _ _ h => h) (Or.inl ⟨by rfl, ?_⟩) ?_ ?_
            rotate_left
            · intro w'
              go_simp
              with_reducible rfl
            rotate_left
            · simp only [Act.put, zA, zB, zC, i64_w, i32_w]
              rfl
            refine pure_ (i := 1) (N := some 36) (v := ?_) (a' := ?_) #[true,true,false,false,false,false,false,false,false,false,false,false,false,false,false,false,false] rfl rfl (by kernel_rfl) (fun _ _ _ h => h) (Or.inl ⟨by rfl, ?_⟩) ?_ ?_
            rotate_left
            · intro w'
              go_simp
              with_reducible rfl
            rotate_left
            · simp only [Act.put, zA, zB, zC, i64_w, i32_w]
              rfl
            refine pure_ (i := 2) (N := some 37) (v := ?_) (a' := ?_) #[true,true,true,false,false,false,false,false,false,false,false,false,false,false,false,false,false] rfl rfl (by kernel_rfl) (fun _ _ _ h => h) (Or.inl ⟨by rfl, ?_⟩) ?_ ?_
            rotate_left
            · intro w'
              go_simp
              with_reducible rfl
            rotate_left
            · simp only [Act.put, zA, zB, zC, i64_w, i32_w]
              rfl
            refine pure_ (i := 3) (N := some 38) (v := undef) (a' := ?_) #[true,true,true,true,false,false,false,false,false,false,false,false,false,false,false,false,false] rfl rfl (by kernel_rfl) (fun _ _ _ h => h) (Or.inr ⟨by rfl, rfl⟩) ?_ ?_
            rotate_left
            · simp only [Act.put, zA, zB, zC, i64_w, i32_w]
              rfl
            refine pure_ (i := 4) (N := some 39) (v := undef) (a' := ?_) #[true,true,true,true,true,false,false,false,false,false,false,false,false,false,false,false,false] rfl rfl (by kernel_rfl) (fun _ _ _ h => h) (Or.inr ⟨by rfl, rfl⟩) ?_ ?_
            rotate_left
            · simp only [Act.put, zA, zB, zC, i64_w, i32_w]
              rfl
            refine pure_ (i := 5) (N := some 40) (v := undef) (a' := ?_) #[true,true,true,true,true,true,false,false,false,false,false,false,false,false,false,false,false] rfl rfl (by kernel_rfl) (fun _ _ _ h => h) (Or.inr ⟨by rfl, rfl⟩) ?_ ?_
            rotate_left
            · simp only [Act.put, zA, zB, zC, i64_w, i32_w]
              rfl
            refine pure_ (i := 6) (N := some 41) (v := undef) (a' := ?_) #[true,true,true,true,true,true,true,false,false,false,false,false,false,false,false,false,false] rfl rfl (by kernel_rfl) (fun _ _ _ h => h) (Or.inr ⟨by rfl, rfl⟩) ?_ ?_
            rotate_left
            · simp only [Act.put, zA, zB, zC, i64_w, i32_w]
              rfl
            refine pure_ (i := 7) (N := some 42) (v := undef) (a' := ?_) #[true,true,true,true,true,true,true,true,false,false,false,false,false,false,false,false,false] rfl rfl (by kernel_rfl) (fun _ _ _ h => h) (Or.inr ⟨by rfl, rfl⟩) ?_ ?_
            rotate_left
            · simp only [Act.put, zA, zB, zC, i64_w, i32_w]
              rfl
            refine pure_ (i := 8) (N := some 43) (v := undef) (a' := ?_) #[true,true,true,true,true,true,true,true,true,false,false,false,false,false,false,false,false] rfl rfl (by kernel_rfl) (fun _ _ _ h => h) (Or.inr ⟨by rfl, rfl⟩) ?_ ?_
            rotate_left
            · simp only [Act.put, zA, zB, zC, i64_w, i32_w]
              rfl
            refine pure_ (i := 9) (N := some 44) (v := undef) (a' := ?_) #[true,true,true,true,true,true,true,true,true,true,false,false,false,false,false,false,false] rfl rfl (by kernel_rfl) (fun _ _ _ h => h) (Or.inr ⟨by rfl, rfl⟩) ?_ ?_
            rotate_left
            · simp only [Act.put, zA, zB, zC, i64_w, i32_w]
              rfl
            refine pure_ (i := 10) (N := some 45) (v := undef) (a' := ?_) #[true,true,true,true,true,true,true,true,true,true,true,false,false,false,false,false,false] rfl rfl (by kernel_rfl) (fun _ _ _ h => h) (Or.inr ⟨by rfl, rfl⟩) ?_ ?_
            rotate_left
            · simp only [Act.put, zA, zB, zC, i64_w, i32_w]
              rfl
            refine pure_ (i := 11) (N := some 46) (v := undef) (a' := ?_) #[true,true,true,true,true,true,true,true,true,true,true,true,false,false,false,false,false] rfl rfl (by kernel_rfl) (fun _ _ _ h => h) (Or.inr ⟨by rfl, rfl⟩) ?_ ?_
            rotate_left
            · simp only [Act.put, zA, zB, zC, i64_w, i32_w]
              rfl
            refine pure_ (i := 12) (N := some 47) (v := undef) (a' := ?_) #[true,true,true,true,true,true,true,true,true,true,true,true,true,false,false,false,false] rfl rfl (by kernel_rfl) (fun _ _ _ h => h) (Or.inr ⟨by rfl, rfl⟩) ?_ ?_
            rotate_left
            · simp only [Act.put, zA, zB, zC, i64_w, i32_w]
              rfl
            refine pure_ (i := 13) (N := some 48) (v := undef) (a' := ?_) #[true,true,true,true,true,true,true,true,true,true,true,true,true,true,false,false,false] rfl rfl (by kernel_rfl) (fun _ _ _ h => h) (Or.inr ⟨by rfl, rfl⟩) ?_ ?_
            rotate_left
            · simp only [Act.put, zA, zB, zC, i64_w, i32_w]
              rfl
            refine pure_ (i := 14) (N := some 49) (v := undef) (a' := ?_) #[true,true,true,true,true,true,true,true,true,true,true,true,true,true,true,false,false] rfl rfl (by kernel_rfl) (fun _ _ _ h => h) (Or.inr ⟨by rfl, rfl⟩) ?_ ?_
            rotate_left
            · simp only [Act.put, zA, zB, zC, i64_w, i32_w]
              rfl
            refine pure_ (i := 15) (N := some 50) (v := undef) (a' := ?_) #[true,true,true,true,true,true,true,true,true,true,true,true,true,true,true,true,false] rfl rfl (by kernel_rfl) (fun _ _ _ h => h) (Or.inr ⟨by rfl, rfl⟩) ?_ ?_
            rotate_left
            · simp only [Act.put, zA, zB, zC, i64_w, i32_w]
              rfl
            refine pure_ (i := 16) (N := some 51) (v := ?_) (a' := ?_) #[true,true,true,true,true,true,true,true,true,true,true,true,true,true,true,true,true] rfl rfl (by kernel_rfl) (fun _ _ _ h => h) (Or.inl ⟨by rfl, ?_⟩) ?_ ?_
            rotate_left
            · intro w'
              go_simp
              with_reducible rfl
            rotate_left
            · simp only [Act.put, zA, zB, zC, i64_w, i32_w]
              rfl
            refine done_ (by kernel_rfl) ?_
            go_wp2
            go_roundw
            case rel => exact ⟨1, by omega, by go_num, by rw [HG.out]; exact HFIN.out, fun _ _ => (by rw [hk0]; exact hn), on_ HBR.out (below_drew H2.out)⟩
            case measure => simp [intOf]; omega
          · have hd3 : (o != part) = true := bne_iff_ne.2 ho
            have HFIN : Aside0 ((true && (decide (o = part) && goKeys part (some k) (List.drop (0 + 1) l))) = false) := ⟨by rw [decide_eq_false ho]; rfl⟩
            clear ho
            go_wp2_with (first | (go_at_call 56; refine (HI.out _).mono ?_; rintro e w1 ⟨rfl, hb1⟩; have H1 := Aside0.mk hb1; have hrow1 := row_on (on_ HBR.out hb1) HB0.out.2; have hq21 := row_cell (j := 2) hrow1 rfl; have hq31 := row_cell (j := 3) hrow1 rfl; have hkey1 := cell_on hb1 hkey; clear hb1 hrow1))
            refine start_ (n := 13) (S := fun w' => w'.cell? ⟨w.heap.size, 2, none⟩ = some (.int .i64 part) ∧ w'.cell? ⟨w.heap.size, 3, none⟩ = some (.slice (some ad) l.length c1) ∧ w'.cell? ad = some (.string k)) (ds := []) #[false,false,false,false,false,false,false,false,false,false,false,false,false] (by kernel_rfl) rfl rfl ⟨(by go_keep), (by go_keep), (by go_keep)⟩ (fun hHeld => ?_)
            refine pure_ (i := 0) (N := some 22) (v := ?_) (a' := ?_) #[true,false,false,false,false,false,false,false,false,false,false,false,false] rfl rfl (by kernel_rfl) (fun _ _ _ h => h) (Or.inl ⟨by rfl, ?_⟩) ?_ ?_
            rotate_left
            · intro w'
              go_simp
              with_reducible rfl
            rotate_left
            · simp only [Act.put, zA, zB, zC, i64_w, i32_w]
              rfl
            refine pure_ (i := 1) (N := some 23) (v := ?_) (a' := ?_) #[true,true,false,false,false,false,false,false,false,false,false,false,false] rfl rfl (by kernel_rfl) (fun _ _ _ h => h) (Or.inl ⟨by rfl, ?_⟩) ?_ ?_
            rotate_left
            · intro w'
              go_simp
              with_reducible rfl
            rotate_left
            · simp only [Act.put, zA, zB, zC, i64_w, i32_w]
              rfl
            refine pure_ (i := 2) (N := some 24) (v := ?_) (a' := ?_) #[true,true,true,false,false,false,false,false,false,false,false,false,false] rfl rfl (by kernel_rfl) (fun _ _ _ h => h) (Or.inl ⟨by rfl, ?_⟩) ?_ ?_
            rotate_left
            · intro w'
              go_simp
              with_reducible rfl
            rotate_left
            · simp only [Act.put, zA, zB, zC, i64_w, i32_w]
              rfl
            refine pure_ (i := 3) (N := some 25) (v := ?_) (a' := ?_) #[true,true,true,true,false,false,false,false,false,false,false,false,false] rfl rfl (by kernel_rfl) (fun _ _ _ h => h) (Or.inl ⟨by rfl, ?_⟩) ?_ ?_
            rotate_left
            · intro w'
              go_simp
              with_reducible rfl
            rotate_left
            · simp only [Act.put, zA, zB, zC, i64_w, i32_w]
              rfl
            refine pure_ (i := 5) (N := some 27) (v := ?_) (a' := ?_) #[true,true,true,true,false,true,false,false,false,false,false,false,false] rfl rfl (by kernel_rfl) (fun _ _ _ h => h) (Or.inl ⟨by rfl, ?_⟩) ?_ ?_
            rotate_left
            · intro w'
              go_simp
              with_reducible rfl
            rotate_left
            · simp only [Act.put, zA, zB, zC, i64_w, i32_w]
              rfl
            refine pure_ (i := 9) (N := some 31) (v := ?_) (a' := ?_) #[true,true,true,true,false,true,false,false,false,true,false,false,false] rfl rfl (by kernel_rfl) (fun _ _ _ h => h) (Or.inl ⟨by rfl, ?_⟩) ?_ ?_
            rotate_left
            · intro w'
              go_simp
              with_reducible rfl
            rotate_left
            · simp only [Act.put, zA, zB, zC, i64_w, i32_w]
              rfl
            refine take_ (i := 4) (N := some 26) (v := ?_) (a' := ?_) #[true,true,true,true,true,true,false,false,false,true,false,false,false] rfl rfl (by kernel_rfl) (fun _ _ _ h => h) (Or.inl ⟨by rfl, ?_⟩) hHeld ?_ ?_
            rotate_left
            · rintro w' ⟨s0, s1, s2⟩
              go_simp
              with_reducible rfl
            rotate_left
            · simp only [Act.put, zA, zB, zC, i64_w, i32_w]
              rfl
            refine pure_ (i := 6) (N := some 28) (v := ?_) (a' := ?_) #[true,true,true,true,true,true,true,false,false,true,false,false,false] rfl rfl (by kernel_rfl) (fun _ _ _ h => h) (Or.inl ⟨by rfl, ?_⟩) ?_ ?_
            rotate_left
            · intro w'
              go_simp
              with_reducible rfl
            rotate_left
            · simp only [Act.put, zA, zB, zC, i64_w, i32_w]
              rfl
            refine take_ (i := 7) (N := some 29) (v := ?_) (a' := ?_) #[true,true,true,true,true,true,true,true,false,true,false,false,false] rfl rfl (by kernel_rfl) (fun _ _ _ h => h) (Or.inl ⟨by rfl, ?_⟩) hHeld ?_ ?_
            rotate_left
            · rintro w' ⟨s0, s1, s2⟩
              go_simp
              with_reducible rfl
            rotate_left
            · simp only [Act.put, zA, zB, zC, i64_w, i32_w]
              rfl
            refine take_ (i := 10) (N := some 32) (v := ?_) (a' := ?_) #[true,true,true,true,true,true,true,true,false,true,true,false,false] rfl rfl (by kernel_rfl) (fun _ _ _ h => h) (Or.inl ⟨by rfl, ?_⟩) hHeld ?_ ?_
            rotate_left
            · rintro w' ⟨s0, s1, s2⟩
              go_simp
              with_reducible rfl
            rotate_left
            · simp only [Act.put, zA, zB, zC, i64_w, i32_w]
              rfl
            refine one_ (i := 8) (N := some 30) #[true,true,true,true,true,true,true,true,true,true,true,false,false] rfl rfl (by kernel_rfl) (by decide) (fun K hK => ?_)
            refine goes_ Tryz.func97 (by kernel_rfl) rfl #[.string k] (by rfl) rfl rfl (by simp only [List.map_toArray, List.map_cons, List.map_nil]; rfl) ?_
            with_reducible refine (HOW.out _).mono ?_
            rintro e w2 ⟨rfl, hb2⟩
            refine ⟨_, rfl, ?_⟩
            refine hK.out _ _ ⟨(cell_on hb2 hHeld.1), (cell_on hb2 hHeld.2.1), (cell_on hb2 hHeld.2.2)⟩ (fun hHeld => ?_)
            clear hK K
            refine norm_ (a' := ?_) ?_ ?_
            rotate_left
            · show Act.put _ (some 30) _ = _
              simp only [Act.put, zA, zB, zC, i64_w, i32_w]
              rfl
            refine pure_ (i := 11) (N := some 33) (v := ?_) (a' := ?_) #[true,true,true,true,true,true,true,true,true,true,true,true,false] rfl rfl (by kernel_rfl) (fun _ _ _ h => h) (Or.inl ⟨by rfl, ?_⟩) ?_ ?_
            rotate_left
            · intro w'
              go_simp
              with_reducible rfl
            rotate_left
            · simp only [Act.put, zA, zB, zC, i64_w, i32_w]
              rfl
            refine pure_ (i := 12) (N := some 34) (v := ?_) (a' := ?_) #[true,true,true,true,true,true,true,true,true,true,true,true,true] rfl rfl (by kernel_rfl) (fun _ _ _ h => h) (Or.inl ⟨by rfl, ?_⟩) ?_ ?_
            rotate_left
            · intro w'
              go_simp
              with_reducible rfl
            rotate_left
            · simp only [Act.put, zA, zB, zC, i64_w, i32_w]
              rfl
            refine done_ (by kernel_rfl) ?_
            have H2 := Aside0.mk (on_ (below_drew H1.out) hb2)
            clear hb2
            go_wp2
            go_ret
            rw [HG.out, HFIN.out]
            exact ⟨rfl, on_ (on_ HB0.out.1 HBR.out) H2.out⟩
      · have hl0 : 0 < l.length := by omega
        have hw0 : wrap64 0 = 0 := by unfold wrap64; omega
        have hlp : (0 : Int) < (l.length : Int) := by omega
        obtain ⟨ad', e', hkey0⟩ := key_at HK.out.1 hl0
        injection e' with e'
        subst e'
        replace hkey0 := cell_on (on_ HB0.out.1 HBR.out) hkey0
        have hp1 : prev l 1 = some l[0] := by unfold prev; rw [if_neg (by omega)]; simp [List.getElem?_eq_getElem hl0]
        rw [hp1, goKeys] at HG
        simp only at hkey hkey0
        have hsz0 := HK.out.2.1 _ (List.getElem_mem hl0)
        have HCM0 := Aside0.mk (fun (h : Nm.isName l[1] = true) W => compareR_calls l[0] l[1] W (by omega) (by omega) (hnm0.out hl0 (by omega)) h)
        have HN0 := Aside0.mk (hnm0.out hl0 (by omega))
        clear hnm0 hsz0
        generalize hp00 : l[0] = p at *
        generalize l[1] = k at *
        clear hp1 hsz
        cases hn : Nm.isName k
        · rw [hn] at HG HI
          clear HOW HCM0
          have HFIN : Aside0 ((false && (decide (owner k = part) && (decide (cmp p k < 0) && goKeys part (some k) (List.drop (1 + 1) l)))) = false) := ⟨rfl⟩
          go_wp2_with (first | (go_at_call 56; refine (HI.out _).mono ?_; rintro e w1 ⟨rfl, hb1⟩; have H1 := Aside0.mk hb1; have hrow1 := row_on (on_ HBR.out hb1) HB0.out.2; have hq21 := row_cell (j := 2) hrow1 rfl; have hq31 := row_cell (j := 3) hrow1 rfl; have hkey1 := cell_on hb1 hkey; have hkey01 := cell_on hb1 hkey0; clear hb1 hrow1))
          refine start_ (n := 13) (S := fun w' => w'.cell? ⟨w.heap.size, 2, none⟩ = some (.int .i64 part) ∧ w'.cell? ⟨w.heap.size, 3, none⟩ = some (.slice (some ad) l.length c1) ∧ w'.cell? ⟨ad.block, ad.off + 1, none⟩ = some (.string k)) (ds := []) #[false,false,false,false,false,false,false,false,false,false,false,false,false] (by kernel_rfl) rfl rfl ⟨(by go_keep), (by go_keep), (by go_keep)⟩ (fun hHeld => ?_)
          refine pure_ (i := 0) (N := some 22) (v := ?_) (a' := ?_) #[true,false,false,false,false,false,false,false,false,false,false,false,false] rfl rfl (by kernel_rfl) (fun _ _ _ h => h) (Or.inl ⟨by rfl, ?_⟩) ?_ ?_
          rotate_left
          · intro w'
            go_simp
            with_reducible rfl
          rotate_left
          · simp only [Act.put, zA, zB, zC, i64_w, i32_w]
            rfl
          refine pure_ (i := 1) (N := some 23) (v := ?_) (a' := ?_) #[true,true,false,false,false,false,false,false,false,false,false,false,false] rfl rfl (by kernel_rfl) (fun _ _ _ h => h) (Or.inl ⟨by rfl, ?_⟩) ?_ ?_
          rotate_left
          · intro w'
            go_simp
            with_reducible rfl
          rotate_left
          · simp only [Act.put, zA, zB, zC, i64_w, i32_w]
            rfl
          refine pure_ (i := 2) (N := some 24) (v := ?_) (a' := ?_) #[true,true,true,false,false,false,false,false,false,false,false,false,false] rfl rfl (by kernel_rfl) (fun _ _ _ h => h) (Or.inl ⟨by rfl, ?_⟩) ?_ ?_
          rotate_left
          · intro w'
            go_simp
            with_reducible rfl
          rotate_left
          · simp only [Act.put, zA, zB, zC, i64_w, i32_w]
            rfl
          refine pure_ (i := 3) (N := some 25) (v := undef) (a' := ?_) #[true,true,true,true,false,false,false,false,false,false,false,false,false] rfl rfl (by kernel_rfl) (fun _ _ _ h => h) (Or.inr ⟨by rfl, rfl⟩) ?_ ?_
          rotate_left
          · simp only [Act.put, zA, zB, zC, i64_w, i32_w]
            rfl
          refine pure_ (i := 4) (N := some 26) (v := undef) (a' := ?_) #[true,true,true,true,true,false,false,false,false,false,false,false,false] rfl rfl (by kernel_rfl) (fun _ _ _ h => h) (Or.inr ⟨by rfl, rfl⟩) ?_ ?_
          rotate_left
          · simp only [Act.put, zA, zB, zC, i64_w, i32_w]
            rfl
          refine pure_ (i := 5) (N := some 27) (v := undef) (a' := ?_) #[true,true,true,true,true,true,false,false,false,false,false,false,false] rfl rfl (by kernel_rfl) (fun _ _ _ h => h) (Or.inr ⟨by rfl, rfl⟩) ?_ ?_
          rotate_left
          · simp only [Act.put, zA, zB, zC, i64_w, i32_w]
            rfl
          refine pure_ (i := 6) (N := some 28) (v := undef) (a' := ?_) #[true,true,true,true,true,true,true,false,false,false,false,false,false] rfl rfl (by kernel_rfl) (fun _ _ _ h => h) (Or.inr ⟨by rfl, rfl⟩) ?_ ?_
          rotate_left
          · simp only [Act.put, zA, zB, zC, i64_w, i32_w]
            rfl
          refine pure_ (i := 7) (N := some 29) (v := undef) (a' := ?_) #[true,true,true,true,true,true,true,true,false,false,false,false,false] rfl rfl (by kernel_rfl) (fun _ _ _ h => h) (Or.inr ⟨by rfl, rfl⟩) ?_ ?_
          rotate_left
          · simp only [Act.put, zA, zB, zC, i64_w, i32_w]
            rfl
          refine pure_ (i := 8) (N := some 30) (v := undef) (a' := ?_) #[true,true,true,true,true,true,true,true,true,false,false,false,false] rfl rfl (by kernel_rfl) (fun _ _ _ h => h) (Or.inr ⟨by rfl, rfl⟩) ?_ ?_
          rotate_left
          · simp only [Act.put, zA, zB, zC, i64_w, i32_w]
            rfl
          refine pure_ (i := 9) (N := some 31) (v := undef) (a' := ?_) #[true,true,true,true,true,true,true,true,true,true,false,false,false] rfl rfl (by kernel_rfl) (fun _ _ _ h => h) (Or.inr ⟨by rfl, rfl⟩) ?_ ?_
          rotate_left
          · simp only [Act.put, zA, zB, zC, i64_w, i32_w]
            rfl
          refine pure_ (i := 10) (N := some 32) (v := undef) (a' := ?_) #[true,true,true,true,true,true,true,true,true,true,true,false,false] rfl rfl (by kernel_rfl) (fun _ _ _ h => h) (Or.inr ⟨by rfl, rfl⟩) ?_ ?_
          rotate_left
          · simp only [Act.put, zA, zB, zC, i64_w, i32_w]
            rfl
          refine pure_ (i := 11) (N := some 33) (v := undef) (a' := ?_) #[true,true,true,true,true,true,true,true,true,true,true,true,false] rfl rfl (by kernel_rfl) (fun _ _ _ h => h) (Or.inr ⟨by rfl, rfl⟩) ?_ ?_
          rotate_left
          · simp only [Act.put, zA, zB, zC, i64_w, i32_w]
            rfl
          refine pure_ (i := 12) (N := some 34) (v := ?_) (a' := ?_) #[true,true,true,true,true,true,true,true,true,true,true,true,true] rfl rfl (by kernel_rfl) (fun _ _ _ h => h) (Or.inl ⟨by rfl, ?_⟩) ?_ ?_
          rotate_left
          · intro w'
            go_simp
            with_reducible rfl
          rotate_left
          · simp only [Act.put, zA, zB, zC, i64_w, i32_w]
            rfl
          refine done_ (by kernel_rfl) ?_
          go_wp2
          go_ret
          rw [HG.out, HFIN.out]
          exact ⟨rfl, on_ (on_ HB0.out.1 HBR.out) (below_drew H1.out)⟩
        · rw [hn] at HG HI
          replace HOW := HOW hn
          have HCM := Aside0.mk (HCM0.out hn)
          clear hn HCM0
          generalize owner k = o at *
          generalize cmp p k = x at *
          by_cases ho : o = part
          · have hd3 : (o != part) = false := bne_eq_false_iff_eq.2 ho
            by_cases hx : x < 0
            · have hd4 : decide (0 ≤ x) = false := decide_eq_false (by omega)
              have HFIN : Aside0 ((true && (decide (o = part) && (decide (x < 0) && goKeys part (some k) (List.drop (1 + 1) l)))) = goKeys part (prev l 2) (l.drop 2)) := ⟨by rw [HPV.out, decide_eq_true ho, decide_eq_true hx]; rfl⟩
              clear ho hx
              go_wp2_with (first | (go_at_call 56; refine (HI.out _).mono ?_; rintro e w1 ⟨rfl, hb1⟩; have H1 := Aside0.mk hb1; have hrow1 := row_on (on_ HBR.out hb1) HB0.out.2; have hq21 := row_cell (j := 2) hrow1 rfl; have hq31 := row_cell (j := 3) hrow1 rfl; have hkey1 := cell_on hb1 hkey; have hkey01 := cell_on hb1 hkey0; clear hb1 hrow1))
              refine start_ (n := 13) (S := fun w' => w'.cell? ⟨w.heap.size, 2, none⟩ = some (.int .i64 part) ∧ w'.cell? ⟨w.heap.size, 3, none⟩ = some (.slice (some ad) l.length c1) ∧ w'.cell? ⟨ad.block, ad.off + 1, none⟩ = some (.string k) ∧ w'.cell? ad = some (.string p)) (ds := []) #[false,false,false,false,false,false,false,false,false,false,false,false,false] (by kernel_rfl) rfl rfl ⟨(by go_keep), (by go_keep), (by go_keep), (by go_keep)⟩ (fun hHeld => ?_)
              refine pure_ (i := 0) (N := some 22) (v := ?_) (a' := ?_) #[true,false,false,false,false,false,false,false,false,false,false,false,false] rfl rfl (by kernel_rfl) (fun _ _ _ h => h) (Or.inl ⟨by rfl, ?_⟩) ?_ ?_
              rotate_left
              · intro w'
                go_simp
                with_reducible rfl
              rotate_left
              · simp only [Act.put, zA, zB, zC, i64_w, i32_w]
                rfl
              refine pure_ (i := 1) (N := some 23) (v := ?_) (a' := ?_) #[true,true,false,false,false,false,false,false,false,false,false,false,false] rfl rfl (by kernel_rfl) (fun _ _ _ h => h) (Or.inl ⟨by rfl, ?_⟩) ?_ ?_
              rotate_left
              · intro w'
                go_simp
                with_reducible rfl
              rotate_left
              · simp only [Act.put, zA, zB, zC, i64_w, i32_w]
                rfl
              refine pure_ (i := 2) (N := some 24) (v := ?_) (a' := ?_) #[true,true,true,false,false,false,false,false,false,false,false,false,false] rfl rfl (by kernel_rfl) (fun _ _ _ h => h) (Or.inl ⟨by rfl, ?_⟩) ?_ ?_
              rotate_left
              · intro w'
                go_simp
                with_reducible rfl
              rotate_left
              · simp only [Act.put, zA, zB, zC, i64_w, i32_w]
                rfl
              refine pure_ (i := 3) (N := some 25) (v := ?_) (a' := ?_) #[true,true,true,true,false,false,false,false,false,false,false,false,false] rfl rfl (by kernel_rfl) (fun _ _ _ h => h) (Or.inl ⟨by rfl, ?_⟩) ?_ ?_
              rotate_left
              · intro w'
                go_simp
                with_reducible rfl
              rotate_left
              · simp only [Act.put, zA, zB, zC, i64_w, i32_w]
                rfl
              refine pure_ (i := 5) (N := some 27) (v := ?_) (a' := ?_) #[true,true,true,true,false,true,false,false,false,false,false,false,false] rfl rfl (by kernel_rfl) (fun _ _ _ h => h) (Or.inl ⟨by rfl, ?_⟩) ?_ ?_
              rotate_left
              · intro w'
                go_simp
                with_reducible rfl
              rotate_left
              · simp only [Act.put, zA, zB, zC, i64_w, i32_w]
                rfl
              refine pure_ (i := 9) (N := some 31) (v := ?_) (a' := ?_) #[true,true,true,true,false,true,false,false,false,true,false,false,false] rfl rfl (by kernel_rfl) (fun _ _ _ h => h) (Or.inl ⟨by rfl, ?_⟩) ?_ ?_
              rotate_left
              · intro w'
                go_simp
                with_reducible rfl
              rotate_left
              · simp only [Act.put, zA, zB, zC, i64_w, i32_w]
                rfl
              refine take_ (i := 4) (N := some 26) (v := ?_) (a' := ?_) #[true,true,true,true,true,true,false,false,false,true,false,false,false] rfl rfl (by kernel_rfl) (fun _ _ _ h => h) (Or.inl ⟨by rfl, ?_⟩) hHeld ?_ ?_
              rotate_left
              · rintro w' ⟨s0, s1, s2, s3⟩
                go_simp
                with_reducible rfl
              rotate_left
              · simp only [Act.put, zA, zB, zC, i64_w, i32_w]
                rfl
              refine pure_ (i := 6) (N := some 28) (v := ?_) (a' := ?_) #[true,true,true,true,true,true,true,false,false,true,false,false,false] rfl rfl (by kernel_rfl) (fun _ _ _ h => h) (Or.inl ⟨by rfl, ?_⟩) ?_ ?_
              rotate_left
              · intro w'
                go_simp
                with_reducible rfl
              rotate_left
              · simp only [Act.put, zA, zB, zC, i64_w, i32_w]
                rfl
              refine take_ (i := 7) (N := some 29) (v := ?_) (a' := ?_) #[true,true,true,true,true,true,true,true,false,true,false,false,false] rfl rfl (by kernel_rfl) (fun _ _ _ h => h) (Or.inl ⟨by rfl, ?_⟩) hHeld ?_ ?_
              rotate_left
              · rintro w' ⟨s0, s1, s2, s3⟩
                go_simp
                with_reducible rfl
              rotate_left
              · simp only [Act.put, zA, zB, zC, i64_w, i32_w]
                rfl
              refine take_ (i := 10) (N := some 32) (v := ?_) (a' := ?_) #[true,true,true,true,true,true,true,true,false,true,true,false,false] rfl rfl (by kernel_rfl) (fun _ _ _ h => h) (Or.inl ⟨by rfl, ?_⟩) hHeld ?_ ?_
              rotate_left
              · rintro w' ⟨s0, s1, s2, s3⟩
                go_simp
                with_reducible rfl
              rotate_left
              · simp only [Act.put, zA, zB, zC, i64_w, i32_w]
                rfl
              refine one_ (i := 8) (N := some 30) #[true,true,true,true,true,true,true,true,true,true,true,false,false] rfl rfl (by kernel_rfl) (by decide) (fun K hK => ?_)
              refine goes_ Tryz.func97 (by kernel_rfl) rfl #[.string k] (by rfl) rfl rfl (by simp only [List.map_toArray, List.map_cons, List.map_nil]; rfl) ?_
              with_reducible refine (HOW.out _).mono ?_
              rintro e w2 ⟨rfl, hb2⟩
              refine ⟨_, rfl, ?_⟩
              refine hK.out _ _ ⟨(cell_on hb2 hHeld.1), (cell_on hb2 hHeld.2.1), (cell_on hb2 hHeld.2.2.1), (cell_on hb2 hHeld.2.2.2)⟩ (fun hHeld => ?_)
              clear hK K
              refine norm_ (a' := ?_) ?_ ?_
              rotate_left
              · show Act.put _ (some 30) _ = _
                simp only [Act.put, zA, zB, zC, i64_w, i32_w]
                rfl
              refine pure_ (i := 11) (N := some 33) (v := ?_) (a' := ?_) #[true,true,true,true,true,true,true,true,true,true,true,true,false] rfl rfl (by kernel_rfl) (fun _ _ _ h => h) (Or.inl ⟨by rfl, ?_⟩) ?_ ?_
              rotate_left
              · intro w'
                go_simp
                with_reducible rfl
              rotate_left
              · simp only [Act.put, zA, zB, zC, i64_w, i32_w]
                rfl
              refine pure_ (i := 12) (N := some 34) (v := ?_) (a' := ?_) #[true,true,true,true,true,true,true,true,true,true,true,true,true] rfl rfl (by kernel_rfl) (fun _ _ _ h => h) (Or.inl ⟨by rfl, ?_⟩) ?_ ?_
              rotate_left
              · intro w'
                go_simp
                with_reducible rfl
              rotate_left
              · simp only [Act.put, zA, zB, zC, i64_w, i32_w]
                rfl
              refine done_ (by kernel_rfl) ?_
              have H2 := Aside0.mk (on_ (below_drew H1.out) hb2)
              have hq32 := hHeld.2.1
              have hkey2 := hHeld.2.2.1
              have hkey02 := hHeld.2.2.2
              clear hb2
              go_wp2
              refine start_ (n := 17) (S := fun w' => w'.cell? ⟨w.heap.size, 3, none⟩ = some (.slice (some ad) l.length c1) ∧ w'.cell? ⟨ad.block, ad.off + 1, none⟩ = some (.string k) ∧ w'.cell? ad = some (.string p)) (ds := []) #[false,false,false,false,false,false,false,false,false,false,false,false,false,false,false,false,false] (by kernel_rfl) rfl rfl ⟨(by go_keep), (by go_keep), (by go_keep)⟩ (fun hHeld => ?_)
              refine pure_ (i := 0) (N := some 35) (v := ?_) (a' := ?_) #[true,false,false,false,false,false,false,false,false,false,false,false,false,false,false,false,false] rfl rfl (by kernel_rfl) (fun _ _ _ h => h) (Or.inl ⟨by rfl, ?_⟩) ?_ ?_
              rotate_left
              · intro w'
                go_simp
                with_reducible rfl
              rotate_left
              · simp only [Act.put, zA, zB, zC, i64_w, i32_w]
                rfl
              refine pure_ (i := 1) (N := some 36) (v := ?_) (a' := ?_) #[true,true,false,false,false,false,false,false,false,false,false,false,false,false,false,false,false] rfl rfl (by kernel_rfl) (fun _ _ _ h => h) (Or.inl ⟨by rfl, ?_⟩) ?_ ?_
              rotate_left
              · intro w'
                go_simp
                with_reducible rfl
              rotate_left
              · simp only [Act.put, zA, zB, zC, i64_w, i32_w]
                rfl
              refine pure_ (i := 2) (N := some 37) (v := ?_) (a' := ?_) #[true,true,true,false,false,false,false,false,false,false,false,false,false,false,false,false,false] rfl rfl (by kernel_rfl) (fun _ _ _ h => h) (Or.inl ⟨by rfl, ?_⟩) ?_ ?_
              rotate_left
              · intro w'
                go_simp
                with_reducible rfl
              rotate_left
              · simp only [Act.put, zA, zB, zC, i64_w, i32_w]
                rfl
              refine pure_ (i := 3) (N := some 38) (v := ?_) (a' := ?_) #[true,true,true,true,false,false,false,false,false,false,false,false,false,false,false,false,false] rfl rfl (by kernel_rfl) (fun _ _ _ h => h) (Or.inl ⟨by rfl, ?_⟩) ?_ ?_
              rotate_left
              · intro w'
                go_simp
                with_reducible rfl
              rotate_left
              · simp only [Act.put, zA, zB, zC, i64_w, i32_w]
                rfl
              refine pure_ (i := 5) (N := some 40) (v := ?_) (a' := ?_) #[true,true,true,true,false,true,false,false,false,false,false,false,false,false,false,false,false] rfl rfl (by kernel_rfl) (fun _ _ _ h => h) (Or.inl ⟨by rfl, ?_⟩) ?_ ?_
              rotate_left
              · intro w'
                go_simp
                with_reducible rfl
              rotate_left
              · simp only [Act.put, zA, zB, zC, i64_w, i32_w]
                rfl
              refine pure_ (i := 6) (N := some 41) (v := ?_) (a' := ?_) #[true,true,true,true,false,true,true,false,false,false,false,false,false,false,false,false,false] rfl rfl (by kernel_rfl) (fun _ _ _ h => h) (Or.inl ⟨by rfl, ?_⟩) ?_ ?_
              rotate_left
              · intro w'
                go_simp
                with_reducible rfl
              rotate_left
              · simp only [Act.put, zA, zB, zC, i64_w, i32_w]
                rfl
              refine pure_ (i := 9) (N := some 44) (v := ?_) (a' := ?_) #[true,true,true,true,false,true,true,false,false,true,false,false,false,false,false,false,false] rfl rfl (by kernel_rfl) (fun _ _ _ h => h) (Or.inl ⟨by rfl, ?_⟩) ?_ ?_
              rotate_left
              · intro w'
                go_simp
                with_reducible rfl
              rotate_left
              · simp only [Act.put, zA, zB, zC, i64_w, i32_w]
                rfl
              refine pure_ (i := 11) (N := some 46) (v := ?_) (a' := ?_) #[true,true,true,true,false,true,true,false,false,true,false,true,false,false,false,false,false] rfl rfl (by kernel_rfl) (fun _ _ _ h => h) (Or.inl ⟨by rfl, ?_⟩) ?_ ?_
              rotate_left
              · intro w'
                go_simp
                with_reducible rfl
              rotate_left
              · simp only [Act.put, zA, zB, zC, i64_w, i32_w]
                rfl
              refine take_ (i := 4) (N := some 39) (v := ?_) (a' := ?_) #[true,true,true,true,true,true,true,false,false,true,false,true,false,false,false,false,false] rfl rfl (by kernel_rfl) (fun _ _ _ h => h) (Or.inl ⟨by rfl, ?_⟩) hHeld ?_ ?_
              rotate_left
              · rintro w' ⟨s0, s1, s2⟩
                go_simp
                with_reducible rfl
              rotate_left
              · simp only [Act.put, zA, zB, zC, i64_w, i32_w]
                rfl
              refine pure_ (i := 7) (N := some 42) (v := ?_) (a' := ?_) #[true,true,true,true,true,true,true,true,false,true,false,true,false,false,false,false,false] rfl rfl (by kernel_rfl) (fun _ _ _ h => h) (Or.inl ⟨by rfl, ?_⟩) ?_ ?_
              rotate_left
              · intro w'
                go_simp
                with_reducible rfl
              rotate_left
              · simp only [Act.put, zA, zB, zC, i64_w, i32_w]
                rfl
              refine take_ (i := 8) (N := some 43) (v := ?_) (a' := ?_) #[true,true,true,true,true,true,true,true,true,true,false,true,false,false,false,false,false] rfl rfl (by kernel_rfl) (fun _ _ _ h => h) (Or.inl ⟨by rfl, ?_⟩) hHeld ?_ ?_
              rotate_left
              · rintro w' ⟨s0, s1, s2⟩
                go_simp
                with_reducible rfl
              rotate_left
              · simp only [Act.put, zA, zB, zC, i64_w, i32_w]
                rfl
              refine take_ (i := 10) (N := some 45) (v := ?_) (a' := ?_) #[true,true,true,true,true,true,true,true,true,true,true,true,false,false,false,false,false] rfl rfl (by kernel_rfl) (fun _ _ _ h => h) (Or.inl ⟨by rfl, ?_⟩) hHeld ?_ ?_
              rotate_left
              · rintro w' ⟨s0, s1, s2⟩
                go_simp
                with_reducible rfl
              rotate_left
              · simp only [Act.put, zA, zB, zC, i64_w, i32_w]
                rfl
              refine pure_ (i := 12) (N := some 47) (v := ?_) (a' := ?_) #[true,true,true,true,true,true,true,true,true,true,true,true,true,false,false,false,false] rfl rfl (by kernel_rfl) (fun _ _ _ h => h) (Or.inl ⟨by rfl, ?_⟩) ?_ ?_
              rotate_left
              · intro w'
                go_simp
                with_reducible rfl
              rotate_left
              · simp only [Act.put, zA, zB, zC, i64_w, i32_w]
                rfl
              refine take_ (i := 13) (N := some 48) (v := ?_) (a' := ?_) #[true,true,true,true,true,true,true,true,true,true,true,true,true,true,false,false,false] rfl rfl (by kernel_rfl) (fun _ _ _ h => h) (Or.inl ⟨by rfl, ?_⟩) hHeld ?_ ?_
              rotate_left
              · rintro w' ⟨s0, s1, s2⟩
                go_simp
                with_reducible rfl
              rotate_left
              · simp only [Act.put, zA, zB, zC, i64_w, i32_w]
                rfl
              refine one_ (i := 14) (N := some 49) #[true,true,true,true,true,true,true,true,true,true,true,true,true,true,true,false,false] rfl rfl (by kernel_rfl) (by decide) (fun K hK => ?_)
              refine goes_ Tryz.func98 (by kernel_rfl) rfl #[.string p, .string k] (by rfl) rfl rfl (by simp only [List.map_toArray, List.map_cons, List.map_nil]; rfl) ?_
              with_reducible refine (HCM.out _).mono ?_
              rintro e w3 ⟨rfl, hb3⟩
              refine ⟨_, rfl, ?_⟩
              refine hK.out _ _ ⟨(cell_on hb3 hHeld.1), (cell_on hb3 hHeld.2.1), (cell_on hb3 hHeld.2.2)⟩ (fun hHeld => ?_)
              clear hK K
              refine norm_ (a' := ?_) ?_ ?_
              rotate_left
              · show Act.put _ (some 49) _ = _
                simp only [Act.put, zA, zB, zC, i64_w, i32_w]
                rfl
              refine pure_ (i := 15) (N := some 50) (v := ?_) (a' := ?_) #[true,true,true,true,true,true,true,true,true,true,true,true,true,true,true,true,false] rfl rfl (by kernel_rfl) (fun _ _ _ h => h) (Or.inl ⟨by rfl, ?_⟩) ?_ ?_
              rotate_left
              · intro w'
                go_simp
                with_reducible rfl
              rotate_left
              · simp only [Act.put, zA, zB, zC, i64_w, i32_w]
                rfl
              refine pure_ (i := 16) (N := some 51) (v := ?_) (a' := ?_) #[true,true,true,true,true,true,true,true,true,true,true,true,true,true,true,true,true] rfl rfl (by kernel_rfl) (fun _ _ _ h => h) (Or.inl ⟨by rfl, ?_⟩) ?_ ?_
              rotate_left
              · intro w'
                go_simp
                with_reducible rfl
              rotate_left
              · simp only [Act.put, zA, zB, zC, i64_w, i32_w]
                rfl
              refine done_ (by kernel_rfl) ?_
              have H3 := Aside0.mk (on_ (below_drew H2.out) hb3)
              clear hb3
              go_wp2
              go_roundw
              case rel => exact ⟨2, by omega, by go_num, by rw [HG.out]; exact HFIN.out, fun _ _ => (by rw [hp00]; exact HN0.out), on_ HBR.out H3.out⟩
              case measure => simp [intOf]; omega
            · have hd4 : decide (0 ≤ x) = true := decide_eq_true (by omega)
              have HFIN : Aside0 ((true && (decide (o = part) && (decide (x < 0) && goKeys part (some k) (List.drop (1 + 1) l)))) = false) := ⟨by rw [decide_eq_false hx]; simp⟩
              clear ho hx
              go_wp2_with (first | (go_at_call 56; refine (HI.out _).mono ?_; rintro e w1 ⟨rfl, hb1⟩; have H1 := Aside0.mk hb1; have hrow1 := row_on (on_ HBR.out hb1) HB0.out.2; have hq21 := row_cell (j := 2) hrow1 rfl; have hq31 := row_cell (j := 3) hrow1 rfl; have hkey1 := cell_on hb1 hkey; have hkey01 := cell_on hb1 hkey0; clear hb1 hrow1))
              refine start_ (n := 13) (S := fun w' => w'.cell? ⟨w.heap.size, 2, none⟩ = some (.int .i64 part) ∧ w'.cell? ⟨w.heap.size, 3, none⟩ = some (.slice (some ad) l.length c1) ∧ w'.cell? ⟨ad.block, ad.off + 1, none⟩ = some (.string k) ∧ w'.cell? ad = some (.string p)) (ds := []) #[false,false,false,false,false,false,false,false,false,false,false,false,false] (by kernel_rfl) rfl rfl ⟨(by go_keep), (by go_keep), (by go_keep), (by go_keep)⟩ (fun hHeld => ?_)
              refine pure_ (i := 0) (N := some 22) (v := ?_) (a' := ?_) #[true,false,false,false,false,false,false,false,false,false,false,false,false] rfl rfl (by kernel_rfl) (fun _ _ _ h => h) (Or.inl ⟨by rfl, ?_⟩) ?_ ?_
              rotate_left
              · intro w'
                go_simp
                with_reducible rfl
              rotate_left
              · simp only [Act.put, zA, zB, zC, i64_w, i32_w]
                rfl
              refine pure_ (i := 1) (N := some 23) (v := ?_) (a' := ?_) #[true,true,false,false,false,false,false,false,false,false,false,false,false] rfl rfl (by kernel_rfl) (fun _ _ _ h => h) (Or.inl ⟨by rfl, ?_⟩) ?_ ?_
              rotate_left
              · intro w'
                go_simp
                with_reducible rfl
              rotate_left
              · simp only [Act.put, zA, zB, zC, i64_w, i32_w]
                rfl
              refine pure_ (i := 2) (N := some 24) (v := ?_) (a' := ?_) #[true,true,true,false,false,false,false,false,false,false,false,false,false] rfl rfl (by kernel_rfl) (fun _ _ _ h => h) (Or.inl ⟨by rfl, ?_⟩) ?_ ?_
              rotate_left
              · intro w'
                go_simp
                with_reducible rfl
              rotate_left
              · simp only [Act.put, zA, zB, zC, i64_w, i32_w]
                rfl
              refine pure_ (i := 3) (N := some 25) (v := ?_) (a' := ?_) #[true,true,true,true,false,false,false,false,false,false,false,false,false] rfl rfl (by kernel_rfl) (fun _ _ _ h => h) (Or.inl ⟨by rfl, ?_⟩) ?_ ?_
              rotate_left
              · intro w'
                go_simp
                with_reducible rfl
              rotate_left
              · simp only [Act.put, zA, zB, zC, i64_w, i32_w]
                rfl
              refine pure_ (i := 5) (N := some 27) (v := ?_) (a' := ?_) #[true,true,true,true,false,true,false,false,false,false,false,false,false] rfl rfl (by kernel_rfl) (fun _ _ _ h => h) (Or.inl ⟨by rfl, ?_⟩) ?_ ?_
              rotate_left
              · intro w'
                go_simp
                with_reducible rfl
              rotate_left
              · simp only [Act.put, zA, zB, zC, i64_w, i32_w]
                rfl
              refine pure_ (i := 9) (N := some 31) (v := ?_) (a' := ?_) #[true,true,true,true,false,true,false,false,false,true,false,false,false] rfl rfl (by kernel_rfl) (fun _ _ _ h => h) (Or.inl ⟨by rfl, ?_⟩) ?_ ?_
              rotate_left
              · intro w'
                go_simp
                with_reducible rfl
              rotate_left
              · simp only [Act.put, zA, zB, zC, i64_w, i32_w]
                rfl
              refine take_ (i := 4) (N := some 26) (v := ?_) (a' := ?_) #[true,true,true,true,true,true,false,false,false,true,false,false,false] rfl rfl (by kernel_rfl) (fun _ _ _ h => h) (Or.inl ⟨by rfl, ?_⟩) hHeld ?_ ?_
              rotate_left
              · rintro w' ⟨s0, s1, s2, s3⟩
                go_simp
                with_reducible rfl
              rotate_left
              · simp only [Act.put, zA, zB, zC, i64_w, i32_w]
                rfl
              refine pure_ (i := 6) (N := some 28) (v := ?_) (a' := ?_) #[true,true,true,true,true,true,true,false,false,true,false,false,false] rfl rfl (by kernel_rfl) (fun _ _ _ h => h) (Or.inl ⟨by rfl, ?_⟩) ?_ ?_
              rotate_left
              · intro w'
                go_simp
                with_reducible rfl
              rotate_left
              · simp only [Act.put, zA, zB, zC, i64_w, i32_w]
                rfl
              refine take_ (i := 7) (N := some 29) (v := ?_) (a' := ?_) #[true,true,true,true,true,true,true,true,false,true,false,false,false] rfl rfl (by kernel_rfl) (fun _ _ _ h => h) (Or.inl ⟨by rfl, ?_⟩) hHeld ?_ ?_
              rotate_left
              · rintro w' ⟨s0, s1, s2, s3⟩
                go_simp
                with_reducible rfl
              rotate_left
              · simp only [Act.put, zA, zB, zC, i64_w, i32_w]
                rfl
              refine take_ (i := 10) (N := some 32) (v := ?_) (a' := ?_) #[true,true,true,true,true,true,true,true,false,true,true,false,false] rfl rfl (by kernel_rfl) (fun _ _ _ h => h) (Or.inl ⟨by rfl, ?_⟩) hHeld ?_ ?_
              rotate_left
              · rintro w' ⟨s0, s1, s2, s3⟩
                go_simp
                with_reducible rfl
              rotate_left
              · simp only [Act.put, zA, zB, zC, i64_w, i32_w]
                rfl
              refine one_ (i := 8) (N := some 30) #[true,true,true,true,true,true,true,true,true,true,true,false,false] rfl rfl (by kernel_rfl) (by decide) (fun K hK => ?_)
              refine goes_ Tryz.func97 (by kernel_rfl) rfl #[.string k] (by rfl) rfl rfl (by simp only [List.map_toArray, List.map_cons, List.map_nil]; rfl) ?_
              with_reducible refine (HOW.out _).mono ?_
              rintro e w2 ⟨rfl, hb2⟩
              refine ⟨_, rfl, ?_⟩
              refine hK.out _ _ ⟨(cell_on hb2 hHeld.1), (cell_on hb2 hHeld.2.1), (cell_on hb2 hHeld.2.2.1), (cell_on hb2 hHeld.2.2.2)⟩ (fun hHeld => ?_)
              clear hK K
              refine norm_ (a' := ?_) ?_ ?_
              rotate_left
              · show Act.put _ (some 30) _ = _
                simp only [Act.put, zA, zB, zC, i64_w, i32_w]
                rfl
              refine pure_ (i := 11) (N := some 33) (v := ?_) (a' := ?_) #[true,true,true,true,true,true,true,true,true,true,true,true,false] rfl rfl (by kernel_rfl) (fun _ _ _ h => h) (Or.inl ⟨by rfl, ?_⟩) ?_ ?_
              rotate_left
              · intro w'
                go_simp
                with_reducible rfl
              rotate_left
              · simp only [Act.put, zA, zB, zC, i64_w, i32_w]
                rfl
              refine pure_ (i := 12) (N := some 34) (v := ?_) (a' := ?_) #[true,true,true,true,true,true,true,true,true,true,true,true,true] rfl rfl (by kernel_rfl) (fun _ _ _ h => h) (Or.inl ⟨by rfl, ?_⟩) ?_ ?_
              rotate_left
              · intro w'
                go_simp
                with_reducible rfl
              rotate_left
              · simp only [Act.put, zA, zB, zC, i64_w, i32_w]
                rfl
              refine done_ (by kernel_rfl) ?_
              have H2 := Aside0.mk (on_ (below_drew H1.out) hb2)
              have hq32 := hHeld.2.1
              have hkey2 := hHeld.2.2.1
              have hkey02 := hHeld.2.2.2
              clear hb2
              go_wp2
              refine start_ (n := 17) (S := fun w' => w'.cell? ⟨w.heap.size, 3, none⟩ = some (.slice (some ad) l.length c1) ∧ w'.cell? ⟨ad.block, ad.off + 1, none⟩ = some (.string k) ∧ w'.cell? ad = some (.string p)) (ds := []) #[false,false,false,false,false,false,false,false,false,false,false,false,false,false,false,false,false] (by kernel_rfl) rfl rfl ⟨(by go_keep), (by go_keep), (by go_keep)⟩ (fun hHeld => ?_)
              refine pure_ (i := 0) (N := some 35) (v := ?_) (a' := ?_) #[true,false,false,false,false,false,false,false,false,false,false,false,false,false,false,false,false] rfl rfl (by kernel_rfl) (fun _ _ _ h => h) (Or.inl ⟨by rfl, ?_⟩) ?_ ?_
              rotate_left
              · intro w'
                go_simp
                with_reducible rfl
              rotate_left
              · simp only [Act.put, zA, zB, zC, i64_w, i32_w]
                rfl
              refine pure_ (i := 1) (N := some 36) (v := ?_) (a' := ?_) #[true,true,false,false,false,false,false,false,false,false,false,false,false,false,false,false,false] rfl rfl (by kernel_rfl) (fun _ _ _ h => h) (Or.inl ⟨by rfl, ?_⟩) ?_ ?_
              rotate_left
              · intro w'
                go_simp
                with_reducible rfl
              rotate_left
              · simp only [Act.put, zA, zB, zC, i64_w, i32_w]
                rfl
              refine pure_ (i := 2) (N := some 37) (v := ?_) (a' := ?_) #[true,true,true,false,false,false,false,false,false,false,false,false,false,false,false,false,false] rfl rfl (by kernel_rfl) (fun _ _ _ h => h) (Or.inl ⟨by rfl, ?_⟩) ?_ ?_
              rotate_left
              · intro w'
                go_simp
                with_reducible rfl
              rotate_left
              · simp only [Act.put, zA, zB, zC, i64_w, i32_w]
                rfl
              refine pure_ (i := 3) (N := some 38) (v := ?_) (a' := ?_) #[true,true,true,true,false,false,false,false,false,false,false,false,false,false,false,false,false] rfl rfl (by kernel_rfl) (fun _ _ _ h => h) (Or.inl ⟨by rfl, ?_⟩) ?_ ?_
              rotate_left
              · intro w'
                go_simp
                with_reducible rfl
              rotate_left
              · simp only [Act.put, zA, zB, zC, i64_w, i32_w]
                rfl
              refine pure_ (i := 5) (N := some 40) (v := ?_) (a' := ?_) #[true,true,true,true,false,true,false,false,false,false,false,false,false,false,false,false,false] rfl rfl (by kernel_rfl) (fun _ _ _ h => h) (Or.inl ⟨by rfl, ?_⟩) ?_ ?_
              rotate_left
              · intro w'
                go_simp
                with_reducible rfl
              rotate_left
              · simp only [Act.put, zA, zB, zC, i64_w, i32_w]
                rfl
              refine pure_ (i := 6) (N := some 41) (v := ?_) (a' := ?_) #[true,true,true,true,false,true,true,false,false,false,false,false,false,false,false,false,false] rfl rfl (by kernel_rfl) (fun _ _ _ h => h) (Or.inl ⟨by rfl, ?_⟩) ?_ ?_
              rotate_left
              · intro w'
                go_simp
                with_reducible rfl
              rotate_left
              · simp only [Act.put, zA, zB, zC, i64_w, i32_w]
                rfl
              refine pure_ (i := 9) (N := some 44) (v := ?_) (a' := ?_) #[true,true,true,true,false,true,true,false,false,true,false,false,false,false,false,false,false] rfl rfl (by kernel_rfl) (fun _ _ _ h => h) (Or.inl ⟨by rfl, ?_⟩) ?_ ?_
              rotate_left
              · intro w'
                go_simp
                with_reducible rfl
              rotate_left
              · simp only [Act.put, zA, zB, zC, i64_w, i32_w]
                rfl
              refine pure_ (i := 11) (N := some 46) (v := ?_) (a' := ?_) #[true,true,true,true,false,true,true,false,false,true,false,true,false,false,false,false,false] rfl rfl (by kernel_rfl) (fun _ _ _ h => h) (Or.inl ⟨by rfl, ?_⟩) ?_ ?_
              rotate_left
              · intro w'
                go_simp
                with_reducible rfl
              rotate_left
              · simp only [Act.put, zA, zB, zC, i64_w, i32_w]
                rfl
              refine take_ (i := 4) (N := some 39) (v := ?_) (a' := ?_) #[true,true,true,true,true,true,true,false,false,true,false,true,false,false,false,false,false] rfl rfl (by kernel_rfl) (fun _ _ _ h => h) (Or.inl ⟨by rfl, ?_⟩) hHeld ?_ ?_
              rotate_left
              · rintro w' ⟨s0, s1, s2⟩
                go_simp
                with_reducible rfl
              rotate_left
              · simp only [Act.put, zA, zB, zC, i64_w, i32_w]
                rfl
              refine pure_ (i := 7) (N := some 42) (v := ?_) (a' := ?_) #[true,true,true,true,true,true,true,true,false,true,false,true,false,false,false,false,false] rfl rfl (by kernel_rfl) (fun _ _ _ h => h) (Or.inl ⟨by rfl, ?_⟩) ?_ ?_
              rotate_left
              · intro w'
                go_simp
                with_reducible rfl
              rotate_left
              · simp only [Act.put, zA, zB, zC, i64_w, i32_w]
                rfl
              refine take_ (i := 8) (N := some 43) (v := ?_) (a' := ?_) #[true,true,true,true,true,true,true,true,true,true,false,true,false,false,false,false,false] rfl rfl (by kernel_rfl) (fun _ _ _ h => h) (Or.inl ⟨by rfl, ?_⟩) hHeld ?_ ?_
              rotate_left
              · rintro w' ⟨s0, s1, s2⟩
                go_simp
                with_reducible rfl
              rotate_left
              · simp only [Act.put, zA, zB, zC, i64_w, i32_w]
                rfl
              refine take_ (i := 10) (N := some 45) (v := ?_) (a' := ?_) #[true,true,true,true,true,true,true,true,true,true,true,true,false,false,false,false,false] rfl rfl (by kernel_rfl) (fun _ _ _ h => h) (Or.inl ⟨by rfl, ?_⟩) hHeld ?_ ?_
              rotate_left
              · rintro w' ⟨s0, s1, s2⟩
                go_simp
                with_reducible rfl
              rotate_left
              · simp only [Act.put, zA, zB, zC, i64_w, i32_w]
                rfl
              refine pure_ (i := 12) (N := some 47) (v := ?_) (a' := ?_) #[true,true,true,true,true,true,true,true,true,true,true,true,true,false,false,false,false] rfl rfl (by kernel_rfl) (fun _ _ _ h => h) (Or.inl ⟨by rfl, ?_⟩) ?_ ?_
              rotate_left
              · intro w'
                go_simp
                with_reducible rfl
              rotate_left
              · simp only [Act.put, zA, zB, zC, i64_w, i32_w]
                rfl
              refine take_ (i := 13) (N := some 48) (v := ?_) (a' := ?_) #[true,true,true,true,true,true,true,true,true,true,true,true,true,true,false,false,false] rfl rfl (by kernel_rfl) (fun _ _ _ h => h) (Or.inl ⟨by rfl, ?_⟩) hHeld ?_ ?_
              rotate_left
              · rintro w' ⟨s0, s1, s2⟩
                go_simp
                with_reducible rfl
              rotate_left
              · simp only [Act.put, zA, zB, zC, i64_w, i32_w]
                rfl
              refine one_ (i := 14) (N := some 49) #[true,true,true,true,true,true,true,true,true,true,true,true,true,true,true,false,false] rfl rfl (by kernel_rfl) (by decide) (fun K hK => ?_)
              refine goes_ Tryz.func98 (by kernel_rfl) rfl #[.string p, .string k] (by rfl) rfl rfl (by simp only [List.map_toArray, List.map_cons, List.map_nil]; rfl) ?_
              with_reducible refine (HCM.out _).mono ?_
              rintro e w3 ⟨rfl, hb3⟩
              refine ⟨_, rfl, ?_⟩
              refine hK.out _ _ ⟨(cell_on hb3 hHeld.1), (cell_on hb3 hHeld.2.1), (cell_on hb3 hHeld.2.2)⟩ (fun hHeld => ?_)
              clear hK K
              refine norm_ (a' := ?_) ?_ ?_
              rotate_left
              · show Act.put _ (some 49) _ = _
                simp only [Act.put, zA, zB, zC, i64_w, i32_w]
                rfl
              refine pure_ (i := 15) (N := some 50) (v := ?_) (a' := ?_) #[true,true,true,true,true,true,true,true,true,true,true,true,true,true,true,true,false] rfl rfl (by kernel_rfl) (fun _ _ _ h => h) (Or.inl ⟨by rfl, ?_⟩) ?_ ?_
              rotate_left
              · intro w'
                go_simp
                with_reducible rfl
              rotate_left
              · simp only [Act.put, zA, zB, zC, i64_w, i32_w]
                rfl
              refine pure_ (i := 16) (N := some 51) (v := ?_) (a' := ?_) #[true,true,true,true,true,true,true,true,true,true,true,true,true,true,true,true,true] rfl rfl (by kernel_rfl) (fun _ _ _ h => h) (Or.inl ⟨by rfl, ?_⟩) ?_ ?_
              rotate_left
              · intro w'
                go_simp
                with_reducible rfl
              rotate_left
              · simp only [Act.put, zA, zB, zC, i64_w, i32_w]
                rfl
              refine done_ (by kernel_rfl) ?_
              have H3 := Aside0.mk (on_ (below_drew H2.out) hb3)
              clear hb3
              go_wp2
              go_ret
              rw [HG.out, HFIN.out]
              exact ⟨rfl, on_ (on_ HB0.out.1 HBR.out) H3.out⟩
          · have hd3 : (o != part) = true := bne_iff_ne.2 ho
            have HFIN : Aside0 ((true && (decide (o = part) && (decide (x < 0) && goKeys part (some k) (List.drop (1 + 1) l)))) = false) := ⟨by rw [decide_eq_false ho]; rfl⟩
            clear ho
            go_wp2_with (first | (go_at_call 56; refine (HI.out _).mono ?_; rintro e w1 ⟨rfl, hb1⟩; have H1 := Aside0.mk hb1; have hrow1 := row_on (on_ HBR.out hb1) HB0.out.2; have hq21 := row_cell (j := 2) hrow1 rfl; have hq31 := row_cell (j := 3) hrow1 rfl; have hkey1 := cell_on hb1 hkey; have hkey01 := cell_on hb1 hkey0; clear hb1 hrow1))
            refine start_ (n := 13) (S := fun w' => w'.cell? ⟨w.heap.size, 2, none⟩ = some (.int .i64 part) ∧ w'.cell? ⟨w.heap.size, 3, none⟩ = some (.slice (some ad) l.length c1) ∧ w'.cell? ⟨ad.block, ad.off + 1, none⟩ = some (.string k)) (ds := []) #[false,false,false,false,false,false,false,false,false,false,false,false,false] (by kernel_rfl) rfl rfl ⟨(by go_keep), (by go_keep), (by go_keep)⟩ (fun hHeld => ?_)
            refine pure_ (i := 0) (N := some 22) (v := ?_) (a' := ?_) #[true,false,false,false,false,false,false,false,false,false,false,false,false] rfl rfl (by kernel_rfl) (fun _ _ _ h => h) (Or.inl ⟨by rfl, ?_⟩) ?_ ?_
            rotate_left
            · intro w'
              go_simp
              with_reducible rfl
            rotate_left
            · simp only [Act.put, zA, zB, zC, i64_w, i32_w]
              rfl
            refine pure_ (i := 1) (N := some 23) (v := ?_) (a' := ?_) #[true,true,false,false,false,false,false,false,false,false,false,false,false] rfl rfl (by kernel_rfl) (fun _ _ _ h => h) (Or.inl ⟨by rfl, ?_⟩) ?_ ?_
            rotate_left
            · intro w'
              go_simp
              with_reducible rfl
            rotate_left
            · simp only [Act.put, zA, zB, zC, i64_w, i32_w]
              rfl
            refine pure_ (i := 2) (N := some 24) (v := ?_) (a' := ?_) #[true,true,true,false,false,false,false,false,false,false,false,false,false] rfl rfl (by kernel_rfl) (fun _ _ _ h => h) (Or.inl ⟨by rfl, ?_⟩) ?_ ?_
            rotate_left
            · intro w'
              go_simp
              with_reducible rfl
            rotate_left
            · simp only [Act.put, zA, zB, zC, i64_w, i32_w]
              rfl
            refine pure_ (i := 3) (N := some 25) (v := ?_) (a' := ?_) #[true,true,true,true,false,false,false,false,false,false,false,false,false] rfl rfl (by kernel_rfl) (fun _ _ _ h => h) (Or.inl ⟨by rfl, ?_⟩) ?_ ?_
            rotate_left
            · intro w'
              go_simp
              with_reducible rfl
            rotate_left
            · simp only [Act.put, zA, zB, zC, i64_w, i32_w]
              rfl
            refine pure_ (i := 5) (N := some 27) (v := ?_) (a' := ?_) #[true,true,true,true,false,true,false,false,false,false,false,false,false] rfl rfl (by kernel_rfl) (fun _ _ _ h => h) (Or.inl ⟨by rfl, ?_⟩) ?_ ?_
            rotate_left
            · intro w'
              go_simp
              with_reducible rfl
            rotate_left
            · simp only [Act.put, zA, zB, zC, i64_w, i32_w]
              rfl
            refine pure_ (i := 9) (N := some 31) (v := ?_) (a' := ?_) #[true,true,true,true,false,true,false,false,false,true,false,false,false] rfl rfl (by kernel_rfl) (fun _ _ _ h => h) (Or.inl ⟨by rfl, ?_⟩) ?_ ?_
            rotate_left
            · intro w'
              go_simp
              with_reducible rfl
            rotate_left
            · simp only [Act.put, zA, zB, zC, i64_w, i32_w]
              rfl
            refine take_ (i := 4) (N := some 26) (v := ?_) (a' := ?_) #[true,true,true,true,true,true,false,false,false,true,false,false,false] rfl rfl (by kernel_rfl) (fun _ _ _ h => h) (Or.inl ⟨by rfl, ?_⟩) hHeld ?_ ?_
            rotate_left
            · rintro w' ⟨s0, s1, s2⟩
              go_simp
              with_reducible rfl
            rotate_left
            · simp only [Act.put, zA, zB, zC, i64_w, i32_w]
              rfl
            refine pure_ (i := 6) (N := some 28) (v := ?_) (a' := ?_) #[true,true,true,true,true,true,true,false,false,true,false,false,false] rfl rfl (by kernel_rfl) (fun _ _ _ h => h) (Or.inl ⟨by rfl, ?_⟩) ?_ ?_
            rotate_left
            · intro w'
              go_simp
              with_reducible rfl
            rotate_left
            · simp only [Act.put, zA, zB, zC, i64_w, i32_w]
              rfl
            refine take_ (i := 7) (N := some 29) (v := ?_) (a' := ?_) #[true,true,true,true,true,true,true,true,false,true,false,false,false] rfl rfl (by kernel_rfl) (fun _ _ _ h => h) (Or.inl ⟨by rfl, ?_⟩) hHeld ?_ ?_
            rotate_left
            · rintro w' ⟨s0, s1, s2⟩
              go_simp
              with_reducible rfl
            rotate_left
            · simp only [Act.put, zA, zB, zC, i64_w, i32_w]
              rfl
            refine take_ (i := 10) (N := some 32) (v := ?_) (a' := ?_) #[true,true,true,true,true,true,true,true,false,true,true,false,false] rfl rfl (by kernel_rfl) (fun _ _ _ h => h) (Or.inl ⟨by rfl, ?_⟩) hHeld ?_ ?_
            rotate_left
            · rintro w' ⟨s0, s1, s2⟩
              go_simp
              with_reducible rfl
            rotate_left
            · simp only [Act.put, zA, zB, zC, i64_w, i32_w]
              rfl
            refine one_ (i := 8) (N := some 30) #[true,true,true,true,true,true,true,true,true,true,true,false,false] rfl rfl (by kernel_rfl) (by decide) (fun K hK => ?_)
            refine goes_ Tryz.func97 (by kernel_rfl) rfl #[.string k] (by rfl) rfl rfl (by simp only [List.map_toArray, List.map_cons, List.map_nil]; rfl) ?_
            with_reducible refine (HOW.out _).mono ?_
            rintro e w2 ⟨rfl, hb2⟩
            refine ⟨_, rfl, ?_⟩
            refine hK.out _ _ ⟨(cell_on hb2 hHeld.1), (cell_on hb2 hHeld.2.1), (cell_on hb2 hHeld.2.2)⟩ (fun hHeld => ?_)
            clear hK K
            refine norm_ (a' := ?_) ?_ ?_
            rotate_left
            · show Act.put _ (some 30) _ = _
              simp only [Act.put, zA, zB, zC, i64_w, i32_w]
              rfl
            refine pure_ (i := 11) (N := some 33) (v := ?_) (a' := ?_) #[true,true,true,true,true,true,true,true,true,true,true,true,false] rfl rfl (by kernel_rfl) (fun _ _ _ h => h) (Or.inl ⟨by rfl, ?_⟩) ?_ ?_
            rotate_left
            · intro w'
              go_simp
              with_reducible rfl
            rotate_left
            · simp only [Act.put, zA, zB, zC, i64_w, i32_w]
              rfl
            refine pure_ (i := 12) (N := some 34) (v := ?_) (a' := ?_) #[true,true,true,true,true,true,true,true,true,true,true,true,true] rfl rfl (by kernel_rfl) (fun _ _ _ h => h) (Or.inl ⟨by rfl, ?_⟩) ?_ ?_
            rotate_left
            · intro w'
              go_simp
              with_reducible rfl
            rotate_left
            · simp only [Act.put, zA, zB, zC, i64_w, i32_w]
              rfl
            refine done_ (by kernel_rfl) ?_
            have H2 := Aside0.mk (on_ (below_drew H1.out) hb2)
            clear hb2
            go_wp2
            go_ret
            rw [HG.out, HFIN.out]
            exact ⟨rfl, on_ (on_ HB0.out.1 HBR.out) H2.out⟩
    · have hi' : i = l.length := by omega
      subst hi'
      have hd2 : decide ((l.length : Int) < (l.length : Int)) = false := decide_eq_false (by omega)
      go_wp2
      go_ret
      rw [HG.out, List.drop_length]
      refine ⟨?_, on_ HB0.out.1 HBR.out⟩
      cases prev l l.length <;> rfl
end Go.Proofs.YthlgcibckakhbaaGreatDoor.Pl
