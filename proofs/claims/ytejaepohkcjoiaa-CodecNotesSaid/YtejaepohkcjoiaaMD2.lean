/- Several texts in one, in build order: CdOwn4, CdOwn, CdMayP, CdMayN1, CdMayN2, CdMayN, CdWr, CdRead, CdRead1, CdRead2, CdRead3, CdRead4, CdPlain, CdFits, CdIO, CdIO2, CdRF, CdLive, Opens, OpensK, CmpWalk. -/
import Derived.Test.YtejaepohkcjoiaaMA1
import Derived.Handy
import Derived.Defers
import Derived.Recover
import Derived.Laws.Pointers
import Derived.Test.YtejaepohkcjoiaaWMore
import Derived.Test.YtejaepohkcjoiaaWSized
import Derived.Carry
import Derived.ChangeOld
import Derived.Laws.BitsLemmas
import Derived.Laws.BitsAll
import Derived.Laws.Shifts
import Derived.Lib.OthersKept
import Derived.WalkSmall
/- codec: own of a note: the walk, path by path (written by wip/gen/mkown.py). -/
namespace Go.Proofs.Ytejaepohkcjoiaa.CdMay
open Go.RowKit Go.IntWalk Go.Proofs.Ytejaepohkcjoiaa.B Go.Proofs.YtejaepohkcjoiaaW.PrintWords Go.Proofs.YtejaepohkcjoiaaW.PrintLast Go.Proofs.YtejaepohkcjoiaaW.PrintMore Go.Proofs.Ytejaepohkcjoiaa.CdForm

set_option linter.unusedSimpArgs false in
set_option linter.unusedVariables false in
set_option maxHeartbeats 4000000 in
set_option maxRecDepth 100000 in
theorem own2k (w : World) (g : Nat) (kind inst step state part cause : Int) (key name : ByteArray) (version : Int) (text : ByteArray) (hg0 : w.heap[g]? = some (.cells (CdNote.cells ⟨kind, inst, step, state, part, cause, key, name, version, text⟩) 60 (0, 0)))
    (hs : key.size ≤ 9000000000000000000 ∧ name.size ≤ 9000000000000000000) (hk : kind = 2) (hb : Nm.isName key = true) (hc : Nm.isName name = false) :
    Calls Try.prog 108 #[.pointer (some ⟨g, 0, none⟩)] w fun e w' => e = .returned (.tuple #[aggN (ownN ⟨kind, inst, step, state, part, cause, key, name, version, text⟩).1, .bool (ownN ⟨kind, inst, step, state, part, cause, key, name, version, text⟩).2]) ∧ Below w.heap.size w w' := by
  have hc0 : w.cell? ⟨g, 0, none⟩ = some (.int .i64 kind) := row_cell hg0 rfl
  have hc1 : w.cell? ⟨g, 1, none⟩ = some (.int .i64 inst) := row_cell hg0 rfl
  have hc2 : w.cell? ⟨g, 2, none⟩ = some (.int .i64 step) := row_cell hg0 rfl
  have hc3 : w.cell? ⟨g, 3, none⟩ = some (.int .i64 state) := row_cell hg0 rfl
  have hc4 : w.cell? ⟨g, 4, none⟩ = some (.int .i64 part) := row_cell hg0 rfl
  have hc5 : w.cell? ⟨g, 5, none⟩ = some (.int .i64 cause) := row_cell hg0 rfl
  have hc6 : w.cell? ⟨g, 6, none⟩ = some (.string key) := row_cell hg0 rfl
  have hc7 : w.cell? ⟨g, 7, none⟩ = some (.string name) := row_cell hg0 rfl
  have hc8 : w.cell? ⟨g, 8, none⟩ = some (.int .i64 version) := row_cell hg0 rfl
  have hc9 : w.cell? ⟨g, 9, none⟩ = some (.string text) := row_cell hg0 rfl
  have hlt : g < w.heap.size := (Array.getElem?_eq_some_iff.1 hg0).1
  have hne : g ≠ w.heap.size := Nat.ne_of_lt hlt
  have hnew' : w.heap.size ≠ g := Ne.symm hne
  have hnew := World.new_ne w ⟨g, 0, none⟩ hc0
  clear hg0

  obtain rfl : kind = 2 := hk
  have HB := Aside0.mk (And.intro hs.1 hb)
  have HC := Aside0.mk (And.intro hs.2 hc)
  clear hb hc hs
  go_enter Try.func108, Try.ntmps108
  go_wp2_with (first | (go_at_call 79; refine (between_calls _ _ _ _).mono ?_; rintro e w1 ⟨nd, rfl, rfl⟩))
  refine start_ (n := 34) (S := fun w' => w'.cell? ⟨g, 6, none⟩ = some (.string key) ∧ w'.cell? ⟨g, 7, none⟩ = some (.string name) ∧ w'.cell? ⟨g, 8, none⟩ = some (.int .i64 version) ∧ w'.heap[w.heap.size]? = some (.cells #[.int .i64 0, .int .i64 0, .int .i64 0, .int .i64 0, .int .i64 0, .int .i64 0, .string ⟨#[]⟩, .string ⟨#[]⟩, .int .i64 0, .string ⟨#[]⟩] 60 (0, 0))) (ds := [32]) #[false, false, false, false, false, false, false, false, false, false, false, false, false, false, false, false, false, false, false, false, false, false, false, false, false, false, false, false, false, false, false, false, false, false] (by kernel_rfl) rfl rfl ⟨(by go_keep), (by go_keep), (by go_keep), (alloc_row w)⟩ (fun hHeld => ?_)
  refine pure_ (i := 0) (N := some 24) (v := ?_) (a' := ?_) #[true, false, false, false, false, false, false, false, false, false, false, false, false, false, false, false, false, false, false, false, false, false, false, false, false, false, false, false, false, false, false, false, false, false] rfl rfl (by kernel_rfl) (fun _ _ _ h => h) (Or.inl ⟨by rfl, ?_⟩) ?_ ?_
  rotate_left
  · intro w'
    go_simp
    with_reducible rfl
  rotate_left
  · simp only [Act.put, List.setIfInBounds_toArray, List.set_cons_zero, List.set_cons_succ, i64_w, i32_w]
    rfl
  refine pure_ (i := 1) (N := some 25) (v := ?_) (a' := ?_) #[true, true, false, false, false, false, false, false, false, false, false, false, false, false, false, false, false, false, false, false, false, false, false, false, false, false, false, false, false, false, false, false, false, false] rfl rfl (by kernel_rfl) (fun _ _ _ h => h) (Or.inl ⟨by rfl, ?_⟩) ?_ ?_
  rotate_left
  · intro w'
    go_simp
    with_reducible rfl
  rotate_left
  · simp only [Act.put, List.setIfInBounds_toArray, List.set_cons_zero, List.set_cons_succ, i64_w, i32_w]
    rfl
  refine pure_ (i := 2) (N := some 26) (v := ?_) (a' := ?_) #[true, true, true, false, false, false, false, false, false, false, false, false, false, false, false, false, false, false, false, false, false, false, false, false, false, false, false, false, false, false, false, false, false, false] rfl rfl (by kernel_rfl) (fun _ _ _ h => h) (Or.inl ⟨by rfl, ?_⟩) ?_ ?_
  rotate_left
  · intro w'
    go_simp
    with_reducible rfl
  rotate_left
  · simp only [Act.put, List.setIfInBounds_toArray, List.set_cons_zero, List.set_cons_succ, i64_w, i32_w]
    rfl
  refine pure_ (i := 4) (N := some 28) (v := ?_) (a' := ?_) #[true, true, true, false, true, false, false, false, false, false, false, false, false, false, false, false, false, false, false, false, false, false, false, false, false, false, false, false, false, false, false, false, false, false] rfl rfl (by kernel_rfl) (fun _ _ _ h => h) (Or.inl ⟨by rfl, ?_⟩) ?_ ?_
  rotate_left
  · intro w'
    go_simp
    with_reducible rfl
  rotate_left
  · simp only [Act.put, List.setIfInBounds_toArray, List.set_cons_zero, List.set_cons_succ, i64_w, i32_w]
    rfl
  refine pure_ (i := 5) (N := some 29) (v := ?_) (a' := ?_) #[true, true, true, false, true, true, false, false, false, false, false, false, false, false, false, false, false, false, false, false, false, false, false, false, false, false, false, false, false, false, false, false, false, false] rfl rfl (by kernel_rfl) (fun _ _ _ h => h) (Or.inl ⟨by rfl, ?_⟩) ?_ ?_
  rotate_left
  · intro w'
    go_simp
    with_reducible rfl
  rotate_left
  · simp only [Act.put, List.setIfInBounds_toArray, List.set_cons_zero, List.set_cons_succ, i64_w, i32_w]
    rfl
  refine pure_ (i := 6) (N := some 30) (v := ?_) (a' := ?_) #[true, true, true, false, true, true, true, false, false, false, false, false, false, false, false, false, false, false, false, false, false, false, false, false, false, false, false, false, false, false, false, false, false, false] rfl rfl (by kernel_rfl) (fun _ _ _ h => h) (Or.inl ⟨by rfl, ?_⟩) ?_ ?_
  rotate_left
  · intro w'
    go_simp
    with_reducible rfl
  rotate_left
  · simp only [Act.put, List.setIfInBounds_toArray, List.set_cons_zero, List.set_cons_succ, i64_w, i32_w]
    rfl
  refine pure_ (i := 8) (N := some 32) (v := ?_) (a' := ?_) #[true, true, true, false, true, true, true, false, true, false, false, false, false, false, false, false, false, false, false, false, false, false, false, false, false, false, false, false, false, false, false, false, false, false] rfl rfl (by kernel_rfl) (fun _ _ _ h => h) (Or.inl ⟨by rfl, ?_⟩) ?_ ?_
  rotate_left
  · intro w'
    go_simp
    with_reducible rfl
  rotate_left
  · simp only [Act.put, List.setIfInBounds_toArray, List.set_cons_zero, List.set_cons_succ, i64_w, i32_w]
    rfl
  refine pure_ (i := 9) (N := some 33) (v := ?_) (a' := ?_) #[true, true, true, false, true, true, true, false, true, true, false, false, false, false, false, false, false, false, false, false, false, false, false, false, false, false, false, false, false, false, false, false, false, false] rfl rfl (by kernel_rfl) (fun _ _ _ h => h) (Or.inl ⟨by rfl, ?_⟩) ?_ ?_
  rotate_left
  · intro w'
    go_simp
    with_reducible rfl
  rotate_left
  · simp only [Act.put, List.setIfInBounds_toArray, List.set_cons_zero, List.set_cons_succ, i64_w, i32_w]
    rfl
  refine pure_ (i := 10) (N := some 34) (v := ?_) (a' := ?_) #[true, true, true, false, true, true, true, false, true, true, true, false, false, false, false, false, false, false, false, false, false, false, false, false, false, false, false, false, false, false, false, false, false, false] rfl rfl (by kernel_rfl) (fun _ _ _ h => h) (Or.inl ⟨by rfl, ?_⟩) ?_ ?_
  rotate_left
  · intro w'
    go_simp
    with_reducible rfl
  rotate_left
  · simp only [Act.put, List.setIfInBounds_toArray, List.set_cons_zero, List.set_cons_succ, i64_w, i32_w]
    rfl
  refine pure_ (i := 13) (N := some 37) (v := ?_) (a' := ?_) #[true, true, true, false, true, true, true, false, true, true, true, false, false, true, false, false, false, false, false, false, false, false, false, false, false, false, false, false, false, false, false, false, false, false] rfl rfl (by kernel_rfl) (fun _ _ _ h => h) (Or.inl ⟨by rfl, ?_⟩) ?_ ?_
  rotate_left
  · intro w'
    go_simp
    with_reducible rfl
  rotate_left
  · simp only [Act.put, List.setIfInBounds_toArray, List.set_cons_zero, List.set_cons_succ, i64_w, i32_w]
    rfl
  refine pure_ (i := 14) (N := some 38) (v := ?_) (a' := ?_) #[true, true, true, false, true, true, true, false, true, true, true, false, false, true, true, false, false, false, false, false, false, false, false, false, false, false, false, false, false, false, false, false, false, false] rfl rfl (by kernel_rfl) (fun _ _ _ h => h) (Or.inl ⟨by rfl, ?_⟩) ?_ ?_
  rotate_left
  · intro w'
    go_simp
    with_reducible rfl
  rotate_left
  · simp only [Act.put, List.setIfInBounds_toArray, List.set_cons_zero, List.set_cons_succ, i64_w, i32_w]
    rfl
  refine pure_ (i := 15) (N := some 39) (v := ?_) (a' := ?_) #[true, true, true, false, true, true, true, false, true, true, true, false, false, true, true, true, false, false, false, false, false, false, false, false, false, false, false, false, false, false, false, false, false, false] rfl rfl (by kernel_rfl) (fun _ _ _ h => h) (Or.inl ⟨by rfl, ?_⟩) ?_ ?_
  rotate_left
  · intro w'
    go_simp
    with_reducible rfl
  rotate_left
  · simp only [Act.put, List.setIfInBounds_toArray, List.set_cons_zero, List.set_cons_succ, i64_w, i32_w]
    rfl
  refine take_ (i := 3) (N := some 27) (v := ?_) (a' := ?_) #[true, true, true, true, true, true, true, false, true, true, true, false, false, true, true, true, false, false, false, false, false, false, false, false, false, false, false, false, false, false, false, false, false, false] rfl rfl (by kernel_rfl) (fun _ _ _ h => h) (Or.inl ⟨by rfl, ?_⟩) hHeld ?_ ?_
  rotate_left
  · rintro w' ⟨s0, s1, s2, s3⟩
    go_simp
    with_reducible rfl
  rotate_left
  · simp only [Act.put, List.setIfInBounds_toArray, List.set_cons_zero, List.set_cons_succ, i64_w, i32_w]
    rfl
  refine take_ (i := 7) (N := some 31) (v := ?_) (a' := ?_) #[true, true, true, true, true, true, true, true, true, true, true, false, false, true, true, true, false, false, false, false, false, false, false, false, false, false, false, false, false, false, false, false, false, false] rfl rfl (by kernel_rfl) (fun _ _ _ h => h) (Or.inl ⟨by rfl, ?_⟩) hHeld ?_ ?_
  rotate_left
  · rintro w' ⟨s0, s1, s2, s3⟩
    go_simp
    with_reducible rfl
  rotate_left
  · simp only [Act.put, List.setIfInBounds_toArray, List.set_cons_zero, List.set_cons_succ, i64_w, i32_w]
    rfl
  refine take_ (i := 11) (N := some 35) (v := ?_) (a' := ?_) #[true, true, true, true, true, true, true, true, true, true, true, true, false, true, true, true, false, false, false, false, false, false, false, false, false, false, false, false, false, false, false, false, false, false] rfl rfl (by kernel_rfl) (fun _ _ _ h => h) (Or.inl ⟨by rfl, ?_⟩) hHeld ?_ ?_
  rotate_left
  · rintro w' ⟨s0, s1, s2, s3⟩
    go_simp
    with_reducible rfl
  rotate_left
  · simp only [Act.put, List.setIfInBounds_toArray, List.set_cons_zero, List.set_cons_succ, i64_w, i32_w]
    rfl
  refine pure_ (i := 12) (N := some 36) (v := ?_) (a' := ?_) #[true, true, true, true, true, true, true, true, true, true, true, true, true, true, true, true, false, false, false, false, false, false, false, false, false, false, false, false, false, false, false, false, false, false] rfl rfl (by kernel_rfl) (fun _ _ _ h => h) (Or.inl ⟨by rfl, ?_⟩) ?_ ?_
  rotate_left
  · intro w'
    go_simp
    with_reducible rfl
  rotate_left
  · simp only [Act.put, List.setIfInBounds_toArray, List.set_cons_zero, List.set_cons_succ, i64_w, i32_w]
    rfl
  refine take_ (i := 16) (N := some 40) (v := ?_) (a' := ?_) #[true, true, true, true, true, true, true, true, true, true, true, true, true, true, true, true, true, false, false, false, false, false, false, false, false, false, false, false, false, false, false, false, false, false] rfl rfl (by kernel_rfl) (fun _ _ _ h => h) (Or.inl ⟨by rfl, ?_⟩) hHeld ?_ ?_
  rotate_left
  · rintro w' ⟨s0, s1, s2, s3⟩
    go_simp
    with_reducible rfl
  rotate_left
  · simp only [Act.put, List.setIfInBounds_toArray, List.set_cons_zero, List.set_cons_succ, i64_w, i32_w]
    rfl
  refine one_ (i := 17) (N := some 41) #[true, true, true, true, true, true, true, true, true, true, true, true, true, true, true, true, true, true, false, false, false, false, false, false, false, false, false, false, false, false, false, false, false, false] rfl rfl (by kernel_rfl) (by decide) (fun K hK => ?_)
  refine goes_ Try.func87 (by kernel_rfl) rfl #[.string key] (by rfl) rfl rfl (by simp only [List.map_toArray, List.map_cons, List.map_nil]; rfl) ?_
  with_reducible refine (is_b _ _ _ HB.out.1 HB.out.2).mono ?_
  rintro e w3 ⟨rfl, hbe⟩
  refine ⟨_, rfl, ?_⟩
  refine hK.out _ _ ⟨(cell_below' hbe hHeld.1), (cell_below' hbe hHeld.2.1), (cell_below' hbe hHeld.2.2.1), (row_below hbe hHeld.2.2.2)⟩ (fun hHeld => ?_)
  clear hK K
  refine norm_ (a' := ?_) ?_ ?_
  rotate_left
  · show Act.put _ (some 41) _ = _
    simp only [Act.put, List.setIfInBounds_toArray, List.set_cons_zero, List.set_cons_succ, i64_w, i32_w]
    rfl
  refine pure_ (i := 18) (N := some 42) (v := ?_) (a' := ?_) #[true, true, true, true, true, true, true, true, true, true, true, true, true, true, true, true, true, true, true, false, false, false, false, false, false, false, false, false, false, false, false, false, false, false] rfl rfl (by kernel_rfl) (fun _ _ _ h => h) (Or.inl ⟨by rfl, ?_⟩) ?_ ?_
  rotate_left
  · intro w'
    go_simp
    with_reducible rfl
  rotate_left
  · simp only [Act.put, List.setIfInBounds_toArray, List.set_cons_zero, List.set_cons_succ, i64_w, i32_w]
    rfl
  refine pure_ (i := 19) (N := some 43) (v := ?_) (a' := ?_) #[true, true, true, true, true, true, true, true, true, true, true, true, true, true, true, true, true, true, true, true, false, false, false, false, false, false, false, false, false, false, false, false, false, false] rfl rfl (by kernel_rfl) (fun _ _ _ h => h) (Or.inl ⟨by rfl, ?_⟩) ?_ ?_
  rotate_left
  · intro w'
    go_simp
    with_reducible rfl
  rotate_left
  · simp only [Act.put, List.setIfInBounds_toArray, List.set_cons_zero, List.set_cons_succ, i64_w, i32_w]
    rfl
  refine pure_ (i := 20) (N := some 44) (v := ?_) (a' := ?_) #[true, true, true, true, true, true, true, true, true, true, true, true, true, true, true, true, true, true, true, true, true, false, false, false, false, false, false, false, false, false, false, false, false, false] rfl rfl (by kernel_rfl) (fun _ _ _ h => h) (Or.inl ⟨by rfl, ?_⟩) ?_ ?_
  rotate_left
  · intro w'
    go_simp
    with_reducible rfl
  rotate_left
  · simp only [Act.put, List.setIfInBounds_toArray, List.set_cons_zero, List.set_cons_succ, i64_w, i32_w]
    rfl
  refine pure_ (i := 21) (N := some 45) (v := ?_) (a' := ?_) #[true, true, true, true, true, true, true, true, true, true, true, true, true, true, true, true, true, true, true, true, true, true, false, false, false, false, false, false, false, false, false, false, false, false] rfl rfl (by kernel_rfl) (fun _ _ _ h => h) (Or.inl ⟨by rfl, ?_⟩) ?_ ?_
  rotate_left
  · intro w'
    go_simp
    with_reducible rfl
  rotate_left
  · simp only [Act.put, List.setIfInBounds_toArray, List.set_cons_zero, List.set_cons_succ, i64_w, i32_w]
    rfl
  refine take_ (i := 22) (N := some 46) (v := ?_) (a' := ?_) #[true, true, true, true, true, true, true, true, true, true, true, true, true, true, true, true, true, true, true, true, true, true, true, false, false, false, false, false, false, false, false, false, false, false] rfl rfl (by kernel_rfl) (fun _ _ _ h => h) (Or.inl ⟨by rfl, ?_⟩) hHeld ?_ ?_
  rotate_left
  · rintro w' ⟨s0, s1, s2, s3⟩
    go_simp
    with_reducible rfl
  rotate_left
  · simp only [Act.put, List.setIfInBounds_toArray, List.set_cons_zero, List.set_cons_succ, i64_w, i32_w]
    rfl
  refine one_ (i := 23) (N := some 47) #[true, true, true, true, true, true, true, true, true, true, true, true, true, true, true, true, true, true, true, true, true, true, true, true, false, false, false, false, false, false, false, false, false, false] rfl rfl (by kernel_rfl) (by decide) (fun K hK => ?_)
  refine goes_ Try.func87 (by kernel_rfl) rfl #[.string name] (by rfl) rfl rfl (by simp only [List.map_toArray, List.map_cons, List.map_nil]; rfl) ?_
  with_reducible refine (is_b _ _ _ HC.out.1 HC.out.2).mono ?_
  rintro e w4 ⟨rfl, hbf⟩
  refine ⟨_, rfl, ?_⟩
  refine hK.out _ _ ⟨(cell_below' hbf hHeld.1), (cell_below' hbf hHeld.2.1), (cell_below' hbf hHeld.2.2.1), (row_below hbf hHeld.2.2.2)⟩ (fun hHeld => ?_)
  clear hK K
  refine norm_ (a' := ?_) ?_ ?_
  rotate_left
  · show Act.put _ (some 47) _ = _
    simp only [Act.put, List.setIfInBounds_toArray, List.set_cons_zero, List.set_cons_succ, i64_w, i32_w]
    rfl
  refine pure_ (i := 24) (N := some 48) (v := ?_) (a' := ?_) #[true, true, true, true, true, true, true, true, true, true, true, true, true, true, true, true, true, true, true, true, true, true, true, true, true, false, false, false, false, false, false, false, false, false] rfl rfl (by kernel_rfl) (fun _ _ _ h => h) (Or.inl ⟨by rfl, ?_⟩) ?_ ?_
  rotate_left
  · intro w'
    go_simp
    with_reducible rfl
  rotate_left
  · simp only [Act.put, List.setIfInBounds_toArray, List.set_cons_zero, List.set_cons_succ, i64_w, i32_w]
    rfl
  refine pure_ (i := 25) (N := some 49) (v := ?_) (a' := ?_) #[true, true, true, true, true, true, true, true, true, true, true, true, true, true, true, true, true, true, true, true, true, true, true, true, true, true, false, false, false, false, false, false, false, false] rfl rfl (by kernel_rfl) (fun _ _ _ h => h) (Or.inl ⟨by rfl, ?_⟩) ?_ ?_
  rotate_left
  · intro w'
    go_simp
    with_reducible rfl
  rotate_left
  · simp only [Act.put, List.setIfInBounds_toArray, List.set_cons_zero, List.set_cons_succ, i64_w, i32_w]
    rfl
  refine pure_ (i := 26) (N := some 50) (v := undef) (a' := ?_) #[true, true, true, true, true, true, true, true, true, true, true, true, true, true, true, true, true, true, true, true, true, true, true, true, true, true, true, false, false, false, false, false, false, false] rfl rfl (by kernel_rfl) (fun _ _ _ h => h) (Or.inr ⟨by rfl, rfl⟩) ?_ ?_
  rotate_left
  · simp only [Act.put, List.setIfInBounds_toArray, List.set_cons_zero, List.set_cons_succ, i64_w, i32_w]
    rfl
  refine pure_ (i := 27) (N := some 51) (v := undef) (a' := ?_) #[true, true, true, true, true, true, true, true, true, true, true, true, true, true, true, true, true, true, true, true, true, true, true, true, true, true, true, true, false, false, false, false, false, false] rfl rfl (by kernel_rfl) (fun _ _ _ h => h) (Or.inr ⟨by rfl, rfl⟩) ?_ ?_
  rotate_left
  · simp only [Act.put, List.setIfInBounds_toArray, List.set_cons_zero, List.set_cons_succ, i64_w, i32_w]
    rfl
  refine pure_ (i := 28) (N := some 52) (v := undef) (a' := ?_) #[true, true, true, true, true, true, true, true, true, true, true, true, true, true, true, true, true, true, true, true, true, true, true, true, true, true, true, true, true, false, false, false, false, false] rfl rfl (by kernel_rfl) (fun _ _ _ h => h) (Or.inr ⟨by rfl, rfl⟩) ?_ ?_
  rotate_left
  · simp only [Act.put, List.setIfInBounds_toArray, List.set_cons_zero, List.set_cons_succ, i64_w, i32_w]
    rfl
  refine pure_ (i := 29) (N := some 53) (v := undef) (a' := ?_) #[true, true, true, true, true, true, true, true, true, true, true, true, true, true, true, true, true, true, true, true, true, true, true, true, true, true, true, true, true, true, false, false, false, false] rfl rfl (by kernel_rfl) (fun _ _ _ h => h) (Or.inr ⟨by rfl, rfl⟩) ?_ ?_
  rotate_left
  · simp only [Act.put, List.setIfInBounds_toArray, List.set_cons_zero, List.set_cons_succ, i64_w, i32_w]
    rfl
  refine pure_ (i := 30) (N := some 54) (v := undef) (a' := ?_) #[true, true, true, true, true, true, true, true, true, true, true, true, true, true, true, true, true, true, true, true, true, true, true, true, true, true, true, true, true, true, true, false, false, false] rfl rfl (by kernel_rfl) (fun _ _ _ h => h) (Or.inr ⟨by rfl, rfl⟩) ?_ ?_
  rotate_left
  · simp only [Act.put, List.setIfInBounds_toArray, List.set_cons_zero, List.set_cons_succ, i64_w, i32_w]
    rfl
  refine pure_ (i := 31) (N := some 55) (v := ?_) (a' := ?_) #[true, true, true, true, true, true, true, true, true, true, true, true, true, true, true, true, true, true, true, true, true, true, true, true, true, true, true, true, true, true, true, true, false, false] rfl rfl (by kernel_rfl) (fun _ _ _ h => h) (Or.inl ⟨by rfl, ?_⟩) ?_ ?_
  rotate_left
  · intro w'
    go_simp
    with_reducible rfl
  rotate_left
  · simp only [Act.put, List.setIfInBounds_toArray, List.set_cons_zero, List.set_cons_succ, i64_w, i32_w]
    rfl
  refine last_ (i := 32) (N := none) #[true, true, true, true, true, true, true, true, true, true, true, true, true, true, true, true, true, true, true, true, true, true, true, true, true, true, true, true, true, true, true, true, true, false] rfl rfl (by kernel_rfl) (by decide) (fun K hK => ?_)
  have hs0_ : w4.cell? ⟨w.heap.size, 0, none⟩ = some (.int .i64 0) := row_cell hHeld.2.2.2 rfl
  have hf0_ : w4.frozen? ⟨w.heap.size, 0, none⟩ = false := free_of_row hHeld.2.2.2
  have hs1_ : w4.cell? ⟨w.heap.size, 1, none⟩ = some (.int .i64 0) := row_cell hHeld.2.2.2 rfl
  have hf1_ : w4.frozen? ⟨w.heap.size, 1, none⟩ = false := free_of_row hHeld.2.2.2
  have hs2_ : w4.cell? ⟨w.heap.size, 2, none⟩ = some (.int .i64 0) := row_cell hHeld.2.2.2 rfl
  have hf2_ : w4.frozen? ⟨w.heap.size, 2, none⟩ = false := free_of_row hHeld.2.2.2
  have hs3_ : w4.cell? ⟨w.heap.size, 3, none⟩ = some (.int .i64 0) := row_cell hHeld.2.2.2 rfl
  have hf3_ : w4.frozen? ⟨w.heap.size, 3, none⟩ = false := free_of_row hHeld.2.2.2
  have hs4_ : w4.cell? ⟨w.heap.size, 4, none⟩ = some (.int .i64 0) := row_cell hHeld.2.2.2 rfl
  have hf4_ : w4.frozen? ⟨w.heap.size, 4, none⟩ = false := free_of_row hHeld.2.2.2
  have hs5_ : w4.cell? ⟨w.heap.size, 5, none⟩ = some (.int .i64 0) := row_cell hHeld.2.2.2 rfl
  have hf5_ : w4.frozen? ⟨w.heap.size, 5, none⟩ = false := free_of_row hHeld.2.2.2
  have hs6_ : w4.cell? ⟨w.heap.size, 6, none⟩ = some (.string ⟨#[]⟩) := row_cell hHeld.2.2.2 rfl
  have hf6_ : w4.frozen? ⟨w.heap.size, 6, none⟩ = false := free_of_row hHeld.2.2.2
  have hs7_ : w4.cell? ⟨w.heap.size, 7, none⟩ = some (.string ⟨#[]⟩) := row_cell hHeld.2.2.2 rfl
  have hf7_ : w4.frozen? ⟨w.heap.size, 7, none⟩ = false := free_of_row hHeld.2.2.2
  have hs8_ : w4.cell? ⟨w.heap.size, 8, none⟩ = some (.int .i64 0) := row_cell hHeld.2.2.2 rfl
  have hf8_ : w4.frozen? ⟨w.heap.size, 8, none⟩ = false := free_of_row hHeld.2.2.2
  have hs9_ : w4.cell? ⟨w.heap.size, 9, none⟩ = some (.string ⟨#[]⟩) := row_cell hHeld.2.2.2 rfl
  have hf9_ : w4.frozen? ⟨w.heap.size, 9, none⟩ = false := free_of_row hHeld.2.2.2
  refine skip_ (w1 := ?_) (by rfl) rfl ?_ ?_
  rotate_left
  · go_simp
    rfl
  refine hK.out _ _ ?_
  clear hK K
  refine pure_ (i := 33) (N := some 3) (v := ?_) (a' := ?_) #[true, true, true, true, true, true, true, true, true, true, true, true, true, true, true, true, true, true, true, true, true, true, true, true, true, true, true, true, true, true, true, true, true, true] rfl rfl (by kernel_rfl) (fun _ _ _ h => h) (Or.inl ⟨by rfl, ?_⟩) ?_ ?_
  rotate_left
  · intro w'
    go_simp
    with_reducible rfl
  rotate_left
  · simp only [Act.put, List.setIfInBounds_toArray, List.set_cons_zero, List.set_cons_succ, i64_w, i32_w]
    rfl
  refine done_ (by kernel_rfl) ?_
  go_wp2_with (first | (go_at_call 79; refine (between_calls _ _ _ _).mono ?_; rintro e w1 ⟨nd, rfl, rfl⟩))
  all_goals ((try simp only [Exit.inBlock, Exit.then]); refine bodyPost_ret (results_ct rfl _ _ w.heap.size 60 _ (0, 0) _ rfl (row10 hHeld.2.2.2 _ _ _ _ _ _ _ _ _ _) Try.underlying60 rfl (by kernel_rfl)) rfl ?_; refine ⟨by simp [ownN, aggN, CdNote.nullD, HB.out.2, HC.out.2], ?_⟩; (repeat (with_reducible (first | exact Below.refl _ _ | exact below_new _ | apply below_set | apply Below.drew | apply pw_below_drewN | refine below_on ?_ hbf | refine below_on ?_ hbe))))

set_option linter.unusedSimpArgs false in
set_option linter.unusedVariables false in
set_option maxHeartbeats 4000000 in
set_option maxRecDepth 100000 in
theorem own2y (w : World) (g : Nat) (kind inst step state part cause : Int) (key name : ByteArray) (version : Int) (text : ByteArray) (hg0 : w.heap[g]? = some (.cells (CdNote.cells ⟨kind, inst, step, state, part, cause, key, name, version, text⟩) 60 (0, 0)))
    (hs : key.size ≤ 9000000000000000000 ∧ name.size ≤ 9000000000000000000) (hk : kind = 2) (hb : Nm.isName key = true) (hc : Nm.isName name = true) :
    Calls Try.prog 108 #[.pointer (some ⟨g, 0, none⟩)] w fun e w' => e = .returned (.tuple #[aggN (ownN ⟨kind, inst, step, state, part, cause, key, name, version, text⟩).1, .bool (ownN ⟨kind, inst, step, state, part, cause, key, name, version, text⟩).2]) ∧ Below w.heap.size w w' := by
  have hc0 : w.cell? ⟨g, 0, none⟩ = some (.int .i64 kind) := row_cell hg0 rfl
  have hc1 : w.cell? ⟨g, 1, none⟩ = some (.int .i64 inst) := row_cell hg0 rfl
  have hc2 : w.cell? ⟨g, 2, none⟩ = some (.int .i64 step) := row_cell hg0 rfl
  have hc3 : w.cell? ⟨g, 3, none⟩ = some (.int .i64 state) := row_cell hg0 rfl
  have hc4 : w.cell? ⟨g, 4, none⟩ = some (.int .i64 part) := row_cell hg0 rfl
  have hc5 : w.cell? ⟨g, 5, none⟩ = some (.int .i64 cause) := row_cell hg0 rfl
  have hc6 : w.cell? ⟨g, 6, none⟩ = some (.string key) := row_cell hg0 rfl
  have hc7 : w.cell? ⟨g, 7, none⟩ = some (.string name) := row_cell hg0 rfl
  have hc8 : w.cell? ⟨g, 8, none⟩ = some (.int .i64 version) := row_cell hg0 rfl
  have hc9 : w.cell? ⟨g, 9, none⟩ = some (.string text) := row_cell hg0 rfl
  have hlt : g < w.heap.size := (Array.getElem?_eq_some_iff.1 hg0).1
  have hne : g ≠ w.heap.size := Nat.ne_of_lt hlt
  have hnew' : w.heap.size ≠ g := Ne.symm hne
  have hnew := World.new_ne w ⟨g, 0, none⟩ hc0
  clear hg0

  obtain rfl : kind = 2 := hk
  have HB := Aside0.mk (And.intro hs.1 hb)
  have HC := Aside0.mk (And.intro hs.2 hc)
  clear hb hc hs
  go_enter Try.func108, Try.ntmps108
  go_wp2_with (first | (go_at_call 79; refine (between_calls _ _ _ _).mono ?_; rintro e w1 ⟨nd, rfl, rfl⟩))
  refine start_ (n := 34) (S := fun w' => w'.cell? ⟨g, 6, none⟩ = some (.string key) ∧ w'.cell? ⟨g, 7, none⟩ = some (.string name) ∧ w'.cell? ⟨g, 8, none⟩ = some (.int .i64 version) ∧ w'.heap[w.heap.size]? = some (.cells #[.int .i64 0, .int .i64 0, .int .i64 0, .int .i64 0, .int .i64 0, .int .i64 0, .string ⟨#[]⟩, .string ⟨#[]⟩, .int .i64 0, .string ⟨#[]⟩] 60 (0, 0))) (ds := [32]) #[false, false, false, false, false, false, false, false, false, false, false, false, false, false, false, false, false, false, false, false, false, false, false, false, false, false, false, false, false, false, false, false, false, false] (by kernel_rfl) rfl rfl ⟨(by go_keep), (by go_keep), (by go_keep), (alloc_row w)⟩ (fun hHeld => ?_)
  refine pure_ (i := 0) (N := some 24) (v := ?_) (a' := ?_) #[true, false, false, false, false, false, false, false, false, false, false, false, false, false, false, false, false, false, false, false, false, false, false, false, false, false, false, false, false, false, false, false, false, false] rfl rfl (by kernel_rfl) (fun _ _ _ h => h) (Or.inl ⟨by rfl, ?_⟩) ?_ ?_
  rotate_left
  · intro w'
    go_simp
    with_reducible rfl
  rotate_left
  · simp only [Act.put, List.setIfInBounds_toArray, List.set_cons_zero, List.set_cons_succ, i64_w, i32_w]
    rfl
  refine pure_ (i := 1) (N := some 25) (v := ?_) (a' := ?_) #[true, true, false, false, false, false, false, false, false, false, false, false, false, false, false, false, false, false, false, false, false, false, false, false, false, false, false, false, false, false, false, false, false, false] rfl rfl (by kernel_rfl) (fun _ _ _ h => h) (Or.inl ⟨by rfl, ?_⟩) ?_ ?_
  rotate_left
  · intro w'
    go_simp
    with_reducible rfl
  rotate_left
  · simp only [Act.put, List.setIfInBounds_toArray, List.set_cons_zero, List.set_cons_succ, i64_w, i32_w]
    rfl
  refine pure_ (i := 2) (N := some 26) (v := ?_) (a' := ?_) #[true, true, true, false, false, false, false, false, false, false, false, false, false, false, false, false, false, false, false, false, false, false, false, false, false, false, false, false, false, false, false, false, false, false] rfl rfl (by kernel_rfl) (fun _ _ _ h => h) (Or.inl ⟨by rfl, ?_⟩) ?_ ?_
  rotate_left
  · intro w'
    go_simp
    with_reducible rfl
  rotate_left
  · simp only [Act.put, List.setIfInBounds_toArray, List.set_cons_zero, List.set_cons_succ, i64_w, i32_w]
    rfl
  refine pure_ (i := 4) (N := some 28) (v := ?_) (a' := ?_) #[true, true, true, false, true, false, false, false, false, false, false, false, false, false, false, false, false, false, false, false, false, false, false, false, false, false, false, false, false, false, false, false, false, false] rfl rfl (by kernel_rfl) (fun _ _ _ h => h) (Or.inl ⟨by rfl, ?_⟩) ?_ ?_
  rotate_left
  · intro w'
    go_simp
    with_reducible rfl
  rotate_left
  · simp only [Act.put, List.setIfInBounds_toArray, List.set_cons_zero, List.set_cons_succ, i64_w, i32_w]
    rfl
  refine pure_ (i := 5) (N := some 29) (v := ?_) (a' := ?_) #[true, true, true, false, true, true, false, false, false, false, false, false, false, false, false, false, false, false, false, false, false, false, false, false, false, false, false, false, false, false, false, false, false, false] rfl rfl (by kernel_rfl) (fun _ _ _ h => h) (Or.inl ⟨by rfl, ?_⟩) ?_ ?_
  rotate_left
  · intro w'
    go_simp
    with_reducible rfl
  rotate_left
  · simp only [Act.put, List.setIfInBounds_toArray, List.set_cons_zero, List.set_cons_succ, i64_w, i32_w]
    rfl
  refine pure_ (i := 6) (N := some 30) (v := ?_) (a' := ?_) #[true, true, true, false, true, true, true, false, false, false, false, false, false, false, false, false, false, false, false, false, false, false, false, false, false, false, false, false, false, false, false, false, false, false] rfl rfl (by kernel_rfl) (fun _ _ _ h => h) (Or.inl ⟨by rfl, ?_⟩) ?_ ?_
  rotate_left
  · intro w'
    go_simp
    with_reducible rfl
  rotate_left
  · simp only [Act.put, List.setIfInBounds_toArray, List.set_cons_zero, List.set_cons_succ, i64_w, i32_w]
    rfl
  refine pure_ (i := 8) (N := some 32) (v := ?_) (a' := ?_) #[true, true, true, false, true, true, true, false, true, false, false, false, false, false, false, false, false, false, false, false, false, false, false, false, false, false, false, false, false, false, false, false, false, false] rfl rfl (by kernel_rfl) (fun _ _ _ h => h) (Or.inl ⟨by rfl, ?_⟩) ?_ ?_
  rotate_left
  · intro w'
    go_simp
    with_reducible rfl
  rotate_left
  · simp only [Act.put, List.setIfInBounds_toArray, List.set_cons_zero, List.set_cons_succ, i64_w, i32_w]
    rfl
  refine pure_ (i := 9) (N := some 33) (v := ?_) (a' := ?_) #[true, true, true, false, true, true, true, false, true, true, false, false, false, false, false, false, false, false, false, false, false, false, false, false, false, false, false, false, false, false, false, false, false, false] rfl rfl (by kernel_rfl) (fun _ _ _ h => h) (Or.inl ⟨by rfl, ?_⟩) ?_ ?_
  rotate_left
  · intro w'
    go_simp
    with_reducible rfl
  rotate_left
  · simp only [Act.put, List.setIfInBounds_toArray, List.set_cons_zero, List.set_cons_succ, i64_w, i32_w]
    rfl
  refine pure_ (i := 10) (N := some 34) (v := ?_) (a' := ?_) #[true, true, true, false, true, true, true, false, true, true, true, false, false, false, false, false, false, false, false, false, false, false, false, false, false, false, false, false, false, false, false, false, false, false] rfl rfl (by kernel_rfl) (fun _ _ _ h => h) (Or.inl ⟨by rfl, ?_⟩) ?_ ?_
  rotate_left
  · intro w'
    go_simp
    with_reducible rfl
  rotate_left
  · simp only [Act.put, List.setIfInBounds_toArray, List.set_cons_zero, List.set_cons_succ, i64_w, i32_w]
    rfl
  refine pure_ (i := 13) (N := some 37) (v := ?_) (a' := ?_) #[true, true, true, false, true, true, true, false, true, true, true, false, false, true, false, false, false, false, false, false, false, false, false, false, false, false, false, false, false, false, false, false, false, false] rfl rfl (by kernel_rfl) (fun _ _ _ h => h) (Or.inl ⟨by rfl, ?_⟩) ?_ ?_
  rotate_left
  · intro w'
    go_simp
    with_reducible rfl
  rotate_left
  · simp only [Act.put, List.setIfInBounds_toArray, List.set_cons_zero, List.set_cons_succ, i64_w, i32_w]
    rfl
  refine pure_ (i := 14) (N := some 38) (v := ?_) (a' := ?_) #[true, true, true, false, true, true, true, false, true, true, true, false, false, true, true, false, false, false, false, false, false, false, false, false, false, false, false, false, false, false, false, false, false, false] rfl rfl (by kernel_rfl) (fun _ _ _ h => h) (Or.inl ⟨by rfl, ?_⟩) ?_ ?_
  rotate_left
  · intro w'
    go_simp
    with_reducible rfl
  rotate_left
  · simp only [Act.put, List.setIfInBounds_toArray, List.set_cons_zero, List.set_cons_succ, i64_w, i32_w]
    rfl
  refine pure_ (i := 15) (N := some 39) (v := ?_) (a' := ?_) #[true, true, true, false, true, true, true, false, true, true, true, false, false, true, true, true, false, false, false, false, false, false, false, false, false, false, false, false, false, false, false, false, false, false] rfl rfl (by kernel_rfl) (fun _ _ _ h => h) (Or.inl ⟨by rfl, ?_⟩) ?_ ?_
  rotate_left
  · intro w'
    go_simp
    with_reducible rfl
  rotate_left
  · simp only [Act.put, List.setIfInBounds_toArray, List.set_cons_zero, List.set_cons_succ, i64_w, i32_w]
    rfl
  refine take_ (i := 3) (N := some 27) (v := ?_) (a' := ?_) #[true, true, true, true, true, true, true, false, true, true, true, false, false, true, true, true, false, false, false, false, false, false, false, false, false, false, false, false, false, false, false, false, false, false] rfl rfl (by kernel_rfl) (fun _ _ _ h => h) (Or.inl ⟨by rfl, ?_⟩) hHeld ?_ ?_
  rotate_left
  · rintro w' ⟨s0, s1, s2, s3⟩
    go_simp
    with_reducible rfl
  rotate_left
  · simp only [Act.put, List.setIfInBounds_toArray, List.set_cons_zero, List.set_cons_succ, i64_w, i32_w]
    rfl
  refine take_ (i := 7) (N := some 31) (v := ?_) (a' := ?_) #[true, true, true, true, true, true, true, true, true, true, true, false, false, true, true, true, false, false, false, false, false, false, false, false, false, false, false, false, false, false, false, false, false, false] rfl rfl (by kernel_rfl) (fun _ _ _ h => h) (Or.inl ⟨by rfl, ?_⟩) hHeld ?_ ?_
  rotate_left
  · rintro w' ⟨s0, s1, s2, s3⟩
    go_simp
    with_reducible rfl
  rotate_left
  · simp only [Act.put, List.setIfInBounds_toArray, List.set_cons_zero, List.set_cons_succ, i64_w, i32_w]
    rfl
  refine take_ (i := 11) (N := some 35) (v := ?_) (a' := ?_) #[true, true, true, true, true, true, true, true, true, true, true, true, false, true, true, true, false, false, false, false, false, false, false, false, false, false, false, false, false, false, false, false, false, false] rfl rfl (by kernel_rfl) (fun _ _ _ h => h) (Or.inl ⟨by rfl, ?_⟩) hHeld ?_ ?_
  rotate_left
  · rintro w' ⟨s0, s1, s2, s3⟩
    go_simp
    with_reducible rfl
  rotate_left
  · simp only [Act.put, List.setIfInBounds_toArray, List.set_cons_zero, List.set_cons_succ, i64_w, i32_w]
    rfl
  refine pure_ (i := 12) (N := some 36) (v := ?_) (a' := ?_) #[true, true, true, true, true, true, true, true, true, true, true, true, true, true, true, true, false, false, false, false, false, false, false, false, false, false, false, false, false, false, false, false, false, false] rfl rfl (by kernel_rfl) (fun _ _ _ h => h) (Or.inl ⟨by rfl, ?_⟩) ?_ ?_
  rotate_left
  · intro w'
    go_simp
    with_reducible rfl
  rotate_left
  · simp only [Act.put, List.setIfInBounds_toArray, List.set_cons_zero, List.set_cons_succ, i64_w, i32_w]
    rfl
  refine take_ (i := 16) (N := some 40) (v := ?_) (a' := ?_) #[true, true, true, true, true, true, true, true, true, true, true, true, true, true, true, true, true, false, false, false, false, false, false, false, false, false, false, false, false, false, false, false, false, false] rfl rfl (by kernel_rfl) (fun _ _ _ h => h) (Or.inl ⟨by rfl, ?_⟩) hHeld ?_ ?_
  rotate_left
  · rintro w' ⟨s0, s1, s2, s3⟩
    go_simp
    with_reducible rfl
  rotate_left
  · simp only [Act.put, List.setIfInBounds_toArray, List.set_cons_zero, List.set_cons_succ, i64_w, i32_w]
    rfl
  refine one_ (i := 17) (N := some 41) #[true, true, true, true, true, true, true, true, true, true, true, true, true, true, true, true, true, true, false, false, false, false, false, false, false, false, false, false, false, false, false, false, false, false] rfl rfl (by kernel_rfl) (by decide) (fun K hK => ?_)
  refine goes_ Try.func87 (by kernel_rfl) rfl #[.string key] (by rfl) rfl rfl (by simp only [List.map_toArray, List.map_cons, List.map_nil]; rfl) ?_
  with_reducible refine (is_b _ _ _ HB.out.1 HB.out.2).mono ?_
  rintro e w3 ⟨rfl, hbe⟩
  refine ⟨_, rfl, ?_⟩
  refine hK.out _ _ ⟨(cell_below' hbe hHeld.1), (cell_below' hbe hHeld.2.1), (cell_below' hbe hHeld.2.2.1), (row_below hbe hHeld.2.2.2)⟩ (fun hHeld => ?_)
  clear hK K
  refine norm_ (a' := ?_) ?_ ?_
  rotate_left
  · show Act.put _ (some 41) _ = _
    simp only [Act.put, List.setIfInBounds_toArray, List.set_cons_zero, List.set_cons_succ, i64_w, i32_w]
    rfl
  refine pure_ (i := 18) (N := some 42) (v := ?_) (a' := ?_) #[true, true, true, true, true, true, true, true, true, true, true, true, true, true, true, true, true, true, true, false, false, false, false, false, false, false, false, false, false, false, false, false, false, false] rfl rfl (by kernel_rfl) (fun _ _ _ h => h) (Or.inl ⟨by rfl, ?_⟩) ?_ ?_
  rotate_left
  · intro w'
    go_simp
    with_reducible rfl
  rotate_left
  · simp only [Act.put, List.setIfInBounds_toArray, List.set_cons_zero, List.set_cons_succ, i64_w, i32_w]
    rfl
  refine pure_ (i := 19) (N := some 43) (v := ?_) (a' := ?_) #[true, true, true, true, true, true, true, true, true, true, true, true, true, true, true, true, true, true, true, true, false, false, false, false, false, false, false, false, false, false, false, false, false, false] rfl rfl (by kernel_rfl) (fun _ _ _ h => h) (Or.inl ⟨by rfl, ?_⟩) ?_ ?_
  rotate_left
  · intro w'
    go_simp
    with_reducible rfl
  rotate_left
  · simp only [Act.put, List.setIfInBounds_toArray, List.set_cons_zero, List.set_cons_succ, i64_w, i32_w]
    rfl
  refine pure_ (i := 20) (N := some 44) (v := ?_) (a' := ?_) #[true, true, true, true, true, true, true, true, true, true, true, true, true, true, true, true, true, true, true, true, true, false, false, false, false, false, false, false, false, false, false, false, false, false] rfl rfl (by kernel_rfl) (fun _ _ _ h => h) (Or.inl ⟨by rfl, ?_⟩) ?_ ?_
  rotate_left
  · intro w'
    go_simp
    with_reducible rfl
  rotate_left
  · simp only [Act.put, List.setIfInBounds_toArray, List.set_cons_zero, List.set_cons_succ, i64_w, i32_w]
    rfl
  refine pure_ (i := 21) (N := some 45) (v := ?_) (a' := ?_) #[true, true, true, true, true, true, true, true, true, true, true, true, true, true, true, true, true, true, true, true, true, true, false, false, false, false, false, false, false, false, false, false, false, false] rfl rfl (by kernel_rfl) (fun _ _ _ h => h) (Or.inl ⟨by rfl, ?_⟩) ?_ ?_
  rotate_left
  · intro w'
    go_simp
    with_reducible rfl
  rotate_left
  · simp only [Act.put, List.setIfInBounds_toArray, List.set_cons_zero, List.set_cons_succ, i64_w, i32_w]
    rfl
  refine take_ (i := 22) (N := some 46) (v := ?_) (a' := ?_) #[true, true, true, true, true, true, true, true, true, true, true, true, true, true, true, true, true, true, true, true, true, true, true, false, false, false, false, false, false, false, false, false, false, false] rfl rfl (by kernel_rfl) (fun _ _ _ h => h) (Or.inl ⟨by rfl, ?_⟩) hHeld ?_ ?_
  rotate_left
  · rintro w' ⟨s0, s1, s2, s3⟩
    go_simp
    with_reducible rfl
  rotate_left
  · simp only [Act.put, List.setIfInBounds_toArray, List.set_cons_zero, List.set_cons_succ, i64_w, i32_w]
    rfl
  refine one_ (i := 23) (N := some 47) #[true, true, true, true, true, true, true, true, true, true, true, true, true, true, true, true, true, true, true, true, true, true, true, true, false, false, false, false, false, false, false, false, false, false] rfl rfl (by kernel_rfl) (by decide) (fun K hK => ?_)
  refine goes_ Try.func87 (by kernel_rfl) rfl #[.string name] (by rfl) rfl rfl (by simp only [List.map_toArray, List.map_cons, List.map_nil]; rfl) ?_
  with_reducible refine (is_b _ _ _ HC.out.1 HC.out.2).mono ?_
  rintro e w4 ⟨rfl, hbf⟩
  refine ⟨_, rfl, ?_⟩
  refine hK.out _ _ ⟨(cell_below' hbf hHeld.1), (cell_below' hbf hHeld.2.1), (cell_below' hbf hHeld.2.2.1), (row_below hbf hHeld.2.2.2)⟩ (fun hHeld => ?_)
  clear hK K
  refine norm_ (a' := ?_) ?_ ?_
  rotate_left
  · show Act.put _ (some 47) _ = _
    simp only [Act.put, List.setIfInBounds_toArray, List.set_cons_zero, List.set_cons_succ, i64_w, i32_w]
    rfl
  refine pure_ (i := 24) (N := some 48) (v := ?_) (a' := ?_) #[true, true, true, true, true, true, true, true, true, true, true, true, true, true, true, true, true, true, true, true, true, true, true, true, true, false, false, false, false, false, false, false, false, false] rfl rfl (by kernel_rfl) (fun _ _ _ h => h) (Or.inl ⟨by rfl, ?_⟩) ?_ ?_
  rotate_left
  · intro w'
    go_simp
    with_reducible rfl
  rotate_left
  · simp only [Act.put, List.setIfInBounds_toArray, List.set_cons_zero, List.set_cons_succ, i64_w, i32_w]
    rfl
  refine pure_ (i := 25) (N := some 49) (v := ?_) (a' := ?_) #[true, true, true, true, true, true, true, true, true, true, true, true, true, true, true, true, true, true, true, true, true, true, true, true, true, true, false, false, false, false, false, false, false, false] rfl rfl (by kernel_rfl) (fun _ _ _ h => h) (Or.inl ⟨by rfl, ?_⟩) ?_ ?_
  rotate_left
  · intro w'
    go_simp
    with_reducible rfl
  rotate_left
  · simp only [Act.put, List.setIfInBounds_toArray, List.set_cons_zero, List.set_cons_succ, i64_w, i32_w]
    rfl
  refine pure_ (i := 26) (N := some 50) (v := ?_) (a' := ?_) #[true, true, true, true, true, true, true, true, true, true, true, true, true, true, true, true, true, true, true, true, true, true, true, true, true, true, true, false, false, false, false, false, false, false] rfl rfl (by kernel_rfl) (fun _ _ _ h => h) (Or.inl ⟨by rfl, ?_⟩) ?_ ?_
  rotate_left
  · intro w'
    go_simp
    with_reducible rfl
  rotate_left
  · simp only [Act.put, List.setIfInBounds_toArray, List.set_cons_zero, List.set_cons_succ, i64_w, i32_w]
    rfl
  refine pure_ (i := 27) (N := some 51) (v := ?_) (a' := ?_) #[true, true, true, true, true, true, true, true, true, true, true, true, true, true, true, true, true, true, true, true, true, true, true, true, true, true, true, true, false, false, false, false, false, false] rfl rfl (by kernel_rfl) (fun _ _ _ h => h) (Or.inl ⟨by rfl, ?_⟩) ?_ ?_
  rotate_left
  · intro w'
    go_simp
    with_reducible rfl
  rotate_left
  · simp only [Act.put, List.setIfInBounds_toArray, List.set_cons_zero, List.set_cons_succ, i64_w, i32_w]
    rfl
  refine pure_ (i := 28) (N := some 52) (v := ?_) (a' := ?_) #[true, true, true, true, true, true, true, true, true, true, true, true, true, true, true, true, true, true, true, true, true, true, true, true, true, true, true, true, true, false, false, false, false, false] rfl rfl (by kernel_rfl) (fun _ _ _ h => h) (Or.inl ⟨by rfl, ?_⟩) ?_ ?_
  rotate_left
  · intro w'
    go_simp
    with_reducible rfl
  rotate_left
  · simp only [Act.put, List.setIfInBounds_toArray, List.set_cons_zero, List.set_cons_succ, i64_w, i32_w]
    rfl
  refine take_ (i := 29) (N := some 53) (v := ?_) (a' := ?_) #[true, true, true, true, true, true, true, true, true, true, true, true, true, true, true, true, true, true, true, true, true, true, true, true, true, true, true, true, true, true, false, false, false, false] rfl rfl (by kernel_rfl) (fun _ _ _ h => h) (Or.inl ⟨by rfl, ?_⟩) hHeld ?_ ?_
  rotate_left
  · rintro w' ⟨s0, s1, s2, s3⟩
    go_simp
    with_reducible rfl
  rotate_left
  · simp only [Act.put, List.setIfInBounds_toArray, List.set_cons_zero, List.set_cons_succ, i64_w, i32_w]
    rfl
  refine one_ (i := 30) (N := some 54) #[true, true, true, true, true, true, true, true, true, true, true, true, true, true, true, true, true, true, true, true, true, true, true, true, true, true, true, true, true, true, true, false, false, false] rfl rfl (by kernel_rfl) (by decide) (fun K hK => ?_)
  refine goes_ Try.func79 (by kernel_rfl) rfl #[.int .i64 version, .int .i64 1, .int .i64 16] (by rfl) rfl rfl (by simp only [List.map_toArray, List.map_cons, List.map_nil]; rfl) ?_
  with_reducible refine (between_b _ _ _ _ _ rfl).mono ?_
  rintro e w3 ⟨nd, rfl, rfl⟩
  refine ⟨_, rfl, ?_⟩
  refine hK.out _ _ ⟨hHeld.1, hHeld.2.1, hHeld.2.2.1, hHeld.2.2.2⟩ (fun hHeld => ?_)
  clear hK K
  refine norm_ (a' := ?_) ?_ ?_
  rotate_left
  · show Act.put _ (some 54) _ = _
    simp only [Act.put, List.setIfInBounds_toArray, List.set_cons_zero, List.set_cons_succ, i64_w, i32_w]
    rfl
  refine pure_ (i := 31) (N := some 55) (v := ?_) (a' := ?_) #[true, true, true, true, true, true, true, true, true, true, true, true, true, true, true, true, true, true, true, true, true, true, true, true, true, true, true, true, true, true, true, true, false, false] rfl rfl (by kernel_rfl) (fun _ _ _ h => h) (Or.inl ⟨by rfl, ?_⟩) ?_ ?_
  rotate_left
  · intro w'
    go_simp
    with_reducible rfl
  rotate_left
  · simp only [Act.put, List.setIfInBounds_toArray, List.set_cons_zero, List.set_cons_succ, i64_w, i32_w]
    rfl
  refine last_ (i := 32) (N := none) #[true, true, true, true, true, true, true, true, true, true, true, true, true, true, true, true, true, true, true, true, true, true, true, true, true, true, true, true, true, true, true, true, true, false] rfl rfl (by kernel_rfl) (by decide) (fun K hK => ?_)
  have hs0_ : w4.cell? ⟨w.heap.size, 0, none⟩ = some (.int .i64 0) := row_cell hHeld.2.2.2 rfl
  have hf0_ : w4.frozen? ⟨w.heap.size, 0, none⟩ = false := free_of_row hHeld.2.2.2
  have hs1_ : w4.cell? ⟨w.heap.size, 1, none⟩ = some (.int .i64 0) := row_cell hHeld.2.2.2 rfl
  have hf1_ : w4.frozen? ⟨w.heap.size, 1, none⟩ = false := free_of_row hHeld.2.2.2
  have hs2_ : w4.cell? ⟨w.heap.size, 2, none⟩ = some (.int .i64 0) := row_cell hHeld.2.2.2 rfl
  have hf2_ : w4.frozen? ⟨w.heap.size, 2, none⟩ = false := free_of_row hHeld.2.2.2
  have hs3_ : w4.cell? ⟨w.heap.size, 3, none⟩ = some (.int .i64 0) := row_cell hHeld.2.2.2 rfl
  have hf3_ : w4.frozen? ⟨w.heap.size, 3, none⟩ = false := free_of_row hHeld.2.2.2
  have hs4_ : w4.cell? ⟨w.heap.size, 4, none⟩ = some (.int .i64 0) := row_cell hHeld.2.2.2 rfl
  have hf4_ : w4.frozen? ⟨w.heap.size, 4, none⟩ = false := free_of_row hHeld.2.2.2
  have hs5_ : w4.cell? ⟨w.heap.size, 5, none⟩ = some (.int .i64 0) := row_cell hHeld.2.2.2 rfl
  have hf5_ : w4.frozen? ⟨w.heap.size, 5, none⟩ = false := free_of_row hHeld.2.2.2
  have hs6_ : w4.cell? ⟨w.heap.size, 6, none⟩ = some (.string ⟨#[]⟩) := row_cell hHeld.2.2.2 rfl
  have hf6_ : w4.frozen? ⟨w.heap.size, 6, none⟩ = false := free_of_row hHeld.2.2.2
  have hs7_ : w4.cell? ⟨w.heap.size, 7, none⟩ = some (.string ⟨#[]⟩) := row_cell hHeld.2.2.2 rfl
  have hf7_ : w4.frozen? ⟨w.heap.size, 7, none⟩ = false := free_of_row hHeld.2.2.2
  have hs8_ : w4.cell? ⟨w.heap.size, 8, none⟩ = some (.int .i64 0) := row_cell hHeld.2.2.2 rfl
  have hf8_ : w4.frozen? ⟨w.heap.size, 8, none⟩ = false := free_of_row hHeld.2.2.2
  have hs9_ : w4.cell? ⟨w.heap.size, 9, none⟩ = some (.string ⟨#[]⟩) := row_cell hHeld.2.2.2 rfl
  have hf9_ : w4.frozen? ⟨w.heap.size, 9, none⟩ = false := free_of_row hHeld.2.2.2
  refine skip_ (w1 := ?_) (by rfl) rfl ?_ ?_
  rotate_left
  · go_simp
    rfl
  refine hK.out _ _ ?_
  clear hK K
  refine pure_ (i := 33) (N := some 3) (v := ?_) (a' := ?_) #[true, true, true, true, true, true, true, true, true, true, true, true, true, true, true, true, true, true, true, true, true, true, true, true, true, true, true, true, true, true, true, true, true, true] rfl rfl (by kernel_rfl) (fun _ _ _ h => h) (Or.inl ⟨by rfl, ?_⟩) ?_ ?_
  rotate_left
  · intro w'
    go_simp
    with_reducible rfl
  rotate_left
  · simp only [Act.put, List.setIfInBounds_toArray, List.set_cons_zero, List.set_cons_succ, i64_w, i32_w]
    rfl
  refine done_ (by kernel_rfl) ?_
  go_wp2_with (first | (go_at_call 79; refine (between_calls _ _ _ _).mono ?_; rintro e w1 ⟨nd, rfl, rfl⟩))
  all_goals ((try simp only [Exit.inBlock, Exit.then]); refine bodyPost_ret (results_ct rfl _ _ w.heap.size 60 _ (0, 0) _ rfl (row10 hHeld.2.2.2 _ _ _ _ _ _ _ _ _ _) Try.underlying60 rfl (by kernel_rfl)) rfl ?_; refine ⟨by simp [ownN, aggN, CdNote.nullD, HB.out.2, HC.out.2], ?_⟩; (repeat (with_reducible (first | exact Below.refl _ _ | exact below_new _ | apply below_set | apply Below.drew | apply pw_below_drewN | refine below_on ?_ hbf | refine below_on ?_ hbe))))

end Go.Proofs.Ytejaepohkcjoiaa.CdMay

/- codec: own of a note. -/
namespace Go.Proofs.Ytejaepohkcjoiaa.CdMay
open Go.RowKit

theorem note_own (w : World) (g : Nat) (d : CdNote.D) (hg0 : w.heap[g]? = some (.cells (CdNote.cells d) 60 (0, 0))) (hs : d.key.size ≤ 9000000000000000000 ∧ d.name.size ≤ 9000000000000000000) :
    Calls Try.prog 108 #[.pointer (some ⟨g, 0, none⟩)] w fun e w' => e = .returned (.tuple #[aggN (ownN d).1, .bool (ownN d).2]) ∧ Below w.heap.size w w' := by
  obtain ⟨kind, inst, step, state, part, cause, key, name, version, text⟩ := d
  by_cases k1 : kind = 1
  · exact own1 w g _ _ _ _ _ _ _ _ _ _ hg0 hs k1
  by_cases k2 : kind = 2
  · cases h1 : Nm.isName key
    · exact own2n w g _ _ _ _ _ _ _ _ _ _ hg0 hs k2 h1
    · cases h2 : Nm.isName name
      · exact own2k w g _ _ _ _ _ _ _ _ _ _ hg0 hs k2 h1 h2
      · exact own2y w g _ _ _ _ _ _ _ _ _ _ hg0 hs k2 h1 h2
  by_cases k3 : kind = 3
  · exact own3 w g _ _ _ _ _ _ _ _ _ _ hg0 hs k3
  by_cases k4 : kind = 4
  · exact own4 w g _ _ _ _ _ _ _ _ _ _ hg0 hs k4
  by_cases k5 : kind = 5
  · exact own5 w g _ _ _ _ _ _ _ _ _ _ hg0 hs k5
  by_cases k6 : kind = 6
  · cases h1 : btw step 0 7
    · exact own6n w g _ _ _ _ _ _ _ _ _ _ hg0 hs k6 h1
    · exact own6y w g _ _ _ _ _ _ _ _ _ _ hg0 hs k6 h1
  by_cases k7 : kind = 7
  · exact own7 w g _ _ _ _ _ _ _ _ _ _ hg0 hs k7
  by_cases k8 : kind = 8
  · exact own8 w g _ _ _ _ _ _ _ _ _ _ hg0 hs k8
  by_cases k9 : kind = 9
  · by_cases h1 : state = 4
    · by_cases h2 : cause = 0
      · exact own9a w g _ _ _ _ _ _ _ _ _ _ hg0 hs k9 h1 h2
      · exact own9b w g _ _ _ _ _ _ _ _ _ _ hg0 hs k9 h1 (beq_eq_false_iff_ne.2 h2)
    · by_cases h2 : state = 6
      · exact own9c w g _ _ _ _ _ _ _ _ _ _ hg0 hs k9 h2
      · exact own9d w g _ _ _ _ _ _ _ _ _ _ hg0 hs k9 (beq_eq_false_iff_ne.2 h1) (beq_eq_false_iff_ne.2 h2)
  exact ownz w g _ _ _ _ _ _ _ _ _ _ hg0 hs ⟨beq_eq_false_iff_ne.2 k1, beq_eq_false_iff_ne.2 k2, beq_eq_false_iff_ne.2 k3, beq_eq_false_iff_ne.2 k4, beq_eq_false_iff_ne.2 k5, beq_eq_false_iff_ne.2 k6, beq_eq_false_iff_ne.2 k7, beq_eq_false_iff_ne.2 k8, beq_eq_false_iff_ne.2 k9⟩
end Go.Proofs.Ytejaepohkcjoiaa.CdMay

/- codec: may of a note: what it says, and its parts. -/
namespace Go.Proofs.Ytejaepohkcjoiaa.CdMay
open Go.RowKit Go.IntWalk Go.Proofs.Ytejaepohkcjoiaa.B Go.Proofs.YtejaepohkcjoiaaW.PrintWords Go.Proofs.YtejaepohkcjoiaaW.PrintLast Go.Proofs.YtejaepohkcjoiaaW.PrintMore Go.Proofs.Ytejaepohkcjoiaa.CdForm

/-- Are a note's fields but kind and inst these? -/
def eqN (x d : CdNote.D) : Bool := x.step == d.step && (x.state == d.state && (x.part == d.part && (x.cause == d.cause && (x.key.toList == d.key.toList && (x.name.toList == d.name.toList && (x.version == d.version && x.text.toList == d.text.toList))))))
def mayN (d : CdNote.D) : Bool := (ownN d).2 && ((if d.kind = 1 then d.inst == 0 else btw d.inst 1 60) && eqN (ownN d).1 d)

theorem own_b (w : World) (g : Nat) (d x : CdNote.D) (ok : Bool) (hg0 : w.heap[g]? = some (.cells (CdNote.cells d) 60 (0, 0))) (hs : d.key.size ≤ 9000000000000000000 ∧ d.name.size ≤ 9000000000000000000) (h : ownN d = (x, ok)) :
    Calls Try.prog 108 #[.pointer (some ⟨g, 0, none⟩)] w fun e w' => e = .returned (.tuple #[.agg #[.int .i64 x.kind, .int .i64 x.inst, .int .i64 x.step, .int .i64 x.state, .int .i64 x.part, .int .i64 x.cause, .string x.key, .string x.name, .int .i64 x.version, .string x.text], .bool ok]) ∧ Below w.heap.size w w' := by
  have h' := note_own w g d hg0 hs
  rw [h] at h'
  exact h'
theorem id_b (n : Int) (r : Bool) (w : World) (h : btw n 1 60 = r) : Calls Try.prog 80 #[.int .i64 n] w fun e w' => ∃ nd, e = .returned (.bool r) ∧ w' = w.drewN nd := by
  subst h
  exact id_calls n w
theorem below_alloc {B : Nat} {a w : World} (h : Below B a w) (hB : B ≤ w.heap.size) (o : Obj) : Below B a (w.alloc o) := h.alloc hB o

theorem eqA60 (d : Nat) (w : World) (x0 y0 : Int) (x1 y1 : Int) (x2 y2 : Int) (x3 y3 : Int) (x4 y4 : Int) (x5 y5 : Int) (x6 y6 : ByteArray) (x7 y7 : ByteArray) (x8 y8 : Int) (x9 y9 : ByteArray) :
    (Op.equalIn (d + 2) 60 (.agg #[.int .i64 x0, .int .i64 x1, .int .i64 x2, .int .i64 x3, .int .i64 x4, .int .i64 x5, .string x6, .string x7, .int .i64 x8, .string x9]) (.agg #[.int .i64 y0, .int .i64 y1, .int .i64 y2, .int .i64 y3, .int .i64 y4, .int .i64 y5, .string y6, .string y7, .int .i64 y8, .string y9])).run Try.prog w = .ok (x0 == y0 && (x1 == y1 && (x2 == y2 && (x3 == y3 && (x4 == y4 && (x5 == y5 && (x6.toList == y6.toList && (x7.toList == y7.toList && (x8 == y8 && (x9.toList == y9.toList)))))))))) w := by
  refine eqA_of Try.underlying60 (by kernel_rfl) ?_
  refine eqf_cons (by rfl) (by go_simp; rfl) (by go_simp; rfl) (by go_simp) ?_
  refine eqf_cons (by rfl) (by go_simp; rfl) (by go_simp; rfl) (by go_simp) ?_
  refine eqf_cons (by rfl) (by go_simp; rfl) (by go_simp; rfl) (by go_simp) ?_
  refine eqf_cons (by rfl) (by go_simp; rfl) (by go_simp; rfl) (by go_simp) ?_
  refine eqf_cons (by rfl) (by go_simp; rfl) (by go_simp; rfl) (by go_simp) ?_
  refine eqf_cons (by rfl) (by go_simp; rfl) (by go_simp; rfl) (by go_simp) ?_
  refine eqf_cons (by rfl) (by go_simp; rfl) (by go_simp; rfl) (by go_simp) ?_
  refine eqf_cons (by rfl) (by go_simp; rfl) (by go_simp; rfl) (by go_simp) ?_
  refine eqf_cons (by rfl) (by go_simp; rfl) (by go_simp; rfl) (by go_simp) ?_
  exact eqf_last (by rfl) (by go_simp; rfl) (by go_simp; rfl) (by go_simp)
end Go.Proofs.Ytejaepohkcjoiaa.CdMay

/- codec: may of a note: the walk, path by path (written by wip/gen/mkmay.py). -/
namespace Go.Proofs.Ytejaepohkcjoiaa.CdMay
open Go.RowKit Go.IntWalk Go.Proofs.Ytejaepohkcjoiaa.B Go.Proofs.YtejaepohkcjoiaaW.PrintWords Go.Proofs.YtejaepohkcjoiaaW.PrintLast Go.Proofs.YtejaepohkcjoiaaW.PrintMore Go.Proofs.Ytejaepohkcjoiaa.CdForm
attribute [local go_sem high] eqA60

set_option linter.unusedSimpArgs false in
set_option linter.unusedVariables false in
set_option maxHeartbeats 4000000 in
set_option maxRecDepth 100000 in
theorem may1a (w : World) (g : Nat) (kind inst step state part cause : Int) (key name : ByteArray) (version : Int) (text : ByteArray) (x0 x1 x2 x3 x4 x5 : Int) (x6 x7 : ByteArray) (x8 : Int) (x9 : ByteArray) (ok : Bool) (hg0 : w.heap[g]? = some (.cells (CdNote.cells ⟨kind, inst, step, state, part, cause, key, name, version, text⟩) 60 (0, 0)))
    (hs : key.size ≤ 9000000000000000000 ∧ name.size ≤ 9000000000000000000) (hx : ownN ⟨kind, inst, step, state, part, cause, key, name, version, text⟩ = (⟨x0, x1, x2, x3, x4, x5, x6, x7, x8, x9⟩, ok)) (hok : ok = false) (hk : kind = 1) :
    Calls Try.prog 106 #[.pointer (some ⟨g, 0, none⟩)] w fun e w' => e = .returned (.bool (mayN ⟨kind, inst, step, state, part, cause, key, name, version, text⟩)) ∧ Below w.heap.size w w' := by
  have hc0 : w.cell? ⟨g, 0, none⟩ = some (.int .i64 kind) := row_cell hg0 rfl
  have hc1 : w.cell? ⟨g, 1, none⟩ = some (.int .i64 inst) := row_cell hg0 rfl
  have hc2 : w.cell? ⟨g, 2, none⟩ = some (.int .i64 step) := row_cell hg0 rfl
  have hc3 : w.cell? ⟨g, 3, none⟩ = some (.int .i64 state) := row_cell hg0 rfl
  have hc4 : w.cell? ⟨g, 4, none⟩ = some (.int .i64 part) := row_cell hg0 rfl
  have hc5 : w.cell? ⟨g, 5, none⟩ = some (.int .i64 cause) := row_cell hg0 rfl
  have hc6 : w.cell? ⟨g, 6, none⟩ = some (.string key) := row_cell hg0 rfl
  have hc7 : w.cell? ⟨g, 7, none⟩ = some (.string name) := row_cell hg0 rfl
  have hc8 : w.cell? ⟨g, 8, none⟩ = some (.int .i64 version) := row_cell hg0 rfl
  have hc9 : w.cell? ⟨g, 9, none⟩ = some (.string text) := row_cell hg0 rfl
  have hlt0 : g < w.heap.size := (Array.getElem?_eq_some_iff.1 hg0).1
  have HG := Aside0.mk (And.intro hg0 hs)
  have HX := Aside0.mk hx
  clear hg0 hs hx

  subst hk
  obtain rfl : ok = false := hok
  go_enter Try.func106, Try.ntmps106
  go_wp2_with (first | (go_at_call 108; refine (own_b _ _ _ _ _ HG.out.1 HG.out.2 HX.out).mono ?_; rintro e w1 ⟨rfl, hb⟩; clear HG; have HBe := Aside0.mk hb; replace hc0 := cell_below' hb hc0; replace hc1 := cell_below' hb hc1; replace hc2 := cell_below' hb hc2; replace hc3 := cell_below' hb hc3; replace hc4 := cell_below' hb hc4; replace hc5 := cell_below' hb hc5; replace hc6 := cell_below' hb hc6; replace hc7 := cell_below' hb hc7; replace hc8 := cell_below' hb hc8; replace hc9 := cell_below' hb hc9; have hlt : g < w1.heap.size := Nat.lt_of_lt_of_le hlt0 hb.size; have hne : g ≠ w1.heap.size := Nat.ne_of_lt hlt; have hnew' : w1.heap.size ≠ g := Ne.symm hne; clear hb))
  refine start_ (n := 12) (S := fun w' => w'.cell? ⟨g, 0, none⟩ = some (.int .i64 1) ∧ w'.cell? ⟨g, 1, none⟩ = some (.int .i64 inst)) (ds := []) #[false, false, false, false, false, false, false, false, false, false, false, false] (by kernel_rfl) rfl rfl ⟨(by go_keep), (by go_keep)⟩ (fun hHeld => ?_)
  refine pure_ (i := 0) (N := some 10) (v := ?_) (a' := ?_) #[true, false, false, false, false, false, false, false, false, false, false, false] rfl rfl (by kernel_rfl) (fun _ _ _ h => h) (Or.inl ⟨by rfl, ?_⟩) ?_ ?_
  rotate_left
  · intro w'
    go_simp
    with_reducible rfl
  rotate_left
  · simp only [Act.put, List.setIfInBounds_toArray, List.set_cons_zero, List.set_cons_succ, i64_w, i32_w]
    rfl
  refine pure_ (i := 1) (N := some 11) (v := ?_) (a' := ?_) #[true, true, false, false, false, false, false, false, false, false, false, false] rfl rfl (by kernel_rfl) (fun _ _ _ h => h) (Or.inl ⟨by rfl, ?_⟩) ?_ ?_
  rotate_left
  · intro w'
    go_simp
    with_reducible rfl
  rotate_left
  · simp only [Act.put, List.setIfInBounds_toArray, List.set_cons_zero, List.set_cons_succ, i64_w, i32_w]
    rfl
  refine pure_ (i := 2) (N := some 12) (v := ?_) (a' := ?_) #[true, true, true, false, false, false, false, false, false, false, false, false] rfl rfl (by kernel_rfl) (fun _ _ _ h => h) (Or.inl ⟨by rfl, ?_⟩) ?_ ?_
  rotate_left
  · intro w'
    go_simp
    with_reducible rfl
  rotate_left
  · simp only [Act.put, List.setIfInBounds_toArray, List.set_cons_zero, List.set_cons_succ, i64_w, i32_w]
    rfl
  refine pure_ (i := 4) (N := some 14) (v := ?_) (a' := ?_) #[true, true, true, false, true, false, false, false, false, false, false, false] rfl rfl (by kernel_rfl) (fun _ _ _ h => h) (Or.inl ⟨by rfl, ?_⟩) ?_ ?_
  rotate_left
  · intro w'
    go_simp
    with_reducible rfl
  rotate_left
  · simp only [Act.put, List.setIfInBounds_toArray, List.set_cons_zero, List.set_cons_succ, i64_w, i32_w]
    rfl
  refine pure_ (i := 5) (N := some 15) (v := ?_) (a' := ?_) #[true, true, true, false, true, true, false, false, false, false, false, false] rfl rfl (by kernel_rfl) (fun _ _ _ h => h) (Or.inl ⟨by rfl, ?_⟩) ?_ ?_
  rotate_left
  · intro w'
    go_simp
    with_reducible rfl
  rotate_left
  · simp only [Act.put, List.setIfInBounds_toArray, List.set_cons_zero, List.set_cons_succ, i64_w, i32_w]
    rfl
  refine pure_ (i := 6) (N := some 16) (v := ?_) (a' := ?_) #[true, true, true, false, true, true, true, false, false, false, false, false] rfl rfl (by kernel_rfl) (fun _ _ _ h => h) (Or.inl ⟨by rfl, ?_⟩) ?_ ?_
  rotate_left
  · intro w'
    go_simp
    with_reducible rfl
  rotate_left
  · simp only [Act.put, List.setIfInBounds_toArray, List.set_cons_zero, List.set_cons_succ, i64_w, i32_w]
    rfl
  refine take_ (i := 3) (N := some 13) (v := ?_) (a' := ?_) #[true, true, true, true, true, true, true, false, false, false, false, false] rfl rfl (by kernel_rfl) (fun _ _ _ h => h) (Or.inl ⟨by rfl, ?_⟩) hHeld ?_ ?_
  rotate_left
  · rintro w' ⟨s0, s1⟩
    go_simp
    with_reducible rfl
  rotate_left
  · simp only [Act.put, List.setIfInBounds_toArray, List.set_cons_zero, List.set_cons_succ, i64_w, i32_w]
    rfl
  refine pure_ (i := 8) (N := some 18) (v := ?_) (a' := ?_) #[true, true, true, true, true, true, true, false, true, false, false, false] rfl rfl (by kernel_rfl) (fun _ _ _ h => h) (Or.inl ⟨by rfl, ?_⟩) ?_ ?_
  rotate_left
  · intro w'
    go_simp
    with_reducible rfl
  rotate_left
  · simp only [Act.put, List.setIfInBounds_toArray, List.set_cons_zero, List.set_cons_succ, i64_w, i32_w]
    rfl
  refine take_ (i := 7) (N := some 17) (v := ?_) (a' := ?_) #[true, true, true, true, true, true, true, true, true, false, false, false] rfl rfl (by kernel_rfl) (fun _ _ _ h => h) (Or.inl ⟨by rfl, ?_⟩) hHeld ?_ ?_
  rotate_left
  · rintro w' ⟨s0, s1⟩
    go_simp
    with_reducible rfl
  rotate_left
  · simp only [Act.put, List.setIfInBounds_toArray, List.set_cons_zero, List.set_cons_succ, i64_w, i32_w]
    rfl
  refine one_ (i := 9) (N := none) #[true, true, true, true, true, true, true, true, true, true, false, false] rfl rfl (by kernel_rfl) (by decide) (fun K hK => ?_)
  refine skip_ (w1 := ?_) (by rfl) rfl ?_ ?_
  rotate_left
  · go_simp
    rfl
  refine hK.out _ _ ⟨(by go_keep), (by go_keep)⟩ (fun hHeld => ?_)
  clear hK K
  refine pure_ (i := 10) (N := some 19) (v := ?_) (a' := ?_) #[true, true, true, true, true, true, true, true, true, true, true, false] rfl rfl (by kernel_rfl) (fun _ _ _ h => h) (Or.inl ⟨by rfl, ?_⟩) ?_ ?_
  rotate_left
  · intro w'
    go_simp
    with_reducible rfl
  rotate_left
  · simp only [Act.put, List.setIfInBounds_toArray, List.set_cons_zero, List.set_cons_succ, i64_w, i32_w]
    rfl
  refine one_ (i := 11) (N := none) #[true, true, true, true, true, true, true, true, true, true, true, true] rfl rfl (by kernel_rfl) (by decide) (fun K hK => ?_)
  refine skip_ (w1 := ?_) (by rfl) rfl ?_ ?_
  rotate_left
  · go_simp
    rfl
  refine hK.out _ _ ⟨(by go_keep), (by go_keep)⟩ (fun hHeld => ?_)
  clear hK K
  refine done_ (by kernel_rfl) ?_
  go_wp2
  refine start_ (n := 16) (S := fun w' => w'.cell? ⟨g, 0, none⟩ = some (.int .i64 1) ∧ w'.cell? ⟨g, 1, none⟩ = some (.int .i64 inst) ∧ w'.cell? ⟨g, 2, none⟩ = some (.int .i64 step) ∧ w'.cell? ⟨g, 3, none⟩ = some (.int .i64 state) ∧ w'.cell? ⟨g, 4, none⟩ = some (.int .i64 part) ∧ w'.cell? ⟨g, 5, none⟩ = some (.int .i64 cause) ∧ w'.cell? ⟨g, 6, none⟩ = some (.string key) ∧ w'.cell? ⟨g, 7, none⟩ = some (.string name) ∧ w'.cell? ⟨g, 8, none⟩ = some (.int .i64 version) ∧ w'.cell? ⟨g, 9, none⟩ = some (.string text) ∧ w'.cell? ⟨w1.heap.size, 0, none⟩ = some (.int .i64 1) ∧ w'.cell? ⟨w1.heap.size, 1, none⟩ = some (.int .i64 inst) ∧ w'.cell? ⟨w1.heap.size, 2, none⟩ = some (.int .i64 x2) ∧ w'.cell? ⟨w1.heap.size, 3, none⟩ = some (.int .i64 x3) ∧ w'.cell? ⟨w1.heap.size, 4, none⟩ = some (.int .i64 x4) ∧ w'.cell? ⟨w1.heap.size, 5, none⟩ = some (.int .i64 x5) ∧ w'.cell? ⟨w1.heap.size, 6, none⟩ = some (.string x6) ∧ w'.cell? ⟨w1.heap.size, 7, none⟩ = some (.string x7) ∧ w'.cell? ⟨w1.heap.size, 8, none⟩ = some (.int .i64 x8) ∧ w'.cell? ⟨w1.heap.size, 9, none⟩ = some (.string x9)) (ds := []) #[false, false, false, false, false, false, false, false, false, false, false, false, false, false, false, false] (by kernel_rfl) rfl rfl ⟨(by go_keep), (by go_keep), (by go_keep), (by go_keep), (by go_keep), (by go_keep), (by go_keep), (by go_keep), (by go_keep), (by go_keep), (by go_keep), (by go_keep), (by go_keep), (by go_keep), (by go_keep), (by go_keep), (by go_keep), (by go_keep), (by go_keep), (by go_keep)⟩ (fun hHeld => ?_)
  refine pure_ (i := 0) (N := some 25) (v := ?_) (a' := ?_) #[true, false, false, false, false, false, false, false, false, false, false, false, false, false, false, false] rfl rfl (by kernel_rfl) (fun _ _ _ h => h) (Or.inl ⟨by rfl, ?_⟩) ?_ ?_
  rotate_left
  · intro w'
    go_simp
    with_reducible rfl
  rotate_left
  · simp only [Act.put, List.setIfInBounds_toArray, List.set_cons_zero, List.set_cons_succ, i64_w, i32_w]
    rfl
  refine pure_ (i := 1) (N := some 26) (v := ?_) (a' := ?_) #[true, true, false, false, false, false, false, false, false, false, false, false, false, false, false, false] rfl rfl (by kernel_rfl) (fun _ _ _ h => h) (Or.inl ⟨by rfl, ?_⟩) ?_ ?_
  rotate_left
  · intro w'
    go_simp
    with_reducible rfl
  rotate_left
  · simp only [Act.put, List.setIfInBounds_toArray, List.set_cons_zero, List.set_cons_succ, i64_w, i32_w]
    rfl
  refine pure_ (i := 2) (N := some 27) (v := undef) (a' := ?_) #[true, true, true, false, false, false, false, false, false, false, false, false, false, false, false, false] rfl rfl (by kernel_rfl) (fun _ _ _ h => h) (Or.inr ⟨by rfl, rfl⟩) ?_ ?_
  rotate_left
  · simp only [Act.put, List.setIfInBounds_toArray, List.set_cons_zero, List.set_cons_succ, i64_w, i32_w]
    rfl
  refine pure_ (i := 3) (N := some 28) (v := undef) (a' := ?_) #[true, true, true, true, false, false, false, false, false, false, false, false, false, false, false, false] rfl rfl (by kernel_rfl) (fun _ _ _ h => h) (Or.inr ⟨by rfl, rfl⟩) ?_ ?_
  rotate_left
  · simp only [Act.put, List.setIfInBounds_toArray, List.set_cons_zero, List.set_cons_succ, i64_w, i32_w]
    rfl
  refine pure_ (i := 4) (N := some 29) (v := undef) (a' := ?_) #[true, true, true, true, true, false, false, false, false, false, false, false, false, false, false, false] rfl rfl (by kernel_rfl) (fun _ _ _ h => h) (Or.inr ⟨by rfl, rfl⟩) ?_ ?_
  rotate_left
  · simp only [Act.put, List.setIfInBounds_toArray, List.set_cons_zero, List.set_cons_succ, i64_w, i32_w]
    rfl
  refine pure_ (i := 5) (N := some 30) (v := undef) (a' := ?_) #[true, true, true, true, true, true, false, false, false, false, false, false, false, false, false, false] rfl rfl (by kernel_rfl) (fun _ _ _ h => h) (Or.inr ⟨by rfl, rfl⟩) ?_ ?_
  rotate_left
  · simp only [Act.put, List.setIfInBounds_toArray, List.set_cons_zero, List.set_cons_succ, i64_w, i32_w]
    rfl
  refine pure_ (i := 6) (N := some 31) (v := undef) (a' := ?_) #[true, true, true, true, true, true, true, false, false, false, false, false, false, false, false, false] rfl rfl (by kernel_rfl) (fun _ _ _ h => h) (Or.inr ⟨by rfl, rfl⟩) ?_ ?_
  rotate_left
  · simp only [Act.put, List.setIfInBounds_toArray, List.set_cons_zero, List.set_cons_succ, i64_w, i32_w]
    rfl
  refine pure_ (i := 7) (N := some 32) (v := ?_) (a' := ?_) #[true, true, true, true, true, true, true, true, false, false, false, false, false, false, false, false] rfl rfl (by kernel_rfl) (fun _ _ _ h => h) (Or.inl ⟨by rfl, ?_⟩) ?_ ?_
  rotate_left
  · intro w'
    go_simp
    with_reducible rfl
  rotate_left
  · simp only [Act.put, List.setIfInBounds_toArray, List.set_cons_zero, List.set_cons_succ, i64_w, i32_w]
    rfl
  refine pure_ (i := 8) (N := some 33) (v := ?_) (a' := ?_) #[true, true, true, true, true, true, true, true, true, false, false, false, false, false, false, false] rfl rfl (by kernel_rfl) (fun _ _ _ h => h) (Or.inl ⟨by rfl, ?_⟩) ?_ ?_
  rotate_left
  · intro w'
    go_simp
    with_reducible rfl
  rotate_left
  · simp only [Act.put, List.setIfInBounds_toArray, List.set_cons_zero, List.set_cons_succ, i64_w, i32_w]
    rfl
  refine pure_ (i := 9) (N := some 34) (v := undef) (a' := ?_) #[true, true, true, true, true, true, true, true, true, true, false, false, false, false, false, false] rfl rfl (by kernel_rfl) (fun _ _ _ h => h) (Or.inr ⟨by rfl, rfl⟩) ?_ ?_
  rotate_left
  · simp only [Act.put, List.setIfInBounds_toArray, List.set_cons_zero, List.set_cons_succ, i64_w, i32_w]
    rfl
  refine pure_ (i := 10) (N := some 35) (v := undef) (a' := ?_) #[true, true, true, true, true, true, true, true, true, true, true, false, false, false, false, false] rfl rfl (by kernel_rfl) (fun _ _ _ h => h) (Or.inr ⟨by rfl, rfl⟩) ?_ ?_
  rotate_left
  · simp only [Act.put, List.setIfInBounds_toArray, List.set_cons_zero, List.set_cons_succ, i64_w, i32_w]
    rfl
  refine pure_ (i := 11) (N := some 36) (v := undef) (a' := ?_) #[true, true, true, true, true, true, true, true, true, true, true, true, false, false, false, false] rfl rfl (by kernel_rfl) (fun _ _ _ h => h) (Or.inr ⟨by rfl, rfl⟩) ?_ ?_
  rotate_left
  · simp only [Act.put, List.setIfInBounds_toArray, List.set_cons_zero, List.set_cons_succ, i64_w, i32_w]
    rfl
  refine pure_ (i := 12) (N := some 37) (v := undef) (a' := ?_) #[true, true, true, true, true, true, true, true, true, true, true, true, true, false, false, false] rfl rfl (by kernel_rfl) (fun _ _ _ h => h) (Or.inr ⟨by rfl, rfl⟩) ?_ ?_
  rotate_left
  · simp only [Act.put, List.setIfInBounds_toArray, List.set_cons_zero, List.set_cons_succ, i64_w, i32_w]
    rfl
  refine pure_ (i := 13) (N := some 38) (v := undef) (a' := ?_) #[true, true, true, true, true, true, true, true, true, true, true, true, true, true, false, false] rfl rfl (by kernel_rfl) (fun _ _ _ h => h) (Or.inr ⟨by rfl, rfl⟩) ?_ ?_
  rotate_left
  · simp only [Act.put, List.setIfInBounds_toArray, List.set_cons_zero, List.set_cons_succ, i64_w, i32_w]
    rfl
  refine pure_ (i := 14) (N := some 39) (v := ?_) (a' := ?_) #[true, true, true, true, true, true, true, true, true, true, true, true, true, true, true, false] rfl rfl (by kernel_rfl) (fun _ _ _ h => h) (Or.inl ⟨by rfl, ?_⟩) ?_ ?_
  rotate_left
  · intro w'
    go_simp
    with_reducible rfl
  rotate_left
  · simp only [Act.put, List.setIfInBounds_toArray, List.set_cons_zero, List.set_cons_succ, i64_w, i32_w]
    rfl
  refine pure_ (i := 15) (N := some 2) (v := ?_) (a' := ?_) #[true, true, true, true, true, true, true, true, true, true, true, true, true, true, true, true] rfl rfl (by kernel_rfl) (fun _ _ _ h => h) (Or.inl ⟨by rfl, ?_⟩) ?_ ?_
  rotate_left
  · intro w'
    go_simp
    with_reducible rfl
  rotate_left
  · simp only [Act.put, List.setIfInBounds_toArray, List.set_cons_zero, List.set_cons_succ, i64_w, i32_w]
    rfl
  refine done_ (by kernel_rfl) ?_
  go_wp2
  all_goals (go_ret; refine ⟨by simp [mayN, eqN, HX.out], ?_⟩; (repeat (with_reducible (first | exact HBe.out.alloc HBe.out.size _ | apply Below.drew | apply pw_below_drewN))))

set_option linter.unusedSimpArgs false in
set_option linter.unusedVariables false in
set_option maxHeartbeats 4000000 in
set_option maxRecDepth 100000 in
theorem may1b (w : World) (g : Nat) (kind inst step state part cause : Int) (key name : ByteArray) (version : Int) (text : ByteArray) (x0 x1 x2 x3 x4 x5 : Int) (x6 x7 : ByteArray) (x8 : Int) (x9 : ByteArray) (ok : Bool) (hg0 : w.heap[g]? = some (.cells (CdNote.cells ⟨kind, inst, step, state, part, cause, key, name, version, text⟩) 60 (0, 0)))
    (hs : key.size ≤ 9000000000000000000 ∧ name.size ≤ 9000000000000000000) (hx : ownN ⟨kind, inst, step, state, part, cause, key, name, version, text⟩ = (⟨x0, x1, x2, x3, x4, x5, x6, x7, x8, x9⟩, ok)) (hok : ok = true) (hk : kind = 1) (hi : (inst == 0) = false) :
    Calls Try.prog 106 #[.pointer (some ⟨g, 0, none⟩)] w fun e w' => e = .returned (.bool (mayN ⟨kind, inst, step, state, part, cause, key, name, version, text⟩)) ∧ Below w.heap.size w w' := by
  have hc0 : w.cell? ⟨g, 0, none⟩ = some (.int .i64 kind) := row_cell hg0 rfl
  have hc1 : w.cell? ⟨g, 1, none⟩ = some (.int .i64 inst) := row_cell hg0 rfl
  have hc2 : w.cell? ⟨g, 2, none⟩ = some (.int .i64 step) := row_cell hg0 rfl
  have hc3 : w.cell? ⟨g, 3, none⟩ = some (.int .i64 state) := row_cell hg0 rfl
  have hc4 : w.cell? ⟨g, 4, none⟩ = some (.int .i64 part) := row_cell hg0 rfl
  have hc5 : w.cell? ⟨g, 5, none⟩ = some (.int .i64 cause) := row_cell hg0 rfl
  have hc6 : w.cell? ⟨g, 6, none⟩ = some (.string key) := row_cell hg0 rfl
  have hc7 : w.cell? ⟨g, 7, none⟩ = some (.string name) := row_cell hg0 rfl
  have hc8 : w.cell? ⟨g, 8, none⟩ = some (.int .i64 version) := row_cell hg0 rfl
  have hc9 : w.cell? ⟨g, 9, none⟩ = some (.string text) := row_cell hg0 rfl
  have hlt0 : g < w.heap.size := (Array.getElem?_eq_some_iff.1 hg0).1
  have HG := Aside0.mk (And.intro hg0 hs)
  have HX := Aside0.mk hx
  clear hg0 hs hx

  subst hk
  obtain rfl : ok = true := hok
  have HI := Aside0.mk (beq_eq_false_iff_ne.1 hi)
  go_enter Try.func106, Try.ntmps106
  go_wp2_with (first | (go_at_call 108; refine (own_b _ _ _ _ _ HG.out.1 HG.out.2 HX.out).mono ?_; rintro e w1 ⟨rfl, hb⟩; clear HG; have HBe := Aside0.mk hb; replace hc0 := cell_below' hb hc0; replace hc1 := cell_below' hb hc1; replace hc2 := cell_below' hb hc2; replace hc3 := cell_below' hb hc3; replace hc4 := cell_below' hb hc4; replace hc5 := cell_below' hb hc5; replace hc6 := cell_below' hb hc6; replace hc7 := cell_below' hb hc7; replace hc8 := cell_below' hb hc8; replace hc9 := cell_below' hb hc9; have hlt : g < w1.heap.size := Nat.lt_of_lt_of_le hlt0 hb.size; have hne : g ≠ w1.heap.size := Nat.ne_of_lt hlt; have hnew' : w1.heap.size ≠ g := Ne.symm hne; clear hb))
  refine start_ (n := 12) (S := fun w' => w'.cell? ⟨g, 0, none⟩ = some (.int .i64 1) ∧ w'.cell? ⟨g, 1, none⟩ = some (.int .i64 inst)) (ds := []) #[false, false, false, false, false, false, false, false, false, false, false, false] (by kernel_rfl) rfl rfl ⟨(by go_keep), (by go_keep)⟩ (fun hHeld => ?_)
  refine pure_ (i := 0) (N := some 10) (v := ?_) (a' := ?_) #[true, false, false, false, false, false, false, false, false, false, false, false] rfl rfl (by kernel_rfl) (fun _ _ _ h => h) (Or.inl ⟨by rfl, ?_⟩) ?_ ?_
  rotate_left
  · intro w'
    go_simp
    with_reducible rfl
  rotate_left
  · simp only [Act.put, List.setIfInBounds_toArray, List.set_cons_zero, List.set_cons_succ, i64_w, i32_w]
    rfl
  refine pure_ (i := 1) (N := some 11) (v := ?_) (a' := ?_) #[true, true, false, false, false, false, false, false, false, false, false, false] rfl rfl (by kernel_rfl) (fun _ _ _ h => h) (Or.inl ⟨by rfl, ?_⟩) ?_ ?_
  rotate_left
  · intro w'
    go_simp
    with_reducible rfl
  rotate_left
  · simp only [Act.put, List.setIfInBounds_toArray, List.set_cons_zero, List.set_cons_succ, i64_w, i32_w]
    rfl
  refine pure_ (i := 2) (N := some 12) (v := ?_) (a' := ?_) #[true, true, true, false, false, false, false, false, false, false, false, false] rfl rfl (by kernel_rfl) (fun _ _ _ h => h) (Or.inl ⟨by rfl, ?_⟩) ?_ ?_
  rotate_left
  · intro w'
    go_simp
    with_reducible rfl
  rotate_left
  · simp only [Act.put, List.setIfInBounds_toArray, List.set_cons_zero, List.set_cons_succ, i64_w, i32_w]
    rfl
  refine pure_ (i := 4) (N := some 14) (v := ?_) (a' := ?_) #[true, true, true, false, true, false, false, false, false, false, false, false] rfl rfl (by kernel_rfl) (fun _ _ _ h => h) (Or.inl ⟨by rfl, ?_⟩) ?_ ?_
  rotate_left
  · intro w'
    go_simp
    with_reducible rfl
  rotate_left
  · simp only [Act.put, List.setIfInBounds_toArray, List.set_cons_zero, List.set_cons_succ, i64_w, i32_w]
    rfl
  refine pure_ (i := 5) (N := some 15) (v := ?_) (a' := ?_) #[true, true, true, false, true, true, false, false, false, false, false, false] rfl rfl (by kernel_rfl) (fun _ _ _ h => h) (Or.inl ⟨by rfl, ?_⟩) ?_ ?_
  rotate_left
  · intro w'
    go_simp
    with_reducible rfl
  rotate_left
  · simp only [Act.put, List.setIfInBounds_toArray, List.set_cons_zero, List.set_cons_succ, i64_w, i32_w]
    rfl
  refine pure_ (i := 6) (N := some 16) (v := ?_) (a' := ?_) #[true, true, true, false, true, true, true, false, false, false, false, false] rfl rfl (by kernel_rfl) (fun _ _ _ h => h) (Or.inl ⟨by rfl, ?_⟩) ?_ ?_
  rotate_left
  · intro w'
    go_simp
    with_reducible rfl
  rotate_left
  · simp only [Act.put, List.setIfInBounds_toArray, List.set_cons_zero, List.set_cons_succ, i64_w, i32_w]
    rfl
  refine take_ (i := 3) (N := some 13) (v := ?_) (a' := ?_) #[true, true, true, true, true, true, true, false, false, false, false, false] rfl rfl (by kernel_rfl) (fun _ _ _ h => h) (Or.inl ⟨by rfl, ?_⟩) hHeld ?_ ?_
  rotate_left
  · rintro w' ⟨s0, s1⟩
    go_simp
    with_reducible rfl
  rotate_left
  · simp only [Act.put, List.setIfInBounds_toArray, List.set_cons_zero, List.set_cons_succ, i64_w, i32_w]
    rfl
  refine pure_ (i := 8) (N := some 18) (v := ?_) (a' := ?_) #[true, true, true, true, true, true, true, false, true, false, false, false] rfl rfl (by kernel_rfl) (fun _ _ _ h => h) (Or.inl ⟨by rfl, ?_⟩) ?_ ?_
  rotate_left
  · intro w'
    go_simp
    with_reducible rfl
  rotate_left
  · simp only [Act.put, List.setIfInBounds_toArray, List.set_cons_zero, List.set_cons_succ, i64_w, i32_w]
    rfl
  refine take_ (i := 7) (N := some 17) (v := ?_) (a' := ?_) #[true, true, true, true, true, true, true, true, true, false, false, false] rfl rfl (by kernel_rfl) (fun _ _ _ h => h) (Or.inl ⟨by rfl, ?_⟩) hHeld ?_ ?_
  rotate_left
  · rintro w' ⟨s0, s1⟩
    go_simp
    with_reducible rfl
  rotate_left
  · simp only [Act.put, List.setIfInBounds_toArray, List.set_cons_zero, List.set_cons_succ, i64_w, i32_w]
    rfl
  refine one_ (i := 9) (N := none) #[true, true, true, true, true, true, true, true, true, true, false, false] rfl rfl (by kernel_rfl) (by decide) (fun K hK => ?_)
  refine skip_ (w1 := ?_) (by rfl) rfl ?_ ?_
  rotate_left
  · go_simp
    rfl
  refine hK.out _ _ ⟨(by go_keep), (by go_keep)⟩ (fun hHeld => ?_)
  clear hK K
  refine pure_ (i := 10) (N := some 19) (v := ?_) (a' := ?_) #[true, true, true, true, true, true, true, true, true, true, true, false] rfl rfl (by kernel_rfl) (fun _ _ _ h => h) (Or.inl ⟨by rfl, ?_⟩) ?_ ?_
  rotate_left
  · intro w'
    go_simp
    with_reducible rfl
  rotate_left
  · simp only [Act.put, List.setIfInBounds_toArray, List.set_cons_zero, List.set_cons_succ, i64_w, i32_w]
    rfl
  refine one_ (i := 11) (N := none) #[true, true, true, true, true, true, true, true, true, true, true, true] rfl rfl (by kernel_rfl) (by decide) (fun K hK => ?_)
  refine skip_ (w1 := ?_) (by rfl) rfl ?_ ?_
  rotate_left
  · go_simp
    rfl
  refine hK.out _ _ ⟨(by go_keep), (by go_keep)⟩ (fun hHeld => ?_)
  clear hK K
  refine done_ (by kernel_rfl) ?_
  go_wp2
  refine start_ (n := 16) (S := fun w' => w'.cell? ⟨g, 0, none⟩ = some (.int .i64 1) ∧ w'.cell? ⟨g, 1, none⟩ = some (.int .i64 inst) ∧ w'.cell? ⟨g, 2, none⟩ = some (.int .i64 step) ∧ w'.cell? ⟨g, 3, none⟩ = some (.int .i64 state) ∧ w'.cell? ⟨g, 4, none⟩ = some (.int .i64 part) ∧ w'.cell? ⟨g, 5, none⟩ = some (.int .i64 cause) ∧ w'.cell? ⟨g, 6, none⟩ = some (.string key) ∧ w'.cell? ⟨g, 7, none⟩ = some (.string name) ∧ w'.cell? ⟨g, 8, none⟩ = some (.int .i64 version) ∧ w'.cell? ⟨g, 9, none⟩ = some (.string text) ∧ w'.cell? ⟨w1.heap.size, 0, none⟩ = some (.int .i64 1) ∧ w'.cell? ⟨w1.heap.size, 1, none⟩ = some (.int .i64 inst) ∧ w'.cell? ⟨w1.heap.size, 2, none⟩ = some (.int .i64 x2) ∧ w'.cell? ⟨w1.heap.size, 3, none⟩ = some (.int .i64 x3) ∧ w'.cell? ⟨w1.heap.size, 4, none⟩ = some (.int .i64 x4) ∧ w'.cell? ⟨w1.heap.size, 5, none⟩ = some (.int .i64 x5) ∧ w'.cell? ⟨w1.heap.size, 6, none⟩ = some (.string x6) ∧ w'.cell? ⟨w1.heap.size, 7, none⟩ = some (.string x7) ∧ w'.cell? ⟨w1.heap.size, 8, none⟩ = some (.int .i64 x8) ∧ w'.cell? ⟨w1.heap.size, 9, none⟩ = some (.string x9)) (ds := []) #[false, false, false, false, false, false, false, false, false, false, false, false, false, false, false, false] (by kernel_rfl) rfl rfl ⟨(by go_keep), (by go_keep), (by go_keep), (by go_keep), (by go_keep), (by go_keep), (by go_keep), (by go_keep), (by go_keep), (by go_keep), (by go_keep), (by go_keep), (by go_keep), (by go_keep), (by go_keep), (by go_keep), (by go_keep), (by go_keep), (by go_keep), (by go_keep)⟩ (fun hHeld => ?_)
  refine pure_ (i := 0) (N := some 25) (v := ?_) (a' := ?_) #[true, false, false, false, false, false, false, false, false, false, false, false, false, false, false, false] rfl rfl (by kernel_rfl) (fun _ _ _ h => h) (Or.inl ⟨by rfl, ?_⟩) ?_ ?_
  rotate_left
  · intro w'
    go_simp
    with_reducible rfl
  rotate_left
  · simp only [Act.put, List.setIfInBounds_toArray, List.set_cons_zero, List.set_cons_succ, i64_w, i32_w]
    rfl
  refine pure_ (i := 1) (N := some 26) (v := ?_) (a' := ?_) #[true, true, false, false, false, false, false, false, false, false, false, false, false, false, false, false] rfl rfl (by kernel_rfl) (fun _ _ _ h => h) (Or.inl ⟨by rfl, ?_⟩) ?_ ?_
  rotate_left
  · intro w'
    go_simp
    with_reducible rfl
  rotate_left
  · simp only [Act.put, List.setIfInBounds_toArray, List.set_cons_zero, List.set_cons_succ, i64_w, i32_w]
    rfl
  refine pure_ (i := 2) (N := some 27) (v := ?_) (a' := ?_) #[true, true, true, false, false, false, false, false, false, false, false, false, false, false, false, false] rfl rfl (by kernel_rfl) (fun _ _ _ h => h) (Or.inl ⟨by rfl, ?_⟩) ?_ ?_
  rotate_left
  · intro w'
    go_simp
    with_reducible rfl
  rotate_left
  · simp only [Act.put, List.setIfInBounds_toArray, List.set_cons_zero, List.set_cons_succ, i64_w, i32_w]
    rfl
  refine pure_ (i := 3) (N := some 28) (v := ?_) (a' := ?_) #[true, true, true, true, false, false, false, false, false, false, false, false, false, false, false, false] rfl rfl (by kernel_rfl) (fun _ _ _ h => h) (Or.inl ⟨by rfl, ?_⟩) ?_ ?_
  rotate_left
  · intro w'
    go_simp
    with_reducible rfl
  rotate_left
  · simp only [Act.put, List.setIfInBounds_toArray, List.set_cons_zero, List.set_cons_succ, i64_w, i32_w]
    rfl
  refine pure_ (i := 4) (N := some 29) (v := ?_) (a' := ?_) #[true, true, true, true, true, false, false, false, false, false, false, false, false, false, false, false] rfl rfl (by kernel_rfl) (fun _ _ _ h => h) (Or.inl ⟨by rfl, ?_⟩) ?_ ?_
  rotate_left
  · intro w'
    go_simp
    with_reducible rfl
  rotate_left
  · simp only [Act.put, List.setIfInBounds_toArray, List.set_cons_zero, List.set_cons_succ, i64_w, i32_w]
    rfl
  refine take_ (i := 5) (N := some 30) (v := ?_) (a' := ?_) #[true, true, true, true, true, true, false, false, false, false, false, false, false, false, false, false] rfl rfl (by kernel_rfl) (fun _ _ _ h => h) (Or.inl ⟨by rfl, ?_⟩) hHeld ?_ ?_
  rotate_left
  · rintro w' ⟨s0, s1, s2, s3, s4, s5, s6, s7, s8, s9, s10, s11, s12, s13, s14, s15, s16, s17, s18, s19⟩
    go_simp
    with_reducible rfl
  rotate_left
  · simp only [Act.put, List.setIfInBounds_toArray, List.set_cons_zero, List.set_cons_succ, i64_w, i32_w]
    rfl
  refine pure_ (i := 6) (N := some 31) (v := ?_) (a' := ?_) #[true, true, true, true, true, true, true, false, false, false, false, false, false, false, false, false] rfl rfl (by kernel_rfl) (fun _ _ _ h => h) (Or.inl ⟨by rfl, ?_⟩) ?_ ?_
  rotate_left
  · intro w'
    go_simp
    with_reducible rfl
  rotate_left
  · simp only [Act.put, List.setIfInBounds_toArray, List.set_cons_zero, List.set_cons_succ, i64_w, i32_w]
    rfl
  refine pure_ (i := 7) (N := some 32) (v := ?_) (a' := ?_) #[true, true, true, true, true, true, true, true, false, false, false, false, false, false, false, false] rfl rfl (by kernel_rfl) (fun _ _ _ h => h) (Or.inl ⟨by rfl, ?_⟩) ?_ ?_
  rotate_left
  · intro w'
    go_simp
    with_reducible rfl
  rotate_left
  · simp only [Act.put, List.setIfInBounds_toArray, List.set_cons_zero, List.set_cons_succ, i64_w, i32_w]
    rfl
  refine pure_ (i := 8) (N := some 33) (v := ?_) (a' := ?_) #[true, true, true, true, true, true, true, true, true, false, false, false, false, false, false, false] rfl rfl (by kernel_rfl) (fun _ _ _ h => h) (Or.inl ⟨by rfl, ?_⟩) ?_ ?_
  rotate_left
  · intro w'
    go_simp
    with_reducible rfl
  rotate_left
  · simp only [Act.put, List.setIfInBounds_toArray, List.set_cons_zero, List.set_cons_succ, i64_w, i32_w]
    rfl
  refine pure_ (i := 9) (N := some 34) (v := undef) (a' := ?_) #[true, true, true, true, true, true, true, true, true, true, false, false, false, false, false, false] rfl rfl (by kernel_rfl) (fun _ _ _ h => h) (Or.inr ⟨by rfl, rfl⟩) ?_ ?_
  rotate_left
  · simp only [Act.put, List.setIfInBounds_toArray, List.set_cons_zero, List.set_cons_succ, i64_w, i32_w]
    rfl
  refine pure_ (i := 10) (N := some 35) (v := undef) (a' := ?_) #[true, true, true, true, true, true, true, true, true, true, true, false, false, false, false, false] rfl rfl (by kernel_rfl) (fun _ _ _ h => h) (Or.inr ⟨by rfl, rfl⟩) ?_ ?_
  rotate_left
  · simp only [Act.put, List.setIfInBounds_toArray, List.set_cons_zero, List.set_cons_succ, i64_w, i32_w]
    rfl
  refine pure_ (i := 11) (N := some 36) (v := undef) (a' := ?_) #[true, true, true, true, true, true, true, true, true, true, true, true, false, false, false, false] rfl rfl (by kernel_rfl) (fun _ _ _ h => h) (Or.inr ⟨by rfl, rfl⟩) ?_ ?_
  rotate_left
  · simp only [Act.put, List.setIfInBounds_toArray, List.set_cons_zero, List.set_cons_succ, i64_w, i32_w]
    rfl
  refine pure_ (i := 12) (N := some 37) (v := undef) (a' := ?_) #[true, true, true, true, true, true, true, true, true, true, true, true, true, false, false, false] rfl rfl (by kernel_rfl) (fun _ _ _ h => h) (Or.inr ⟨by rfl, rfl⟩) ?_ ?_
  rotate_left
  · simp only [Act.put, List.setIfInBounds_toArray, List.set_cons_zero, List.set_cons_succ, i64_w, i32_w]
    rfl
  refine pure_ (i := 13) (N := some 38) (v := undef) (a' := ?_) #[true, true, true, true, true, true, true, true, true, true, true, true, true, true, false, false] rfl rfl (by kernel_rfl) (fun _ _ _ h => h) (Or.inr ⟨by rfl, rfl⟩) ?_ ?_
  rotate_left
  · simp only [Act.put, List.setIfInBounds_toArray, List.set_cons_zero, List.set_cons_succ, i64_w, i32_w]
    rfl
  refine pure_ (i := 14) (N := some 39) (v := ?_) (a' := ?_) #[true, true, true, true, true, true, true, true, true, true, true, true, true, true, true, false] rfl rfl (by kernel_rfl) (fun _ _ _ h => h) (Or.inl ⟨by rfl, ?_⟩) ?_ ?_
  rotate_left
  · intro w'
    go_simp
    with_reducible rfl
  rotate_left
  · simp only [Act.put, List.setIfInBounds_toArray, List.set_cons_zero, List.set_cons_succ, i64_w, i32_w]
    rfl
  refine pure_ (i := 15) (N := some 2) (v := ?_) (a' := ?_) #[true, true, true, true, true, true, true, true, true, true, true, true, true, true, true, true] rfl rfl (by kernel_rfl) (fun _ _ _ h => h) (Or.inl ⟨by rfl, ?_⟩) ?_ ?_
  rotate_left
  · intro w'
    go_simp
    with_reducible rfl
  rotate_left
  · simp only [Act.put, List.setIfInBounds_toArray, List.set_cons_zero, List.set_cons_succ, i64_w, i32_w]
    rfl
  refine done_ (by kernel_rfl) ?_
  go_wp2
  all_goals (go_ret; refine ⟨by simp [mayN, eqN, HX.out, HI.out], ?_⟩; (repeat (with_reducible (first | exact HBe.out.alloc HBe.out.size _ | apply Below.drew | apply pw_below_drewN))))

set_option linter.unusedSimpArgs false in
set_option linter.unusedVariables false in
set_option maxHeartbeats 4000000 in
set_option maxRecDepth 100000 in
theorem may1c (w : World) (g : Nat) (kind inst step state part cause : Int) (key name : ByteArray) (version : Int) (text : ByteArray) (x0 x1 x2 x3 x4 x5 : Int) (x6 x7 : ByteArray) (x8 : Int) (x9 : ByteArray) (ok : Bool) (hg0 : w.heap[g]? = some (.cells (CdNote.cells ⟨kind, inst, step, state, part, cause, key, name, version, text⟩) 60 (0, 0)))
    (hs : key.size ≤ 9000000000000000000 ∧ name.size ≤ 9000000000000000000) (hx : ownN ⟨kind, inst, step, state, part, cause, key, name, version, text⟩ = (⟨x0, x1, x2, x3, x4, x5, x6, x7, x8, x9⟩, ok)) (hok : ok = true) (hk : kind = 1) (hi : inst = 0) :
    Calls Try.prog 106 #[.pointer (some ⟨g, 0, none⟩)] w fun e w' => e = .returned (.bool (mayN ⟨kind, inst, step, state, part, cause, key, name, version, text⟩)) ∧ Below w.heap.size w w' := by
  have hc0 : w.cell? ⟨g, 0, none⟩ = some (.int .i64 kind) := row_cell hg0 rfl
  have hc1 : w.cell? ⟨g, 1, none⟩ = some (.int .i64 inst) := row_cell hg0 rfl
  have hc2 : w.cell? ⟨g, 2, none⟩ = some (.int .i64 step) := row_cell hg0 rfl
  have hc3 : w.cell? ⟨g, 3, none⟩ = some (.int .i64 state) := row_cell hg0 rfl
  have hc4 : w.cell? ⟨g, 4, none⟩ = some (.int .i64 part) := row_cell hg0 rfl
  have hc5 : w.cell? ⟨g, 5, none⟩ = some (.int .i64 cause) := row_cell hg0 rfl
  have hc6 : w.cell? ⟨g, 6, none⟩ = some (.string key) := row_cell hg0 rfl
  have hc7 : w.cell? ⟨g, 7, none⟩ = some (.string name) := row_cell hg0 rfl
  have hc8 : w.cell? ⟨g, 8, none⟩ = some (.int .i64 version) := row_cell hg0 rfl
  have hc9 : w.cell? ⟨g, 9, none⟩ = some (.string text) := row_cell hg0 rfl
  have hlt0 : g < w.heap.size := (Array.getElem?_eq_some_iff.1 hg0).1
  have HG := Aside0.mk (And.intro hg0 hs)
  have HX := Aside0.mk hx
  clear hg0 hs hx

  subst hk
  obtain rfl : ok = true := hok
  subst hi
  go_enter Try.func106, Try.ntmps106
  go_wp2_with (first | (go_at_call 108; refine (own_b _ _ _ _ _ HG.out.1 HG.out.2 HX.out).mono ?_; rintro e w1 ⟨rfl, hb⟩; clear HG; have HBe := Aside0.mk hb; replace hc0 := cell_below' hb hc0; replace hc1 := cell_below' hb hc1; replace hc2 := cell_below' hb hc2; replace hc3 := cell_below' hb hc3; replace hc4 := cell_below' hb hc4; replace hc5 := cell_below' hb hc5; replace hc6 := cell_below' hb hc6; replace hc7 := cell_below' hb hc7; replace hc8 := cell_below' hb hc8; replace hc9 := cell_below' hb hc9; have hlt : g < w1.heap.size := Nat.lt_of_lt_of_le hlt0 hb.size; have hne : g ≠ w1.heap.size := Nat.ne_of_lt hlt; have hnew' : w1.heap.size ≠ g := Ne.symm hne; clear hb))
  refine start_ (n := 12) (S := fun w' => w'.cell? ⟨g, 0, none⟩ = some (.int .i64 1) ∧ w'.cell? ⟨g, 1, none⟩ = some (.int .i64 0)) (ds := []) #[false, false, false, false, false, false, false, false, false, false, false, false] (by kernel_rfl) rfl rfl ⟨(by go_keep), (by go_keep)⟩ (fun hHeld => ?_)
  refine pure_ (i := 0) (N := some 10) (v := ?_) (a' := ?_) #[true, false, false, false, false, false, false, false, false, false, false, false] rfl rfl (by kernel_rfl) (fun _ _ _ h => h) (Or.inl ⟨by rfl, ?_⟩) ?_ ?_
  rotate_left
  · intro w'
    go_simp
    with_reducible rfl
  rotate_left
  · simp only [Act.put, List.setIfInBounds_toArray, List.set_cons_zero, List.set_cons_succ, i64_w, i32_w]
    rfl
  refine pure_ (i := 1) (N := some 11) (v := ?_) (a' := ?_) #[true, true, false, false, false, false, false, false, false, false, false, false] rfl rfl (by kernel_rfl) (fun _ _ _ h => h) (Or.inl ⟨by rfl, ?_⟩) ?_ ?_
  rotate_left
  · intro w'
    go_simp
    with_reducible rfl
  rotate_left
  · simp only [Act.put, List.setIfInBounds_toArray, List.set_cons_zero, List.set_cons_succ, i64_w, i32_w]
    rfl
  refine pure_ (i := 2) (N := some 12) (v := ?_) (a' := ?_) #[true, true, true, false, false, false, false, false, false, false, false, false] rfl rfl (by kernel_rfl) (fun _ _ _ h => h) (Or.inl ⟨by rfl, ?_⟩) ?_ ?_
  rotate_left
  · intro w'
    go_simp
    with_reducible rfl
  rotate_left
  · simp only [Act.put, List.setIfInBounds_toArray, List.set_cons_zero, List.set_cons_succ, i64_w, i32_w]
    rfl
  refine pure_ (i := 4) (N := some 14) (v := ?_) (a' := ?_) #[true, true, true, false, true, false, false, false, false, false, false, false] rfl rfl (by kernel_rfl) (fun _ _ _ h => h) (Or.inl ⟨by rfl, ?_⟩) ?_ ?_
  rotate_left
  · intro w'
    go_simp
    with_reducible rfl
  rotate_left
  · simp only [Act.put, List.setIfInBounds_toArray, List.set_cons_zero, List.set_cons_succ, i64_w, i32_w]
    rfl
  refine pure_ (i := 5) (N := some 15) (v := ?_) (a' := ?_) #[true, true, true, false, true, true, false, false, false, false, false, false] rfl rfl (by kernel_rfl) (fun _ _ _ h => h) (Or.inl ⟨by rfl, ?_⟩) ?_ ?_
  rotate_left
  · intro w'
    go_simp
    with_reducible rfl
  rotate_left
  · simp only [Act.put, List.setIfInBounds_toArray, List.set_cons_zero, List.set_cons_succ, i64_w, i32_w]
    rfl
  refine pure_ (i := 6) (N := some 16) (v := ?_) (a' := ?_) #[true, true, true, false, true, true, true, false, false, false, false, false] rfl rfl (by kernel_rfl) (fun _ _ _ h => h) (Or.inl ⟨by rfl, ?_⟩) ?_ ?_
  rotate_left
  · intro w'
    go_simp
    with_reducible rfl
  rotate_left
  · simp only [Act.put, List.setIfInBounds_toArray, List.set_cons_zero, List.set_cons_succ, i64_w, i32_w]
    rfl
  refine take_ (i := 3) (N := some 13) (v := ?_) (a' := ?_) #[true, true, true, true, true, true, true, false, false, false, false, false] rfl rfl (by kernel_rfl) (fun _ _ _ h => h) (Or.inl ⟨by rfl, ?_⟩) hHeld ?_ ?_
  rotate_left
  · rintro w' ⟨s0, s1⟩
    go_simp
    with_reducible rfl
  rotate_left
  · simp only [Act.put, List.setIfInBounds_toArray, List.set_cons_zero, List.set_cons_succ, i64_w, i32_w]
    rfl
  refine pure_ (i := 8) (N := some 18) (v := ?_) (a' := ?_) #[true, true, true, true, true, true, true, false, true, false, false, false] rfl rfl (by kernel_rfl) (fun _ _ _ h => h) (Or.inl ⟨by rfl, ?_⟩) ?_ ?_
  rotate_left
  · intro w'
    go_simp
    with_reducible rfl
  rotate_left
  · simp only [Act.put, List.setIfInBounds_toArray, List.set_cons_zero, List.set_cons_succ, i64_w, i32_w]
    rfl
  refine take_ (i := 7) (N := some 17) (v := ?_) (a' := ?_) #[true, true, true, true, true, true, true, true, true, false, false, false] rfl rfl (by kernel_rfl) (fun _ _ _ h => h) (Or.inl ⟨by rfl, ?_⟩) hHeld ?_ ?_
  rotate_left
  · rintro w' ⟨s0, s1⟩
    go_simp
    with_reducible rfl
  rotate_left
  · simp only [Act.put, List.setIfInBounds_toArray, List.set_cons_zero, List.set_cons_succ, i64_w, i32_w]
    rfl
  refine one_ (i := 9) (N := none) #[true, true, true, true, true, true, true, true, true, true, false, false] rfl rfl (by kernel_rfl) (by decide) (fun K hK => ?_)
  refine skip_ (w1 := ?_) (by rfl) rfl ?_ ?_
  rotate_left
  · go_simp
    rfl
  refine hK.out _ _ ⟨(by go_keep), (by go_keep)⟩ (fun hHeld => ?_)
  clear hK K
  refine pure_ (i := 10) (N := some 19) (v := ?_) (a' := ?_) #[true, true, true, true, true, true, true, true, true, true, true, false] rfl rfl (by kernel_rfl) (fun _ _ _ h => h) (Or.inl ⟨by rfl, ?_⟩) ?_ ?_
  rotate_left
  · intro w'
    go_simp
    with_reducible rfl
  rotate_left
  · simp only [Act.put, List.setIfInBounds_toArray, List.set_cons_zero, List.set_cons_succ, i64_w, i32_w]
    rfl
  refine one_ (i := 11) (N := none) #[true, true, true, true, true, true, true, true, true, true, true, true] rfl rfl (by kernel_rfl) (by decide) (fun K hK => ?_)
  refine skip_ (w1 := ?_) (by rfl) rfl ?_ ?_
  rotate_left
  · go_simp
    rfl
  refine hK.out _ _ ⟨(by go_keep), (by go_keep)⟩ (fun hHeld => ?_)
  clear hK K
  refine done_ (by kernel_rfl) ?_
  go_wp2
  refine start_ (n := 16) (S := fun w' => w'.cell? ⟨g, 0, none⟩ = some (.int .i64 1) ∧ w'.cell? ⟨g, 1, none⟩ = some (.int .i64 0) ∧ w'.cell? ⟨g, 2, none⟩ = some (.int .i64 step) ∧ w'.cell? ⟨g, 3, none⟩ = some (.int .i64 state) ∧ w'.cell? ⟨g, 4, none⟩ = some (.int .i64 part) ∧ w'.cell? ⟨g, 5, none⟩ = some (.int .i64 cause) ∧ w'.cell? ⟨g, 6, none⟩ = some (.string key) ∧ w'.cell? ⟨g, 7, none⟩ = some (.string name) ∧ w'.cell? ⟨g, 8, none⟩ = some (.int .i64 version) ∧ w'.cell? ⟨g, 9, none⟩ = some (.string text) ∧ w'.cell? ⟨w1.heap.size, 0, none⟩ = some (.int .i64 1) ∧ w'.cell? ⟨w1.heap.size, 1, none⟩ = some (.int .i64 0) ∧ w'.cell? ⟨w1.heap.size, 2, none⟩ = some (.int .i64 x2) ∧ w'.cell? ⟨w1.heap.size, 3, none⟩ = some (.int .i64 x3) ∧ w'.cell? ⟨w1.heap.size, 4, none⟩ = some (.int .i64 x4) ∧ w'.cell? ⟨w1.heap.size, 5, none⟩ = some (.int .i64 x5) ∧ w'.cell? ⟨w1.heap.size, 6, none⟩ = some (.string x6) ∧ w'.cell? ⟨w1.heap.size, 7, none⟩ = some (.string x7) ∧ w'.cell? ⟨w1.heap.size, 8, none⟩ = some (.int .i64 x8) ∧ w'.cell? ⟨w1.heap.size, 9, none⟩ = some (.string x9)) (ds := []) #[false, false, false, false, false, false, false, false, false, false, false, false, false, false, false, false] (by kernel_rfl) rfl rfl ⟨(by go_keep), (by go_keep), (by go_keep), (by go_keep), (by go_keep), (by go_keep), (by go_keep), (by go_keep), (by go_keep), (by go_keep), (by go_keep), (by go_keep), (by go_keep), (by go_keep), (by go_keep), (by go_keep), (by go_keep), (by go_keep), (by go_keep), (by go_keep)⟩ (fun hHeld => ?_)
  refine pure_ (i := 0) (N := some 25) (v := ?_) (a' := ?_) #[true, false, false, false, false, false, false, false, false, false, false, false, false, false, false, false] rfl rfl (by kernel_rfl) (fun _ _ _ h => h) (Or.inl ⟨by rfl, ?_⟩) ?_ ?_
  rotate_left
  · intro w'
    go_simp
    with_reducible rfl
  rotate_left
  · simp only [Act.put, List.setIfInBounds_toArray, List.set_cons_zero, List.set_cons_succ, i64_w, i32_w]
    rfl
  refine pure_ (i := 1) (N := some 26) (v := ?_) (a' := ?_) #[true, true, false, false, false, false, false, false, false, false, false, false, false, false, false, false] rfl rfl (by kernel_rfl) (fun _ _ _ h => h) (Or.inl ⟨by rfl, ?_⟩) ?_ ?_
  rotate_left
  · intro w'
    go_simp
    with_reducible rfl
  rotate_left
  · simp only [Act.put, List.setIfInBounds_toArray, List.set_cons_zero, List.set_cons_succ, i64_w, i32_w]
    rfl
  refine pure_ (i := 2) (N := some 27) (v := ?_) (a' := ?_) #[true, true, true, false, false, false, false, false, false, false, false, false, false, false, false, false] rfl rfl (by kernel_rfl) (fun _ _ _ h => h) (Or.inl ⟨by rfl, ?_⟩) ?_ ?_
  rotate_left
  · intro w'
    go_simp
    with_reducible rfl
  rotate_left
  · simp only [Act.put, List.setIfInBounds_toArray, List.set_cons_zero, List.set_cons_succ, i64_w, i32_w]
    rfl
  refine pure_ (i := 3) (N := some 28) (v := ?_) (a' := ?_) #[true, true, true, true, false, false, false, false, false, false, false, false, false, false, false, false] rfl rfl (by kernel_rfl) (fun _ _ _ h => h) (Or.inl ⟨by rfl, ?_⟩) ?_ ?_
  rotate_left
  · intro w'
    go_simp
    with_reducible rfl
  rotate_left
  · simp only [Act.put, List.setIfInBounds_toArray, List.set_cons_zero, List.set_cons_succ, i64_w, i32_w]
    rfl
  refine pure_ (i := 4) (N := some 29) (v := ?_) (a' := ?_) #[true, true, true, true, true, false, false, false, false, false, false, false, false, false, false, false] rfl rfl (by kernel_rfl) (fun _ _ _ h => h) (Or.inl ⟨by rfl, ?_⟩) ?_ ?_
  rotate_left
  · intro w'
    go_simp
    with_reducible rfl
  rotate_left
  · simp only [Act.put, List.setIfInBounds_toArray, List.set_cons_zero, List.set_cons_succ, i64_w, i32_w]
    rfl
  refine take_ (i := 5) (N := some 30) (v := ?_) (a' := ?_) #[true, true, true, true, true, true, false, false, false, false, false, false, false, false, false, false] rfl rfl (by kernel_rfl) (fun _ _ _ h => h) (Or.inl ⟨by rfl, ?_⟩) hHeld ?_ ?_
  rotate_left
  · rintro w' ⟨s0, s1, s2, s3, s4, s5, s6, s7, s8, s9, s10, s11, s12, s13, s14, s15, s16, s17, s18, s19⟩
    go_simp
    with_reducible rfl
  rotate_left
  · simp only [Act.put, List.setIfInBounds_toArray, List.set_cons_zero, List.set_cons_succ, i64_w, i32_w]
    rfl
  refine pure_ (i := 6) (N := some 31) (v := ?_) (a' := ?_) #[true, true, true, true, true, true, true, false, false, false, false, false, false, false, false, false] rfl rfl (by kernel_rfl) (fun _ _ _ h => h) (Or.inl ⟨by rfl, ?_⟩) ?_ ?_
  rotate_left
  · intro w'
    go_simp
    with_reducible rfl
  rotate_left
  · simp only [Act.put, List.setIfInBounds_toArray, List.set_cons_zero, List.set_cons_succ, i64_w, i32_w]
    rfl
  refine pure_ (i := 7) (N := some 32) (v := ?_) (a' := ?_) #[true, true, true, true, true, true, true, true, false, false, false, false, false, false, false, false] rfl rfl (by kernel_rfl) (fun _ _ _ h => h) (Or.inl ⟨by rfl, ?_⟩) ?_ ?_
  rotate_left
  · intro w'
    go_simp
    with_reducible rfl
  rotate_left
  · simp only [Act.put, List.setIfInBounds_toArray, List.set_cons_zero, List.set_cons_succ, i64_w, i32_w]
    rfl
  refine pure_ (i := 8) (N := some 33) (v := ?_) (a' := ?_) #[true, true, true, true, true, true, true, true, true, false, false, false, false, false, false, false] rfl rfl (by kernel_rfl) (fun _ _ _ h => h) (Or.inl ⟨by rfl, ?_⟩) ?_ ?_
  rotate_left
  · intro w'
    go_simp
    with_reducible rfl
  rotate_left
  · simp only [Act.put, List.setIfInBounds_toArray, List.set_cons_zero, List.set_cons_succ, i64_w, i32_w]
    rfl
  refine pure_ (i := 10) (N := some 35) (v := ?_) (a' := ?_) #[true, true, true, true, true, true, true, true, true, false, true, false, false, false, false, false] rfl rfl (by kernel_rfl) (fun _ _ _ h => h) (Or.inl ⟨by rfl, ?_⟩) ?_ ?_
  rotate_left
  · intro w'
    go_simp
    with_reducible rfl
  rotate_left
  · simp only [Act.put, List.setIfInBounds_toArray, List.set_cons_zero, List.set_cons_succ, i64_w, i32_w]
    rfl
  refine pure_ (i := 11) (N := some 36) (v := ?_) (a' := ?_) #[true, true, true, true, true, true, true, true, true, false, true, true, false, false, false, false] rfl rfl (by kernel_rfl) (fun _ _ _ h => h) (Or.inl ⟨by rfl, ?_⟩) ?_ ?_
  rotate_left
  · intro w'
    go_simp
    with_reducible rfl
  rotate_left
  · simp only [Act.put, List.setIfInBounds_toArray, List.set_cons_zero, List.set_cons_succ, i64_w, i32_w]
    rfl
  refine take_ (i := 9) (N := some 34) (v := ?_) (a' := ?_) #[true, true, true, true, true, true, true, true, true, true, true, true, false, false, false, false] rfl rfl (by kernel_rfl) (fun _ _ _ h => h) (Or.inl ⟨by rfl, ?_⟩) hHeld ?_ ?_
  rotate_left
  · rintro w' ⟨s0, s1, s2, s3, s4, s5, s6, s7, s8, s9, s10, s11, s12, s13, s14, s15, s16, s17, s18, s19⟩
    go_simp
    with_reducible rfl
  rotate_left
  · simp only [Act.put, List.setIfInBounds_toArray, List.set_cons_zero, List.set_cons_succ, i64_w, i32_w]
    rfl
  refine take_ (i := 12) (N := some 37) (v := ?_) (a' := ?_) #[true, true, true, true, true, true, true, true, true, true, true, true, true, false, false, false] rfl rfl (by kernel_rfl) (fun _ _ _ h => h) (Or.inl ⟨by rfl, ?_⟩) hHeld ?_ ?_
  rotate_left
  · rintro w' ⟨s0, s1, s2, s3, s4, s5, s6, s7, s8, s9, s10, s11, s12, s13, s14, s15, s16, s17, s18, s19⟩
    go_simp
    with_reducible rfl
  rotate_left
  · simp only [Act.put, List.setIfInBounds_toArray, List.set_cons_zero, List.set_cons_succ, i64_w, i32_w]
    rfl
  refine pure_ (i := 13) (N := some 38) (v := ?_) (a' := ?_) #[true, true, true, true, true, true, true, true, true, true, true, true, true, true, false, false] rfl rfl (by kernel_rfl) (fun _ _ _ h => h) (Or.inl ⟨by rfl, ?_⟩) ?_ ?_
  rotate_left
  · intro w'
    go_simp
    with_reducible rfl
  rotate_left
  · simp only [Act.put, List.setIfInBounds_toArray, List.set_cons_zero, List.set_cons_succ, i64_w, i32_w]
    rfl
  refine pure_ (i := 14) (N := some 39) (v := ?_) (a' := ?_) #[true, true, true, true, true, true, true, true, true, true, true, true, true, true, true, false] rfl rfl (by kernel_rfl) (fun _ _ _ h => h) (Or.inl ⟨by rfl, ?_⟩) ?_ ?_
  rotate_left
  · intro w'
    go_simp
    with_reducible rfl
  rotate_left
  · simp only [Act.put, List.setIfInBounds_toArray, List.set_cons_zero, List.set_cons_succ, i64_w, i32_w]
    rfl
  refine pure_ (i := 15) (N := some 2) (v := ?_) (a' := ?_) #[true, true, true, true, true, true, true, true, true, true, true, true, true, true, true, true] rfl rfl (by kernel_rfl) (fun _ _ _ h => h) (Or.inl ⟨by rfl, ?_⟩) ?_ ?_
  rotate_left
  · intro w'
    go_simp
    with_reducible rfl
  rotate_left
  · simp only [Act.put, List.setIfInBounds_toArray, List.set_cons_zero, List.set_cons_succ, i64_w, i32_w]
    rfl
  refine done_ (by kernel_rfl) ?_
  go_wp2
  all_goals (go_ret; refine ⟨by simp [mayN, eqN, HX.out], ?_⟩; (repeat (with_reducible (first | exact HBe.out.alloc HBe.out.size _ | apply Below.drew | apply pw_below_drewN))))

end Go.Proofs.Ytejaepohkcjoiaa.CdMay

/- codec: may of a note: the walk, path by path (written by wip/gen/mkmay.py). -/
namespace Go.Proofs.Ytejaepohkcjoiaa.CdMay
open Go.RowKit Go.IntWalk Go.Proofs.Ytejaepohkcjoiaa.B Go.Proofs.YtejaepohkcjoiaaW.PrintWords Go.Proofs.YtejaepohkcjoiaaW.PrintLast Go.Proofs.YtejaepohkcjoiaaW.PrintMore Go.Proofs.Ytejaepohkcjoiaa.CdForm
attribute [local go_sem high] eqA60

set_option linter.unusedSimpArgs false in
set_option linter.unusedVariables false in
set_option maxHeartbeats 4000000 in
set_option maxRecDepth 100000 in
theorem mayza (w : World) (g : Nat) (kind inst step state part cause : Int) (key name : ByteArray) (version : Int) (text : ByteArray) (x0 x1 x2 x3 x4 x5 : Int) (x6 x7 : ByteArray) (x8 : Int) (x9 : ByteArray) (ok : Bool) (hg0 : w.heap[g]? = some (.cells (CdNote.cells ⟨kind, inst, step, state, part, cause, key, name, version, text⟩) 60 (0, 0)))
    (hs : key.size ≤ 9000000000000000000 ∧ name.size ≤ 9000000000000000000) (hx : ownN ⟨kind, inst, step, state, part, cause, key, name, version, text⟩ = (⟨x0, x1, x2, x3, x4, x5, x6, x7, x8, x9⟩, ok)) (hok : ok = false) (hk : (kind == 1) = false) :
    Calls Try.prog 106 #[.pointer (some ⟨g, 0, none⟩)] w fun e w' => e = .returned (.bool (mayN ⟨kind, inst, step, state, part, cause, key, name, version, text⟩)) ∧ Below w.heap.size w w' := by
  have hc0 : w.cell? ⟨g, 0, none⟩ = some (.int .i64 kind) := row_cell hg0 rfl
  have hc1 : w.cell? ⟨g, 1, none⟩ = some (.int .i64 inst) := row_cell hg0 rfl
  have hc2 : w.cell? ⟨g, 2, none⟩ = some (.int .i64 step) := row_cell hg0 rfl
  have hc3 : w.cell? ⟨g, 3, none⟩ = some (.int .i64 state) := row_cell hg0 rfl
  have hc4 : w.cell? ⟨g, 4, none⟩ = some (.int .i64 part) := row_cell hg0 rfl
  have hc5 : w.cell? ⟨g, 5, none⟩ = some (.int .i64 cause) := row_cell hg0 rfl
  have hc6 : w.cell? ⟨g, 6, none⟩ = some (.string key) := row_cell hg0 rfl
  have hc7 : w.cell? ⟨g, 7, none⟩ = some (.string name) := row_cell hg0 rfl
  have hc8 : w.cell? ⟨g, 8, none⟩ = some (.int .i64 version) := row_cell hg0 rfl
  have hc9 : w.cell? ⟨g, 9, none⟩ = some (.string text) := row_cell hg0 rfl
  have hlt0 : g < w.heap.size := (Array.getElem?_eq_some_iff.1 hg0).1
  have HG := Aside0.mk (And.intro hg0 hs)
  have HX := Aside0.mk hx
  clear hg0 hs hx

  have HK := Aside0.mk (beq_eq_false_iff_ne.1 hk)
  obtain rfl : ok = false := hok
  go_enter Try.func106, Try.ntmps106
  go_wp2_with (first | (go_at_call 108; refine (own_b _ _ _ _ _ HG.out.1 HG.out.2 HX.out).mono ?_; rintro e w1 ⟨rfl, hb⟩; clear HG; have HBe := Aside0.mk hb; replace hc0 := cell_below' hb hc0; replace hc1 := cell_below' hb hc1; replace hc2 := cell_below' hb hc2; replace hc3 := cell_below' hb hc3; replace hc4 := cell_below' hb hc4; replace hc5 := cell_below' hb hc5; replace hc6 := cell_below' hb hc6; replace hc7 := cell_below' hb hc7; replace hc8 := cell_below' hb hc8; replace hc9 := cell_below' hb hc9; have hlt : g < w1.heap.size := Nat.lt_of_lt_of_le hlt0 hb.size; have hne : g ≠ w1.heap.size := Nat.ne_of_lt hlt; have hnew' : w1.heap.size ≠ g := Ne.symm hne; clear hb))
  refine start_ (n := 12) (S := fun w' => w'.cell? ⟨g, 0, none⟩ = some (.int .i64 kind) ∧ w'.cell? ⟨g, 1, none⟩ = some (.int .i64 inst)) (ds := []) #[false, false, false, false, false, false, false, false, false, false, false, false] (by kernel_rfl) rfl rfl ⟨(by go_keep), (by go_keep)⟩ (fun hHeld => ?_)
  refine pure_ (i := 0) (N := some 10) (v := ?_) (a' := ?_) #[true, false, false, false, false, false, false, false, false, false, false, false] rfl rfl (by kernel_rfl) (fun _ _ _ h => h) (Or.inl ⟨by rfl, ?_⟩) ?_ ?_
  rotate_left
  · intro w'
    go_simp
    with_reducible rfl
  rotate_left
  · simp only [Act.put, List.setIfInBounds_toArray, List.set_cons_zero, List.set_cons_succ, i64_w, i32_w]
    rfl
  refine pure_ (i := 1) (N := some 11) (v := ?_) (a' := ?_) #[true, true, false, false, false, false, false, false, false, false, false, false] rfl rfl (by kernel_rfl) (fun _ _ _ h => h) (Or.inl ⟨by rfl, ?_⟩) ?_ ?_
  rotate_left
  · intro w'
    go_simp
    with_reducible rfl
  rotate_left
  · simp only [Act.put, List.setIfInBounds_toArray, List.set_cons_zero, List.set_cons_succ, i64_w, i32_w]
    rfl
  refine pure_ (i := 2) (N := some 12) (v := ?_) (a' := ?_) #[true, true, true, false, false, false, false, false, false, false, false, false] rfl rfl (by kernel_rfl) (fun _ _ _ h => h) (Or.inl ⟨by rfl, ?_⟩) ?_ ?_
  rotate_left
  · intro w'
    go_simp
    with_reducible rfl
  rotate_left
  · simp only [Act.put, List.setIfInBounds_toArray, List.set_cons_zero, List.set_cons_succ, i64_w, i32_w]
    rfl
  refine pure_ (i := 4) (N := some 14) (v := ?_) (a' := ?_) #[true, true, true, false, true, false, false, false, false, false, false, false] rfl rfl (by kernel_rfl) (fun _ _ _ h => h) (Or.inl ⟨by rfl, ?_⟩) ?_ ?_
  rotate_left
  · intro w'
    go_simp
    with_reducible rfl
  rotate_left
  · simp only [Act.put, List.setIfInBounds_toArray, List.set_cons_zero, List.set_cons_succ, i64_w, i32_w]
    rfl
  refine pure_ (i := 5) (N := some 15) (v := ?_) (a' := ?_) #[true, true, true, false, true, true, false, false, false, false, false, false] rfl rfl (by kernel_rfl) (fun _ _ _ h => h) (Or.inl ⟨by rfl, ?_⟩) ?_ ?_
  rotate_left
  · intro w'
    go_simp
    with_reducible rfl
  rotate_left
  · simp only [Act.put, List.setIfInBounds_toArray, List.set_cons_zero, List.set_cons_succ, i64_w, i32_w]
    rfl
  refine pure_ (i := 6) (N := some 16) (v := ?_) (a' := ?_) #[true, true, true, false, true, true, true, false, false, false, false, false] rfl rfl (by kernel_rfl) (fun _ _ _ h => h) (Or.inl ⟨by rfl, ?_⟩) ?_ ?_
  rotate_left
  · intro w'
    go_simp
    with_reducible rfl
  rotate_left
  · simp only [Act.put, List.setIfInBounds_toArray, List.set_cons_zero, List.set_cons_succ, i64_w, i32_w]
    rfl
  refine take_ (i := 3) (N := some 13) (v := ?_) (a' := ?_) #[true, true, true, true, true, true, true, false, false, false, false, false] rfl rfl (by kernel_rfl) (fun _ _ _ h => h) (Or.inl ⟨by rfl, ?_⟩) hHeld ?_ ?_
  rotate_left
  · rintro w' ⟨s0, s1⟩
    go_simp
    with_reducible rfl
  rotate_left
  · simp only [Act.put, List.setIfInBounds_toArray, List.set_cons_zero, List.set_cons_succ, i64_w, i32_w]
    rfl
  refine pure_ (i := 8) (N := some 18) (v := ?_) (a' := ?_) #[true, true, true, true, true, true, true, false, true, false, false, false] rfl rfl (by kernel_rfl) (fun _ _ _ h => h) (Or.inl ⟨by rfl, ?_⟩) ?_ ?_
  rotate_left
  · intro w'
    go_simp
    with_reducible rfl
  rotate_left
  · simp only [Act.put, List.setIfInBounds_toArray, List.set_cons_zero, List.set_cons_succ, i64_w, i32_w]
    rfl
  refine take_ (i := 7) (N := some 17) (v := ?_) (a' := ?_) #[true, true, true, true, true, true, true, true, true, false, false, false] rfl rfl (by kernel_rfl) (fun _ _ _ h => h) (Or.inl ⟨by rfl, ?_⟩) hHeld ?_ ?_
  rotate_left
  · rintro w' ⟨s0, s1⟩
    go_simp
    with_reducible rfl
  rotate_left
  · simp only [Act.put, List.setIfInBounds_toArray, List.set_cons_zero, List.set_cons_succ, i64_w, i32_w]
    rfl
  refine one_ (i := 9) (N := none) #[true, true, true, true, true, true, true, true, true, true, false, false] rfl rfl (by kernel_rfl) (by decide) (fun K hK => ?_)
  refine skip_ (w1 := ?_) (by rfl) rfl ?_ ?_
  rotate_left
  · go_simp
    rfl
  refine hK.out _ _ ⟨(by go_keep), (by go_keep)⟩ (fun hHeld => ?_)
  clear hK K
  refine pure_ (i := 10) (N := some 19) (v := ?_) (a' := ?_) #[true, true, true, true, true, true, true, true, true, true, true, false] rfl rfl (by kernel_rfl) (fun _ _ _ h => h) (Or.inl ⟨by rfl, ?_⟩) ?_ ?_
  rotate_left
  · intro w'
    go_simp
    with_reducible rfl
  rotate_left
  · simp only [Act.put, List.setIfInBounds_toArray, List.set_cons_zero, List.set_cons_succ, i64_w, i32_w]
    rfl
  refine one_ (i := 11) (N := none) #[true, true, true, true, true, true, true, true, true, true, true, true] rfl rfl (by kernel_rfl) (by decide) (fun K hK => ?_)
  refine skip_ (w1 := ?_) (by rfl) rfl ?_ ?_
  rotate_left
  · go_simp
    rfl
  refine hK.out _ _ ⟨(by go_keep), (by go_keep)⟩ (fun hHeld => ?_)
  clear hK K
  refine done_ (by kernel_rfl) ?_
  go_wp2
  refine start_ (n := 16) (S := fun w' => w'.cell? ⟨g, 0, none⟩ = some (.int .i64 kind) ∧ w'.cell? ⟨g, 1, none⟩ = some (.int .i64 inst) ∧ w'.cell? ⟨g, 2, none⟩ = some (.int .i64 step) ∧ w'.cell? ⟨g, 3, none⟩ = some (.int .i64 state) ∧ w'.cell? ⟨g, 4, none⟩ = some (.int .i64 part) ∧ w'.cell? ⟨g, 5, none⟩ = some (.int .i64 cause) ∧ w'.cell? ⟨g, 6, none⟩ = some (.string key) ∧ w'.cell? ⟨g, 7, none⟩ = some (.string name) ∧ w'.cell? ⟨g, 8, none⟩ = some (.int .i64 version) ∧ w'.cell? ⟨g, 9, none⟩ = some (.string text) ∧ w'.cell? ⟨w1.heap.size, 0, none⟩ = some (.int .i64 kind) ∧ w'.cell? ⟨w1.heap.size, 1, none⟩ = some (.int .i64 inst) ∧ w'.cell? ⟨w1.heap.size, 2, none⟩ = some (.int .i64 x2) ∧ w'.cell? ⟨w1.heap.size, 3, none⟩ = some (.int .i64 x3) ∧ w'.cell? ⟨w1.heap.size, 4, none⟩ = some (.int .i64 x4) ∧ w'.cell? ⟨w1.heap.size, 5, none⟩ = some (.int .i64 x5) ∧ w'.cell? ⟨w1.heap.size, 6, none⟩ = some (.string x6) ∧ w'.cell? ⟨w1.heap.size, 7, none⟩ = some (.string x7) ∧ w'.cell? ⟨w1.heap.size, 8, none⟩ = some (.int .i64 x8) ∧ w'.cell? ⟨w1.heap.size, 9, none⟩ = some (.string x9)) (ds := []) #[false, false, false, false, false, false, false, false, false, false, false, false, false, false, false, false] (by kernel_rfl) rfl rfl ⟨(by go_keep), (by go_keep), (by go_keep), (by go_keep), (by go_keep), (by go_keep), (by go_keep), (by go_keep), (by go_keep), (by go_keep), (by go_keep), (by go_keep), (by go_keep), (by go_keep), (by go_keep), (by go_keep), (by go_keep), (by go_keep), (by go_keep), (by go_keep)⟩ (fun hHeld => ?_)
  refine pure_ (i := 0) (N := some 40) (v := ?_) (a' := ?_) #[true, false, false, false, false, false, false, false, false, false, false, false, false, false, false, false] rfl rfl (by kernel_rfl) (fun _ _ _ h => h) (Or.inl ⟨by rfl, ?_⟩) ?_ ?_
  rotate_left
  · intro w'
    go_simp
    with_reducible rfl
  rotate_left
  · simp only [Act.put, List.setIfInBounds_toArray, List.set_cons_zero, List.set_cons_succ, i64_w, i32_w]
    rfl
  refine pure_ (i := 1) (N := some 41) (v := ?_) (a' := ?_) #[true, true, false, false, false, false, false, false, false, false, false, false, false, false, false, false] rfl rfl (by kernel_rfl) (fun _ _ _ h => h) (Or.inl ⟨by rfl, ?_⟩) ?_ ?_
  rotate_left
  · intro w'
    go_simp
    with_reducible rfl
  rotate_left
  · simp only [Act.put, List.setIfInBounds_toArray, List.set_cons_zero, List.set_cons_succ, i64_w, i32_w]
    rfl
  refine pure_ (i := 2) (N := some 42) (v := undef) (a' := ?_) #[true, true, true, false, false, false, false, false, false, false, false, false, false, false, false, false] rfl rfl (by kernel_rfl) (fun _ _ _ h => h) (Or.inr ⟨by rfl, rfl⟩) ?_ ?_
  rotate_left
  · simp only [Act.put, List.setIfInBounds_toArray, List.set_cons_zero, List.set_cons_succ, i64_w, i32_w]
    rfl
  refine pure_ (i := 3) (N := some 43) (v := undef) (a' := ?_) #[true, true, true, true, false, false, false, false, false, false, false, false, false, false, false, false] rfl rfl (by kernel_rfl) (fun _ _ _ h => h) (Or.inr ⟨by rfl, rfl⟩) ?_ ?_
  rotate_left
  · simp only [Act.put, List.setIfInBounds_toArray, List.set_cons_zero, List.set_cons_succ, i64_w, i32_w]
    rfl
  refine pure_ (i := 4) (N := some 44) (v := undef) (a' := ?_) #[true, true, true, true, true, false, false, false, false, false, false, false, false, false, false, false] rfl rfl (by kernel_rfl) (fun _ _ _ h => h) (Or.inr ⟨by rfl, rfl⟩) ?_ ?_
  rotate_left
  · simp only [Act.put, List.setIfInBounds_toArray, List.set_cons_zero, List.set_cons_succ, i64_w, i32_w]
    rfl
  refine pure_ (i := 5) (N := some 45) (v := undef) (a' := ?_) #[true, true, true, true, true, true, false, false, false, false, false, false, false, false, false, false] rfl rfl (by kernel_rfl) (fun _ _ _ h => h) (Or.inr ⟨by rfl, rfl⟩) ?_ ?_
  rotate_left
  · simp only [Act.put, List.setIfInBounds_toArray, List.set_cons_zero, List.set_cons_succ, i64_w, i32_w]
    rfl
  refine pure_ (i := 6) (N := some 46) (v := undef) (a' := ?_) #[true, true, true, true, true, true, true, false, false, false, false, false, false, false, false, false] rfl rfl (by kernel_rfl) (fun _ _ _ h => h) (Or.inr ⟨by rfl, rfl⟩) ?_ ?_
  rotate_left
  · simp only [Act.put, List.setIfInBounds_toArray, List.set_cons_zero, List.set_cons_succ, i64_w, i32_w]
    rfl
  refine pure_ (i := 7) (N := some 47) (v := ?_) (a' := ?_) #[true, true, true, true, true, true, true, true, false, false, false, false, false, false, false, false] rfl rfl (by kernel_rfl) (fun _ _ _ h => h) (Or.inl ⟨by rfl, ?_⟩) ?_ ?_
  rotate_left
  · intro w'
    go_simp
    with_reducible rfl
  rotate_left
  · simp only [Act.put, List.setIfInBounds_toArray, List.set_cons_zero, List.set_cons_succ, i64_w, i32_w]
    rfl
  refine pure_ (i := 8) (N := some 48) (v := ?_) (a' := ?_) #[true, true, true, true, true, true, true, true, true, false, false, false, false, false, false, false] rfl rfl (by kernel_rfl) (fun _ _ _ h => h) (Or.inl ⟨by rfl, ?_⟩) ?_ ?_
  rotate_left
  · intro w'
    go_simp
    with_reducible rfl
  rotate_left
  · simp only [Act.put, List.setIfInBounds_toArray, List.set_cons_zero, List.set_cons_succ, i64_w, i32_w]
    rfl
  refine pure_ (i := 9) (N := some 49) (v := undef) (a' := ?_) #[true, true, true, true, true, true, true, true, true, true, false, false, false, false, false, false] rfl rfl (by kernel_rfl) (fun _ _ _ h => h) (Or.inr ⟨by rfl, rfl⟩) ?_ ?_
  rotate_left
  · simp only [Act.put, List.setIfInBounds_toArray, List.set_cons_zero, List.set_cons_succ, i64_w, i32_w]
    rfl
  refine pure_ (i := 10) (N := some 50) (v := undef) (a' := ?_) #[true, true, true, true, true, true, true, true, true, true, true, false, false, false, false, false] rfl rfl (by kernel_rfl) (fun _ _ _ h => h) (Or.inr ⟨by rfl, rfl⟩) ?_ ?_
  rotate_left
  · simp only [Act.put, List.setIfInBounds_toArray, List.set_cons_zero, List.set_cons_succ, i64_w, i32_w]
    rfl
  refine pure_ (i := 11) (N := some 51) (v := undef) (a' := ?_) #[true, true, true, true, true, true, true, true, true, true, true, true, false, false, false, false] rfl rfl (by kernel_rfl) (fun _ _ _ h => h) (Or.inr ⟨by rfl, rfl⟩) ?_ ?_
  rotate_left
  · simp only [Act.put, List.setIfInBounds_toArray, List.set_cons_zero, List.set_cons_succ, i64_w, i32_w]
    rfl
  refine pure_ (i := 12) (N := some 52) (v := undef) (a' := ?_) #[true, true, true, true, true, true, true, true, true, true, true, true, true, false, false, false] rfl rfl (by kernel_rfl) (fun _ _ _ h => h) (Or.inr ⟨by rfl, rfl⟩) ?_ ?_
  rotate_left
  · simp only [Act.put, List.setIfInBounds_toArray, List.set_cons_zero, List.set_cons_succ, i64_w, i32_w]
    rfl
  refine pure_ (i := 13) (N := some 53) (v := undef) (a' := ?_) #[true, true, true, true, true, true, true, true, true, true, true, true, true, true, false, false] rfl rfl (by kernel_rfl) (fun _ _ _ h => h) (Or.inr ⟨by rfl, rfl⟩) ?_ ?_
  rotate_left
  · simp only [Act.put, List.setIfInBounds_toArray, List.set_cons_zero, List.set_cons_succ, i64_w, i32_w]
    rfl
  refine pure_ (i := 14) (N := some 54) (v := ?_) (a' := ?_) #[true, true, true, true, true, true, true, true, true, true, true, true, true, true, true, false] rfl rfl (by kernel_rfl) (fun _ _ _ h => h) (Or.inl ⟨by rfl, ?_⟩) ?_ ?_
  rotate_left
  · intro w'
    go_simp
    with_reducible rfl
  rotate_left
  · simp only [Act.put, List.setIfInBounds_toArray, List.set_cons_zero, List.set_cons_succ, i64_w, i32_w]
    rfl
  refine pure_ (i := 15) (N := some 2) (v := ?_) (a' := ?_) #[true, true, true, true, true, true, true, true, true, true, true, true, true, true, true, true] rfl rfl (by kernel_rfl) (fun _ _ _ h => h) (Or.inl ⟨by rfl, ?_⟩) ?_ ?_
  rotate_left
  · intro w'
    go_simp
    with_reducible rfl
  rotate_left
  · simp only [Act.put, List.setIfInBounds_toArray, List.set_cons_zero, List.set_cons_succ, i64_w, i32_w]
    rfl
  refine done_ (by kernel_rfl) ?_
  go_wp2
  all_goals (go_ret; refine ⟨by simp [mayN, eqN, HX.out, HK.out], ?_⟩; (repeat (with_reducible (first | exact HBe.out.alloc HBe.out.size _ | apply Below.drew | apply pw_below_drewN))))

set_option linter.unusedSimpArgs false in
set_option linter.unusedVariables false in
set_option maxHeartbeats 4000000 in
set_option maxRecDepth 100000 in
theorem mayzb (w : World) (g : Nat) (kind inst step state part cause : Int) (key name : ByteArray) (version : Int) (text : ByteArray) (x0 x1 x2 x3 x4 x5 : Int) (x6 x7 : ByteArray) (x8 : Int) (x9 : ByteArray) (ok : Bool) (hg0 : w.heap[g]? = some (.cells (CdNote.cells ⟨kind, inst, step, state, part, cause, key, name, version, text⟩) 60 (0, 0)))
    (hs : key.size ≤ 9000000000000000000 ∧ name.size ≤ 9000000000000000000) (hx : ownN ⟨kind, inst, step, state, part, cause, key, name, version, text⟩ = (⟨x0, x1, x2, x3, x4, x5, x6, x7, x8, x9⟩, ok)) (hok : ok = true) (hk : (kind == 1) = false) (hi : btw inst 1 60 = false) :
    Calls Try.prog 106 #[.pointer (some ⟨g, 0, none⟩)] w fun e w' => e = .returned (.bool (mayN ⟨kind, inst, step, state, part, cause, key, name, version, text⟩)) ∧ Below w.heap.size w w' := by
  have hc0 : w.cell? ⟨g, 0, none⟩ = some (.int .i64 kind) := row_cell hg0 rfl
  have hc1 : w.cell? ⟨g, 1, none⟩ = some (.int .i64 inst) := row_cell hg0 rfl
  have hc2 : w.cell? ⟨g, 2, none⟩ = some (.int .i64 step) := row_cell hg0 rfl
  have hc3 : w.cell? ⟨g, 3, none⟩ = some (.int .i64 state) := row_cell hg0 rfl
  have hc4 : w.cell? ⟨g, 4, none⟩ = some (.int .i64 part) := row_cell hg0 rfl
  have hc5 : w.cell? ⟨g, 5, none⟩ = some (.int .i64 cause) := row_cell hg0 rfl
  have hc6 : w.cell? ⟨g, 6, none⟩ = some (.string key) := row_cell hg0 rfl
  have hc7 : w.cell? ⟨g, 7, none⟩ = some (.string name) := row_cell hg0 rfl
  have hc8 : w.cell? ⟨g, 8, none⟩ = some (.int .i64 version) := row_cell hg0 rfl
  have hc9 : w.cell? ⟨g, 9, none⟩ = some (.string text) := row_cell hg0 rfl
  have hlt0 : g < w.heap.size := (Array.getElem?_eq_some_iff.1 hg0).1
  have HG := Aside0.mk (And.intro hg0 hs)
  have HX := Aside0.mk hx
  clear hg0 hs hx

  have HK := Aside0.mk (beq_eq_false_iff_ne.1 hk)
  obtain rfl : ok = true := hok
  have HI := Aside0.mk hi
  clear hi
  go_enter Try.func106, Try.ntmps106
  go_wp2_with (first | (go_at_call 108; refine (own_b _ _ _ _ _ HG.out.1 HG.out.2 HX.out).mono ?_; rintro e w1 ⟨rfl, hb⟩; clear HG; have HBe := Aside0.mk hb; replace hc0 := cell_below' hb hc0; replace hc1 := cell_below' hb hc1; replace hc2 := cell_below' hb hc2; replace hc3 := cell_below' hb hc3; replace hc4 := cell_below' hb hc4; replace hc5 := cell_below' hb hc5; replace hc6 := cell_below' hb hc6; replace hc7 := cell_below' hb hc7; replace hc8 := cell_below' hb hc8; replace hc9 := cell_below' hb hc9; have hlt : g < w1.heap.size := Nat.lt_of_lt_of_le hlt0 hb.size; have hne : g ≠ w1.heap.size := Nat.ne_of_lt hlt; have hnew' : w1.heap.size ≠ g := Ne.symm hne; clear hb))
  refine start_ (n := 12) (S := fun w' => w'.cell? ⟨g, 0, none⟩ = some (.int .i64 kind) ∧ w'.cell? ⟨g, 1, none⟩ = some (.int .i64 inst)) (ds := []) #[false, false, false, false, false, false, false, false, false, false, false, false] (by kernel_rfl) rfl rfl ⟨(by go_keep), (by go_keep)⟩ (fun hHeld => ?_)
  refine pure_ (i := 0) (N := some 10) (v := ?_) (a' := ?_) #[true, false, false, false, false, false, false, false, false, false, false, false] rfl rfl (by kernel_rfl) (fun _ _ _ h => h) (Or.inl ⟨by rfl, ?_⟩) ?_ ?_
  rotate_left
  · intro w'
    go_simp
    with_reducible rfl
  rotate_left
  · simp only [Act.put, List.setIfInBounds_toArray, List.set_cons_zero, List.set_cons_succ, i64_w, i32_w]
    rfl
  refine pure_ (i := 1) (N := some 11) (v := ?_) (a' := ?_) #[true, true, false, false, false, false, false, false, false, false, false, false] rfl rfl (by kernel_rfl) (fun _ _ _ h => h) (Or.inl ⟨by rfl, ?_⟩) ?_ ?_
  rotate_left
  · intro w'
    go_simp
    with_reducible rfl
  rotate_left
  · simp only [Act.put, List.setIfInBounds_toArray, List.set_cons_zero, List.set_cons_succ, i64_w, i32_w]
    rfl
  refine pure_ (i := 2) (N := some 12) (v := ?_) (a' := ?_) #[true, true, true, false, false, false, false, false, false, false, false, false] rfl rfl (by kernel_rfl) (fun _ _ _ h => h) (Or.inl ⟨by rfl, ?_⟩) ?_ ?_
  rotate_left
  · intro w'
    go_simp
    with_reducible rfl
  rotate_left
  · simp only [Act.put, List.setIfInBounds_toArray, List.set_cons_zero, List.set_cons_succ, i64_w, i32_w]
    rfl
  refine pure_ (i := 4) (N := some 14) (v := ?_) (a' := ?_) #[true, true, true, false, true, false, false, false, false, false, false, false] rfl rfl (by kernel_rfl) (fun _ _ _ h => h) (Or.inl ⟨by rfl, ?_⟩) ?_ ?_
  rotate_left
  · intro w'
    go_simp
    with_reducible rfl
  rotate_left
  · simp only [Act.put, List.setIfInBounds_toArray, List.set_cons_zero, List.set_cons_succ, i64_w, i32_w]
    rfl
  refine pure_ (i := 5) (N := some 15) (v := ?_) (a' := ?_) #[true, true, true, false, true, true, false, false, false, false, false, false] rfl rfl (by kernel_rfl) (fun _ _ _ h => h) (Or.inl ⟨by rfl, ?_⟩) ?_ ?_
  rotate_left
  · intro w'
    go_simp
    with_reducible rfl
  rotate_left
  · simp only [Act.put, List.setIfInBounds_toArray, List.set_cons_zero, List.set_cons_succ, i64_w, i32_w]
    rfl
  refine pure_ (i := 6) (N := some 16) (v := ?_) (a' := ?_) #[true, true, true, false, true, true, true, false, false, false, false, false] rfl rfl (by kernel_rfl) (fun _ _ _ h => h) (Or.inl ⟨by rfl, ?_⟩) ?_ ?_
  rotate_left
  · intro w'
    go_simp
    with_reducible rfl
  rotate_left
  · simp only [Act.put, List.setIfInBounds_toArray, List.set_cons_zero, List.set_cons_succ, i64_w, i32_w]
    rfl
  refine take_ (i := 3) (N := some 13) (v := ?_) (a' := ?_) #[true, true, true, true, true, true, true, false, false, false, false, false] rfl rfl (by kernel_rfl) (fun _ _ _ h => h) (Or.inl ⟨by rfl, ?_⟩) hHeld ?_ ?_
  rotate_left
  · rintro w' ⟨s0, s1⟩
    go_simp
    with_reducible rfl
  rotate_left
  · simp only [Act.put, List.setIfInBounds_toArray, List.set_cons_zero, List.set_cons_succ, i64_w, i32_w]
    rfl
  refine pure_ (i := 8) (N := some 18) (v := ?_) (a' := ?_) #[true, true, true, true, true, true, true, false, true, false, false, false] rfl rfl (by kernel_rfl) (fun _ _ _ h => h) (Or.inl ⟨by rfl, ?_⟩) ?_ ?_
  rotate_left
  · intro w'
    go_simp
    with_reducible rfl
  rotate_left
  · simp only [Act.put, List.setIfInBounds_toArray, List.set_cons_zero, List.set_cons_succ, i64_w, i32_w]
    rfl
  refine take_ (i := 7) (N := some 17) (v := ?_) (a' := ?_) #[true, true, true, true, true, true, true, true, true, false, false, false] rfl rfl (by kernel_rfl) (fun _ _ _ h => h) (Or.inl ⟨by rfl, ?_⟩) hHeld ?_ ?_
  rotate_left
  · rintro w' ⟨s0, s1⟩
    go_simp
    with_reducible rfl
  rotate_left
  · simp only [Act.put, List.setIfInBounds_toArray, List.set_cons_zero, List.set_cons_succ, i64_w, i32_w]
    rfl
  refine one_ (i := 9) (N := none) #[true, true, true, true, true, true, true, true, true, true, false, false] rfl rfl (by kernel_rfl) (by decide) (fun K hK => ?_)
  refine skip_ (w1 := ?_) (by rfl) rfl ?_ ?_
  rotate_left
  · go_simp
    rfl
  refine hK.out _ _ ⟨(by go_keep), (by go_keep)⟩ (fun hHeld => ?_)
  clear hK K
  refine pure_ (i := 10) (N := some 19) (v := ?_) (a' := ?_) #[true, true, true, true, true, true, true, true, true, true, true, false] rfl rfl (by kernel_rfl) (fun _ _ _ h => h) (Or.inl ⟨by rfl, ?_⟩) ?_ ?_
  rotate_left
  · intro w'
    go_simp
    with_reducible rfl
  rotate_left
  · simp only [Act.put, List.setIfInBounds_toArray, List.set_cons_zero, List.set_cons_succ, i64_w, i32_w]
    rfl
  refine one_ (i := 11) (N := none) #[true, true, true, true, true, true, true, true, true, true, true, true] rfl rfl (by kernel_rfl) (by decide) (fun K hK => ?_)
  refine skip_ (w1 := ?_) (by rfl) rfl ?_ ?_
  rotate_left
  · go_simp
    rfl
  refine hK.out _ _ ⟨(by go_keep), (by go_keep)⟩ (fun hHeld => ?_)
  clear hK K
  refine done_ (by kernel_rfl) ?_
  go_wp2
  refine start_ (n := 16) (S := fun w' => w'.cell? ⟨g, 0, none⟩ = some (.int .i64 kind) ∧ w'.cell? ⟨g, 1, none⟩ = some (.int .i64 inst) ∧ w'.cell? ⟨g, 2, none⟩ = some (.int .i64 step) ∧ w'.cell? ⟨g, 3, none⟩ = some (.int .i64 state) ∧ w'.cell? ⟨g, 4, none⟩ = some (.int .i64 part) ∧ w'.cell? ⟨g, 5, none⟩ = some (.int .i64 cause) ∧ w'.cell? ⟨g, 6, none⟩ = some (.string key) ∧ w'.cell? ⟨g, 7, none⟩ = some (.string name) ∧ w'.cell? ⟨g, 8, none⟩ = some (.int .i64 version) ∧ w'.cell? ⟨g, 9, none⟩ = some (.string text) ∧ w'.cell? ⟨w1.heap.size, 0, none⟩ = some (.int .i64 kind) ∧ w'.cell? ⟨w1.heap.size, 1, none⟩ = some (.int .i64 inst) ∧ w'.cell? ⟨w1.heap.size, 2, none⟩ = some (.int .i64 x2) ∧ w'.cell? ⟨w1.heap.size, 3, none⟩ = some (.int .i64 x3) ∧ w'.cell? ⟨w1.heap.size, 4, none⟩ = some (.int .i64 x4) ∧ w'.cell? ⟨w1.heap.size, 5, none⟩ = some (.int .i64 x5) ∧ w'.cell? ⟨w1.heap.size, 6, none⟩ = some (.string x6) ∧ w'.cell? ⟨w1.heap.size, 7, none⟩ = some (.string x7) ∧ w'.cell? ⟨w1.heap.size, 8, none⟩ = some (.int .i64 x8) ∧ w'.cell? ⟨w1.heap.size, 9, none⟩ = some (.string x9)) (ds := []) #[false, false, false, false, false, false, false, false, false, false, false, false, false, false, false, false] (by kernel_rfl) rfl rfl ⟨(by go_keep), (by go_keep), (by go_keep), (by go_keep), (by go_keep), (by go_keep), (by go_keep), (by go_keep), (by go_keep), (by go_keep), (by go_keep), (by go_keep), (by go_keep), (by go_keep), (by go_keep), (by go_keep), (by go_keep), (by go_keep), (by go_keep), (by go_keep)⟩ (fun hHeld => ?_)
  refine pure_ (i := 0) (N := some 40) (v := ?_) (a' := ?_) #[true, false, false, false, false, false, false, false, false, false, false, false, false, false, false, false] rfl rfl (by kernel_rfl) (fun _ _ _ h => h) (Or.inl ⟨by rfl, ?_⟩) ?_ ?_
  rotate_left
  · intro w'
    go_simp
    with_reducible rfl
  rotate_left
  · simp only [Act.put, List.setIfInBounds_toArray, List.set_cons_zero, List.set_cons_succ, i64_w, i32_w]
    rfl
  refine pure_ (i := 1) (N := some 41) (v := ?_) (a' := ?_) #[true, true, false, false, false, false, false, false, false, false, false, false, false, false, false, false] rfl rfl (by kernel_rfl) (fun _ _ _ h => h) (Or.inl ⟨by rfl, ?_⟩) ?_ ?_
  rotate_left
  · intro w'
    go_simp
    with_reducible rfl
  rotate_left
  · simp only [Act.put, List.setIfInBounds_toArray, List.set_cons_zero, List.set_cons_succ, i64_w, i32_w]
    rfl
  refine pure_ (i := 2) (N := some 42) (v := ?_) (a' := ?_) #[true, true, true, false, false, false, false, false, false, false, false, false, false, false, false, false] rfl rfl (by kernel_rfl) (fun _ _ _ h => h) (Or.inl ⟨by rfl, ?_⟩) ?_ ?_
  rotate_left
  · intro w'
    go_simp
    with_reducible rfl
  rotate_left
  · simp only [Act.put, List.setIfInBounds_toArray, List.set_cons_zero, List.set_cons_succ, i64_w, i32_w]
    rfl
  refine pure_ (i := 3) (N := some 43) (v := ?_) (a' := ?_) #[true, true, true, true, false, false, false, false, false, false, false, false, false, false, false, false] rfl rfl (by kernel_rfl) (fun _ _ _ h => h) (Or.inl ⟨by rfl, ?_⟩) ?_ ?_
  rotate_left
  · intro w'
    go_simp
    with_reducible rfl
  rotate_left
  · simp only [Act.put, List.setIfInBounds_toArray, List.set_cons_zero, List.set_cons_succ, i64_w, i32_w]
    rfl
  refine pure_ (i := 4) (N := some 44) (v := ?_) (a' := ?_) #[true, true, true, true, true, false, false, false, false, false, false, false, false, false, false, false] rfl rfl (by kernel_rfl) (fun _ _ _ h => h) (Or.inl ⟨by rfl, ?_⟩) ?_ ?_
  rotate_left
  · intro w'
    go_simp
    with_reducible rfl
  rotate_left
  · simp only [Act.put, List.setIfInBounds_toArray, List.set_cons_zero, List.set_cons_succ, i64_w, i32_w]
    rfl
  refine take_ (i := 5) (N := some 45) (v := ?_) (a' := ?_) #[true, true, true, true, true, true, false, false, false, false, false, false, false, false, false, false] rfl rfl (by kernel_rfl) (fun _ _ _ h => h) (Or.inl ⟨by rfl, ?_⟩) hHeld ?_ ?_
  rotate_left
  · rintro w' ⟨s0, s1, s2, s3, s4, s5, s6, s7, s8, s9, s10, s11, s12, s13, s14, s15, s16, s17, s18, s19⟩
    go_simp
    with_reducible rfl
  rotate_left
  · simp only [Act.put, List.setIfInBounds_toArray, List.set_cons_zero, List.set_cons_succ, i64_w, i32_w]
    rfl
  refine one_ (i := 6) (N := some 46) #[true, true, true, true, true, true, true, false, false, false, false, false, false, false, false, false] rfl rfl (by kernel_rfl) (by decide) (fun K hK => ?_)
  refine goes_ Try.func80 (by kernel_rfl) rfl #[.int .i64 inst] (by rfl) rfl rfl (by simp only [List.map_toArray, List.map_cons, List.map_nil]; rfl) ?_
  with_reducible refine (id_b _ _ _ HI.out).mono ?_
  rintro e w3 ⟨nd, rfl, rfl⟩
  refine ⟨_, rfl, ?_⟩
  refine hK.out _ _ ⟨hHeld.1, hHeld.2.1, hHeld.2.2.1, hHeld.2.2.2.1, hHeld.2.2.2.2.1, hHeld.2.2.2.2.2.1, hHeld.2.2.2.2.2.2.1, hHeld.2.2.2.2.2.2.2.1, hHeld.2.2.2.2.2.2.2.2.1, hHeld.2.2.2.2.2.2.2.2.2.1, hHeld.2.2.2.2.2.2.2.2.2.2.1, hHeld.2.2.2.2.2.2.2.2.2.2.2.1, hHeld.2.2.2.2.2.2.2.2.2.2.2.2.1, hHeld.2.2.2.2.2.2.2.2.2.2.2.2.2.1, hHeld.2.2.2.2.2.2.2.2.2.2.2.2.2.2.1, hHeld.2.2.2.2.2.2.2.2.2.2.2.2.2.2.2.1, hHeld.2.2.2.2.2.2.2.2.2.2.2.2.2.2.2.2.1, hHeld.2.2.2.2.2.2.2.2.2.2.2.2.2.2.2.2.2.1, hHeld.2.2.2.2.2.2.2.2.2.2.2.2.2.2.2.2.2.2.1, hHeld.2.2.2.2.2.2.2.2.2.2.2.2.2.2.2.2.2.2.2⟩ (fun hHeld => ?_)
  clear hK K
  refine norm_ (a' := ?_) ?_ ?_
  rotate_left
  · show Act.put _ (some 46) _ = _
    simp only [Act.put, List.setIfInBounds_toArray, List.set_cons_zero, List.set_cons_succ, i64_w, i32_w]
    rfl
  refine pure_ (i := 7) (N := some 47) (v := ?_) (a' := ?_) #[true, true, true, true, true, true, true, true, false, false, false, false, false, false, false, false] rfl rfl (by kernel_rfl) (fun _ _ _ h => h) (Or.inl ⟨by rfl, ?_⟩) ?_ ?_
  rotate_left
  · intro w'
    go_simp
    with_reducible rfl
  rotate_left
  · simp only [Act.put, List.setIfInBounds_toArray, List.set_cons_zero, List.set_cons_succ, i64_w, i32_w]
    rfl
  refine pure_ (i := 8) (N := some 48) (v := ?_) (a' := ?_) #[true, true, true, true, true, true, true, true, true, false, false, false, false, false, false, false] rfl rfl (by kernel_rfl) (fun _ _ _ h => h) (Or.inl ⟨by rfl, ?_⟩) ?_ ?_
  rotate_left
  · intro w'
    go_simp
    with_reducible rfl
  rotate_left
  · simp only [Act.put, List.setIfInBounds_toArray, List.set_cons_zero, List.set_cons_succ, i64_w, i32_w]
    rfl
  refine pure_ (i := 9) (N := some 49) (v := undef) (a' := ?_) #[true, true, true, true, true, true, true, true, true, true, false, false, false, false, false, false] rfl rfl (by kernel_rfl) (fun _ _ _ h => h) (Or.inr ⟨by rfl, rfl⟩) ?_ ?_
  rotate_left
  · simp only [Act.put, List.setIfInBounds_toArray, List.set_cons_zero, List.set_cons_succ, i64_w, i32_w]
    rfl
  refine pure_ (i := 10) (N := some 50) (v := undef) (a' := ?_) #[true, true, true, true, true, true, true, true, true, true, true, false, false, false, false, false] rfl rfl (by kernel_rfl) (fun _ _ _ h => h) (Or.inr ⟨by rfl, rfl⟩) ?_ ?_
  rotate_left
  · simp only [Act.put, List.setIfInBounds_toArray, List.set_cons_zero, List.set_cons_succ, i64_w, i32_w]
    rfl
  refine pure_ (i := 11) (N := some 51) (v := undef) (a' := ?_) #[true, true, true, true, true, true, true, true, true, true, true, true, false, false, false, false] rfl rfl (by kernel_rfl) (fun _ _ _ h => h) (Or.inr ⟨by rfl, rfl⟩) ?_ ?_
  rotate_left
  · simp only [Act.put, List.setIfInBounds_toArray, List.set_cons_zero, List.set_cons_succ, i64_w, i32_w]
    rfl
  refine pure_ (i := 12) (N := some 52) (v := undef) (a' := ?_) #[true, true, true, true, true, true, true, true, true, true, true, true, true, false, false, false] rfl rfl (by kernel_rfl) (fun _ _ _ h => h) (Or.inr ⟨by rfl, rfl⟩) ?_ ?_
  rotate_left
  · simp only [Act.put, List.setIfInBounds_toArray, List.set_cons_zero, List.set_cons_succ, i64_w, i32_w]
    rfl
  refine pure_ (i := 13) (N := some 53) (v := undef) (a' := ?_) #[true, true, true, true, true, true, true, true, true, true, true, true, true, true, false, false] rfl rfl (by kernel_rfl) (fun _ _ _ h => h) (Or.inr ⟨by rfl, rfl⟩) ?_ ?_
  rotate_left
  · simp only [Act.put, List.setIfInBounds_toArray, List.set_cons_zero, List.set_cons_succ, i64_w, i32_w]
    rfl
  refine pure_ (i := 14) (N := some 54) (v := ?_) (a' := ?_) #[true, true, true, true, true, true, true, true, true, true, true, true, true, true, true, false] rfl rfl (by kernel_rfl) (fun _ _ _ h => h) (Or.inl ⟨by rfl, ?_⟩) ?_ ?_
  rotate_left
  · intro w'
    go_simp
    with_reducible rfl
  rotate_left
  · simp only [Act.put, List.setIfInBounds_toArray, List.set_cons_zero, List.set_cons_succ, i64_w, i32_w]
    rfl
  refine pure_ (i := 15) (N := some 2) (v := ?_) (a' := ?_) #[true, true, true, true, true, true, true, true, true, true, true, true, true, true, true, true] rfl rfl (by kernel_rfl) (fun _ _ _ h => h) (Or.inl ⟨by rfl, ?_⟩) ?_ ?_
  rotate_left
  · intro w'
    go_simp
    with_reducible rfl
  rotate_left
  · simp only [Act.put, List.setIfInBounds_toArray, List.set_cons_zero, List.set_cons_succ, i64_w, i32_w]
    rfl
  refine done_ (by kernel_rfl) ?_
  go_wp2
  all_goals (go_ret; refine ⟨by simp [mayN, eqN, HX.out, HK.out, HI.out], ?_⟩; (repeat (with_reducible (first | exact HBe.out.alloc HBe.out.size _ | apply Below.drew | apply pw_below_drewN))))

set_option linter.unusedSimpArgs false in
set_option linter.unusedVariables false in
set_option maxHeartbeats 4000000 in
set_option maxRecDepth 100000 in
theorem mayzc (w : World) (g : Nat) (kind inst step state part cause : Int) (key name : ByteArray) (version : Int) (text : ByteArray) (x0 x1 x2 x3 x4 x5 : Int) (x6 x7 : ByteArray) (x8 : Int) (x9 : ByteArray) (ok : Bool) (hg0 : w.heap[g]? = some (.cells (CdNote.cells ⟨kind, inst, step, state, part, cause, key, name, version, text⟩) 60 (0, 0)))
    (hs : key.size ≤ 9000000000000000000 ∧ name.size ≤ 9000000000000000000) (hx : ownN ⟨kind, inst, step, state, part, cause, key, name, version, text⟩ = (⟨x0, x1, x2, x3, x4, x5, x6, x7, x8, x9⟩, ok)) (hok : ok = true) (hk : (kind == 1) = false) (hi : btw inst 1 60 = true) :
    Calls Try.prog 106 #[.pointer (some ⟨g, 0, none⟩)] w fun e w' => e = .returned (.bool (mayN ⟨kind, inst, step, state, part, cause, key, name, version, text⟩)) ∧ Below w.heap.size w w' := by
  have hc0 : w.cell? ⟨g, 0, none⟩ = some (.int .i64 kind) := row_cell hg0 rfl
  have hc1 : w.cell? ⟨g, 1, none⟩ = some (.int .i64 inst) := row_cell hg0 rfl
  have hc2 : w.cell? ⟨g, 2, none⟩ = some (.int .i64 step) := row_cell hg0 rfl
  have hc3 : w.cell? ⟨g, 3, none⟩ = some (.int .i64 state) := row_cell hg0 rfl
  have hc4 : w.cell? ⟨g, 4, none⟩ = some (.int .i64 part) := row_cell hg0 rfl
  have hc5 : w.cell? ⟨g, 5, none⟩ = some (.int .i64 cause) := row_cell hg0 rfl
  have hc6 : w.cell? ⟨g, 6, none⟩ = some (.string key) := row_cell hg0 rfl
  have hc7 : w.cell? ⟨g, 7, none⟩ = some (.string name) := row_cell hg0 rfl
  have hc8 : w.cell? ⟨g, 8, none⟩ = some (.int .i64 version) := row_cell hg0 rfl
  have hc9 : w.cell? ⟨g, 9, none⟩ = some (.string text) := row_cell hg0 rfl
  have hlt0 : g < w.heap.size := (Array.getElem?_eq_some_iff.1 hg0).1
  have HG := Aside0.mk (And.intro hg0 hs)
  have HX := Aside0.mk hx
  clear hg0 hs hx

  have HK := Aside0.mk (beq_eq_false_iff_ne.1 hk)
  obtain rfl : ok = true := hok
  have HI := Aside0.mk hi
  clear hi
  go_enter Try.func106, Try.ntmps106
  go_wp2_with (first | (go_at_call 108; refine (own_b _ _ _ _ _ HG.out.1 HG.out.2 HX.out).mono ?_; rintro e w1 ⟨rfl, hb⟩; clear HG; have HBe := Aside0.mk hb; replace hc0 := cell_below' hb hc0; replace hc1 := cell_below' hb hc1; replace hc2 := cell_below' hb hc2; replace hc3 := cell_below' hb hc3; replace hc4 := cell_below' hb hc4; replace hc5 := cell_below' hb hc5; replace hc6 := cell_below' hb hc6; replace hc7 := cell_below' hb hc7; replace hc8 := cell_below' hb hc8; replace hc9 := cell_below' hb hc9; have hlt : g < w1.heap.size := Nat.lt_of_lt_of_le hlt0 hb.size; have hne : g ≠ w1.heap.size := Nat.ne_of_lt hlt; have hnew' : w1.heap.size ≠ g := Ne.symm hne; clear hb))
  refine start_ (n := 12) (S := fun w' => w'.cell? ⟨g, 0, none⟩ = some (.int .i64 kind) ∧ w'.cell? ⟨g, 1, none⟩ = some (.int .i64 inst)) (ds := []) #[false, false, false, false, false, false, false, false, false, false, false, false] (by kernel_rfl) rfl rfl ⟨(by go_keep), (by go_keep)⟩ (fun hHeld => ?_)
  refine pure_ (i := 0) (N := some 10) (v := ?_) (a' := ?_) #[true, false, false, false, false, false, false, false, false, false, false, false] rfl rfl (by kernel_rfl) (fun _ _ _ h => h) (Or.inl ⟨by rfl, ?_⟩) ?_ ?_
  rotate_left
  · intro w'
    go_simp
    with_reducible rfl
  rotate_left
  · simp only [Act.put, List.setIfInBounds_toArray, List.set_cons_zero, List.set_cons_succ, i64_w, i32_w]
    rfl
  refine pure_ (i := 1) (N := some 11) (v := ?_) (a' := ?_) #[true, true, false, false, false, false, false, false, false, false, false, false] rfl rfl (by kernel_rfl) (fun _ _ _ h => h) (Or.inl ⟨by rfl, ?_⟩) ?_ ?_
  rotate_left
  · intro w'
    go_simp
    with_reducible rfl
  rotate_left
  · simp only [Act.put, List.setIfInBounds_toArray, List.set_cons_zero, List.set_cons_succ, i64_w, i32_w]
    rfl
  refine pure_ (i := 2) (N := some 12) (v := ?_) (a' := ?_) #[true, true, true, false, false, false, false, false, false, false, false, false] rfl rfl (by kernel_rfl) (fun _ _ _ h => h) (Or.inl ⟨by rfl, ?_⟩) ?_ ?_
  rotate_left
  · intro w'
    go_simp
    with_reducible rfl
  rotate_left
  · simp only [Act.put, List.setIfInBounds_toArray, List.set_cons_zero, List.set_cons_succ, i64_w, i32_w]
    rfl
  refine pure_ (i := 4) (N := some 14) (v := ?_) (a' := ?_) #[true, true, true, false, true, false, false, false, false, false, false, false] rfl rfl (by kernel_rfl) (fun _ _ _ h => h) (Or.inl ⟨by rfl, ?_⟩) ?_ ?_
  rotate_left
  · intro w'
    go_simp
    with_reducible rfl
  rotate_left
  · simp only [Act.put, List.setIfInBounds_toArray, List.set_cons_zero, List.set_cons_succ, i64_w, i32_w]
    rfl
  refine pure_ (i := 5) (N := some 15) (v := ?_) (a' := ?_) #[true, true, true, false, true, true, false, false, false, false, false, false] rfl rfl (by kernel_rfl) (fun _ _ _ h => h) (Or.inl ⟨by rfl, ?_⟩) ?_ ?_
  rotate_left
  · intro w'
    go_simp
    with_reducible rfl
  rotate_left
  · simp only [Act.put, List.setIfInBounds_toArray, List.set_cons_zero, List.set_cons_succ, i64_w, i32_w]
    rfl
  refine pure_ (i := 6) (N := some 16) (v := ?_) (a' := ?_) #[true, true, true, false, true, true, true, false, false, false, false, false] rfl rfl (by kernel_rfl) (fun _ _ _ h => h) (Or.inl ⟨by rfl, ?_⟩) ?_ ?_
  rotate_left
  · intro w'
    go_simp
    with_reducible rfl
  rotate_left
  · simp only [Act.put, List.setIfInBounds_toArray, List.set_cons_zero, List.set_cons_succ, i64_w, i32_w]
    rfl
  refine take_ (i := 3) (N := some 13) (v := ?_) (a' := ?_) #[true, true, true, true, true, true, true, false, false, false, false, false] rfl rfl (by kernel_rfl) (fun _ _ _ h => h) (Or.inl ⟨by rfl, ?_⟩) hHeld ?_ ?_
  rotate_left
  · rintro w' ⟨s0, s1⟩
    go_simp
    with_reducible rfl
  rotate_left
  · simp only [Act.put, List.setIfInBounds_toArray, List.set_cons_zero, List.set_cons_succ, i64_w, i32_w]
    rfl
  refine pure_ (i := 8) (N := some 18) (v := ?_) (a' := ?_) #[true, true, true, true, true, true, true, false, true, false, false, false] rfl rfl (by kernel_rfl) (fun _ _ _ h => h) (Or.inl ⟨by rfl, ?_⟩) ?_ ?_
  rotate_left
  · intro w'
    go_simp
    with_reducible rfl
  rotate_left
  · simp only [Act.put, List.setIfInBounds_toArray, List.set_cons_zero, List.set_cons_succ, i64_w, i32_w]
    rfl
  refine take_ (i := 7) (N := some 17) (v := ?_) (a' := ?_) #[true, true, true, true, true, true, true, true, true, false, false, false] rfl rfl (by kernel_rfl) (fun _ _ _ h => h) (Or.inl ⟨by rfl, ?_⟩) hHeld ?_ ?_
  rotate_left
  · rintro w' ⟨s0, s1⟩
    go_simp
    with_reducible rfl
  rotate_left
  · simp only [Act.put, List.setIfInBounds_toArray, List.set_cons_zero, List.set_cons_succ, i64_w, i32_w]
    rfl
  refine one_ (i := 9) (N := none) #[true, true, true, true, true, true, true, true, true, true, false, false] rfl rfl (by kernel_rfl) (by decide) (fun K hK => ?_)
  refine skip_ (w1 := ?_) (by rfl) rfl ?_ ?_
  rotate_left
  · go_simp
    rfl
  refine hK.out _ _ ⟨(by go_keep), (by go_keep)⟩ (fun hHeld => ?_)
  clear hK K
  refine pure_ (i := 10) (N := some 19) (v := ?_) (a' := ?_) #[true, true, true, true, true, true, true, true, true, true, true, false] rfl rfl (by kernel_rfl) (fun _ _ _ h => h) (Or.inl ⟨by rfl, ?_⟩) ?_ ?_
  rotate_left
  · intro w'
    go_simp
    with_reducible rfl
  rotate_left
  · simp only [Act.put, List.setIfInBounds_toArray, List.set_cons_zero, List.set_cons_succ, i64_w, i32_w]
    rfl
  refine one_ (i := 11) (N := none) #[true, true, true, true, true, true, true, true, true, true, true, true] rfl rfl (by kernel_rfl) (by decide) (fun K hK => ?_)
  refine skip_ (w1 := ?_) (by rfl) rfl ?_ ?_
  rotate_left
  · go_simp
    rfl
  refine hK.out _ _ ⟨(by go_keep), (by go_keep)⟩ (fun hHeld => ?_)
  clear hK K
  refine done_ (by kernel_rfl) ?_
  go_wp2
  refine start_ (n := 16) (S := fun w' => w'.cell? ⟨g, 0, none⟩ = some (.int .i64 kind) ∧ w'.cell? ⟨g, 1, none⟩ = some (.int .i64 inst) ∧ w'.cell? ⟨g, 2, none⟩ = some (.int .i64 step) ∧ w'.cell? ⟨g, 3, none⟩ = some (.int .i64 state) ∧ w'.cell? ⟨g, 4, none⟩ = some (.int .i64 part) ∧ w'.cell? ⟨g, 5, none⟩ = some (.int .i64 cause) ∧ w'.cell? ⟨g, 6, none⟩ = some (.string key) ∧ w'.cell? ⟨g, 7, none⟩ = some (.string name) ∧ w'.cell? ⟨g, 8, none⟩ = some (.int .i64 version) ∧ w'.cell? ⟨g, 9, none⟩ = some (.string text) ∧ w'.cell? ⟨w1.heap.size, 0, none⟩ = some (.int .i64 kind) ∧ w'.cell? ⟨w1.heap.size, 1, none⟩ = some (.int .i64 inst) ∧ w'.cell? ⟨w1.heap.size, 2, none⟩ = some (.int .i64 x2) ∧ w'.cell? ⟨w1.heap.size, 3, none⟩ = some (.int .i64 x3) ∧ w'.cell? ⟨w1.heap.size, 4, none⟩ = some (.int .i64 x4) ∧ w'.cell? ⟨w1.heap.size, 5, none⟩ = some (.int .i64 x5) ∧ w'.cell? ⟨w1.heap.size, 6, none⟩ = some (.string x6) ∧ w'.cell? ⟨w1.heap.size, 7, none⟩ = some (.string x7) ∧ w'.cell? ⟨w1.heap.size, 8, none⟩ = some (.int .i64 x8) ∧ w'.cell? ⟨w1.heap.size, 9, none⟩ = some (.string x9)) (ds := []) #[false, false, false, false, false, false, false, false, false, false, false, false, false, false, false, false] (by kernel_rfl) rfl rfl ⟨(by go_keep), (by go_keep), (by go_keep), (by go_keep), (by go_keep), (by go_keep), (by go_keep), (by go_keep), (by go_keep), (by go_keep), (by go_keep), (by go_keep), (by go_keep), (by go_keep), (by go_keep), (by go_keep), (by go_keep), (by go_keep), (by go_keep), (by go_keep)⟩ (fun hHeld => ?_)
  refine pure_ (i := 0) (N := some 40) (v := ?_) (a' := ?_) #[true, false, false, false, false, false, false, false, false, false, false, false, false, false, false, false] rfl rfl (by kernel_rfl) (fun _ _ _ h => h) (Or.inl ⟨by rfl, ?_⟩) ?_ ?_
  rotate_left
  · intro w'
    go_simp
    with_reducible rfl
  rotate_left
  · simp only [Act.put, List.setIfInBounds_toArray, List.set_cons_zero, List.set_cons_succ, i64_w, i32_w]
    rfl
  refine pure_ (i := 1) (N := some 41) (v := ?_) (a' := ?_) #[true, true, false, false, false, false, false, false, false, false, false, false, false, false, false, false] rfl rfl (by kernel_rfl) (fun _ _ _ h => h) (Or.inl ⟨by rfl, ?_⟩) ?_ ?_
  rotate_left
  · intro w'
    go_simp
    with_reducible rfl
  rotate_left
  · simp only [Act.put, List.setIfInBounds_toArray, List.set_cons_zero, List.set_cons_succ, i64_w, i32_w]
    rfl
  refine pure_ (i := 2) (N := some 42) (v := ?_) (a' := ?_) #[true, true, true, false, false, false, false, false, false, false, false, false, false, false, false, false] rfl rfl (by kernel_rfl) (fun _ _ _ h => h) (Or.inl ⟨by rfl, ?_⟩) ?_ ?_
  rotate_left
  · intro w'
    go_simp
    with_reducible rfl
  rotate_left
  · simp only [Act.put, List.setIfInBounds_toArray, List.set_cons_zero, List.set_cons_succ, i64_w, i32_w]
    rfl
  refine pure_ (i := 3) (N := some 43) (v := ?_) (a' := ?_) #[true, true, true, true, false, false, false, false, false, false, false, false, false, false, false, false] rfl rfl (by kernel_rfl) (fun _ _ _ h => h) (Or.inl ⟨by rfl, ?_⟩) ?_ ?_
  rotate_left
  · intro w'
    go_simp
    with_reducible rfl
  rotate_left
  · simp only [Act.put, List.setIfInBounds_toArray, List.set_cons_zero, List.set_cons_succ, i64_w, i32_w]
    rfl
  refine pure_ (i := 4) (N := some 44) (v := ?_) (a' := ?_) #[true, true, true, true, true, false, false, false, false, false, false, false, false, false, false, false] rfl rfl (by kernel_rfl) (fun _ _ _ h => h) (Or.inl ⟨by rfl, ?_⟩) ?_ ?_
  rotate_left
  · intro w'
    go_simp
    with_reducible rfl
  rotate_left
  · simp only [Act.put, List.setIfInBounds_toArray, List.set_cons_zero, List.set_cons_succ, i64_w, i32_w]
    rfl
  refine take_ (i := 5) (N := some 45) (v := ?_) (a' := ?_) #[true, true, true, true, true, true, false, false, false, false, false, false, false, false, false, false] rfl rfl (by kernel_rfl) (fun _ _ _ h => h) (Or.inl ⟨by rfl, ?_⟩) hHeld ?_ ?_
  rotate_left
  · rintro w' ⟨s0, s1, s2, s3, s4, s5, s6, s7, s8, s9, s10, s11, s12, s13, s14, s15, s16, s17, s18, s19⟩
    go_simp
    with_reducible rfl
  rotate_left
  · simp only [Act.put, List.setIfInBounds_toArray, List.set_cons_zero, List.set_cons_succ, i64_w, i32_w]
    rfl
  refine one_ (i := 6) (N := some 46) #[true, true, true, true, true, true, true, false, false, false, false, false, false, false, false, false] rfl rfl (by kernel_rfl) (by decide) (fun K hK => ?_)
  refine goes_ Try.func80 (by kernel_rfl) rfl #[.int .i64 inst] (by rfl) rfl rfl (by simp only [List.map_toArray, List.map_cons, List.map_nil]; rfl) ?_
  with_reducible refine (id_b _ _ _ HI.out).mono ?_
  rintro e w3 ⟨nd, rfl, rfl⟩
  refine ⟨_, rfl, ?_⟩
  refine hK.out _ _ ⟨hHeld.1, hHeld.2.1, hHeld.2.2.1, hHeld.2.2.2.1, hHeld.2.2.2.2.1, hHeld.2.2.2.2.2.1, hHeld.2.2.2.2.2.2.1, hHeld.2.2.2.2.2.2.2.1, hHeld.2.2.2.2.2.2.2.2.1, hHeld.2.2.2.2.2.2.2.2.2.1, hHeld.2.2.2.2.2.2.2.2.2.2.1, hHeld.2.2.2.2.2.2.2.2.2.2.2.1, hHeld.2.2.2.2.2.2.2.2.2.2.2.2.1, hHeld.2.2.2.2.2.2.2.2.2.2.2.2.2.1, hHeld.2.2.2.2.2.2.2.2.2.2.2.2.2.2.1, hHeld.2.2.2.2.2.2.2.2.2.2.2.2.2.2.2.1, hHeld.2.2.2.2.2.2.2.2.2.2.2.2.2.2.2.2.1, hHeld.2.2.2.2.2.2.2.2.2.2.2.2.2.2.2.2.2.1, hHeld.2.2.2.2.2.2.2.2.2.2.2.2.2.2.2.2.2.2.1, hHeld.2.2.2.2.2.2.2.2.2.2.2.2.2.2.2.2.2.2.2⟩ (fun hHeld => ?_)
  clear hK K
  refine norm_ (a' := ?_) ?_ ?_
  rotate_left
  · show Act.put _ (some 46) _ = _
    simp only [Act.put, List.setIfInBounds_toArray, List.set_cons_zero, List.set_cons_succ, i64_w, i32_w]
    rfl
  refine pure_ (i := 7) (N := some 47) (v := ?_) (a' := ?_) #[true, true, true, true, true, true, true, true, false, false, false, false, false, false, false, false] rfl rfl (by kernel_rfl) (fun _ _ _ h => h) (Or.inl ⟨by rfl, ?_⟩) ?_ ?_
  rotate_left
  · intro w'
    go_simp
    with_reducible rfl
  rotate_left
  · simp only [Act.put, List.setIfInBounds_toArray, List.set_cons_zero, List.set_cons_succ, i64_w, i32_w]
    rfl
  refine pure_ (i := 8) (N := some 48) (v := ?_) (a' := ?_) #[true, true, true, true, true, true, true, true, true, false, false, false, false, false, false, false] rfl rfl (by kernel_rfl) (fun _ _ _ h => h) (Or.inl ⟨by rfl, ?_⟩) ?_ ?_
  rotate_left
  · intro w'
    go_simp
    with_reducible rfl
  rotate_left
  · simp only [Act.put, List.setIfInBounds_toArray, List.set_cons_zero, List.set_cons_succ, i64_w, i32_w]
    rfl
  refine pure_ (i := 10) (N := some 50) (v := ?_) (a' := ?_) #[true, true, true, true, true, true, true, true, true, false, true, false, false, false, false, false] rfl rfl (by kernel_rfl) (fun _ _ _ h => h) (Or.inl ⟨by rfl, ?_⟩) ?_ ?_
  rotate_left
  · intro w'
    go_simp
    with_reducible rfl
  rotate_left
  · simp only [Act.put, List.setIfInBounds_toArray, List.set_cons_zero, List.set_cons_succ, i64_w, i32_w]
    rfl
  refine pure_ (i := 11) (N := some 51) (v := ?_) (a' := ?_) #[true, true, true, true, true, true, true, true, true, false, true, true, false, false, false, false] rfl rfl (by kernel_rfl) (fun _ _ _ h => h) (Or.inl ⟨by rfl, ?_⟩) ?_ ?_
  rotate_left
  · intro w'
    go_simp
    with_reducible rfl
  rotate_left
  · simp only [Act.put, List.setIfInBounds_toArray, List.set_cons_zero, List.set_cons_succ, i64_w, i32_w]
    rfl
  refine take_ (i := 9) (N := some 49) (v := ?_) (a' := ?_) #[true, true, true, true, true, true, true, true, true, true, true, true, false, false, false, false] rfl rfl (by kernel_rfl) (fun _ _ _ h => h) (Or.inl ⟨by rfl, ?_⟩) hHeld ?_ ?_
  rotate_left
  · rintro w' ⟨s0, s1, s2, s3, s4, s5, s6, s7, s8, s9, s10, s11, s12, s13, s14, s15, s16, s17, s18, s19⟩
    go_simp
    with_reducible rfl
  rotate_left
  · simp only [Act.put, List.setIfInBounds_toArray, List.set_cons_zero, List.set_cons_succ, i64_w, i32_w]
    rfl
  refine take_ (i := 12) (N := some 52) (v := ?_) (a' := ?_) #[true, true, true, true, true, true, true, true, true, true, true, true, true, false, false, false] rfl rfl (by kernel_rfl) (fun _ _ _ h => h) (Or.inl ⟨by rfl, ?_⟩) hHeld ?_ ?_
  rotate_left
  · rintro w' ⟨s0, s1, s2, s3, s4, s5, s6, s7, s8, s9, s10, s11, s12, s13, s14, s15, s16, s17, s18, s19⟩
    go_simp
    with_reducible rfl
  rotate_left
  · simp only [Act.put, List.setIfInBounds_toArray, List.set_cons_zero, List.set_cons_succ, i64_w, i32_w]
    rfl
  refine pure_ (i := 13) (N := some 53) (v := ?_) (a' := ?_) #[true, true, true, true, true, true, true, true, true, true, true, true, true, true, false, false] rfl rfl (by kernel_rfl) (fun _ _ _ h => h) (Or.inl ⟨by rfl, ?_⟩) ?_ ?_
  rotate_left
  · intro w'
    go_simp
    with_reducible rfl
  rotate_left
  · simp only [Act.put, List.setIfInBounds_toArray, List.set_cons_zero, List.set_cons_succ, i64_w, i32_w]
    rfl
  refine pure_ (i := 14) (N := some 54) (v := ?_) (a' := ?_) #[true, true, true, true, true, true, true, true, true, true, true, true, true, true, true, false] rfl rfl (by kernel_rfl) (fun _ _ _ h => h) (Or.inl ⟨by rfl, ?_⟩) ?_ ?_
  rotate_left
  · intro w'
    go_simp
    with_reducible rfl
  rotate_left
  · simp only [Act.put, List.setIfInBounds_toArray, List.set_cons_zero, List.set_cons_succ, i64_w, i32_w]
    rfl
  refine pure_ (i := 15) (N := some 2) (v := ?_) (a' := ?_) #[true, true, true, true, true, true, true, true, true, true, true, true, true, true, true, true] rfl rfl (by kernel_rfl) (fun _ _ _ h => h) (Or.inl ⟨by rfl, ?_⟩) ?_ ?_
  rotate_left
  · intro w'
    go_simp
    with_reducible rfl
  rotate_left
  · simp only [Act.put, List.setIfInBounds_toArray, List.set_cons_zero, List.set_cons_succ, i64_w, i32_w]
    rfl
  refine done_ (by kernel_rfl) ?_
  go_wp2
  all_goals (go_ret; refine ⟨by simp [mayN, eqN, HX.out, HK.out, HI.out], ?_⟩; (repeat (with_reducible (first | exact HBe.out.alloc HBe.out.size _ | apply Below.drew | apply pw_below_drewN))))

end Go.Proofs.Ytejaepohkcjoiaa.CdMay

/- codec: may of a note. -/
namespace Go.Proofs.Ytejaepohkcjoiaa.CdMay
open Go.RowKit

theorem note_may (w : World) (g : Nat) (d : CdNote.D) (hg0 : w.heap[g]? = some (.cells (CdNote.cells d) 60 (0, 0))) (hs : d.key.size ≤ 9000000000000000000 ∧ d.name.size ≤ 9000000000000000000) :
    Calls Try.prog 106 #[.pointer (some ⟨g, 0, none⟩)] w fun e w' => e = .returned (.bool (mayN d)) ∧ Below w.heap.size w w' := by
  obtain ⟨kind, inst, step, state, part, cause, key, name, version, text⟩ := d
  rcases hx : ownN ⟨kind, inst, step, state, part, cause, key, name, version, text⟩ with ⟨⟨x0, x1, x2, x3, x4, x5, x6, x7, x8, x9⟩, ok⟩
  by_cases hk : kind = 1
  · cases hok : ok
    · exact may1a w g _ _ _ _ _ _ _ _ _ _ _ _ _ _ _ _ _ _ _ _ ok hg0 hs hx hok hk
    · by_cases hi : inst = 0
      · exact may1c w g _ _ _ _ _ _ _ _ _ _ _ _ _ _ _ _ _ _ _ _ ok hg0 hs hx hok hk hi
      · exact may1b w g _ _ _ _ _ _ _ _ _ _ _ _ _ _ _ _ _ _ _ _ ok hg0 hs hx hok hk (beq_eq_false_iff_ne.2 hi)
  · cases hok : ok
    · exact mayza w g _ _ _ _ _ _ _ _ _ _ _ _ _ _ _ _ _ _ _ _ ok hg0 hs hx hok (beq_eq_false_iff_ne.2 hk)
    · cases hi : btw inst 1 60
      · exact mayzb w g _ _ _ _ _ _ _ _ _ _ _ _ _ _ _ _ _ _ _ _ ok hg0 hs hx hok (beq_eq_false_iff_ne.2 hk) hi
      · exact mayzc w g _ _ _ _ _ _ _ _ _ _ _ _ _ _ _ _ _ _ _ _ ok hg0 hs hx hok (beq_eq_false_iff_ne.2 hk) hi
end Go.Proofs.Ytejaepohkcjoiaa.CdMay

/- codec: written, of each kind of item: the walks (written by wip/gen/mkwr.py). -/
namespace Go.Proofs.Ytejaepohkcjoiaa.CdMay
open Go.RowKit Go.IntWalk Go.Proofs.Ytejaepohkcjoiaa.B Go.Proofs.YtejaepohkcjoiaaW.PrintWords Go.Proofs.YtejaepohkcjoiaaW.PrintLast Go.Proofs.YtejaepohkcjoiaaW.PrintMore Go.Proofs.Ytejaepohkcjoiaa.CdForm Go.Proofs.Ytejaepohkcjoiaa.Tabs

theorem form_new (w : World) (s : ByteArray) (b : Bool) (a : Int) : FormAt (w.alloc (.cells #[.bool b, .string s, .int .i64 a] 71)) w.heap.size b s a := by
  show (w.heap.push _)[w.heap.size]? = _
  simp
def wres (b : Bool) (s0 : ByteArray) (L : List UInt8) : Value := if b then .tuple #[.string ⟨(s0.data.toList ++ L).toArray⟩, .int .i64 0] else .tuple #[.string ⟨#[]⟩, .int .i64 1]
theorem of_list {t : ByteArray} {L : List UInt8} (h : t.data.toList = L) : t = ⟨L.toArray⟩ := by
  subst h
  rfl
variable [Tab]

set_option linter.unusedSimpArgs false in
set_option linter.unusedVariables false in
set_option linter.unusedSectionVars false in
set_option maxHeartbeats 4000000 in
set_option maxRecDepth 100000 in
theorem written_letter (w : World) (g : Nat) (A : Option Addr) (c : Nat) (d : CdLetter.D) (s0 : ByteArray) (h0 : s0.size ≤ 10000000) (hg0 : w.heap[g]? = some (.cells (CdLetter.cells d (.slice A d.keys.length c)) 51 (0, 0))) (hr : Kd.C Kd.string w A d.keys.length d.keys) (hc : d.keys.length ≤ c) (hs : ∀ t ∈ d.keys, t.size ≤ 9000000000000000000) (hT : Tab.At w) (hf : mayL d = true → CdLetter.Fits d) :
    Calls Try.prog 25 #[.iface 53 (.pointer (some ⟨g, 0, none⟩)), .string s0] w fun e w' => e = .returned (wres (mayL d) s0 (CdLetter.form d)) ∧ Below w.heap.size w w' := by
  have HG := Aside0.mk hg0
  have HS := Aside0.mk (And.intro hr (And.intro hc (And.intro hs hT)))
  have HF := Aside0.mk hf
  clear hg0 hf hr hc hs hT
  cases hm : mayL d
  all_goals
    have HM := Aside0.mk hm
    clear hm
    go_enter Try.func25, Try.ntmps25
    have HB0 := Aside0.mk (Below.refl w.heap.size w)
    go_wp2_with (go_at_call 76; refine (letter_may w g A c d HG.out HS.out.1 HS.out.2.2.1 HS.out.2.2.2).mono ?_; rintro e w1 ⟨rfl, hb⟩; rw [HM.out]; replace HB0 := Aside0.mk hb; clear hb)
  · go_returns
    exact ⟨rfl, HB0.out⟩
  · refine (CdLetter.fields_write w _ g _ s0.data.toList A c d (HF.out HM.out) HG.out HS.out.1 HS.out.2.1 ⟨s0, form_new _ s0 true 0, rfl, by omega, HB0.out.size, HB0.out.alloc HB0.out.size _⟩).mono ?_
    rintro e w2 ⟨rfl, hw⟩
    obtain ⟨t, ht1, ht2, ht3, ht4, ht5⟩ := hw
    have h1 := ht1.cell1
    have HW := Aside0.mk (And.intro (of_list ht2) ht5)
    clear ht1 ht2 ht3 ht4 ht5
    go_wp2
    go_returns
    exact ⟨by rw [HW.out.1]; rfl, HW.out.2⟩

set_option linter.unusedSimpArgs false in
set_option linter.unusedVariables false in
set_option linter.unusedSectionVars false in
set_option maxHeartbeats 4000000 in
set_option maxRecDepth 100000 in
theorem written_event (w : World) (g : Nat) (A : Option Addr) (c : Nat) (d : CdEvent.D) (s0 : ByteArray) (h0 : s0.size ≤ 10000000) (hg0 : w.heap[g]? = some (.cells (CdEvent.cells d (.slice A d.keys.length c)) 58 (0, 0))) (hr : Kd.C Kd.string w A d.keys.length d.keys) (hc : d.keys.length ≤ c) (hs : ∀ t ∈ d.keys, t.size ≤ 9000000000000000000) (hT : Tab.At w) (hf : mayE d = true → CdEvent.Fits d) :
    Calls Try.prog 25 #[.iface 59 (.pointer (some ⟨g, 0, none⟩)), .string s0] w fun e w' => e = .returned (wres (mayE d) s0 (CdEvent.form d)) ∧ Below w.heap.size w w' := by
  have HG := Aside0.mk hg0
  have HS := Aside0.mk (And.intro hr (And.intro hc (And.intro hs hT)))
  have HF := Aside0.mk hf
  clear hg0 hf hr hc hs hT
  cases hm : mayE d
  all_goals
    have HM := Aside0.mk hm
    clear hm
    go_enter Try.func25, Try.ntmps25
    have HB0 := Aside0.mk (Below.refl w.heap.size w)
    go_wp2_with (go_at_call 104; refine (event_may w g A c d HG.out HS.out.1 HS.out.2.2.1 HS.out.2.2.2).mono ?_; rintro e w1 ⟨rfl, hb⟩; rw [HM.out]; replace HB0 := Aside0.mk hb; clear hb)
  · go_returns
    exact ⟨rfl, HB0.out⟩
  · refine (CdEvent.fields_write w _ g _ s0.data.toList A c d (HF.out HM.out) HG.out HS.out.1 HS.out.2.1 ⟨s0, form_new _ s0 true 0, rfl, by omega, HB0.out.size, HB0.out.alloc HB0.out.size _⟩).mono ?_
    rintro e w2 ⟨rfl, hw⟩
    obtain ⟨t, ht1, ht2, ht3, ht4, ht5⟩ := hw
    have h1 := ht1.cell1
    have HW := Aside0.mk (And.intro (of_list ht2) ht5)
    clear ht1 ht2 ht3 ht4 ht5
    go_wp2
    go_returns
    exact ⟨by rw [HW.out.1]; rfl, HW.out.2⟩

set_option linter.unusedSimpArgs false in
set_option linter.unusedVariables false in
set_option linter.unusedSectionVars false in
set_option maxHeartbeats 4000000 in
set_option maxRecDepth 100000 in
theorem written_note (w : World) (g : Nat) (d : CdNote.D) (s0 : ByteArray) (h0 : s0.size ≤ 10000000) (hg0 : w.heap[g]? = some (.cells (CdNote.cells d) 60 (0, 0))) (hs : d.key.size ≤ 9000000000000000000 ∧ d.name.size ≤ 9000000000000000000) (hf : mayN d = true → CdNote.Fits d) :
    Calls Try.prog 25 #[.iface 61 (.pointer (some ⟨g, 0, none⟩)), .string s0] w fun e w' => e = .returned (wres (mayN d) s0 (CdNote.form d)) ∧ Below w.heap.size w w' := by
  have HG := Aside0.mk hg0
  have HS := Aside0.mk hs
  have HF := Aside0.mk hf
  clear hg0 hf hs
  cases hm : mayN d
  all_goals
    have HM := Aside0.mk hm
    clear hm
    go_enter Try.func25, Try.ntmps25
    have HB0 := Aside0.mk (Below.refl w.heap.size w)
    go_wp2_with (go_at_call 106; refine (note_may w g d HG.out HS.out).mono ?_; rintro e w1 ⟨rfl, hb⟩; rw [HM.out]; replace HB0 := Aside0.mk hb; clear hb)
  · go_returns
    exact ⟨rfl, HB0.out⟩
  · refine (CdNote.fields_write w _ g _ s0.data.toList d (HF.out HM.out) HG.out ⟨s0, form_new _ s0 true 0, rfl, by omega, HB0.out.size, HB0.out.alloc HB0.out.size _⟩).mono ?_
    rintro e w2 ⟨rfl, hw⟩
    obtain ⟨t, ht1, ht2, ht3, ht4, ht5⟩ := hw
    have h1 := ht1.cell1
    have HW := Aside0.mk (And.intro (of_list ht2) ht5)
    clear ht1 ht2 ht3 ht4 ht5
    go_wp2
    go_returns
    exact ⟨by rw [HW.out.1]; rfl, HW.out.2⟩
end Go.Proofs.Ytejaepohkcjoiaa.CdMay

/- codec: read: the deferred closure's two contracts; the walk. -/
namespace Go.Proofs.Ytejaepohkcjoiaa.CdMay
open Go.RowKit Go.IntWalk Go.Proofs.Ytejaepohkcjoiaa.B Go.Proofs.YtejaepohkcjoiaaW.PrintWords Go.Proofs.YtejaepohkcjoiaaW.PrintLast Go.Proofs.YtejaepohkcjoiaaW.PrintMore Go.Proofs.Ytejaepohkcjoiaa.CdForm Go.Proofs.Ytejaepohkcjoiaa.Tabs

theorem catch_idle (p : Addr) (w : World) :
    CallsD Try.prog 44 #[.pointer (some p)] .returning w fun e u' w' => e = .returned (.tuple #[]) ∧ u' = .returning ∧ w' = w := by
  refine callsD_of_wpS Try.func44 rfl fun c₀ cs hu => ?_
  apply wpS_seq
  apply wpS_region
  simp [wpOpsS, go_sem, recoverD, hu, Try.ntmps44, Exit.thenS]
  refine wpS_of_wp ?_
  go_wp2
  cases c₀
  simp_all [bodyPostS, results, Try.results44]

set_option maxHeartbeats 2000000 in
set_option maxRecDepth 100000 in
theorem catch_broken (p : Addr) (x : Value) (older : List PanicEntry) (w : World) (hc : w.cell? p = some x) (hz : w.frozen? p = false) :
    CallsD Try.prog 44 #[.pointer (some p)] (.panicking ({ v := .iface 79 (.agg #[]), recovered := false } :: older)) w fun e u' w' =>
      e = .returned (.tuple #[]) ∧ u' = .panicking ({ v := .iface 79 (.agg #[]), recovered := true } :: older) ∧ w' = (w.alloc (.cells #[] 79)).setCell p .nilIface := by
  have hbl : Below w.heap.size w (w.alloc (.cells #[] 79)) := (Below.refl _ _).alloc (Nat.le_refl _) _
  have hc' := (hbl.cell (World.block_lt_of_cell? w _ hc)).trans hc
  have hz' := (hbl.frozen (World.block_lt_of_cell? w _ hc)).trans hz
  clear hbl
  have hta : ∀ w : World, (Instr.typeAssert (.iface 79 (.agg #[])) 20 79 true).run Try.prog w = .ok (.tuple #[.agg #[], .bool true]) w := fun _ => by kernel_rfl
  refine callsD_of_wpS Try.func44 rfl fun c₀ cs hu => ?_
  apply wpS_seq
  apply wpS_region
  simp [wpOpsS, go_sem, recoverD, hu, Try.ntmps44, Exit.thenS]
  refine wpS_of_wp ?_
  go_wp2
  simp [bodyPostS, results, Try.results44]
end Go.Proofs.Ytejaepohkcjoiaa.CdMay

/- codec: read, path by path. -/
namespace Go.Proofs.Ytejaepohkcjoiaa.CdMay
open Go.RowKit Go.IntWalk Go.Proofs.Ytejaepohkcjoiaa.B Go.Proofs.YtejaepohkcjoiaaW.PrintWords Go.Proofs.YtejaepohkcjoiaaW.PrintLast Go.Proofs.YtejaepohkcjoiaaW.PrintMore Go.Proofs.Ytejaepohkcjoiaa.CdForm Go.Proofs.Ytejaepohkcjoiaa.Tabs
open Go.Proofs.Ytejaepohkcjoiaa.Nm (byte byte_at)

theorem below_two (w : World) (a b : Obj) : Below w.heap.size w ((w.alloc a).alloc b) :=
  ((Below.refl _ _).alloc (Nat.le_refl _) a).alloc ((Below.refl w.heap.size w).alloc (Nat.le_refl _) a).size b

set_option maxHeartbeats 2000000 in
set_option maxRecDepth 100000 in
theorem read_empty (w : World) : Calls Try.prog 33 #[.string ⟨#[]⟩] w fun e w' => e = .returned .nilIface ∧ Below w.heap.size w w' := by
  have hmf : ∀ (fn : Fn) (first cap : Array Value) (w : World), (Instr.makeFunc fn first cap).run Try.prog w = .ok (.func fn first cap) w := fun _ _ _ _ => rfl
  go_enter_defers Try.func33, Try.ntmps33
  go_wp2_with (go_at_call 45; refine (must_no _).mono ?_; rintro e w2 ⟨rfl, rfl⟩)
  refine leaves_cons (f := 44) (args := #[.pointer (some ⟨w.heap.size, 0, none⟩)]) (by simp) (by simp [go_sem]) ?_
  refine (catch_broken ⟨w.heap.size, 0, none⟩ .nilIface [] _ ?_ ?_).mono ?_
  · simp [go_sem]
  · simp [go_sem]
  rintro e u' w'' ⟨rfl, rfl, rfl⟩
  simp [Leaves, settle, results, Try.results33, go_sem]
  exact below_two _ _ _
set_option maxHeartbeats 2000000 in
set_option maxRecDepth 100000 in
theorem read_other (w : World) (s : ByteArray) (h0 : s.toList.isEmpty = false) (hp : 0 < s.size) (hL : ((byte s 0 : Int) == 76) = false) (hE : ((byte s 0 : Int) == 69) = false) (hN : ((byte s 0 : Int) == 78) = false) :
    Calls Try.prog 33 #[.string s] w fun e w' => e = .returned .nilIface ∧ Below w.heap.size w w' := by
  have hmf : ∀ (fn : Fn) (first cap : Array Value) (w : World), (Instr.makeFunc fn first cap).run Try.prog w = .ok (.func fn first cap) w := fun _ _ _ _ => rfl
  have hb := byte_at s 0 hp
  go_enter_defers Try.func33, Try.ntmps33
  go_wp2_with (go_at_call 45; refine (must_yes _).mono ?_; rintro e w2 ⟨rfl, rfl⟩)
  refine leaves_cons (f := 44) (args := #[.pointer (some ⟨w.heap.size, 0, none⟩)]) (by simp) (by simp [go_sem]) ?_
  refine (catch_idle ⟨w.heap.size, 0, none⟩ _).mono ?_
  rintro e u' w'' ⟨rfl, rfl, rfl⟩
  simp [Leaves, settle, results, Try.results33, go_sem]
  exact (Below.refl _ _).alloc (Nat.le_refl _) _

theorem row_1 (w : World) (a b c : Obj) : (((w.alloc a).alloc b).alloc c).heap[w.heap.size]? = some a := by
  show (((w.heap.push a).push b).push c)[w.heap.size]? = _
  rw [Array.getElem?_push_lt (by simp; omega), Array.getElem_push_lt (by simp), Array.getElem_push_eq]
theorem row_2 (w : World) (a b c : Obj) : (((w.alloc a).alloc b).alloc c).heap[w.heap.size + 1]? = some b := by
  show (((w.heap.push a).push b).push c)[w.heap.size + 1]? = _
  rw [Array.getElem?_push_lt (by simp)]
  simp [Array.getElem_push]
theorem row_3 (w : World) (a b c : Obj) : (((w.alloc a).alloc b).alloc c).heap[w.heap.size + 1 + 1]? = some c := by
  have h : ((w.heap.push a).push b).size = w.heap.size + 1 + 1 := by simp
  show (((w.heap.push a).push b).push c)[w.heap.size + 1 + 1]? = _
  generalize (w.heap.push a).push b = x at *
  rw [← h]
  exact Array.getElem?_push_size
theorem size_3 (w : World) (a b c : Obj) : w.heap.size < (((w.alloc a).alloc b).alloc c).heap.size := by
  show _ < (((w.heap.push a).push b).push c).size
  simp
  omega
theorem below_3 (w : World) (a b c : Obj) : Below w.heap.size w (((w.alloc a).alloc b).alloc c) :=
  (below_two w a b).alloc (below_two w a b).size c
theorem but2_below {w W w1 : World} {g h : Nat} (hB : But2 W w1 g h) (hW : Below w.heap.size w W) (hg : w.heap.size ≤ g) (hh : w.heap.size ≤ h) : Below w.heap.size w w1 :=
  ⟨hB.os.trans hW.os, hB.tape.trans hW.tape, hB.output.trans hW.output, Nat.le_trans hW.size hB.size, fun k hk => (hB.block k (Nat.lt_of_lt_of_le hk hW.size) (by omega) (by omega)).trans (hW.block k hk)⟩
/-- What a step along the fields leaves of the variable that holds the item. -/
theorem but2_row {w w1 : World} {a b c : Obj} (hB : But2 (((w.alloc a).alloc b).alloc c) w1 (w.heap.size + 1) (w.heap.size + 1 + 1)) : w1.heap[w.heap.size]? = some a :=
  (hB.block _ (size_3 w a b c) (by omega) (by omega)).trans (row_1 w a b c)

set_option maxRecDepth 100000 in
theorem door_ret {R : Ending → World → Prop} {tmps : Array Value} {w1 : World} {n : Nat} {x : Value} (hc : w1.cell? ⟨n, 0, none⟩ = some x) (ht : tmps.getD 2 undef = .pointer (some ⟨n, 0, none⟩)) (h : R (.returned x) w1) :
    bodyPostD Try.prog Try.f33 R Exit.ret { tmps := tmps, defers := [{ target := Target.fn (Fn.func 44) #[Value.pointer (some ⟨n, 0, none⟩)], args := #[] }] } w1 := by
  refine leaves_cons (f := 44) (args := #[.pointer (some ⟨n, 0, none⟩)]) (by simp) (by simp [go_sem]) ?_
  refine (catch_idle ⟨n, 0, none⟩ _).mono ?_
  rintro e u' w'' ⟨rfl, rfl, rfl⟩
  have ht' : tmps[2]?.getD undef = .pointer (some ⟨n, 0, none⟩) := by simpa using ht
  refine ⟨x, ?_, h⟩
  simp [results, Try.results33, go_sem, ht', hc]

set_option maxRecDepth 100000 in
theorem door_panic {R : Ending → World → Prop} {tmps : Array Value} {w1 : World} {n : Nat} {x : Value} (hc : w1.cell? ⟨n, 0, none⟩ = some x) (hz : w1.frozen? ⟨n, 0, none⟩ = false) (ht : tmps.getD 2 undef = .pointer (some ⟨n, 0, none⟩))
    (h : R (.returned .nilIface) ((w1.alloc (.cells #[] 79)).setCell ⟨n, 0, none⟩ .nilIface)) :
    bodyPostD Try.prog Try.f33 R (Exit.panic broken) { tmps := tmps, defers := [{ target := Target.fn (Fn.func 44) #[Value.pointer (some ⟨n, 0, none⟩)], args := #[] }] } w1 := by
  refine leaves_cons (f := 44) (args := #[.pointer (some ⟨n, 0, none⟩)]) (by simp) (by simp [go_sem]) ?_
  refine (catch_broken ⟨n, 0, none⟩ x [] _ hc hz).mono ?_
  rintro e u' w'' ⟨rfl, rfl, rfl⟩
  have ht' : tmps[2]?.getD undef = .pointer (some ⟨n, 0, none⟩) := by simpa using ht
  have hbl : Below w1.heap.size w1 (w1.alloc (.cells #[] 79)) := (Below.refl _ _).alloc (Nat.le_refl _) _
  have hc' := (hbl.cell (World.block_lt_of_cell? w1 _ hc)).trans hc
  refine ⟨.nilIface, ?_, h⟩
  simp [results, Try.results33, go_sem, ht', hc']
theorem below_panic {w w1 : World} (h : Below w.heap.size w w1) : Below w.heap.size w ((w1.alloc (.cells #[] 79)).setCell ⟨w.heap.size, 0, none⟩ .nilIface) :=
  (h.alloc h.size _).setCell (Nat.le_refl _) _
end Go.Proofs.Ytejaepohkcjoiaa.CdMay

/- codec: read, of note's form (written by wip/gen/mkread.py). -/
namespace Go.Proofs.Ytejaepohkcjoiaa.CdMay
open Go.RowKit Go.IntWalk Go.Proofs.Ytejaepohkcjoiaa.B Go.Proofs.YtejaepohkcjoiaaW.PrintWords Go.Proofs.YtejaepohkcjoiaaW.PrintLast Go.Proofs.YtejaepohkcjoiaaW.PrintMore Go.Proofs.Ytejaepohkcjoiaa.CdForm Go.Proofs.Ytejaepohkcjoiaa.Tabs
open Go.Proofs.Ytejaepohkcjoiaa.Nm (byte byte_at)

def okN (s : ByteArray) : Option (CdNote.D × Int) → Option CdNote.D
  | some (d, a) => if a = s.size ∧ mayN d = true then some d else none
  | none => none
def NoteAt (B : Nat) (w : World) (v : Value) : Option CdNote.D → Prop
  | none => v = .nilIface
  | some d => ∃ g, v = .iface 61 (.pointer (some ⟨g, 0, none⟩)) ∧ B ≤ g ∧ w.heap[g]? = some (.cells (CdNote.cells d) 60 (0, 0))

set_option linter.unusedSimpArgs false in
set_option linter.unusedVariables false in
set_option maxHeartbeats 4000000 in
set_option maxRecDepth 100000 in
theorem read_note (w : World) (s : ByteArray) (h0 : s.toList.isEmpty = false) (hp : 0 < s.size) (hL : (byte s 0 : Int) = 78) (hs : s.size ≤ 1000000000000000) (r : Option (CdNote.D × Int)) (hr : CdNote.rd s 1 = r)
    (hsz : ∀ d a, r = some (d, a) → d.key.size ≤ 9000000000000000000 ∧ d.name.size ≤ 9000000000000000000) :
    Calls Try.prog 33 #[.string s] w fun e w' => ∃ v, e = .returned v ∧ NoteAt w.heap.size w' v (okN s r) ∧ Below w.heap.size w w' := by
  have hmf : ∀ (fn : Fn) (first cap : Array Value) (w : World), (Instr.makeFunc fn first cap).run Try.prog w = .ok (.func fn first cap) w := fun _ _ _ _ => rfl
  have hb := byte_at s 0 hp
  have HZ := Aside0.mk hsz
  have HS := Aside0.mk hs
  have HR := Aside0.mk hr
  clear hsz hs hr
  go_enter_defers Try.func33, Try.ntmps33
  go_wp2_with (go_at_call 45; refine (must_yes _).mono ?_; rintro e w2 ⟨rfl, rfl⟩)
  refine (CdNote.fields_read _ (w.heap.size + 1) (w.heap.size + 1 + 1) s 1 (row_2 w _ _ _) (by omega) (row_3 w _ _ _) HS.out).mono ?_
  rw [HR.out]
  rcases r with _ | ⟨d, a⟩
  · rintro e w1 ⟨rfl, hB⟩
    have hx := but2_row hB
    have HBe := Aside0.mk (but2_below hB (below_3 w _ _ _) (by omega) (by omega))
    have hc := row_cell (j := 0) hx rfl
    have hz := free_of_row (j := 0) hx
    clear hB hx
    go_wp2
    exact door_panic hc hz rfl ⟨_, rfl, rfl, below_panic HBe.out⟩
  · rintro e w1 ⟨rfl, hS⟩
    have hx := but2_row hS.but
    have HBe := Aside0.mk (but2_below hS.but (below_3 w _ _ _) (by omega) (by omega))
    have hc := row_cell (j := 0) hx rfl
    have hz := free_of_row (j := 0) hx
    have HRW := Aside0.mk hS.row
    have HRX := Aside0.mk hx
    have hf2 := hS.form.cell2
    clear hS hx
    cases ha : ((a : Int) == (s.size : Int))
    · have HA := Aside0.mk (beq_eq_false_iff_ne.1 ha)
      go_wp2_with (go_at_call 45; refine (must_no _).mono ?_; rintro e w2 ⟨rfl, rfl⟩)
      exact door_panic hc hz rfl ⟨_, rfl, by simp [okN, HA.out, NoteAt], below_panic HBe.out⟩
    · have HA := Aside0.mk (eq_of_beq ha)
      cases hm : mayN d
      · have HM := Aside0.mk hm
        clear hm
        go_wp2_with (first | (go_at_call 45; refine (must_no _).mono ?_; rintro e w2 ⟨rfl, rfl⟩) | (go_at_call 106; refine (note_may _ _ _ HRW.out (HZ.out _ _ rfl)).mono ?_; rintro e w2 ⟨rfl, hb2⟩; rw [HM.out]; have hc2 := cell_below hb2 hc; have hz2 := (hb2.frozen (World.block_lt_of_cell? w1 _ hc)).trans hz; have HBf := Aside0.mk (below_on HBe.out hb2); clear hb2))
        exact door_panic hc2 hz2 rfl ⟨_, rfl, by simp [okN, HM.out, NoteAt], below_panic HBf.out⟩
      · have HM := Aside0.mk hm
        clear hm
        go_wp2_with (first | (go_at_call 45; refine (must_yes _).mono ?_; rintro e w2 ⟨rfl, rfl⟩) | (go_at_call 106; refine (note_may _ _ _ HRW.out (HZ.out _ _ rfl)).mono ?_; rintro e w2 ⟨rfl, hb2⟩; rw [HM.out]; have hc2 := cell_below hb2 hc; have hz2 := (hb2.frozen (World.block_lt_of_cell? w1 _ hc)).trans hz; have HBf := Aside0.mk (below_on HBe.out hb2); have HRW2 := Aside0.mk (row_below hb2 HRW.out); have HRX2 := Aside0.mk (row_below hb2 HRX.out); clear hb2))
        refine door_ret (World.cell?_setCell_same' _ _ _ (by rw [hc2]; rfl)) rfl ⟨_, rfl, ?_, HBf.out.setCell (Nat.le_refl _) _⟩
        have e1 : okN s (some (d, a)) = some d := by simp [okN, HM.out, HA.out]
        rw [e1]
        exact ⟨_, rfl, by omega, row_setCell_ne HRW2.out _ _ (by show _ ≠ w.heap.size; omega)⟩
end Go.Proofs.Ytejaepohkcjoiaa.CdMay

/- codec: read, of letter's form (written by wip/gen/mkread.py). -/
namespace Go.Proofs.Ytejaepohkcjoiaa.CdMay
open Go.RowKit Go.IntWalk Go.Proofs.Ytejaepohkcjoiaa.B Go.Proofs.YtejaepohkcjoiaaW.PrintWords Go.Proofs.YtejaepohkcjoiaaW.PrintLast Go.Proofs.YtejaepohkcjoiaaW.PrintMore Go.Proofs.Ytejaepohkcjoiaa.CdForm Go.Proofs.Ytejaepohkcjoiaa.Tabs
open Go.Proofs.Ytejaepohkcjoiaa.Nm (byte byte_at)
variable [Tab]

def okL (s : ByteArray) : Option (CdLetter.D × Int) → Option CdLetter.D
  | some (d, a) => if a = s.size ∧ mayL d = true then some d else none
  | none => none
def LetterAt (B : Nat) (w : World) (v : Value) : Option CdLetter.D → Prop
  | none => v = .nilIface
  | some d => ∃ g sv, v = .iface 53 (.pointer (some ⟨g, 0, none⟩)) ∧ B ≤ g ∧ w.heap[g]? = some (.cells (CdLetter.cells d sv) 51 (0, 0)) ∧ Kd.R Kd.string 9 w B (fun _ => True) sv d.keys

set_option linter.unusedSimpArgs false in
set_option linter.unusedVariables false in
set_option maxHeartbeats 4000000 in
set_option maxRecDepth 100000 in
theorem read_letter (w : World) (s : ByteArray) (h0 : s.toList.isEmpty = false) (hp : 0 < s.size) (hL : (byte s 0 : Int) = 76) (hs : s.size ≤ 1000000000000000) (r : Option (CdLetter.D × Int)) (hr : CdLetter.rd s 1 = r)
    (hsz : ∀ d a, r = some (d, a) → ∀ t ∈ d.keys, t.size ≤ 9000000000000000000) (hT : Tab.At w) :
    Calls Try.prog 33 #[.string s] w fun e w' => ∃ v, e = .returned v ∧ LetterAt w.heap.size w' v (okL s r) ∧ Below w.heap.size w w' := by
  have hmf : ∀ (fn : Fn) (first cap : Array Value) (w : World), (Instr.makeFunc fn first cap).run Try.prog w = .ok (.func fn first cap) w := fun _ _ _ _ => rfl
  have hb := byte_at s 0 hp
  have HZ := Aside0.mk hsz
  have HS := Aside0.mk hs
  have HR := Aside0.mk hr
  have HT := Aside0.mk hT
  clear hsz hs hr hT
  go_enter_defers Try.func33, Try.ntmps33
  go_wp2_with (go_at_call 45; refine (must_yes _).mono ?_; rintro e w2 ⟨rfl, rfl⟩)
  refine (CdLetter.fields_read _ (w.heap.size + 1) (w.heap.size + 1 + 1) s 1 (row_2 w _ _ _) (by omega) (row_3 w _ _ _) HS.out).mono ?_
  rw [HR.out]
  rcases r with _ | ⟨d, a⟩
  · rintro e w1 ⟨rfl, hB⟩
    have hx := but2_row hB
    have HBe := Aside0.mk (but2_below hB (below_3 w _ _ _) (by omega) (by omega))
    have hc := row_cell (j := 0) hx rfl
    have hz := free_of_row (j := 0) hx
    clear hB hx
    go_wp2
    exact door_panic hc hz rfl ⟨_, rfl, rfl, below_panic HBe.out⟩
  · rintro e w1 ⟨rfl, sv, hS, hK⟩
    have hx := but2_row hS.but
    have HBe := Aside0.mk (but2_below hS.but (below_3 w _ _ _) (by omega) (by omega))
    have hc := row_cell (j := 0) hx rfl
    have hz := free_of_row (j := 0) hx
    have HRW := Aside0.mk hS.row
    have HRX := Aside0.mk hx
    have hf2 := hS.form.cell2
    obtain ⟨A, c, rfl, hcap, hC⟩ := Kd.R_reads hK
    have HK := Aside0.mk (Kd.R_lower hK (below_3 w _ _ _).size)
    have HC := Aside0.mk hC
    clear hK hC hcap
    clear hS hx
    cases ha : ((a : Int) == (s.size : Int))
    · have HA := Aside0.mk (beq_eq_false_iff_ne.1 ha)
      go_wp2_with (go_at_call 45; refine (must_no _).mono ?_; rintro e w2 ⟨rfl, rfl⟩)
      exact door_panic hc hz rfl ⟨_, rfl, by simp [okL, HA.out, LetterAt], below_panic HBe.out⟩
    · have HA := Aside0.mk (eq_of_beq ha)
      cases hm : mayL d
      · have HM := Aside0.mk hm
        clear hm
        go_wp2_with (first | (go_at_call 45; refine (must_no _).mono ?_; rintro e w2 ⟨rfl, rfl⟩) | (go_at_call 76; refine (letter_may _ _ _ _ _ HRW.out HC.out (HZ.out _ _ rfl) (Tab.below HT.out HBe.out)).mono ?_; rintro e w2 ⟨rfl, hb2⟩; rw [HM.out]; have hc2 := cell_below hb2 hc; have hz2 := (hb2.frozen (World.block_lt_of_cell? w1 _ hc)).trans hz; have HBf := Aside0.mk (below_on HBe.out hb2); clear hb2))
        exact door_panic hc2 hz2 rfl ⟨_, rfl, by simp [okL, HM.out, LetterAt], below_panic HBf.out⟩
      · have HM := Aside0.mk hm
        clear hm
        go_wp2_with (first | (go_at_call 45; refine (must_yes _).mono ?_; rintro e w2 ⟨rfl, rfl⟩) | (go_at_call 76; refine (letter_may _ _ _ _ _ HRW.out HC.out (HZ.out _ _ rfl) (Tab.below HT.out HBe.out)).mono ?_; rintro e w2 ⟨rfl, hb2⟩; rw [HM.out]; have hc2 := cell_below hb2 hc; have hz2 := (hb2.frozen (World.block_lt_of_cell? w1 _ hc)).trans hz; have HBf := Aside0.mk (below_on HBe.out hb2); have HRW2 := Aside0.mk (row_below hb2 HRW.out); have HRX2 := Aside0.mk (row_below hb2 HRX.out); have HK2 := Aside0.mk (Kd.R_below HK.out hb2); clear hb2))
        refine door_ret (World.cell?_setCell_same' _ _ _ (by rw [hc2]; rfl)) rfl ⟨_, rfl, ?_, HBf.out.setCell (Nat.le_refl _) _⟩
        have e1 : okL s (some (d, a)) = some d := by simp [okL, HM.out, HA.out]
        rw [e1]
        exact ⟨_, _, rfl, by omega, row_setCell_ne HRW2.out _ _ (by show _ ≠ w.heap.size; omega), Kd.R_set HK2.out HRX2.out (by intro q hq; simp [Kd.string, Kd.scalar] at hq; omega) _ _⟩
end Go.Proofs.Ytejaepohkcjoiaa.CdMay

/- codec: read, of event's form (written by wip/gen/mkread.py). -/
namespace Go.Proofs.Ytejaepohkcjoiaa.CdMay
open Go.RowKit Go.IntWalk Go.Proofs.Ytejaepohkcjoiaa.B Go.Proofs.YtejaepohkcjoiaaW.PrintWords Go.Proofs.YtejaepohkcjoiaaW.PrintLast Go.Proofs.YtejaepohkcjoiaaW.PrintMore Go.Proofs.Ytejaepohkcjoiaa.CdForm Go.Proofs.Ytejaepohkcjoiaa.Tabs
open Go.Proofs.Ytejaepohkcjoiaa.Nm (byte byte_at)
variable [Tab]

def okE (s : ByteArray) : Option (CdEvent.D × Int) → Option CdEvent.D
  | some (d, a) => if a = s.size ∧ mayE d = true then some d else none
  | none => none
def EventAt (B : Nat) (w : World) (v : Value) : Option CdEvent.D → Prop
  | none => v = .nilIface
  | some d => ∃ g sv, v = .iface 59 (.pointer (some ⟨g, 0, none⟩)) ∧ B ≤ g ∧ w.heap[g]? = some (.cells (CdEvent.cells d sv) 58 (0, 0)) ∧ Kd.R Kd.string 9 w B (fun _ => True) sv d.keys

set_option linter.unusedSimpArgs false in
set_option linter.unusedVariables false in
set_option maxHeartbeats 4000000 in
set_option maxRecDepth 100000 in
theorem read_event (w : World) (s : ByteArray) (h0 : s.toList.isEmpty = false) (hp : 0 < s.size) (hL : (byte s 0 : Int) = 69) (hs : s.size ≤ 1000000000000000) (r : Option (CdEvent.D × Int)) (hr : CdEvent.rd s 1 = r)
    (hsz : ∀ d a, r = some (d, a) → ∀ t ∈ d.keys, t.size ≤ 9000000000000000000) (hT : Tab.At w) :
    Calls Try.prog 33 #[.string s] w fun e w' => ∃ v, e = .returned v ∧ EventAt w.heap.size w' v (okE s r) ∧ Below w.heap.size w w' := by
  have hmf : ∀ (fn : Fn) (first cap : Array Value) (w : World), (Instr.makeFunc fn first cap).run Try.prog w = .ok (.func fn first cap) w := fun _ _ _ _ => rfl
  have hb := byte_at s 0 hp
  have HZ := Aside0.mk hsz
  have HS := Aside0.mk hs
  have HR := Aside0.mk hr
  have HT := Aside0.mk hT
  clear hsz hs hr hT
  go_enter_defers Try.func33, Try.ntmps33
  go_wp2_with (go_at_call 45; refine (must_yes _).mono ?_; rintro e w2 ⟨rfl, rfl⟩)
  refine (CdEvent.fields_read _ (w.heap.size + 1) (w.heap.size + 1 + 1) s 1 (row_2 w _ _ _) (by omega) (row_3 w _ _ _) HS.out).mono ?_
  rw [HR.out]
  rcases r with _ | ⟨d, a⟩
  · rintro e w1 ⟨rfl, hB⟩
    have hx := but2_row hB
    have HBe := Aside0.mk (but2_below hB (below_3 w _ _ _) (by omega) (by omega))
    have hc := row_cell (j := 0) hx rfl
    have hz := free_of_row (j := 0) hx
    clear hB hx
    go_wp2
    exact door_panic hc hz rfl ⟨_, rfl, rfl, below_panic HBe.out⟩
  · rintro e w1 ⟨rfl, sv, hS, hK⟩
    have hx := but2_row hS.but
    have HBe := Aside0.mk (but2_below hS.but (below_3 w _ _ _) (by omega) (by omega))
    have hc := row_cell (j := 0) hx rfl
    have hz := free_of_row (j := 0) hx
    have HRW := Aside0.mk hS.row
    have HRX := Aside0.mk hx
    have hf2 := hS.form.cell2
    obtain ⟨A, c, rfl, hcap, hC⟩ := Kd.R_reads hK
    have HK := Aside0.mk (Kd.R_lower hK (below_3 w _ _ _).size)
    have HC := Aside0.mk hC
    clear hK hC hcap
    clear hS hx
    cases ha : ((a : Int) == (s.size : Int))
    · have HA := Aside0.mk (beq_eq_false_iff_ne.1 ha)
      go_wp2_with (go_at_call 45; refine (must_no _).mono ?_; rintro e w2 ⟨rfl, rfl⟩)
      exact door_panic hc hz rfl ⟨_, rfl, by simp [okE, HA.out, EventAt], below_panic HBe.out⟩
    · have HA := Aside0.mk (eq_of_beq ha)
      cases hm : mayE d
      · have HM := Aside0.mk hm
        clear hm
        go_wp2_with (first | (go_at_call 45; refine (must_no _).mono ?_; rintro e w2 ⟨rfl, rfl⟩) | (go_at_call 104; refine (event_may _ _ _ _ _ HRW.out HC.out (HZ.out _ _ rfl) (Tab.below HT.out HBe.out)).mono ?_; rintro e w2 ⟨rfl, hb2⟩; rw [HM.out]; have hc2 := cell_below hb2 hc; have hz2 := (hb2.frozen (World.block_lt_of_cell? w1 _ hc)).trans hz; have HBf := Aside0.mk (below_on HBe.out hb2); clear hb2))
        exact door_panic hc2 hz2 rfl ⟨_, rfl, by simp [okE, HM.out, EventAt], below_panic HBf.out⟩
      · have HM := Aside0.mk hm
        clear hm
        go_wp2_with (first | (go_at_call 45; refine (must_yes _).mono ?_; rintro e w2 ⟨rfl, rfl⟩) | (go_at_call 104; refine (event_may _ _ _ _ _ HRW.out HC.out (HZ.out _ _ rfl) (Tab.below HT.out HBe.out)).mono ?_; rintro e w2 ⟨rfl, hb2⟩; rw [HM.out]; have hc2 := cell_below hb2 hc; have hz2 := (hb2.frozen (World.block_lt_of_cell? w1 _ hc)).trans hz; have HBf := Aside0.mk (below_on HBe.out hb2); have HRW2 := Aside0.mk (row_below hb2 HRW.out); have HRX2 := Aside0.mk (row_below hb2 HRX.out); have HK2 := Aside0.mk (Kd.R_below HK.out hb2); clear hb2))
        refine door_ret (World.cell?_setCell_same' _ _ _ (by rw [hc2]; rfl)) rfl ⟨_, rfl, ?_, HBf.out.setCell (Nat.le_refl _) _⟩
        have e1 : okE s (some (d, a)) = some d := by simp [okE, HM.out, HA.out]
        rw [e1]
        exact ⟨_, _, rfl, by omega, row_setCell_ne HRW2.out _ _ (by show _ ≠ w.heap.size; omega), Kd.R_set HK2.out HRX2.out (by intro q hq; simp [Kd.string, Kd.scalar] at hq; omega) _ _⟩
end Go.Proofs.Ytejaepohkcjoiaa.CdMay

/- codec: what is read is what was written: the plain laws of the fields. -/
namespace Go.Proofs.Ytejaepohkcjoiaa.CdForm
open Go.Proofs.Ytejaepohkcjoiaa

/-- From place a to place b stand these bytes. -/
def Fwd (s : ByteArray) (a : Nat) (L : List UInt8) (b : Nat) : Prop := s.data.toList.drop a = L ++ s.data.toList.drop b ∧ b = a + L.length ∧ b ≤ s.size

theorem Fwd.nil {s : ByteArray} {a : Nat} (h : a ≤ s.size) : Fwd s a [] a := ⟨rfl, rfl, h⟩
theorem Fwd.trans {s : ByteArray} {a b c : Nat} {L M : List UInt8} (x : Fwd s a L b) (y : Fwd s b M c) : Fwd s a (L ++ M) c :=
  ⟨by rw [x.1, y.1, List.append_assoc], by rw [y.2.1, x.2.1, List.length_append]; omega, y.2.2⟩
theorem Fwd.of {s : ByteArray} {a : Nat} {L rest : List UInt8} (ha : a ≤ s.size) (h : s.data.toList.drop a = L ++ rest) : Fwd s a L (a + L.length) := by
  refine ⟨?_, rfl, ?_⟩
  · rw [Pk.drop_more h, h]
  · have := congrArg List.length h
    rw [Pk.drop_len, List.length_append] at this
    omega
theorem Fwd.split {s : ByteArray} {a c : Nat} {L M : List UInt8} (h : Fwd s a (L ++ M) c) : ∃ b, Fwd s a L b ∧ Fwd s b M c := by
  obtain ⟨h1, h2, h3⟩ := h
  rw [List.append_assoc] at h1
  rw [List.length_append] at h2
  have hl := congrArg List.length h1
  rw [Pk.drop_len] at hl
  simp only [List.length_append] at hl
  have hx := Fwd.of (s := s) (a := a) (L := L) (by omega) h1
  refine ⟨a + L.length, hx, ?_, by omega, h3⟩
  have := hx.1
  rw [h1] at this
  exact (List.append_cancel_left this).symm

theorem num_one {α : Type} {s : ByteArray} {a : Nat} {k : Int → Int → Option α} {r : α} (h : num s a k = some r) :
    ∃ (n : Int) (b : Nat), (0 ≤ n ∧ n ≤ 1125899906842624) ∧ Fwd s a (en n) b ∧ k n b = some r := by
  by_cases h0 : (Pk.takeNum s a).2.2 = 0
  · obtain ⟨p, n, rest, hp, hle, hn, hd, he⟩ := Pk.takeNum_one h0
    have hpa : a = p := by omega
    subst hpa
    rw [num_ok he] at h
    exact ⟨n, _, ⟨by omega, by omega⟩, Fwd.of hle (by rw [hd]; rfl), h⟩
  · rw [num_no h0] at h
    cases h
theorem text_one {α : Type} {s : ByteArray} {a : Nat} {k : ByteArray → Int → Option α} {r : α} (h : text s a k = some r) :
    ∃ (t : ByteArray) (b : Nat), t.size ≤ 2000 ∧ Fwd s a (Pk.item t) b ∧ k t b = some r := by
  by_cases h0 : (Pk.takeText s a).2.2 = 0
  · obtain ⟨p, t, rest, hp, hle, hn, hd, he⟩ := Pk.takeText_one h0
    have hpa : a = p := by omega
    subst hpa
    rw [text_ok he] at h
    exact ⟨t, _, hn, Fwd.of hle hd, h⟩
  · rw [text_no h0] at h
    cases h
theorem list_one {α : Type} {s : ByteArray} {a : Nat} {k : List ByteArray → Int → Option α} {r : α} (h : list s a k = some r) :
    ∃ (l : List ByteArray) (b : Nat), (l.length ≤ 4000 ∧ ∀ t ∈ l, t.size ≤ 2000) ∧ Fwd s a (Pk.whole l) b ∧ k l b = some r := by
  by_cases h0 : (Pk.takeList s a).2.2 = 0
  · obtain ⟨p, l, rest, hp, hle, hl, hn, hd, he⟩ := Pk.takeList_one h0
    have hpa : a = p := by omega
    subst hpa
    rw [list_ok he] at h
    exact ⟨l, _, ⟨hl, hn⟩, Fwd.of hle hd, h⟩
  · rw [list_no h0] at h
    cases h
theorem num_enc {α : Type} {s : ByteArray} {a b : Nat} {n : Int} (h : Fwd s a (en n) b) (hn : 0 ≤ n ∧ n ≤ 1125899906842624) (k : Int → Int → Option α) : num s a k = k n b := by
  obtain ⟨h1, h2, h3⟩ := h
  rw [num_ok (Pk.takeNum_enc (n := n.toNat) (by omega) h1 (by omega)), h2]
  congr 1
  omega
theorem text_enc {α : Type} {s : ByteArray} {a b : Nat} {t : ByteArray} (h : Fwd s a (Pk.item t) b) (ht : t.size ≤ 2000) (k : ByteArray → Int → Option α) : text s a k = k t b := by
  obtain ⟨h1, h2, h3⟩ := h
  rw [text_ok (Pk.takeText_enc (by omega) h1 ht), h2]
theorem list_enc {α : Type} {s : ByteArray} {a b : Nat} {l : List ByteArray} (h : Fwd s a (Pk.whole l) b) (hl : l.length ≤ 4000) (ht : ∀ t ∈ l, t.size ≤ 2000) (k : List ByteArray → Int → Option α) : list s a k = k l b := by
  obtain ⟨h1, h2, h3⟩ := h
  rw [list_ok (Pk.takeList_enc (by omega) h1 hl ht), h2]
end Go.Proofs.Ytejaepohkcjoiaa.CdForm

namespace Go.Proofs.Ytejaepohkcjoiaa.CdEvent
open Go.Proofs.Ytejaepohkcjoiaa.CdForm Go.Proofs.Ytejaepohkcjoiaa
/-- What is told of an event by its form. -/
def norm (d : D) : D := if d.kind = 6 then ⟨d.kind, d.inst, 0, []⟩ else if d.kind = 1 then d else ⟨d.kind, d.inst, d.step, []⟩
theorem rd_one {s : ByteArray} {a : Nat} {d : D} {x : Int} (h : rd s a = some (d, x)) : ∃ b : Nat, x = b ∧ Fwd s a (form d) b ∧ Fits d ∧ norm d = d := by
  unfold rd at h
  obtain ⟨k, b1, hk, f1, h⟩ := num_one h
  obtain ⟨i, b2, hi, f2, h⟩ := num_one h
  by_cases k6 : k = 6
  · rw [if_pos k6] at h
    cases h
    exact ⟨b2, rfl, by simpa [form, k6] using f1.trans f2, ⟨hk, hi, by simp, by simp⟩, by simp [norm, k6]⟩
  · rw [if_neg k6] at h
    obtain ⟨st, b3, hst, f3, h⟩ := num_one h
    by_cases k1 : k = 1
    · rw [if_pos k1] at h
      obtain ⟨l, b4, hl, f4, h⟩ := list_one h
      cases h
      exact ⟨b4, rfl, by simpa [form, k1] using f1.trans (f2.trans (f3.trans f4)), ⟨hk, hi, hst, hl⟩, by simp [norm, k1]⟩
    · rw [if_neg k1] at h
      cases h
      exact ⟨b3, rfl, by simpa [form, k1, k6] using f1.trans (f2.trans f3), ⟨hk, hi, hst, by simp⟩, by simp [norm, k1, k6]⟩
theorem rd_enc {s : ByteArray} {a b : Nat} {d : D} (hd : Fits d) (h : Fwd s a (form d) b) : rd s a = some (norm d, (b : Int)) := by
  obtain ⟨k, i, st, l⟩ := d
  obtain ⟨hk, hi, hst, hl⟩ := hd
  obtain ⟨b1, f1, h⟩ := h.split
  obtain ⟨b2, f2, h⟩ := h.split
  unfold rd
  rw [num_enc f1 hk, num_enc f2 hi]
  by_cases k6 : k = 6
  · simp only [k6, if_true] at h
    obtain ⟨_, e, _⟩ := h
    simp only [List.length_nil, Nat.add_zero] at e
    subst e
    simp [norm, k6]
  · simp only [k6, if_false] at h
    obtain ⟨b3, f3, h⟩ := h.split
    rw [if_neg k6, num_enc f3 hst]
    by_cases k1 : k = 1
    · simp only [k1, if_true] at h
      rw [if_pos k1, list_enc h hl.1 hl.2]
      simp [norm, k1]
    · simp only [k1, if_false] at h
      obtain ⟨_, e, _⟩ := h
      simp only [List.length_nil, Nat.add_zero] at e
      subst e
      simp [norm, k1, k6]
end Go.Proofs.Ytejaepohkcjoiaa.CdEvent

namespace Go.Proofs.Ytejaepohkcjoiaa.CdLetter
open Go.Proofs.Ytejaepohkcjoiaa.CdForm Go.Proofs.Ytejaepohkcjoiaa
def norm (d : D) : D := if d.kind = 3 ∨ d.kind = 9 then ⟨d.kind, d.part, d.inst, 0, 0, []⟩ else if d.kind = 1 then d else ⟨d.kind, d.part, d.inst, d.step, 0, []⟩
theorem rd_one {s : ByteArray} {a : Nat} {d : D} {x : Int} (h : rd s a = some (d, x)) : ∃ b : Nat, x = b ∧ Fwd s a (form d) b ∧ Fits d ∧ norm d = d := by
  unfold rd at h
  obtain ⟨k, b1, hk, f1, h⟩ := num_one h
  obtain ⟨p, b0, hp, f0, h⟩ := num_one h
  obtain ⟨i, b2, hi, f2, h⟩ := num_one h
  by_cases k6 : k = 3 ∨ k = 9
  · rw [if_pos k6] at h
    cases h
    exact ⟨b2, rfl, by simpa [form, k6] using f1.trans (f0.trans f2), ⟨hk, hp, hi, by simp, by simp, by simp⟩, by simp [norm, k6]⟩
  · rw [if_neg k6] at h
    obtain ⟨st, b3, hst, f3, h⟩ := num_one h
    by_cases k1 : k = 1
    · rw [if_pos k1] at h
      obtain ⟨so, b5, hso, f5, h⟩ := num_one h
      obtain ⟨l, b4, hl, f4, h⟩ := list_one h
      cases h
      exact ⟨b4, rfl, by simpa [form, k1] using f1.trans (f0.trans (f2.trans (f3.trans (f5.trans f4)))), ⟨hk, hp, hi, hst, hso, hl⟩, by simp [norm, k1]⟩
    · rw [if_neg k1] at h
      cases h
      exact ⟨b3, rfl, by simpa [form, k1, k6] using f1.trans (f0.trans (f2.trans f3)), ⟨hk, hp, hi, hst, by simp, by simp⟩, by simp [norm, k1, k6]⟩
theorem rd_enc {s : ByteArray} {a b : Nat} {d : D} (hd : Fits d) (h : Fwd s a (form d) b) : rd s a = some (norm d, (b : Int)) := by
  obtain ⟨k, p, i, st, so, l⟩ := d
  obtain ⟨hk, hp, hi, hst, hso, hl⟩ := hd
  obtain ⟨b1, f1, h⟩ := h.split
  obtain ⟨b0, f0, h⟩ := h.split
  obtain ⟨b2, f2, h⟩ := h.split
  unfold rd
  rw [num_enc f1 hk, num_enc f0 hp, num_enc f2 hi]
  by_cases k6 : k = 3 ∨ k = 9
  · simp only [k6, if_true] at h
    obtain ⟨_, e, _⟩ := h
    simp only [List.length_nil, Nat.add_zero] at e
    subst e
    simp [norm, k6]
  · simp only [k6, if_false] at h
    obtain ⟨b3, f3, h⟩ := h.split
    rw [if_neg k6, num_enc f3 hst]
    by_cases k1 : k = 1
    · simp only [k1, if_true] at h
      obtain ⟨b5, f5, h⟩ := h.split
      rw [if_pos k1, num_enc f5 hso, list_enc h hl.1 hl.2]
      simp [norm, k1]
    · simp only [k1, if_false] at h
      obtain ⟨_, e, _⟩ := h
      simp only [List.length_nil, Nat.add_zero] at e
      subst e
      simp [norm, k1, k6]
end Go.Proofs.Ytejaepohkcjoiaa.CdLetter

namespace Go.Proofs.Ytejaepohkcjoiaa.CdNote
open Go.Proofs.Ytejaepohkcjoiaa.CdForm Go.Proofs.Ytejaepohkcjoiaa
def norm (d : D) : D :=
  if d.kind = 1 then ⟨d.kind, 0, 0, 0, 0, 0, ⟨#[]⟩, ⟨#[]⟩, 0, d.text⟩
  else if d.kind = 2 then ⟨d.kind, d.inst, 0, 0, 0, 0, d.key, d.name, d.version, ⟨#[]⟩⟩
  else if d.kind = 5 then ⟨d.kind, d.inst, d.step, 0, 0, 0, ⟨#[]⟩, ⟨#[]⟩, 0, ⟨#[]⟩⟩
  else if d.kind = 6 then ⟨d.kind, d.inst, d.step, d.state, 0, 0, ⟨#[]⟩, ⟨#[]⟩, 0, ⟨#[]⟩⟩
  else if d.kind = 8 then ⟨d.kind, d.inst, 0, 0, d.part, 0, ⟨#[]⟩, ⟨#[]⟩, 0, ⟨#[]⟩⟩
  else if d.kind = 9 then ⟨d.kind, d.inst, 0, d.state, 0, d.cause, ⟨#[]⟩, ⟨#[]⟩, 0, ⟨#[]⟩⟩
  else ⟨d.kind, d.inst, 0, 0, 0, 0, ⟨#[]⟩, ⟨#[]⟩, 0, ⟨#[]⟩⟩
theorem z0 : (0 : Int) ≤ 0 ∧ (0 : Int) ≤ 1125899906842624 := by omega
theorem e0 : ¬ (⟨#[]⟩ : ByteArray).size > 2000 := by decide
theorem rd_one {s : ByteArray} {a : Nat} {d : D} {x : Int} (h : rd s a = some (d, x)) : ∃ b : Nat, x = b ∧ Fwd s a (form d) b ∧ Fits d ∧ norm d = d := by
  unfold rd at h
  obtain ⟨k, b1, hk, f1, h⟩ := num_one h
  by_cases k1 : k = 1
  · rw [if_pos k1] at h
    obtain ⟨t, b2, ht, f2, h⟩ := text_one h
    cases h
    exact ⟨b2, rfl, by simpa [form, k1] using f1.trans f2, ⟨hk, z0, z0, z0, z0, z0, e0, e0, z0, Nat.not_lt.2 ht⟩, by simp [norm, k1]⟩
  rw [if_neg k1] at h
  obtain ⟨i, b2, hi, f2, h⟩ := num_one h
  by_cases k2 : k = 2
  · rw [if_pos k2] at h
    obtain ⟨t, b3, ht, f3, h⟩ := text_one h
    obtain ⟨u, b4, hu, f4, h⟩ := text_one h
    obtain ⟨v, b5, hv, f5, h⟩ := num_one h
    cases h
    exact ⟨b5, rfl, by simpa [form, k2] using f1.trans (f2.trans (f3.trans (f4.trans f5))), ⟨hk, hi, z0, z0, z0, z0, Nat.not_lt.2 ht, Nat.not_lt.2 hu, hv, e0⟩, by simp [norm, k2]⟩
  rw [if_neg k2] at h
  by_cases k5 : k = 5
  · rw [if_pos k5] at h
    obtain ⟨u, b3, hu, f3, h⟩ := num_one h
    cases h
    exact ⟨b3, rfl, by simpa [form, k5] using f1.trans (f2.trans f3), ⟨hk, hi, hu, z0, z0, z0, e0, e0, z0, e0⟩, by simp [norm, k5]⟩
  rw [if_neg k5] at h
  by_cases k6 : k = 6
  · rw [if_pos k6] at h
    obtain ⟨u, b3, hu, f3, h⟩ := num_one h
    obtain ⟨v, b4, hv, f4, h⟩ := num_one h
    cases h
    exact ⟨b4, rfl, by simpa [form, k6] using f1.trans (f2.trans (f3.trans f4)), ⟨hk, hi, hu, hv, z0, z0, e0, e0, z0, e0⟩, by simp [norm, k6]⟩
  rw [if_neg k6] at h
  by_cases k8 : k = 8
  · rw [if_pos k8] at h
    obtain ⟨u, b3, hu, f3, h⟩ := num_one h
    cases h
    exact ⟨b3, rfl, by simpa [form, k8] using f1.trans (f2.trans f3), ⟨hk, hi, z0, z0, hu, z0, e0, e0, z0, e0⟩, by simp [norm, k8]⟩
  rw [if_neg k8] at h
  by_cases k9 : k = 9
  · rw [if_pos k9] at h
    obtain ⟨u, b3, hu, f3, h⟩ := num_one h
    obtain ⟨v, b4, hv, f4, h⟩ := num_one h
    cases h
    exact ⟨b4, rfl, by simpa [form, k9] using f1.trans (f2.trans (f3.trans f4)), ⟨hk, hi, z0, hu, z0, hv, e0, e0, z0, e0⟩, by simp [norm, k9]⟩
  rw [if_neg k9] at h
  cases h
  exact ⟨b2, rfl, by simpa [form, k1, k2, k5, k6, k8, k9] using f1.trans f2, ⟨hk, hi, z0, z0, z0, z0, e0, e0, z0, e0⟩, by simp [norm, k1, k2, k5, k6, k8, k9]⟩
theorem rd_enc {s : ByteArray} {a b : Nat} {d : D} (hd : Fits d) (h : Fwd s a (form d) b) : rd s a = some (norm d, (b : Int)) := by
  obtain ⟨k, i, st, sa, pa, ca, ky, nm, ve, tx⟩ := d
  obtain ⟨hk, hi, hst, hsa, hpa, hca, hky, hnm, hve, htx⟩ := hd
  obtain ⟨b1, f1, h⟩ := h.split
  unfold rd
  rw [num_enc f1 hk]
  by_cases k1 : k = 1
  · simp only [k1, if_true] at h
    rw [if_pos k1, text_enc h (Nat.not_lt.1 htx)]
    simp [norm, k1]
  simp only [k1, if_false] at h
  obtain ⟨b2, f2, h⟩ := h.split
  rw [if_neg k1, num_enc f2 hi]
  by_cases k2 : k = 2
  · simp only [k2, if_true] at h
    obtain ⟨b3, f3, h⟩ := h.split
    obtain ⟨b4, f4, h⟩ := h.split
    rw [if_pos k2, text_enc f3 (Nat.not_lt.1 hky), text_enc f4 (Nat.not_lt.1 hnm), num_enc h hve]
    simp [norm, k2]
  simp only [k2, if_false] at h
  rw [if_neg k2]
  by_cases k5 : k = 5
  · simp only [k5, if_true] at h
    rw [if_pos k5, num_enc h hst]
    simp [norm, k5]
  simp only [k5, if_false] at h
  rw [if_neg k5]
  by_cases k6 : k = 6
  · simp only [k6, if_true] at h
    obtain ⟨b3, f3, h⟩ := h.split
    rw [if_pos k6, num_enc f3 hst, num_enc h hsa]
    simp [norm, k6]
  simp only [k6, if_false] at h
  rw [if_neg k6]
  by_cases k8 : k = 8
  · simp only [k8, if_true] at h
    rw [if_pos k8, num_enc h hpa]
    simp [norm, k8]
  simp only [k8, if_false] at h
  rw [if_neg k8]
  by_cases k9 : k = 9
  · simp only [k9, if_true] at h
    obtain ⟨b3, f3, h⟩ := h.split
    rw [if_pos k9, num_enc f3 hsa, num_enc h hca]
    simp [norm, k9]
  simp only [k9, if_false] at h
  rw [if_neg k9]
  obtain ⟨_, e, _⟩ := h
  simp only [List.length_nil, Nat.add_zero] at e
  subst e
  simp [norm, k1, k2, k5, k6, k8, k9]
end Go.Proofs.Ytejaepohkcjoiaa.CdNote

/- codec: what may be can be written, and is told whole by its form. -/
namespace Go.Proofs.Ytejaepohkcjoiaa.Nm
theorem decode_four (s : ByteArray) (pos : Nat) : (Utf8.decode s pos).2 ≤ 4 := by
  simp only [Utf8.decode]
  repeat' split
  all_goals simp
theorem from_four (s : ByteArray) : ∀ (n pos : Nat), s.size - pos = n → n ≤ 4 * (from_ s pos).length := by
  intro n
  induction n using Nat.strongRecOn with
  | _ n ih =>
    intro pos h
    by_cases hp : pos < s.size
    · have h1 := decode_pos s pos
      have h2 := decode_four s pos
      rw [from_step s pos hp, List.length_cons]
      have := ih (s.size - (pos + (Utf8.decode s pos).2)) (by omega) _ rfl
      omega
    · omega
theorem isGo_len : ∀ (l : List Int) (n : Nat), isGo l n = true → l.length + n ≤ 8
  | [], n, h => by
    simp [isGo] at h
    simp
    omega
  | r :: l, n, h => by
    simp only [isGo, Bool.and_eq_true] at h
    have := isGo_len l (n + 1) h.2
    simp only [List.length_cons]
    omega
theorem isName_size {s : ByteArray} (h : isName s = true) : s.size ≤ 32 := by
  have h1 := isGo_len _ _ h
  have h2 := from_four s s.size 0 (by omega)
  rw [from_zero] at h2
  omega
end Go.Proofs.Ytejaepohkcjoiaa.Nm

namespace Go.Proofs.Ytejaepohkcjoiaa.CdMay
open Go.Proofs.Ytejaepohkcjoiaa.Tabs Go.Proofs.Ytejaepohkcjoiaa.CdKeys
theorem btw_iff {n a b : Int} (h : btw n a b = true) : a ≤ n ∧ n ≤ b := by
  unfold btw at h
  simpa using h
theorem beq_bytes {a b : ByteArray} (h : (a.toList == b.toList) = true) : a = b := by
  have h' := eq_of_beq h
  rw [ByteArray.toList_eq, ByteArray.toList_eq] at h'
  exact ByteArray.ext (Array.ext' h')

theorem mayN_norm {d : CdNote.D} (h : mayN d = true) : CdNote.Fits d ∧ CdNote.norm d = d := by
  obtain ⟨k, i, st, sa, pa, ca, ky, nm, ve, tx⟩ := d
  simp only [mayN, eqN, Bool.and_eq_true] at h
  obtain ⟨ho, hi, e1, e2, e3, e4, e5, e6, e7, e8⟩ := h
  replace e1 := eq_of_beq e1
  replace e2 := eq_of_beq e2
  replace e3 := eq_of_beq e3
  replace e4 := eq_of_beq e4
  replace e5 := beq_bytes e5
  replace e6 := beq_bytes e6
  replace e7 := eq_of_beq e7
  replace e8 := beq_bytes e8
  have z := CdNote.z0
  have e0 := CdNote.e0
  by_cases k1 : k = 1
  · subst k1
    simp only [ownN, if_true, CdNote.nullD] at ho e1 e2 e3 e4 e5 e6 e7 hi
    have hb := btw_iff ho
    replace hi := eq_of_beq hi
    subst e1 e2 e3 e4 e5 e6 e7 hi
    exact ⟨⟨by simp, z, z, z, z, z, e0, e0, z, by simp only; omega⟩, by simp [CdNote.norm]⟩
  have hi : i ≥ 1 ∧ i ≤ 60 := by
    simp only [k1, if_false] at hi
    exact btw_iff hi
  have hii : 0 ≤ i ∧ i ≤ 1125899906842624 := by omega
  clear hi
  by_cases k2 : k = 2
  · subst k2
    simp only [ownN, CdNote.nullD] at ho e1 e2 e3 e4 e5 e6 e7 e8
    simp at ho e1 e2 e3 e4 e8
    have h1 := Nm.isName_size ho.1
    have h2 := Nm.isName_size ho.2.1
    have h3 := btw_iff ho.2.2
    subst e1 e2 e3 e4 e8
    exact ⟨⟨by simp, hii, z, z, z, z, by simp only; omega, by simp only; omega, by simp only; omega, e0⟩, by simp [CdNote.norm]⟩
  by_cases k5 : k = 5
  · subst k5
    simp [ownN, CdNote.nullD] at ho e2 e3 e4 e5 e6 e7 e8
    have h1 := btw_iff ho
    subst e2 e3 e4 e5 e6 e7 e8
    exact ⟨⟨by simp, hii, by simp only; omega, z, z, z, e0, e0, z, e0⟩, by simp [CdNote.norm]⟩
  by_cases k6 : k = 6
  · subst k6
    simp [ownN, CdNote.nullD] at ho e3 e4 e5 e6 e7 e8
    have h1 := btw_iff ho.1
    have h2 := btw_iff ho.2
    subst e3 e4 e5 e6 e7 e8
    exact ⟨⟨by simp, hii, by simp only; omega, by simp only; omega, z, z, e0, e0, z, e0⟩, by simp [CdNote.norm]⟩
  by_cases k8 : k = 8
  · subst k8
    simp [ownN, CdNote.nullD] at ho e1 e2 e4 e5 e6 e7 e8
    have h1 := btw_iff ho
    subst e1 e2 e4 e5 e6 e7 e8
    exact ⟨⟨by simp, hii, z, z, by simp only; omega, z, e0, e0, z, e0⟩, by simp [CdNote.norm]⟩
  by_cases k9 : k = 9
  · subst k9
    simp [ownN, CdNote.nullD] at ho e1 e3 e5 e6 e7 e8
    have h2 : (0 ≤ sa ∧ sa ≤ 1125899906842624) ∧ (0 ≤ ca ∧ ca ≤ 1125899906842624) := by
      rcases ho with ⟨rfl, rfl⟩ | ⟨rfl, hb⟩
      · omega
      · have := btw_iff hb
        omega
    subst e1 e3 e5 e6 e7 e8
    exact ⟨⟨by simp, hii, z, h2.1, z, h2.2, e0, e0, z, e0⟩, by simp [CdNote.norm]⟩
  by_cases k3 : k = 3 ∨ k = 4 ∨ k = 7
  · have hk : 0 ≤ k ∧ k ≤ 1125899906842624 := by omega
    simp only [ownN, k1, k2, k3, if_true, if_false, CdNote.nullD] at e1 e2 e3 e4 e5 e6 e7 e8
    subst e1 e2 e3 e4 e5 e6 e7 e8
    exact ⟨⟨hk, hii, z, z, z, z, e0, e0, z, e0⟩, by simp [CdNote.norm, k1, k2, k5, k6, k8, k9]⟩
  · simp [ownN, k1, k2, k3, k5, k6, k8, k9] at ho

theorem nil_of {l : List ByteArray} (h : ((l.length : Int) == 0) = true) : l = [] := by
  have := eq_of_beq h
  exact List.eq_nil_of_length_eq_zero (by omega)
theorem nil_fits : ([] : List ByteArray).length ≤ 4000 ∧ ∀ t ∈ ([] : List ByteArray), t.size ≤ 2000 := by simp
variable [Tab]
theorem goK_sizes : ∀ (l : List ByteArray) (p : Option ByteArray), goK p l = true → ∀ t ∈ l, t.size ≤ 32
  | [], _, _, t, ht => by cases ht
  | k :: l, none, h, t, ht => by
    simp only [goK, Bool.and_eq_true] at h
    rcases List.mem_cons.1 ht with rfl | ht
    · exact Nm.isName_size h.1
    · exact goK_sizes l _ h.2 t ht
  | k :: l, some p, h, t, ht => by
    simp only [goK, Bool.and_eq_true] at h
    rcases List.mem_cons.1 ht with rfl | ht
    · exact Nm.isName_size h.1
    · exact goK_sizes l _ h.2.2 t ht
theorem areKeys_fits {l : List ByteArray} (h : areKeys l = true) : l.length ≤ 4000 ∧ ∀ t ∈ l, t.size ≤ 2000 := by
  simp only [areKeys, Bool.and_eq_true, decide_eq_true_eq] at h
  exact ⟨by omega, fun t ht => by have := goK_sizes l _ h.2 t ht; omega⟩
theorem mayE_norm {d : CdEvent.D} (h : mayE d = true) : CdEvent.Fits d ∧ CdEvent.norm d = d := by
  obtain ⟨k, i, st, l⟩ := d
  simp only [mayE, Bool.and_eq_true] at h
  obtain ⟨⟨h1, h2, h3⟩, h4⟩ := h
  have h1 := btw_iff h1
  have h2 := btw_iff h2
  have h3 := btw_iff h3
  by_cases k1 : k = 1
  · simp only [k1, if_true] at h4
    exact ⟨⟨by simp only; omega, by simp only; omega, by simp only; omega, areKeys_fits h4⟩, by simp [CdEvent.norm, k1]⟩
  · simp only [k1, if_false, Bool.and_eq_true] at h4
    have hl := nil_of h4.2
    subst hl
    refine ⟨⟨by simp only; omega, by simp only; omega, by simp only; omega, nil_fits⟩, ?_⟩
    by_cases k6 : k = 6
    · have := h4.1
      simp only [k6, if_true, decide_eq_true_eq] at this
      simp [CdEvent.norm, k6, this]
    · simp [CdEvent.norm, k1, k6]
theorem mayL_norm {d : CdLetter.D} (h : mayL d = true) : CdLetter.Fits d ∧ CdLetter.norm d = d := by
  obtain ⟨k, p, i, st, so, l⟩ := d
  simp only [mayL, Bool.and_eq_true] at h
  obtain ⟨⟨h1, h0, h2⟩, h4⟩ := h
  have h1 := btw_iff h1
  have h0 := btw_iff h0
  have h2 := btw_iff h2
  by_cases k1 : k = 1
  · simp only [k1, if_true, Bool.and_eq_true] at h4
    have h3 := btw_iff h4.1
    have h5 := btw_iff h4.2.1
    exact ⟨⟨by simp only; omega, by simp only; omega, by simp only; omega, by simp only; omega, by simp only; omega, areKeys_fits h4.2.2⟩, by simp [CdLetter.norm, k1]⟩
  · simp only [k1, if_false, Bool.and_eq_true, decide_eq_true_eq] at h4
    obtain ⟨h5, h3, h6, h7⟩ := h4
    have h3 := btw_iff h3
    have hl := nil_of h7
    subst hl h6
    refine ⟨⟨by simp only; omega, by simp only; omega, by simp only; omega, by simp only; omega, by simp, nil_fits⟩, ?_⟩
    by_cases k6 : k = 3 ∨ k = 9
    · simp only [k6, if_true, decide_eq_true_eq] at h5
      simp [CdLetter.norm, k6, h5]
    · simp [CdLetter.norm, k1, k6]
end Go.Proofs.Ytejaepohkcjoiaa.CdMay

/- codec: Letter, Event, Note, ReadLetter, ReadEvent, ReadNote, What: the walks (written by wip/gen/mkio.py). -/
namespace Go.Proofs.Ytejaepohkcjoiaa.CdMay
open Go.RowKit Go.IntWalk Go.Proofs.Ytejaepohkcjoiaa.B Go.Proofs.YtejaepohkcjoiaaW.PrintWords Go.Proofs.YtejaepohkcjoiaaW.PrintLast Go.Proofs.YtejaepohkcjoiaaW.PrintMore Go.Proofs.Ytejaepohkcjoiaa.CdForm Go.Proofs.Ytejaepohkcjoiaa.Tabs
open Go.Proofs.Ytejaepohkcjoiaa.Nm (byte byte_at)

theorem alloc2 (w : World) (a b : Obj) : ((w.alloc a).alloc b).heap[w.heap.size + 1]? = some b := by
  have h : (w.heap.push a).size = w.heap.size + 1 := by simp
  show ((w.heap.push a).push b)[w.heap.size + 1]? = _
  generalize w.heap.push a = x at *
  rw [← h]
  exact Array.getElem?_push_size
theorem size2 (w : World) (a b : Obj) : w.heap.size + 1 < ((w.alloc a).alloc b).heap.size := by
  show _ < ((w.heap.push a).push b).size
  simp
theorem empty_iff (s : ByteArray) : s.toList.isEmpty = decide (s.size = 0) := by
  rw [ByteArray.toList_eq]
  have : s.data.toList.length = s.size := by simp
  cases hc : s.data.toList with
  | nil =>
    rw [hc] at this
    simp at this
    simp [← this]
  | cons a l =>
    rw [hc] at this
    simp only [List.length_cons] at this
    have hne : ¬ s.size = 0 := by omega
    simp [hne]
theorem size_zero {s : ByteArray} (h : s.size = 0) : s = ⟨#[]⟩ := by
  apply ByteArray.ext
  exact Array.eq_empty_of_size_eq_zero h
/-- What a text is read as. -/
inductive It where
  | l (d : CdLetter.D)
  | e (d : CdEvent.D)
  | n (d : CdNote.D)
def ItAt (B : Nat) (w : World) (v : Value) : Option It → Prop
  | none => v = .nilIface
  | some (.l d) => LetterAt B w v (some d)
  | some (.e d) => EventAt B w v (some d)
  | some (.n d) => NoteAt B w v (some d)
theorem at_l {B : Nat} {w : World} {v : Value} {o : Option CdLetter.D} (h : LetterAt B w v o) : ItAt B w v (o.map .l) := by cases o <;> exact h
theorem at_e {B : Nat} {w : World} {v : Value} {o : Option CdEvent.D} (h : EventAt B w v o) : ItAt B w v (o.map .e) := by cases o <;> exact h
theorem at_n {B : Nat} {w : World} {v : Value} {o : Option CdNote.D} (h : NoteAt B w v o) : ItAt B w v (o.map .n) := by cases o <;> exact h

variable [Tab]


set_option linter.unusedSimpArgs false in
set_option linter.unusedVariables false in
set_option maxHeartbeats 4000000 in
set_option maxRecDepth 100000 in
theorem Letter_calls (w : World) (A : Option Addr) (c : Nat) (d : CdLetter.D) (hr : Kd.C Kd.string w A d.keys.length d.keys) (hc : d.keys.length ≤ c) (hs : ∀ t ∈ d.keys, t.size ≤ 9000000000000000000) (hT : Tab.At w) :
    Calls Try.prog 11 #[.agg (CdLetter.cells d (.slice A d.keys.length c))] w fun e w' => e = .returned (wres (mayL d) ⟨#[76]⟩ (CdLetter.form d)) ∧ Below w.heap.size w w' := by
  have HS := Aside0.mk (And.intro hr (And.intro hc (And.intro hs hT)))
  clear hr hc hs hT
  have HN : Aside0 (∀ h : mayL d = true, CdLetter.Fits d) := ⟨fun h => (mayL_norm h).1⟩
  obtain ⟨kind, part, inst, step, sort, keys⟩ := d
  go_enter Try.func11, Try.ntmps11
  simp only [CdLetter.cells]
  go_wp2_with fail
  refine (written_letter _ (w.heap.size + 1) A c _ ⟨#[76]⟩ (by decide) (alloc2 w _ _) (Kd.C_below HS.out.1 (below_two w _ _)) HS.out.2.1 HS.out.2.2.1 (Tab.below HS.out.2.2.2 (below_two w _ _)) HN.out).mono ?_
  rintro e w1 ⟨rfl, hb⟩
  have HB := Aside0.mk (below_on (below_two w _ _) hb)
  clear hb
  generalize hm : mayL _ = m
  cases m
  all_goals
    have HM := Aside0.mk hm
    clear hm
    simp only [wres, Bool.false_eq_true, if_false, if_true]
    go_wp2
    go_returns
    exact ⟨by rw [HM.out]; rfl, HB.out⟩


set_option linter.unusedSimpArgs false in
set_option linter.unusedVariables false in
set_option maxHeartbeats 4000000 in
set_option maxRecDepth 100000 in
theorem Event_calls (w : World) (A : Option Addr) (c : Nat) (d : CdEvent.D) (hr : Kd.C Kd.string w A d.keys.length d.keys) (hc : d.keys.length ≤ c) (hs : ∀ t ∈ d.keys, t.size ≤ 9000000000000000000) (hT : Tab.At w) :
    Calls Try.prog 15 #[.agg (CdEvent.cells d (.slice A d.keys.length c))] w fun e w' => e = .returned (wres (mayE d) ⟨#[69]⟩ (CdEvent.form d)) ∧ Below w.heap.size w w' := by
  have HS := Aside0.mk (And.intro hr (And.intro hc (And.intro hs hT)))
  clear hr hc hs hT
  have HN : Aside0 (∀ h : mayE d = true, CdEvent.Fits d) := ⟨fun h => (mayE_norm h).1⟩
  obtain ⟨kind, inst, step, keys⟩ := d
  go_enter Try.func15, Try.ntmps15
  simp only [CdEvent.cells]
  go_wp2_with fail
  refine (written_event _ (w.heap.size + 1) A c _ ⟨#[69]⟩ (by decide) (alloc2 w _ _) (Kd.C_below HS.out.1 (below_two w _ _)) HS.out.2.1 HS.out.2.2.1 (Tab.below HS.out.2.2.2 (below_two w _ _)) HN.out).mono ?_
  rintro e w1 ⟨rfl, hb⟩
  have HB := Aside0.mk (below_on (below_two w _ _) hb)
  clear hb
  generalize hm : mayE _ = m
  cases m
  all_goals
    have HM := Aside0.mk hm
    clear hm
    simp only [wres, Bool.false_eq_true, if_false, if_true]
    go_wp2
    go_returns
    exact ⟨by rw [HM.out]; rfl, HB.out⟩


set_option linter.unusedSimpArgs false in
set_option linter.unusedVariables false in
set_option maxHeartbeats 4000000 in
set_option maxRecDepth 100000 in
theorem Note_calls (w : World) (d : CdNote.D) (hs : d.key.size ≤ 9000000000000000000 ∧ d.name.size ≤ 9000000000000000000) :
    Calls Try.prog 18 #[.agg (CdNote.cells d)] w fun e w' => e = .returned (wres (mayN d) ⟨#[78]⟩ (CdNote.form d)) ∧ Below w.heap.size w w' := by
  have HS := Aside0.mk hs
  clear hs
  have HN : Aside0 (∀ h : mayN d = true, CdNote.Fits d) := ⟨fun h => (mayN_norm h).1⟩
  obtain ⟨kind, inst, step, state, part, cause, key, name, version, text⟩ := d
  go_enter Try.func18, Try.ntmps18
  simp only [CdNote.cells]
  go_wp2_with fail
  refine (written_note _ (w.heap.size + 1)  _ ⟨#[78]⟩ (by decide) (alloc2 w _ _) HS.out HN.out).mono ?_
  rintro e w1 ⟨rfl, hb⟩
  have HB := Aside0.mk (below_on (below_two w _ _) hb)
  clear hb
  generalize hm : mayN _ = m
  cases m
  all_goals
    have HM := Aside0.mk hm
    clear hm
    simp only [wres, Bool.false_eq_true, if_false, if_true]
    go_wp2
    go_returns
    exact ⟨by rw [HM.out]; rfl, HB.out⟩


def readF (s : ByteArray) : Option It :=
  if s.size = 0 then none
  else if byte s 0 = 76 then (okL s (CdLetter.rd s 1)).map .l
  else if byte s 0 = 69 then (okE s (CdEvent.rd s 1)).map .e
  else if byte s 0 = 78 then (okN s (CdNote.rd s 1)).map .n
  else none
theorem read_calls (w : World) (s : ByteArray) (hs : s.size ≤ 1000000000000000) (hT : Tab.At w) :
    Calls Try.prog 33 #[.string s] w fun e w' => ∃ v, e = .returned v ∧ ItAt w.heap.size w' v (readF s) ∧ Below w.heap.size w w' := by
  by_cases h0 : s.size = 0
  · rw [size_zero h0]
    refine (read_empty w).mono ?_
    rintro e w' ⟨rfl, hb⟩
    exact ⟨_, rfl, rfl, hb⟩
  have hp : 0 < s.size := by omega
  have he : s.toList.isEmpty = false := by rw [empty_iff]; simpa using h0
  unfold readF
  rw [if_neg h0]
  by_cases hL : byte s 0 = 76
  · rw [if_pos hL]
    refine (read_letter w s he hp (by omega) hs _ rfl ?_ hT).mono ?_
    · intro d a h t ht
      have := (CdLetter.rd_one (a := 1) h).choose_spec.2.2.1.keys.2 t ht
      omega
    · rintro e w' ⟨v, rfl, hv, hb⟩
      exact ⟨v, rfl, at_l hv, hb⟩
  rw [if_neg hL]
  by_cases hE : byte s 0 = 69
  · rw [if_pos hE]
    refine (read_event w s he hp (by omega) hs _ rfl ?_ hT).mono ?_
    · intro d a h t ht
      have := (CdEvent.rd_one (a := 1) h).choose_spec.2.2.1.keys.2 t ht
      omega
    · rintro e w' ⟨v, rfl, hv, hb⟩
      exact ⟨v, rfl, at_e hv, hb⟩
  rw [if_neg hE]
  by_cases hN : byte s 0 = 78
  · rw [if_pos hN]
    refine (read_note w s he hp (by omega) hs _ rfl ?_).mono ?_
    · intro d a h
      have := (CdNote.rd_one (a := 1) h).choose_spec.2.2.1
      exact ⟨by have := this.key; omega, by have := this.name; omega⟩
    · rintro e w' ⟨v, rfl, hv, hb⟩
      exact ⟨v, rfl, at_n hv, hb⟩
  rw [if_neg hN]
  refine (read_other w s he hp (by rw [beq_eq_false_iff_ne]; omega) (by rw [beq_eq_false_iff_ne]; omega) (by rw [beq_eq_false_iff_ne]; omega)).mono ?_
  rintro e w' ⟨rfl, hb⟩
  exact ⟨_, rfl, rfl, hb⟩
end Go.Proofs.Ytejaepohkcjoiaa.CdMay

/- codec: ReadLetter, ReadEvent, ReadNote, What: the walks (written by wip/gen/mkio2.py). -/
namespace Go.Proofs.Ytejaepohkcjoiaa.CdMay
open Go.RowKit Go.IntWalk Go.Proofs.Ytejaepohkcjoiaa.B Go.Proofs.YtejaepohkcjoiaaW.PrintWords Go.Proofs.YtejaepohkcjoiaaW.PrintLast Go.Proofs.YtejaepohkcjoiaaW.PrintMore Go.Proofs.Ytejaepohkcjoiaa.CdForm Go.Proofs.Ytejaepohkcjoiaa.Tabs
open Go.Proofs.Ytejaepohkcjoiaa.Nm (byte byte_at)

theorem row_1' (w : World) (a : Obj) : (w.alloc a).heap[w.heap.size]? = some a := by
  show (w.heap.push a)[w.heap.size]? = _
  simp
theorem below_1 (w : World) (a : Obj) : Below w.heap.size w (w.alloc a) := (Below.refl _ _).alloc (Nat.le_refl _) a
theorem row4 {w : World} {g t : Nat} {a0 a1 a2 a3 : Value} (h : w.heap[g]? = some (.cells #[a0, a1, a2, a3] t (0, 0))) (v0 v1 v2 v3 : Value) :
    ((((w.setCell ⟨g, 0, none⟩ v0).setCell ⟨g, 1, none⟩ v1).setCell ⟨g, 2, none⟩ v2).setCell ⟨g, 3, none⟩ v3).heap[g]? = some (.cells #[v0, v1, v2, v3] t (0, 0)) := by
  have h0 : (w.setCell ⟨g, 0, none⟩ v0).heap[g]? = some (.cells #[v0, a1, a2, a3] t (0, 0)) := by
    rw [row_setCell h 0 v0]
    simp
  generalize w.setCell ⟨g, 0, none⟩ v0 = w0 at h0 ⊢
  have h1 : (w0.setCell ⟨g, 1, none⟩ v1).heap[g]? = some (.cells #[v0, v1, a2, a3] t (0, 0)) := by
    rw [row_setCell h0 1 v1]
    simp
  generalize w0.setCell ⟨g, 1, none⟩ v1 = w1 at h1 ⊢
  have h2 : (w1.setCell ⟨g, 2, none⟩ v2).heap[g]? = some (.cells #[v0, v1, v2, a3] t (0, 0)) := by
    rw [row_setCell h1 2 v2]
    simp
  generalize w1.setCell ⟨g, 2, none⟩ v2 = w2 at h2 ⊢
  have h3 : (w2.setCell ⟨g, 3, none⟩ v3).heap[g]? = some (.cells #[v0, v1, v2, v3] t (0, 0)) := by
    rw [row_setCell h2 3 v3]
    simp
  generalize w2.setCell ⟨g, 3, none⟩ v3 = w3 at h3 ⊢
  exact h3
theorem row6 {w : World} {g t : Nat} {a0 a1 a2 a3 a4 a5 : Value} (h : w.heap[g]? = some (.cells #[a0, a1, a2, a3, a4, a5] t (0, 0))) (v0 v1 v2 v3 v4 v5 : Value) :
    ((((((w.setCell ⟨g, 0, none⟩ v0).setCell ⟨g, 1, none⟩ v1).setCell ⟨g, 2, none⟩ v2).setCell ⟨g, 3, none⟩ v3).setCell ⟨g, 4, none⟩ v4).setCell ⟨g, 5, none⟩ v5).heap[g]? = some (.cells #[v0, v1, v2, v3, v4, v5] t (0, 0)) := by
  have h0 : (w.setCell ⟨g, 0, none⟩ v0).heap[g]? = some (.cells #[v0, a1, a2, a3, a4, a5] t (0, 0)) := by
    rw [row_setCell h 0 v0]
    simp
  generalize w.setCell ⟨g, 0, none⟩ v0 = w0 at h0 ⊢
  have h1 : (w0.setCell ⟨g, 1, none⟩ v1).heap[g]? = some (.cells #[v0, v1, a2, a3, a4, a5] t (0, 0)) := by
    rw [row_setCell h0 1 v1]
    simp
  generalize w0.setCell ⟨g, 1, none⟩ v1 = w1 at h1 ⊢
  have h2 : (w1.setCell ⟨g, 2, none⟩ v2).heap[g]? = some (.cells #[v0, v1, v2, a3, a4, a5] t (0, 0)) := by
    rw [row_setCell h1 2 v2]
    simp
  generalize w1.setCell ⟨g, 2, none⟩ v2 = w2 at h2 ⊢
  have h3 : (w2.setCell ⟨g, 3, none⟩ v3).heap[g]? = some (.cells #[v0, v1, v2, v3, a4, a5] t (0, 0)) := by
    rw [row_setCell h2 3 v3]
    simp
  generalize w2.setCell ⟨g, 3, none⟩ v3 = w3 at h3 ⊢
  have h4 : (w3.setCell ⟨g, 4, none⟩ v4).heap[g]? = some (.cells #[v0, v1, v2, v3, v4, a5] t (0, 0)) := by
    rw [row_setCell h3 4 v4]
    simp
  generalize w3.setCell ⟨g, 4, none⟩ v4 = w4 at h4 ⊢
  have h5 : (w4.setCell ⟨g, 5, none⟩ v5).heap[g]? = some (.cells #[v0, v1, v2, v3, v4, v5] t (0, 0)) := by
    rw [row_setCell h4 5 v5]
    simp
  generalize w4.setCell ⟨g, 5, none⟩ v5 = w5 at h5 ⊢
  exact h5
theorem assert_no (t : TypeId) (ht : t = 53 ∨ t = 59 ∨ t = 61) (w : World) : (Instr.typeAssert .nilIface 65 t true).run Try.prog w = .ok (.tuple #[.pointer none, .bool false]) w := by
  rcases ht with rfl | rfl | rfl <;> kernel_rfl

theorem assert_ll (p : Value) (w : World) : (Instr.typeAssert (.iface 53 p) 65 53 true).run Try.prog w = .ok (.tuple #[p, .bool true]) w := by
  kernel_rfl
theorem assert_le (p : Value) (w : World) : (Instr.typeAssert (.iface 53 p) 65 59 true).run Try.prog w = .ok (.tuple #[.pointer none, .bool false]) w := by
  kernel_rfl
theorem assert_ln (p : Value) (w : World) : (Instr.typeAssert (.iface 53 p) 65 61 true).run Try.prog w = .ok (.tuple #[.pointer none, .bool false]) w := by
  kernel_rfl
theorem assert_el (p : Value) (w : World) : (Instr.typeAssert (.iface 59 p) 65 53 true).run Try.prog w = .ok (.tuple #[.pointer none, .bool false]) w := by
  kernel_rfl
theorem assert_ee (p : Value) (w : World) : (Instr.typeAssert (.iface 59 p) 65 59 true).run Try.prog w = .ok (.tuple #[p, .bool true]) w := by
  kernel_rfl
theorem assert_en (p : Value) (w : World) : (Instr.typeAssert (.iface 59 p) 65 61 true).run Try.prog w = .ok (.tuple #[.pointer none, .bool false]) w := by
  kernel_rfl
theorem assert_nl (p : Value) (w : World) : (Instr.typeAssert (.iface 61 p) 65 53 true).run Try.prog w = .ok (.tuple #[.pointer none, .bool false]) w := by
  kernel_rfl
theorem assert_ne (p : Value) (w : World) : (Instr.typeAssert (.iface 61 p) 65 59 true).run Try.prog w = .ok (.tuple #[.pointer none, .bool false]) w := by
  kernel_rfl
theorem assert_nn (p : Value) (w : World) : (Instr.typeAssert (.iface 61 p) 65 61 true).run Try.prog w = .ok (.tuple #[p, .bool true]) w := by
  kernel_rfl
def whatF (o : Option It) : Int := match o with | some (.l _) => 1 | some (.e _) => 2 | some (.n _) => 3 | none => 0
def asLetter : Option It → Option CdLetter.D
  | some (.l d) => some d
  | _ => none
def LetterRes (B : Nat) (w : World) (v : Value) : Option CdLetter.D → Prop
  | none => v = .tuple #[.agg #[.int .i64 0, .int .i64 0, .int .i64 0, .int .i64 0, .int .i64 0, .slice none 0 0], .int .i64 70]
  | some d => ∃ sv, v = .tuple #[.agg (CdLetter.cells d sv), .int .i64 0] ∧ Kd.R Kd.string 9 w B (fun _ => True) sv d.keys

def asEvent : Option It → Option CdEvent.D
  | some (.e d) => some d
  | _ => none
def EventRes (B : Nat) (w : World) (v : Value) : Option CdEvent.D → Prop
  | none => v = .tuple #[.agg #[.int .i64 0, .int .i64 0, .int .i64 0, .slice none 0 0], .int .i64 70]
  | some d => ∃ sv, v = .tuple #[.agg (CdEvent.cells d sv), .int .i64 0] ∧ Kd.R Kd.string 9 w B (fun _ => True) sv d.keys

def asNote : Option It → Option CdNote.D
  | some (.n d) => some d
  | _ => none
def NoteRes (_B : Nat) (_w : World) (v : Value) : Option CdNote.D → Prop
  | none => v = .tuple #[.agg #[.int .i64 0, .int .i64 0, .int .i64 0, .int .i64 0, .int .i64 0, .int .i64 0, .string ⟨#[]⟩, .string ⟨#[]⟩, .int .i64 0, .string ⟨#[]⟩], .int .i64 70]
  | some d => v = .tuple #[.agg (CdNote.cells d), .int .i64 0]

variable [Tab]
set_option linter.unusedVariables false in
set_option maxHeartbeats 4000000 in
set_option maxRecDepth 100000 in
theorem what_calls (w : World) (s : ByteArray) (hs : s.size ≤ 1000000000000000) (hT : Tab.At w) :
    Calls Try.prog 21 #[.string s] w fun e w' => e = .returned (.int .i64 (whatF (readF s))) ∧ Below w.heap.size w w' := by
  have HT := Aside0.mk (And.intro hs hT)
  clear hs hT
  have hn := assert_no

  have hll := assert_ll
  have hle := assert_le
  have hln := assert_ln
  have hel := assert_el
  have hee := assert_ee
  have hen := assert_en
  have hnl := assert_nl
  have hne := assert_ne
  have hnn := assert_nn
  go_enter Try.func21, Try.ntmps21
  go_wp2_with fail
  refine (read_calls w s HT.out.1 HT.out.2).mono ?_
  generalize hr : readF s = r
  have HR := Aside0.mk hr
  clear hr
  rintro e w1 ⟨v, rfl, hv, hb⟩
  have HB := Aside0.mk hb
  clear hb
  rcases r with _ | d | d | d
  · obtain rfl := hv
    have hn1 := hn 53 (by simp)
    have hn2 := hn 59 (by simp)
    have hn3 := hn 61 (by simp)
    go_wp2
    go_returns
    exact ⟨by rw [HR.out]; rfl, HB.out⟩
  · obtain ⟨g, sv, rfl, _⟩ := hv
    go_wp2
    go_returns
    exact ⟨by rw [HR.out]; rfl, HB.out⟩
  · obtain ⟨g, sv, rfl, _⟩ := hv
    go_wp2
    go_returns
    exact ⟨by rw [HR.out]; rfl, HB.out⟩
  · obtain ⟨g, rfl, _⟩ := hv
    go_wp2
    go_returns
    exact ⟨by rw [HR.out]; rfl, HB.out⟩

set_option linter.unusedSimpArgs false in
set_option linter.unusedVariables false in
set_option maxHeartbeats 4000000 in
set_option maxRecDepth 100000 in
theorem ReadLetter_calls (w : World) (s : ByteArray) (hs : s.size ≤ 1000000000000000) (hT : Tab.At w) :
    Calls Try.prog 20 #[.string s] w fun e w' => ∃ v, e = .returned v ∧ LetterRes w.heap.size w' v (asLetter (readF s)) ∧ Below w.heap.size w w' := by
  have HT := Aside0.mk (And.intro hs hT)
  clear hs hT
  have hn := assert_no 53 (by simp)
  have hll := assert_ll
  have hel := assert_el
  have hnl := assert_nl
  go_enter Try.func20, Try.ntmps20
  go_wp2_with fail
  refine (read_calls _ s HT.out.1 (Tab.below HT.out.2 ((Below.refl _ _).alloc (Nat.le_refl _) _))).mono ?_
  generalize hr : readF s = r
  have HR := Aside0.mk hr
  clear hr
  rintro e w1 ⟨v, rfl, hv, hb⟩
  have hrow := row_below hb (row_1' w _)
  have HB := Aside0.mk (below_on (below_1 w _) hb)
  have HW := Aside0.mk hrow
  have hs0_ : w1.cell? ⟨w.heap.size, 0, none⟩ = some (.int .i64 0) := row_cell HW.out rfl
  have hf0_ : w1.frozen? ⟨w.heap.size, 0, none⟩ = false := free_of_row HW.out
  have hs1_ : w1.cell? ⟨w.heap.size, 1, none⟩ = some (.int .i64 0) := row_cell HW.out rfl
  have hf1_ : w1.frozen? ⟨w.heap.size, 1, none⟩ = false := free_of_row HW.out
  have hs2_ : w1.cell? ⟨w.heap.size, 2, none⟩ = some (.int .i64 0) := row_cell HW.out rfl
  have hf2_ : w1.frozen? ⟨w.heap.size, 2, none⟩ = false := free_of_row HW.out
  have hs3_ : w1.cell? ⟨w.heap.size, 3, none⟩ = some (.int .i64 0) := row_cell HW.out rfl
  have hf3_ : w1.frozen? ⟨w.heap.size, 3, none⟩ = false := free_of_row HW.out
  have hs4_ : w1.cell? ⟨w.heap.size, 4, none⟩ = some (.int .i64 0) := row_cell HW.out rfl
  have hf4_ : w1.frozen? ⟨w.heap.size, 4, none⟩ = false := free_of_row HW.out
  have hs5_ : w1.cell? ⟨w.heap.size, 5, none⟩ = some (.slice none 0 0) := row_cell HW.out rfl
  have hf5_ : w1.frozen? ⟨w.heap.size, 5, none⟩ = false := free_of_row HW.out
  clear hb hrow
  rcases r with _ | d | d | d
  · obtain rfl := hv
    go_wp2
    (try simp only [Exit.inBlock, Exit.then]); refine bodyPost_ret (results_ct rfl _ _ w.heap.size 24 _ (0, 0) _ rfl (row6 HW.out _ _ _ _ _ _) Try.underlying24 rfl (by kernel_rfl)) rfl ?_
    refine ⟨_, rfl, by rw [HR.out]; rfl, ?_⟩
    repeat (with_reducible (first | exact HB.out | apply below_set))
  · obtain ⟨g, sv, rfl, hge, hrow, hk⟩ := hv
    obtain ⟨kind, part, inst, step, sort, keys⟩ := d
    have HRW := Aside0.mk (And.intro hge hrow)
    obtain ⟨A, c, rfl⟩ := Kd.R_slice hk
    have HK := Aside0.mk hk
    clear hk
    have hd0_ : w1.cell? ⟨g, 0, none⟩ = some (.int .i64 kind) := row_cell hrow rfl
    have hd1_ : w1.cell? ⟨g, 1, none⟩ = some (.int .i64 part) := row_cell hrow rfl
    have hd2_ : w1.cell? ⟨g, 2, none⟩ = some (.int .i64 inst) := row_cell hrow rfl
    have hd3_ : w1.cell? ⟨g, 3, none⟩ = some (.int .i64 step) := row_cell hrow rfl
    have hd4_ : w1.cell? ⟨g, 4, none⟩ = some (.int .i64 sort) := row_cell hrow rfl
    have hd5_ : w1.cell? ⟨g, 5, none⟩ = some (.slice A keys.length c) := row_cell hrow rfl
    clear hge hrow
    go_wp2
    (try simp only [Exit.inBlock, Exit.then]); refine bodyPost_ret (results_ct rfl _ _ w.heap.size 24 _ (0, 0) _ rfl (row6 HW.out _ _ _ _ _ _) Try.underlying24 rfl (by kernel_rfl)) rfl ?_
    refine ⟨_, rfl, by rw [HR.out]; exact ⟨_, rfl, Kd.R_lower (Kd.R_mono (Kd.R_step (Kd.R_types HK.out HW.out (by intro q hq; simp [Kd.string, Kd.scalar] at hq; omega)) (fun k hk _ => by repeat rw [Below.heap_setCell _ _ _ _ hk.2])) (fun _ _ => trivial)) (below_1 w _).size⟩, ?_⟩
    repeat (with_reducible (first | exact HB.out | apply below_set))
  · obtain ⟨g, sv, rfl, _⟩ := hv
    go_wp2
    (try simp only [Exit.inBlock, Exit.then]); refine bodyPost_ret (results_ct rfl _ _ w.heap.size 24 _ (0, 0) _ rfl (row6 HW.out _ _ _ _ _ _) Try.underlying24 rfl (by kernel_rfl)) rfl ?_
    refine ⟨_, rfl, by rw [HR.out]; rfl, ?_⟩
    repeat (with_reducible (first | exact HB.out | apply below_set))
  · obtain ⟨g, rfl, _⟩ := hv
    go_wp2
    (try simp only [Exit.inBlock, Exit.then]); refine bodyPost_ret (results_ct rfl _ _ w.heap.size 24 _ (0, 0) _ rfl (row6 HW.out _ _ _ _ _ _) Try.underlying24 rfl (by kernel_rfl)) rfl ?_
    refine ⟨_, rfl, by rw [HR.out]; rfl, ?_⟩
    repeat (with_reducible (first | exact HB.out | apply below_set))
set_option linter.unusedSimpArgs false in
set_option linter.unusedVariables false in
set_option maxHeartbeats 4000000 in
set_option maxRecDepth 100000 in
theorem ReadEvent_calls (w : World) (s : ByteArray) (hs : s.size ≤ 1000000000000000) (hT : Tab.At w) :
    Calls Try.prog 23 #[.string s] w fun e w' => ∃ v, e = .returned v ∧ EventRes w.heap.size w' v (asEvent (readF s)) ∧ Below w.heap.size w w' := by
  have HT := Aside0.mk (And.intro hs hT)
  clear hs hT
  have hn := assert_no 59 (by simp)
  have hle := assert_le
  have hee := assert_ee
  have hne := assert_ne
  go_enter Try.func23, Try.ntmps23
  go_wp2_with fail
  refine (read_calls _ s HT.out.1 (Tab.below HT.out.2 ((Below.refl _ _).alloc (Nat.le_refl _) _))).mono ?_
  generalize hr : readF s = r
  have HR := Aside0.mk hr
  clear hr
  rintro e w1 ⟨v, rfl, hv, hb⟩
  have hrow := row_below hb (row_1' w _)
  have HB := Aside0.mk (below_on (below_1 w _) hb)
  have HW := Aside0.mk hrow
  have hs0_ : w1.cell? ⟨w.heap.size, 0, none⟩ = some (.int .i64 0) := row_cell HW.out rfl
  have hf0_ : w1.frozen? ⟨w.heap.size, 0, none⟩ = false := free_of_row HW.out
  have hs1_ : w1.cell? ⟨w.heap.size, 1, none⟩ = some (.int .i64 0) := row_cell HW.out rfl
  have hf1_ : w1.frozen? ⟨w.heap.size, 1, none⟩ = false := free_of_row HW.out
  have hs2_ : w1.cell? ⟨w.heap.size, 2, none⟩ = some (.int .i64 0) := row_cell HW.out rfl
  have hf2_ : w1.frozen? ⟨w.heap.size, 2, none⟩ = false := free_of_row HW.out
  have hs3_ : w1.cell? ⟨w.heap.size, 3, none⟩ = some (.slice none 0 0) := row_cell HW.out rfl
  have hf3_ : w1.frozen? ⟨w.heap.size, 3, none⟩ = false := free_of_row HW.out
  clear hb hrow
  rcases r with _ | d | d | d
  · obtain rfl := hv
    go_wp2
    (try simp only [Exit.inBlock, Exit.then]); refine bodyPost_ret (results_ct rfl _ _ w.heap.size 33 _ (0, 0) _ rfl (row4 HW.out _ _ _ _) Try.underlying33 rfl (by kernel_rfl)) rfl ?_
    refine ⟨_, rfl, by rw [HR.out]; rfl, ?_⟩
    repeat (with_reducible (first | exact HB.out | apply below_set))
  · obtain ⟨g, sv, rfl, _⟩ := hv
    go_wp2
    (try simp only [Exit.inBlock, Exit.then]); refine bodyPost_ret (results_ct rfl _ _ w.heap.size 33 _ (0, 0) _ rfl (row4 HW.out _ _ _ _) Try.underlying33 rfl (by kernel_rfl)) rfl ?_
    refine ⟨_, rfl, by rw [HR.out]; rfl, ?_⟩
    repeat (with_reducible (first | exact HB.out | apply below_set))
  · obtain ⟨g, sv, rfl, hge, hrow, hk⟩ := hv
    obtain ⟨kind, inst, step, keys⟩ := d
    have HRW := Aside0.mk (And.intro hge hrow)
    obtain ⟨A, c, rfl⟩ := Kd.R_slice hk
    have HK := Aside0.mk hk
    clear hk
    have hd0_ : w1.cell? ⟨g, 0, none⟩ = some (.int .i64 kind) := row_cell hrow rfl
    have hd1_ : w1.cell? ⟨g, 1, none⟩ = some (.int .i64 inst) := row_cell hrow rfl
    have hd2_ : w1.cell? ⟨g, 2, none⟩ = some (.int .i64 step) := row_cell hrow rfl
    have hd3_ : w1.cell? ⟨g, 3, none⟩ = some (.slice A keys.length c) := row_cell hrow rfl
    clear hge hrow
    go_wp2
    (try simp only [Exit.inBlock, Exit.then]); refine bodyPost_ret (results_ct rfl _ _ w.heap.size 33 _ (0, 0) _ rfl (row4 HW.out _ _ _ _) Try.underlying33 rfl (by kernel_rfl)) rfl ?_
    refine ⟨_, rfl, by rw [HR.out]; exact ⟨_, rfl, Kd.R_lower (Kd.R_mono (Kd.R_step (Kd.R_types HK.out HW.out (by intro q hq; simp [Kd.string, Kd.scalar] at hq; omega)) (fun k hk _ => by repeat rw [Below.heap_setCell _ _ _ _ hk.2])) (fun _ _ => trivial)) (below_1 w _).size⟩, ?_⟩
    repeat (with_reducible (first | exact HB.out | apply below_set))
  · obtain ⟨g, rfl, _⟩ := hv
    go_wp2
    (try simp only [Exit.inBlock, Exit.then]); refine bodyPost_ret (results_ct rfl _ _ w.heap.size 33 _ (0, 0) _ rfl (row4 HW.out _ _ _ _) Try.underlying33 rfl (by kernel_rfl)) rfl ?_
    refine ⟨_, rfl, by rw [HR.out]; rfl, ?_⟩
    repeat (with_reducible (first | exact HB.out | apply below_set))
set_option linter.unusedSimpArgs false in
set_option linter.unusedVariables false in
set_option maxHeartbeats 4000000 in
set_option maxRecDepth 100000 in
theorem ReadNote_calls (w : World) (s : ByteArray) (hs : s.size ≤ 1000000000000000) (hT : Tab.At w) :
    Calls Try.prog 24 #[.string s] w fun e w' => ∃ v, e = .returned v ∧ NoteRes w.heap.size w' v (asNote (readF s)) ∧ Below w.heap.size w w' := by
  have HT := Aside0.mk (And.intro hs hT)
  clear hs hT
  have hn := assert_no 61 (by simp)
  have hln := assert_ln
  have hen := assert_en
  have hnn := assert_nn
  go_enter Try.func24, Try.ntmps24
  go_wp2_with fail
  refine (read_calls _ s HT.out.1 (Tab.below HT.out.2 ((Below.refl _ _).alloc (Nat.le_refl _) _))).mono ?_
  generalize hr : readF s = r
  have HR := Aside0.mk hr
  clear hr
  rintro e w1 ⟨v, rfl, hv, hb⟩
  have hrow := row_below hb (row_1' w _)
  have HB := Aside0.mk (below_on (below_1 w _) hb)
  have HW := Aside0.mk hrow
  have hs0_ : w1.cell? ⟨w.heap.size, 0, none⟩ = some (.int .i64 0) := row_cell HW.out rfl
  have hf0_ : w1.frozen? ⟨w.heap.size, 0, none⟩ = false := free_of_row HW.out
  have hs1_ : w1.cell? ⟨w.heap.size, 1, none⟩ = some (.int .i64 0) := row_cell HW.out rfl
  have hf1_ : w1.frozen? ⟨w.heap.size, 1, none⟩ = false := free_of_row HW.out
  have hs2_ : w1.cell? ⟨w.heap.size, 2, none⟩ = some (.int .i64 0) := row_cell HW.out rfl
  have hf2_ : w1.frozen? ⟨w.heap.size, 2, none⟩ = false := free_of_row HW.out
  have hs3_ : w1.cell? ⟨w.heap.size, 3, none⟩ = some (.int .i64 0) := row_cell HW.out rfl
  have hf3_ : w1.frozen? ⟨w.heap.size, 3, none⟩ = false := free_of_row HW.out
  have hs4_ : w1.cell? ⟨w.heap.size, 4, none⟩ = some (.int .i64 0) := row_cell HW.out rfl
  have hf4_ : w1.frozen? ⟨w.heap.size, 4, none⟩ = false := free_of_row HW.out
  have hs5_ : w1.cell? ⟨w.heap.size, 5, none⟩ = some (.int .i64 0) := row_cell HW.out rfl
  have hf5_ : w1.frozen? ⟨w.heap.size, 5, none⟩ = false := free_of_row HW.out
  have hs6_ : w1.cell? ⟨w.heap.size, 6, none⟩ = some (.string ⟨#[]⟩) := row_cell HW.out rfl
  have hf6_ : w1.frozen? ⟨w.heap.size, 6, none⟩ = false := free_of_row HW.out
  have hs7_ : w1.cell? ⟨w.heap.size, 7, none⟩ = some (.string ⟨#[]⟩) := row_cell HW.out rfl
  have hf7_ : w1.frozen? ⟨w.heap.size, 7, none⟩ = false := free_of_row HW.out
  have hs8_ : w1.cell? ⟨w.heap.size, 8, none⟩ = some (.int .i64 0) := row_cell HW.out rfl
  have hf8_ : w1.frozen? ⟨w.heap.size, 8, none⟩ = false := free_of_row HW.out
  have hs9_ : w1.cell? ⟨w.heap.size, 9, none⟩ = some (.string ⟨#[]⟩) := row_cell HW.out rfl
  have hf9_ : w1.frozen? ⟨w.heap.size, 9, none⟩ = false := free_of_row HW.out
  clear hb hrow
  rcases r with _ | d | d | d
  · obtain rfl := hv
    go_wp2
    (try simp only [Exit.inBlock, Exit.then]); refine bodyPost_ret (results_ct rfl _ _ w.heap.size 38 _ (0, 0) _ rfl (row10 HW.out _ _ _ _ _ _ _ _ _ _) Try.underlying38 rfl (by kernel_rfl)) rfl ?_
    refine ⟨_, rfl, by rw [HR.out]; rfl, ?_⟩
    repeat (with_reducible (first | exact HB.out | apply below_set))
  · obtain ⟨g, sv, rfl, _⟩ := hv
    go_wp2
    (try simp only [Exit.inBlock, Exit.then]); refine bodyPost_ret (results_ct rfl _ _ w.heap.size 38 _ (0, 0) _ rfl (row10 HW.out _ _ _ _ _ _ _ _ _ _) Try.underlying38 rfl (by kernel_rfl)) rfl ?_
    refine ⟨_, rfl, by rw [HR.out]; rfl, ?_⟩
    repeat (with_reducible (first | exact HB.out | apply below_set))
  · obtain ⟨g, sv, rfl, _⟩ := hv
    go_wp2
    (try simp only [Exit.inBlock, Exit.then]); refine bodyPost_ret (results_ct rfl _ _ w.heap.size 38 _ (0, 0) _ rfl (row10 HW.out _ _ _ _ _ _ _ _ _ _) Try.underlying38 rfl (by kernel_rfl)) rfl ?_
    refine ⟨_, rfl, by rw [HR.out]; rfl, ?_⟩
    repeat (with_reducible (first | exact HB.out | apply below_set))
  · obtain ⟨g, rfl, hge, hrow⟩ := hv
    obtain ⟨kind, inst, step, state, part, cause, key, name, version, text⟩ := d
    have HRW := Aside0.mk (And.intro hge hrow)
    have hd0_ : w1.cell? ⟨g, 0, none⟩ = some (.int .i64 kind) := row_cell hrow rfl
    have hd1_ : w1.cell? ⟨g, 1, none⟩ = some (.int .i64 inst) := row_cell hrow rfl
    have hd2_ : w1.cell? ⟨g, 2, none⟩ = some (.int .i64 step) := row_cell hrow rfl
    have hd3_ : w1.cell? ⟨g, 3, none⟩ = some (.int .i64 state) := row_cell hrow rfl
    have hd4_ : w1.cell? ⟨g, 4, none⟩ = some (.int .i64 part) := row_cell hrow rfl
    have hd5_ : w1.cell? ⟨g, 5, none⟩ = some (.int .i64 cause) := row_cell hrow rfl
    have hd6_ : w1.cell? ⟨g, 6, none⟩ = some (.string key) := row_cell hrow rfl
    have hd7_ : w1.cell? ⟨g, 7, none⟩ = some (.string name) := row_cell hrow rfl
    have hd8_ : w1.cell? ⟨g, 8, none⟩ = some (.int .i64 version) := row_cell hrow rfl
    have hd9_ : w1.cell? ⟨g, 9, none⟩ = some (.string text) := row_cell hrow rfl
    clear hge hrow
    go_wp2
    (try simp only [Exit.inBlock, Exit.then]); refine bodyPost_ret (results_ct rfl _ _ w.heap.size 38 _ (0, 0) _ rfl (row10 HW.out _ _ _ _ _ _ _ _ _ _) Try.underlying38 rfl (by kernel_rfl)) rfl ?_
    refine ⟨_, rfl, by rw [HR.out]; rfl, ?_⟩
    repeat (with_reducible (first | exact HB.out | apply below_set))
end Go.Proofs.Ytejaepohkcjoiaa.CdMay

/- codec: what a written item is read as, and what can be read at all (written by wip/gen/mkrf.py). -/
namespace Go.Proofs.Ytejaepohkcjoiaa.CdMay
open Go.Proofs.Ytejaepohkcjoiaa.CdForm Go.Proofs.Ytejaepohkcjoiaa.Tabs
open Go.Proofs.Ytejaepohkcjoiaa.Nm (byte)

theorem size_of {s : ByteArray} {b : UInt8} {L : List UInt8} (h : s.data.toList = b :: L) : s.size = L.length + 1 := by
  have : s.data.toList.length = s.size := by simp
  rw [← this, h, List.length_cons]
theorem byte_of {s : ByteArray} {b : UInt8} {L : List UInt8} (h : s.data.toList = b :: L) : byte s 0 = b.toNat := by
  unfold byte
  rw [h]
  rfl
theorem fwd_of {s : ByteArray} {b : UInt8} {L more : List UInt8} (h : s.data.toList = b :: (L ++ more)) : Fwd s 1 L (1 + L.length) :=
  Fwd.of (rest := more) (by rw [size_of h]; omega) (by rw [h]; rfl)
theorem cons_of {s : ByteArray} {b : Nat} (h0 : ¬ s.size = 0) (hb : byte s 0 = b) : s.data.toList = UInt8.ofNat b :: s.data.toList.drop 1 := by
  subst hb
  have hl : s.data.toList.length = s.size := by simp
  unfold byte
  cases hc : s.data.toList with
  | nil => rw [hc] at hl; exact absurd hl.symm h0
  | cons a l => simp
theorem fwd_all {s : ByteArray} {b : Nat} {L : List UInt8} {e : Nat} (h0 : ¬ s.size = 0) (hb : byte s 0 = b) (h : Fwd s 1 L e) (he : (e : Int) = (s.size : Int)) : s.data.toList = UInt8.ofNat b :: L := by
  rw [cons_of h0 hb, h.1]
  have hl : s.data.toList.length = s.size := by simp
  rw [List.drop_eq_nil_of_le (by omega), List.append_nil]
theorem en_small {n : Int} (h0 : 0 ≤ n) (h : n < 128) : en n = [UInt8.ofNat n.toNat] := Pk.enc_small (by omega)
variable [Tab]

theorem rd_l {s : ByteArray} {more : List UInt8} {d : CdLetter.D} (hm : mayL d = true) (h : s.data.toList = 76 :: (CdLetter.form d ++ more)) :
    readF s = if more = [] then some (.l d) else none := by
  obtain ⟨hf, hn⟩ := mayL_norm hm
  have hr := CdLetter.rd_enc hf (fwd_of h)
  have hsz := size_of h
  have hb : byte s 0 = 76 := byte_of h
  rw [hn] at hr
  unfold readF
  rw [if_neg (by omega), if_pos hb]
  have hr' : CdLetter.rd s 1 = some (d, ((1 + (CdLetter.form d).length : Nat) : Int)) := hr
  rw [hr']
  rw [List.length_append] at hsz
  by_cases hmo : more = []
  · subst hmo
    rw [if_pos rfl]
    simp only [List.length_nil] at hsz
    simp only [okL]
    rw [if_pos ⟨by omega, hm⟩]
    rfl
  · rw [if_neg hmo]
    have := List.length_pos_iff.2 hmo
    simp only [okL]
    rw [if_neg (fun h => by omega)]
    rfl
theorem enc_l {s : ByteArray} {d : CdLetter.D} (hm : mayL d = true) (h : s.data.toList = 76 :: CdLetter.form d) : readF s = some (.l d) := by
  rw [rd_l (more := []) hm (by rw [h, List.append_nil]), if_pos rfl]
theorem more_l {s : ByteArray} {more : List UInt8} {d : CdLetter.D} (hm : mayL d = true) (h : s.data.toList = 76 :: (CdLetter.form d ++ more)) (hmo : more ≠ []) : readF s = none := by
  rw [rd_l hm h, if_neg hmo]

theorem rd_e {s : ByteArray} {more : List UInt8} {d : CdEvent.D} (hm : mayE d = true) (h : s.data.toList = 69 :: (CdEvent.form d ++ more)) :
    readF s = if more = [] then some (.e d) else none := by
  obtain ⟨hf, hn⟩ := mayE_norm hm
  have hr := CdEvent.rd_enc hf (fwd_of h)
  have hsz := size_of h
  have hb : byte s 0 = 69 := byte_of h
  rw [hn] at hr
  unfold readF
  rw [if_neg (by omega), if_neg (by omega), if_pos hb]
  have hr' : CdEvent.rd s 1 = some (d, ((1 + (CdEvent.form d).length : Nat) : Int)) := hr
  rw [hr']
  rw [List.length_append] at hsz
  by_cases hmo : more = []
  · subst hmo
    rw [if_pos rfl]
    simp only [List.length_nil] at hsz
    simp only [okE]
    rw [if_pos ⟨by omega, hm⟩]
    rfl
  · rw [if_neg hmo]
    have := List.length_pos_iff.2 hmo
    simp only [okE]
    rw [if_neg (fun h => by omega)]
    rfl
theorem enc_e {s : ByteArray} {d : CdEvent.D} (hm : mayE d = true) (h : s.data.toList = 69 :: CdEvent.form d) : readF s = some (.e d) := by
  rw [rd_e (more := []) hm (by rw [h, List.append_nil]), if_pos rfl]
theorem more_e {s : ByteArray} {more : List UInt8} {d : CdEvent.D} (hm : mayE d = true) (h : s.data.toList = 69 :: (CdEvent.form d ++ more)) (hmo : more ≠ []) : readF s = none := by
  rw [rd_e hm h, if_neg hmo]

theorem rd_n {s : ByteArray} {more : List UInt8} {d : CdNote.D} (hm : mayN d = true) (h : s.data.toList = 78 :: (CdNote.form d ++ more)) :
    readF s = if more = [] then some (.n d) else none := by
  obtain ⟨hf, hn⟩ := mayN_norm hm
  have hr := CdNote.rd_enc hf (fwd_of h)
  have hsz := size_of h
  have hb : byte s 0 = 78 := byte_of h
  rw [hn] at hr
  unfold readF
  rw [if_neg (by omega), if_neg (by omega), if_neg (by omega), if_pos hb]
  have hr' : CdNote.rd s 1 = some (d, ((1 + (CdNote.form d).length : Nat) : Int)) := hr
  rw [hr']
  rw [List.length_append] at hsz
  by_cases hmo : more = []
  · subst hmo
    rw [if_pos rfl]
    simp only [List.length_nil] at hsz
    simp only [okN]
    rw [if_pos ⟨by omega, hm⟩]
    rfl
  · rw [if_neg hmo]
    have := List.length_pos_iff.2 hmo
    simp only [okN]
    rw [if_neg (fun h => by omega)]
    rfl
theorem enc_n {s : ByteArray} {d : CdNote.D} (hm : mayN d = true) (h : s.data.toList = 78 :: CdNote.form d) : readF s = some (.n d) := by
  rw [rd_n (more := []) hm (by rw [h, List.append_nil]), if_pos rfl]
theorem more_n {s : ByteArray} {more : List UInt8} {d : CdNote.D} (hm : mayN d = true) (h : s.data.toList = 78 :: (CdNote.form d ++ more)) (hmo : more ≠ []) : readF s = none := by
  rw [rd_n hm h, if_neg hmo]

theorem one_all {s : ByteArray} {o : It} (h : readF s = some o) : match o with
    | .l d => mayL d = true ∧ s.data.toList = 76 :: CdLetter.form d
    | .e d => mayE d = true ∧ s.data.toList = 69 :: CdEvent.form d
    | .n d => mayN d = true ∧ s.data.toList = 78 :: CdNote.form d := by
  unfold readF at h
  by_cases h0 : s.size = 0
  · rw [if_pos h0] at h; cases h
  rw [if_neg h0] at h
  by_cases h1 : byte s 0 = 76
  · rw [if_pos h1] at h
    cases hr : CdLetter.rd s 1 with
    | none => rw [hr] at h; cases h
    | some x =>
      obtain ⟨d, a⟩ := x
      rw [hr] at h
      simp only [okL] at h
      split at h
      · rename_i hc
        cases h
        obtain ⟨e, rfl, hw, _⟩ := CdLetter.rd_one (a := 1) hr
        exact ⟨hc.2, fwd_all h0 h1 hw hc.1⟩
      · cases h
  rw [if_neg h1] at h
  by_cases h2 : byte s 0 = 69
  · rw [if_pos h2] at h
    cases hr : CdEvent.rd s 1 with
    | none => rw [hr] at h; cases h
    | some x =>
      obtain ⟨d, a⟩ := x
      rw [hr] at h
      simp only [okE] at h
      split at h
      · rename_i hc
        cases h
        obtain ⟨e, rfl, hw, _⟩ := CdEvent.rd_one (a := 1) hr
        exact ⟨hc.2, fwd_all h0 h2 hw hc.1⟩
      · cases h
  rw [if_neg h2] at h
  by_cases h3 : byte s 0 = 78
  · rw [if_pos h3] at h
    cases hr : CdNote.rd s 1 with
    | none => rw [hr] at h; cases h
    | some x =>
      obtain ⟨d, a⟩ := x
      rw [hr] at h
      simp only [okN] at h
      split at h
      · rename_i hc
        cases h
        obtain ⟨e, rfl, hw, _⟩ := CdNote.rd_one (a := 1) hr
        exact ⟨hc.2, fwd_all h0 h3 hw hc.1⟩
      · cases h
  rw [if_neg h3] at h
  cases h
theorem one_l {s : ByteArray} {d : CdLetter.D} (h : readF s = some (.l d)) : mayL d = true ∧ s.data.toList = 76 :: CdLetter.form d := one_all h
theorem one_e {s : ByteArray} {d : CdEvent.D} (h : readF s = some (.e d)) : mayE d = true ∧ s.data.toList = 69 :: CdEvent.form d := one_all h
theorem one_n {s : ByteArray} {d : CdNote.D} (h : readF s = some (.n d)) : mayN d = true ∧ s.data.toList = 78 :: CdNote.form d := one_all h
/-- Without its last byte a letter's form is no letter's. -/
theorem cut_l {s t : ByteArray} {d : CdLetter.D} {b : UInt8} (h : readF s = some (.l d)) (ht : s.data.toList = t.data.toList ++ [b]) : asLetter (readF t) = none := by
  cases hr : readF t with
  | none => rfl
  | some o =>
    cases o with
    | l d' =>
      obtain ⟨hm, he⟩ := one_l hr
      rw [he] at ht
      have := more_l (s := s) (more := [b]) hm (by rw [ht]; rfl) (by simp)
      rw [this] at h
      cases h
    | e d' => rfl
    | n d' => rfl

/-! ### the answers that live asks for -/
theorem live_l : mayL ⟨3, 1, 5, 0, 0, []⟩ = true ∧ CdLetter.form ⟨3, 1, 5, 0, 0, []⟩ = [3, 1, 5] := by
  constructor
  · simp [mayL, btw]
  · simp [CdLetter.form, en_small]
theorem live_n : readF ⟨#[78, 6, 5, 1, 2]⟩ = some (.n ⟨6, 5, 1, 2, 0, 0, ⟨#[]⟩, ⟨#[]⟩, 0, ⟨#[]⟩⟩) := by
  refine enc_n ?_ ?_
  · simp [mayN, ownN, eqN, btw, CdNote.nullD]
  · simp [CdNote.form, en_small]
theorem live_e : readF ⟨#[69, 6, 5]⟩ = some (.e ⟨6, 5, 0, []⟩) := by
  refine enc_e ?_ ?_
  · simp [mayE, btw]
  · simp [CdEvent.form, en_small]
end Go.Proofs.Ytejaepohkcjoiaa.CdMay

/- law 07: live: the walk (written by wip/gen/mklive.py). -/
namespace Go.Proofs.Ytejaepohkcjoiaa.CdMay
open Go.RowKit Go.IntWalk Go.Proofs.Ytejaepohkcjoiaa.B Go.Proofs.YtejaepohkcjoiaaW.PrintWords Go.Proofs.YtejaepohkcjoiaaW.PrintLast Go.Proofs.YtejaepohkcjoiaaW.PrintMore Go.Proofs.Ytejaepohkcjoiaa.CdForm Go.Proofs.Ytejaepohkcjoiaa.Tabs
theorem eqA38 (d : Nat) (w : World) (x0 y0 : Int) (x1 y1 : Int) (x2 y2 : Int) (x3 y3 : Int) (x4 y4 : Int) (x5 y5 : Int) (x6 y6 : ByteArray) (x7 y7 : ByteArray) (x8 y8 : Int) (x9 y9 : ByteArray) :
    (Op.equalIn (d + 2) 38 (.agg #[.int .i64 x0, .int .i64 x1, .int .i64 x2, .int .i64 x3, .int .i64 x4, .int .i64 x5, .string x6, .string x7, .int .i64 x8, .string x9]) (.agg #[.int .i64 y0, .int .i64 y1, .int .i64 y2, .int .i64 y3, .int .i64 y4, .int .i64 y5, .string y6, .string y7, .int .i64 y8, .string y9])).run Try.prog w = .ok (x0 == y0 && (x1 == y1 && (x2 == y2 && (x3 == y3 && (x4 == y4 && (x5 == y5 && (x6.toList == y6.toList && (x7.toList == y7.toList && (x8 == y8 && (x9.toList == y9.toList)))))))))) w := by
  refine eqA_of Try.underlying38 (by kernel_rfl) ?_
  refine eqf_cons (by rfl) (by go_simp; rfl) (by go_simp; rfl) (by go_simp) ?_
  refine eqf_cons (by rfl) (by go_simp; rfl) (by go_simp; rfl) (by go_simp) ?_
  refine eqf_cons (by rfl) (by go_simp; rfl) (by go_simp; rfl) (by go_simp) ?_
  refine eqf_cons (by rfl) (by go_simp; rfl) (by go_simp; rfl) (by go_simp) ?_
  refine eqf_cons (by rfl) (by go_simp; rfl) (by go_simp; rfl) (by go_simp) ?_
  refine eqf_cons (by rfl) (by go_simp; rfl) (by go_simp; rfl) (by go_simp) ?_
  refine eqf_cons (by rfl) (by go_simp; rfl) (by go_simp; rfl) (by go_simp) ?_
  refine eqf_cons (by rfl) (by go_simp; rfl) (by go_simp; rfl) (by go_simp) ?_
  refine eqf_cons (by rfl) (by go_simp; rfl) (by go_simp; rfl) (by go_simp) ?_
  exact eqf_last (by rfl) (by go_simp; rfl) (by go_simp; rfl) (by go_simp)
attribute [local go_sem high] eqA38
variable [Tab]

theorem live_letter (w : World) (hT : Tab.At w) : Calls Try.prog 11 #[.agg #[.int .i64 3, .int .i64 1, .int .i64 5, .int .i64 0, .int .i64 0, .slice none 0 0]] w fun e w' => e = .returned (.tuple #[.string ⟨#[76, 3, 1, 5]⟩, .int .i64 0]) ∧ Below w.heap.size w w' := by
  refine (Letter_calls w none 0 ⟨3, 1, 5, 0, 0, []⟩ (Kd.C_nil _ _) (Nat.le_refl _) (by intro t ht; cases ht) hT).mono ?_
  rintro e w' ⟨rfl, hb⟩
  rw [live_l.1, live_l.2]
  exact ⟨rfl, hb⟩
theorem live_note (w : World) (hT : Tab.At w) : Calls Try.prog 24 #[.string ⟨#[78, 6, 5, 1, 2]⟩] w fun e w' => e = .returned (.tuple #[.agg #[.int .i64 6, .int .i64 5, .int .i64 1, .int .i64 2, .int .i64 0, .int .i64 0, .string ⟨#[]⟩, .string ⟨#[]⟩, .int .i64 0, .string ⟨#[]⟩], .int .i64 0]) ∧ Below w.heap.size w w' := by
  refine (ReadNote_calls w ⟨#[78, 6, 5, 1, 2]⟩ (by decide) hT).mono ?_
  rintro e w' ⟨v, rfl, hv, hb⟩
  rw [live_n] at hv
  obtain rfl := hv
  exact ⟨rfl, hb⟩
theorem live_what (w : World) (hT : Tab.At w) : Calls Try.prog 21 #[.string ⟨#[69, 6, 5]⟩] w fun e w' => e = .returned (.int .i64 2) ∧ Below w.heap.size w w' := by
  refine (what_calls w ⟨#[69, 6, 5]⟩ (by decide) hT).mono ?_
  rintro e w' ⟨rfl, hb⟩
  rw [live_e]
  exact ⟨rfl, hb⟩

set_option linter.unusedSimpArgs false in
set_option linter.unusedVariables false in
set_option maxHeartbeats 4000000 in
set_option maxRecDepth 100000 in
theorem live_calls (w : World) (hT : Tab.At w) : Calls Try.prog 14 #[] w fun e w' => e = .returned (.bool true) ∧ Below w.heap.size w w' := by
  have HB := Aside0.mk (And.intro (Below.refl w.heap.size w) hT)
  clear hT
  go_enter Try.func14, Try.ntmps14
  go_wp2_with (first
    | (go_at_call 11; refine (live_letter _ HB.out.2).mono ?_; rintro e w1 ⟨rfl, hb⟩; replace HB := Aside0.mk (And.intro hb (Tab.below HB.out.2 hb)); clear hb)
    | (go_at_call 24; refine (live_note _ HB.out.2).mono ?_; rintro e w2 ⟨rfl, hb⟩; replace HB := Aside0.mk (And.intro (below_on HB.out.1 hb) (Tab.below HB.out.2 hb)); clear hb))
  have hb1 := below_1 w2 (.cells #[.int .i64 6, .int .i64 5, .int .i64 1, .int .i64 2, .int .i64 0, .int .i64 0, .string ⟨#[]⟩, .string ⟨#[]⟩, .int .i64 0, .string ⟨#[]⟩] 38)
  have HB2 := Aside0.mk (And.intro (below_on HB.out.1 hb1) (Tab.below HB.out.2 hb1))
  refine (live_what _ HB2.out.2).mono ?_
  rintro e w3 ⟨rfl, hb⟩
  have HB3 := Aside0.mk (below_on HB2.out.1 hb)
  clear hb hb1
  go_wp2
  go_ret
  exact ⟨by simp, HB3.out⟩
end Go.Proofs.Ytejaepohkcjoiaa.CdMay

/- How an argument that came in is read as plain data of a kind: numbers, bools, strings, and slices of these; with the sizes that the form's reach tells. -/
namespace Go.Proofs.Ytejaepohkcjoiaa.Opening
open Go.ChangeShapes Go.WideShapes Go.RowKit Go.Proofs.YtejaepohkcjoiaaW.PrintWords

/-- Whatever reads as data of a type is of the kind, and what the kind's values are bounded by holds. -/
structure Opens {α : Type} (P : Program) (t : TypeId) (d : Kd α) (B : α → Prop) : Prop where
  op : ∀ {H : Type} (enc : TypeId × Value → H) (w : World) (fuel : Nat) (cs : List Value) (x : DataW H × List MemPlace),
    DataW.trod enc P w 0 (fun _ => true) true fuel t cs = some x → (x.1.weights P t).all (· ≤ reachBytes) = true → ∃ a, d.K w a cs ∧ B a

section
variable {P : Program} {t e : TypeId}
theorem opens_int {k : IntKind} (ht : P.underlying t = some (.int k)) : Opens P t (Kd.int k) (fun n => (Lit.int k n).wf = true) :=
  ⟨fun enc w fuel cs x h _ => by
    obtain ⟨n, rfl, _, hw⟩ := DataW.trod_int ht h
    exact ⟨n, rfl, hw⟩⟩
theorem opens_bool (ht : P.underlying t = some .bool) : Opens P t Kd.bool (fun _ => True) :=
  ⟨fun enc w fuel cs x h _ => by
    obtain ⟨b, rfl, _⟩ := DataW.trod_bool ht h
    exact ⟨b, rfl, trivial⟩⟩
theorem opens_string (ht : P.underlying t = some .string) : Opens P t Kd.string (fun s => s.size ≤ 140737488351232) :=
  ⟨fun enc w fuel cs x h hz => by
    obtain ⟨s, rfl, hx, _⟩ := DataW.trod_string ht h
    refine ⟨s, rfl, ?_⟩
    rw [hx] at hz
    simp only [DataW.weights, List.all_cons, List.all_nil, Bool.and_true, decide_eq_true_eq] at hz
    rw [Array.length_toList] at hz
    exact hz⟩

theorem weights_all {H : Type} {P : Program} {e : TypeId} : ∀ (l : List (DataW H)) (d : DataW H), d ∈ l → ∀ n ∈ d.weights P e, n ∈ DataW.weightsAll P e l
  | [], _, h, _, _ => by simp at h
  | x :: r, d, h, n, hn => by
    simp only [DataW.weightsAll, List.mem_append]
    rcases List.mem_cons.1 h with h | h
    · subst h; exact Or.inl hn
    · exact Or.inr (weights_all r d h n hn)

/-- One list out of what holds at each place. -/
theorem list_of {α : Type} {n : Nat} {R : Nat → α → Prop} (h : ∀ i, i < n → ∃ a, R i a) : ∃ l : List α, l.length = n ∧ ∀ j a, l[j]? = some a → R j a := by
  induction n with
  | zero => exact ⟨[], rfl, fun j a hj => by simp at hj⟩
  | succ n ih =>
    obtain ⟨l, hl, hr⟩ := ih (fun i hi => h i (by omega))
    obtain ⟨a, ha⟩ := h n (by omega)
    refine ⟨l ++ [a], by simp [hl], fun j b hj => ?_⟩
    rcases Nat.lt_or_ge j l.length with hlt | hge
    · rw [List.getElem?_append_left hlt] at hj
      exact hr j b hj
    · have hj2 := (List.getElem?_eq_some_iff.1 hj).1
      rw [List.length_append, List.length_singleton] at hj2
      obtain rfl : j = l.length := by omega
      have : a = b := by simpa using hj
      subst this
      rw [hl]; exact ha

theorem opens_slice {α : Type} {d : Kd α} {B : α → Prop} (ht : P.underlying t = some (.slice e)) (hc : P.cellsOf e = d.sz) (h : Opens P e d B) :
    Opens P t (Kd.slice e d) (fun l => (∀ x ∈ l, B x) ∧ l.length * P.bytesOf e ≤ reachBytes) :=
  ⟨fun {H} enc w fuel cs x hx hz => by
    rcases DataW.trod_slice ht hx with ⟨rfl, _⟩ | ⟨a, len, cap, elems, rest, n, _, rfl, hxe, _, hl, hm, hlen, hel, _, _⟩
    · exact ⟨[], ⟨none, 0, rfl, Nat.le_refl _, rfl, Nat.zero_le _, fun h0 => absurd h0 (Nat.lt_irrefl _)⟩, by simp, by simp⟩
    · rw [hxe] at hz
      simp only [DataW.weights, ht, List.all_cons, Bool.and_eq_true, decide_eq_true_eq, List.all_append] at hz
      obtain ⟨hz0, hz1, _⟩ := hz
      have each : ∀ i, i < len → ∃ y : α, (∃ c, c.length = d.sz ∧ d.K w y c ∧ ∀ j u, c[j]? = some u → w.cell? (a.add (i * d.sz + j)) = some u) ∧ B y := by
        intro i hi
        have h1 := hel i hi
        have hi' : i < elems.length := by omega
        rw [List.getElem?_eq_getElem hi', Option.bind_eq_some_iff] at h1
        obtain ⟨c, h2, h3⟩ := h1
        have hw : (elems[i].1.weights P e).all (· ≤ reachBytes) = true := by
          rw [List.all_eq_true]
          intro m hmm
          exact List.all_eq_true.1 hz1 m (weights_all _ elems[i].1 (List.mem_map.2 ⟨elems[i], List.getElem_mem hi', rfl⟩) m hmm)
        obtain ⟨y, hy, hB⟩ := h.op enc w n c _ h3 hw
        obtain ⟨_, hcl, hcc⟩ := World.cells?_some h2
        rw [hc] at hcl hcc
        refine ⟨y, ⟨c, hcl, hy, fun j u hu => ?_⟩, hB⟩
        have hj : j < d.sz := by have := (List.getElem?_eq_some_iff.1 hu).1; omega
        have := hcc j hj
        rw [Addr.add_add] at this
        rw [this, hu]
      obtain ⟨l, hll, hr⟩ := list_of each
      refine ⟨l, ⟨some a, cap, by rw [hll], by omega, rfl, ?_, fun _ => ⟨a, rfl, fun j p hj => (hr j p hj).1⟩⟩, ?_, ?_⟩
      · have : len ≤ maxLen := Nat.le_trans hl hm
        rw [hll]
        exact this
      · intro y hy
        obtain ⟨j, hj⟩ := List.getElem?_of_mem hy
        exact (hr j y hj).2
      · rw [hll, ← hlen]
        have : elems.length * P.bytesOf e ≤ ((elems.map (·.1)).length + (rest.map (·.1)).length) * P.bytesOf e := Nat.mul_le_mul_right _ (by simp)
        omega⟩
end

section
variable {H : Type} {enc : TypeId × Value → H} {P : Program} {W : World} {t : TypeId} {v : Value} {D : DataW H} {ps : List MemPlace} {ts : List TypeId} {ds : List (DataW H)} {j : Nat}
/-- An argument, read. -/
theorem opened {α : Type} {d : Kd α} {B : α → Prop} (o : Opens P t d B) (hsz : (DataW.weightsEach P ts ds).all (· ≤ reachBytes) = true) (ht : ts[j]? = some t) (hd : ds[j]? = some D)
    (h : DataW.Trod enc P W 0 (fun _ => true) true t v D ps) : ∃ a, d.K W a v.cells.toList ∧ B a := by
  obtain ⟨fuel, hf⟩ := h
  refine o.op enc W fuel _ _ hf ?_
  rw [List.all_eq_true]
  intro n hn
  exact List.all_eq_true.1 hsz n (DataW.weights_mem_each ht hd n hn)
/-- A slice that came in. -/
theorem opened_slice {α : Type} {d : Kd α} {B : List α → Prop} {e : TypeId} {A : Option Addr} {n c : Nat} (o : Opens P t (Kd.slice e d) B) (hsz : (DataW.weightsEach P ts ds).all (· ≤ reachBytes) = true) (ht : ts[j]? = some t) (hd : ds[j]? = some D)
    (h : DataW.Trod enc P W 0 (fun _ => true) true t (.slice A n c) D ps) : ∃ l : List α, l.length = n ∧ n ≤ c ∧ d.C W A l.length l ∧ B l := by
  obtain ⟨l, ⟨A', c', he, hl, hC⟩, hB⟩ := opened o hsz ht hd h
  simp only [Value.cells, List.cons.injEq, Value.slice.injEq, and_true] at he
  obtain ⟨rfl, rfl, rfl⟩ := he
  exact ⟨l, rfl, hl, hC, hB⟩
end
end Go.Proofs.Ytejaepohkcjoiaa.Opening

/- Arguments of the struct types of this law, read as plain data (written by wip/gen/mkopensk.py). -/
namespace Go.Proofs.Ytejaepohkcjoiaa.Opening
open Go.ChangeShapes Go.WideShapes Go.RowKit Go.Proofs.YtejaepohkcjoiaaW.PrintWords

structure OpensK {α : Type} (P : Program) (t : TypeId) (K : World → α → List Value → Prop) (B : α → Prop) : Prop where
  op : ∀ {H : Type} (enc : TypeId × Value → H) (w : World) (fuel : Nat) (cs : List Value) (x : DataW H × List MemPlace),
    DataW.trod enc P w 0 (fun _ => true) true fuel t cs = some x → (x.1.weights P t).all (· ≤ reachBytes) = true → ∃ a, K w a cs ∧ B a
theorem OpensK.of {α : Type} {P : Program} {t : TypeId} {d : Kd α} {B : α → Prop} (o : Opens P t d B) : OpensK P t d.K B := ⟨o.op⟩

theorem fields {H : Type} {enc : TypeId × Value → H} {P : Program} {t : TypeId} {fs : Array Field} {w : World} {fuel : Nat} {cs : List Value} {x : DataW H × List MemPlace} (ht : P.underlying t = some (.struct fs))
    (h : DataW.trod enc P w 0 (fun _ => true) true fuel t cs = some x) (hz : (x.1.weights P t).all (· ≤ reachBytes) = true) :
    cs.length = P.cellsOf t ∧ ∀ (i : Nat) (f : Field), fs[i]? = some f → ∀ {α : Type} {K : World → α → List Value → Prop} {B : α → Prop}, OpensK P f.type K B → ∃ a, K w a ((cs.drop f.offset).take (P.cellsOf f.type)) ∧ B a := by
  obtain ⟨xs, n, rfl, rfl, hl, hlen, hf⟩ := DataW.trod_struct ht h
  refine ⟨hl, fun i f hi {α K B} o => ?_⟩
  have h1 := hf i f hi
  have hlt : i < xs.length := by have := (Array.getElem?_eq_some_iff.1 hi).1; omega
  rw [List.getElem?_eq_getElem hlt] at h1
  refine o.op enc w n _ _ h1 ?_
  rw [List.all_eq_true] at hz ⊢
  intro m hm
  refine hz m ?_
  simp only [DataW.weights, ht]
  exact DataW.weights_mem_each (j := i) (by simp [hi]) (by simp [List.getElem?_map, List.getElem?_eq_getElem hlt]) m hm
theorem cons_len {cs : List Value} {n : Nat} (h : cs.length = n + 1) : ∃ c r, cs = c :: r ∧ r.length = n := by
  cases cs with
  | nil => cases h
  | cons c r => exact ⟨c, r, rfl, by simpa using h⟩
theorem openedK {H : Type} {enc : TypeId × Value → H} {P : Program} {W : World} {t : TypeId} {v : Value} {D : DataW H} {ps : List MemPlace} {ts : List TypeId} {ds : List (DataW H)} {j : Nat}
    {α : Type} {K : World → α → List Value → Prop} {B : α → Prop} (o : OpensK P t K B) (hsz : (DataW.weightsEach P ts ds).all (· ≤ reachBytes) = true) (ht : ts[j]? = some t) (hd : ds[j]? = some D)
    (h : DataW.Trod enc P W 0 (fun _ => true) true t v D ps) : ∃ a, K W a v.cells.toList ∧ B a := by
  obtain ⟨fuel, hf⟩ := h
  refine o.op enc W fuel _ _ hf ?_
  rw [List.all_eq_true]
  intro n hn
  exact List.all_eq_true.1 hsz n (DataW.weights_mem_each ht hd n hn)

def LetterK (w : World) (d : CdLetter.D) (cs : List Value) : Prop := ∃ A c, cs = (CdLetter.cells d (.slice A d.keys.length c)).toList ∧ d.keys.length ≤ c ∧ Kd.C Kd.string w A d.keys.length d.keys
def LetterB (d : CdLetter.D) : Prop := (Lit.int .i64 d.kind).wf = true ∧ (Lit.int .i64 d.part).wf = true ∧ (Lit.int .i64 d.inst).wf = true ∧ (Lit.int .i64 d.step).wf = true ∧ (Lit.int .i64 d.sort).wf = true ∧ (∀ x ∈ d.keys, x.size ≤ 140737488351232)
set_option maxRecDepth 100000 in
theorem opens_Letter : OpensK Try.prog 24 LetterK LetterB := by
  refine ⟨fun enc w fuel cs x h hz => ?_⟩
  obtain ⟨hl, hf⟩ := fields Try.underlying24 h hz
  obtain ⟨a0, k0, b0⟩ := hf 0 _ rfl (.of (opens_int (k := .i64) Try.underlying3))
  obtain ⟨a1, k1, b1⟩ := hf 1 _ rfl (.of (opens_int (k := .i64) Try.underlying3))
  obtain ⟨a2, k2, b2⟩ := hf 2 _ rfl (.of (opens_int (k := .i64) Try.underlying3))
  obtain ⟨a3, k3, b3⟩ := hf 3 _ rfl (.of (opens_int (k := .i64) Try.underlying3))
  obtain ⟨a4, k4, b4⟩ := hf 4 _ rfl (.of (opens_int (k := .i64) Try.underlying3))
  obtain ⟨a5, k5, b5⟩ := hf 5 _ rfl (.of (opens_slice Try.underlying22 (by kernel_rfl) (opens_string Try.underlying9)))
  have hn : cs.length = 6 := hl.trans (by kernel_rfl)
  obtain ⟨c0, r0, rfl, n0⟩ := cons_len hn
  obtain ⟨c1, r1, rfl, n1⟩ := cons_len n0
  obtain ⟨c2, r2, rfl, n2⟩ := cons_len n1
  obtain ⟨c3, r3, rfl, n3⟩ := cons_len n2
  obtain ⟨c4, r4, rfl, n4⟩ := cons_len n3
  obtain ⟨c5, r5, rfl, n5⟩ := cons_len n4
  obtain rfl := List.eq_nil_of_length_eq_zero n5
  replace k0 : [c0] = [.int .i64 a0] := k0
  cases k0
  replace k1 : [c1] = [.int .i64 a1] := k1
  cases k1
  replace k2 : [c2] = [.int .i64 a2] := k2
  cases k2
  replace k3 : [c3] = [.int .i64 a3] := k3
  cases k3
  replace k4 : [c4] = [.int .i64 a4] := k4
  cases k4
  obtain ⟨A, c, k5, hc, hC⟩ := k5
  replace k5 : [c5] = [.slice A a5.length c] := k5
  cases k5
  exact ⟨⟨a0, a1, a2, a3, a4, a5⟩, ⟨A, c, rfl, hc, hC⟩, b0, b1, b2, b3, b4, b5.1⟩
def EventK (w : World) (d : CdEvent.D) (cs : List Value) : Prop := ∃ A c, cs = (CdEvent.cells d (.slice A d.keys.length c)).toList ∧ d.keys.length ≤ c ∧ Kd.C Kd.string w A d.keys.length d.keys
def EventB (d : CdEvent.D) : Prop := (Lit.int .i64 d.kind).wf = true ∧ (Lit.int .i64 d.inst).wf = true ∧ (Lit.int .i64 d.step).wf = true ∧ (∀ x ∈ d.keys, x.size ≤ 140737488351232)
set_option maxRecDepth 100000 in
theorem opens_Event : OpensK Try.prog 33 EventK EventB := by
  refine ⟨fun enc w fuel cs x h hz => ?_⟩
  obtain ⟨hl, hf⟩ := fields Try.underlying33 h hz
  obtain ⟨a0, k0, b0⟩ := hf 0 _ rfl (.of (opens_int (k := .i64) Try.underlying3))
  obtain ⟨a1, k1, b1⟩ := hf 1 _ rfl (.of (opens_int (k := .i64) Try.underlying3))
  obtain ⟨a2, k2, b2⟩ := hf 2 _ rfl (.of (opens_int (k := .i64) Try.underlying3))
  obtain ⟨a3, k3, b3⟩ := hf 3 _ rfl (.of (opens_slice Try.underlying22 (by kernel_rfl) (opens_string Try.underlying9)))
  have hn : cs.length = 4 := hl.trans (by kernel_rfl)
  obtain ⟨c0, r0, rfl, n0⟩ := cons_len hn
  obtain ⟨c1, r1, rfl, n1⟩ := cons_len n0
  obtain ⟨c2, r2, rfl, n2⟩ := cons_len n1
  obtain ⟨c3, r3, rfl, n3⟩ := cons_len n2
  obtain rfl := List.eq_nil_of_length_eq_zero n3
  replace k0 : [c0] = [.int .i64 a0] := k0
  cases k0
  replace k1 : [c1] = [.int .i64 a1] := k1
  cases k1
  replace k2 : [c2] = [.int .i64 a2] := k2
  cases k2
  obtain ⟨A, c, k3, hc, hC⟩ := k3
  replace k3 : [c3] = [.slice A a3.length c] := k3
  cases k3
  exact ⟨⟨a0, a1, a2, a3⟩, ⟨A, c, rfl, hc, hC⟩, b0, b1, b2, b3.1⟩
def NoteK (_w : World) (d : CdNote.D) (cs : List Value) : Prop := cs = (CdNote.cells d).toList
def NoteB (d : CdNote.D) : Prop := (Lit.int .i64 d.kind).wf = true ∧ (Lit.int .i64 d.inst).wf = true ∧ (Lit.int .i64 d.step).wf = true ∧ (Lit.int .i64 d.state).wf = true ∧ (Lit.int .i64 d.part).wf = true ∧ (Lit.int .i64 d.cause).wf = true ∧ d.key.size ≤ 140737488351232 ∧ d.name.size ≤ 140737488351232 ∧ (Lit.int .i64 d.version).wf = true ∧ d.text.size ≤ 140737488351232
set_option maxRecDepth 100000 in
theorem opens_Note : OpensK Try.prog 38 NoteK NoteB := by
  refine ⟨fun enc w fuel cs x h hz => ?_⟩
  obtain ⟨hl, hf⟩ := fields Try.underlying38 h hz
  obtain ⟨a0, k0, b0⟩ := hf 0 _ rfl (.of (opens_int (k := .i64) Try.underlying3))
  obtain ⟨a1, k1, b1⟩ := hf 1 _ rfl (.of (opens_int (k := .i64) Try.underlying3))
  obtain ⟨a2, k2, b2⟩ := hf 2 _ rfl (.of (opens_int (k := .i64) Try.underlying3))
  obtain ⟨a3, k3, b3⟩ := hf 3 _ rfl (.of (opens_int (k := .i64) Try.underlying3))
  obtain ⟨a4, k4, b4⟩ := hf 4 _ rfl (.of (opens_int (k := .i64) Try.underlying3))
  obtain ⟨a5, k5, b5⟩ := hf 5 _ rfl (.of (opens_int (k := .i64) Try.underlying3))
  obtain ⟨a6, k6, b6⟩ := hf 6 _ rfl (.of (opens_string Try.underlying9))
  obtain ⟨a7, k7, b7⟩ := hf 7 _ rfl (.of (opens_string Try.underlying9))
  obtain ⟨a8, k8, b8⟩ := hf 8 _ rfl (.of (opens_int (k := .i64) Try.underlying3))
  obtain ⟨a9, k9, b9⟩ := hf 9 _ rfl (.of (opens_string Try.underlying9))
  have hn : cs.length = 10 := hl.trans (by kernel_rfl)
  obtain ⟨c0, r0, rfl, n0⟩ := cons_len hn
  obtain ⟨c1, r1, rfl, n1⟩ := cons_len n0
  obtain ⟨c2, r2, rfl, n2⟩ := cons_len n1
  obtain ⟨c3, r3, rfl, n3⟩ := cons_len n2
  obtain ⟨c4, r4, rfl, n4⟩ := cons_len n3
  obtain ⟨c5, r5, rfl, n5⟩ := cons_len n4
  obtain ⟨c6, r6, rfl, n6⟩ := cons_len n5
  obtain ⟨c7, r7, rfl, n7⟩ := cons_len n6
  obtain ⟨c8, r8, rfl, n8⟩ := cons_len n7
  obtain ⟨c9, r9, rfl, n9⟩ := cons_len n8
  obtain rfl := List.eq_nil_of_length_eq_zero n9
  replace k0 : [c0] = [.int .i64 a0] := k0
  cases k0
  replace k1 : [c1] = [.int .i64 a1] := k1
  cases k1
  replace k2 : [c2] = [.int .i64 a2] := k2
  cases k2
  replace k3 : [c3] = [.int .i64 a3] := k3
  cases k3
  replace k4 : [c4] = [.int .i64 a4] := k4
  cases k4
  replace k5 : [c5] = [.int .i64 a5] := k5
  cases k5
  replace k6 : [c6] = [.string a6] := k6
  cases k6
  replace k7 : [c7] = [.string a7] := k7
  cases k7
  replace k8 : [c8] = [.int .i64 a8] := k8
  cases k8
  replace k9 : [c9] = [.string a9] := k9
  cases k9
  exact ⟨⟨a0, a1, a2, a3, a4, a5, a6, a7, a8, a9⟩, rfl, b0, b1, b2, b3, b4, b5, b6, b7, b8, b9⟩
end Go.Proofs.Ytejaepohkcjoiaa.Opening

/- unicode/utf8.decodeRuneInStringSlow, DecodeRuneInString and name.Compare over tables of whatever content: the walks, by hand. -/
namespace Go.Proofs.Ytejaepohkcjoiaa.CmpWalk
open Go.Proofs.Ytejaepohkcjoiaa.Nm (byte byte_lt byte_at)
open Go.RowKit Go.IntWalk Go.Proofs.YtejaepohkcjoiaaW.PrintWords Go.Proofs.YtejaepohkcjoiaaW.PrintMore

/-- What the two tables of unicode/utf8 hold. -/
structure Utabs where
  first : Nat → Nat
  lo : Nat → Nat
  hi : Nat → Nat
  first8 : ∀ i, first i < 256
  lo8 : ∀ i, lo i < 256
  hi8 : ∀ i, hi i < 256
structure TabsRaw (T : Utabs) (w : World) : Prop where
  first : ∀ i, i < 256 → w.cell? ⟨0, i, none⟩ = some (.int .u8 (T.first i))
  lo : ∀ i, i < 16 → w.cell? ⟨1, i * 2, none⟩ = some (.int .u8 (T.lo i))
  hi : ∀ i, i < 16 → w.cell? ⟨1, i * 2 + 1, none⟩ = some (.int .u8 (T.hi i))

/-- What is decoded. -/
def decT (T : Utabs) (s : ByteArray) : Nat × Nat :=
  let x := T.first (byte s 0)
  if 240 ≤ x then (if x % 2 = 1 then 65533 else byte s 0, 1)
  else if s.size < x % 8 then (65533, 1)
  else if byte s 1 < T.lo (x / 16) ∨ T.hi (x / 16) < byte s 1 then (65533, 1)
  else if x % 8 ≤ 2 then (byte s 0 % 32 * 64 + byte s 1 % 64, 2)
  else if byte s 2 < 128 ∨ 191 < byte s 2 then (65533, 1)
  else if x % 8 ≤ 3 then (byte s 0 % 16 * 4096 + byte s 1 % 64 * 64 + byte s 2 % 64, 3)
  else if byte s 3 < 128 ∨ 191 < byte s 3 then (65533, 1)
  else (byte s 0 % 8 * 262144 + byte s 1 % 64 * 4096 + byte s 2 % 64 * 64 + byte s 3 % 64, 4)

theorem two_eq {a b a' b' : Int} (h1 : a = a') (h2 : b = b') : Ending.returned (.tuple #[.int .i32 a, .int .i64 b]) = Ending.returned (.tuple #[.int .i32 a', .int .i64 b']) := by rw [h1, h2]
theorem mask_odd (x : Nat) (ho : x % 2 = 1) : wrap32 ((x : Int) * 2147483648) / 2147483648 = -1 := by unfold wrap32; omega
theorem mask_even (x : Nat) (ho : ¬ x % 2 = 1) : wrap32 ((x : Int) * 2147483648) / 2147483648 = 0 := by unfold wrap32; omega
theorem high_odd (b : Nat) (h : b < 256) : Go.bits .or .i32 (Go.bits .andNot .i32 (b : Int) (-1)) (Go.bits .and .i32 65533 (-1)) = 65533 := by
  have : ∀ b : Fin 256, Go.bits .or .i32 (Go.bits .andNot .i32 ((b : Nat) : Int) (-1)) (Go.bits .and .i32 65533 (-1)) = 65533 := by decide +kernel
  exact this ⟨b, h⟩
theorem high_even (b : Nat) (h : b < 256) : Go.bits .or .i32 (Go.bits .andNot .i32 (b : Int) 0) (Go.bits .and .i32 65533 0) = (b : Int) := by
  have : ∀ b : Fin 256, Go.bits .or .i32 (Go.bits .andNot .i32 ((b : Nat) : Int) 0) (Go.bits .and .i32 65533 0) = ((b : Nat) : Int) := by decide +kernel
  exact this ⟨b, h⟩

set_option maxHeartbeats 1000000 in
set_option maxRecDepth 100000 in
theorem slow_calls (T : Utabs) (s : ByteArray) (w : World) (hT : TabsRaw T w) (h2 : 2 ≤ s.size) (hs : s.size ≤ 9000000000000000000) :
    Calls Try.prog 95 #[.string s] w fun e w' => e = .returned (.tuple #[.int .i32 (decT T s).1, .int .i64 (decT T s).2]) ∧ Below w.heap.size w w' := by
  have hx8 := T.first8 (byte s 0)
  have hb0 := byte_at s 0 (by omega)
  have hb1 := byte_at s 1 (by omega)
  have hl0 := byte_lt s 0
  have hc := hT.first (byte s 0) hl0
  have hlo := hT.lo (T.first (byte s 0) / 16) (by omega)
  have hhi := hT.hi (T.first (byte s 0) / 16) (by omega)
  have hlt0 : 0 < w.heap.size := World.block_lt_of_cell? w _ hc
  have hlt1 : 1 < w.heap.size := World.block_lt_of_cell? w _ hlo
  have HD : Aside0 (decT T s = decT T s) := ⟨rfl⟩
  by_cases h240 : 240 ≤ T.first (byte s 0)
  · have hd : decT T s = (if T.first (byte s 0) % 2 = 1 then 65533 else byte s 0, 1) := by
      unfold decT; simp only; rw [if_pos h240]
    generalize hxx : T.first (byte s 0) = x at *
    have HDD := Aside0.mk hd
    clear hd HD hT hlo hhi hxx
    have hge : decide ((240 : Int) ≤ (x : Int)) = true := decide_eq_true (by omega)
    have hne : decide ((s.size : Int) < 1) = false := decide_eq_false (by omega)
    go_enter Try.func95, Try.ntmps95
    go_wp2
    go_ret2
    rw [HDD.out]
    refine ⟨?_, Below.refl _ _⟩
    refine congrArg Ending.returned (congrArg Value.tuple ?_)
    refine congrArg (fun v => #[Value.int .i32 v, Value.int .i64 1]) ?_
    by_cases ho : x % 2 = 1
    · rw [mask_odd x ho, high_odd _ hl0, if_pos ho]; rfl
    · rw [mask_even x ho, high_even _ hl0, if_neg ho]
  · have hd : decT T s = if s.size < T.first (byte s 0) % 8 then (65533, 1)
        else if byte s 1 < T.lo (T.first (byte s 0) / 16) ∨ T.hi (T.first (byte s 0) / 16) < byte s 1 then (65533, 1)
        else if T.first (byte s 0) % 8 ≤ 2 then (byte s 0 % 32 * 64 + byte s 1 % 64, 2)
        else if byte s 2 < 128 ∨ 191 < byte s 2 then (65533, 1)
        else if T.first (byte s 0) % 8 ≤ 3 then (byte s 0 % 16 * 4096 + byte s 1 % 64 * 64 + byte s 2 % 64, 3)
        else if byte s 3 < 128 ∨ 191 < byte s 3 then (65533, 1)
        else (byte s 0 % 8 * 262144 + byte s 1 % 64 * 4096 + byte s 2 % 64 * 64 + byte s 3 % 64, 4) := by
      unfold decT; simp only; rw [if_neg h240]
    have hlo8 := T.lo8 (T.first (byte s 0) / 16)
    have hhi8 := T.hi8 (T.first (byte s 0) / 16)
    generalize T.lo (T.first (byte s 0) / 16) = lo at *
    generalize T.hi (T.first (byte s 0) / 16) = hi at *
    generalize hxx : T.first (byte s 0) = x at *
    have HDD := Aside0.mk hd
    clear hd HD hT hxx
    have hge : decide ((240 : Int) ≤ (x : Int)) = false := decide_eq_false (by omega)
    have hne : decide ((s.size : Int) < 1) = false := decide_eq_false (by omega)
    go_enter Try.func95, Try.ntmps95
    go_wp2
    all_goals
      go_ret2
      rw [HDD.out]
      clear hb0 hb1 HDD hlo hhi hc
      (try simp only [byte_at] at *)
      repeat (first | rw [if_pos (by omega)] | rw [if_neg (by omega)])
      refine ⟨two_eq ?_ ?_, ?_⟩
    all_goals first | rfl | (exact (Below.refl _ _).alloc (Nat.le_refl _) _) | (simp; done) | (simp; omega)

/-- What DecodeRuneInString tells of a text that is not empty. -/
def decA (T : Utabs) (s : ByteArray) : Nat × Nat := if byte s 0 < 128 then (byte s 0, 1) else decT T s

theorem decT_bounds (T : Utabs) (s : ByteArray) (h2 : 2 ≤ s.size) : (decT T s).1 ≤ 2147483647 ∧ 1 ≤ (decT T s).2 ∧ (decT T s).2 ≤ s.size := by
  have h0 := byte_lt s 0; have h1 := byte_lt s 1; have h2 := byte_lt s 2; have h3 := byte_lt s 3
  unfold decT
  simp only
  repeat' split
  all_goals simp only
  all_goals omega
theorem decA_bounds (T : Utabs) (s : ByteArray) (h : 0 < s.size) (h2 : byte s 0 < 128 ∨ 2 ≤ s.size) : (decA T s).1 ≤ 2147483647 ∧ 1 ≤ (decA T s).2 ∧ (decA T s).2 ≤ s.size := by
  unfold decA
  by_cases h0 : byte s 0 < 128
  · rw [if_pos h0]; simp only; omega
  · rw [if_neg h0]; exact decT_bounds T s (by omega)

/-- A text all of whose runes may stand in a name: what is decoded and may stand in a name is the rune, with its own width. -/
theorem decA_name (T : Utabs) {s : ByteArray} (h : 0 < s.size) (hn : Nm.AllName s) (hr : Nm.nameRune (decA T s).1 = true) : Nm.AllName (s.extract (decA T s).2 s.size) := by
  have hf : Nm.nameRune (Utf8.decode s 0).1 = true := hn _ (by rw [Nm.runes_first h]; exact List.mem_cons_self)
  have hrest : Nm.AllName (s.extract (Utf8.decode s 0).2 s.size) := by
    intro r hm
    rw [Nm.runes_extract] at hm
    exact hn r (by rw [Nm.runes_first h]; exact List.mem_cons_of_mem _ hm)
  rcases Nm.decode_first h hf with ⟨h0, hd⟩ | ⟨h2, hd, hb⟩
  · have : (decA T s).2 = (Utf8.decode s 0).2 := by unfold decA; rw [if_pos h0, hd]
    rw [this]
    exact hrest
  · have hne : ¬ byte s 0 < 128 := by omega
    have : (decA T s).2 = 2 := by
      unfold decA at hr ⊢
      rw [if_neg hne] at hr ⊢
      have h1 := byte_lt s 1; have h3 := byte_lt s 2; have h4 := byte_lt s 3
      rw [Nm.nameRune_iff] at hr
      unfold decT at hr ⊢
      simp only at hr ⊢
      repeat' split
      all_goals rename_i hcs
      all_goals simp_all
      all_goals omega
    rw [this, ← hd]
    exact hrest
theorem first_two {s : ByteArray} (h : 0 < s.size) (hn : Nm.AllName s) : byte s 0 < 128 ∨ 2 ≤ s.size := by
  have hf : Nm.nameRune (Utf8.decode s 0).1 = true := hn _ (by rw [Nm.runes_first h]; exact List.mem_cons_self)
  rcases Nm.decode_first h hf with ⟨h0, _⟩ | ⟨h2, _⟩
  · exact Or.inl h0
  · exact Or.inr h2

set_option maxHeartbeats 1000000 in
set_option maxRecDepth 100000 in
theorem dec_calls (T : Utabs) (s : ByteArray) (w : World) (hT : TabsRaw T w) (h : 0 < s.size) (h2 : byte s 0 < 128 ∨ 2 ≤ s.size) (hs : s.size ≤ 9000000000000000000) :
    Calls Try.prog 93 #[.string s] w fun e w' => e = .returned (.tuple #[.int .i32 (decA T s).1, .int .i64 (decA T s).2]) ∧ Below w.heap.size w w' := by
  have hb0 := byte_at s 0 h
  have hne : s.toList.isEmpty = false := by
    rw [ByteArray.toList_eq]
    cases hc : s.data.toList with
    | nil =>
      have : s.data.toList.length = s.size := by simp
      rw [hc] at this
      simp at this
      omega
    | cons a b => rfl
  by_cases h0 : byte s 0 < 128
  · have hd : decA T s = (byte s 0, 1) := by unfold decA; rw [if_pos h0]
    have HD := Aside0.mk hd
    clear hd hT
    go_enter Try.func93, Try.ntmps93
    go_wp2
    all_goals
      go_ret2
      rw [HD.out]
      exact ⟨rfl, Below.refl _ _⟩
  · have hd : decA T s = decT T s := by unfold decA; rw [if_neg h0]
    have HS := slow_calls T s w hT (by omega) hs
    have HD := Aside0.mk hd
    clear hd hT
    go_enter Try.func93, Try.ntmps93
    go_wp2_with (go_at_call 95; refine HS.mono ?_; rintro e w1 ⟨rfl, hb⟩)
    all_goals
      go_ret2
      rw [HD.out]
      exact ⟨rfl, hb⟩

end Go.Proofs.Ytejaepohkcjoiaa.CmpWalk
