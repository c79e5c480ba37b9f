/- Several texts in one, in build order: LgAsk, LgLive, Opens, OpensK, LgOps, LgPlayed, LgOnce, CmpWalk, Cmp2, CdTabs, LgLaw3, RowLedgerOnce. -/
import Derived.Test.YtahonoeiamjgbaaMA1
import Derived.StillTailTactics
import Derived.Deep.QuietTactic
import Derived.BigQuiet
import Derived.Test.YtahonoeiamjgbaaWMore
import Derived.Test.YtahonoeiamjgbaaWSized
import Derived.Carry
import Derived.ChangeOld
import Derived.Laws.BitsLemmas
import Derived.Laws.BitsAll
import Derived.Laws.Shifts
import Derived.Lib.OthersKept
import Derived.WalkSmall
import Derived.KernelRfl
import Derived.Test.YtahonoeiamjgbaaRows
import Derived.HandedShaped
import Derived.WalkKit
import Derived.ProofKit
import Derived.OpenShut
import Derived.ShutString
import Derived.Below
import Derived.SizedLaws
/- ledger.Ask: the walk, by hand. -/
namespace Go.Proofs.Ytahonoeiamjgbaa.LgTk
open Go.RowKit Go.IntWalk Go.Maps Go.Proofs.YtahonoeiamjgbaaW.PrintWords Go.Proofs.YtahonoeiamjgbaaW.PrintLast Go.Proofs.YtahonoeiamjgbaaW.PrintMore Go.Proofs.Ytahonoeiamjgbaa.CdForm Go.Proofs.Ytahonoeiamjgbaa.Lg Go.Proofs.Ytahonoeiamjgbaa.LgAt Go.Proofs.Ytahonoeiamjgbaa.Tabs Go.Proofs.Ytahonoeiamjgbaa.CdMay

/-- What Ask answers, as it lies. -/
def AskAt (w : World) (x : CdEvent.D × CdLetter.D × Int) (e : Ending) (w' : World) : Prop :=
  ∃ A c, e = .returned (.tuple #[.agg (CdEvent.cells x.1 (.slice A x.1.keys.length c)), .agg (CdLetter.cells x.2.1 (.slice none 0 0)), .int .i64 x.2.2]) ∧ x.1.keys.length ≤ c ∧ Kd.C Kd.string w' A x.1.keys.length x.1.keys ∧ Below w.heap.size w w'
theorem R_one {α : Type} {d : Kd α} {e base : Nat} {w : World} {v : Value} {xs : List α} (h : d.R e w base (fun _ => True) v xs) {p : Addr} (hp : p.block < base) (x : Value) : d.R e (w.setCell p x) base (fun _ => True) v xs := by
  refine Kd.R_mono (Kd.R_move (Kd.R_bound h) fun k hk => ?_) (fun _ _ => trivial)
  exact Below.heap_setCell _ _ _ _ (by have := hk.2.1; omega)
theorem R_drew {α : Type} {d : Kd α} {e base : Nat} {w : World} {v : Value} {xs : List α} (h : d.R e w base (fun _ => True) v xs) : d.R e w.drew base (fun _ => True) v xs := Kd.R_move h fun _ _ => rfl
/-- The blocks that Ask lays. -/
structure AskW (w W : World) (p : Nat) (l : CdLetter.D) (v : Value) : Prop where
  letter : W.heap[w.heap.size]? = some (.cells #[.int .i64 l.kind, .int .i64 l.part, .int .i64 l.inst, .int .i64 l.step, .int .i64 l.sort, v] 25 (0, 0))
  event : W.heap[w.heap.size + 1]? = some (.cells #[.int .i64 0, .int .i64 0, .int .i64 0, .slice none 0 0] 29 (0, 0))
  reply : W.heap[w.heap.size + 2]? = some (.cells #[.int .i64 0, .int .i64 0, .int .i64 0, .int .i64 0, .int .i64 0, .slice none 0 0] 25 (0, 0))
  ways : W.heap[w.heap.size + 3]? = some (.cells #[.func (.func 19) #[.pointer (some ⟨p, 0, none⟩)] #[], .func (.func 20) #[.pointer (some ⟨p, 0, none⟩)] #[], .func (.func 21) #[.pointer (some ⟨p, 0, none⟩)] #[]] 50 (0, 0))
  below : Below w.heap.size w W
theorem AskW.on {w W W' : World} {p : Nat} {l : CdLetter.D} {v : Value} (h : AskW w W p l v) (hb : Below W.heap.size W W') : AskW w W' p l v :=
  ⟨row_below hb h.letter, row_below hb h.event, row_below hb h.reply, row_below hb h.ways, h.below.trans (hb.mono h.below.size)⟩
theorem alloc4 (w : World) (a b c e : Obj) : ((((w.alloc a).alloc b).alloc c).alloc e).heap[w.heap.size]? = some a ∧ ((((w.alloc a).alloc b).alloc c).alloc e).heap[w.heap.size + 1]? = some b ∧ ((((w.alloc a).alloc b).alloc c).alloc e).heap[w.heap.size + 2]? = some c ∧ ((((w.alloc a).alloc b).alloc c).alloc e).heap[w.heap.size + 3]? = some e ∧ Below w.heap.size w ((((w.alloc a).alloc b).alloc c).alloc e) := by
  have s1 : (w.alloc a).heap.size = w.heap.size + 1 := by simp
  have s2 : ((w.alloc a).alloc b).heap.size = w.heap.size + 2 := by simp
  have s3 : (((w.alloc a).alloc b).alloc c).heap.size = w.heap.size + 3 := by simp
  have h1 := alloc1 w a
  have h2 := alloc1 (w.alloc a) b
  have h3 := alloc1 ((w.alloc a).alloc b) c
  have h4 := alloc1 (((w.alloc a).alloc b).alloc c) e
  have b1 := below_one w a
  have b2 := below_one (w.alloc a) b
  have b3 := below_one ((w.alloc a).alloc b) c
  have b4 := below_one (((w.alloc a).alloc b).alloc c) e
  rw [s1] at h2; rw [s2] at h3; rw [s3] at h4
  exact ⟨row_below b4 (row_below b3 (row_below b2 h1)), row_below b4 (row_below b3 h2), row_below b4 h3, h4, ((b1.trans (b2.mono b1.size)).trans (b3.mono (by omega))).trans (b4.mono (by omega))⟩
variable [Tab]

set_option linter.unusedSimpArgs false in
set_option maxHeartbeats 8000000 in
set_option maxRecDepth 100000 in
theorem ask_calls (w : World) (p : Nat) (d : Dat) (g : S) (A : Option Addr) (c : Nat) (l : CdLetter.D) (yes : Bool) (h : At w p d g) (hl : LetOk w A l) (hc : l.keys.length ≤ c) (hT : Tab.At w) :
    Calls Try.prog 8 #[.pointer (some ⟨p, 0, none⟩), .agg (CdLetter.cells l (.slice A l.keys.length c)), .bool yes] w (AskAt w (askF g l yes)) := by
  have HS := Aside0.mk (And.intro h (And.intro hl (And.intro hc hT)))
  clear h hl hc hT
  obtain ⟨kind, part, inst, step, sort, keys⟩ := l
  simp only [CdLetter.cells]
  go_enter Try.func8, Try.ntmps8
  go_wp2_with fail
  refine (Letter_calls _ A c ⟨kind, part, inst, step, sort, keys⟩ (Kd.C_below HS.out.2.1.keys (alloc4 w _ _ _ _).2.2.2.2) HS.out.2.2.1 HS.out.2.1.sizes (Tab.below HS.out.2.2.2 (alloc4 w _ _ _ _).2.2.2.2)).mono ?_
  rintro e w1 ⟨rfl, hb⟩
  have hW : AskW w w1 p ⟨kind, part, inst, step, sort, keys⟩ (.slice A keys.length c) := by
    obtain ⟨a1, a2, a3, a4, a5⟩ := alloc4 w _ _ _ _
    exact AskW.on ⟨a1, a2, a3, a4, a5⟩ hb
  clear hb
  obtain ⟨q0, e0⟩ : ∃ q, q = w.heap.size := ⟨_, rfl⟩
  obtain ⟨q1, e1⟩ : ∃ q, q = w.heap.size + 1 := ⟨_, rfl⟩
  obtain ⟨q2, e2⟩ : ∃ q, q = w.heap.size + 1 + 1 := ⟨_, rfl⟩
  obtain ⟨q3, e3⟩ : ∃ q, q = w.heap.size + 1 + 1 + 1 := ⟨_, rfl⟩
  obtain ⟨k0, k1, k2, k3, k4⟩ := hW
  rw [← e0] at k0
  rw [← e1] at k1
  rw [show w.heap.size + 2 = q2 by omega] at k2
  rw [show w.heap.size + 3 = q3 by omega] at k3
  rw [← e3, ← e2, ← e1, ← e0]
  have HE := Aside0.mk (And.intro e0 (And.intro e1 (And.intro e2 e3)))
  have hn01 : q0 ≠ q1 := by omega
  have hn02 : q0 ≠ q2 := by omega
  have hn12 : q1 ≠ q2 := by omega
  have hn10 := hn01.symm
  have hn20 := hn02.symm
  have hn21 := hn12.symm
  have hq1 : w.heap.size ≤ q1 := by omega
  have hq2 : w.heap.size ≤ q2 := by omega
  have HB := Aside0.mk (And.intro k4 (And.intro hq1 hq2))
  have HK := Aside0.mk (And.intro k0 (And.intro k1 (And.intro k2 k3)))
  clear e0 e1 e2 e3 hq1 hq2 k4
  have hl0 : w1.cell? ⟨q0, 0, none⟩ = some (.int .i64 kind) := row_cell k0 rfl
  have hl1 : w1.cell? ⟨q0, 1, none⟩ = some (.int .i64 part) := row_cell k0 rfl
  have hl2 : w1.cell? ⟨q0, 2, none⟩ = some (.int .i64 inst) := row_cell k0 rfl
  have hl3 : w1.cell? ⟨q0, 3, none⟩ = some (.int .i64 step) := row_cell k0 rfl
  have hl4 : w1.cell? ⟨q0, 4, none⟩ = some (.int .i64 sort) := row_cell k0 rfl
  have hl5 : w1.cell? ⟨q0, 5, none⟩ = some (.slice A keys.length c) := row_cell k0 rfl
  have he0 : w1.cell? ⟨q1, 0, none⟩ = some (.int .i64 0) := row_cell k1 rfl
  have he1 : w1.cell? ⟨q1, 1, none⟩ = some (.int .i64 0) := row_cell k1 rfl
  have he2 : w1.cell? ⟨q1, 2, none⟩ = some (.int .i64 0) := row_cell k1 rfl
  have he3 : w1.cell? ⟨q1, 3, none⟩ = some (.slice none 0 0) := row_cell k1 rfl
  have hr0 : w1.cell? ⟨q2, 0, none⟩ = some (.int .i64 0) := row_cell k2 rfl
  have hr1 : w1.cell? ⟨q2, 1, none⟩ = some (.int .i64 0) := row_cell k2 rfl
  have hr2 : w1.cell? ⟨q2, 2, none⟩ = some (.int .i64 0) := row_cell k2 rfl
  have hr3 : w1.cell? ⟨q2, 3, none⟩ = some (.int .i64 0) := row_cell k2 rfl
  have hr4 : w1.cell? ⟨q2, 4, none⟩ = some (.int .i64 0) := row_cell k2 rfl
  have hr5 : w1.cell? ⟨q2, 5, none⟩ = some (.slice none 0 0) := row_cell k2 rfl
  have fe : ∀ j, w1.frozen? ⟨q1, j, none⟩ = false := fun j => free_of_row k1
  have fr : ∀ j, w1.frozen? ⟨q2, j, none⟩ = false := fun j => free_of_row k2
  clear k0 k1 k2 k3
  have hlen := HS.out.2.1.inst
  clear hlen
  by_cases hbad : mayL ⟨kind, part, inst, step, sort, keys⟩ = false ∨ kind > 3
  · have HA : Aside0 (askF g ⟨kind, part, inst, step, sort, keys⟩ yes = (nullE, nullL, 1)) := ⟨by rw [askF, if_pos hbad]⟩
    generalize hm : mayL _ = m at *
    cases m
    · clear hm hbad
      simp only [wres, Bool.false_eq_true, if_false]
      go_wp2
      refine bodyPost_ret (by simp [results, Try.results8, go_sem, he0, he1, he2, he3, hr0, hr1, hr2, hr3, hr4, hr5]; try rfl) rfl ?_
      unfold AskAt
      rw [HA.out]
      refine ⟨none, 0, rfl, Nat.zero_le _, Kd.C_nil _ _, ?_⟩
      repeat (with_reducible (first | exact HB.out.1 | exact HB.out.2.1 | exact HB.out.2.2 | refine Below.setCell ?_ ?_ _))
    · have hd : decide (3 < kind) = true := decide_eq_true (by rcases hbad with h | h; cases h; exact h)
      clear hm hbad
      simp only [wres, if_true]
      generalize (⟨_⟩ : ByteArray) = fs at *
      go_wp2
      refine bodyPost_ret (by simp [results, Try.results8, go_sem, he0, he1, he2, he3, hr0, hr1, hr2, hr3, hr4, hr5]; try rfl) rfl ?_
      unfold AskAt
      rw [HA.out]
      refine ⟨none, 0, rfl, Nat.zero_le _, Kd.C_nil _ _, ?_⟩
      repeat (with_reducible (first | exact HB.out.1 | exact HB.out.2.1 | exact HB.out.2.2 | refine Below.setCell ?_ ?_ _))
  · have hmay : mayL ⟨kind, part, inst, step, sort, keys⟩ = true := by
      simp only [not_or, Bool.not_eq_false] at hbad
      exact hbad.1
    have hkind : kind = 1 ∨ kind = 2 ∨ kind = 3 := by
      have := (mayL_parts hmay).1
      simp only at this
      have : ¬ kind > 3 := fun h => hbad (Or.inr h)
      omega
    have hd : decide (3 < kind) = false := decide_eq_false (fun h => hbad (Or.inr h))
    have HA : Aside0 (askF g ⟨kind, part, inst, step, sort, keys⟩ yes = (if (way g ⟨kind, part, inst, step, sort, keys⟩ yes).1 = 0 then nullE else ⟨(way g ⟨kind, part, inst, step, sort, keys⟩ yes).1, inst, step, if (way g ⟨kind, part, inst, step, sort, keys⟩ yes).1 = 1 then keys else []⟩, ⟨(way g ⟨kind, part, inst, step, sort, keys⟩ yes).2, part, inst, step, 0, []⟩, 0)) := ⟨by rw [askF, if_neg hbad]⟩
    have HL16 : Aside0 (keys.length * 16 ≤ 140737488355328) := ⟨by have h := (fitsL hmay).keys.1; simp only at h; omega⟩
    rw [hmay]
    clear hmay hbad
    simp only [wres, if_true]
    generalize (⟨_⟩ : ByteArray) = fs at *
    have hf0 : w1.cell? ⟨q3, 0, none⟩ = some (.func (.func 19) #[.pointer (some ⟨p, 0, none⟩)] #[]) := row_cell HK.out.2.2.2 rfl
    have hf1 : w1.cell? ⟨q3, 1, none⟩ = some (.func (.func 20) #[.pointer (some ⟨p, 0, none⟩)] #[]) := row_cell HK.out.2.2.2 rfl
    have hf2 : w1.cell? ⟨q3, 2, none⟩ = some (.func (.func 21) #[.pointer (some ⟨p, 0, none⟩)] #[]) := row_cell HK.out.2.2.2 rfl
    have hw0 : IntKind.i64.wrap 0 = 0 := by decide
    have hw1 : IntKind.i64.wrap 1 = 1 := by decide
    have hw2 : IntKind.i64.wrap 2 = 2 := by decide
    have HT := Aside0.mk (And.intro (HS.out.1.below (HB.out.1.trans ((below_drew (Below.refl w1.heap.size w1)).mono HB.out.1.size))) (Kd.C_below HS.out.2.1.keys (HB.out.1.trans ((below_drew (Below.refl w1.heap.size w1)).mono HB.out.1.size))))
    clear he0 he1 he2 he3 hr0 hr1 hr2 hr3 hr4 hr5 fe fr
    rcases hkind with rfl | rfl | rfl
    · have HCL : Aside0 (Calls Try.prog 19 #[.pointer (some ⟨p, 0, none⟩), .agg #[.int .i64 1, .int .i64 part, .int .i64 inst, .int .i64 step, .int .i64 sort, .slice A keys.length c], .bool yes] w1.drew fun e w' => e = .returned (two (way g ⟨1, part, inst, step, sort, keys⟩ yes)) ∧ Below w1.drew.heap.size w1.drew w') :=
        ⟨by
          have h := do_calls w1.drew p d g A c ⟨1, part, inst, step, sort, keys⟩ yes HT.out.1 ⟨HT.out.2, HS.out.2.1.len, HS.out.2.1.sizes, HS.out.2.1.inst, HS.out.2.1.step⟩
          rw [show doF g ⟨1, part, inst, step, sort, keys⟩ yes = way g ⟨1, part, inst, step, sort, keys⟩ yes from rfl] at h
          exact h⟩
      generalize way g _ yes = kr at *
      obtain ⟨k, r⟩ := kr
      simp only [two] at HCL
      go_wp2
      refine start_ (n := 14) (S := fun w' => w'.cell? ⟨q0, 0, none⟩ = some (.int .i64 1) ∧ w'.cell? ⟨q0, 1, none⟩ = some (.int .i64 part) ∧ w'.cell? ⟨q0, 2, none⟩ = some (.int .i64 inst) ∧ w'.cell? ⟨q0, 3, none⟩ = some (.int .i64 step) ∧ w'.cell? ⟨q0, 4, none⟩ = some (.int .i64 sort) ∧ w'.cell? ⟨q0, 5, none⟩ = some (.slice A keys.length c) ∧ w'.cell? ⟨q3, 0, none⟩ = some (.func (.func 19) #[.pointer (some ⟨p, 0, none⟩)] #[])) (ds := []) #[false, false, false, false, false, false, false, false, false, false, false, false, false, false] (by kernel_rfl) rfl rfl ⟨(by go_keep), (by go_keep), (by go_keep), (by go_keep), (by go_keep), (by go_keep), (by go_keep)⟩ (fun hHeld => ?_)
      refine pure_ (i := 0) (N := some 39) (v := ?_) (a' := ?_) #[true, false, false, false, false, false, false, false, false, false, false, false, false, false] rfl rfl (by kernel_rfl) (fun _ _ _ h => h) (Or.inl ⟨by rfl, ?_⟩) ?_ ?_
      rotate_left
      · intro w'
        go_simp
        with_reducible rfl
      rotate_left
      · simp only [Act.put, List.setIfInBounds_toArray, List.set_cons_zero, List.set_cons_succ, i64_w, i32_w]
        rfl
      refine pure_ (i := 1) (N := some 40) (v := ?_) (a' := ?_) #[true, true, false, false, false, false, false, false, false, false, false, false, false, false] rfl rfl (by kernel_rfl) (fun _ _ _ h => h) (Or.inl ⟨by rfl, ?_⟩) ?_ ?_
      rotate_left
      · intro w'
        go_simp
        with_reducible rfl
      rotate_left
      · simp only [Act.put, List.setIfInBounds_toArray, List.set_cons_zero, List.set_cons_succ, i64_w, i32_w]
        rfl
      refine pure_ (i := 7) (N := some 46) (v := ?_) (a' := ?_) #[true, true, false, false, false, false, false, true, false, false, false, false, false, false] rfl rfl (by kernel_rfl) (fun _ _ _ h => h) (Or.inl ⟨by rfl, ?_⟩) ?_ ?_
      rotate_left
      · intro w'
        go_simp
        with_reducible rfl
      rotate_left
      · simp only [Act.put, List.setIfInBounds_toArray, List.set_cons_zero, List.set_cons_succ, i64_w, i32_w]
        rfl
      refine take_ (i := 2) (N := some 41) (v := ?_) (a' := ?_) #[true, true, true, false, false, false, false, true, false, false, false, false, false, false] rfl rfl (by kernel_rfl) (fun _ _ _ h => h) (Or.inl ⟨by rfl, ?_⟩) hHeld ?_ ?_
      rotate_left
      · rintro w' ⟨s0, s1, s2, s3, s4, s5, s6⟩
        go_simp
        with_reducible rfl
      rotate_left
      · simp only [Act.put, List.setIfInBounds_toArray, List.set_cons_zero, List.set_cons_succ, i64_w, i32_w]
        rfl
      refine pure_ (i := 3) (N := some 42) (v := ?_) (a' := ?_) #[true, true, true, true, false, false, false, true, false, false, false, false, false, false] rfl rfl (by kernel_rfl) (fun _ _ _ h => h) (Or.inl ⟨by rfl, ?_⟩) ?_ ?_
      rotate_left
      · intro w'
        go_simp
        with_reducible rfl
      rotate_left
      · simp only [Act.put, List.setIfInBounds_toArray, List.set_cons_zero, List.set_cons_succ, i64_w, i32_w]
        rfl
      refine pure_ (i := 4) (N := some 43) (v := ?_) (a' := ?_) #[true, true, true, true, true, false, false, true, false, false, false, false, false, false] rfl rfl (by kernel_rfl) (fun _ _ _ h => h) (Or.inl ⟨by rfl, ?_⟩) ?_ ?_
      rotate_left
      · intro w'
        go_simp
        with_reducible rfl
      rotate_left
      · simp only [Act.put, List.setIfInBounds_toArray, List.set_cons_zero, List.set_cons_succ, i64_w, i32_w]
        rfl
      refine take_ (i := 5) (N := some 44) (v := ?_) (a' := ?_) #[true, true, true, true, true, true, false, true, false, false, false, false, false, false] rfl rfl (by kernel_rfl) (fun _ _ _ h => h) (Or.inl ⟨by rfl, ?_⟩) hHeld ?_ ?_
      rotate_left
      · rintro w' ⟨s0, s1, s2, s3, s4, s5, s6⟩
        go_simp
        with_reducible rfl
      rotate_left
      · simp only [Act.put, List.setIfInBounds_toArray, List.set_cons_zero, List.set_cons_succ, i64_w, i32_w]
        rfl
      refine take_ (i := 6) (N := some 45) (v := ?_) (a' := ?_) #[true, true, true, true, true, true, true, true, false, false, false, false, false, false] rfl rfl (by kernel_rfl) (fun _ _ _ h => h) (Or.inl ⟨by rfl, ?_⟩) hHeld ?_ ?_
      rotate_left
      · rintro w' ⟨s0, s1, s2, s3, s4, s5, s6⟩
        go_simp
        with_reducible rfl
      rotate_left
      · simp only [Act.put, List.setIfInBounds_toArray, List.set_cons_zero, List.set_cons_succ, i64_w, i32_w]
        rfl
      refine one_ (i := 8) (N := some 47) #[true, true, true, true, true, true, true, true, true, false, false, false, false, false] rfl rfl (by kernel_rfl) (by decide) (fun K hK => ?_)
      refine call_ 19 #[.pointer (some ⟨p, 0, none⟩), .agg #[.int .i64 1, .int .i64 part, .int .i64 inst, .int .i64 step, .int .i64 sort, .slice A keys.length c], .bool yes] (by rfl) rfl (by kernel_rfl) ?_
      with_reducible refine (HCL.out).mono ?_
      rintro e w2 ⟨rfl, hb2⟩
      refine ⟨_, rfl, ?_⟩
      refine hK.out _ _ ⟨(cell_below hb2 hHeld.1), (cell_below hb2 hHeld.2.1), (cell_below hb2 hHeld.2.2.1), (cell_below hb2 hHeld.2.2.2.1), (cell_below hb2 hHeld.2.2.2.2.1), (cell_below hb2 hHeld.2.2.2.2.2.1), (cell_below hb2 hHeld.2.2.2.2.2.2)⟩ (fun hHeld => ?_)
      clear hK K
      refine norm_ (a' := ?_) ?_ ?_
      rotate_left
      · show Act.put _ (some 47) _ = _
        simp only [Act.put, List.setIfInBounds_toArray, List.set_cons_zero, List.set_cons_succ, i64_w, i32_w]
        rfl
      refine pure_ (i := 9) (N := some 38) (v := ?_) (a' := ?_) #[true, true, true, true, true, true, true, true, true, true, false, false, false, false] rfl rfl (by kernel_rfl) (fun _ _ _ h => h) (Or.inl ⟨by rfl, ?_⟩) ?_ ?_
      rotate_left
      · intro w'
        go_simp
        with_reducible rfl
      rotate_left
      · simp only [Act.put, List.setIfInBounds_toArray, List.set_cons_zero, List.set_cons_succ, i64_w, i32_w]
        rfl
      refine pure_ (i := 10) (N := some 48) (v := ?_) (a' := ?_) #[true, true, true, true, true, true, true, true, true, true, true, false, false, false] rfl rfl (by kernel_rfl) (fun _ _ _ h => h) (Or.inl ⟨by rfl, ?_⟩) ?_ ?_
      rotate_left
      · intro w'
        go_simp
        with_reducible rfl
      rotate_left
      · simp only [Act.put, List.setIfInBounds_toArray, List.set_cons_zero, List.set_cons_succ, i64_w, i32_w]
        rfl
      refine pure_ (i := 11) (N := some 49) (v := ?_) (a' := ?_) #[true, true, true, true, true, true, true, true, true, true, true, true, false, false] rfl rfl (by kernel_rfl) (fun _ _ _ h => h) (Or.inl ⟨by rfl, ?_⟩) ?_ ?_
      rotate_left
      · intro w'
        go_simp
        with_reducible rfl
      rotate_left
      · simp only [Act.put, List.setIfInBounds_toArray, List.set_cons_zero, List.set_cons_succ, i64_w, i32_w]
        rfl
      refine pure_ (i := 12) (N := some 12) (v := ?_) (a' := ?_) #[true, true, true, true, true, true, true, true, true, true, true, true, true, false] rfl rfl (by kernel_rfl) (fun _ _ _ h => h) (Or.inl ⟨by rfl, ?_⟩) ?_ ?_
      rotate_left
      · intro w'
        go_simp
        with_reducible rfl
      rotate_left
      · simp only [Act.put, List.setIfInBounds_toArray, List.set_cons_zero, List.set_cons_succ, i64_w, i32_w]
        rfl
      refine pure_ (i := 13) (N := some 13) (v := ?_) (a' := ?_) #[true, true, true, true, true, true, true, true, true, true, true, true, true, true] rfl rfl (by kernel_rfl) (fun _ _ _ h => h) (Or.inl ⟨by rfl, ?_⟩) ?_ ?_
      rotate_left
      · intro w'
        go_simp
        with_reducible rfl
      rotate_left
      · simp only [Act.put, List.setIfInBounds_toArray, List.set_cons_zero, List.set_cons_succ, i64_w, i32_w]
        rfl
      refine done_ (by kernel_rfl) ?_
      clear hHeld
      have hb12 : Below w1.heap.size w1 w2 := (below_drew (Below.refl _ _)).trans hb2
      clear hb2
      have k0 := row_below hb12 HK.out.1
      have k1 := row_below hb12 HK.out.2.1
      have k2 := row_below hb12 HK.out.2.2.1
      have z0 : q0 < w2.heap.size := (Array.getElem?_eq_some_iff.1 k0).1
      have z1 : q1 < w2.heap.size := (Array.getElem?_eq_some_iff.1 k1).1
      have z2 : q2 < w2.heap.size := (Array.getElem?_eq_some_iff.1 k2).1
      have z0n : q0 ≠ w2.heap.size := Nat.ne_of_lt z0
      have z1n : q1 ≠ w2.heap.size := Nat.ne_of_lt z1
      have z2n : q2 ≠ w2.heap.size := Nat.ne_of_lt z2
      have z0m := z0n.symm
      have z1m := z1n.symm
      have z2m := z2n.symm
      have HB2 := Aside0.mk (And.intro (HB.out.1.trans (hb12.mono HB.out.1.size)) (And.intro HB.out.2.1 (And.intro HB.out.2.2 (Nat.le_trans HB.out.1.size hb12.size))))
      have HZ := Aside0.mk (And.intro z1 z2)
      clear hb12 hf0 hf1 hf2 hl0 hl1 hl2 hl3 hl4 hl5 z0 z1 z2
      have hl0 : w2.cell? ⟨q0, 0, none⟩ = some (.int .i64 1) := row_cell k0 rfl
      have hl1 : w2.cell? ⟨q0, 1, none⟩ = some (.int .i64 part) := row_cell k0 rfl
      have hl2 : w2.cell? ⟨q0, 2, none⟩ = some (.int .i64 inst) := row_cell k0 rfl
      have hl3 : w2.cell? ⟨q0, 3, none⟩ = some (.int .i64 step) := row_cell k0 rfl
      have hl4 : w2.cell? ⟨q0, 4, none⟩ = some (.int .i64 sort) := row_cell k0 rfl
      have hl5 : w2.cell? ⟨q0, 5, none⟩ = some (.slice A keys.length c) := row_cell k0 rfl
      have he0 : w2.cell? ⟨q1, 0, none⟩ = some (.int .i64 0) := row_cell k1 rfl
      have he1 : w2.cell? ⟨q1, 1, none⟩ = some (.int .i64 0) := row_cell k1 rfl
      have he2 : w2.cell? ⟨q1, 2, none⟩ = some (.int .i64 0) := row_cell k1 rfl
      have he3 : w2.cell? ⟨q1, 3, none⟩ = some (.slice none 0 0) := row_cell k1 rfl
      have hr0 : w2.cell? ⟨q2, 0, none⟩ = some (.int .i64 0) := row_cell k2 rfl
      have hr1 : w2.cell? ⟨q2, 1, none⟩ = some (.int .i64 0) := row_cell k2 rfl
      have hr2 : w2.cell? ⟨q2, 2, none⟩ = some (.int .i64 0) := row_cell k2 rfl
      have hr3 : w2.cell? ⟨q2, 3, none⟩ = some (.int .i64 0) := row_cell k2 rfl
      have hr4 : w2.cell? ⟨q2, 4, none⟩ = some (.int .i64 0) := row_cell k2 rfl
      have hr5 : w2.cell? ⟨q2, 5, none⟩ = some (.slice none 0 0) := row_cell k2 rfl
      have fe : ∀ j, w2.frozen? ⟨q1, j, none⟩ = false := fun j => free_of_row k1
      have fr : ∀ j, w2.frozen? ⟨q2, j, none⟩ = false := fun j => free_of_row k2
      clear k0 k1 k2
      by_cases hk0 : k = 0
      · subst hk0
        rw [if_pos rfl] at HA
        go_wp2
        generalize hW : World.alloc w2 _ = w3
        have hb3 : Below w2.heap.size w2 w3 := hW ▸ below_one w2 _
        have kn : w3.heap[w2.heap.size]? = some (.cells #[.int .i64 0, .int .i64 0, .int .i64 0, .slice none 0 0] 29 (0, 0)) := hW ▸ alloc1 w2 _
        have HKN := Aside0.mk (And.intro hb3 kn)
        replace hl0 := cell_below hb3 hl0
        replace hl1 := cell_below hb3 hl1
        replace hl2 := cell_below hb3 hl2
        replace hl3 := cell_below hb3 hl3
        replace he0 := cell_below hb3 he0
        replace he1 := cell_below hb3 he1
        replace he2 := cell_below hb3 he2
        replace he3 := cell_below hb3 he3
        replace hr0 := cell_below hb3 hr0
        replace hr1 := cell_below hb3 hr1
        replace hr2 := cell_below hb3 hr2
        replace hr3 := cell_below hb3 hr3
        replace hr4 := cell_below hb3 hr4
        replace hr5 := cell_below hb3 hr5
        have hv0 : w3.cell? ⟨w2.heap.size, 0, none⟩ = some (.int .i64 0) := row_cell kn rfl
        have hv1 : w3.cell? ⟨w2.heap.size, 1, none⟩ = some (.int .i64 0) := row_cell kn rfl
        have hv2 : w3.cell? ⟨w2.heap.size, 2, none⟩ = some (.int .i64 0) := row_cell kn rfl
        have hv3 : w3.cell? ⟨w2.heap.size, 3, none⟩ = some (.slice none 0 0) := row_cell kn rfl
        have fe3 : ∀ j, w3.frozen? ⟨q1, j, none⟩ = false := fun j => (hb3.frozen (p := ⟨q1, j, none⟩) HZ.out.1).trans (fe j)
        have fr3 : ∀ j, w3.frozen? ⟨q2, j, none⟩ = false := fun j => (hb3.frozen (p := ⟨q2, j, none⟩) HZ.out.2).trans (fr j)
        clear kn hb3 hW fe fr
        refine start_ (n := 12) (S := fun w' => w'.cell? ⟨w2.heap.size, 0, none⟩ = some (.int .i64 0) ∧ w'.cell? ⟨w2.heap.size, 1, none⟩ = some (.int .i64 0) ∧ w'.cell? ⟨w2.heap.size, 2, none⟩ = some (.int .i64 0) ∧ w'.cell? ⟨w2.heap.size, 3, none⟩ = some (.slice none 0 0) ∧ w'.cell? ⟨q0, 1, none⟩ = some (.int .i64 part) ∧ w'.cell? ⟨q0, 2, none⟩ = some (.int .i64 inst) ∧ w'.cell? ⟨q0, 3, none⟩ = some (.int .i64 step)) (ds := []) #[false, false, false, false, false, false, false, false, false, false, false, false] (by kernel_rfl) rfl rfl ⟨(by go_keep), (by go_keep), (by go_keep), (by go_keep), (by go_keep), (by go_keep), (by go_keep)⟩ (fun hHeld => ?_)
        refine pure_ (i := 1) (N := some 66) (v := ?_) (a' := ?_) #[false, true, false, false, false, false, false, false, false, false, false, false] rfl rfl (by kernel_rfl) (fun _ _ _ h => h) (Or.inl ⟨by rfl, ?_⟩) ?_ ?_
        rotate_left
        · intro w'
          go_simp
          with_reducible rfl
        rotate_left
        · simp only [Act.put, List.setIfInBounds_toArray, List.set_cons_zero, List.set_cons_succ, i64_w, i32_w]
          rfl
        refine pure_ (i := 2) (N := some 67) (v := ?_) (a' := ?_) #[false, true, true, false, false, false, false, false, false, false, false, false] rfl rfl (by kernel_rfl) (fun _ _ _ h => h) (Or.inl ⟨by rfl, ?_⟩) ?_ ?_
        rotate_left
        · intro w'
          go_simp
          with_reducible rfl
        rotate_left
        · simp only [Act.put, List.setIfInBounds_toArray, List.set_cons_zero, List.set_cons_succ, i64_w, i32_w]
          rfl
        refine pure_ (i := 4) (N := some 69) (v := ?_) (a' := ?_) #[false, true, true, false, true, false, false, false, false, false, false, false] rfl rfl (by kernel_rfl) (fun _ _ _ h => h) (Or.inl ⟨by rfl, ?_⟩) ?_ ?_
        rotate_left
        · intro w'
          go_simp
          with_reducible rfl
        rotate_left
        · simp only [Act.put, List.setIfInBounds_toArray, List.set_cons_zero, List.set_cons_succ, i64_w, i32_w]
          rfl
        refine pure_ (i := 6) (N := some 71) (v := ?_) (a' := ?_) #[false, true, true, false, true, false, true, false, false, false, false, false] rfl rfl (by kernel_rfl) (fun _ _ _ h => h) (Or.inl ⟨by rfl, ?_⟩) ?_ ?_
        rotate_left
        · intro w'
          go_simp
          with_reducible rfl
        rotate_left
        · simp only [Act.put, List.setIfInBounds_toArray, List.set_cons_zero, List.set_cons_succ, i64_w, i32_w]
          rfl
        refine take_ (i := 0) (N := some 65) (v := ?_) (a' := ?_) #[true, true, true, false, true, false, true, false, false, false, false, false] rfl rfl (by kernel_rfl) (fun _ _ _ h => h) (Or.inl ⟨by rfl, ?_⟩) hHeld ?_ ?_
        rotate_left
        · rintro w' ⟨s0, s1, s2, s3, s4, s5, s6⟩
          go_simp
          with_reducible rfl
        rotate_left
        · simp only [Act.put, List.setIfInBounds_toArray, List.set_cons_zero, List.set_cons_succ, i64_w, i32_w]
          rfl
        refine take_ (i := 3) (N := some 68) (v := ?_) (a' := ?_) #[true, true, true, true, true, false, true, false, false, false, false, false] rfl rfl (by kernel_rfl) (fun _ _ _ h => h) (Or.inl ⟨by rfl, ?_⟩) hHeld ?_ ?_
        rotate_left
        · rintro w' ⟨s0, s1, s2, s3, s4, s5, s6⟩
          go_simp
          with_reducible rfl
        rotate_left
        · simp only [Act.put, List.setIfInBounds_toArray, List.set_cons_zero, List.set_cons_succ, i64_w, i32_w]
          rfl
        refine take_ (i := 5) (N := some 70) (v := ?_) (a' := ?_) #[true, true, true, true, true, true, true, false, false, false, false, false] rfl rfl (by kernel_rfl) (fun _ _ _ h => h) (Or.inl ⟨by rfl, ?_⟩) hHeld ?_ ?_
        rotate_left
        · rintro w' ⟨s0, s1, s2, s3, s4, s5, s6⟩
          go_simp
          with_reducible rfl
        rotate_left
        · simp only [Act.put, List.setIfInBounds_toArray, List.set_cons_zero, List.set_cons_succ, i64_w, i32_w]
          rfl
        refine take_ (i := 7) (N := some 72) (v := ?_) (a' := ?_) #[true, true, true, true, true, true, true, true, false, false, false, false] rfl rfl (by kernel_rfl) (fun _ _ _ h => h) (Or.inl ⟨by rfl, ?_⟩) hHeld ?_ ?_
        rotate_left
        · rintro w' ⟨s0, s1, s2, s3, s4, s5, s6⟩
          go_simp
          with_reducible rfl
        rotate_left
        · simp only [Act.put, List.setIfInBounds_toArray, List.set_cons_zero, List.set_cons_succ, i64_w, i32_w]
          rfl
        refine pure_ (i := 8) (N := some 73) (v := ?_) (a' := ?_) #[true, true, true, true, true, true, true, true, true, false, false, false] rfl rfl (by kernel_rfl) (fun _ _ _ h => h) (Or.inl ⟨by rfl, ?_⟩) ?_ ?_
        rotate_left
        · intro w'
          go_simp
          with_reducible rfl
        rotate_left
        · simp only [Act.put, List.setIfInBounds_toArray, List.set_cons_zero, List.set_cons_succ, i64_w, i32_w]
          rfl
        refine one_ (i := 9) (N := none) #[true, true, true, true, true, true, true, true, true, true, false, false] rfl rfl (by kernel_rfl) (by decide) (fun K hK => ?_)
        refine skip_ (w1 := ?_) (by rfl) rfl ?_ ?_
        rotate_left
        · go_simp
          rfl
        refine hK.out _ _ ⟨(by go_keep), (by go_keep), (by go_keep), (by go_keep), (by go_keep), (by go_keep), (by go_keep)⟩ (fun hHeld => ?_)
        clear hK K
        refine one_ (i := 10) (N := none) #[true, true, true, true, true, true, true, true, true, true, true, false] rfl rfl (by kernel_rfl) (by decide) (fun K hK => ?_)
        refine skip_ (w1 := ?_) (by rfl) rfl ?_ ?_
        rotate_left
        · go_simp
          rfl
        refine hK.out _ _ ⟨(by go_keep), (by go_keep), (by go_keep), (by go_keep), (by go_keep), (by go_keep), (by go_keep)⟩ (fun hHeld => ?_)
        clear hK K
        refine pure_ (i := 11) (N := some 8) (v := ?_) (a' := ?_) #[true, true, true, true, true, true, true, true, true, true, true, true] rfl rfl (by kernel_rfl) (fun _ _ _ h => h) (Or.inl ⟨by rfl, ?_⟩) ?_ ?_
        rotate_left
        · intro w'
          go_simp
          with_reducible rfl
        rotate_left
        · simp only [Act.put, List.setIfInBounds_toArray, List.set_cons_zero, List.set_cons_succ, i64_w, i32_w]
          rfl
        refine done_ (by kernel_rfl) ?_
        go_wp2
        refine bodyPost_ret (by simp [results, Try.results8, go_sem, he0, he1, he2, he3, hr0, hr1, hr2, hr3, hr4, hr5]; try rfl) rfl ?_
        have HBF : Aside0 (Below w.heap.size w _) := ⟨by
          repeat (with_reducible (first | exact HB2.out.2.1 | exact HB2.out.2.2.1 | exact HB2.out.1.trans (HKN.out.1.mono HB2.out.2.2.2) | refine Below.setCell ?_ ?_ _ | apply Below.drew))⟩
        unfold AskAt
        rw [HA.out]
        refine ⟨none, 0, rfl, Nat.zero_le _, Kd.C_nil _ _, ?_⟩
        repeat (with_reducible (first | exact HB2.out.2.1 | exact HB2.out.2.2.1 | exact HB2.out.1.trans (HKN.out.1.mono HB2.out.2.2.2) | refine Below.setCell ?_ ?_ _ | apply Below.drew))
      · have hfz : ∀ cs j, (w2.alloc (.cells cs 29)).frozen? ⟨w2.heap.size, j, none⟩ = false := fun _ j => free_of_row (alloc1 w2 _)
        have hm2 : ∀ o, (w2.alloc o).cell? ⟨q0, 2, none⟩ = some (.int .i64 inst) := fun _ => cell_below (below_one _ _) hl2
        have hm3 : ∀ o, (w2.alloc o).cell? ⟨q0, 3, none⟩ = some (.int .i64 step) := fun _ => cell_below (below_one _ _) hl3
        have hm5 : ∀ o, (w2.alloc o).cell? ⟨q0, 5, none⟩ = some (.slice A keys.length c) := fun _ => cell_below (below_one _ _) hl5
        have hk0' : (k == 0) = false := beq_eq_false_iff_ne.2 hk0
        have hk0'' : (k != 0) = true := bne_iff_ne.2 hk0
        rw [if_neg hk0] at HA
        clear hk0
        by_cases hk1 : k = 1
        · subst hk1
          rw [if_pos rfl] at HA
          go_wp2_with (first | (go_at_call 23; refine (clone_calls _ A c keys (Kd.C_below HS.out.2.1.keys (HB2.out.1.trans ((below_one w2 _).mono HB2.out.2.2.2))) HL16.out).mono ?_; rintro e w5 ⟨v, rfl, hR3, hb5⟩; obtain ⟨A', c', rfl, hle', _⟩ := Kd.R_reads hR3; have kq := row_below hb5 (alloc1 w2 _); have hs3 : w5.cell? ⟨w2.heap.size, 3, none⟩ = some (.slice none 0 0) := row_cell kq rfl; have f3 : ∀ j, w5.frozen? ⟨w2.heap.size, j, none⟩ = false := fun j => free_of_row kq; have HR3 := Aside0.mk (And.intro hR3 hle'); have HQ3 := Aside0.mk (And.intro kq hb5); clear hR3 hle' kq hb5))
          generalize hW : World.setCell w5 _ _ = w3
          have hb3 : Below w2.heap.size w2 w3 := hW ▸ (((below_one w2 _).trans (HQ3.out.2.mono (below_one w2 _).size)).setCell (Nat.le_refl _) _)
          have kn : w3.heap[w2.heap.size]? = some (.cells #[.int .i64 1, .int .i64 inst, .int .i64 step, .slice A' keys.length c'] 29 (0, 0)) := hW ▸ row_setCell HQ3.out.1 3 _
          have HKN := Aside0.mk (And.intro hb3 kn)
          have hR4 : Kd.R Kd.string 9 w3 (w2.heap.size + 1) (fun _ => True) (.slice A' keys.length c') keys := hW ▸ R_one (by have h := HR3.out.1; rw [World.size_alloc] at h; exact h) (Nat.lt_succ_self _) _
          have HR4 := Aside0.mk (And.intro hR4 HR3.out.2)
          clear hm2 hm3 hm5 hfz hs3 f3 hR4
          replace hl0 := cell_below hb3 hl0
          replace hl1 := cell_below hb3 hl1
          replace hl2 := cell_below hb3 hl2
          replace hl3 := cell_below hb3 hl3
          replace he0 := cell_below hb3 he0
          replace he1 := cell_below hb3 he1
          replace he2 := cell_below hb3 he2
          replace he3 := cell_below hb3 he3
          replace hr0 := cell_below hb3 hr0
          replace hr1 := cell_below hb3 hr1
          replace hr2 := cell_below hb3 hr2
          replace hr3 := cell_below hb3 hr3
          replace hr4 := cell_below hb3 hr4
          replace hr5 := cell_below hb3 hr5
          have hv0 : w3.cell? ⟨w2.heap.size, 0, none⟩ = some (.int .i64 1) := row_cell kn rfl
          have hv1 : w3.cell? ⟨w2.heap.size, 1, none⟩ = some (.int .i64 inst) := row_cell kn rfl
          have hv2 : w3.cell? ⟨w2.heap.size, 2, none⟩ = some (.int .i64 step) := row_cell kn rfl
          have hv3 : w3.cell? ⟨w2.heap.size, 3, none⟩ = some (.slice A' keys.length c') := row_cell kn rfl
          have fe3 : ∀ j, w3.frozen? ⟨q1, j, none⟩ = false := fun j => (hb3.frozen (p := ⟨q1, j, none⟩) HZ.out.1).trans (fe j)
          have fr3 : ∀ j, w3.frozen? ⟨q2, j, none⟩ = false := fun j => (hb3.frozen (p := ⟨q2, j, none⟩) HZ.out.2).trans (fr j)
          clear kn hb3 hW fe fr
          refine start_ (n := 12) (S := fun w' => w'.cell? ⟨w2.heap.size, 0, none⟩ = some (.int .i64 1) ∧ w'.cell? ⟨w2.heap.size, 1, none⟩ = some (.int .i64 inst) ∧ w'.cell? ⟨w2.heap.size, 2, none⟩ = some (.int .i64 step) ∧ w'.cell? ⟨w2.heap.size, 3, none⟩ = some (.slice A' keys.length c') ∧ w'.cell? ⟨q0, 1, none⟩ = some (.int .i64 part) ∧ w'.cell? ⟨q0, 2, none⟩ = some (.int .i64 inst) ∧ w'.cell? ⟨q0, 3, none⟩ = some (.int .i64 step)) (ds := []) #[false, false, false, false, false, false, false, false, false, false, false, false] (by kernel_rfl) rfl rfl ⟨(by go_keep), (by go_keep), (by go_keep), (by go_keep), (by go_keep), (by go_keep), (by go_keep)⟩ (fun hHeld => ?_)
          refine pure_ (i := 1) (N := some 66) (v := ?_) (a' := ?_) #[false, true, false, false, false, false, false, false, false, false, false, false] rfl rfl (by kernel_rfl) (fun _ _ _ h => h) (Or.inl ⟨by rfl, ?_⟩) ?_ ?_
          rotate_left
          · intro w'
            go_simp
            with_reducible rfl
          rotate_left
          · simp only [Act.put, List.setIfInBounds_toArray, List.set_cons_zero, List.set_cons_succ, i64_w, i32_w]
            rfl
          refine pure_ (i := 2) (N := some 67) (v := ?_) (a' := ?_) #[false, true, true, false, false, false, false, false, false, false, false, false] rfl rfl (by kernel_rfl) (fun _ _ _ h => h) (Or.inl ⟨by rfl, ?_⟩) ?_ ?_
          rotate_left
          · intro w'
            go_simp
            with_reducible rfl
          rotate_left
          · simp only [Act.put, List.setIfInBounds_toArray, List.set_cons_zero, List.set_cons_succ, i64_w, i32_w]
            rfl
          refine pure_ (i := 4) (N := some 69) (v := ?_) (a' := ?_) #[false, true, true, false, true, false, false, false, false, false, false, false] rfl rfl (by kernel_rfl) (fun _ _ _ h => h) (Or.inl ⟨by rfl, ?_⟩) ?_ ?_
          rotate_left
          · intro w'
            go_simp
            with_reducible rfl
          rotate_left
          · simp only [Act.put, List.setIfInBounds_toArray, List.set_cons_zero, List.set_cons_succ, i64_w, i32_w]
            rfl
          refine pure_ (i := 6) (N := some 71) (v := ?_) (a' := ?_) #[false, true, true, false, true, false, true, false, false, false, false, false] rfl rfl (by kernel_rfl) (fun _ _ _ h => h) (Or.inl ⟨by rfl, ?_⟩) ?_ ?_
          rotate_left
          · intro w'
            go_simp
            with_reducible rfl
          rotate_left
          · simp only [Act.put, List.setIfInBounds_toArray, List.set_cons_zero, List.set_cons_succ, i64_w, i32_w]
            rfl
          refine take_ (i := 0) (N := some 65) (v := ?_) (a' := ?_) #[true, true, true, false, true, false, true, false, false, false, false, false] rfl rfl (by kernel_rfl) (fun _ _ _ h => h) (Or.inl ⟨by rfl, ?_⟩) hHeld ?_ ?_
          rotate_left
          · rintro w' ⟨s0, s1, s2, s3, s4, s5, s6⟩
            go_simp
            with_reducible rfl
          rotate_left
          · simp only [Act.put, List.setIfInBounds_toArray, List.set_cons_zero, List.set_cons_succ, i64_w, i32_w]
            rfl
          refine take_ (i := 3) (N := some 68) (v := ?_) (a' := ?_) #[true, true, true, true, true, false, true, false, false, false, false, false] rfl rfl (by kernel_rfl) (fun _ _ _ h => h) (Or.inl ⟨by rfl, ?_⟩) hHeld ?_ ?_
          rotate_left
          · rintro w' ⟨s0, s1, s2, s3, s4, s5, s6⟩
            go_simp
            with_reducible rfl
          rotate_left
          · simp only [Act.put, List.setIfInBounds_toArray, List.set_cons_zero, List.set_cons_succ, i64_w, i32_w]
            rfl
          refine take_ (i := 5) (N := some 70) (v := ?_) (a' := ?_) #[true, true, true, true, true, true, true, false, false, false, false, false] rfl rfl (by kernel_rfl) (fun _ _ _ h => h) (Or.inl ⟨by rfl, ?_⟩) hHeld ?_ ?_
          rotate_left
          · rintro w' ⟨s0, s1, s2, s3, s4, s5, s6⟩
            go_simp
            with_reducible rfl
          rotate_left
          · simp only [Act.put, List.setIfInBounds_toArray, List.set_cons_zero, List.set_cons_succ, i64_w, i32_w]
            rfl
          refine take_ (i := 7) (N := some 72) (v := ?_) (a' := ?_) #[true, true, true, true, true, true, true, true, false, false, false, false] rfl rfl (by kernel_rfl) (fun _ _ _ h => h) (Or.inl ⟨by rfl, ?_⟩) hHeld ?_ ?_
          rotate_left
          · rintro w' ⟨s0, s1, s2, s3, s4, s5, s6⟩
            go_simp
            with_reducible rfl
          rotate_left
          · simp only [Act.put, List.setIfInBounds_toArray, List.set_cons_zero, List.set_cons_succ, i64_w, i32_w]
            rfl
          refine pure_ (i := 8) (N := some 73) (v := ?_) (a' := ?_) #[true, true, true, true, true, true, true, true, true, false, false, false] rfl rfl (by kernel_rfl) (fun _ _ _ h => h) (Or.inl ⟨by rfl, ?_⟩) ?_ ?_
          rotate_left
          · intro w'
            go_simp
            with_reducible rfl
          rotate_left
          · simp only [Act.put, List.setIfInBounds_toArray, List.set_cons_zero, List.set_cons_succ, i64_w, i32_w]
            rfl
          refine one_ (i := 9) (N := none) #[true, true, true, true, true, true, true, true, true, true, false, false] rfl rfl (by kernel_rfl) (by decide) (fun K hK => ?_)
          refine skip_ (w1 := ?_) (by rfl) rfl ?_ ?_
          rotate_left
          · go_simp
            rfl
          refine hK.out _ _ ⟨(by go_keep), (by go_keep), (by go_keep), (by go_keep), (by go_keep), (by go_keep), (by go_keep)⟩ (fun hHeld => ?_)
          clear hK K
          refine one_ (i := 10) (N := none) #[true, true, true, true, true, true, true, true, true, true, true, false] rfl rfl (by kernel_rfl) (by decide) (fun K hK => ?_)
          refine skip_ (w1 := ?_) (by rfl) rfl ?_ ?_
          rotate_left
          · go_simp
            rfl
          refine hK.out _ _ ⟨(by go_keep), (by go_keep), (by go_keep), (by go_keep), (by go_keep), (by go_keep), (by go_keep)⟩ (fun hHeld => ?_)
          clear hK K
          refine pure_ (i := 11) (N := some 8) (v := ?_) (a' := ?_) #[true, true, true, true, true, true, true, true, true, true, true, true] rfl rfl (by kernel_rfl) (fun _ _ _ h => h) (Or.inl ⟨by rfl, ?_⟩) ?_ ?_
          rotate_left
          · intro w'
            go_simp
            with_reducible rfl
          rotate_left
          · simp only [Act.put, List.setIfInBounds_toArray, List.set_cons_zero, List.set_cons_succ, i64_w, i32_w]
            rfl
          refine done_ (by kernel_rfl) ?_
          go_wp2
          refine bodyPost_ret (by simp [results, Try.results8, go_sem, he0, he1, he2, he3, hr0, hr1, hr2, hr3, hr4, hr5]; try rfl) rfl ?_
          have HBF : Aside0 (Below w.heap.size w _) := ⟨by
            repeat (with_reducible (first | exact HB2.out.2.1 | exact HB2.out.2.2.1 | exact HB2.out.1.trans (HKN.out.1.mono HB2.out.2.2.2) | refine Below.setCell ?_ ?_ _ | apply Below.drew))⟩
          unfold AskAt
          rw [HA.out]
          refine ⟨A', c', rfl, HR4.out.2, (Kd.R_reads' (n := keys.length) (c := c') (e := 9) (base := w2.heap.size + 1) (ok := fun _ => True) ?_).2.2, ?_⟩
          · repeat (with_reducible (first | exact HR4.out.1 | exact Nat.lt_succ_of_lt HZ.out.1 | exact Nat.lt_succ_of_lt HZ.out.2 | refine R_one ?_ ?_ _ | refine R_drew ?_))
          · repeat (with_reducible (first | exact HB2.out.2.1 | exact HB2.out.2.2.1 | exact HB2.out.1.trans (HKN.out.1.mono HB2.out.2.2.2) | refine Below.setCell ?_ ?_ _ | apply Below.drew))
        · have hk1' : (k == 1) = false := beq_eq_false_iff_ne.2 hk1
          have HK1 := Aside0.mk hk1
          clear hk1
          go_wp2
          generalize hW : World.alloc w2 _ = w3
          have hb3 : Below w2.heap.size w2 w3 := hW ▸ below_one w2 _
          have kn : w3.heap[w2.heap.size]? = some (.cells #[.int .i64 k, .int .i64 inst, .int .i64 step, .slice none 0 0] 29 (0, 0)) := hW ▸ alloc1 w2 _
          have HKN := Aside0.mk (And.intro hb3 kn)
          clear hm2 hm3 hm5 hfz
          replace hl0 := cell_below hb3 hl0
          replace hl1 := cell_below hb3 hl1
          replace hl2 := cell_below hb3 hl2
          replace hl3 := cell_below hb3 hl3
          replace he0 := cell_below hb3 he0
          replace he1 := cell_below hb3 he1
          replace he2 := cell_below hb3 he2
          replace he3 := cell_below hb3 he3
          replace hr0 := cell_below hb3 hr0
          replace hr1 := cell_below hb3 hr1
          replace hr2 := cell_below hb3 hr2
          replace hr3 := cell_below hb3 hr3
          replace hr4 := cell_below hb3 hr4
          replace hr5 := cell_below hb3 hr5
          have hv0 : w3.cell? ⟨w2.heap.size, 0, none⟩ = some (.int .i64 k) := row_cell kn rfl
          have hv1 : w3.cell? ⟨w2.heap.size, 1, none⟩ = some (.int .i64 inst) := row_cell kn rfl
          have hv2 : w3.cell? ⟨w2.heap.size, 2, none⟩ = some (.int .i64 step) := row_cell kn rfl
          have hv3 : w3.cell? ⟨w2.heap.size, 3, none⟩ = some (.slice none 0 0) := row_cell kn rfl
          have fe3 : ∀ j, w3.frozen? ⟨q1, j, none⟩ = false := fun j => (hb3.frozen (p := ⟨q1, j, none⟩) HZ.out.1).trans (fe j)
          have fr3 : ∀ j, w3.frozen? ⟨q2, j, none⟩ = false := fun j => (hb3.frozen (p := ⟨q2, j, none⟩) HZ.out.2).trans (fr j)
          clear kn hb3 hW fe fr
          refine start_ (n := 12) (S := fun w' => w'.cell? ⟨w2.heap.size, 0, none⟩ = some (.int .i64 k) ∧ w'.cell? ⟨w2.heap.size, 1, none⟩ = some (.int .i64 inst) ∧ w'.cell? ⟨w2.heap.size, 2, none⟩ = some (.int .i64 step) ∧ w'.cell? ⟨w2.heap.size, 3, none⟩ = some (.slice none 0 0) ∧ w'.cell? ⟨q0, 1, none⟩ = some (.int .i64 part) ∧ w'.cell? ⟨q0, 2, none⟩ = some (.int .i64 inst) ∧ w'.cell? ⟨q0, 3, none⟩ = some (.int .i64 step)) (ds := []) #[false, false, false, false, false, false, false, false, false, false, false, false] (by kernel_rfl) rfl rfl ⟨(by go_keep), (by go_keep), (by go_keep), (by go_keep), (by go_keep), (by go_keep), (by go_keep)⟩ (fun hHeld => ?_)
          refine pure_ (i := 1) (N := some 66) (v := ?_) (a' := ?_) #[false, true, false, false, false, false, false, false, false, false, false, false] rfl rfl (by kernel_rfl) (fun _ _ _ h => h) (Or.inl ⟨by rfl, ?_⟩) ?_ ?_
          rotate_left
          · intro w'
            go_simp
            with_reducible rfl
          rotate_left
          · simp only [Act.put, List.setIfInBounds_toArray, List.set_cons_zero, List.set_cons_succ, i64_w, i32_w]
            rfl
          refine pure_ (i := 2) (N := some 67) (v := ?_) (a' := ?_) #[false, true, true, false, false, false, false, false, false, false, false, false] rfl rfl (by kernel_rfl) (fun _ _ _ h => h) (Or.inl ⟨by rfl, ?_⟩) ?_ ?_
          rotate_left
          · intro w'
            go_simp
            with_reducible rfl
          rotate_left
          · simp only [Act.put, List.setIfInBounds_toArray, List.set_cons_zero, List.set_cons_succ, i64_w, i32_w]
            rfl
          refine pure_ (i := 4) (N := some 69) (v := ?_) (a' := ?_) #[false, true, true, false, true, false, false, false, false, false, false, false] rfl rfl (by kernel_rfl) (fun _ _ _ h => h) (Or.inl ⟨by rfl, ?_⟩) ?_ ?_
          rotate_left
          · intro w'
            go_simp
            with_reducible rfl
          rotate_left
          · simp only [Act.put, List.setIfInBounds_toArray, List.set_cons_zero, List.set_cons_succ, i64_w, i32_w]
            rfl
          refine pure_ (i := 6) (N := some 71) (v := ?_) (a' := ?_) #[false, true, true, false, true, false, true, false, false, false, false, false] rfl rfl (by kernel_rfl) (fun _ _ _ h => h) (Or.inl ⟨by rfl, ?_⟩) ?_ ?_
          rotate_left
          · intro w'
            go_simp
            with_reducible rfl
          rotate_left
          · simp only [Act.put, List.setIfInBounds_toArray, List.set_cons_zero, List.set_cons_succ, i64_w, i32_w]
            rfl
          refine take_ (i := 0) (N := some 65) (v := ?_) (a' := ?_) #[true, true, true, false, true, false, true, false, false, false, false, false] rfl rfl (by kernel_rfl) (fun _ _ _ h => h) (Or.inl ⟨by rfl, ?_⟩) hHeld ?_ ?_
          rotate_left
          · rintro w' ⟨s0, s1, s2, s3, s4, s5, s6⟩
            go_simp
            with_reducible rfl
          rotate_left
          · simp only [Act.put, List.setIfInBounds_toArray, List.set_cons_zero, List.set_cons_succ, i64_w, i32_w]
            rfl
          refine take_ (i := 3) (N := some 68) (v := ?_) (a' := ?_) #[true, true, true, true, true, false, true, false, false, false, false, false] rfl rfl (by kernel_rfl) (fun _ _ _ h => h) (Or.inl ⟨by rfl, ?_⟩) hHeld ?_ ?_
          rotate_left
          · rintro w' ⟨s0, s1, s2, s3, s4, s5, s6⟩
            go_simp
            with_reducible rfl
          rotate_left
          · simp only [Act.put, List.setIfInBounds_toArray, List.set_cons_zero, List.set_cons_succ, i64_w, i32_w]
            rfl
          refine take_ (i := 5) (N := some 70) (v := ?_) (a' := ?_) #[true, true, true, true, true, true, true, false, false, false, false, false] rfl rfl (by kernel_rfl) (fun _ _ _ h => h) (Or.inl ⟨by rfl, ?_⟩) hHeld ?_ ?_
          rotate_left
          · rintro w' ⟨s0, s1, s2, s3, s4, s5, s6⟩
            go_simp
            with_reducible rfl
          rotate_left
          · simp only [Act.put, List.setIfInBounds_toArray, List.set_cons_zero, List.set_cons_succ, i64_w, i32_w]
            rfl
          refine take_ (i := 7) (N := some 72) (v := ?_) (a' := ?_) #[true, true, true, true, true, true, true, true, false, false, false, false] rfl rfl (by kernel_rfl) (fun _ _ _ h => h) (Or.inl ⟨by rfl, ?_⟩) hHeld ?_ ?_
          rotate_left
          · rintro w' ⟨s0, s1, s2, s3, s4, s5, s6⟩
            go_simp
            with_reducible rfl
          rotate_left
          · simp only [Act.put, List.setIfInBounds_toArray, List.set_cons_zero, List.set_cons_succ, i64_w, i32_w]
            rfl
          refine pure_ (i := 8) (N := some 73) (v := ?_) (a' := ?_) #[true, true, true, true, true, true, true, true, true, false, false, false] rfl rfl (by kernel_rfl) (fun _ _ _ h => h) (Or.inl ⟨by rfl, ?_⟩) ?_ ?_
          rotate_left
          · intro w'
            go_simp
            with_reducible rfl
          rotate_left
          · simp only [Act.put, List.setIfInBounds_toArray, List.set_cons_zero, List.set_cons_succ, i64_w, i32_w]
            rfl
          refine one_ (i := 9) (N := none) #[true, true, true, true, true, true, true, true, true, true, false, false] rfl rfl (by kernel_rfl) (by decide) (fun K hK => ?_)
          refine skip_ (w1 := ?_) (by rfl) rfl ?_ ?_
          rotate_left
          · go_simp
            rfl
          refine hK.out _ _ ⟨(by go_keep), (by go_keep), (by go_keep), (by go_keep), (by go_keep), (by go_keep), (by go_keep)⟩ (fun hHeld => ?_)
          clear hK K
          refine one_ (i := 10) (N := none) #[true, true, true, true, true, true, true, true, true, true, true, false] rfl rfl (by kernel_rfl) (by decide) (fun K hK => ?_)
          refine skip_ (w1 := ?_) (by rfl) rfl ?_ ?_
          rotate_left
          · go_simp
            rfl
          refine hK.out _ _ ⟨(by go_keep), (by go_keep), (by go_keep), (by go_keep), (by go_keep), (by go_keep), (by go_keep)⟩ (fun hHeld => ?_)
          clear hK K
          refine pure_ (i := 11) (N := some 8) (v := ?_) (a' := ?_) #[true, true, true, true, true, true, true, true, true, true, true, true] rfl rfl (by kernel_rfl) (fun _ _ _ h => h) (Or.inl ⟨by rfl, ?_⟩) ?_ ?_
          rotate_left
          · intro w'
            go_simp
            with_reducible rfl
          rotate_left
          · simp only [Act.put, List.setIfInBounds_toArray, List.set_cons_zero, List.set_cons_succ, i64_w, i32_w]
            rfl
          refine done_ (by kernel_rfl) ?_
          go_wp2
          refine bodyPost_ret (by simp [results, Try.results8, go_sem, he0, he1, he2, he3, hr0, hr1, hr2, hr3, hr4, hr5]; try rfl) rfl ?_
          have HBF : Aside0 (Below w.heap.size w _) := ⟨by
            repeat (with_reducible (first | exact HB2.out.2.1 | exact HB2.out.2.2.1 | exact HB2.out.1.trans (HKN.out.1.mono HB2.out.2.2.2) | refine Below.setCell ?_ ?_ _ | apply Below.drew))⟩
          unfold AskAt
          rw [HA.out]
          rw [if_neg HK1.out]
          refine ⟨none, 0, rfl, Nat.zero_le _, Kd.C_nil _ _, ?_⟩
          repeat (with_reducible (first | exact HB2.out.2.1 | exact HB2.out.2.2.1 | exact HB2.out.1.trans (HKN.out.1.mono HB2.out.2.2.2) | refine Below.setCell ?_ ?_ _ | apply Below.drew))
    · have HCL : Aside0 (Calls Try.prog 20 #[.pointer (some ⟨p, 0, none⟩), .agg #[.int .i64 2, .int .i64 part, .int .i64 inst, .int .i64 step, .int .i64 sort, .slice A keys.length c], .bool yes] w1.drew fun e w' => e = .returned (two (way g ⟨2, part, inst, step, sort, keys⟩ yes)) ∧ Below w1.drew.heap.size w1.drew w') :=
        ⟨by
          have h := undo_calls w1.drew p d g A c ⟨2, part, inst, step, sort, keys⟩ yes HT.out.1 ⟨HT.out.2, HS.out.2.1.len, HS.out.2.1.sizes, HS.out.2.1.inst, HS.out.2.1.step⟩
          rw [show undoF g ⟨2, part, inst, step, sort, keys⟩ yes = way g ⟨2, part, inst, step, sort, keys⟩ yes from rfl] at h
          exact h⟩
      generalize way g _ yes = kr at *
      obtain ⟨k, r⟩ := kr
      simp only [two] at HCL
      go_wp2
      refine start_ (n := 14) (S := fun w' => w'.cell? ⟨q0, 0, none⟩ = some (.int .i64 2) ∧ w'.cell? ⟨q0, 1, none⟩ = some (.int .i64 part) ∧ w'.cell? ⟨q0, 2, none⟩ = some (.int .i64 inst) ∧ w'.cell? ⟨q0, 3, none⟩ = some (.int .i64 step) ∧ w'.cell? ⟨q0, 4, none⟩ = some (.int .i64 sort) ∧ w'.cell? ⟨q0, 5, none⟩ = some (.slice A keys.length c) ∧ w'.cell? ⟨q3, 1, none⟩ = some (.func (.func 20) #[.pointer (some ⟨p, 0, none⟩)] #[])) (ds := []) #[false, false, false, false, false, false, false, false, false, false, false, false, false, false] (by kernel_rfl) rfl rfl ⟨(by go_keep), (by go_keep), (by go_keep), (by go_keep), (by go_keep), (by go_keep), (by go_keep)⟩ (fun hHeld => ?_)
      refine pure_ (i := 0) (N := some 39) (v := ?_) (a' := ?_) #[true, false, false, false, false, false, false, false, false, false, false, false, false, false] rfl rfl (by kernel_rfl) (fun _ _ _ h => h) (Or.inl ⟨by rfl, ?_⟩) ?_ ?_
      rotate_left
      · intro w'
        go_simp
        with_reducible rfl
      rotate_left
      · simp only [Act.put, List.setIfInBounds_toArray, List.set_cons_zero, List.set_cons_succ, i64_w, i32_w]
        rfl
      refine pure_ (i := 1) (N := some 40) (v := ?_) (a' := ?_) #[true, true, false, false, false, false, false, false, false, false, false, false, false, false] rfl rfl (by kernel_rfl) (fun _ _ _ h => h) (Or.inl ⟨by rfl, ?_⟩) ?_ ?_
      rotate_left
      · intro w'
        go_simp
        with_reducible rfl
      rotate_left
      · simp only [Act.put, List.setIfInBounds_toArray, List.set_cons_zero, List.set_cons_succ, i64_w, i32_w]
        rfl
      refine pure_ (i := 7) (N := some 46) (v := ?_) (a' := ?_) #[true, true, false, false, false, false, false, true, false, false, false, false, false, false] rfl rfl (by kernel_rfl) (fun _ _ _ h => h) (Or.inl ⟨by rfl, ?_⟩) ?_ ?_
      rotate_left
      · intro w'
        go_simp
        with_reducible rfl
      rotate_left
      · simp only [Act.put, List.setIfInBounds_toArray, List.set_cons_zero, List.set_cons_succ, i64_w, i32_w]
        rfl
      refine take_ (i := 2) (N := some 41) (v := ?_) (a' := ?_) #[true, true, true, false, false, false, false, true, false, false, false, false, false, false] rfl rfl (by kernel_rfl) (fun _ _ _ h => h) (Or.inl ⟨by rfl, ?_⟩) hHeld ?_ ?_
      rotate_left
      · rintro w' ⟨s0, s1, s2, s3, s4, s5, s6⟩
        go_simp
        with_reducible rfl
      rotate_left
      · simp only [Act.put, List.setIfInBounds_toArray, List.set_cons_zero, List.set_cons_succ, i64_w, i32_w]
        rfl
      refine pure_ (i := 3) (N := some 42) (v := ?_) (a' := ?_) #[true, true, true, true, false, false, false, true, false, false, false, false, false, false] rfl rfl (by kernel_rfl) (fun _ _ _ h => h) (Or.inl ⟨by rfl, ?_⟩) ?_ ?_
      rotate_left
      · intro w'
        go_simp
        with_reducible rfl
      rotate_left
      · simp only [Act.put, List.setIfInBounds_toArray, List.set_cons_zero, List.set_cons_succ, i64_w, i32_w]
        rfl
      refine pure_ (i := 4) (N := some 43) (v := ?_) (a' := ?_) #[true, true, true, true, true, false, false, true, false, false, false, false, false, false] rfl rfl (by kernel_rfl) (fun _ _ _ h => h) (Or.inl ⟨by rfl, ?_⟩) ?_ ?_
      rotate_left
      · intro w'
        go_simp
        with_reducible rfl
      rotate_left
      · simp only [Act.put, List.setIfInBounds_toArray, List.set_cons_zero, List.set_cons_succ, i64_w, i32_w]
        rfl
      refine take_ (i := 5) (N := some 44) (v := ?_) (a' := ?_) #[true, true, true, true, true, true, false, true, false, false, false, false, false, false] rfl rfl (by kernel_rfl) (fun _ _ _ h => h) (Or.inl ⟨by rfl, ?_⟩) hHeld ?_ ?_
      rotate_left
      · rintro w' ⟨s0, s1, s2, s3, s4, s5, s6⟩
        go_simp
        with_reducible rfl
      rotate_left
      · simp only [Act.put, List.setIfInBounds_toArray, List.set_cons_zero, List.set_cons_succ, i64_w, i32_w]
        rfl
      refine take_ (i := 6) (N := some 45) (v := ?_) (a' := ?_) #[true, true, true, true, true, true, true, true, false, false, false, false, false, false] rfl rfl (by kernel_rfl) (fun _ _ _ h => h) (Or.inl ⟨by rfl, ?_⟩) hHeld ?_ ?_
      rotate_left
      · rintro w' ⟨s0, s1, s2, s3, s4, s5, s6⟩
        go_simp
        with_reducible rfl
      rotate_left
      · simp only [Act.put, List.setIfInBounds_toArray, List.set_cons_zero, List.set_cons_succ, i64_w, i32_w]
        rfl
      refine one_ (i := 8) (N := some 47) #[true, true, true, true, true, true, true, true, true, false, false, false, false, false] rfl rfl (by kernel_rfl) (by decide) (fun K hK => ?_)
      refine call_ 20 #[.pointer (some ⟨p, 0, none⟩), .agg #[.int .i64 2, .int .i64 part, .int .i64 inst, .int .i64 step, .int .i64 sort, .slice A keys.length c], .bool yes] (by rfl) rfl (by kernel_rfl) ?_
      with_reducible refine (HCL.out).mono ?_
      rintro e w2 ⟨rfl, hb2⟩
      refine ⟨_, rfl, ?_⟩
      refine hK.out _ _ ⟨(cell_below hb2 hHeld.1), (cell_below hb2 hHeld.2.1), (cell_below hb2 hHeld.2.2.1), (cell_below hb2 hHeld.2.2.2.1), (cell_below hb2 hHeld.2.2.2.2.1), (cell_below hb2 hHeld.2.2.2.2.2.1), (cell_below hb2 hHeld.2.2.2.2.2.2)⟩ (fun hHeld => ?_)
      clear hK K
      refine norm_ (a' := ?_) ?_ ?_
      rotate_left
      · show Act.put _ (some 47) _ = _
        simp only [Act.put, List.setIfInBounds_toArray, List.set_cons_zero, List.set_cons_succ, i64_w, i32_w]
        rfl
      refine pure_ (i := 9) (N := some 38) (v := ?_) (a' := ?_) #[true, true, true, true, true, true, true, true, true, true, false, false, false, false] rfl rfl (by kernel_rfl) (fun _ _ _ h => h) (Or.inl ⟨by rfl, ?_⟩) ?_ ?_
      rotate_left
      · intro w'
        go_simp
        with_reducible rfl
      rotate_left
      · simp only [Act.put, List.setIfInBounds_toArray, List.set_cons_zero, List.set_cons_succ, i64_w, i32_w]
        rfl
      refine pure_ (i := 10) (N := some 48) (v := ?_) (a' := ?_) #[true, true, true, true, true, true, true, true, true, true, true, false, false, false] rfl rfl (by kernel_rfl) (fun _ _ _ h => h) (Or.inl ⟨by rfl, ?_⟩) ?_ ?_
      rotate_left
      · intro w'
        go_simp
        with_reducible rfl
      rotate_left
      · simp only [Act.put, List.setIfInBounds_toArray, List.set_cons_zero, List.set_cons_succ, i64_w, i32_w]
        rfl
      refine pure_ (i := 11) (N := some 49) (v := ?_) (a' := ?_) #[true, true, true, true, true, true, true, true, true, true, true, true, false, false] rfl rfl (by kernel_rfl) (fun _ _ _ h => h) (Or.inl ⟨by rfl, ?_⟩) ?_ ?_
      rotate_left
      · intro w'
        go_simp
        with_reducible rfl
      rotate_left
      · simp only [Act.put, List.setIfInBounds_toArray, List.set_cons_zero, List.set_cons_succ, i64_w, i32_w]
        rfl
      refine pure_ (i := 12) (N := some 12) (v := ?_) (a' := ?_) #[true, true, true, true, true, true, true, true, true, true, true, true, true, false] rfl rfl (by kernel_rfl) (fun _ _ _ h => h) (Or.inl ⟨by rfl, ?_⟩) ?_ ?_
      rotate_left
      · intro w'
        go_simp
        with_reducible rfl
      rotate_left
      · simp only [Act.put, List.setIfInBounds_toArray, List.set_cons_zero, List.set_cons_succ, i64_w, i32_w]
        rfl
      refine pure_ (i := 13) (N := some 13) (v := ?_) (a' := ?_) #[true, true, true, true, true, true, true, true, true, true, true, true, true, true] rfl rfl (by kernel_rfl) (fun _ _ _ h => h) (Or.inl ⟨by rfl, ?_⟩) ?_ ?_
      rotate_left
      · intro w'
        go_simp
        with_reducible rfl
      rotate_left
      · simp only [Act.put, List.setIfInBounds_toArray, List.set_cons_zero, List.set_cons_succ, i64_w, i32_w]
        rfl
      refine done_ (by kernel_rfl) ?_
      clear hHeld
      have hb12 : Below w1.heap.size w1 w2 := (below_drew (Below.refl _ _)).trans hb2
      clear hb2
      have k0 := row_below hb12 HK.out.1
      have k1 := row_below hb12 HK.out.2.1
      have k2 := row_below hb12 HK.out.2.2.1
      have z0 : q0 < w2.heap.size := (Array.getElem?_eq_some_iff.1 k0).1
      have z1 : q1 < w2.heap.size := (Array.getElem?_eq_some_iff.1 k1).1
      have z2 : q2 < w2.heap.size := (Array.getElem?_eq_some_iff.1 k2).1
      have z0n : q0 ≠ w2.heap.size := Nat.ne_of_lt z0
      have z1n : q1 ≠ w2.heap.size := Nat.ne_of_lt z1
      have z2n : q2 ≠ w2.heap.size := Nat.ne_of_lt z2
      have z0m := z0n.symm
      have z1m := z1n.symm
      have z2m := z2n.symm
      have HB2 := Aside0.mk (And.intro (HB.out.1.trans (hb12.mono HB.out.1.size)) (And.intro HB.out.2.1 (And.intro HB.out.2.2 (Nat.le_trans HB.out.1.size hb12.size))))
      have HZ := Aside0.mk (And.intro z1 z2)
      clear hb12 hf0 hf1 hf2 hl0 hl1 hl2 hl3 hl4 hl5 z0 z1 z2
      have hl0 : w2.cell? ⟨q0, 0, none⟩ = some (.int .i64 2) := row_cell k0 rfl
      have hl1 : w2.cell? ⟨q0, 1, none⟩ = some (.int .i64 part) := row_cell k0 rfl
      have hl2 : w2.cell? ⟨q0, 2, none⟩ = some (.int .i64 inst) := row_cell k0 rfl
      have hl3 : w2.cell? ⟨q0, 3, none⟩ = some (.int .i64 step) := row_cell k0 rfl
      have hl4 : w2.cell? ⟨q0, 4, none⟩ = some (.int .i64 sort) := row_cell k0 rfl
      have hl5 : w2.cell? ⟨q0, 5, none⟩ = some (.slice A keys.length c) := row_cell k0 rfl
      have he0 : w2.cell? ⟨q1, 0, none⟩ = some (.int .i64 0) := row_cell k1 rfl
      have he1 : w2.cell? ⟨q1, 1, none⟩ = some (.int .i64 0) := row_cell k1 rfl
      have he2 : w2.cell? ⟨q1, 2, none⟩ = some (.int .i64 0) := row_cell k1 rfl
      have he3 : w2.cell? ⟨q1, 3, none⟩ = some (.slice none 0 0) := row_cell k1 rfl
      have hr0 : w2.cell? ⟨q2, 0, none⟩ = some (.int .i64 0) := row_cell k2 rfl
      have hr1 : w2.cell? ⟨q2, 1, none⟩ = some (.int .i64 0) := row_cell k2 rfl
      have hr2 : w2.cell? ⟨q2, 2, none⟩ = some (.int .i64 0) := row_cell k2 rfl
      have hr3 : w2.cell? ⟨q2, 3, none⟩ = some (.int .i64 0) := row_cell k2 rfl
      have hr4 : w2.cell? ⟨q2, 4, none⟩ = some (.int .i64 0) := row_cell k2 rfl
      have hr5 : w2.cell? ⟨q2, 5, none⟩ = some (.slice none 0 0) := row_cell k2 rfl
      have fe : ∀ j, w2.frozen? ⟨q1, j, none⟩ = false := fun j => free_of_row k1
      have fr : ∀ j, w2.frozen? ⟨q2, j, none⟩ = false := fun j => free_of_row k2
      clear k0 k1 k2
      by_cases hk0 : k = 0
      · subst hk0
        rw [if_pos rfl] at HA
        go_wp2
        generalize hW : World.alloc w2 _ = w3
        have hb3 : Below w2.heap.size w2 w3 := hW ▸ below_one w2 _
        have kn : w3.heap[w2.heap.size]? = some (.cells #[.int .i64 0, .int .i64 0, .int .i64 0, .slice none 0 0] 29 (0, 0)) := hW ▸ alloc1 w2 _
        have HKN := Aside0.mk (And.intro hb3 kn)
        replace hl0 := cell_below hb3 hl0
        replace hl1 := cell_below hb3 hl1
        replace hl2 := cell_below hb3 hl2
        replace hl3 := cell_below hb3 hl3
        replace he0 := cell_below hb3 he0
        replace he1 := cell_below hb3 he1
        replace he2 := cell_below hb3 he2
        replace he3 := cell_below hb3 he3
        replace hr0 := cell_below hb3 hr0
        replace hr1 := cell_below hb3 hr1
        replace hr2 := cell_below hb3 hr2
        replace hr3 := cell_below hb3 hr3
        replace hr4 := cell_below hb3 hr4
        replace hr5 := cell_below hb3 hr5
        have hv0 : w3.cell? ⟨w2.heap.size, 0, none⟩ = some (.int .i64 0) := row_cell kn rfl
        have hv1 : w3.cell? ⟨w2.heap.size, 1, none⟩ = some (.int .i64 0) := row_cell kn rfl
        have hv2 : w3.cell? ⟨w2.heap.size, 2, none⟩ = some (.int .i64 0) := row_cell kn rfl
        have hv3 : w3.cell? ⟨w2.heap.size, 3, none⟩ = some (.slice none 0 0) := row_cell kn rfl
        have fe3 : ∀ j, w3.frozen? ⟨q1, j, none⟩ = false := fun j => (hb3.frozen (p := ⟨q1, j, none⟩) HZ.out.1).trans (fe j)
        have fr3 : ∀ j, w3.frozen? ⟨q2, j, none⟩ = false := fun j => (hb3.frozen (p := ⟨q2, j, none⟩) HZ.out.2).trans (fr j)
        clear kn hb3 hW fe fr
        refine start_ (n := 12) (S := fun w' => w'.cell? ⟨w2.heap.size, 0, none⟩ = some (.int .i64 0) ∧ w'.cell? ⟨w2.heap.size, 1, none⟩ = some (.int .i64 0) ∧ w'.cell? ⟨w2.heap.size, 2, none⟩ = some (.int .i64 0) ∧ w'.cell? ⟨w2.heap.size, 3, none⟩ = some (.slice none 0 0) ∧ w'.cell? ⟨q0, 1, none⟩ = some (.int .i64 part) ∧ w'.cell? ⟨q0, 2, none⟩ = some (.int .i64 inst) ∧ w'.cell? ⟨q0, 3, none⟩ = some (.int .i64 step)) (ds := []) #[false, false, false, false, false, false, false, false, false, false, false, false] (by kernel_rfl) rfl rfl ⟨(by go_keep), (by go_keep), (by go_keep), (by go_keep), (by go_keep), (by go_keep), (by go_keep)⟩ (fun hHeld => ?_)
        refine pure_ (i := 1) (N := some 66) (v := ?_) (a' := ?_) #[false, true, false, false, false, false, false, false, false, false, false, false] rfl rfl (by kernel_rfl) (fun _ _ _ h => h) (Or.inl ⟨by rfl, ?_⟩) ?_ ?_
        rotate_left
        · intro w'
          go_simp
          with_reducible rfl
        rotate_left
        · simp only [Act.put, List.setIfInBounds_toArray, List.set_cons_zero, List.set_cons_succ, i64_w, i32_w]
          rfl
        refine pure_ (i := 2) (N := some 67) (v := ?_) (a' := ?_) #[false, true, true, false, false, false, false, false, false, false, false, false] rfl rfl (by kernel_rfl) (fun _ _ _ h => h) (Or.inl ⟨by rfl, ?_⟩) ?_ ?_
        rotate_left
        · intro w'
          go_simp
          with_reducible rfl
        rotate_left
        · simp only [Act.put, List.setIfInBounds_toArray, List.set_cons_zero, List.set_cons_succ, i64_w, i32_w]
          rfl
        refine pure_ (i := 4) (N := some 69) (v := ?_) (a' := ?_) #[false, true, true, false, true, false, false, false, false, false, false, false] rfl rfl (by kernel_rfl) (fun _ _ _ h => h) (Or.inl ⟨by rfl, ?_⟩) ?_ ?_
        rotate_left
        · intro w'
          go_simp
          with_reducible rfl
        rotate_left
        · simp only [Act.put, List.setIfInBounds_toArray, List.set_cons_zero, List.set_cons_succ, i64_w, i32_w]
          rfl
        refine pure_ (i := 6) (N := some 71) (v := ?_) (a' := ?_) #[false, true, true, false, true, false, true, false, false, false, false, false] rfl rfl (by kernel_rfl) (fun _ _ _ h => h) (Or.inl ⟨by rfl, ?_⟩) ?_ ?_
        rotate_left
        · intro w'
          go_simp
          with_reducible rfl
        rotate_left
        · simp only [Act.put, List.setIfInBounds_toArray, List.set_cons_zero, List.set_cons_succ, i64_w, i32_w]
          rfl
        refine take_ (i := 0) (N := some 65) (v := ?_) (a' := ?_) #[true, true, true, false, true, false, true, false, false, false, false, false] rfl rfl (by kernel_rfl) (fun _ _ _ h => h) (Or.inl ⟨by rfl, ?_⟩) hHeld ?_ ?_
        rotate_left
        · rintro w' ⟨s0, s1, s2, s3, s4, s5, s6⟩
          go_simp
          with_reducible rfl
        rotate_left
        · simp only [Act.put, List.setIfInBounds_toArray, List.set_cons_zero, List.set_cons_succ, i64_w, i32_w]
          rfl
        refine take_ (i := 3) (N := some 68) (v := ?_) (a' := ?_) #[true, true, true, true, true, false, true, false, false, false, false, false] rfl rfl (by kernel_rfl) (fun _ _ _ h => h) (Or.inl ⟨by rfl, ?_⟩) hHeld ?_ ?_
        rotate_left
        · rintro w' ⟨s0, s1, s2, s3, s4, s5, s6⟩
          go_simp
          with_reducible rfl
        rotate_left
        · simp only [Act.put, List.setIfInBounds_toArray, List.set_cons_zero, List.set_cons_succ, i64_w, i32_w]
          rfl
        refine take_ (i := 5) (N := some 70) (v := ?_) (a' := ?_) #[true, true, true, true, true, true, true, false, false, false, false, false] rfl rfl (by kernel_rfl) (fun _ _ _ h => h) (Or.inl ⟨by rfl, ?_⟩) hHeld ?_ ?_
        rotate_left
        · rintro w' ⟨s0, s1, s2, s3, s4, s5, s6⟩
          go_simp
          with_reducible rfl
        rotate_left
        · simp only [Act.put, List.setIfInBounds_toArray, List.set_cons_zero, List.set_cons_succ, i64_w, i32_w]
          rfl
        refine take_ (i := 7) (N := some 72) (v := ?_) (a' := ?_) #[true, true, true, true, true, true, true, true, false, false, false, false] rfl rfl (by kernel_rfl) (fun _ _ _ h => h) (Or.inl ⟨by rfl, ?_⟩) hHeld ?_ ?_
        rotate_left
        · rintro w' ⟨s0, s1, s2, s3, s4, s5, s6⟩
          go_simp
          with_reducible rfl
        rotate_left
        · simp only [Act.put, List.setIfInBounds_toArray, List.set_cons_zero, List.set_cons_succ, i64_w, i32_w]
          rfl
        refine pure_ (i := 8) (N := some 73) (v := ?_) (a' := ?_) #[true, true, true, true, true, true, true, true, true, false, false, false] rfl rfl (by kernel_rfl) (fun _ _ _ h => h) (Or.inl ⟨by rfl, ?_⟩) ?_ ?_
        rotate_left
        · intro w'
          go_simp
          with_reducible rfl
        rotate_left
        · simp only [Act.put, List.setIfInBounds_toArray, List.set_cons_zero, List.set_cons_succ, i64_w, i32_w]
          rfl
        refine one_ (i := 9) (N := none) #[true, true, true, true, true, true, true, true, true, true, false, false] rfl rfl (by kernel_rfl) (by decide) (fun K hK => ?_)
        refine skip_ (w1 := ?_) (by rfl) rfl ?_ ?_
        rotate_left
        · go_simp
          rfl
        refine hK.out _ _ ⟨(by go_keep), (by go_keep), (by go_keep), (by go_keep), (by go_keep), (by go_keep), (by go_keep)⟩ (fun hHeld => ?_)
        clear hK K
        refine one_ (i := 10) (N := none) #[true, true, true, true, true, true, true, true, true, true, true, false] rfl rfl (by kernel_rfl) (by decide) (fun K hK => ?_)
        refine skip_ (w1 := ?_) (by rfl) rfl ?_ ?_
        rotate_left
        · go_simp
          rfl
        refine hK.out _ _ ⟨(by go_keep), (by go_keep), (by go_keep), (by go_keep), (by go_keep), (by go_keep), (by go_keep)⟩ (fun hHeld => ?_)
        clear hK K
        refine pure_ (i := 11) (N := some 8) (v := ?_) (a' := ?_) #[true, true, true, true, true, true, true, true, true, true, true, true] rfl rfl (by kernel_rfl) (fun _ _ _ h => h) (Or.inl ⟨by rfl, ?_⟩) ?_ ?_
        rotate_left
        · intro w'
          go_simp
          with_reducible rfl
        rotate_left
        · simp only [Act.put, List.setIfInBounds_toArray, List.set_cons_zero, List.set_cons_succ, i64_w, i32_w]
          rfl
        refine done_ (by kernel_rfl) ?_
        go_wp2
        refine bodyPost_ret (by simp [results, Try.results8, go_sem, he0, he1, he2, he3, hr0, hr1, hr2, hr3, hr4, hr5]; try rfl) rfl ?_
        have HBF : Aside0 (Below w.heap.size w _) := ⟨by
          repeat (with_reducible (first | exact HB2.out.2.1 | exact HB2.out.2.2.1 | exact HB2.out.1.trans (HKN.out.1.mono HB2.out.2.2.2) | refine Below.setCell ?_ ?_ _ | apply Below.drew))⟩
        unfold AskAt
        rw [HA.out]
        refine ⟨none, 0, rfl, Nat.zero_le _, Kd.C_nil _ _, ?_⟩
        repeat (with_reducible (first | exact HB2.out.2.1 | exact HB2.out.2.2.1 | exact HB2.out.1.trans (HKN.out.1.mono HB2.out.2.2.2) | refine Below.setCell ?_ ?_ _ | apply Below.drew))
      · have hfz : ∀ cs j, (w2.alloc (.cells cs 29)).frozen? ⟨w2.heap.size, j, none⟩ = false := fun _ j => free_of_row (alloc1 w2 _)
        have hm2 : ∀ o, (w2.alloc o).cell? ⟨q0, 2, none⟩ = some (.int .i64 inst) := fun _ => cell_below (below_one _ _) hl2
        have hm3 : ∀ o, (w2.alloc o).cell? ⟨q0, 3, none⟩ = some (.int .i64 step) := fun _ => cell_below (below_one _ _) hl3
        have hm5 : ∀ o, (w2.alloc o).cell? ⟨q0, 5, none⟩ = some (.slice A keys.length c) := fun _ => cell_below (below_one _ _) hl5
        have hk0' : (k == 0) = false := beq_eq_false_iff_ne.2 hk0
        have hk0'' : (k != 0) = true := bne_iff_ne.2 hk0
        rw [if_neg hk0] at HA
        clear hk0
        by_cases hk1 : k = 1
        · subst hk1
          rw [if_pos rfl] at HA
          go_wp2_with (first | (go_at_call 23; refine (clone_calls _ A c keys (Kd.C_below HS.out.2.1.keys (HB2.out.1.trans ((below_one w2 _).mono HB2.out.2.2.2))) HL16.out).mono ?_; rintro e w5 ⟨v, rfl, hR3, hb5⟩; obtain ⟨A', c', rfl, hle', _⟩ := Kd.R_reads hR3; have kq := row_below hb5 (alloc1 w2 _); have hs3 : w5.cell? ⟨w2.heap.size, 3, none⟩ = some (.slice none 0 0) := row_cell kq rfl; have f3 : ∀ j, w5.frozen? ⟨w2.heap.size, j, none⟩ = false := fun j => free_of_row kq; have HR3 := Aside0.mk (And.intro hR3 hle'); have HQ3 := Aside0.mk (And.intro kq hb5); clear hR3 hle' kq hb5))
          generalize hW : World.setCell w5 _ _ = w3
          have hb3 : Below w2.heap.size w2 w3 := hW ▸ (((below_one w2 _).trans (HQ3.out.2.mono (below_one w2 _).size)).setCell (Nat.le_refl _) _)
          have kn : w3.heap[w2.heap.size]? = some (.cells #[.int .i64 1, .int .i64 inst, .int .i64 step, .slice A' keys.length c'] 29 (0, 0)) := hW ▸ row_setCell HQ3.out.1 3 _
          have HKN := Aside0.mk (And.intro hb3 kn)
          have hR4 : Kd.R Kd.string 9 w3 (w2.heap.size + 1) (fun _ => True) (.slice A' keys.length c') keys := hW ▸ R_one (by have h := HR3.out.1; rw [World.size_alloc] at h; exact h) (Nat.lt_succ_self _) _
          have HR4 := Aside0.mk (And.intro hR4 HR3.out.2)
          clear hm2 hm3 hm5 hfz hs3 f3 hR4
          replace hl0 := cell_below hb3 hl0
          replace hl1 := cell_below hb3 hl1
          replace hl2 := cell_below hb3 hl2
          replace hl3 := cell_below hb3 hl3
          replace he0 := cell_below hb3 he0
          replace he1 := cell_below hb3 he1
          replace he2 := cell_below hb3 he2
          replace he3 := cell_below hb3 he3
          replace hr0 := cell_below hb3 hr0
          replace hr1 := cell_below hb3 hr1
          replace hr2 := cell_below hb3 hr2
          replace hr3 := cell_below hb3 hr3
          replace hr4 := cell_below hb3 hr4
          replace hr5 := cell_below hb3 hr5
          have hv0 : w3.cell? ⟨w2.heap.size, 0, none⟩ = some (.int .i64 1) := row_cell kn rfl
          have hv1 : w3.cell? ⟨w2.heap.size, 1, none⟩ = some (.int .i64 inst) := row_cell kn rfl
          have hv2 : w3.cell? ⟨w2.heap.size, 2, none⟩ = some (.int .i64 step) := row_cell kn rfl
          have hv3 : w3.cell? ⟨w2.heap.size, 3, none⟩ = some (.slice A' keys.length c') := row_cell kn rfl
          have fe3 : ∀ j, w3.frozen? ⟨q1, j, none⟩ = false := fun j => (hb3.frozen (p := ⟨q1, j, none⟩) HZ.out.1).trans (fe j)
          have fr3 : ∀ j, w3.frozen? ⟨q2, j, none⟩ = false := fun j => (hb3.frozen (p := ⟨q2, j, none⟩) HZ.out.2).trans (fr j)
          clear kn hb3 hW fe fr
          refine start_ (n := 12) (S := fun w' => w'.cell? ⟨w2.heap.size, 0, none⟩ = some (.int .i64 1) ∧ w'.cell? ⟨w2.heap.size, 1, none⟩ = some (.int .i64 inst) ∧ w'.cell? ⟨w2.heap.size, 2, none⟩ = some (.int .i64 step) ∧ w'.cell? ⟨w2.heap.size, 3, none⟩ = some (.slice A' keys.length c') ∧ w'.cell? ⟨q0, 1, none⟩ = some (.int .i64 part) ∧ w'.cell? ⟨q0, 2, none⟩ = some (.int .i64 inst) ∧ w'.cell? ⟨q0, 3, none⟩ = some (.int .i64 step)) (ds := []) #[false, false, false, false, false, false, false, false, false, false, false, false] (by kernel_rfl) rfl rfl ⟨(by go_keep), (by go_keep), (by go_keep), (by go_keep), (by go_keep), (by go_keep), (by go_keep)⟩ (fun hHeld => ?_)
          refine pure_ (i := 1) (N := some 66) (v := ?_) (a' := ?_) #[false, true, false, false, false, false, false, false, false, false, false, false] rfl rfl (by kernel_rfl) (fun _ _ _ h => h) (Or.inl ⟨by rfl, ?_⟩) ?_ ?_
          rotate_left
          · intro w'
            go_simp
            with_reducible rfl
          rotate_left
          · simp only [Act.put, List.setIfInBounds_toArray, List.set_cons_zero, List.set_cons_succ, i64_w, i32_w]
            rfl
          refine pure_ (i := 2) (N := some 67) (v := ?_) (a' := ?_) #[false, true, true, false, false, false, false, false, false, false, false, false] rfl rfl (by kernel_rfl) (fun _ _ _ h => h) (Or.inl ⟨by rfl, ?_⟩) ?_ ?_
          rotate_left
          · intro w'
            go_simp
            with_reducible rfl
          rotate_left
          · simp only [Act.put, List.setIfInBounds_toArray, List.set_cons_zero, List.set_cons_succ, i64_w, i32_w]
            rfl
          refine pure_ (i := 4) (N := some 69) (v := ?_) (a' := ?_) #[false, true, true, false, true, false, false, false, false, false, false, false] rfl rfl (by kernel_rfl) (fun _ _ _ h => h) (Or.inl ⟨by rfl, ?_⟩) ?_ ?_
          rotate_left
          · intro w'
            go_simp
            with_reducible rfl
          rotate_left
          · simp only [Act.put, List.setIfInBounds_toArray, List.set_cons_zero, List.set_cons_succ, i64_w, i32_w]
            rfl
          refine pure_ (i := 6) (N := some 71) (v := ?_) (a' := ?_) #[false, true, true, false, true, false, true, false, false, false, false, false] rfl rfl (by kernel_rfl) (fun _ _ _ h => h) (Or.inl ⟨by rfl, ?_⟩) ?_ ?_
          rotate_left
          · intro w'
            go_simp
            with_reducible rfl
          rotate_left
          · simp only [Act.put, List.setIfInBounds_toArray, List.set_cons_zero, List.set_cons_succ, i64_w, i32_w]
            rfl
          refine take_ (i := 0) (N := some 65) (v := ?_) (a' := ?_) #[true, true, true, false, true, false, true, false, false, false, false, false] rfl rfl (by kernel_rfl) (fun _ _ _ h => h) (Or.inl ⟨by rfl, ?_⟩) hHeld ?_ ?_
          rotate_left
          · rintro w' ⟨s0, s1, s2, s3, s4, s5, s6⟩
            go_simp
            with_reducible rfl
          rotate_left
          · simp only [Act.put, List.setIfInBounds_toArray, List.set_cons_zero, List.set_cons_succ, i64_w, i32_w]
            rfl
          refine take_ (i := 3) (N := some 68) (v := ?_) (a' := ?_) #[true, true, true, true, true, false, true, false, false, false, false, false] rfl rfl (by kernel_rfl) (fun _ _ _ h => h) (Or.inl ⟨by rfl, ?_⟩) hHeld ?_ ?_
          rotate_left
          · rintro w' ⟨s0, s1, s2, s3, s4, s5, s6⟩
            go_simp
            with_reducible rfl
          rotate_left
          · simp only [Act.put, List.setIfInBounds_toArray, List.set_cons_zero, List.set_cons_succ, i64_w, i32_w]
            rfl
          refine take_ (i := 5) (N := some 70) (v := ?_) (a' := ?_) #[true, true, true, true, true, true, true, false, false, false, false, false] rfl rfl (by kernel_rfl) (fun _ _ _ h => h) (Or.inl ⟨by rfl, ?_⟩) hHeld ?_ ?_
          rotate_left
          · rintro w' ⟨s0, s1, s2, s3, s4, s5, s6⟩
            go_simp
            with_reducible rfl
          rotate_left
          · simp only [Act.put, List.setIfInBounds_toArray, List.set_cons_zero, List.set_cons_succ, i64_w, i32_w]
            rfl
          refine take_ (i := 7) (N := some 72) (v := ?_) (a' := ?_) #[true, true, true, true, true, true, true, true, false, false, false, false] rfl rfl (by kernel_rfl) (fun _ _ _ h => h) (Or.inl ⟨by rfl, ?_⟩) hHeld ?_ ?_
          rotate_left
          · rintro w' ⟨s0, s1, s2, s3, s4, s5, s6⟩
            go_simp
            with_reducible rfl
          rotate_left
          · simp only [Act.put, List.setIfInBounds_toArray, List.set_cons_zero, List.set_cons_succ, i64_w, i32_w]
            rfl
          refine pure_ (i := 8) (N := some 73) (v := ?_) (a' := ?_) #[true, true, true, true, true, true, true, true, true, false, false, false] rfl rfl (by kernel_rfl) (fun _ _ _ h => h) (Or.inl ⟨by rfl, ?_⟩) ?_ ?_
          rotate_left
          · intro w'
            go_simp
            with_reducible rfl
          rotate_left
          · simp only [Act.put, List.setIfInBounds_toArray, List.set_cons_zero, List.set_cons_succ, i64_w, i32_w]
            rfl
          refine one_ (i := 9) (N := none) #[true, true, true, true, true, true, true, true, true, true, false, false] rfl rfl (by kernel_rfl) (by decide) (fun K hK => ?_)
          refine skip_ (w1 := ?_) (by rfl) rfl ?_ ?_
          rotate_left
          · go_simp
            rfl
          refine hK.out _ _ ⟨(by go_keep), (by go_keep), (by go_keep), (by go_keep), (by go_keep), (by go_keep), (by go_keep)⟩ (fun hHeld => ?_)
          clear hK K
          refine one_ (i := 10) (N := none) #[true, true, true, true, true, true, true, true, true, true, true, false] rfl rfl (by kernel_rfl) (by decide) (fun K hK => ?_)
          refine skip_ (w1 := ?_) (by rfl) rfl ?_ ?_
          rotate_left
          · go_simp
            rfl
          refine hK.out _ _ ⟨(by go_keep), (by go_keep), (by go_keep), (by go_keep), (by go_keep), (by go_keep), (by go_keep)⟩ (fun hHeld => ?_)
          clear hK K
          refine pure_ (i := 11) (N := some 8) (v := ?_) (a' := ?_) #[true, true, true, true, true, true, true, true, true, true, true, true] rfl rfl (by kernel_rfl) (fun _ _ _ h => h) (Or.inl ⟨by rfl, ?_⟩) ?_ ?_
          rotate_left
          · intro w'
            go_simp
            with_reducible rfl
          rotate_left
          · simp only [Act.put, List.setIfInBounds_toArray, List.set_cons_zero, List.set_cons_succ, i64_w, i32_w]
            rfl
          refine done_ (by kernel_rfl) ?_
          go_wp2
          refine bodyPost_ret (by simp [results, Try.results8, go_sem, he0, he1, he2, he3, hr0, hr1, hr2, hr3, hr4, hr5]; try rfl) rfl ?_
          have HBF : Aside0 (Below w.heap.size w _) := ⟨by
            repeat (with_reducible (first | exact HB2.out.2.1 | exact HB2.out.2.2.1 | exact HB2.out.1.trans (HKN.out.1.mono HB2.out.2.2.2) | refine Below.setCell ?_ ?_ _ | apply Below.drew))⟩
          unfold AskAt
          rw [HA.out]
          refine ⟨A', c', rfl, HR4.out.2, (Kd.R_reads' (n := keys.length) (c := c') (e := 9) (base := w2.heap.size + 1) (ok := fun _ => True) ?_).2.2, ?_⟩
          · repeat (with_reducible (first | exact HR4.out.1 | exact Nat.lt_succ_of_lt HZ.out.1 | exact Nat.lt_succ_of_lt HZ.out.2 | refine R_one ?_ ?_ _ | refine R_drew ?_))
          · repeat (with_reducible (first | exact HB2.out.2.1 | exact HB2.out.2.2.1 | exact HB2.out.1.trans (HKN.out.1.mono HB2.out.2.2.2) | refine Below.setCell ?_ ?_ _ | apply Below.drew))
        · have hk1' : (k == 1) = false := beq_eq_false_iff_ne.2 hk1
          have HK1 := Aside0.mk hk1
          clear hk1
          go_wp2
          generalize hW : World.alloc w2 _ = w3
          have hb3 : Below w2.heap.size w2 w3 := hW ▸ below_one w2 _
          have kn : w3.heap[w2.heap.size]? = some (.cells #[.int .i64 k, .int .i64 inst, .int .i64 step, .slice none 0 0] 29 (0, 0)) := hW ▸ alloc1 w2 _
          have HKN := Aside0.mk (And.intro hb3 kn)
          clear hm2 hm3 hm5 hfz
          replace hl0 := cell_below hb3 hl0
          replace hl1 := cell_below hb3 hl1
          replace hl2 := cell_below hb3 hl2
          replace hl3 := cell_below hb3 hl3
          replace he0 := cell_below hb3 he0
          replace he1 := cell_below hb3 he1
          replace he2 := cell_below hb3 he2
          replace he3 := cell_below hb3 he3
          replace hr0 := cell_below hb3 hr0
          replace hr1 := cell_below hb3 hr1
          replace hr2 := cell_below hb3 hr2
          replace hr3 := cell_below hb3 hr3
          replace hr4 := cell_below hb3 hr4
          replace hr5 := cell_below hb3 hr5
          have hv0 : w3.cell? ⟨w2.heap.size, 0, none⟩ = some (.int .i64 k) := row_cell kn rfl
          have hv1 : w3.cell? ⟨w2.heap.size, 1, none⟩ = some (.int .i64 inst) := row_cell kn rfl
          have hv2 : w3.cell? ⟨w2.heap.size, 2, none⟩ = some (.int .i64 step) := row_cell kn rfl
          have hv3 : w3.cell? ⟨w2.heap.size, 3, none⟩ = some (.slice none 0 0) := row_cell kn rfl
          have fe3 : ∀ j, w3.frozen? ⟨q1, j, none⟩ = false := fun j => (hb3.frozen (p := ⟨q1, j, none⟩) HZ.out.1).trans (fe j)
          have fr3 : ∀ j, w3.frozen? ⟨q2, j, none⟩ = false := fun j => (hb3.frozen (p := ⟨q2, j, none⟩) HZ.out.2).trans (fr j)
          clear kn hb3 hW fe fr
          refine start_ (n := 12) (S := fun w' => w'.cell? ⟨w2.heap.size, 0, none⟩ = some (.int .i64 k) ∧ w'.cell? ⟨w2.heap.size, 1, none⟩ = some (.int .i64 inst) ∧ w'.cell? ⟨w2.heap.size, 2, none⟩ = some (.int .i64 step) ∧ w'.cell? ⟨w2.heap.size, 3, none⟩ = some (.slice none 0 0) ∧ w'.cell? ⟨q0, 1, none⟩ = some (.int .i64 part) ∧ w'.cell? ⟨q0, 2, none⟩ = some (.int .i64 inst) ∧ w'.cell? ⟨q0, 3, none⟩ = some (.int .i64 step)) (ds := []) #[false, false, false, false, false, false, false, false, false, false, false, false] (by kernel_rfl) rfl rfl ⟨(by go_keep), (by go_keep), (by go_keep), (by go_keep), (by go_keep), (by go_keep), (by go_keep)⟩ (fun hHeld => ?_)
          refine pure_ (i := 1) (N := some 66) (v := ?_) (a' := ?_) #[false, true, false, false, false, false, false, false, false, false, false, false] rfl rfl (by kernel_rfl) (fun _ _ _ h => h) (Or.inl ⟨by rfl, ?_⟩) ?_ ?_
          rotate_left
          · intro w'
            go_simp
            with_reducible rfl
          rotate_left
          · simp only [Act.put, List.setIfInBounds_toArray, List.set_cons_zero, List.set_cons_succ, i64_w, i32_w]
            rfl
          refine pure_ (i := 2) (N := some 67) (v := ?_) (a' := ?_) #[false, true, true, false, false, false, false, false, false, false, false, false] rfl rfl (by kernel_rfl) (fun _ _ _ h => h) (Or.inl ⟨by rfl, ?_⟩) ?_ ?_
          rotate_left
          · intro w'
            go_simp
            with_reducible rfl
          rotate_left
          · simp only [Act.put, List.setIfInBounds_toArray, List.set_cons_zero, List.set_cons_succ, i64_w, i32_w]
            rfl
          refine pure_ (i := 4) (N := some 69) (v := ?_) (a' := ?_) #[false, true, true, false, true, false, false, false, false, false, false, false] rfl rfl (by kernel_rfl) (fun _ _ _ h => h) (Or.inl ⟨by rfl, ?_⟩) ?_ ?_
          rotate_left
          · intro w'
            go_simp
            with_reducible rfl
          rotate_left
          · simp only [Act.put, List.setIfInBounds_toArray, List.set_cons_zero, List.set_cons_succ, i64_w, i32_w]
            rfl
          refine pure_ (i := 6) (N := some 71) (v := ?_) (a' := ?_) #[false, true, true, false, true, false, true, false, false, false, false, false] rfl rfl (by kernel_rfl) (fun _ _ _ h => h) (Or.inl ⟨by rfl, ?_⟩) ?_ ?_
          rotate_left
          · intro w'
            go_simp
            with_reducible rfl
          rotate_left
          · simp only [Act.put, List.setIfInBounds_toArray, List.set_cons_zero, List.set_cons_succ, i64_w, i32_w]
            rfl
          refine take_ (i := 0) (N := some 65) (v := ?_) (a' := ?_) #[true, true, true, false, true, false, true, false, false, false, false, false] rfl rfl (by kernel_rfl) (fun _ _ _ h => h) (Or.inl ⟨by rfl, ?_⟩) hHeld ?_ ?_
          rotate_left
          · rintro w' ⟨s0, s1, s2, s3, s4, s5, s6⟩
            go_simp
            with_reducible rfl
          rotate_left
          · simp only [Act.put, List.setIfInBounds_toArray, List.set_cons_zero, List.set_cons_succ, i64_w, i32_w]
            rfl
          refine take_ (i := 3) (N := some 68) (v := ?_) (a' := ?_) #[true, true, true, true, true, false, true, false, false, false, false, false] rfl rfl (by kernel_rfl) (fun _ _ _ h => h) (Or.inl ⟨by rfl, ?_⟩) hHeld ?_ ?_
          rotate_left
          · rintro w' ⟨s0, s1, s2, s3, s4, s5, s6⟩
            go_simp
            with_reducible rfl
          rotate_left
          · simp only [Act.put, List.setIfInBounds_toArray, List.set_cons_zero, List.set_cons_succ, i64_w, i32_w]
            rfl
          refine take_ (i := 5) (N := some 70) (v := ?_) (a' := ?_) #[true, true, true, true, true, true, true, false, false, false, false, false] rfl rfl (by kernel_rfl) (fun _ _ _ h => h) (Or.inl ⟨by rfl, ?_⟩) hHeld ?_ ?_
          rotate_left
          · rintro w' ⟨s0, s1, s2, s3, s4, s5, s6⟩
            go_simp
            with_reducible rfl
          rotate_left
          · simp only [Act.put, List.setIfInBounds_toArray, List.set_cons_zero, List.set_cons_succ, i64_w, i32_w]
            rfl
          refine take_ (i := 7) (N := some 72) (v := ?_) (a' := ?_) #[true, true, true, true, true, true, true, true, false, false, false, false] rfl rfl (by kernel_rfl) (fun _ _ _ h => h) (Or.inl ⟨by rfl, ?_⟩) hHeld ?_ ?_
          rotate_left
          · rintro w' ⟨s0, s1, s2, s3, s4, s5, s6⟩
            go_simp
            with_reducible rfl
          rotate_left
          · simp only [Act.put, List.setIfInBounds_toArray, List.set_cons_zero, List.set_cons_succ, i64_w, i32_w]
            rfl
          refine pure_ (i := 8) (N := some 73) (v := ?_) (a' := ?_) #[true, true, true, true, true, true, true, true, true, false, false, false] rfl rfl (by kernel_rfl) (fun _ _ _ h => h) (Or.inl ⟨by rfl, ?_⟩) ?_ ?_
          rotate_left
          · intro w'
            go_simp
            with_reducible rfl
          rotate_left
          · simp only [Act.put, List.setIfInBounds_toArray, List.set_cons_zero, List.set_cons_succ, i64_w, i32_w]
            rfl
          refine one_ (i := 9) (N := none) #[true, true, true, true, true, true, true, true, true, true, false, false] rfl rfl (by kernel_rfl) (by decide) (fun K hK => ?_)
          refine skip_ (w1 := ?_) (by rfl) rfl ?_ ?_
          rotate_left
          · go_simp
            rfl
          refine hK.out _ _ ⟨(by go_keep), (by go_keep), (by go_keep), (by go_keep), (by go_keep), (by go_keep), (by go_keep)⟩ (fun hHeld => ?_)
          clear hK K
          refine one_ (i := 10) (N := none) #[true, true, true, true, true, true, true, true, true, true, true, false] rfl rfl (by kernel_rfl) (by decide) (fun K hK => ?_)
          refine skip_ (w1 := ?_) (by rfl) rfl ?_ ?_
          rotate_left
          · go_simp
            rfl
          refine hK.out _ _ ⟨(by go_keep), (by go_keep), (by go_keep), (by go_keep), (by go_keep), (by go_keep), (by go_keep)⟩ (fun hHeld => ?_)
          clear hK K
          refine pure_ (i := 11) (N := some 8) (v := ?_) (a' := ?_) #[true, true, true, true, true, true, true, true, true, true, true, true] rfl rfl (by kernel_rfl) (fun _ _ _ h => h) (Or.inl ⟨by rfl, ?_⟩) ?_ ?_
          rotate_left
          · intro w'
            go_simp
            with_reducible rfl
          rotate_left
          · simp only [Act.put, List.setIfInBounds_toArray, List.set_cons_zero, List.set_cons_succ, i64_w, i32_w]
            rfl
          refine done_ (by kernel_rfl) ?_
          go_wp2
          refine bodyPost_ret (by simp [results, Try.results8, go_sem, he0, he1, he2, he3, hr0, hr1, hr2, hr3, hr4, hr5]; try rfl) rfl ?_
          have HBF : Aside0 (Below w.heap.size w _) := ⟨by
            repeat (with_reducible (first | exact HB2.out.2.1 | exact HB2.out.2.2.1 | exact HB2.out.1.trans (HKN.out.1.mono HB2.out.2.2.2) | refine Below.setCell ?_ ?_ _ | apply Below.drew))⟩
          unfold AskAt
          rw [HA.out]
          rw [if_neg HK1.out]
          refine ⟨none, 0, rfl, Nat.zero_le _, Kd.C_nil _ _, ?_⟩
          repeat (with_reducible (first | exact HB2.out.2.1 | exact HB2.out.2.2.1 | exact HB2.out.1.trans (HKN.out.1.mono HB2.out.2.2.2) | refine Below.setCell ?_ ?_ _ | apply Below.drew))
    · have HCL : Aside0 (Calls Try.prog 21 #[.pointer (some ⟨p, 0, none⟩), .agg #[.int .i64 3, .int .i64 part, .int .i64 inst, .int .i64 step, .int .i64 sort, .slice A keys.length c], .bool yes] w1.drew fun e w' => e = .returned (two (way g ⟨3, part, inst, step, sort, keys⟩ yes)) ∧ Below w1.drew.heap.size w1.drew w') :=
        ⟨by
          have h := free_calls w1.drew p d g A c ⟨3, part, inst, step, sort, keys⟩ yes HT.out.1 ⟨HT.out.2, HS.out.2.1.len, HS.out.2.1.sizes, HS.out.2.1.inst, HS.out.2.1.step⟩
          rw [show freeF g ⟨3, part, inst, step, sort, keys⟩ = way g ⟨3, part, inst, step, sort, keys⟩ yes from rfl] at h
          exact h⟩
      generalize way g _ yes = kr at *
      obtain ⟨k, r⟩ := kr
      simp only [two] at HCL
      go_wp2
      refine start_ (n := 14) (S := fun w' => w'.cell? ⟨q0, 0, none⟩ = some (.int .i64 3) ∧ w'.cell? ⟨q0, 1, none⟩ = some (.int .i64 part) ∧ w'.cell? ⟨q0, 2, none⟩ = some (.int .i64 inst) ∧ w'.cell? ⟨q0, 3, none⟩ = some (.int .i64 step) ∧ w'.cell? ⟨q0, 4, none⟩ = some (.int .i64 sort) ∧ w'.cell? ⟨q0, 5, none⟩ = some (.slice A keys.length c) ∧ w'.cell? ⟨q3, 2, none⟩ = some (.func (.func 21) #[.pointer (some ⟨p, 0, none⟩)] #[])) (ds := []) #[false, false, false, false, false, false, false, false, false, false, false, false, false, false] (by kernel_rfl) rfl rfl ⟨(by go_keep), (by go_keep), (by go_keep), (by go_keep), (by go_keep), (by go_keep), (by go_keep)⟩ (fun hHeld => ?_)
      refine pure_ (i := 0) (N := some 39) (v := ?_) (a' := ?_) #[true, false, false, false, false, false, false, false, false, false, false, false, false, false] rfl rfl (by kernel_rfl) (fun _ _ _ h => h) (Or.inl ⟨by rfl, ?_⟩) ?_ ?_
      rotate_left
      · intro w'
        go_simp
        with_reducible rfl
      rotate_left
      · simp only [Act.put, List.setIfInBounds_toArray, List.set_cons_zero, List.set_cons_succ, i64_w, i32_w]
        rfl
      refine pure_ (i := 1) (N := some 40) (v := ?_) (a' := ?_) #[true, true, false, false, false, false, false, false, false, false, false, false, false, false] rfl rfl (by kernel_rfl) (fun _ _ _ h => h) (Or.inl ⟨by rfl, ?_⟩) ?_ ?_
      rotate_left
      · intro w'
        go_simp
        with_reducible rfl
      rotate_left
      · simp only [Act.put, List.setIfInBounds_toArray, List.set_cons_zero, List.set_cons_succ, i64_w, i32_w]
        rfl
      refine pure_ (i := 7) (N := some 46) (v := ?_) (a' := ?_) #[true, true, false, false, false, false, false, true, false, false, false, false, false, false] rfl rfl (by kernel_rfl) (fun _ _ _ h => h) (Or.inl ⟨by rfl, ?_⟩) ?_ ?_
      rotate_left
      · intro w'
        go_simp
        with_reducible rfl
      rotate_left
      · simp only [Act.put, List.setIfInBounds_toArray, List.set_cons_zero, List.set_cons_succ, i64_w, i32_w]
        rfl
      refine take_ (i := 2) (N := some 41) (v := ?_) (a' := ?_) #[true, true, true, false, false, false, false, true, false, false, false, false, false, false] rfl rfl (by kernel_rfl) (fun _ _ _ h => h) (Or.inl ⟨by rfl, ?_⟩) hHeld ?_ ?_
      rotate_left
      · rintro w' ⟨s0, s1, s2, s3, s4, s5, s6⟩
        go_simp
        with_reducible rfl
      rotate_left
      · simp only [Act.put, List.setIfInBounds_toArray, List.set_cons_zero, List.set_cons_succ, i64_w, i32_w]
        rfl
      refine pure_ (i := 3) (N := some 42) (v := ?_) (a' := ?_) #[true, true, true, true, false, false, false, true, false, false, false, false, false, false] rfl rfl (by kernel_rfl) (fun _ _ _ h => h) (Or.inl ⟨by rfl, ?_⟩) ?_ ?_
      rotate_left
      · intro w'
        go_simp
        with_reducible rfl
      rotate_left
      · simp only [Act.put, List.setIfInBounds_toArray, List.set_cons_zero, List.set_cons_succ, i64_w, i32_w]
        rfl
      refine pure_ (i := 4) (N := some 43) (v := ?_) (a' := ?_) #[true, true, true, true, true, false, false, true, false, false, false, false, false, false] rfl rfl (by kernel_rfl) (fun _ _ _ h => h) (Or.inl ⟨by rfl, ?_⟩) ?_ ?_
      rotate_left
      · intro w'
        go_simp
        with_reducible rfl
      rotate_left
      · simp only [Act.put, List.setIfInBounds_toArray, List.set_cons_zero, List.set_cons_succ, i64_w, i32_w]
        rfl
      refine take_ (i := 5) (N := some 44) (v := ?_) (a' := ?_) #[true, true, true, true, true, true, false, true, false, false, false, false, false, false] rfl rfl (by kernel_rfl) (fun _ _ _ h => h) (Or.inl ⟨by rfl, ?_⟩) hHeld ?_ ?_
      rotate_left
      · rintro w' ⟨s0, s1, s2, s3, s4, s5, s6⟩
        go_simp
        with_reducible rfl
      rotate_left
      · simp only [Act.put, List.setIfInBounds_toArray, List.set_cons_zero, List.set_cons_succ, i64_w, i32_w]
        rfl
      refine take_ (i := 6) (N := some 45) (v := ?_) (a' := ?_) #[true, true, true, true, true, true, true, true, false, false, false, false, false, false] rfl rfl (by kernel_rfl) (fun _ _ _ h => h) (Or.inl ⟨by rfl, ?_⟩) hHeld ?_ ?_
      rotate_left
      · rintro w' ⟨s0, s1, s2, s3, s4, s5, s6⟩
        go_simp
        with_reducible rfl
      rotate_left
      · simp only [Act.put, List.setIfInBounds_toArray, List.set_cons_zero, List.set_cons_succ, i64_w, i32_w]
        rfl
      refine one_ (i := 8) (N := some 47) #[true, true, true, true, true, true, true, true, true, false, false, false, false, false] rfl rfl (by kernel_rfl) (by decide) (fun K hK => ?_)
      refine call_ 21 #[.pointer (some ⟨p, 0, none⟩), .agg #[.int .i64 3, .int .i64 part, .int .i64 inst, .int .i64 step, .int .i64 sort, .slice A keys.length c], .bool yes] (by rfl) rfl (by kernel_rfl) ?_
      with_reducible refine (HCL.out).mono ?_
      rintro e w2 ⟨rfl, hb2⟩
      refine ⟨_, rfl, ?_⟩
      refine hK.out _ _ ⟨(cell_below hb2 hHeld.1), (cell_below hb2 hHeld.2.1), (cell_below hb2 hHeld.2.2.1), (cell_below hb2 hHeld.2.2.2.1), (cell_below hb2 hHeld.2.2.2.2.1), (cell_below hb2 hHeld.2.2.2.2.2.1), (cell_below hb2 hHeld.2.2.2.2.2.2)⟩ (fun hHeld => ?_)
      clear hK K
      refine norm_ (a' := ?_) ?_ ?_
      rotate_left
      · show Act.put _ (some 47) _ = _
        simp only [Act.put, List.setIfInBounds_toArray, List.set_cons_zero, List.set_cons_succ, i64_w, i32_w]
        rfl
      refine pure_ (i := 9) (N := some 38) (v := ?_) (a' := ?_) #[true, true, true, true, true, true, true, true, true, true, false, false, false, false] rfl rfl (by kernel_rfl) (fun _ _ _ h => h) (Or.inl ⟨by rfl, ?_⟩) ?_ ?_
      rotate_left
      · intro w'
        go_simp
        with_reducible rfl
      rotate_left
      · simp only [Act.put, List.setIfInBounds_toArray, List.set_cons_zero, List.set_cons_succ, i64_w, i32_w]
        rfl
      refine pure_ (i := 10) (N := some 48) (v := ?_) (a' := ?_) #[true, true, true, true, true, true, true, true, true, true, true, false, false, false] rfl rfl (by kernel_rfl) (fun _ _ _ h => h) (Or.inl ⟨by rfl, ?_⟩) ?_ ?_
      rotate_left
      · intro w'
        go_simp
        with_reducible rfl
      rotate_left
      · simp only [Act.put, List.setIfInBounds_toArray, List.set_cons_zero, List.set_cons_succ, i64_w, i32_w]
        rfl
      refine pure_ (i := 11) (N := some 49) (v := ?_) (a' := ?_) #[true, true, true, true, true, true, true, true, true, true, true, true, false, false] rfl rfl (by kernel_rfl) (fun _ _ _ h => h) (Or.inl ⟨by rfl, ?_⟩) ?_ ?_
      rotate_left
      · intro w'
        go_simp
        with_reducible rfl
      rotate_left
      · simp only [Act.put, List.setIfInBounds_toArray, List.set_cons_zero, List.set_cons_succ, i64_w, i32_w]
        rfl
      refine pure_ (i := 12) (N := some 12) (v := ?_) (a' := ?_) #[true, true, true, true, true, true, true, true, true, true, true, true, true, false] rfl rfl (by kernel_rfl) (fun _ _ _ h => h) (Or.inl ⟨by rfl, ?_⟩) ?_ ?_
      rotate_left
      · intro w'
        go_simp
        with_reducible rfl
      rotate_left
      · simp only [Act.put, List.setIfInBounds_toArray, List.set_cons_zero, List.set_cons_succ, i64_w, i32_w]
        rfl
      refine pure_ (i := 13) (N := some 13) (v := ?_) (a' := ?_) #[true, true, true, true, true, true, true, true, true, true, true, true, true, true] rfl rfl (by kernel_rfl) (fun _ _ _ h => h) (Or.inl ⟨by rfl, ?_⟩) ?_ ?_
      rotate_left
      · intro w'
        go_simp
        with_reducible rfl
      rotate_left
      · simp only [Act.put, List.setIfInBounds_toArray, List.set_cons_zero, List.set_cons_succ, i64_w, i32_w]
        rfl
      refine done_ (by kernel_rfl) ?_
      clear hHeld
      have hb12 : Below w1.heap.size w1 w2 := (below_drew (Below.refl _ _)).trans hb2
      clear hb2
      have k0 := row_below hb12 HK.out.1
      have k1 := row_below hb12 HK.out.2.1
      have k2 := row_below hb12 HK.out.2.2.1
      have z0 : q0 < w2.heap.size := (Array.getElem?_eq_some_iff.1 k0).1
      have z1 : q1 < w2.heap.size := (Array.getElem?_eq_some_iff.1 k1).1
      have z2 : q2 < w2.heap.size := (Array.getElem?_eq_some_iff.1 k2).1
      have z0n : q0 ≠ w2.heap.size := Nat.ne_of_lt z0
      have z1n : q1 ≠ w2.heap.size := Nat.ne_of_lt z1
      have z2n : q2 ≠ w2.heap.size := Nat.ne_of_lt z2
      have z0m := z0n.symm
      have z1m := z1n.symm
      have z2m := z2n.symm
      have HB2 := Aside0.mk (And.intro (HB.out.1.trans (hb12.mono HB.out.1.size)) (And.intro HB.out.2.1 (And.intro HB.out.2.2 (Nat.le_trans HB.out.1.size hb12.size))))
      have HZ := Aside0.mk (And.intro z1 z2)
      clear hb12 hf0 hf1 hf2 hl0 hl1 hl2 hl3 hl4 hl5 z0 z1 z2
      have hl0 : w2.cell? ⟨q0, 0, none⟩ = some (.int .i64 3) := row_cell k0 rfl
      have hl1 : w2.cell? ⟨q0, 1, none⟩ = some (.int .i64 part) := row_cell k0 rfl
      have hl2 : w2.cell? ⟨q0, 2, none⟩ = some (.int .i64 inst) := row_cell k0 rfl
      have hl3 : w2.cell? ⟨q0, 3, none⟩ = some (.int .i64 step) := row_cell k0 rfl
      have hl4 : w2.cell? ⟨q0, 4, none⟩ = some (.int .i64 sort) := row_cell k0 rfl
      have hl5 : w2.cell? ⟨q0, 5, none⟩ = some (.slice A keys.length c) := row_cell k0 rfl
      have he0 : w2.cell? ⟨q1, 0, none⟩ = some (.int .i64 0) := row_cell k1 rfl
      have he1 : w2.cell? ⟨q1, 1, none⟩ = some (.int .i64 0) := row_cell k1 rfl
      have he2 : w2.cell? ⟨q1, 2, none⟩ = some (.int .i64 0) := row_cell k1 rfl
      have he3 : w2.cell? ⟨q1, 3, none⟩ = some (.slice none 0 0) := row_cell k1 rfl
      have hr0 : w2.cell? ⟨q2, 0, none⟩ = some (.int .i64 0) := row_cell k2 rfl
      have hr1 : w2.cell? ⟨q2, 1, none⟩ = some (.int .i64 0) := row_cell k2 rfl
      have hr2 : w2.cell? ⟨q2, 2, none⟩ = some (.int .i64 0) := row_cell k2 rfl
      have hr3 : w2.cell? ⟨q2, 3, none⟩ = some (.int .i64 0) := row_cell k2 rfl
      have hr4 : w2.cell? ⟨q2, 4, none⟩ = some (.int .i64 0) := row_cell k2 rfl
      have hr5 : w2.cell? ⟨q2, 5, none⟩ = some (.slice none 0 0) := row_cell k2 rfl
      have fe : ∀ j, w2.frozen? ⟨q1, j, none⟩ = false := fun j => free_of_row k1
      have fr : ∀ j, w2.frozen? ⟨q2, j, none⟩ = false := fun j => free_of_row k2
      clear k0 k1 k2
      by_cases hk0 : k = 0
      · subst hk0
        rw [if_pos rfl] at HA
        go_wp2
        generalize hW : World.alloc w2 _ = w3
        have hb3 : Below w2.heap.size w2 w3 := hW ▸ below_one w2 _
        have kn : w3.heap[w2.heap.size]? = some (.cells #[.int .i64 0, .int .i64 0, .int .i64 0, .slice none 0 0] 29 (0, 0)) := hW ▸ alloc1 w2 _
        have HKN := Aside0.mk (And.intro hb3 kn)
        replace hl0 := cell_below hb3 hl0
        replace hl1 := cell_below hb3 hl1
        replace hl2 := cell_below hb3 hl2
        replace hl3 := cell_below hb3 hl3
        replace he0 := cell_below hb3 he0
        replace he1 := cell_below hb3 he1
        replace he2 := cell_below hb3 he2
        replace he3 := cell_below hb3 he3
        replace hr0 := cell_below hb3 hr0
        replace hr1 := cell_below hb3 hr1
        replace hr2 := cell_below hb3 hr2
        replace hr3 := cell_below hb3 hr3
        replace hr4 := cell_below hb3 hr4
        replace hr5 := cell_below hb3 hr5
        have hv0 : w3.cell? ⟨w2.heap.size, 0, none⟩ = some (.int .i64 0) := row_cell kn rfl
        have hv1 : w3.cell? ⟨w2.heap.size, 1, none⟩ = some (.int .i64 0) := row_cell kn rfl
        have hv2 : w3.cell? ⟨w2.heap.size, 2, none⟩ = some (.int .i64 0) := row_cell kn rfl
        have hv3 : w3.cell? ⟨w2.heap.size, 3, none⟩ = some (.slice none 0 0) := row_cell kn rfl
        have fe3 : ∀ j, w3.frozen? ⟨q1, j, none⟩ = false := fun j => (hb3.frozen (p := ⟨q1, j, none⟩) HZ.out.1).trans (fe j)
        have fr3 : ∀ j, w3.frozen? ⟨q2, j, none⟩ = false := fun j => (hb3.frozen (p := ⟨q2, j, none⟩) HZ.out.2).trans (fr j)
        clear kn hb3 hW fe fr
        refine start_ (n := 12) (S := fun w' => w'.cell? ⟨w2.heap.size, 0, none⟩ = some (.int .i64 0) ∧ w'.cell? ⟨w2.heap.size, 1, none⟩ = some (.int .i64 0) ∧ w'.cell? ⟨w2.heap.size, 2, none⟩ = some (.int .i64 0) ∧ w'.cell? ⟨w2.heap.size, 3, none⟩ = some (.slice none 0 0) ∧ w'.cell? ⟨q0, 1, none⟩ = some (.int .i64 part) ∧ w'.cell? ⟨q0, 2, none⟩ = some (.int .i64 inst) ∧ w'.cell? ⟨q0, 3, none⟩ = some (.int .i64 step)) (ds := []) #[false, false, false, false, false, false, false, false, false, false, false, false] (by kernel_rfl) rfl rfl ⟨(by go_keep), (by go_keep), (by go_keep), (by go_keep), (by go_keep), (by go_keep), (by go_keep)⟩ (fun hHeld => ?_)
        refine pure_ (i := 1) (N := some 66) (v := ?_) (a' := ?_) #[false, true, false, false, false, false, false, false, false, false, false, false] rfl rfl (by kernel_rfl) (fun _ _ _ h => h) (Or.inl ⟨by rfl, ?_⟩) ?_ ?_
        rotate_left
        · intro w'
          go_simp
          with_reducible rfl
        rotate_left
        · simp only [Act.put, List.setIfInBounds_toArray, List.set_cons_zero, List.set_cons_succ, i64_w, i32_w]
          rfl
        refine pure_ (i := 2) (N := some 67) (v := ?_) (a' := ?_) #[false, true, true, false, false, false, false, false, false, false, false, false] rfl rfl (by kernel_rfl) (fun _ _ _ h => h) (Or.inl ⟨by rfl, ?_⟩) ?_ ?_
        rotate_left
        · intro w'
          go_simp
          with_reducible rfl
        rotate_left
        · simp only [Act.put, List.setIfInBounds_toArray, List.set_cons_zero, List.set_cons_succ, i64_w, i32_w]
          rfl
        refine pure_ (i := 4) (N := some 69) (v := ?_) (a' := ?_) #[false, true, true, false, true, false, false, false, false, false, false, false] rfl rfl (by kernel_rfl) (fun _ _ _ h => h) (Or.inl ⟨by rfl, ?_⟩) ?_ ?_
        rotate_left
        · intro w'
          go_simp
          with_reducible rfl
        rotate_left
        · simp only [Act.put, List.setIfInBounds_toArray, List.set_cons_zero, List.set_cons_succ, i64_w, i32_w]
          rfl
        refine pure_ (i := 6) (N := some 71) (v := ?_) (a' := ?_) #[false, true, true, false, true, false, true, false, false, false, false, false] rfl rfl (by kernel_rfl) (fun _ _ _ h => h) (Or.inl ⟨by rfl, ?_⟩) ?_ ?_
        rotate_left
        · intro w'
          go_simp
          with_reducible rfl
        rotate_left
        · simp only [Act.put, List.setIfInBounds_toArray, List.set_cons_zero, List.set_cons_succ, i64_w, i32_w]
          rfl
        refine take_ (i := 0) (N := some 65) (v := ?_) (a' := ?_) #[true, true, true, false, true, false, true, false, false, false, false, false] rfl rfl (by kernel_rfl) (fun _ _ _ h => h) (Or.inl ⟨by rfl, ?_⟩) hHeld ?_ ?_
        rotate_left
        · rintro w' ⟨s0, s1, s2, s3, s4, s5, s6⟩
          go_simp
          with_reducible rfl
        rotate_left
        · simp only [Act.put, List.setIfInBounds_toArray, List.set_cons_zero, List.set_cons_succ, i64_w, i32_w]
          rfl
        refine take_ (i := 3) (N := some 68) (v := ?_) (a' := ?_) #[true, true, true, true, true, false, true, false, false, false, false, false] rfl rfl (by kernel_rfl) (fun _ _ _ h => h) (Or.inl ⟨by rfl, ?_⟩) hHeld ?_ ?_
        rotate_left
        · rintro w' ⟨s0, s1, s2, s3, s4, s5, s6⟩
          go_simp
          with_reducible rfl
        rotate_left
        · simp only [Act.put, List.setIfInBounds_toArray, List.set_cons_zero, List.set_cons_succ, i64_w, i32_w]
          rfl
        refine take_ (i := 5) (N := some 70) (v := ?_) (a' := ?_) #[true, true, true, true, true, true, true, false, false, false, false, false] rfl rfl (by kernel_rfl) (fun _ _ _ h => h) (Or.inl ⟨by rfl, ?_⟩) hHeld ?_ ?_
        rotate_left
        · rintro w' ⟨s0, s1, s2, s3, s4, s5, s6⟩
          go_simp
          with_reducible rfl
        rotate_left
        · simp only [Act.put, List.setIfInBounds_toArray, List.set_cons_zero, List.set_cons_succ, i64_w, i32_w]
          rfl
        refine take_ (i := 7) (N := some 72) (v := ?_) (a' := ?_) #[true, true, true, true, true, true, true, true, false, false, false, false] rfl rfl (by kernel_rfl) (fun _ _ _ h => h) (Or.inl ⟨by rfl, ?_⟩) hHeld ?_ ?_
        rotate_left
        · rintro w' ⟨s0, s1, s2, s3, s4, s5, s6⟩
          go_simp
          with_reducible rfl
        rotate_left
        · simp only [Act.put, List.setIfInBounds_toArray, List.set_cons_zero, List.set_cons_succ, i64_w, i32_w]
          rfl
        refine pure_ (i := 8) (N := some 73) (v := ?_) (a' := ?_) #[true, true, true, true, true, true, true, true, true, false, false, false] rfl rfl (by kernel_rfl) (fun _ _ _ h => h) (Or.inl ⟨by rfl, ?_⟩) ?_ ?_
        rotate_left
        · intro w'
          go_simp
          with_reducible rfl
        rotate_left
        · simp only [Act.put, List.setIfInBounds_toArray, List.set_cons_zero, List.set_cons_succ, i64_w, i32_w]
          rfl
        refine one_ (i := 9) (N := none) #[true, true, true, true, true, true, true, true, true, true, false, false] rfl rfl (by kernel_rfl) (by decide) (fun K hK => ?_)
        refine skip_ (w1 := ?_) (by rfl) rfl ?_ ?_
        rotate_left
        · go_simp
          rfl
        refine hK.out _ _ ⟨(by go_keep), (by go_keep), (by go_keep), (by go_keep), (by go_keep), (by go_keep), (by go_keep)⟩ (fun hHeld => ?_)
        clear hK K
        refine one_ (i := 10) (N := none) #[true, true, true, true, true, true, true, true, true, true, true, false] rfl rfl (by kernel_rfl) (by decide) (fun K hK => ?_)
        refine skip_ (w1 := ?_) (by rfl) rfl ?_ ?_
        rotate_left
        · go_simp
          rfl
        refine hK.out _ _ ⟨(by go_keep), (by go_keep), (by go_keep), (by go_keep), (by go_keep), (by go_keep), (by go_keep)⟩ (fun hHeld => ?_)
        clear hK K
        refine pure_ (i := 11) (N := some 8) (v := ?_) (a' := ?_) #[true, true, true, true, true, true, true, true, true, true, true, true] rfl rfl (by kernel_rfl) (fun _ _ _ h => h) (Or.inl ⟨by rfl, ?_⟩) ?_ ?_
        rotate_left
        · intro w'
          go_simp
          with_reducible rfl
        rotate_left
        · simp only [Act.put, List.setIfInBounds_toArray, List.set_cons_zero, List.set_cons_succ, i64_w, i32_w]
          rfl
        refine done_ (by kernel_rfl) ?_
        go_wp2
        refine bodyPost_ret (by simp [results, Try.results8, go_sem, he0, he1, he2, he3, hr0, hr1, hr2, hr3, hr4, hr5]; try rfl) rfl ?_
        have HBF : Aside0 (Below w.heap.size w _) := ⟨by
          repeat (with_reducible (first | exact HB2.out.2.1 | exact HB2.out.2.2.1 | exact HB2.out.1.trans (HKN.out.1.mono HB2.out.2.2.2) | refine Below.setCell ?_ ?_ _ | apply Below.drew))⟩
        unfold AskAt
        rw [HA.out]
        refine ⟨none, 0, rfl, Nat.zero_le _, Kd.C_nil _ _, ?_⟩
        repeat (with_reducible (first | exact HB2.out.2.1 | exact HB2.out.2.2.1 | exact HB2.out.1.trans (HKN.out.1.mono HB2.out.2.2.2) | refine Below.setCell ?_ ?_ _ | apply Below.drew))
      · have hfz : ∀ cs j, (w2.alloc (.cells cs 29)).frozen? ⟨w2.heap.size, j, none⟩ = false := fun _ j => free_of_row (alloc1 w2 _)
        have hm2 : ∀ o, (w2.alloc o).cell? ⟨q0, 2, none⟩ = some (.int .i64 inst) := fun _ => cell_below (below_one _ _) hl2
        have hm3 : ∀ o, (w2.alloc o).cell? ⟨q0, 3, none⟩ = some (.int .i64 step) := fun _ => cell_below (below_one _ _) hl3
        have hm5 : ∀ o, (w2.alloc o).cell? ⟨q0, 5, none⟩ = some (.slice A keys.length c) := fun _ => cell_below (below_one _ _) hl5
        have hk0' : (k == 0) = false := beq_eq_false_iff_ne.2 hk0
        have hk0'' : (k != 0) = true := bne_iff_ne.2 hk0
        rw [if_neg hk0] at HA
        clear hk0
        by_cases hk1 : k = 1
        · subst hk1
          rw [if_pos rfl] at HA
          go_wp2_with (first | (go_at_call 23; refine (clone_calls _ A c keys (Kd.C_below HS.out.2.1.keys (HB2.out.1.trans ((below_one w2 _).mono HB2.out.2.2.2))) HL16.out).mono ?_; rintro e w5 ⟨v, rfl, hR3, hb5⟩; obtain ⟨A', c', rfl, hle', _⟩ := Kd.R_reads hR3; have kq := row_below hb5 (alloc1 w2 _); have hs3 : w5.cell? ⟨w2.heap.size, 3, none⟩ = some (.slice none 0 0) := row_cell kq rfl; have f3 : ∀ j, w5.frozen? ⟨w2.heap.size, j, none⟩ = false := fun j => free_of_row kq; have HR3 := Aside0.mk (And.intro hR3 hle'); have HQ3 := Aside0.mk (And.intro kq hb5); clear hR3 hle' kq hb5))
          generalize hW : World.setCell w5 _ _ = w3
          have hb3 : Below w2.heap.size w2 w3 := hW ▸ (((below_one w2 _).trans (HQ3.out.2.mono (below_one w2 _).size)).setCell (Nat.le_refl _) _)
          have kn : w3.heap[w2.heap.size]? = some (.cells #[.int .i64 1, .int .i64 inst, .int .i64 step, .slice A' keys.length c'] 29 (0, 0)) := hW ▸ row_setCell HQ3.out.1 3 _
          have HKN := Aside0.mk (And.intro hb3 kn)
          have hR4 : Kd.R Kd.string 9 w3 (w2.heap.size + 1) (fun _ => True) (.slice A' keys.length c') keys := hW ▸ R_one (by have h := HR3.out.1; rw [World.size_alloc] at h; exact h) (Nat.lt_succ_self _) _
          have HR4 := Aside0.mk (And.intro hR4 HR3.out.2)
          clear hm2 hm3 hm5 hfz hs3 f3 hR4
          replace hl0 := cell_below hb3 hl0
          replace hl1 := cell_below hb3 hl1
          replace hl2 := cell_below hb3 hl2
          replace hl3 := cell_below hb3 hl3
          replace he0 := cell_below hb3 he0
          replace he1 := cell_below hb3 he1
          replace he2 := cell_below hb3 he2
          replace he3 := cell_below hb3 he3
          replace hr0 := cell_below hb3 hr0
          replace hr1 := cell_below hb3 hr1
          replace hr2 := cell_below hb3 hr2
          replace hr3 := cell_below hb3 hr3
          replace hr4 := cell_below hb3 hr4
          replace hr5 := cell_below hb3 hr5
          have hv0 : w3.cell? ⟨w2.heap.size, 0, none⟩ = some (.int .i64 1) := row_cell kn rfl
          have hv1 : w3.cell? ⟨w2.heap.size, 1, none⟩ = some (.int .i64 inst) := row_cell kn rfl
          have hv2 : w3.cell? ⟨w2.heap.size, 2, none⟩ = some (.int .i64 step) := row_cell kn rfl
          have hv3 : w3.cell? ⟨w2.heap.size, 3, none⟩ = some (.slice A' keys.length c') := row_cell kn rfl
          have fe3 : ∀ j, w3.frozen? ⟨q1, j, none⟩ = false := fun j => (hb3.frozen (p := ⟨q1, j, none⟩) HZ.out.1).trans (fe j)
          have fr3 : ∀ j, w3.frozen? ⟨q2, j, none⟩ = false := fun j => (hb3.frozen (p := ⟨q2, j, none⟩) HZ.out.2).trans (fr j)
          clear kn hb3 hW fe fr
          refine start_ (n := 12) (S := fun w' => w'.cell? ⟨w2.heap.size, 0, none⟩ = some (.int .i64 1) ∧ w'.cell? ⟨w2.heap.size, 1, none⟩ = some (.int .i64 inst) ∧ w'.cell? ⟨w2.heap.size, 2, none⟩ = some (.int .i64 step) ∧ w'.cell? ⟨w2.heap.size, 3, none⟩ = some (.slice A' keys.length c') ∧ w'.cell? ⟨q0, 1, none⟩ = some (.int .i64 part) ∧ w'.cell? ⟨q0, 2, none⟩ = some (.int .i64 inst) ∧ w'.cell? ⟨q0, 3, none⟩ = some (.int .i64 step)) (ds := []) #[false, false, false, false, false, false, false, false, false, false, false, false] (by kernel_rfl) rfl rfl ⟨(by go_keep), (by go_keep), (by go_keep), (by go_keep), (by go_keep), (by go_keep), (by go_keep)⟩ (fun hHeld => ?_)
          refine pure_ (i := 1) (N := some 66) (v := ?_) (a' := ?_) #[false, true, false, false, false, false, false, false, false, false, false, false] rfl rfl (by kernel_rfl) (fun _ _ _ h => h) (Or.inl ⟨by rfl, ?_⟩) ?_ ?_
          rotate_left
          · intro w'
            go_simp
            with_reducible rfl
          rotate_left
          · simp only [Act.put, List.setIfInBounds_toArray, List.set_cons_zero, List.set_cons_succ, i64_w, i32_w]
            rfl
          refine pure_ (i := 2) (N := some 67) (v := ?_) (a' := ?_) #[false, true, true, false, false, false, false, false, false, false, false, false] rfl rfl (by kernel_rfl) (fun _ _ _ h => h) (Or.inl ⟨by rfl, ?_⟩) ?_ ?_
          rotate_left
          · intro w'
            go_simp
            with_reducible rfl
          rotate_left
          · simp only [Act.put, List.setIfInBounds_toArray, List.set_cons_zero, List.set_cons_succ, i64_w, i32_w]
            rfl
          refine pure_ (i := 4) (N := some 69) (v := ?_) (a' := ?_) #[false, true, true, false, true, false, false, false, false, false, false, false] rfl rfl (by kernel_rfl) (fun _ _ _ h => h) (Or.inl ⟨by rfl, ?_⟩) ?_ ?_
          rotate_left
          · intro w'
            go_simp
            with_reducible rfl
          rotate_left
          · simp only [Act.put, List.setIfInBounds_toArray, List.set_cons_zero, List.set_cons_succ, i64_w, i32_w]
            rfl
          refine pure_ (i := 6) (N := some 71) (v := ?_) (a' := ?_) #[false, true, true, false, true, false, true, false, false, false, false, false] rfl rfl (by kernel_rfl) (fun _ _ _ h => h) (Or.inl ⟨by rfl, ?_⟩) ?_ ?_
          rotate_left
          · intro w'
            go_simp
            with_reducible rfl
          rotate_left
          · simp only [Act.put, List.setIfInBounds_toArray, List.set_cons_zero, List.set_cons_succ, i64_w, i32_w]
            rfl
          refine take_ (i := 0) (N := some 65) (v := ?_) (a' := ?_) #[true, true, true, false, true, false, true, false, false, false, false, false] rfl rfl (by kernel_rfl) (fun _ _ _ h => h) (Or.inl ⟨by rfl, ?_⟩) hHeld ?_ ?_
          rotate_left
          · rintro w' ⟨s0, s1, s2, s3, s4, s5, s6⟩
            go_simp
            with_reducible rfl
          rotate_left
          · simp only [Act.put, List.setIfInBounds_toArray, List.set_cons_zero, List.set_cons_succ, i64_w, i32_w]
            rfl
          refine take_ (i := 3) (N := some 68) (v := ?_) (a' := ?_) #[true, true, true, true, true, false, true, false, false, false, false, false] rfl rfl (by kernel_rfl) (fun _ _ _ h => h) (Or.inl ⟨by rfl, ?_⟩) hHeld ?_ ?_
          rotate_left
          · rintro w' ⟨s0, s1, s2, s3, s4, s5, s6⟩
            go_simp
            with_reducible rfl
          rotate_left
          · simp only [Act.put, List.setIfInBounds_toArray, List.set_cons_zero, List.set_cons_succ, i64_w, i32_w]
            rfl
          refine take_ (i := 5) (N := some 70) (v := ?_) (a' := ?_) #[true, true, true, true, true, true, true, false, false, false, false, false] rfl rfl (by kernel_rfl) (fun _ _ _ h => h) (Or.inl ⟨by rfl, ?_⟩) hHeld ?_ ?_
          rotate_left
          · rintro w' ⟨s0, s1, s2, s3, s4, s5, s6⟩
            go_simp
            with_reducible rfl
          rotate_left
          · simp only [Act.put, List.setIfInBounds_toArray, List.set_cons_zero, List.set_cons_succ, i64_w, i32_w]
            rfl
          refine take_ (i := 7) (N := some 72) (v := ?_) (a' := ?_) #[true, true, true, true, true, true, true, true, false, false, false, false] rfl rfl (by kernel_rfl) (fun _ _ _ h => h) (Or.inl ⟨by rfl, ?_⟩) hHeld ?_ ?_
          rotate_left
          · rintro w' ⟨s0, s1, s2, s3, s4, s5, s6⟩
            go_simp
            with_reducible rfl
          rotate_left
          · simp only [Act.put, List.setIfInBounds_toArray, List.set_cons_zero, List.set_cons_succ, i64_w, i32_w]
            rfl
          refine pure_ (i := 8) (N := some 73) (v := ?_) (a' := ?_) #[true, true, true, true, true, true, true, true, true, false, false, false] rfl rfl (by kernel_rfl) (fun _ _ _ h => h) (Or.inl ⟨by rfl, ?_⟩) ?_ ?_
          rotate_left
          · intro w'
            go_simp
            with_reducible rfl
          rotate_left
          · simp only [Act.put, List.setIfInBounds_toArray, List.set_cons_zero, List.set_cons_succ, i64_w, i32_w]
            rfl
          refine one_ (i := 9) (N := none) #[true, true, true, true, true, true, true, true, true, true, false, false] rfl rfl (by kernel_rfl) (by decide) (fun K hK => ?_)
          refine skip_ (w1 := ?_) (by rfl) rfl ?_ ?_
          rotate_left
          · go_simp
            rfl
          refine hK.out _ _ ⟨(by go_keep), (by go_keep), (by go_keep), (by go_keep), (by go_keep), (by go_keep), (by go_keep)⟩ (fun hHeld => ?_)
          clear hK K
          refine one_ (i := 10) (N := none) #[true, true, true, true, true, true, true, true, true, true, true, false] rfl rfl (by kernel_rfl) (by decide) (fun K hK => ?_)
          refine skip_ (w1 := ?_) (by rfl) rfl ?_ ?_
          rotate_left
          · go_simp
            rfl
          refine hK.out _ _ ⟨(by go_keep), (by go_keep), (by go_keep), (by go_keep), (by go_keep), (by go_keep), (by go_keep)⟩ (fun hHeld => ?_)
          clear hK K
          refine pure_ (i := 11) (N := some 8) (v := ?_) (a' := ?_) #[true, true, true, true, true, true, true, true, true, true, true, true] rfl rfl (by kernel_rfl) (fun _ _ _ h => h) (Or.inl ⟨by rfl, ?_⟩) ?_ ?_
          rotate_left
          · intro w'
            go_simp
            with_reducible rfl
          rotate_left
          · simp only [Act.put, List.setIfInBounds_toArray, List.set_cons_zero, List.set_cons_succ, i64_w, i32_w]
            rfl
          refine done_ (by kernel_rfl) ?_
          go_wp2
          refine bodyPost_ret (by simp [results, Try.results8, go_sem, he0, he1, he2, he3, hr0, hr1, hr2, hr3, hr4, hr5]; try rfl) rfl ?_
          have HBF : Aside0 (Below w.heap.size w _) := ⟨by
            repeat (with_reducible (first | exact HB2.out.2.1 | exact HB2.out.2.2.1 | exact HB2.out.1.trans (HKN.out.1.mono HB2.out.2.2.2) | refine Below.setCell ?_ ?_ _ | apply Below.drew))⟩
          unfold AskAt
          rw [HA.out]
          refine ⟨A', c', rfl, HR4.out.2, (Kd.R_reads' (n := keys.length) (c := c') (e := 9) (base := w2.heap.size + 1) (ok := fun _ => True) ?_).2.2, ?_⟩
          · repeat (with_reducible (first | exact HR4.out.1 | exact Nat.lt_succ_of_lt HZ.out.1 | exact Nat.lt_succ_of_lt HZ.out.2 | refine R_one ?_ ?_ _ | refine R_drew ?_))
          · repeat (with_reducible (first | exact HB2.out.2.1 | exact HB2.out.2.2.1 | exact HB2.out.1.trans (HKN.out.1.mono HB2.out.2.2.2) | refine Below.setCell ?_ ?_ _ | apply Below.drew))
        · have hk1' : (k == 1) = false := beq_eq_false_iff_ne.2 hk1
          have HK1 := Aside0.mk hk1
          clear hk1
          go_wp2
          generalize hW : World.alloc w2 _ = w3
          have hb3 : Below w2.heap.size w2 w3 := hW ▸ below_one w2 _
          have kn : w3.heap[w2.heap.size]? = some (.cells #[.int .i64 k, .int .i64 inst, .int .i64 step, .slice none 0 0] 29 (0, 0)) := hW ▸ alloc1 w2 _
          have HKN := Aside0.mk (And.intro hb3 kn)
          clear hm2 hm3 hm5 hfz
          replace hl0 := cell_below hb3 hl0
          replace hl1 := cell_below hb3 hl1
          replace hl2 := cell_below hb3 hl2
          replace hl3 := cell_below hb3 hl3
          replace he0 := cell_below hb3 he0
          replace he1 := cell_below hb3 he1
          replace he2 := cell_below hb3 he2
          replace he3 := cell_below hb3 he3
          replace hr0 := cell_below hb3 hr0
          replace hr1 := cell_below hb3 hr1
          replace hr2 := cell_below hb3 hr2
          replace hr3 := cell_below hb3 hr3
          replace hr4 := cell_below hb3 hr4
          replace hr5 := cell_below hb3 hr5
          have hv0 : w3.cell? ⟨w2.heap.size, 0, none⟩ = some (.int .i64 k) := row_cell kn rfl
          have hv1 : w3.cell? ⟨w2.heap.size, 1, none⟩ = some (.int .i64 inst) := row_cell kn rfl
          have hv2 : w3.cell? ⟨w2.heap.size, 2, none⟩ = some (.int .i64 step) := row_cell kn rfl
          have hv3 : w3.cell? ⟨w2.heap.size, 3, none⟩ = some (.slice none 0 0) := row_cell kn rfl
          have fe3 : ∀ j, w3.frozen? ⟨q1, j, none⟩ = false := fun j => (hb3.frozen (p := ⟨q1, j, none⟩) HZ.out.1).trans (fe j)
          have fr3 : ∀ j, w3.frozen? ⟨q2, j, none⟩ = false := fun j => (hb3.frozen (p := ⟨q2, j, none⟩) HZ.out.2).trans (fr j)
          clear kn hb3 hW fe fr
          refine start_ (n := 12) (S := fun w' => w'.cell? ⟨w2.heap.size, 0, none⟩ = some (.int .i64 k) ∧ w'.cell? ⟨w2.heap.size, 1, none⟩ = some (.int .i64 inst) ∧ w'.cell? ⟨w2.heap.size, 2, none⟩ = some (.int .i64 step) ∧ w'.cell? ⟨w2.heap.size, 3, none⟩ = some (.slice none 0 0) ∧ w'.cell? ⟨q0, 1, none⟩ = some (.int .i64 part) ∧ w'.cell? ⟨q0, 2, none⟩ = some (.int .i64 inst) ∧ w'.cell? ⟨q0, 3, none⟩ = some (.int .i64 step)) (ds := []) #[false, false, false, false, false, false, false, false, false, false, false, false] (by kernel_rfl) rfl rfl ⟨(by go_keep), (by go_keep), (by go_keep), (by go_keep), (by go_keep), (by go_keep), (by go_keep)⟩ (fun hHeld => ?_)
          refine pure_ (i := 1) (N := some 66) (v := ?_) (a' := ?_) #[false, true, false, false, false, false, false, false, false, false, false, false] rfl rfl (by kernel_rfl) (fun _ _ _ h => h) (Or.inl ⟨by rfl, ?_⟩) ?_ ?_
          rotate_left
          · intro w'
            go_simp
            with_reducible rfl
          rotate_left
          · simp only [Act.put, List.setIfInBounds_toArray, List.set_cons_zero, List.set_cons_succ, i64_w, i32_w]
            rfl
          refine pure_ (i := 2) (N := some 67) (v := ?_) (a' := ?_) #[false, true, true, false, false, false, false, false, false, false, false, false] rfl rfl (by kernel_rfl) (fun _ _ _ h => h) (Or.inl ⟨by rfl, ?_⟩) ?_ ?_
          rotate_left
          · intro w'
            go_simp
            with_reducible rfl
          rotate_left
          · simp only [Act.put, List.setIfInBounds_toArray, List.set_cons_zero, List.set_cons_succ, i64_w, i32_w]
            rfl
          refine pure_ (i := 4) (N := some 69) (v := ?_) (a' := ?_) #[false, true, true, false, true, false, false, false, false, false, false, false] rfl rfl (by kernel_rfl) (fun _ _ _ h => h) (Or.inl ⟨by rfl, ?_⟩) ?_ ?_
          rotate_left
          · intro w'
            go_simp
            with_reducible rfl
          rotate_left
          · simp only [Act.put, List.setIfInBounds_toArray, List.set_cons_zero, List.set_cons_succ, i64_w, i32_w]
            rfl
          refine pure_ (i := 6) (N := some 71) (v := ?_) (a' := ?_) #[false, true, true, false, true, false, true, false, false, false, false, false] rfl rfl (by kernel_rfl) (fun _ _ _ h => h) (Or.inl ⟨by rfl, ?_⟩) ?_ ?_
          rotate_left
          · intro w'
            go_simp
            with_reducible rfl
          rotate_left
          · simp only [Act.put, List.setIfInBounds_toArray, List.set_cons_zero, List.set_cons_succ, i64_w, i32_w]
            rfl
          refine take_ (i := 0) (N := some 65) (v := ?_) (a' := ?_) #[true, true, true, false, true, false, true, false, false, false, false, false] rfl rfl (by kernel_rfl) (fun _ _ _ h => h) (Or.inl ⟨by rfl, ?_⟩) hHeld ?_ ?_
          rotate_left
          · rintro w' ⟨s0, s1, s2, s3, s4, s5, s6⟩
            go_simp
            with_reducible rfl
          rotate_left
          · simp only [Act.put, List.setIfInBounds_toArray, List.set_cons_zero, List.set_cons_succ, i64_w, i32_w]
            rfl
          refine take_ (i := 3) (N := some 68) (v := ?_) (a' := ?_) #[true, true, true, true, true, false, true, false, false, false, false, false] rfl rfl (by kernel_rfl) (fun _ _ _ h => h) (Or.inl ⟨by rfl, ?_⟩) hHeld ?_ ?_
          rotate_left
          · rintro w' ⟨s0, s1, s2, s3, s4, s5, s6⟩
            go_simp
            with_reducible rfl
          rotate_left
          · simp only [Act.put, List.setIfInBounds_toArray, List.set_cons_zero, List.set_cons_succ, i64_w, i32_w]
            rfl
          refine take_ (i := 5) (N := some 70) (v := ?_) (a' := ?_) #[true, true, true, true, true, true, true, false, false, false, false, false] rfl rfl (by kernel_rfl) (fun _ _ _ h => h) (Or.inl ⟨by rfl, ?_⟩) hHeld ?_ ?_
          rotate_left
          · rintro w' ⟨s0, s1, s2, s3, s4, s5, s6⟩
            go_simp
            with_reducible rfl
          rotate_left
          · simp only [Act.put, List.setIfInBounds_toArray, List.set_cons_zero, List.set_cons_succ, i64_w, i32_w]
            rfl
          refine take_ (i := 7) (N := some 72) (v := ?_) (a' := ?_) #[true, true, true, true, true, true, true, true, false, false, false, false] rfl rfl (by kernel_rfl) (fun _ _ _ h => h) (Or.inl ⟨by rfl, ?_⟩) hHeld ?_ ?_
          rotate_left
          · rintro w' ⟨s0, s1, s2, s3, s4, s5, s6⟩
            go_simp
            with_reducible rfl
          rotate_left
          · simp only [Act.put, List.setIfInBounds_toArray, List.set_cons_zero, List.set_cons_succ, i64_w, i32_w]
            rfl
          refine pure_ (i := 8) (N := some 73) (v := ?_) (a' := ?_) #[true, true, true, true, true, true, true, true, true, false, false, false] rfl rfl (by kernel_rfl) (fun _ _ _ h => h) (Or.inl ⟨by rfl, ?_⟩) ?_ ?_
          rotate_left
          · intro w'
            go_simp
            with_reducible rfl
          rotate_left
          · simp only [Act.put, List.setIfInBounds_toArray, List.set_cons_zero, List.set_cons_succ, i64_w, i32_w]
            rfl
          refine one_ (i := 9) (N := none) #[true, true, true, true, true, true, true, true, true, true, false, false] rfl rfl (by kernel_rfl) (by decide) (fun K hK => ?_)
          refine skip_ (w1 := ?_) (by rfl) rfl ?_ ?_
          rotate_left
          · go_simp
            rfl
          refine hK.out _ _ ⟨(by go_keep), (by go_keep), (by go_keep), (by go_keep), (by go_keep), (by go_keep), (by go_keep)⟩ (fun hHeld => ?_)
          clear hK K
          refine one_ (i := 10) (N := none) #[true, true, true, true, true, true, true, true, true, true, true, false] rfl rfl (by kernel_rfl) (by decide) (fun K hK => ?_)
          refine skip_ (w1 := ?_) (by rfl) rfl ?_ ?_
          rotate_left
          · go_simp
            rfl
          refine hK.out _ _ ⟨(by go_keep), (by go_keep), (by go_keep), (by go_keep), (by go_keep), (by go_keep), (by go_keep)⟩ (fun hHeld => ?_)
          clear hK K
          refine pure_ (i := 11) (N := some 8) (v := ?_) (a' := ?_) #[true, true, true, true, true, true, true, true, true, true, true, true] rfl rfl (by kernel_rfl) (fun _ _ _ h => h) (Or.inl ⟨by rfl, ?_⟩) ?_ ?_
          rotate_left
          · intro w'
            go_simp
            with_reducible rfl
          rotate_left
          · simp only [Act.put, List.setIfInBounds_toArray, List.set_cons_zero, List.set_cons_succ, i64_w, i32_w]
            rfl
          refine done_ (by kernel_rfl) ?_
          go_wp2
          refine bodyPost_ret (by simp [results, Try.results8, go_sem, he0, he1, he2, he3, hr0, hr1, hr2, hr3, hr4, hr5]; try rfl) rfl ?_
          have HBF : Aside0 (Below w.heap.size w _) := ⟨by
            repeat (with_reducible (first | exact HB2.out.2.1 | exact HB2.out.2.2.1 | exact HB2.out.1.trans (HKN.out.1.mono HB2.out.2.2.2) | refine Below.setCell ?_ ?_ _ | apply Below.drew))⟩
          unfold AskAt
          rw [HA.out]
          rw [if_neg HK1.out]
          refine ⟨none, 0, rfl, Nat.zero_le _, Kd.C_nil _ _, ?_⟩
          repeat (with_reducible (first | exact HB2.out.2.1 | exact HB2.out.2.2.1 | exact HB2.out.1.trans (HKN.out.1.mono HB2.out.2.2.2) | refine Below.setCell ?_ ?_ _ | apply Below.drew))
end Go.Proofs.Ytahonoeiamjgbaa.LgTk

/- odysseylaw17.live: the walk, by hand. -/
namespace Go.Proofs.Ytahonoeiamjgbaa.LgTk
open Go.RowKit Go.IntWalk Go.Maps Go.Proofs.Ytahonoeiamjgbaa.G Go.Proofs.YtahonoeiamjgbaaW.PrintWords Go.Proofs.Ytahonoeiamjgbaa.LgMaps Go.Proofs.Ytahonoeiamjgbaa.LgLocks Go.Proofs.Ytahonoeiamjgbaa.CdForm Go.Proofs.Ytahonoeiamjgbaa.Lg Go.Proofs.Ytahonoeiamjgbaa.LgAt Go.Proofs.Ytahonoeiamjgbaa.Tabs Go.Proofs.Ytahonoeiamjgbaa.CdMay Go.Proofs.Ytahonoeiamjgbaa.CdKeys

def room : ByteArray := ⟨#[114, 111, 111, 109]⟩
def letter0 : CdLetter.D := ⟨1, 1, 5, 0, 1, [room]⟩
def event0 : CdEvent.D := ⟨1, 5, 0, [room]⟩
theorem room_name : Nm.isName room = true := by decide +kernel
section
variable [Tab]
theorem may0 : mayL letter0 = true := by
  simp [mayL, letter0, btw, areKeys, goK, room_name]
theorem mayE0 : mayE event0 = true := by
  simp [mayE, event0, btw, areKeys, goK, room_name]
theorem ask0 : askF S.new letter0 true = (event0, ⟨4, 1, 5, 0, 0, []⟩, 0) := by
  have hw : way S.new letter0 true = (1, 4) := by
    simp [way, letter0, doF, S.new, taken]
  rw [askF, if_neg (by rw [may0]; simp [letter0]), hw]
  rfl
theorem apply0 : applyF S.new event0 = (markS S.new event0, 0) := by
  rw [applyF, if_neg (by rw [mayE0]; simp), if_neg (by simp [event0, S.new]), if_neg (by simp [event0, S.new, taken]), if_neg (by simp [event0])]
end
theorem after0 : (markS S.new ⟨1, 5, 0, [room]⟩).mark 5 0 = 1 ∧ (markS S.new ⟨1, 5, 0, [room]⟩).freed 5 = 0 ∧ (markS S.new ⟨1, 5, 0, [room]⟩).holder room = 5 := by
  refine ⟨rfl, rfl, ?_⟩
  simp [markS, isIn]
theorem texts_self (l : List ByteArray) : ∀ n i, i ≤ l.length → l.length - i < n → l.length ≤ 4000 → odysseylaw17_texts.l0 n l l (i : Int) = some true := by
  intro n
  induction n with
  | zero => intro i hi h _; omega
  | succ n ih =>
    intro i hi h hl
    rw [odysseylaw17_texts.l0]
    by_cases hlt : i < l.length
    · rw [if_pos (by omega), if_pos (by omega), if_pos (by omega), if_pos rfl]
      rw [show wrap64 ((i : Int) + 1) = ((i + 1 : Nat) : Int) by unfold wrap64; omega]
      exact ih (i + 1) (by omega) (by omega) hl
    · rw [if_neg (by omega)]
theorem textsF_self (l : List ByteArray) (hl : l.length ≤ 4000) : odysseylaw17_texts.f 4001 l l = some true := by
  rw [odysseylaw17_texts.f, if_pos rfl]
  exact texts_self l 4001 0 (by omega) (by omega) hl
theorem sameE_self (d : CdEvent.D) (hl : d.keys.length ≤ 4000) : odysseylaw17_SameEvent.f 4001 d.kind d.inst d.step d.keys d.kind d.inst d.step d.keys = some true := by
  simp only [odysseylaw17_SameEvent.f, if_true, textsF_self d.keys hl, Option.bind_some]
theorem sameL_self (d : CdLetter.D) (hl : d.keys.length ≤ 4000) : odysseylaw17_SameLetter.f 4001 d.kind d.part d.inst d.step d.sort d.keys d.kind d.part d.inst d.step d.sort d.keys = some true := by
  simp only [odysseylaw17_SameLetter.f, if_true, textsF_self d.keys hl, Option.bind_some]
theorem one_key (w : World) (k : ByteArray) : Kd.C Kd.string (w.alloc (.cells #[.string k] 9)) (some ⟨w.heap.size, 0, none⟩) [k].length [k] := by
  have hr := alloc1 w (.cells #[.string k] 9)
  refine ⟨rfl, by simp, fun _ => ⟨_, rfl, fun j p hj => ?_⟩⟩
  cases j with
  | zero =>
    have hp : k = p := by simpa using hj
    subst hp
    refine ⟨[.string k], rfl, rfl, fun i u hu => ?_⟩
    cases i with
    | zero =>
      have : u = .string k := by simpa using hu.symm
      subst this
      exact row_cell hr rfl
    | succ i => simp at hu
  | succ j => simp at hj
theorem letOk0 (w : World) (A : Option Addr) (l : CdLetter.D) (h : Kd.C Kd.string w A l.keys.length l.keys) (hl : l.keys.length ≤ 4000) (hs : ∀ k ∈ l.keys, k.size ≤ 4000) (hi : wf l.inst) (hst : wf l.step) : LetOk w A l :=
  ⟨h, by omega, fun k hk => Nat.le_trans (hs k hk) (by omega), hi, hst⟩
variable [Tab]

set_option linter.unusedSimpArgs false in
set_option maxHeartbeats 4000000 in
set_option maxRecDepth 100000 in
theorem live_calls (w : World) (hT : Tab.At w) : Calls Try.prog 15 #[] w fun e w' => e = .returned (.bool true) ∧ Below w.heap.size w w' := by
  have HT := Aside0.mk hT
  clear hT
  have hr : (⟨#[114, 111, 111, 109]⟩ : ByteArray) = room := rfl
  go_enter Try.func15, Try.ntmps15
  go_wp2_with fail
  refine (new_calls w).mono ?_
  rintro e w1 ⟨p, d, rfl, hA, hn, hp, hm, hb⟩
  have H1 := Aside0.mk (And.intro hA (And.intro hn (And.intro hp (And.intro hm hb))))
  clear hA hn hp hm hb
  go_wp2_with fail
  have hask := ask_calls ((w1.alloc (.cells #[.string room] 9)).alloc (.cells #[.int .i64 1, .int .i64 1, .int .i64 5, .int .i64 0, .int .i64 1, .slice (some ⟨w1.heap.size, 0, none⟩) 1 1] 25)) p d S.new (some ⟨w1.heap.size, 0, none⟩) 1 letter0 true
    (H1.out.1.below (below_two _ _ _)) (letOk0 _ _ letter0 (Kd.C_alloc (one_key w1 room) _) (by decide) (by decide) (by decide) (by decide)) (by decide) (Tab.below HT.out (H1.out.2.2.2.2.trans ((below_two w1 _ _).mono H1.out.2.2.2.2.size)))
  rw [ask0] at hask
  refine hask.mono ?_
  rintro e w2 ⟨A, c, rfl, hc, hC, hb2⟩
  simp only [CdEvent.cells, CdLetter.cells, event0, List.length_cons, List.length_nil] at *
  have HB2 := Aside0.mk (And.intro ((below_two w1 _ _).trans (hb2.mono (below_two w1 _ _).size)) (And.intro hc hC))
  clear hb2 hc hC hask
  go_wp2_with fail
  refine (odysseylaw17_SameEvent.calls 4001 1 5 0 A c [room] 1 5 0 (some ⟨w2.heap.size + 1 + 1, 0, none⟩) 1 [room] true _ (Kd.C_below HB2.out.2.2 (alloc4 w2 _ _ _ _).2.2.2.2) HB2.out.2.1 ?_ (Nat.le_refl _) (sameE_self event0 (by decide))).mono ?_
  · have h := one_key ((w2.alloc (.cells #[.int .i64 1, .int .i64 5, .int .i64 0, .slice A 1 c] 29)).alloc (.cells #[.int .i64 4, .int .i64 1, .int .i64 5, .int .i64 0, .int .i64 0, .slice none 0 0] 25)) room
    rw [show ((w2.alloc (.cells #[.int .i64 1, .int .i64 5, .int .i64 0, .slice A 1 c] 29)).alloc (.cells #[.int .i64 4, .int .i64 1, .int .i64 5, .int .i64 0, .int .i64 0, .slice none 0 0] 25)).heap.size = w2.heap.size + 1 + 1 by simp] at h
    exact Kd.C_alloc h _
  rintro e w3 ⟨rfl, hb3⟩
  obtain ⟨r0, r1, r2, r3, hb4⟩ := alloc4 w2 (.cells #[.int .i64 1, .int .i64 5, .int .i64 0, .slice A 1 c] 29) (.cells #[.int .i64 4, .int .i64 1, .int .i64 5, .int .i64 0, .int .i64 0, .slice none 0 0] 25) (.cells #[.string room] 9) (.cells #[.int .i64 1, .int .i64 5, .int .i64 0, .slice (some ⟨w2.heap.size + 1 + 1, 0, none⟩) 1 1] 29)
  have hb23 : Below w2.heap.size w2 w3 := hb4.trans (hb3.mono hb4.size)
  replace r0 := row_below hb3 r0
  replace r1 := row_below hb3 r1
  have he0 : w3.cell? ⟨w2.heap.size, 0, none⟩ = some (.int .i64 1) := row_cell r0 rfl
  have he1 : w3.cell? ⟨w2.heap.size, 1, none⟩ = some (.int .i64 5) := row_cell r0 rfl
  have he2 : w3.cell? ⟨w2.heap.size, 2, none⟩ = some (.int .i64 0) := row_cell r0 rfl
  have he3 : w3.cell? ⟨w2.heap.size, 3, none⟩ = some (.slice A 1 c) := row_cell r0 rfl
  have hl0 : w3.cell? ⟨w2.heap.size + 1, 0, none⟩ = some (.int .i64 4) := row_cell r1 rfl
  have hb13 : Below w1.heap.size w1 w3 := HB2.out.1.trans (hb23.mono HB2.out.1.size)
  have hap := apply_calls w3 p d S.new A c event0 (H1.out.1.below hb13) ⟨Kd.C_below HB2.out.2.2 hb23, by decide, by decide, by decide, by decide⟩ HB2.out.2.1 (Tab.below HT.out (H1.out.2.2.2.2.trans (hb13.mono H1.out.2.2.2.2.size))) Inv.new (by rw [H1.out.2.1]; decide)
  rw [apply0] at hap
  have HB3 := Aside0.mk hb13
  clear r0 r1 r2 r3 hb3 hb4 hb23 hb13
  simp only [CdEvent.cells, event0, List.length_cons, List.length_nil] at hap
  go_wp2_with (first | (go_at_call 9; refine hap.mono ?_; rintro e w4 ⟨rfl, d', hA4, hd4, hC4⟩; have hmk := mark_calls w4 p d' _ 5 0 hA4 (by decide) (by decide); have hfd := freed_calls w4 p d' _ 5 hA4 (by decide); have hho := holder_calls w4 p d' _ room hA4 (by decide); rw [after0.1] at hmk; rw [after0.2.1, show decide ((0 : Int) > 0) = false from rfl] at hfd; rw [after0.2.2] at hho; have H4 := Aside0.mk (And.intro hd4 hC4); clear hA4 hd4 hC4) | (go_at_call 12; refine hmk.mono ?_; rintro e w5 ⟨rfl, rfl⟩) | (go_at_call 11; refine hho.mono ?_; rintro e w5 ⟨rfl, rfl⟩) | (go_at_call 13; refine hfd.mono ?_; rintro e w5 ⟨rfl, rfl⟩))
  go_returns
  refine ⟨rfl, ?_⟩
  have h1 : Below w.heap.size w w3 := H1.out.2.2.2.2.trans (HB3.out.mono H1.out.2.2.2.2.size)
  exact h1.trans (H4.out.2.below h1.size H1.out.2.2.2.1)
end Go.Proofs.Ytahonoeiamjgbaa.LgTk

/- How an argument that came in is read as plain data of a kind: numbers, bools, strings, and slices of these; with the sizes that the form's reach tells. -/
namespace Go.Proofs.Ytahonoeiamjgbaa.Opening
open Go.ChangeShapes Go.WideShapes Go.RowKit Go.Proofs.YtahonoeiamjgbaaW.PrintWords

/-- Whatever reads as data of a type is of the kind, and what the kind's values are bounded by holds. -/
structure Opens {α : Type} (P : Program) (t : TypeId) (d : Kd α) (B : α → Prop) : Prop where
  op : ∀ {H : Type} (enc : TypeId × Value → H) (w : World) (fuel : Nat) (cs : List Value) (x : DataW H × List MemPlace),
    DataW.trod enc P w 0 (fun _ => true) true fuel t cs = some x → (x.1.weights P t).all (· ≤ reachBytes) = true → ∃ a, d.K w a cs ∧ B a

section
variable {P : Program} {t e : TypeId}
theorem opens_int {k : IntKind} (ht : P.underlying t = some (.int k)) : Opens P t (Kd.int k) (fun n => (Lit.int k n).wf = true) :=
  ⟨fun enc w fuel cs x h _ => by
    obtain ⟨n, rfl, _, hw⟩ := DataW.trod_int ht h
    exact ⟨n, rfl, hw⟩⟩
theorem opens_bool (ht : P.underlying t = some .bool) : Opens P t Kd.bool (fun _ => True) :=
  ⟨fun enc w fuel cs x h _ => by
    obtain ⟨b, rfl, _⟩ := DataW.trod_bool ht h
    exact ⟨b, rfl, trivial⟩⟩
theorem opens_string (ht : P.underlying t = some .string) : Opens P t Kd.string (fun s => s.size ≤ 140737488351232) :=
  ⟨fun enc w fuel cs x h hz => by
    obtain ⟨s, rfl, hx, _⟩ := DataW.trod_string ht h
    refine ⟨s, rfl, ?_⟩
    rw [hx] at hz
    simp only [DataW.weights, List.all_cons, List.all_nil, Bool.and_true, decide_eq_true_eq] at hz
    rw [Array.length_toList] at hz
    exact hz⟩

theorem weights_all {H : Type} {P : Program} {e : TypeId} : ∀ (l : List (DataW H)) (d : DataW H), d ∈ l → ∀ n ∈ d.weights P e, n ∈ DataW.weightsAll P e l
  | [], _, h, _, _ => by simp at h
  | x :: r, d, h, n, hn => by
    simp only [DataW.weightsAll, List.mem_append]
    rcases List.mem_cons.1 h with h | h
    · subst h; exact Or.inl hn
    · exact Or.inr (weights_all r d h n hn)

/-- One list out of what holds at each place. -/
theorem list_of {α : Type} {n : Nat} {R : Nat → α → Prop} (h : ∀ i, i < n → ∃ a, R i a) : ∃ l : List α, l.length = n ∧ ∀ j a, l[j]? = some a → R j a := by
  induction n with
  | zero => exact ⟨[], rfl, fun j a hj => by simp at hj⟩
  | succ n ih =>
    obtain ⟨l, hl, hr⟩ := ih (fun i hi => h i (by omega))
    obtain ⟨a, ha⟩ := h n (by omega)
    refine ⟨l ++ [a], by simp [hl], fun j b hj => ?_⟩
    rcases Nat.lt_or_ge j l.length with hlt | hge
    · rw [List.getElem?_append_left hlt] at hj
      exact hr j b hj
    · have hj2 := (List.getElem?_eq_some_iff.1 hj).1
      rw [List.length_append, List.length_singleton] at hj2
      obtain rfl : j = l.length := by omega
      have : a = b := by simpa using hj
      subst this
      rw [hl]; exact ha

theorem opens_slice {α : Type} {d : Kd α} {B : α → Prop} (ht : P.underlying t = some (.slice e)) (hc : P.cellsOf e = d.sz) (h : Opens P e d B) :
    Opens P t (Kd.slice e d) (fun l => (∀ x ∈ l, B x) ∧ l.length * P.bytesOf e ≤ reachBytes) :=
  ⟨fun {H} enc w fuel cs x hx hz => by
    rcases DataW.trod_slice ht hx with ⟨rfl, _⟩ | ⟨a, len, cap, elems, rest, n, _, rfl, hxe, _, hl, hm, hlen, hel, _, _⟩
    · exact ⟨[], ⟨none, 0, rfl, Nat.le_refl _, rfl, Nat.zero_le _, fun h0 => absurd h0 (Nat.lt_irrefl _)⟩, by simp, by simp⟩
    · rw [hxe] at hz
      simp only [DataW.weights, ht, List.all_cons, Bool.and_eq_true, decide_eq_true_eq, List.all_append] at hz
      obtain ⟨hz0, hz1, _⟩ := hz
      have each : ∀ i, i < len → ∃ y : α, (∃ c, c.length = d.sz ∧ d.K w y c ∧ ∀ j u, c[j]? = some u → w.cell? (a.add (i * d.sz + j)) = some u) ∧ B y := by
        intro i hi
        have h1 := hel i hi
        have hi' : i < elems.length := by omega
        rw [List.getElem?_eq_getElem hi', Option.bind_eq_some_iff] at h1
        obtain ⟨c, h2, h3⟩ := h1
        have hw : (elems[i].1.weights P e).all (· ≤ reachBytes) = true := by
          rw [List.all_eq_true]
          intro m hmm
          exact List.all_eq_true.1 hz1 m (weights_all _ elems[i].1 (List.mem_map.2 ⟨elems[i], List.getElem_mem hi', rfl⟩) m hmm)
        obtain ⟨y, hy, hB⟩ := h.op enc w n c _ h3 hw
        obtain ⟨_, hcl, hcc⟩ := World.cells?_some h2
        rw [hc] at hcl hcc
        refine ⟨y, ⟨c, hcl, hy, fun j u hu => ?_⟩, hB⟩
        have hj : j < d.sz := by have := (List.getElem?_eq_some_iff.1 hu).1; omega
        have := hcc j hj
        rw [Addr.add_add] at this
        rw [this, hu]
      obtain ⟨l, hll, hr⟩ := list_of each
      refine ⟨l, ⟨some a, cap, by rw [hll], by omega, rfl, ?_, fun _ => ⟨a, rfl, fun j p hj => (hr j p hj).1⟩⟩, ?_, ?_⟩
      · have : len ≤ maxLen := Nat.le_trans hl hm
        rw [hll]
        exact this
      · intro y hy
        obtain ⟨j, hj⟩ := List.getElem?_of_mem hy
        exact (hr j y hj).2
      · rw [hll, ← hlen]
        have : elems.length * P.bytesOf e ≤ ((elems.map (·.1)).length + (rest.map (·.1)).length) * P.bytesOf e := Nat.mul_le_mul_right _ (by simp)
        omega⟩
end

section
variable {H : Type} {enc : TypeId × Value → H} {P : Program} {W : World} {t : TypeId} {v : Value} {D : DataW H} {ps : List MemPlace} {ts : List TypeId} {ds : List (DataW H)} {j : Nat}
/-- An argument, read. -/
theorem opened {α : Type} {d : Kd α} {B : α → Prop} (o : Opens P t d B) (hsz : (DataW.weightsEach P ts ds).all (· ≤ reachBytes) = true) (ht : ts[j]? = some t) (hd : ds[j]? = some D)
    (h : DataW.Trod enc P W 0 (fun _ => true) true t v D ps) : ∃ a, d.K W a v.cells.toList ∧ B a := by
  obtain ⟨fuel, hf⟩ := h
  refine o.op enc W fuel _ _ hf ?_
  rw [List.all_eq_true]
  intro n hn
  exact List.all_eq_true.1 hsz n (DataW.weights_mem_each ht hd n hn)
/-- A slice that came in. -/
theorem opened_slice {α : Type} {d : Kd α} {B : List α → Prop} {e : TypeId} {A : Option Addr} {n c : Nat} (o : Opens P t (Kd.slice e d) B) (hsz : (DataW.weightsEach P ts ds).all (· ≤ reachBytes) = true) (ht : ts[j]? = some t) (hd : ds[j]? = some D)
    (h : DataW.Trod enc P W 0 (fun _ => true) true t (.slice A n c) D ps) : ∃ l : List α, l.length = n ∧ n ≤ c ∧ d.C W A l.length l ∧ B l := by
  obtain ⟨l, ⟨A', c', he, hl, hC⟩, hB⟩ := opened o hsz ht hd h
  simp only [Value.cells, List.cons.injEq, Value.slice.injEq, and_true] at he
  obtain ⟨rfl, rfl, rfl⟩ := he
  exact ⟨l, rfl, hl, hC, hB⟩
end
end Go.Proofs.Ytahonoeiamjgbaa.Opening

/- Arguments of the struct types of this law, read as plain data (written by wip/gen/mkopensk.py). -/
namespace Go.Proofs.Ytahonoeiamjgbaa.Opening
open Go.ChangeShapes Go.WideShapes Go.RowKit Go.Proofs.YtahonoeiamjgbaaW.PrintWords

structure OpensK {α : Type} (P : Program) (t : TypeId) (K : World → α → List Value → Prop) (B : α → Prop) : Prop where
  op : ∀ {H : Type} (enc : TypeId × Value → H) (w : World) (fuel : Nat) (cs : List Value) (x : DataW H × List MemPlace),
    DataW.trod enc P w 0 (fun _ => true) true fuel t cs = some x → (x.1.weights P t).all (· ≤ reachBytes) = true → ∃ a, K w a cs ∧ B a
theorem OpensK.of {α : Type} {P : Program} {t : TypeId} {d : Kd α} {B : α → Prop} (o : Opens P t d B) : OpensK P t d.K B := ⟨o.op⟩

theorem fields {H : Type} {enc : TypeId × Value → H} {P : Program} {t : TypeId} {fs : Array Field} {w : World} {fuel : Nat} {cs : List Value} {x : DataW H × List MemPlace} (ht : P.underlying t = some (.struct fs))
    (h : DataW.trod enc P w 0 (fun _ => true) true fuel t cs = some x) (hz : (x.1.weights P t).all (· ≤ reachBytes) = true) :
    cs.length = P.cellsOf t ∧ ∀ (i : Nat) (f : Field), fs[i]? = some f → ∀ {α : Type} {K : World → α → List Value → Prop} {B : α → Prop}, OpensK P f.type K B → ∃ a, K w a ((cs.drop f.offset).take (P.cellsOf f.type)) ∧ B a := by
  obtain ⟨xs, n, rfl, rfl, hl, hlen, hf⟩ := DataW.trod_struct ht h
  refine ⟨hl, fun i f hi {α K B} o => ?_⟩
  have h1 := hf i f hi
  have hlt : i < xs.length := by have := (Array.getElem?_eq_some_iff.1 hi).1; omega
  rw [List.getElem?_eq_getElem hlt] at h1
  refine o.op enc w n _ _ h1 ?_
  rw [List.all_eq_true] at hz ⊢
  intro m hm
  refine hz m ?_
  simp only [DataW.weights, ht]
  exact DataW.weights_mem_each (j := i) (by simp [hi]) (by simp [List.getElem?_map, List.getElem?_eq_getElem hlt]) m hm
theorem cons_len {cs : List Value} {n : Nat} (h : cs.length = n + 1) : ∃ c r, cs = c :: r ∧ r.length = n := by
  cases cs with
  | nil => cases h
  | cons c r => exact ⟨c, r, rfl, by simpa using h⟩
theorem openedK {H : Type} {enc : TypeId × Value → H} {P : Program} {W : World} {t : TypeId} {v : Value} {D : DataW H} {ps : List MemPlace} {ts : List TypeId} {ds : List (DataW H)} {j : Nat}
    {α : Type} {K : World → α → List Value → Prop} {B : α → Prop} (o : OpensK P t K B) (hsz : (DataW.weightsEach P ts ds).all (· ≤ reachBytes) = true) (ht : ts[j]? = some t) (hd : ds[j]? = some D)
    (h : DataW.Trod enc P W 0 (fun _ => true) true t v D ps) : ∃ a, K W a v.cells.toList ∧ B a := by
  obtain ⟨fuel, hf⟩ := h
  refine o.op enc W fuel _ _ hf ?_
  rw [List.all_eq_true]
  intro n hn
  exact List.all_eq_true.1 hsz n (DataW.weights_mem_each ht hd n hn)

def LetterK (w : World) (d : CdLetter.D) (cs : List Value) : Prop := ∃ A c, cs = (CdLetter.cells d (.slice A d.keys.length c)).toList ∧ d.keys.length ≤ c ∧ Kd.C Kd.string w A d.keys.length d.keys
def LetterB (d : CdLetter.D) : Prop := (Lit.int .i64 d.kind).wf = true ∧ (Lit.int .i64 d.part).wf = true ∧ (Lit.int .i64 d.inst).wf = true ∧ (Lit.int .i64 d.step).wf = true ∧ (Lit.int .i64 d.sort).wf = true ∧ (∀ x ∈ d.keys, x.size ≤ 140737488351232)
set_option maxRecDepth 100000 in
theorem opens_Letter : OpensK Try.prog 25 LetterK LetterB := by
  refine ⟨fun enc w fuel cs x h hz => ?_⟩
  obtain ⟨hl, hf⟩ := fields Try.underlying25 h hz
  obtain ⟨a0, k0, b0⟩ := hf 0 _ rfl (.of (opens_int (k := .i64) Try.underlying3))
  obtain ⟨a1, k1, b1⟩ := hf 1 _ rfl (.of (opens_int (k := .i64) Try.underlying3))
  obtain ⟨a2, k2, b2⟩ := hf 2 _ rfl (.of (opens_int (k := .i64) Try.underlying3))
  obtain ⟨a3, k3, b3⟩ := hf 3 _ rfl (.of (opens_int (k := .i64) Try.underlying3))
  obtain ⟨a4, k4, b4⟩ := hf 4 _ rfl (.of (opens_int (k := .i64) Try.underlying3))
  obtain ⟨a5, k5, b5⟩ := hf 5 _ rfl (.of (opens_slice Try.underlying23 (by kernel_rfl) (opens_string Try.underlying9)))
  have hn : cs.length = 6 := hl.trans (by kernel_rfl)
  obtain ⟨c0, r0, rfl, n0⟩ := cons_len hn
  obtain ⟨c1, r1, rfl, n1⟩ := cons_len n0
  obtain ⟨c2, r2, rfl, n2⟩ := cons_len n1
  obtain ⟨c3, r3, rfl, n3⟩ := cons_len n2
  obtain ⟨c4, r4, rfl, n4⟩ := cons_len n3
  obtain ⟨c5, r5, rfl, n5⟩ := cons_len n4
  obtain rfl := List.eq_nil_of_length_eq_zero n5
  replace k0 : [c0] = [.int .i64 a0] := k0
  cases k0
  replace k1 : [c1] = [.int .i64 a1] := k1
  cases k1
  replace k2 : [c2] = [.int .i64 a2] := k2
  cases k2
  replace k3 : [c3] = [.int .i64 a3] := k3
  cases k3
  replace k4 : [c4] = [.int .i64 a4] := k4
  cases k4
  obtain ⟨A, c, k5, hc, hC⟩ := k5
  replace k5 : [c5] = [.slice A a5.length c] := k5
  cases k5
  exact ⟨⟨a0, a1, a2, a3, a4, a5⟩, ⟨A, c, rfl, hc, hC⟩, b0, b1, b2, b3, b4, b5.1⟩
def EventK (w : World) (d : CdEvent.D) (cs : List Value) : Prop := ∃ A c, cs = (CdEvent.cells d (.slice A d.keys.length c)).toList ∧ d.keys.length ≤ c ∧ Kd.C Kd.string w A d.keys.length d.keys
def EventB (d : CdEvent.D) : Prop := (Lit.int .i64 d.kind).wf = true ∧ (Lit.int .i64 d.inst).wf = true ∧ (Lit.int .i64 d.step).wf = true ∧ (∀ x ∈ d.keys, x.size ≤ 140737488351232)
set_option maxRecDepth 100000 in
theorem opens_Event : OpensK Try.prog 29 EventK EventB := by
  refine ⟨fun enc w fuel cs x h hz => ?_⟩
  obtain ⟨hl, hf⟩ := fields Try.underlying29 h hz
  obtain ⟨a0, k0, b0⟩ := hf 0 _ rfl (.of (opens_int (k := .i64) Try.underlying3))
  obtain ⟨a1, k1, b1⟩ := hf 1 _ rfl (.of (opens_int (k := .i64) Try.underlying3))
  obtain ⟨a2, k2, b2⟩ := hf 2 _ rfl (.of (opens_int (k := .i64) Try.underlying3))
  obtain ⟨a3, k3, b3⟩ := hf 3 _ rfl (.of (opens_slice Try.underlying23 (by kernel_rfl) (opens_string Try.underlying9)))
  have hn : cs.length = 4 := hl.trans (by kernel_rfl)
  obtain ⟨c0, r0, rfl, n0⟩ := cons_len hn
  obtain ⟨c1, r1, rfl, n1⟩ := cons_len n0
  obtain ⟨c2, r2, rfl, n2⟩ := cons_len n1
  obtain ⟨c3, r3, rfl, n3⟩ := cons_len n2
  obtain rfl := List.eq_nil_of_length_eq_zero n3
  replace k0 : [c0] = [.int .i64 a0] := k0
  cases k0
  replace k1 : [c1] = [.int .i64 a1] := k1
  cases k1
  replace k2 : [c2] = [.int .i64 a2] := k2
  cases k2
  obtain ⟨A, c, k3, hc, hC⟩ := k3
  replace k3 : [c3] = [.slice A a3.length c] := k3
  cases k3
  exact ⟨⟨a0, a1, a2, a3⟩, ⟨A, c, rfl, hc, hC⟩, b0, b1, b2, b3.1⟩
end Go.Proofs.Ytahonoeiamjgbaa.Opening

/- A ledger's script, read as plain data. -/
namespace Go.Proofs.Ytahonoeiamjgbaa.Opening
open Go.ChangeShapes Go.WideShapes Go.RowKit Go.Proofs.YtahonoeiamjgbaaW.PrintWords

/-- A row of elements, each told by its cells. -/
def RowsK {α : Type} (K : World → α → List Value → Prop) (sz : Nat) (W : World) (A : Option Addr) (l : List α) : Prop :=
  ∀ (i : Nat) (x : α), l[i]? = some x → ∃ ad, A = some ad ∧ ∃ cs, cs.length = sz ∧ K W x cs ∧ ∀ j u, cs[j]? = some u → W.cell? (ad.add (i * sz + j)) = some u
theorem opensK_slice {α : Type} {K : World → α → List Value → Prop} {B : α → Prop} {P : Program} {t e : TypeId} {sz : Nat} (ht : P.underlying t = some (.slice e)) (hc : P.cellsOf e = sz) (h : OpensK P e K B)
    {H : Type} {enc : TypeId × Value → H} {w : World} {fuel : Nat} {cs : List Value} {x : DataW H × List MemPlace} (hx : DataW.trod enc P w 0 (fun _ => true) true fuel t cs = some x) (hz : (x.1.weights P t).all (· ≤ reachBytes) = true) :
    ∃ (A : Option Addr) (c : Nat) (l : List α), cs = [.slice A l.length c] ∧ l.length ≤ c ∧ RowsK K sz w A l ∧ (∀ y ∈ l, B y) ∧ l.length * P.bytesOf e ≤ reachBytes := by
  rcases DataW.trod_slice ht hx with ⟨rfl, _⟩ | ⟨a, len, cap, elems, rest, n, _, rfl, hxe, _, hl, hm, hlen, hel, _, _⟩
  · exact ⟨none, 0, [], rfl, Nat.le_refl _, fun i y hy => by simp at hy, by simp, by simp⟩
  · rw [hxe] at hz
    simp only [DataW.weights, ht, List.all_cons, Bool.and_eq_true, decide_eq_true_eq, List.all_append] at hz
    obtain ⟨hz0, hz1, _⟩ := hz
    have each : ∀ i, i < len → ∃ y : α, (∃ c, c.length = sz ∧ K w y c ∧ ∀ j u, c[j]? = some u → w.cell? (a.add (i * sz + j)) = some u) ∧ B y := by
      intro i hi
      have h1 := hel i hi
      have hi' : i < elems.length := by omega
      rw [List.getElem?_eq_getElem hi', Option.bind_eq_some_iff] at h1
      obtain ⟨c, h2, h3⟩ := h1
      have hw : (elems[i].1.weights P e).all (· ≤ reachBytes) = true := by
        rw [List.all_eq_true]
        intro m hmm
        exact List.all_eq_true.1 hz1 m (weights_all _ elems[i].1 (List.mem_map.2 ⟨elems[i], List.getElem_mem hi', rfl⟩) m hmm)
      obtain ⟨y, hy, hB⟩ := h.op enc w n c _ h3 hw
      obtain ⟨_, hcl, hcc⟩ := World.cells?_some h2
      rw [hc] at hcl hcc
      refine ⟨y, ⟨c, hcl, hy, fun j u hu => ?_⟩, hB⟩
      have hj : j < sz := by have := (List.getElem?_eq_some_iff.1 hu).1; omega
      have := hcc j hj
      rw [Addr.add_add] at this
      rw [this, hu]
    obtain ⟨l, hll, hr⟩ := list_of each
    refine ⟨some a, cap, l, by rw [hll], by omega, fun i y hy => ⟨a, rfl, (hr i y hy).1⟩, ?_, ?_⟩
    · intro y hy
      obtain ⟨j, hj⟩ := List.getElem?_of_mem hy
      exact (hr j y hj).2
    · rw [hll, ← hlen]
      have : elems.length * P.bytesOf e ≤ ((elems.map (·.1)).length + (rest.map (·.1)).length) * P.bytesOf e := Nat.mul_le_mul_right _ (by simp)
      omega
/-- A slice that came in. -/
theorem openedK_slice {H : Type} {enc : TypeId × Value → H} {P : Program} {W : World} {t : TypeId} {D : DataW H} {ps : List MemPlace} {ts : List TypeId} {ds : List (DataW H)} {j : Nat} {α : Type} {K : World → α → List Value → Prop} {B : α → Prop} {e : TypeId} {sz : Nat} {A : Option Addr} {n c : Nat}
    (hu : P.underlying t = some (.slice e)) (hc : P.cellsOf e = sz) (o : OpensK P e K B) (hsz : (DataW.weightsEach P ts ds).all (· ≤ reachBytes) = true) (ht : ts[j]? = some t) (hd : ds[j]? = some D) (h : DataW.Trod enc P W 0 (fun _ => true) true t (.slice A n c) D ps) :
    ∃ l : List α, l.length = n ∧ n ≤ c ∧ RowsK K sz W A l ∧ ((∀ y ∈ l, B y) ∧ l.length * P.bytesOf e ≤ reachBytes) := by
  obtain ⟨fuel, hf⟩ := h
  obtain ⟨A', c', l, he, hl, hr, hB, hz⟩ := opensK_slice hu hc o hf (by
    rw [List.all_eq_true]
    intro m hm
    exact List.all_eq_true.1 hsz m (DataW.weights_mem_each ht hd m hm))
  simp only [Value.cells, List.cons.injEq, Value.slice.injEq, and_true] at he
  obtain ⟨rfl, rfl, rfl⟩ := he
  exact ⟨l, rfl, hl, hr, hB, hz⟩

def LetterB3 (d : CdLetter.D) : Prop := LetterB d ∧ d.keys.length ≤ 8796093022208
def EventB3 (d : CdEvent.D) : Prop := EventB d ∧ d.keys.length ≤ 8796093022208
theorem bytes9 : Try.prog.bytesOf 9 = 16 := by kernel_rfl
set_option maxRecDepth 100000 in
theorem opens_Letter3 : OpensK Try.prog 25 LetterK LetterB3 := by
  refine ⟨fun enc w fuel cs x h hz => ?_⟩
  obtain ⟨hl, hf⟩ := fields Try.underlying25 h hz
  obtain ⟨a0, k0, b0⟩ := hf 0 _ rfl (.of (opens_int (k := .i64) Try.underlying3))
  obtain ⟨a1, k1, b1⟩ := hf 1 _ rfl (.of (opens_int (k := .i64) Try.underlying3))
  obtain ⟨a2, k2, b2⟩ := hf 2 _ rfl (.of (opens_int (k := .i64) Try.underlying3))
  obtain ⟨a3, k3, b3⟩ := hf 3 _ rfl (.of (opens_int (k := .i64) Try.underlying3))
  obtain ⟨a4, k4, b4⟩ := hf 4 _ rfl (.of (opens_int (k := .i64) Try.underlying3))
  obtain ⟨a5, k5, b5⟩ := hf 5 _ rfl (.of (opens_slice Try.underlying23 (by kernel_rfl) (opens_string Try.underlying9)))
  have hn : cs.length = 6 := hl.trans (by kernel_rfl)
  obtain ⟨c0, r0, rfl, n0⟩ := cons_len hn
  obtain ⟨c1, r1, rfl, n1⟩ := cons_len n0
  obtain ⟨c2, r2, rfl, n2⟩ := cons_len n1
  obtain ⟨c3, r3, rfl, n3⟩ := cons_len n2
  obtain ⟨c4, r4, rfl, n4⟩ := cons_len n3
  obtain ⟨c5, r5, rfl, n5⟩ := cons_len n4
  obtain rfl := List.eq_nil_of_length_eq_zero n5
  replace k0 : [c0] = [.int .i64 a0] := k0
  cases k0
  replace k1 : [c1] = [.int .i64 a1] := k1
  cases k1
  replace k2 : [c2] = [.int .i64 a2] := k2
  cases k2
  replace k3 : [c3] = [.int .i64 a3] := k3
  cases k3
  replace k4 : [c4] = [.int .i64 a4] := k4
  cases k4
  obtain ⟨A, c, k5, hc, hC⟩ := k5
  replace k5 : [c5] = [.slice A a5.length c] := k5
  cases k5
  exact ⟨⟨a0, a1, a2, a3, a4, a5⟩, ⟨A, c, rfl, hc, hC⟩, ⟨b0, b1, b2, b3, b4, b5.1⟩, by have h := b5.2; rw [bytes9] at h; unfold reachBytes at h; simp only; omega⟩
set_option maxRecDepth 100000 in
theorem opens_Event3 : OpensK Try.prog 29 EventK EventB3 := by
  refine ⟨fun enc w fuel cs x h hz => ?_⟩
  obtain ⟨hl, hf⟩ := fields Try.underlying29 h hz
  obtain ⟨a0, k0, b0⟩ := hf 0 _ rfl (.of (opens_int (k := .i64) Try.underlying3))
  obtain ⟨a1, k1, b1⟩ := hf 1 _ rfl (.of (opens_int (k := .i64) Try.underlying3))
  obtain ⟨a2, k2, b2⟩ := hf 2 _ rfl (.of (opens_int (k := .i64) Try.underlying3))
  obtain ⟨a3, k3, b3⟩ := hf 3 _ rfl (.of (opens_slice Try.underlying23 (by kernel_rfl) (opens_string Try.underlying9)))
  have hn : cs.length = 4 := hl.trans (by kernel_rfl)
  obtain ⟨c0, r0, rfl, n0⟩ := cons_len hn
  obtain ⟨c1, r1, rfl, n1⟩ := cons_len n0
  obtain ⟨c2, r2, rfl, n2⟩ := cons_len n1
  obtain ⟨c3, r3, rfl, n3⟩ := cons_len n2
  obtain rfl := List.eq_nil_of_length_eq_zero n3
  replace k0 : [c0] = [.int .i64 a0] := k0
  cases k0
  replace k1 : [c1] = [.int .i64 a1] := k1
  cases k1
  replace k2 : [c2] = [.int .i64 a2] := k2
  cases k2
  obtain ⟨A, c, k3, hc, hC⟩ := k3
  replace k3 : [c3] = [.slice A a3.length c] := k3
  cases k3
  exact ⟨⟨a0, a1, a2, a3⟩, ⟨A, c, rfl, hc, hC⟩, ⟨b0, b1, b2, b3.1⟩, by have h := b3.2; rw [bytes9] at h; unfold reachBytes at h; simp only; omega⟩
def OpK (w : World) (o : Lg.Op) (cs : List Value) : Prop := ∃ A1 c1 A2 c2, cs = [.int .i64 o.do_, .int .i64 o.l.kind, .int .i64 o.l.part, .int .i64 o.l.inst, .int .i64 o.l.step, .int .i64 o.l.sort, .slice A1 o.l.keys.length c1, .bool o.yes, .int .i64 o.e.kind, .int .i64 o.e.inst, .int .i64 o.e.step, .slice A2 o.e.keys.length c2] ∧
  o.l.keys.length ≤ c1 ∧ Kd.C Kd.string w A1 o.l.keys.length o.l.keys ∧ o.e.keys.length ≤ c2 ∧ Kd.C Kd.string w A2 o.e.keys.length o.e.keys
def OpB (o : Lg.Op) : Prop := (Lit.int .i64 o.do_).wf = true ∧ LetterB3 o.l ∧ EventB3 o.e
set_option maxRecDepth 100000 in
theorem opens_Op : OpensK Try.prog 44 OpK OpB := by
  refine ⟨fun enc w fuel cs x h hz => ?_⟩
  obtain ⟨hl, hf⟩ := fields Try.underlying44 h hz
  obtain ⟨a0, k0, b0⟩ := hf 0 _ rfl (.of (opens_int (k := .i64) Try.underlying3))
  obtain ⟨a1, k1, b1⟩ := hf 1 _ rfl opens_Letter3
  obtain ⟨a2, k2, b2⟩ := hf 2 _ rfl (.of (opens_bool Try.underlying4))
  obtain ⟨a3, k3, b3⟩ := hf 3 _ rfl opens_Event3
  have hn : cs.length = 12 := hl.trans (by kernel_rfl)
  obtain ⟨c0, r0, rfl, n0⟩ := cons_len hn
  obtain ⟨c1, r1, rfl, n1⟩ := cons_len n0
  obtain ⟨c2, r2, rfl, n2⟩ := cons_len n1
  obtain ⟨c3, r3, rfl, n3⟩ := cons_len n2
  obtain ⟨c4, r4, rfl, n4⟩ := cons_len n3
  obtain ⟨c5, r5, rfl, n5⟩ := cons_len n4
  obtain ⟨c6, r6, rfl, n6⟩ := cons_len n5
  obtain ⟨c7, r7, rfl, n7⟩ := cons_len n6
  obtain ⟨c8, r8, rfl, n8⟩ := cons_len n7
  obtain ⟨c9, r9, rfl, n9⟩ := cons_len n8
  obtain ⟨c10, r10, rfl, n10⟩ := cons_len n9
  obtain ⟨c11, r11, rfl, n11⟩ := cons_len n10
  obtain rfl := List.eq_nil_of_length_eq_zero n11
  replace k0 : [c0] = [.int .i64 a0] := k0
  cases k0
  replace k2 : [c7] = [.bool a2] := k2
  cases k2
  obtain ⟨A1, x1, e1, hc1, hC1⟩ := k1
  replace e1 : [c1, c2, c3, c4, c5, c6] = [.int .i64 a1.kind, .int .i64 a1.part, .int .i64 a1.inst, .int .i64 a1.step, .int .i64 a1.sort, .slice A1 a1.keys.length x1] := e1
  simp only [List.cons.injEq, and_true] at e1
  obtain ⟨rfl, rfl, rfl, rfl, rfl, rfl⟩ := e1
  obtain ⟨A2, x2, e2, hc2, hC2⟩ := k3
  replace e2 : [c8, c9, c10, c11] = [.int .i64 a3.kind, .int .i64 a3.inst, .int .i64 a3.step, .slice A2 a3.keys.length x2] := e2
  simp only [List.cons.injEq, and_true] at e2
  obtain ⟨rfl, rfl, rfl, rfl⟩ := e2
  exact ⟨⟨a0, a1, a2, a3⟩, ⟨A1, x1, A2, x2, rfl, hc1, hC1, hc2, hC2⟩, b0, b1, b3⟩
end Go.Proofs.Ytahonoeiamjgbaa.Opening

/- odysseylaw17.played: the walk, by hand. -/
namespace Go.Proofs.Ytahonoeiamjgbaa.LgTk
open Go.RowKit Go.IntWalk Go.Maps Go.Proofs.Ytahonoeiamjgbaa.G Go.Proofs.YtahonoeiamjgbaaW.PrintWords Go.Proofs.Ytahonoeiamjgbaa.LgMaps Go.Proofs.Ytahonoeiamjgbaa.LgLocks Go.Proofs.Ytahonoeiamjgbaa.CdForm Go.Proofs.Ytahonoeiamjgbaa.Lg Go.Proofs.Ytahonoeiamjgbaa.LgAt Go.Proofs.Ytahonoeiamjgbaa.Tabs Go.Proofs.Ytahonoeiamjgbaa.CdMay Go.Proofs.Ytahonoeiamjgbaa.CdKeys Go.Proofs.Ytahonoeiamjgbaa.Opening

theorem same_mine {d d' : Dat} (h : d.same d') {k : Nat} (hk : d'.mine k) : d.mine k := by
  obtain ⟨h1, h2, _, h4, _⟩ := h
  unfold Dat.mine at *
  rw [h1, h2, h4] at hk
  exact hk
theorem cell_first {w : World} {ad : Addr} {m : Nat} {cs : List Value} {u : Value} (h : ∀ j u, cs[j]? = some u → w.cell? (ad.add (m + j)) = some u) (hu : cs[0]? = some u) : w.cell? (ad.add m) = some u := h 0 u hu
theorem cell_next {w : World} {ad : Addr} {m : Nat} {cs : List Value} (h : ∀ j u, cs[j]? = some u → w.cell? (ad.add (m + j)) = some u) {j : Nat} {u : Value} (hu : cs[j + 1]? = some u) : w.cell? ⟨(ad.add m).block, (ad.add m).off + (j + 1), none⟩ = some u := by
  have h1 := h (j + 1) u hu
  rw [← Addr.add_add] at h1
  exact h1
theorem own_lt {w : World} {p : Nat} {d : Dat} {g : S} (h : At w p d g) {k : Nat} (hk : d.own p k) : k < w.heap.size := by
  rcases hk with rfl | rfl | rfl | rfl | rfl
  · exact (Array.getElem?_eq_some_iff.1 h.row).1
  · exact h.steps.lt
  · exact h.frees.lt
  · exact (Array.getElem?_eq_some_iff.1 h.table).1
  · exact h.locks.lt
theorem same_own {d d' : Dat} {p : Nat} (h : d.same d') {k : Nat} (hk : d'.own p k) : d.own p k := by
  obtain ⟨h1, h2, h3, h4, _⟩ := h
  unfold Dat.own at *
  rw [h1, h2, h3, h4] at hk
  exact hk
/-- A ledger of the call's own, with so many entries at most. -/
structure Own (B : Nat) (w0 w : World) (p : Nat) (d : Dat) (g : S) (n : Nat) : Prop where
  at_ : At w p d g
  inv : Inv g
  room : d.n ≤ n
  mine : ∀ k, d.mine k → B ≤ k
  row : B ≤ p
  below : Below B w0 w
theorem Own.on {B : Nat} {w0 w w' : World} {p : Nat} {d : Dat} {g : S} {n : Nat} (h : Own B w0 w p d g n) (hB : B ≤ w.heap.size) (hb : Below w.heap.size w w') : Own B w0 w' p d g n :=
  ⟨h.at_.below hb, h.inv, h.room, h.mine, h.row, h.below.trans (hb.mono hB)⟩
theorem Own.mono {B : Nat} {w0 w : World} {p : Nat} {d : Dat} {g : S} {n m : Nat} (h : Own B w0 w p d g n) (hn : n ≤ m) : Own B w0 w p d g m := ⟨h.at_, h.inv, Nat.le_trans h.room hn, h.mine, h.row, h.below⟩
theorem Own.turn {B : Nat} {w0 w w' : World} {p : Nat} {d d' : Dat} {g g' : S} {n : Nat} (h : Own B w0 w p d g n) (hB : B ≤ w.heap.size) (ha : At w' p d' g') (hi : Inv g') (hs : d.same d') (hc : Chg d.mine w w') : Own B w0 w' p d' g' (n + 2) :=
  ⟨ha, hi, by have := hs.2.2.2.2; have := h.room; omega, fun k hk => h.mine k (same_mine hs hk), h.row, h.below.trans (hc.below hB h.mine)⟩
theorem Own.set {B : Nat} {w0 w : World} {p : Nat} {d : Dat} {g : S} {n k : Nat} (h : Own B w0 w p d g n) (hk : ¬ d.own p k) (hB : B ≤ k) (j : Nat) (v : Value) : Own B w0 (w.setCell ⟨k, j, none⟩ v) p d g n :=
  ⟨h.at_.move fun i hi _ => Below.heap_setCell _ _ _ _ (fun e : i = k => hk (e ▸ hi)), h.inv, h.room, h.mine, h.row, h.below.setCell hB _⟩
variable [Tab]
theorem apply_own {B : Nat} {w0 w : World} {p : Nat} {d : Dat} {g : S} {n : Nat} (h : Own B w0 w p d g n) (hB : B ≤ w.heap.size) (A : Option Addr) (c : Nat) (ev : CdEvent.D) (he : EvOk w A ev) (hc : ev.keys.length ≤ c) (hT : Tab.At w) (hn : n + 2 < 9000000000000000000) :
    Calls Try.prog 9 #[.pointer (some ⟨p, 0, none⟩), .agg (CdEvent.cells ev (.slice A ev.keys.length c))] w fun e w' => e = .returned (.int .i64 (applyF g ev).2) ∧ ∃ d', Own B w0 w' p d' (applyF g ev).1 (n + 2) ∧ Chg d.mine w w' ∧ d.same d' :=
  (apply_calls w p d g A c ev h.at_ he hc hT h.inv (by have := h.room; unfold maxLen; omega)).mono fun _ _ ⟨e, d', ha, hs, hch⟩ => ⟨e, d', h.turn hB ha (h.inv.apply ev) hs hch, hch, hs⟩

theorem ask_event (g : S) (l : CdLetter.D) (yes : Bool) : ((askF g l yes).1.keys = [] ∨ (askF g l yes).1.keys = l.keys) ∧ ((askF g l yes).1.inst = 0 ∨ (askF g l yes).1.inst = l.inst) ∧ ((askF g l yes).1.step = 0 ∨ (askF g l yes).1.step = l.step) := by
  unfold askF
  split
  · exact ⟨.inl rfl, .inl rfl, .inl rfl⟩
  · split
    · exact ⟨.inl rfl, .inl rfl, .inl rfl⟩
    · refine ⟨?_, .inr rfl, .inr rfl⟩
      split
      · exact .inr rfl
      · exact .inl rfl
theorem ask_evOk {g : S} {l : CdLetter.D} {yes : Bool} {w : World} {A : Option Addr} (hA : Kd.C Kd.string w A (askF g l yes).1.keys.length (askF g l yes).1.keys) (hl : l.keys.length ≤ 9000000000000000000) (hs : ∀ k ∈ l.keys, k.size ≤ 9000000000000000000) (hi : wf l.inst) (hst : wf l.step) : EvOk w A (askF g l yes).1 := by
  obtain ⟨h1, h2, h3⟩ := ask_event g l yes
  refine ⟨hA, ?_, ?_, ?_, ?_⟩
  · rcases h1 with h | h <;> rw [h]
    · simp
    · exact hl
  · rcases h1 with h | h <;> rw [h]
    · intro k hk; cases hk
    · exact hs
  · rcases h2 with h | h <;> rw [h]
    · exact (by decide : wf 0)
    · exact hi
  · rcases h3 with h | h <;> rw [h]
    · exact (by decide : wf 0)
    · exact hst
theorem ask_own {B : Nat} {w0 w : World} {p : Nat} {d : Dat} {g : S} {n : Nat} (h : Own B w0 w p d g n) (A : Option Addr) (c : Nat) (l : CdLetter.D) (yes : Bool) (hk : Kd.C Kd.string w A l.keys.length l.keys) (hc : l.keys.length ≤ c) (hB : LetterB3 l) (hT : Tab.At w) :
    Calls Try.prog 8 #[.pointer (some ⟨p, 0, none⟩), .agg (CdLetter.cells l (.slice A l.keys.length c)), .bool yes] w (AskAt w (askF g l yes)) :=
  ask_calls w p d g A c l yes h.at_ ⟨hk, by have := hB.2; omega, fun k hm => Nat.le_trans (hB.1.2.2.2.2.2 k hm) (by omega), hB.1.2.2.1, hB.1.2.2.2.1⟩ hc hT
set_option linter.unusedSimpArgs false in
set_option maxHeartbeats 8000000 in
set_option maxRecDepth 100000 in
theorem played_calls (w : World) (A : Option Addr) (c : Nat) (ops : List Lg.Op) (hl : ops.length ≤ 4000000000000) (hR : RowsK OpK 12 w A ops) (hB : ∀ o ∈ ops, OpB o) (hT : Tab.At w) :
    Calls Try.prog 7 #[.slice A ops.length c] w fun e w' => ∃ p d, e = .returned (.pointer (some ⟨p, 0, none⟩)) ∧ Own w.heap.size w w' p d (played ops) (2 * ops.length) := by
  have HT := Aside0.mk hT
  have HO := Aside0.mk (And.intro hR (And.intro hB hl))
  clear hT hR hB hl
  go_enter Try.func7, Try.ntmps7
  go_wp2_with fail
  refine (new_calls w).mono ?_
  rintro e w1 ⟨p, d, rfl, hA, hn, hp, hm, hb⟩
  have H1 := Aside0.mk (show Own w.heap.size w w1 p d S.new 0 from ⟨hA, Inv.new, by omega, hm, hp, hb⟩)
  clear hA hn hp hm hb
  go_wp2_with fail
  refine (live_calls w1 (Tab.below HT.out H1.out.below)).mono ?_
  rintro e w2 ⟨rfl, hb⟩
  have H2 := Aside0.mk (H1.out.on H1.out.below.size hb)
  clear hb
  go_wp2
  go_loopw [5] (fun v5 wr => ∃ i : Nat, i ≤ ops.length ∧ v5 = .int .i64 (i : Int) ∧ ∃ d', Own w.heap.size w wr p d' ((ops.take i).foldl playOp S.new) (2 * i)) (fun v5 _ => ops.length - (intOf v5).toNat)
  case atStart => exact ⟨0, Nat.zero_le _, rfl, d, H2.out⟩
  case round =>
    obtain ⟨i, hi, rfl, d', hO⟩ := hrel
    have HI := Aside0.mk hO
    clear hO
    by_cases hlt : i < ops.length
    · have hd2 : decide ((i : Int) < (ops.length : Int)) = true := decide_eq_true (by omega)
      have hib : i ≤ 4000000000000 := by have := HO.out.2.2; omega
      obtain ⟨ad, rfl, cs, hcs, ⟨A1, c1, A2, c2, rfl, hx1, hC1, hx2, hC2⟩, hcell⟩ := HO.out.1 i ops[i] (List.getElem?_eq_getElem hlt)
      have hoB := HO.out.2.1 ops[i] (List.getElem_mem hlt)
      have hstep : (ops.take (i + 1)).foldl playOp S.new = playOp ((ops.take i).foldl playOp S.new) ops[i] := by rw [List.take_succ_eq_append_getElem hlt, List.foldl_append]; rfl
      generalize ops[i] = o at *
      generalize (ops.take i).foldl playOp S.new = g at *
      have HS := Aside0.mk hstep
      have HC := Aside0.mk (And.intro hx1 (And.intro (Kd.C_below hC1 HI.out.below) (And.intro hx2 (Kd.C_below hC2 HI.out.below))))
      have HOB := Aside0.mk hoB
      clear hstep hx1 hC1 hx2 hC2 hoB
      obtain ⟨do_, ⟨lkind, lpart, linst, lstep, lsort, lkeys⟩, yes, ⟨ekind, einst, estep, ekeys⟩⟩ := o
      simp only at *
      have hw : ∀ j u, [Value.int .i64 do_, .int .i64 lkind, .int .i64 lpart, .int .i64 linst, .int .i64 lstep, .int .i64 lsort, .slice A1 lkeys.length c1, .bool yes, .int .i64 ekind, .int .i64 einst, .int .i64 estep, .slice A2 ekeys.length c2][j]? = some u → wr.cell? (ad.add (i * 12 + j)) = some u := fun j u hj => (HI.out.below.cell (World.block_lt_of_cell? w _ (hcell j u hj))).trans (hcell j u hj)
      have HW := Aside0.mk hw
      clear hcell hw
      have h0 := cell_first HW.out rfl
      have h1 := cell_next (j := 0) HW.out rfl
      have h2 := cell_next (j := 1) HW.out rfl
      have h3 := cell_next (j := 2) HW.out rfl
      have h4 := cell_next (j := 3) HW.out rfl
      have h5 := cell_next (j := 4) HW.out rfl
      have h6 := cell_next (j := 5) HW.out rfl
      have h7 := cell_next (j := 6) HW.out rfl
      have h8 := cell_next (j := 7) HW.out rfl
      have h9 := cell_next (j := 8) HW.out rfl
      have h10 := cell_next (j := 9) HW.out rfl
      have h11 := cell_next (j := 10) HW.out rfl
      simp only [Nat.zero_add, Nat.reduceAdd] at h1 h2 h3 h4 h5 h6 h7 h8 h9 h10 h11
      by_cases hdo : do_ = 2
      · subst hdo
        go_wp2_with fail
        have hb4 := below_one wr (.cells #[.int .i64 2, .int .i64 lkind, .int .i64 lpart, .int .i64 linst, .int .i64 lstep, .int .i64 lsort, .slice A1 lkeys.length c1, .bool yes, .int .i64 ekind, .int .i64 einst, .int .i64 estep, .slice A2 ekeys.length c2] 44)
        refine (apply_own (HI.out.on HI.out.below.size hb4) (Nat.le_trans HI.out.below.size hb4.size) A2 c2 ⟨ekind, einst, estep, ekeys⟩ ⟨Kd.C_below HC.out.2.2.2 hb4, ?_, fun k hk => Nat.le_trans (HOB.out.2.2.1.2.2.2 k hk) (by omega), HOB.out.2.2.1.2.1, HOB.out.2.2.1.2.2.1⟩ HC.out.2.2.1 (Tab.below HT.out (HI.out.below.trans (hb4.mono HI.out.below.size))) (by have := HO.out.2.2; omega)).mono ?_
        · have h := HOB.out.2.2.2; simp only at h ⊢; omega
        rintro e w3 ⟨rfl, d'', hO, _⟩
        have HO3 := Aside0.mk hO
        clear hO hb4
        go_wp2
        go_roundw
        case rel => exact ⟨i + 1, hlt, by go_num, d'', by rw [HS.out]; exact HO3.out⟩
        case measure => simp [intOf]; omega
      · have hdn : (do_ == 2) = false := beq_eq_false_iff_ne.2 hdo
        have HDN := Aside0.mk hdo
        clear hdo
        go_wp2_with fail
        have hb4 := below_one wr (.cells #[.int .i64 do_, .int .i64 lkind, .int .i64 lpart, .int .i64 linst, .int .i64 lstep, .int .i64 lsort, .slice A1 lkeys.length c1, .bool yes, .int .i64 ekind, .int .i64 einst, .int .i64 estep, .slice A2 ekeys.length c2] 44)
        have hrow := alloc1 wr (.cells #[.int .i64 do_, .int .i64 lkind, .int .i64 lpart, .int .i64 linst, .int .i64 lstep, .int .i64 lsort, .slice A1 lkeys.length c1, .bool yes, .int .i64 ekind, .int .i64 einst, .int .i64 estep, .slice A2 ekeys.length c2] 44)
        refine (ask_own (HI.out.on HI.out.below.size hb4) A1 c1 ⟨lkind, lpart, linst, lstep, lsort, lkeys⟩ yes (Kd.C_below HC.out.2.1 hb4) HC.out.1 HOB.out.2.1 (Tab.below HT.out (HI.out.below.trans (hb4.mono HI.out.below.size)))).mono ?_
        rintro e w3 ⟨A3, c3, rfl, hc3, hC3, hb3⟩
        have hev := ask_evOk hC3 (by have := HOB.out.2.1.2; simp only at this ⊢; omega) (fun k hm => Nat.le_trans (HOB.out.2.1.1.2.2.2.2.2 k hm) (by omega)) HOB.out.2.1.1.2.2.1 HOB.out.2.1.1.2.2.2.1
        have hdo3 : ∀ a b, ((w3.alloc a).alloc b).cell? ⟨wr.heap.size, 0, none⟩ = some (.int .i64 do_) := fun a b => row_cell (row_below (below_two w3 a b) (row_below hb3 hrow)) rfl
        have hpo : playOp g ⟨do_, ⟨lkind, lpart, linst, lstep, lsort, lkeys⟩, yes, ⟨ekind, einst, estep, ekeys⟩⟩ = if (askF g ⟨lkind, lpart, linst, lstep, lsort, lkeys⟩ yes).2.2 = 0 ∧ (askF g ⟨lkind, lpart, linst, lstep, lsort, lkeys⟩ yes).1.kind ≠ 0 ∧ do_ = 0 then (applyF g (askF g ⟨lkind, lpart, linst, lstep, lsort, lkeys⟩ yes).1).1 else g := by rw [playOp, if_neg HDN.out]
        have hbr3 : Below wr.heap.size wr w3 := hb4.trans (hb3.mono hb4.size)
        have HB3 := Aside0.mk (And.intro (HI.out.on HI.out.below.size hbr3) (And.intro hev hc3))
        clear hb4 hrow hb3 hC3 hbr3 hev hc3
        generalize askF g _ yes = x at *
        obtain ⟨⟨xk, xi, xs, xks⟩, ⟨rk, rp, ri, rs, ro, rks⟩, er⟩ := x
        have HPO := Aside0.mk hpo
        clear hpo
        simp only [CdEvent.cells, CdLetter.cells] at *
        by_cases her : er = 0
        · subst her
          by_cases hxk : xk = 0
          · subst hxk
            have HN : Aside0 (¬ ((0 : Int) = 0 ∧ (0 : Int) ≠ 0 ∧ do_ = 0)) := ⟨fun h => h.2.1 rfl⟩
            go_wp2
            go_roundw
            case rel => exact ⟨i + 1, hlt, by go_num, d', by rw [HS.out, HPO.out, if_neg HN.out]; exact (HB3.out.1.on HB3.out.1.below.size (below_two w3 _ _)).mono (by omega)⟩
            case measure => simp [intOf]; omega
          · have hx1 : (xk == 0) = false := beq_eq_false_iff_ne.2 hxk
            have hx2 : (xk != 0) = true := bne_iff_ne.2 hxk
            have HX := Aside0.mk hxk
            clear hxk
            by_cases hd0 : do_ = 0
            · subst hd0
              go_wp2_with fail
              refine (apply_own (HB3.out.1.on HB3.out.1.below.size (below_two w3 _ _)) (Nat.le_trans HB3.out.1.below.size (below_two w3 _ _).size) A3 c3 ⟨xk, xi, xs, xks⟩ ⟨Kd.C_below HB3.out.2.1.keys (below_two w3 _ _), HB3.out.2.1.len, HB3.out.2.1.sizes, HB3.out.2.1.inst, HB3.out.2.1.step⟩ HB3.out.2.2 (Tab.below HT.out (HB3.out.1.below.trans ((below_two w3 _ _).mono HB3.out.1.below.size))) (by have := HO.out.2.2; omega)).mono ?_
              rintro e w4 ⟨rfl, d'', hO, _⟩
              have HO4 := Aside0.mk hO
              clear hO
              go_wp2
              go_roundw
              case rel => exact ⟨i + 1, hlt, by go_num, d'', by rw [HS.out, HPO.out, if_pos ⟨by trivial, HX.out, by trivial⟩]; exact HO4.out⟩
              case measure => simp [intOf]; omega
            · have hd1 : (do_ == 0) = false := beq_eq_false_iff_ne.2 hd0
              have HN : Aside0 (¬ ((0 : Int) = 0 ∧ xk ≠ 0 ∧ do_ = 0)) := ⟨fun h => hd0 h.2.2⟩
              clear hd0
              go_wp2
              go_roundw
              case rel => exact ⟨i + 1, hlt, by go_num, d', by rw [HS.out, HPO.out, if_neg HN.out]; exact (HB3.out.1.on HB3.out.1.below.size (below_two w3 _ _)).mono (by omega)⟩
              case measure => simp [intOf]; omega
        · have he1 : (er == 0) = false := beq_eq_false_iff_ne.2 her
          have HN : Aside0 (¬ (er = 0 ∧ xk ≠ 0 ∧ do_ = 0)) := ⟨fun h => her h.1⟩
          clear her
          go_wp2
          go_roundw
          case rel => exact ⟨i + 1, hlt, by go_num, d', by rw [HS.out, HPO.out, if_neg HN.out]; exact (HB3.out.1.on HB3.out.1.below.size (below_two w3 _ _)).mono (by omega)⟩
          case measure => simp [intOf]; omega
    · have hi' : i = ops.length := by omega
      subst hi'
      have hd2 : decide ((ops.length : Int) < (ops.length : Int)) = false := decide_eq_false (by omega)
      have hpl : (ops.take ops.length).foldl playOp S.new = played ops := by rw [List.take_length]; rfl
      have HP := Aside0.mk hpl
      clear hpl
      go_wp2
      go_ret
      rw [HP.out] at HI
      exact ⟨p, d', rfl, HI.out⟩
end Go.Proofs.Ytahonoeiamjgbaa.LgTk

/- LedgerOnce: the walk, by hand. -/
namespace Go.Proofs.Ytahonoeiamjgbaa.LgTk
open Go.RowKit Go.IntWalk Go.Maps Go.Proofs.Ytahonoeiamjgbaa.G Go.Proofs.YtahonoeiamjgbaaW.PrintWords Go.Proofs.Ytahonoeiamjgbaa.LgMaps Go.Proofs.Ytahonoeiamjgbaa.LgLocks Go.Proofs.Ytahonoeiamjgbaa.CdForm Go.Proofs.Ytahonoeiamjgbaa.Lg Go.Proofs.Ytahonoeiamjgbaa.LgAt Go.Proofs.Ytahonoeiamjgbaa.Tabs Go.Proofs.Ytahonoeiamjgbaa.CdMay Go.Proofs.Ytahonoeiamjgbaa.CdKeys Go.Proofs.Ytahonoeiamjgbaa.Opening

theorem two_cell {w : World} {p : Addr} {v : Value} (h : w.cell? p = some v) (a b : Obj) : ((w.alloc a).alloc b).cell? p = some v := cell_below (below_two w a b) h
/-- What lies behind an Ask: its event and its reply. -/
theorem two_rows {w W : World} {a b : Obj} (h : Below ((w.alloc a).alloc b).heap.size ((w.alloc a).alloc b) W) : W.heap[w.heap.size]? = some a ∧ W.heap[w.heap.size + 1]? = some b := by
  have h1 : ((w.alloc a).alloc b).heap[w.heap.size]? = some a := row_below (below_one _ _) (alloc1 w a)
  exact ⟨row_below h h1, row_below h (alloc2 w a b)⟩
theorem same_reply (rk rp ri rs ro : Int) (w : World) : Calls Try.prog 10 #[.agg #[.int .i64 rk, .int .i64 rp, .int .i64 ri, .int .i64 rs, .int .i64 ro, .slice none 0 0], .agg #[.int .i64 rk, .int .i64 rp, .int .i64 ri, .int .i64 rs, .int .i64 ro, .slice none 0 0]] w fun e w' => e = .returned (.bool true) ∧ Below w.heap.size w w' :=
  odysseylaw17_SameLetter.calls 4001 rk rp ri rs ro none 0 [] rk rp ri rs ro none 0 [] true w (Kd.C_nil _ _) (Nat.le_refl _) (Kd.C_nil _ _) (Nat.le_refl _) (sameL_self ⟨rk, rp, ri, rs, ro, []⟩ (Nat.zero_le _))
variable [Tab]

set_option linter.unusedSimpArgs false in
set_option maxHeartbeats 8000000 in
set_option maxRecDepth 100000 in
theorem once_calls (A : Option Addr) (c : Nat) (ops : List Lg.Op) (A1 : Option Addr) (c1 : Nat) (l : CdLetter.D) (yes : Bool) (w : World) (hl : ops.length ≤ 4000000000000) (hR : RowsK OpK 12 w A ops) (hB : ∀ o ∈ ops, OpB o) (hT : Tab.At w)
    (hC : Kd.C Kd.string w A1 l.keys.length l.keys) (hc : l.keys.length ≤ c1) (hLB : LetterB3 l) :
    Calls Try.prog 3 #[.slice A ops.length c, .agg (CdLetter.cells l (.slice A1 l.keys.length c1)), .bool yes] w fun e w' => e = .returned (.bool true) ∧ Below w.heap.size w w' := by
  have hb0 := below_one w (.cells (CdLetter.cells l (.slice A1 l.keys.length c1)) 25)
  have hpl := played_calls (w.alloc (.cells (CdLetter.cells l (.slice A1 l.keys.length c1)) 25)) A c ops hl (fun i x hx => by
    obtain ⟨ad, e, cs, h1, ⟨A1, c1, A2, c2, e2, g1, g2, g3, g4⟩, h3⟩ := hR i x hx
    exact ⟨ad, e, cs, h1, ⟨A1, c1, A2, c2, e2, g1, Kd.C_below g2 hb0, g3, Kd.C_below g4 hb0⟩, fun j u hj => cell_below hb0 (h3 j u hj)⟩) hB (Tab.below hT hb0)
  have hrow := rowL w l (.slice A1 l.keys.length c1)
  have HS := Aside0.mk (And.intro (Tab.below hT hb0) (And.intro (Kd.C_below hC hb0) (And.intro hc (And.intro hLB (And.intro hb0 hrow)))))
  have HLEN := Aside0.mk hl
  clear hR hB hT hC hc hLB hb0 hrow hl
  obtain ⟨kind, part, inst, step, sort, keys⟩ := l
  simp only [CdLetter.cells] at hpl HS ⊢
  generalize hg : played ops = g at *
  have hinv : Lg.Inv g := hg ▸ Lg.Inv.played ops
  have HONCE := Aside0.mk (once g hinv ⟨kind, part, inst, step, sort, keys⟩ yes)
  clear hg hinv
  go_enter Try.func3, Try.ntmps3
  go_wp2_with fail
  generalize World.alloc w _ = w0 at *
  refine hpl.mono ?_
  rintro e w1 ⟨p, d, rfl, hO⟩
  have HO := Aside0.mk hO
  obtain ⟨q0, e0⟩ : ∃ q, q = w.heap.size := ⟨_, rfl⟩
  have HQ : Aside0 (∀ W, Below w0.heap.size w0 W → W.cell? ⟨q0, 0, none⟩ = some (.int .i64 kind) ∧ W.cell? ⟨q0, 1, none⟩ = some (.int .i64 part) ∧ W.cell? ⟨q0, 2, none⟩ = some (.int .i64 inst) ∧ W.cell? ⟨q0, 3, none⟩ = some (.int .i64 step) ∧ W.cell? ⟨q0, 4, none⟩ = some (.int .i64 sort) ∧ W.cell? ⟨q0, 5, none⟩ = some (.slice A1 keys.length c1)) := ⟨fun W hW => by
    subst e0
    have hr := row_below hW HS.out.2.2.2.2.2
    exact ⟨row_cell hr rfl, row_cell hr rfl, row_cell hr rfl, row_cell hr rfl, row_cell hr rfl, row_cell hr rfl⟩⟩
  rw [← e0]
  clear e0 hO hpl
  have HASK : Aside0 (∀ (W : World) (d' : Dat) (g' : S) (n : Nat) (v : Bool), Own w0.heap.size w0 W p d' g' n → Calls Try.prog 8 #[.pointer (some ⟨p, 0, none⟩), .agg #[.int .i64 kind, .int .i64 part, .int .i64 inst, .int .i64 step, .int .i64 sort, .slice A1 keys.length c1], .bool v] W (AskAt W (askF g' ⟨kind, part, inst, step, sort, keys⟩ v))) :=
    ⟨fun W d' g' n v hW => ask_own hW A1 c1 ⟨kind, part, inst, step, sort, keys⟩ v (Kd.C_below HS.out.2.1 hW.below) HS.out.2.2.1 HS.out.2.2.2.1 (Tab.below HS.out.1 hW.below)⟩
  obtain ⟨hl0, hl1, hl2, hl3, hl4, hl5⟩ := HQ.out w1 HO.out.below
  go_wp2_with fail
  refine (HASK.out _ _ _ _ _ HO.out).mono ?_
  rintro e w2 ⟨A3, c3, rfl, hc3, hC3, hb3⟩
  have hev := ask_evOk hC3 (by have := HS.out.2.2.2.1.2; simp only at this ⊢; omega) (fun k hm => Nat.le_trans (HS.out.2.2.2.1.1.2.2.2.2.2 k hm) (by omega)) HS.out.2.2.2.1.1.2.2.1 HS.out.2.2.2.1.1.2.2.2.1
  have HB3 := Aside0.mk (And.intro (HO.out.on HO.out.below.size hb3) (And.intro hev (And.intro hc3 hb3)))
  clear hC3 hev hc3 hb3 hl0 hl1 hl2 hl3 hl4 hl5
  generalize askF g _ yes = x at *
  obtain ⟨⟨xk, xi, xs, xks⟩, ⟨rk, rp, ri, rs, ro, rks⟩, er⟩ := x
  simp only [CdEvent.cells, CdLetter.cells] at *
  by_cases hxk : xk = 0
  · subst hxk
    by_cases her : er = 0
    · subst her
      go_wp2
      go_ret
      exact ⟨rfl, HS.out.2.2.2.2.1.trans ((HB3.out.1.on HB3.out.1.below.size (below_two w2 _ _)).below.mono HS.out.2.2.2.2.1.size)⟩
    · have he1 : (er != 0) = true := bne_iff_ne.2 her
      clear her
      go_wp2
      go_ret
      exact ⟨rfl, HS.out.2.2.2.2.1.trans ((HB3.out.1.on HB3.out.1.below.size (below_two w2 _ _)).below.mono HS.out.2.2.2.2.1.size)⟩
  · have hx1 : (xk == 0) = false := beq_eq_false_iff_ne.2 hxk
    obtain ⟨h1, h2, h3⟩ := HONCE.out.resolve_left hxk
    subst h1
    have HN := Aside0.mk (And.intro h2 h3)
    clear h2 h3 hxk
    go_wp2_with fail
    have hmine : ∀ k, w1.heap.size ≤ k → ¬ d.mine k := fun k hk hm => by have := mine_lt HO.out.at_ hm; omega
    have hz12 : w1.heap.size ≤ w2.heap.size := HB3.out.2.2.2.size
    refine (apply_own (HB3.out.1.on HB3.out.1.below.size (below_two w2 _ _)) (Nat.le_trans HB3.out.1.below.size (below_two w2 _ _).size) A3 c3 ⟨xk, xi, xs, xks⟩ ⟨Kd.C_below HB3.out.2.1.keys (below_two w2 _ _), HB3.out.2.1.len, HB3.out.2.1.sizes, HB3.out.2.1.inst, HB3.out.2.1.step⟩ HB3.out.2.2.1 (Tab.below HS.out.1 (HB3.out.1.below.trans ((below_two w2 _ _).mono HB3.out.1.below.size))) (by have := HLEN.out; omega)).mono ?_
    rintro e w4 ⟨rfl, d4, hO4, hC4, _⟩
    rw [HN.out.1]
    have hr4 := hC4.row (alloc2 w2 _ _) (hmine _ (by omega))
    obtain ⟨hl0, hl1, hl2, hl3, hl4, hl5⟩ := HQ.out w4 hO4.below
    have hA2 := HASK.out w4 d4 _ _ true hO4
    rw [HN.out.2 true] at hA2
    have H4 := Aside0.mk (And.intro hO4 hr4)
    clear hmine hz12 hO4 hC4 hr4
    go_wp2_with fail
    refine hA2.mono ?_
    rintro e w5 ⟨A5, c5, rfl, _, _, hb5⟩
    simp only [nullE, CdEvent.cells, CdLetter.cells, List.length_nil] at *
    have HO5 := Aside0.mk (H4.out.1.on H4.out.1.below.size hb5)
    have HR5 := Aside0.mk (row_below hb5 H4.out.2)
    clear hb5 hA2 hl0 hl1 hl2 hl3 hl4 hl5
    have hq := HQ.out w5 HO5.out.below
    have hl0 := two_cell hq.1
    have hl1 := two_cell hq.2.1
    have hl2 := two_cell hq.2.2.1
    have hl3 := two_cell hq.2.2.2.1
    have hl4 := two_cell hq.2.2.2.2.1
    have hl5 := two_cell hq.2.2.2.2.2
    clear hq
    go_wp2_with fail
    have HO6 := Aside0.mk (HO5.out.on HO5.out.below.size (below_two w5 (.cells #[.int .i64 0, .int .i64 0, .int .i64 0, .slice A5 0 c5] 29) (.cells #[.int .i64 rk, .int .i64 rp, .int .i64 ri, .int .i64 rs, .int .i64 ro, .slice none 0 0] 25)))
    have hA3 := HASK.out _ d4 _ _ false HO6.out
    rw [HN.out.2 false] at hA3
    refine hA3.mono ?_
    rintro e w7 ⟨A7, c7, rfl, _, _, hb7⟩
    simp only [nullE, CdEvent.cells, CdLetter.cells, List.length_nil] at *
    have HO7 := Aside0.mk (HO6.out.on HO6.out.below.size hb7)
    obtain ⟨v7, s7⟩ := two_rows hb7
    have r7 := row_below hb7 (row_below (below_two w5 _ _) HR5.out)
    clear hA3 hl0 hl1 hl2 hl3 hl4 hl5 hb7
    have hv0 : ∀ a b, ((w7.alloc a).alloc b).cell? ⟨w5.heap.size, 0, none⟩ = some (.int .i64 0) := two_cell (row_cell v7 rfl)
    have hs0 : ∀ a b, ((w7.alloc a).alloc b).cell? ⟨w5.heap.size + 1, 0, none⟩ = some (.int .i64 rk) := two_cell (row_cell s7 rfl)
    have hs1 : ∀ a b, ((w7.alloc a).alloc b).cell? ⟨w5.heap.size + 1, 1, none⟩ = some (.int .i64 rp) := two_cell (row_cell s7 rfl)
    have hs2 : ∀ a b, ((w7.alloc a).alloc b).cell? ⟨w5.heap.size + 1, 2, none⟩ = some (.int .i64 ri) := two_cell (row_cell s7 rfl)
    have hs3 : ∀ a b, ((w7.alloc a).alloc b).cell? ⟨w5.heap.size + 1, 3, none⟩ = some (.int .i64 rs) := two_cell (row_cell s7 rfl)
    have hs4 : ∀ a b, ((w7.alloc a).alloc b).cell? ⟨w5.heap.size + 1, 4, none⟩ = some (.int .i64 ro) := two_cell (row_cell s7 rfl)
    have hs5 : ∀ a b, ((w7.alloc a).alloc b).cell? ⟨w5.heap.size + 1, 5, none⟩ = some (.slice none 0 0) := two_cell (row_cell s7 rfl)
    have hr0 : ∀ a b, ((w7.alloc a).alloc b).cell? ⟨w2.heap.size + 1, 0, none⟩ = some (.int .i64 rk) := two_cell (row_cell r7 rfl)
    have hr1 : ∀ a b, ((w7.alloc a).alloc b).cell? ⟨w2.heap.size + 1, 1, none⟩ = some (.int .i64 rp) := two_cell (row_cell r7 rfl)
    have hr2 : ∀ a b, ((w7.alloc a).alloc b).cell? ⟨w2.heap.size + 1, 2, none⟩ = some (.int .i64 ri) := two_cell (row_cell r7 rfl)
    have hr3 : ∀ a b, ((w7.alloc a).alloc b).cell? ⟨w2.heap.size + 1, 3, none⟩ = some (.int .i64 rs) := two_cell (row_cell r7 rfl)
    have hr4 : ∀ a b, ((w7.alloc a).alloc b).cell? ⟨w2.heap.size + 1, 4, none⟩ = some (.int .i64 ro) := two_cell (row_cell r7 rfl)
    have hr5 : ∀ a b, ((w7.alloc a).alloc b).cell? ⟨w2.heap.size + 1, 5, none⟩ = some (.slice none 0 0) := two_cell (row_cell r7 rfl)
    have H7 := Aside0.mk (And.intro v7 (And.intro s7 r7))
    clear v7 s7 r7
    go_wp2_with fail
    refine (same_reply rk rp ri rs ro _).mono ?_
    rintro e w9 ⟨rfl, hb9⟩
    have r9 := row_below hb9 (row_below (below_two w7 _ _) H7.out.2.2)
    obtain ⟨_, t9⟩ := two_rows hb9
    have HB9 := Aside0.mk hb9
    clear hv0 hs0 hs1 hs2 hs3 hs4 hs5 hr0 hr1 hr2 hr3 hr4 hr5 hb9
    have hr0 : w9.cell? ⟨w2.heap.size + 1, 0, none⟩ = some (.int .i64 rk) := row_cell r9 rfl
    have hr1 : w9.cell? ⟨w2.heap.size + 1, 1, none⟩ = some (.int .i64 rp) := row_cell r9 rfl
    have hr2 : w9.cell? ⟨w2.heap.size + 1, 2, none⟩ = some (.int .i64 ri) := row_cell r9 rfl
    have hr3 : w9.cell? ⟨w2.heap.size + 1, 3, none⟩ = some (.int .i64 rs) := row_cell r9 rfl
    have hr4 : w9.cell? ⟨w2.heap.size + 1, 4, none⟩ = some (.int .i64 ro) := row_cell r9 rfl
    have hr5 : w9.cell? ⟨w2.heap.size + 1, 5, none⟩ = some (.slice none 0 0) := row_cell r9 rfl
    have ht0 : w9.cell? ⟨w7.heap.size + 1, 0, none⟩ = some (.int .i64 rk) := row_cell t9 rfl
    have ht1 : w9.cell? ⟨w7.heap.size + 1, 1, none⟩ = some (.int .i64 rp) := row_cell t9 rfl
    have ht2 : w9.cell? ⟨w7.heap.size + 1, 2, none⟩ = some (.int .i64 ri) := row_cell t9 rfl
    have ht3 : w9.cell? ⟨w7.heap.size + 1, 3, none⟩ = some (.int .i64 rs) := row_cell t9 rfl
    have ht4 : w9.cell? ⟨w7.heap.size + 1, 4, none⟩ = some (.int .i64 ro) := row_cell t9 rfl
    have ht5 : w9.cell? ⟨w7.heap.size + 1, 5, none⟩ = some (.slice none 0 0) := row_cell t9 rfl
    clear r9 t9
    go_wp2_with fail
    refine (same_reply rk rp ri rs ro _).mono ?_
    rintro e w10 ⟨rfl, hb10⟩
    have HB10 := Aside0.mk hb10
    clear hb10
    go_wp2
    go_ret
    have ho8 := HO7.out.on HO7.out.below.size ((below_two w7 _ _).trans (HB9.out.mono (below_two w7 _ _).size))
    exact ⟨rfl, HS.out.2.2.2.2.1.trans ((ho8.below.trans (HB10.out.mono ho8.below.size)).mono HS.out.2.2.2.2.1.size)⟩
end Go.Proofs.Ytahonoeiamjgbaa.LgTk

/- unicode/utf8.decodeRuneInStringSlow, DecodeRuneInString and name.Compare over tables of whatever content: the walks, by hand. -/
namespace Go.Proofs.Ytahonoeiamjgbaa.CmpWalk
open Go.Proofs.Ytahonoeiamjgbaa.Nm (byte byte_lt byte_at)
open Go.RowKit Go.IntWalk Go.Proofs.YtahonoeiamjgbaaW.PrintWords Go.Proofs.YtahonoeiamjgbaaW.PrintMore

/-- What the two tables of unicode/utf8 hold. -/
structure Utabs where
  first : Nat → Nat
  lo : Nat → Nat
  hi : Nat → Nat
  first8 : ∀ i, first i < 256
  lo8 : ∀ i, lo i < 256
  hi8 : ∀ i, hi i < 256
structure TabsRaw (T : Utabs) (w : World) : Prop where
  first : ∀ i, i < 256 → w.cell? ⟨0, i, none⟩ = some (.int .u8 (T.first i))
  lo : ∀ i, i < 16 → w.cell? ⟨1, i * 2, none⟩ = some (.int .u8 (T.lo i))
  hi : ∀ i, i < 16 → w.cell? ⟨1, i * 2 + 1, none⟩ = some (.int .u8 (T.hi i))

/-- What is decoded. -/
def decT (T : Utabs) (s : ByteArray) : Nat × Nat :=
  let x := T.first (byte s 0)
  if 240 ≤ x then (if x % 2 = 1 then 65533 else byte s 0, 1)
  else if s.size < x % 8 then (65533, 1)
  else if byte s 1 < T.lo (x / 16) ∨ T.hi (x / 16) < byte s 1 then (65533, 1)
  else if x % 8 ≤ 2 then (byte s 0 % 32 * 64 + byte s 1 % 64, 2)
  else if byte s 2 < 128 ∨ 191 < byte s 2 then (65533, 1)
  else if x % 8 ≤ 3 then (byte s 0 % 16 * 4096 + byte s 1 % 64 * 64 + byte s 2 % 64, 3)
  else if byte s 3 < 128 ∨ 191 < byte s 3 then (65533, 1)
  else (byte s 0 % 8 * 262144 + byte s 1 % 64 * 4096 + byte s 2 % 64 * 64 + byte s 3 % 64, 4)

theorem two_eq {a b a' b' : Int} (h1 : a = a') (h2 : b = b') : Ending.returned (.tuple #[.int .i32 a, .int .i64 b]) = Ending.returned (.tuple #[.int .i32 a', .int .i64 b']) := by rw [h1, h2]
theorem mask_odd (x : Nat) (ho : x % 2 = 1) : wrap32 ((x : Int) * 2147483648) / 2147483648 = -1 := by unfold wrap32; omega
theorem mask_even (x : Nat) (ho : ¬ x % 2 = 1) : wrap32 ((x : Int) * 2147483648) / 2147483648 = 0 := by unfold wrap32; omega
theorem high_odd (b : Nat) (h : b < 256) : Go.bits .or .i32 (Go.bits .andNot .i32 (b : Int) (-1)) (Go.bits .and .i32 65533 (-1)) = 65533 := by
  have : ∀ b : Fin 256, Go.bits .or .i32 (Go.bits .andNot .i32 ((b : Nat) : Int) (-1)) (Go.bits .and .i32 65533 (-1)) = 65533 := by decide +kernel
  exact this ⟨b, h⟩
theorem high_even (b : Nat) (h : b < 256) : Go.bits .or .i32 (Go.bits .andNot .i32 (b : Int) 0) (Go.bits .and .i32 65533 0) = (b : Int) := by
  have : ∀ b : Fin 256, Go.bits .or .i32 (Go.bits .andNot .i32 ((b : Nat) : Int) 0) (Go.bits .and .i32 65533 0) = ((b : Nat) : Int) := by decide +kernel
  exact this ⟨b, h⟩

set_option maxHeartbeats 1000000 in
set_option maxRecDepth 100000 in
theorem slow_calls (T : Utabs) (s : ByteArray) (w : World) (hT : TabsRaw T w) (h2 : 2 ≤ s.size) (hs : s.size ≤ 9000000000000000000) :
    Calls Try.prog 100 #[.string s] w fun e w' => e = .returned (.tuple #[.int .i32 (decT T s).1, .int .i64 (decT T s).2]) ∧ Below w.heap.size w w' := by
  have hx8 := T.first8 (byte s 0)
  have hb0 := byte_at s 0 (by omega)
  have hb1 := byte_at s 1 (by omega)
  have hl0 := byte_lt s 0
  have hc := hT.first (byte s 0) hl0
  have hlo := hT.lo (T.first (byte s 0) / 16) (by omega)
  have hhi := hT.hi (T.first (byte s 0) / 16) (by omega)
  have hlt0 : 0 < w.heap.size := World.block_lt_of_cell? w _ hc
  have hlt1 : 1 < w.heap.size := World.block_lt_of_cell? w _ hlo
  have HD : Aside0 (decT T s = decT T s) := ⟨rfl⟩
  by_cases h240 : 240 ≤ T.first (byte s 0)
  · have hd : decT T s = (if T.first (byte s 0) % 2 = 1 then 65533 else byte s 0, 1) := by
      unfold decT; simp only; rw [if_pos h240]
    generalize hxx : T.first (byte s 0) = x at *
    have HDD := Aside0.mk hd
    clear hd HD hT hlo hhi hxx
    have hge : decide ((240 : Int) ≤ (x : Int)) = true := decide_eq_true (by omega)
    have hne : decide ((s.size : Int) < 1) = false := decide_eq_false (by omega)
    go_enter Try.func100, Try.ntmps100
    go_wp2
    go_ret2
    rw [HDD.out]
    refine ⟨?_, Below.refl _ _⟩
    refine congrArg Ending.returned (congrArg Value.tuple ?_)
    refine congrArg (fun v => #[Value.int .i32 v, Value.int .i64 1]) ?_
    by_cases ho : x % 2 = 1
    · rw [mask_odd x ho, high_odd _ hl0, if_pos ho]; rfl
    · rw [mask_even x ho, high_even _ hl0, if_neg ho]
  · have hd : decT T s = if s.size < T.first (byte s 0) % 8 then (65533, 1)
        else if byte s 1 < T.lo (T.first (byte s 0) / 16) ∨ T.hi (T.first (byte s 0) / 16) < byte s 1 then (65533, 1)
        else if T.first (byte s 0) % 8 ≤ 2 then (byte s 0 % 32 * 64 + byte s 1 % 64, 2)
        else if byte s 2 < 128 ∨ 191 < byte s 2 then (65533, 1)
        else if T.first (byte s 0) % 8 ≤ 3 then (byte s 0 % 16 * 4096 + byte s 1 % 64 * 64 + byte s 2 % 64, 3)
        else if byte s 3 < 128 ∨ 191 < byte s 3 then (65533, 1)
        else (byte s 0 % 8 * 262144 + byte s 1 % 64 * 4096 + byte s 2 % 64 * 64 + byte s 3 % 64, 4) := by
      unfold decT; simp only; rw [if_neg h240]
    have hlo8 := T.lo8 (T.first (byte s 0) / 16)
    have hhi8 := T.hi8 (T.first (byte s 0) / 16)
    generalize T.lo (T.first (byte s 0) / 16) = lo at *
    generalize T.hi (T.first (byte s 0) / 16) = hi at *
    generalize hxx : T.first (byte s 0) = x at *
    have HDD := Aside0.mk hd
    clear hd HD hT hxx
    have hge : decide ((240 : Int) ≤ (x : Int)) = false := decide_eq_false (by omega)
    have hne : decide ((s.size : Int) < 1) = false := decide_eq_false (by omega)
    go_enter Try.func100, Try.ntmps100
    go_wp2
    all_goals
      go_ret2
      rw [HDD.out]
      clear hb0 hb1 HDD hlo hhi hc
      (try simp only [byte_at] at *)
      repeat (first | rw [if_pos (by omega)] | rw [if_neg (by omega)])
      refine ⟨two_eq ?_ ?_, ?_⟩
    all_goals first | rfl | (exact (Below.refl _ _).alloc (Nat.le_refl _) _) | (simp; done) | (simp; omega)

/-- What DecodeRuneInString tells of a text that is not empty. -/
def decA (T : Utabs) (s : ByteArray) : Nat × Nat := if byte s 0 < 128 then (byte s 0, 1) else decT T s

theorem decT_bounds (T : Utabs) (s : ByteArray) (h2 : 2 ≤ s.size) : (decT T s).1 ≤ 2147483647 ∧ 1 ≤ (decT T s).2 ∧ (decT T s).2 ≤ s.size := by
  have h0 := byte_lt s 0; have h1 := byte_lt s 1; have h2 := byte_lt s 2; have h3 := byte_lt s 3
  unfold decT
  simp only
  repeat' split
  all_goals simp only
  all_goals omega
theorem decA_bounds (T : Utabs) (s : ByteArray) (h : 0 < s.size) (h2 : byte s 0 < 128 ∨ 2 ≤ s.size) : (decA T s).1 ≤ 2147483647 ∧ 1 ≤ (decA T s).2 ∧ (decA T s).2 ≤ s.size := by
  unfold decA
  by_cases h0 : byte s 0 < 128
  · rw [if_pos h0]; simp only; omega
  · rw [if_neg h0]; exact decT_bounds T s (by omega)

/-- A text all of whose runes may stand in a name: what is decoded and may stand in a name is the rune, with its own width. -/
theorem decA_name (T : Utabs) {s : ByteArray} (h : 0 < s.size) (hn : Nm.AllName s) (hr : Nm.nameRune (decA T s).1 = true) : Nm.AllName (s.extract (decA T s).2 s.size) := by
  have hf : Nm.nameRune (Utf8.decode s 0).1 = true := hn _ (by rw [Nm.runes_first h]; exact List.mem_cons_self)
  have hrest : Nm.AllName (s.extract (Utf8.decode s 0).2 s.size) := by
    intro r hm
    rw [Nm.runes_extract] at hm
    exact hn r (by rw [Nm.runes_first h]; exact List.mem_cons_of_mem _ hm)
  rcases Nm.decode_first h hf with ⟨h0, hd⟩ | ⟨h2, hd, hb⟩
  · have : (decA T s).2 = (Utf8.decode s 0).2 := by unfold decA; rw [if_pos h0, hd]
    rw [this]
    exact hrest
  · have hne : ¬ byte s 0 < 128 := by omega
    have : (decA T s).2 = 2 := by
      unfold decA at hr ⊢
      rw [if_neg hne] at hr ⊢
      have h1 := byte_lt s 1; have h3 := byte_lt s 2; have h4 := byte_lt s 3
      rw [Nm.nameRune_iff] at hr
      unfold decT at hr ⊢
      simp only at hr ⊢
      repeat' split
      all_goals rename_i hcs
      all_goals simp_all
      all_goals omega
    rw [this, ← hd]
    exact hrest
theorem first_two {s : ByteArray} (h : 0 < s.size) (hn : Nm.AllName s) : byte s 0 < 128 ∨ 2 ≤ s.size := by
  have hf : Nm.nameRune (Utf8.decode s 0).1 = true := hn _ (by rw [Nm.runes_first h]; exact List.mem_cons_self)
  rcases Nm.decode_first h hf with ⟨h0, _⟩ | ⟨h2, _⟩
  · exact Or.inl h0
  · exact Or.inr h2

set_option maxHeartbeats 1000000 in
set_option maxRecDepth 100000 in
theorem dec_calls (T : Utabs) (s : ByteArray) (w : World) (hT : TabsRaw T w) (h : 0 < s.size) (h2 : byte s 0 < 128 ∨ 2 ≤ s.size) (hs : s.size ≤ 9000000000000000000) :
    Calls Try.prog 98 #[.string s] w fun e w' => e = .returned (.tuple #[.int .i32 (decA T s).1, .int .i64 (decA T s).2]) ∧ Below w.heap.size w w' := by
  have hb0 := byte_at s 0 h
  have hne : s.toList.isEmpty = false := by
    rw [ByteArray.toList_eq]
    cases hc : s.data.toList with
    | nil =>
      have : s.data.toList.length = s.size := by simp
      rw [hc] at this
      simp at this
      omega
    | cons a b => rfl
  by_cases h0 : byte s 0 < 128
  · have hd : decA T s = (byte s 0, 1) := by unfold decA; rw [if_pos h0]
    have HD := Aside0.mk hd
    clear hd hT
    go_enter Try.func98, Try.ntmps98
    go_wp2
    all_goals
      go_ret2
      rw [HD.out]
      exact ⟨rfl, Below.refl _ _⟩
  · have hd : decA T s = decT T s := by unfold decA; rw [if_neg h0]
    have HS := slow_calls T s w hT (by omega) hs
    have HD := Aside0.mk hd
    clear hd hT
    go_enter Try.func98, Try.ntmps98
    go_wp2_with (go_at_call 100; refine HS.mono ?_; rintro e w1 ⟨rfl, hb⟩)
    all_goals
      go_ret2
      rw [HD.out]
      exact ⟨rfl, hb⟩

end Go.Proofs.Ytahonoeiamjgbaa.CmpWalk

/- name.Compare over tables of whatever content: the walk, by hand. -/
namespace Go.Proofs.Ytahonoeiamjgbaa.Cmp2
open Go.Proofs.Ytahonoeiamjgbaa.Nm (byte byte_lt byte_at)
open Go.RowKit Go.IntWalk Go.Proofs.YtahonoeiamjgbaaW.PrintWords Go.Proofs.YtahonoeiamjgbaaW.PrintMore Go.Proofs.Ytahonoeiamjgbaa.CmpWalk

/-- name.Compare, as the tables have it. -/
def cmpF (T : Utabs) : List Int → ByteArray → Int
  | [], b => if b.size = 0 then 0 else -1
  | x :: l, b => if b.size = 0 then 1 else if x < (decA T b).1 then -1 else if ((decA T b).1 : Int) < x then 1 else cmpF T l (b.extract (decA T b).2 b.size)

theorem empty_size {s : ByteArray} (h : s.size = 0) : s.toList.isEmpty = true := by
  rw [ByteArray.toList_eq]
  have : s.data.toList.length = s.size := by simp
  rw [h] at this
  rw [List.eq_nil_of_length_eq_zero this]
  rfl
theorem some_size {s : ByteArray} (h : ¬ s.size = 0) : s.toList.isEmpty = false := by
  rw [ByteArray.toList_eq]
  cases hc : s.data.toList with
  | nil =>
    have : s.data.toList.length = s.size := by simp
    rw [hc] at this
    simp at this
    omega
  | cons a b => rfl

theorem tabs_below {T : Utabs} {w w1 : World} (h : TabsRaw T w) (hb : Below w.heap.size w w1) : TabsRaw T w1 :=
  ⟨fun i hi => (hb.cell (World.block_lt_of_cell? w _ (h.first i hi))).trans (h.first i hi), fun i hi => (hb.cell (World.block_lt_of_cell? w _ (h.lo i hi))).trans (h.lo i hi), fun i hi => (hb.cell (World.block_lt_of_cell? w _ (h.hi i hi))).trans (h.hi i hi)⟩

/-- What holds at the loop's head. -/
def Head (T : Utabs) (w : World) (a b : ByteArray) (v1 : Value) (wr : World) : Prop :=
  ∃ (pos : Nat) (c : ByteArray), v1 = .string c ∧ wr.heap[w.heap.size]? = some (.stringIter a pos) ∧ Below w.heap.size w wr ∧ c.size ≤ b.size ∧ Nm.AllName c ∧ (∀ r ∈ Nm.from_ a pos, Nm.nameRune r = true) ∧ cmpF T (Nm.runes a) b = cmpF T (Nm.from_ a pos) c

set_option maxHeartbeats 2000000 in
set_option maxRecDepth 100000 in
theorem cmp_calls (T : Utabs) (a b : ByteArray) (w : World) (hT : TabsRaw T w) (ha : Nm.AllName a) (hb : Nm.AllName b) (hsb : b.size ≤ 9000000000000000000) :
    Calls Try.prog 94 #[.string a, .string b] w fun e w' => e = .returned (.int .i64 (cmpF T (Nm.runes a) b)) ∧ Below w.heap.size w w' := by
  have HT := Aside0.mk hT
  have HA := Aside0.mk ha
  have HNB := Aside0.mk hb
  have HSB := Aside0.mk hsb
  clear hT ha hb hsb
  go_enter Try.func94, Try.ntmps94
  go_wp2
  go_loopw [1] (fun v1 wr => Head T w a b v1 wr) (fun _ wr => a.size - wr.iterPos w.heap.size)
  case atStart => exact ⟨0, b, rfl, World.iter_heap w a 0, (Below.refl _ _).alloc (Nat.le_refl _) _, Nat.le_refl _, HNB.out, HA.out, by rw [Nm.from_zero]⟩
  case round =>
    obtain ⟨pos, c, rfl, hit, hB, hsz, hn, hfr, hc⟩ := hrel
    have hpos0 := iterPos_of hit
    have HB := Aside0.mk hB
    have HC := Aside0.mk hc
    have HN := Aside0.mk hn
    have HFR := Aside0.mk hfr
    clear hfr
    have HIT := Aside0.mk hit
    clear hc hn hB
    by_cases hlt : pos < a.size
    · have hnext := fun ty => Lib.run_next_any_at (P := Try.prog) wr w.heap.size a pos ty hit hlt
      have hle := decode_le a pos
      have hposd := Nm.decode_pos a pos
      have hrun := Nm.from_step a pos hlt
      clear hit hpos0
      have hdn : Nm.nameRune ((Utf8.decode a pos).1 : Int) = true := by
        have hall : ∀ r ∈ Nm.from_ a pos, Nm.nameRune r = true := HFR.out
        exact hall _ (by rw [hrun]; exact List.mem_cons_self)
      have hrest : ∀ r ∈ Nm.from_ a (pos + (Utf8.decode a pos).2), Nm.nameRune r = true := by
        intro r hr
        exact HFR.out r (by rw [hrun]; exact List.mem_cons_of_mem _ hr)
      have HREST := Aside0.mk hrest
      clear hrest
      generalize (Utf8.decode a pos).1 = x at *
      generalize (Utf8.decode a pos).2 = d at *
      have hbelow : ∀ p, Below w.heap.size w (wr.iterAt w.heap.size a p) := fun p => Lib.below_iterAt HB.out (Nat.le_refl _) a p
      have HBW := Aside0.mk hbelow
      have hit2 := Lib.iterAt_heap wr w.heap.size a pos (pos + d) HIT.out
      have HIT2 := Aside0.mk hit2
      clear hbelow hit2
      by_cases hz : c.size = 0
      · have hz0 := empty_size hz
        have hfin : cmpF T (Nm.from_ a pos) c = 1 := by rw [hrun, cmpF, if_pos hz]
        have HF := Aside0.mk hfin
        clear hfin hrun hz
        go_wp2
        go_ret
        rw [HC.out, HF.out]
        exact ⟨rfl, HBW.out _⟩
      · have hz0 := some_size hz
        have hcp : 0 < c.size := by omega
        have h2 := first_two hcp HN.out
        have hbd := decA_bounds T c hcp h2
        have hstep := decA_name T hcp HN.out
        have HDEC := fun W (hW : TabsRaw T W) => dec_calls T c W hW hcp h2 (Nat.le_trans hsz HSB.out)
        have hfin : cmpF T (Nm.from_ a pos) c = if (x : Int) < (decA T c).1 then -1 else if ((decA T c).1 : Int) < (x : Int) then 1 else cmpF T (Nm.from_ a (pos + d)) (c.extract (decA T c).2 c.size) := by rw [hrun, cmpF, if_neg hz]
        have hext : (c.extract (decA T c).2 c.size).size ≤ b.size := by rw [ByteArray.size_extract]; omega
        have HF := Aside0.mk hfin
        have HST := Aside0.mk hstep
        have HEX := Aside0.mk hext
        clear hfin hrun hz h2 hstep hext
        generalize hy : (decA T c).1 = y at *
        generalize hq : (decA T c).2 = q at *
        clear hy hq
        by_cases hlt1 : (x : Int) < (y : Int)
        · have hl1 : decide (x < y) = true := decide_eq_true (by omega)
          go_wp2_with (go_at_call 98; refine (HDEC _ (tabs_below HT.out (HBW.out _))).mono ?_; rintro e w1 ⟨rfl, hb1⟩)
          go_ret
          rw [HC.out, HF.out, if_pos hlt1]
          exact ⟨rfl, (HBW.out _).trans (hb1.mono (HBW.out _).size)⟩
        · have hl1 : decide (x < y) = false := decide_eq_false (by omega)
          by_cases hlt2 : (y : Int) < (x : Int)
          · have hl2 : decide (y < x) = true := decide_eq_true (by omega)
            go_wp2_with (go_at_call 98; refine (HDEC _ (tabs_below HT.out (HBW.out _))).mono ?_; rintro e w1 ⟨rfl, hb1⟩)
            go_ret
            rw [HC.out, HF.out, if_neg (by omega), if_pos (by omega)]
            exact ⟨rfl, (HBW.out _).trans (hb1.mono (HBW.out _).size)⟩
          · have hl2 : decide (y < x) = false := decide_eq_false (by omega)
            have hxy : x = y := by omega
            have HXY := Aside0.mk hxy
            clear hxy
            go_wp2_with (go_at_call 98; refine (HDEC _ (tabs_below HT.out (HBW.out _))).mono ?_; rintro e w1 ⟨rfl, hb1⟩)
            have hkeep : w1.heap[w.heap.size]? = some (.stringIter a (pos + d)) := (hb1.block _ (Array.getElem?_eq_some_iff.1 HIT2.out).1).trans HIT2.out
            go_roundw
            case rel =>
              refine ⟨pos + d, c.extract q c.size, rfl, hkeep, (HBW.out _).trans (hb1.mono (HBW.out _).size), HEX.out, HST.out (by rw [← HXY.out]; exact hdn), HREST.out, ?_⟩
              rw [HC.out, HF.out, if_neg (by omega), if_neg (by omega)]
            case measure => rw [iterPos_of hkeep, iterPos_of HIT.out]; omega
    · have hnext := fun ty => Lib.run_next_end_at (P := Try.prog) wr w.heap.size a pos ty hit hlt
      have hend := Nm.from_end a pos (by omega)
      by_cases hz : c.size = 0
      · have hz0 := empty_size hz
        have hfin : cmpF T (Nm.from_ a pos) c = 0 := by rw [hend, cmpF, if_pos hz]
        have HF := Aside0.mk hfin
        clear hfin hend hz hit hpos0
        go_wp2
        go_ret
        rw [HC.out, HF.out]
        exact ⟨rfl, HB.out⟩
      · have hz0 := some_size hz
        have hfin : cmpF T (Nm.from_ a pos) c = -1 := by rw [hend, cmpF, if_neg hz]
        have HF := Aside0.mk hfin
        clear hfin hend hz hit hpos0
        go_wp2
        go_ret
        rw [HC.out, HF.out]
        exact ⟨rfl, HB.out⟩
end Go.Proofs.Ytahonoeiamjgbaa.Cmp2

/- The tables of unicode/utf8, of whatever content, off the shape of the world in which a row begins. -/
namespace Go.Proofs.Ytahonoeiamjgbaa.Tabs
open Go.RowKit Go.Proofs.Ytahonoeiamjgbaa.CmpWalk

set_option maxRecDepth 100000 in
theorem cells_u8 {w : World} {g t n : Nat} (h : w.ShapedOpen Try.prog) (hg : g < Try.prog.globals.size)
    (h0 : ((begin Try.prog (fun _ _ => 0) default).world.heap[g]?).bind Obj.row? = some (Array.replicate n (.int .u8 0), t)) (hb : Try.prog.buildable t = true)
    (hc : Try.prog.cellTypes Try.prog.depth t = some (List.replicate n 5)) (i : Nat) (hi : i < n) : ∃ m : Nat, m < 256 ∧ w.cell? ⟨g, i, none⟩ = some (.int .u8 m) := by
  obtain ⟨cs, hh, hs, hr⟩ := h.1 g _ t hg h0
  obtain ⟨ts, hts, _, hall⟩ := hr hb
  rw [hc] at hts
  cases hts
  have h1 : i < cs.size := by rw [hs]; simpa using hi
  obtain ⟨u, hu', hok⟩ := hall i cs[i] (by simp [h1])
  have : u = 5 := by
    have := List.mem_of_getElem? hu'
    exact List.eq_of_mem_replicate this
  subst this
  have hcell : w.cell? ⟨g, i, none⟩ = some cs[i] := by simp [World.cell?, hh, h1]
  rw [hcell]
  unfold Cell.ok at hok
  rw [Try.underlying5] at hok
  cases hv : cs[i] <;> rw [hv] at hok <;> simp at hok
  case int k' n =>
    obtain ⟨rfl, hn⟩ := hok
    have h2 : 0 ≤ n ∧ n < 256 := by
      have hn' : (0 : Int) ≤ n ∧ n ≤ 255 := hn
      omega
    refine ⟨n.toNat, by omega, ?_⟩
    congr 2
    omega

set_option maxRecDepth 100000 in
theorem tabs_of {w : World} (h : w.ShapedOpen Try.prog) : ∃ T : Utabs, TabsRaw T w := by
  have hf := cells_u8 (g := 0) (t := 170) (n := 256) h (by decide +kernel) (by kernel_rfl) (by kernel_rfl) (by kernel_rfl)
  have ha := cells_u8 (g := 1) (t := 173) (n := 32) h (by decide +kernel) (by kernel_rfl) (by kernel_rfl) (by kernel_rfl)
  refine ⟨⟨fun i => if h : i < 256 then (hf i h).choose else 0, fun i => if h : i * 2 < 32 then (ha (i * 2) h).choose else 0, fun i => if h : i * 2 + 1 < 32 then (ha (i * 2 + 1) h).choose else 0, ?_, ?_, ?_⟩, ?_, ?_, ?_⟩
  · intro i
    split
    · rename_i hlt; exact (hf i hlt).choose_spec.1
    · omega
  · intro i
    split
    · rename_i hlt; exact (ha _ hlt).choose_spec.1
    · omega
  · intro i
    split
    · rename_i hlt; exact (ha _ hlt).choose_spec.1
    · omega
  · intro i hi
    simp only [hi, dif_pos]
    exact (hf i hi).choose_spec.2
  · intro i hi
    have h2 : i * 2 < 32 := by omega
    simp only [h2, dif_pos]
    exact (ha _ h2).choose_spec.2
  · intro i hi
    have h2 : i * 2 + 1 < 32 := by omega
    simp only [h2, dif_pos]
    exact (ha _ h2).choose_spec.2

abbrev tabOf (T : Utabs) : Tab where
  cmp := fun a b => Cmp2.cmpF T (Nm.runes a) b
  At := TabsRaw T
  below := fun h hb => Cmp2.tabs_below h hb
  calls := fun a b w hT ha hb _ hsb => Cmp2.cmp_calls T a b w hT ha hb hsb
end Go.Proofs.Ytahonoeiamjgbaa.Tabs

/- LedgerOnce over arguments as they come in. -/
namespace Go.Proofs.Ytahonoeiamjgbaa.LgLaw
open Go.RowKit Go.Proofs.Ytahonoeiamjgbaa.Tabs Go.Proofs.Ytahonoeiamjgbaa.LgTk
theorem few {n : Nat} (h : n * Try.prog.bytesOf 44 ≤ reachBytes) : n ≤ 4000000000000 := by
  rw [show Try.prog.bytesOf 44 = 128 by kernel_rfl] at h
  unfold reachBytes at h
  omega
theorem walk3 (A0 : Option Addr) (c0 : Nat) (a0 : List Lg.Op) (cs1 : Array Value) (l : CdLetter.D) (yes : Bool) (w : World) (_hl0 : a0.length ≤ c0) (hC0 : Opening.RowsK Opening.OpK 12 w A0 a0) (w0 : (∀ y ∈ a0, Opening.OpB y) ∧ a0.length * Try.prog.bytesOf 44 ≤ reachBytes)
    (hK : Opening.LetterK w l cs1.toList) (hB : Opening.LetterB3 l) (hsh : w.ShapedOpen Try.prog) :
    Calls Try.prog 3 #[.slice A0 a0.length c0, .agg cs1, .bool yes] w fun e w' => e = .returned (.bool true) ∧ Below w.heap.size w w' := by
  obtain ⟨T, hT⟩ := tabs_of hsh
  let _i : Tab := tabOf T
  obtain ⟨A1, c1, hcs, hc, hC⟩ := hK
  obtain rfl : cs1 = CdLetter.cells l (.slice A1 l.keys.length c1) := Array.ext' hcs
  exact once_calls A0 c0 a0 A1 c1 l yes w (few w0.2) hC0 w0.1 hT hC hc hB
end Go.Proofs.Ytahonoeiamjgbaa.LgLaw

/- The row of the law LedgerOnce, out of its walk. -/
namespace Go.Proofs.Ytahonoeiamjgbaa.ledgerOnce
open Go.ChangeShapes Go.WideShapes Go.ChangeAt Go.RowKit
open Go.ChangeMaps (open_string shut_string)
theorem own : ownKnob Try.prog.godebug = none := by kernel_rfl
theorem laidOut : laidOutB Try.prog = true := by kernel_rfl
set_option maxRecDepth 100000 in
theorem lifted (os : Os) (started : os.Started) (H : Type) (enc : TypeId × Value → H) :
    ReturnsInHanded {} Try.checked os 3 .any (Rows.ledgerOnceSpec.pre6 enc Try.prog Try.f3 Rows.ledgerOnceRow.domain false) (Rows.ledgerOnceSpec.post enc Try.prog Try.f3 false true false false) := by
  refine returnsInHanded_of_change_shaped (C := Try.checked) own started (by kernel_rfl) Try.func3
    (ChangeSpec.witness6 (enc := enc) (C := Try.checked) false ⟨#[], #[.slice none 0 0, .agg #[(.int .i64 0), (.int .i64 0), (.int .i64 0), (.int .i64 0), (.int .i64 0), (.slice none 0 0)], .bool false], []⟩ 8 (by kernel_rfl) (by kernel_rfl) (by kernel_rfl) (by kernel_rfl)) ?_
  intro W base args ds gs before hval0 hW hcnd hsz0 hsh _
  have hsz : (DataW.weightsEach Try.prog (Try.f3.params.toList ++ Rows.ledgerOnceSpec.plain.varTypes Try.prog) (ds ++ gs)).all (· ≤ reachBytes) = true := hsz0
  have hval : ∀ (j : Nat) t v, Try.f3.params[j]? = some t → args[j]? = some v → Value.okWide Try.prog W .any base t v := hval0
  have hW' := hW
  obtain ⟨p, q, hA0, hV, rfl, hfz, hnd⟩ := hW
  have hA : DataW.TrodAll enc Try.prog W 0 (fun _ => true) true Try.f3.params.toList args.toList ds p := hA0
  rw [Try.params3] at hA hval hsz
  obtain ⟨v0, vs0, d0, ds0, p0, q0, hargs, rfl, rfl, h0, r0⟩ := trodAll_cons hA
  obtain ⟨v1, vs1, d1, ds1, p1, q1, rfl, rfl, rfl, h1, r1⟩ := trodAll_cons r0
  obtain ⟨v2, vs2, d2, ds2, p2, q2, rfl, rfl, rfl, h2, r2⟩ := trodAll_cons r1
  obtain ⟨rfl, rfl, rfl⟩ := trodAll_nil r2
  obtain rfl : args = #[v0, v1, v2] := by cases args; simp_all
  obtain ⟨rfl, rfl⟩ := trodVars_none hV
  have k0 := h0
  have lt0 : ∀ x ∈ p0, x.block < W.heap.size := by obtain ⟨m, hm⟩ := k0; exact DataW.trod_lt m _ _ _ hm
  obtain ⟨A0, n0, c0, rfl⟩ := okWide_slice Try.underlying22 (hval 0 22 v0 rfl rfl)
  obtain ⟨a0, rfl, hl0, hC0, w0⟩ := Opening.openedK_slice (sz := 12) Try.underlying22 (by kernel_rfl) Opening.opens_Op hsz (j := 0) (t := 22) rfl rfl h0
  have k1 := h1
  have lt1 : ∀ x ∈ p1, x.block < W.heap.size := by obtain ⟨m, hm⟩ := k1; exact DataW.trod_lt m _ _ _ hm
  obtain ⟨cs1, rfl, hs1⟩ := okWide_struct Try.underlying25 (hval 1 25 v1 rfl rfl)
  obtain ⟨a1, hK1, w1⟩ := Opening.openedK Opening.opens_Letter3 hsz (j := 1) (t := 25) rfl rfl h1
  obtain ⟨a2, rfl, rfl, rfl⟩ := open_bool Try.underlying4 (hval 2 4 v2 rfl rfl) h2
  clear hA0 hval0 hsz0 hsz
  refine (LgLaw.walk3 A0 c0 a0 cs1 a1 a2 W hl0 hC0 w0 hK1 w1 hsh).mono fun e W' ⟨he, bel⟩ => ?_
  subst he
  exact ⟨_, rfl, _, _, _, [], _, [], hW', trodAll_mk1 (shut_bool Try.underlying4 _), (trodAll_cons_mk (Below.trod laidOut (by kernel_rfl) (of_decide_eq_true (by kernel_rfl)) k0 bel lt0) (trodAll_cons_mk (Below.trod laidOut (by kernel_rfl) (of_decide_eq_true (by kernel_rfl)) k1 bel lt1) (trodAll_cons_mk (shut_bool Try.underlying4 _) trodAll_mk0))), rfl, bel.frame _, fun h => by cases h⟩
theorem over : Rows.ledgerOnceRow.holds Try.pinned (OpenSpec.ofChange Rows.ledgerOnceSpec) :=
  OpenClaim.holds_of_wide 3 Try.f3 rfl rfl rfl rfl rfl rfl rfl ⟨rfl, rfl, rfl, rfl, rfl⟩ rfl rfl rfl rfl rfl (by kernel_rfl) Try.func3 (by kernel_rfl)
    (of_decide_eq_true (by kernel_rfl)) (by unfold Func.isWrapper; first | (rw [if_pos (by decide +kernel)]; kernel_rfl) | (rw [if_neg (by decide +kernel)]; exact ⟨rfl, rfl⟩))
    (fun os started H enc _ => lifted os started H enc)
theorem proved : Rows.LedgerOnceSaid := over
#print axioms proved
end Go.Proofs.Ytahonoeiamjgbaa.ledgerOnce
namespace Go.Proofs.Ytahonoeiamjgbaa
/-- The row, under a short name, for the claim. -/
theorem ledgerOnce_holds : Rows.LedgerOnceSaid := ledgerOnce.proved
end Go.Proofs.Ytahonoeiamjgbaa
