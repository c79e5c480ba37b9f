/- Several texts in one, in build order: CdLetter, CdEvent, Bx0, Bx1, CdMay, CdMayE, LgPlain, LgAt, LgSl, LgTk, CdWr, CdLE, LgWays, LgClone, LgTake, LgDrop, LgApply1, LgApply2, LgApply3, LgApply4, LgApply. -/
import Derived.Test.YtahonoeiamjgbaaMA0
import Derived.Test.YtahonoeiamjgbaaProg
import Derived.Below
import Derived.Deep.Draws
import Derived.Deep.AppendLies
import Derived.Maps.AppendAt
import Derived.OwnWalk
import Derived.Laws.BytesArg
import Derived.Laws.MakeOwn
import Derived.Laws.OwnMore
import Derived.Deep.OwnRows
import Derived.Tactics
import Derived.Lib.ConvBytes
import Derived.Laws.Slices
import Derived.WalkKit
import Derived.KernelRfl
import Derived.RowKit3
import Derived.Deep.LoopGhost
import Derived.Deep.QuietTactic
import Derived.BigQuiet
import Derived.WideLaws
import Derived.Deep.DeepCutAuto
import Derived.Deep.CutBlock
import Derived.Deep.RegionHeld3
import Derived.Laws.Rows
import Derived.Lib.AppendStr
import Derived.ArgAppend
import Derived.Laws.IdiomCopy
import Derived.OrdersHeld
import Derived.Laws.BitsLemmas
import Derived.RowKit
import Derived.Test.YtahonoeiamjgbaaWWords
import Derived.Test.YtahonoeiamjgbaaWLast
import Derived.Test.YtahonoeiamjgbaaWTab
import Derived.Test.YtahonoeiamjgbaaWFour
import Derived.Test.YtahonoeiamjgbaaWQPut
import Derived.Test.YtahonoeiamjgbaaWApart
import Derived.Test.YtahonoeiamjgbaaWArr
import Derived.Test.YtahonoeiamjgbaaWZeros
import Derived.Test.YtahonoeiamjgbaaWFoot
import Derived.Test.YtahonoeiamjgbaaWKept
import Derived.Test.YtahonoeiamjgbaaWShare
import Derived.Test.YtahonoeiamjgbaaWN
import Derived.Test.YtahonoeiamjgbaaWFootNe
import Derived.Test.YtahonoeiamjgbaaWAt
import Derived.Test.YtahonoeiamjgbaaWEqStruct
import Derived.Test.YtahonoeiamjgbaaWRepsOne
import Derived.Test.YtahonoeiamjgbaaWInv
import Derived.Test.YtahonoeiamjgbaaWInvWords
import Derived.Test.YtahonoeiamjgbaaWGuard
import Derived.Test.YtahonoeiamjgbaaWNEv
import Derived.Test.YtahonoeiamjgbaaWMore
import Derived.Test.YtahonoeiamjgbaaShelf
import Derived.Handy
/- The fields of a letter: read, and written. -/
namespace Go.Proofs.Ytahonoeiamjgbaa.CdLetter
open Go.RowKit Go.IntWalk Go.Proofs.Ytahonoeiamjgbaa.G Go.Proofs.YtahonoeiamjgbaaW.PrintWords Go.Proofs.YtahonoeiamjgbaaW.PrintLast Go.Proofs.YtahonoeiamjgbaaW.PrintMore Go.Proofs.Ytahonoeiamjgbaa.CdForm

structure D where
  kind : Int
  part : Int
  inst : Int
  step : Int
  sort : Int
  keys : List ByteArray

def nullD : D := ⟨0, 0, 0, 0, 0, []⟩

/-- What is read as the fields from a place on, and the place behind. -/
def rd (s : ByteArray) (a : Int) : Option (D × Int) :=
  num s a fun k a => num s a fun p a => num s a fun i a =>
    if k = 3 ∨ k = 9 then some (⟨k, p, i, 0, 0, []⟩, a)
    else num s a fun st a => if k = 1 then num s a fun so a => list s a fun ks a => some (⟨k, p, i, st, so, ks⟩, a) else some (⟨k, p, i, st, 0, []⟩, a)

theorem kinds (n : Int) : n = 3 ∨ n = 9 ∨ n = 1 ∨ (((n == 3) = false ∧ (n == 9) = false ∧ (n == 1) = false) ∧ ¬ n = 3 ∧ ¬ n = 9 ∧ ¬ n = 1) := by
  simp only [beq_eq_false_iff_ne, ne_eq]
  omega

def cells (d : D) (v : Value) : Array Value := #[.int .i64 d.kind, .int .i64 d.part, .int .i64 d.inst, .int .i64 d.step, .int .i64 d.sort, v]

/-- What the reading of an item ends with. -/
def Ends (w0 w : World) (g t : Nat) (gf : Nat) (s : ByteArray) (e : Ending) : Option (D × Int) → Prop
  | none => e = .panicked broken ∧ But2 w0 w g gf
  | some (d, a) => e = .returned (.tuple #[]) ∧ ∃ v, St w0 w g t (cells d v) gf s a ∧ Kd.R Kd.string 9 w w0.heap.size (fun _ => True) v d.keys

theorem Ends.good {w0 w : World} {g t gf : Nat} {s : ByteArray} {d : D} {a : Int} {v : Value} (h : St w0 w g t (cells d v) gf s a) (hk : Kd.R Kd.string 9 w w0.heap.size (fun _ => True) v d.keys) :
    Ends w0 w g t gf s (.returned (.tuple #[])) (some (d, a)) := ⟨rfl, v, h, hk⟩

set_option linter.unusedSimpArgs false in
set_option maxHeartbeats 6000000 in
set_option maxRecDepth 100000 in
theorem fields_read (w : World) (g gf : Nat) (s : ByteArray) (a : Int) (hg : w.heap[g]? = some (.cells (cells nullD (.slice none 0 0)) 79 (0, 0))) (hne : g ≠ gf)
    (hf : FormAt w gf false s a) (hs : s.size ≤ 1000000000000000) :
    Calls Try.prog 80 #[.pointer (some ⟨g, 0, none⟩), .pointer (some ⟨gf, 0, none⟩)] w fun e w' => Ends w w' g 79 gf s e (rd s a) := by
  have HR : Aside0 (rd s a = rd s a) := ⟨rfl⟩
  have HS : Aside0 (St w w g 79 #[.int .i64 0, .int .i64 0, .int .i64 0, .int .i64 0, .int .i64 0, .slice none 0 0] gf s a) := ⟨hg, hf, But2.refl _ _ _⟩
  have HK : Aside0 (Kd.R Kd.string 9 w w.heap.size (fun _ => True) (.slice none 0 0) []) := ⟨Kd.R_nil _ _ _ _ _⟩
  replace HR : Aside0 (rd s a = num s a fun k a => num s a fun p a => num s a fun i a =>
    if k = 3 ∨ k = 9 then some (⟨k, p, i, 0, 0, []⟩, a)
    else num s a fun st a => if k = 1 then num s a fun so a => list s a fun ks a => some (⟨k, p, i, st, so, ks⟩, a) else some (⟨k, p, i, st, 0, []⟩, a)) := HR
  generalize rd s a = r at *
  clear hg hf
  go_enter Try.func80, Try.ntmps80
  go_wp2_with fail
  go_at_call 83
  refine Calls.mono (num_step w _ g _ 0 _ _ gf s _ HS.out rfl hne hs) ?_
  rintro e w1 (⟨n, nx, ht, rfl, hS⟩ | ⟨ht, rfl, hB⟩)
  · replace HR := Aside0.mk (HR.out.trans (num_ok ht _))
    simp only [List.setIfInBounds_toArray, List.set_cons_zero, List.set_cons_succ] at hS
    replace HS := Aside0.mk hS
    have hcell := row_cell (j := 0) HS.out.row rfl
    clear ht hS
    rcases kinds n with rfl | rfl | rfl | ⟨⟨hk0, hk1, hk2⟩, HN0⟩
    rotate_left 3
    · have HN := Aside0.mk HN0
      clear HN0
      go_wp2_with (first
        | (go_at_call 83; refine Calls.mono (num_step w _ g _ _ _ _ gf s _ HS.out (by rfl) hne hs) ?_; rintro e w1 (⟨n, nx, ht, rfl, hS⟩ | ⟨ht, rfl, hB⟩); all_goals (first | (have HBAD := Aside0.mk hB; (first | replace HR := Aside0.mk (HR.out.trans (num_no ht _)) | (have HQ := HR.out; simp [HN.out.1, HN.out.2.1, HN.out.2.2] at HQ; replace HR := Aside0.mk (HQ.trans (num_no ht _)); clear HQ) | (have HQ := HR.out; simp at HQ; replace HR := Aside0.mk (HQ.trans (num_no ht _)); clear HQ)); clear hB ht) | ((first | replace HR := Aside0.mk (HR.out.trans (num_ok ht _)) | (have HQ := HR.out; simp [HN.out.1, HN.out.2.1, HN.out.2.2] at HQ; replace HR := Aside0.mk (HQ.trans (num_ok ht _)); clear HQ) | (have HQ := HR.out; simp at HQ; replace HR := Aside0.mk (HQ.trans (num_ok ht _)); clear HQ)); simp only [List.setIfInBounds_toArray, List.set_cons_zero, List.set_cons_succ] at hS; replace HS := Aside0.mk hS; have hcell := row_cell (j := 0) HS.out.row rfl; clear ht hS)))
        | (go_at_call 84; refine Calls.mono (list_step w _ g _ _ _ _ _ _ gf s _ HS.out (by rfl) hne hs) ?_; rintro e w1 (⟨n, nx, v, ht, rfl, hS, hK⟩ | ⟨ht, rfl, hB⟩); all_goals (first | (have HBAD := Aside0.mk hB; (first | replace HR := Aside0.mk (HR.out.trans (list_no ht _)) | (have HQ := HR.out; simp [HN.out.1, HN.out.2.1, HN.out.2.2] at HQ; replace HR := Aside0.mk (HQ.trans (list_no ht _)); clear HQ) | (have HQ := HR.out; simp at HQ; replace HR := Aside0.mk (HQ.trans (list_no ht _)); clear HQ)); clear hB ht) | ((first | replace HR := Aside0.mk (HR.out.trans (list_ok ht _)) | (have HQ := HR.out; simp [HN.out.1, HN.out.2.1, HN.out.2.2] at HQ; replace HR := Aside0.mk (HQ.trans (list_ok ht _)); clear HQ) | (have HQ := HR.out; simp at HQ; replace HR := Aside0.mk (HQ.trans (list_ok ht _)); clear HQ)); simp only [List.setIfInBounds_toArray, List.set_cons_zero, List.set_cons_succ] at hS; replace HS := Aside0.mk hS; have hcell := row_cell (j := 0) HS.out.row rfl; clear ht hS; replace HK := Aside0.mk hK; clear hK)))
        | (go_at_call 81; go_in))
      all_goals (first | (refine ⟨rfl, ?_⟩; rw [HR.out]; exact ⟨rfl, HBAD.out⟩) | (go_returns; have HQ := HR.out; (try simp [HN.out.1, HN.out.2.1, HN.out.2.2] at HQ); rw [HQ]; first | exact Ends.good HS.out HK.out | exact Ends.good HS.out (Kd.R_nil _ _ _ _ _)))
    all_goals
      go_wp2_with (first
        | (go_at_call 83; refine Calls.mono (num_step w _ g _ _ _ _ gf s _ HS.out (by rfl) hne hs) ?_; rintro e w1 (⟨n, nx, ht, rfl, hS⟩ | ⟨ht, rfl, hB⟩); all_goals (first | (have HBAD := Aside0.mk hB; (first | replace HR := Aside0.mk (HR.out.trans (num_no ht _)) | (have HQ := HR.out; simp [HN.out.1, HN.out.2.1, HN.out.2.2] at HQ; replace HR := Aside0.mk (HQ.trans (num_no ht _)); clear HQ) | (have HQ := HR.out; simp at HQ; replace HR := Aside0.mk (HQ.trans (num_no ht _)); clear HQ)); clear hB ht) | ((first | replace HR := Aside0.mk (HR.out.trans (num_ok ht _)) | (have HQ := HR.out; simp [HN.out.1, HN.out.2.1, HN.out.2.2] at HQ; replace HR := Aside0.mk (HQ.trans (num_ok ht _)); clear HQ) | (have HQ := HR.out; simp at HQ; replace HR := Aside0.mk (HQ.trans (num_ok ht _)); clear HQ)); simp only [List.setIfInBounds_toArray, List.set_cons_zero, List.set_cons_succ] at hS; replace HS := Aside0.mk hS; have hcell := row_cell (j := 0) HS.out.row rfl; clear ht hS)))
        | (go_at_call 84; refine Calls.mono (list_step w _ g _ _ _ _ _ _ gf s _ HS.out (by rfl) hne hs) ?_; rintro e w1 (⟨n, nx, v, ht, rfl, hS, hK⟩ | ⟨ht, rfl, hB⟩); all_goals (first | (have HBAD := Aside0.mk hB; (first | replace HR := Aside0.mk (HR.out.trans (list_no ht _)) | (have HQ := HR.out; simp [HN.out.1, HN.out.2.1, HN.out.2.2] at HQ; replace HR := Aside0.mk (HQ.trans (list_no ht _)); clear HQ) | (have HQ := HR.out; simp at HQ; replace HR := Aside0.mk (HQ.trans (list_no ht _)); clear HQ)); clear hB ht) | ((first | replace HR := Aside0.mk (HR.out.trans (list_ok ht _)) | (have HQ := HR.out; simp [HN.out.1, HN.out.2.1, HN.out.2.2] at HQ; replace HR := Aside0.mk (HQ.trans (list_ok ht _)); clear HQ) | (have HQ := HR.out; simp at HQ; replace HR := Aside0.mk (HQ.trans (list_ok ht _)); clear HQ)); simp only [List.setIfInBounds_toArray, List.set_cons_zero, List.set_cons_succ] at hS; replace HS := Aside0.mk hS; have hcell := row_cell (j := 0) HS.out.row rfl; clear ht hS; replace HK := Aside0.mk hK; clear hK)))
        | (go_at_call 81; go_in))
      all_goals (first | (refine ⟨rfl, ?_⟩; rw [HR.out]; exact ⟨rfl, HBAD.out⟩) | (go_returns; have HQ := HR.out; (try simp at HQ); rw [HQ]; first | exact Ends.good HS.out HK.out | exact Ends.good HS.out (Kd.R_nil _ _ _ _ _)))
  · replace HR := Aside0.mk (HR.out.trans (num_no ht _))
    have HBAD := Aside0.mk hB
    clear hB ht
    go_wp2_with fail
    refine ⟨rfl, ?_⟩
    rw [HR.out]
    exact ⟨rfl, HBAD.out⟩

/-- The bytes of the fields. -/
def form (d : D) : List UInt8 := en d.kind ++ (en d.part ++ (en d.inst ++ (if d.kind = 3 ∨ d.kind = 9 then [] else en d.step ++ (if d.kind = 1 then en d.sort ++ Pk.whole d.keys else []))))

/-- What can be written at all. -/
structure Fits (d : D) : Prop where
  kind : 0 ≤ d.kind ∧ d.kind ≤ 1125899906842624
  part : 0 ≤ d.part ∧ d.part ≤ 1125899906842624
  inst : 0 ≤ d.inst ∧ d.inst ≤ 1125899906842624
  step : 0 ≤ d.step ∧ d.step ≤ 1125899906842624
  sort : 0 ≤ d.sort ∧ d.sort ≤ 1125899906842624
  keys : d.keys.length ≤ 4000 ∧ ∀ t ∈ d.keys, t.size ≤ 2000

set_option linter.unusedSimpArgs false in
set_option maxHeartbeats 6000000 in
set_option maxRecDepth 100000 in
theorem fields_write (w0 w : World) (g gf : Nat) (L : List UInt8) (A : Option Addr) (c : Nat) (d : D) (hd : Fits d) (hg0 : w0.heap[g]? = some (.cells (cells d (.slice A d.keys.length c)) 79 (0, 0)))
    (hr : Kd.C Kd.string w0 A d.keys.length d.keys) (hc : d.keys.length ≤ c) (hw : Wr w0 w gf L 1) :
    Calls Try.prog 80 #[.pointer (some ⟨g, 0, none⟩), .pointer (some ⟨gf, 0, none⟩)] w fun e w' => e = .returned (.tuple #[]) ∧ Wr w0 w' gf (L ++ form d) 20 := by
  have HF := Aside0.mk hd
  have HC := Aside0.mk (And.intro hr hc)
  have HW := Aside0.mk hw
  have hg := Aside0.mk hg0
  have hcell := HW.out.cell (j := 0) hg.out rfl
  clear hd hg0 hw hr hc
  obtain ⟨kind, part, inst, step, sort, keys⟩ := d
  replace hg : Aside0 (w0.heap[g]? = some (.cells #[.int .i64 kind, .int .i64 part, .int .i64 inst, .int .i64 step, .int .i64 sort, .slice A keys.length c] 79 (0, 0))) := hg
  replace hcell : w.cell? ⟨g, 0, none⟩ = some (.int .i64 kind) := hcell
  have HX : Aside0 (∀ (L' : List UInt8) (w' : World) (k : Nat), Wr w0 w' gf L' k → k ≤ 20 → L' = L ++ form ⟨kind, part, inst, step, sort, keys⟩ → Wr w0 w' gf (L ++ form ⟨kind, part, inst, step, sort, keys⟩) 20) := ⟨fun L' w' k h hk he => he ▸ h.more hk⟩
  go_enter Try.func80, Try.ntmps80
  rcases kinds kind with rfl | rfl | rfl | ⟨⟨hk0, hk1, hk2⟩, HN0⟩
  rotate_left 3
  · have HN := Aside0.mk HN0
    clear HN0
    go_wp2_with (first
        | (go_at_call 83; refine Calls.mono (num_put w0 _ gf _ _ HW.out g _ _ _ _ hg.out (by rfl) (by first | exact HF.out.kind | exact HF.out.part | exact HF.out.inst | exact HF.out.step | exact HF.out.sort) (by decide)) ?_; rintro e w1 ⟨rfl, hW⟩; replace HW := Aside0.mk hW; clear hW; have hcell := HW.out.cell (j := 0) hg.out rfl)
        | (go_at_call 84; refine Calls.mono (list_put w0 _ gf _ _ HW.out g _ _ _ A c _ hg.out (by rfl) HC.out.1 HC.out.2 HF.out.keys.1 HF.out.keys.2 (by decide)) ?_; rintro e w1 ⟨rfl, hW⟩; replace HW := Aside0.mk hW; clear hW; have hcell := HW.out.cell (j := 0) hg.out rfl)
        | (go_at_call 81; go_in))
    all_goals (go_returns; refine ⟨rfl, HX.out _ _ _ HW.out (by decide) ?_⟩; simp [form, HN.out.1, HN.out.2.1, HN.out.2.2])
  all_goals
    go_wp2_with (first
        | (go_at_call 83; refine Calls.mono (num_put w0 _ gf _ _ HW.out g _ _ _ _ hg.out (by rfl) (by first | exact HF.out.kind | exact HF.out.part | exact HF.out.inst | exact HF.out.step | exact HF.out.sort) (by decide)) ?_; rintro e w1 ⟨rfl, hW⟩; replace HW := Aside0.mk hW; clear hW; have hcell := HW.out.cell (j := 0) hg.out rfl)
        | (go_at_call 84; refine Calls.mono (list_put w0 _ gf _ _ HW.out g _ _ _ A c _ hg.out (by rfl) HC.out.1 HC.out.2 HF.out.keys.1 HF.out.keys.2 (by decide)) ?_; rintro e w1 ⟨rfl, hW⟩; replace HW := Aside0.mk hW; clear hW; have hcell := HW.out.cell (j := 0) hg.out rfl)
        | (go_at_call 81; go_in))
    all_goals (go_returns; refine ⟨rfl, HX.out _ _ _ HW.out (by decide) ?_⟩; simp [form])
end Go.Proofs.Ytahonoeiamjgbaa.CdLetter

/- The fields of an event: read, and written. -/
namespace Go.Proofs.Ytahonoeiamjgbaa.CdEvent
open Go.RowKit Go.IntWalk Go.Proofs.Ytahonoeiamjgbaa.G Go.Proofs.YtahonoeiamjgbaaW.PrintWords Go.Proofs.YtahonoeiamjgbaaW.PrintLast Go.Proofs.YtahonoeiamjgbaaW.PrintMore Go.Proofs.Ytahonoeiamjgbaa.CdForm

structure D where
  kind : Int
  inst : Int
  step : Int
  keys : List ByteArray

def nullD : D := ⟨0, 0, 0, []⟩

/-- What is read as the fields from a place on, and the place behind. -/
def rd (s : ByteArray) (a : Int) : Option (D × Int) :=
  num s a fun k a => num s a fun i a =>
    if k = 6 then some (⟨k, i, 0, []⟩, a)
    else num s a fun st a => if k = 1 then list s a fun ks a => some (⟨k, i, st, ks⟩, a) else some (⟨k, i, st, []⟩, a)

theorem kinds (n : Int) : n = 6 ∨ n = 1 ∨ (((n == 6) = false ∧ (n == 1) = false) ∧ ¬ n = 6 ∧ ¬ n = 1) := by
  simp only [beq_eq_false_iff_ne, ne_eq]
  omega

def cells (d : D) (v : Value) : Array Value := #[.int .i64 d.kind, .int .i64 d.inst, .int .i64 d.step, v]

/-- What the reading of an item ends with. -/
def Ends (w0 w : World) (g t : Nat) (gf : Nat) (s : ByteArray) (e : Ending) : Option (D × Int) → Prop
  | none => e = .panicked broken ∧ But2 w0 w g gf
  | some (d, a) => e = .returned (.tuple #[]) ∧ ∃ v, St w0 w g t (cells d v) gf s a ∧ Kd.R Kd.string 9 w w0.heap.size (fun _ => True) v d.keys

theorem Ends.good {w0 w : World} {g t gf : Nat} {s : ByteArray} {d : D} {a : Int} {v : Value} (h : St w0 w g t (cells d v) gf s a) (hk : Kd.R Kd.string 9 w w0.heap.size (fun _ => True) v d.keys) :
    Ends w0 w g t gf s (.returned (.tuple #[])) (some (d, a)) := ⟨rfl, v, h, hk⟩

set_option linter.unusedSimpArgs false in
set_option maxHeartbeats 6000000 in
set_option maxRecDepth 100000 in
theorem fields_read (w : World) (g gf : Nat) (s : ByteArray) (a : Int) (hg : w.heap[g]? = some (.cells (cells nullD (.slice none 0 0)) 82 (0, 0))) (hne : g ≠ gf)
    (hf : FormAt w gf false s a) (hs : s.size ≤ 1000000000000000) :
    Calls Try.prog 108 #[.pointer (some ⟨g, 0, none⟩), .pointer (some ⟨gf, 0, none⟩)] w fun e w' => Ends w w' g 82 gf s e (rd s a) := by
  have HR : Aside0 (rd s a = rd s a) := ⟨rfl⟩
  have HS : Aside0 (St w w g 82 #[.int .i64 0, .int .i64 0, .int .i64 0, .slice none 0 0] gf s a) := ⟨hg, hf, But2.refl _ _ _⟩
  have HK : Aside0 (Kd.R Kd.string 9 w w.heap.size (fun _ => True) (.slice none 0 0) []) := ⟨Kd.R_nil _ _ _ _ _⟩
  replace HR : Aside0 (rd s a = num s a fun k a => num s a fun i a =>
    if k = 6 then some (⟨k, i, 0, []⟩, a)
    else num s a fun st a => if k = 1 then list s a fun ks a => some (⟨k, i, st, ks⟩, a) else some (⟨k, i, st, []⟩, a)) := HR
  generalize rd s a = r at *
  clear hg hf
  go_enter Try.func108, Try.ntmps108
  go_wp2_with fail
  go_at_call 83
  refine Calls.mono (num_step w _ g _ 0 _ _ gf s _ HS.out rfl hne hs) ?_
  rintro e w1 (⟨n, nx, ht, rfl, hS⟩ | ⟨ht, rfl, hB⟩)
  · replace HR := Aside0.mk (HR.out.trans (num_ok ht _))
    simp only [List.setIfInBounds_toArray, List.set_cons_zero, List.set_cons_succ] at hS
    replace HS := Aside0.mk hS
    have hcell := row_cell (j := 0) HS.out.row rfl
    clear ht hS
    rcases kinds n with rfl | rfl | ⟨⟨hk0, hk1⟩, HN0⟩
    rotate_left 2
    · have HN := Aside0.mk HN0
      clear HN0
      go_wp2_with (first
        | (go_at_call 83; refine Calls.mono (num_step w _ g _ _ _ _ gf s _ HS.out (by rfl) hne hs) ?_; rintro e w1 (⟨n, nx, ht, rfl, hS⟩ | ⟨ht, rfl, hB⟩); all_goals (first | (have HBAD := Aside0.mk hB; (first | replace HR := Aside0.mk (HR.out.trans (num_no ht _)) | (have HQ := HR.out; simp [HN.out.1, HN.out.2] at HQ; replace HR := Aside0.mk (HQ.trans (num_no ht _)); clear HQ) | (have HQ := HR.out; simp at HQ; replace HR := Aside0.mk (HQ.trans (num_no ht _)); clear HQ)); clear hB ht) | ((first | replace HR := Aside0.mk (HR.out.trans (num_ok ht _)) | (have HQ := HR.out; simp [HN.out.1, HN.out.2] at HQ; replace HR := Aside0.mk (HQ.trans (num_ok ht _)); clear HQ) | (have HQ := HR.out; simp at HQ; replace HR := Aside0.mk (HQ.trans (num_ok ht _)); clear HQ)); simp only [List.setIfInBounds_toArray, List.set_cons_zero, List.set_cons_succ] at hS; replace HS := Aside0.mk hS; have hcell := row_cell (j := 0) HS.out.row rfl; clear ht hS)))
        | (go_at_call 84; refine Calls.mono (list_step w _ g _ _ _ _ _ _ gf s _ HS.out (by rfl) hne hs) ?_; rintro e w1 (⟨n, nx, v, ht, rfl, hS, hK⟩ | ⟨ht, rfl, hB⟩); all_goals (first | (have HBAD := Aside0.mk hB; (first | replace HR := Aside0.mk (HR.out.trans (list_no ht _)) | (have HQ := HR.out; simp [HN.out.1, HN.out.2] at HQ; replace HR := Aside0.mk (HQ.trans (list_no ht _)); clear HQ) | (have HQ := HR.out; simp at HQ; replace HR := Aside0.mk (HQ.trans (list_no ht _)); clear HQ)); clear hB ht) | ((first | replace HR := Aside0.mk (HR.out.trans (list_ok ht _)) | (have HQ := HR.out; simp [HN.out.1, HN.out.2] at HQ; replace HR := Aside0.mk (HQ.trans (list_ok ht _)); clear HQ) | (have HQ := HR.out; simp at HQ; replace HR := Aside0.mk (HQ.trans (list_ok ht _)); clear HQ)); simp only [List.setIfInBounds_toArray, List.set_cons_zero, List.set_cons_succ] at hS; replace HS := Aside0.mk hS; have hcell := row_cell (j := 0) HS.out.row rfl; clear ht hS; replace HK := Aside0.mk hK; clear hK))))
      all_goals (first | (refine ⟨rfl, ?_⟩; rw [HR.out]; exact ⟨rfl, HBAD.out⟩) | (go_returns; have HQ := HR.out; (try simp [HN.out.1, HN.out.2] at HQ); rw [HQ]; first | exact Ends.good HS.out HK.out | exact Ends.good HS.out (Kd.R_nil _ _ _ _ _)))
    all_goals
      go_wp2_with (first
        | (go_at_call 83; refine Calls.mono (num_step w _ g _ _ _ _ gf s _ HS.out (by rfl) hne hs) ?_; rintro e w1 (⟨n, nx, ht, rfl, hS⟩ | ⟨ht, rfl, hB⟩); all_goals (first | (have HBAD := Aside0.mk hB; (first | replace HR := Aside0.mk (HR.out.trans (num_no ht _)) | (have HQ := HR.out; simp [HN.out.1, HN.out.2] at HQ; replace HR := Aside0.mk (HQ.trans (num_no ht _)); clear HQ) | (have HQ := HR.out; simp at HQ; replace HR := Aside0.mk (HQ.trans (num_no ht _)); clear HQ)); clear hB ht) | ((first | replace HR := Aside0.mk (HR.out.trans (num_ok ht _)) | (have HQ := HR.out; simp [HN.out.1, HN.out.2] at HQ; replace HR := Aside0.mk (HQ.trans (num_ok ht _)); clear HQ) | (have HQ := HR.out; simp at HQ; replace HR := Aside0.mk (HQ.trans (num_ok ht _)); clear HQ)); simp only [List.setIfInBounds_toArray, List.set_cons_zero, List.set_cons_succ] at hS; replace HS := Aside0.mk hS; have hcell := row_cell (j := 0) HS.out.row rfl; clear ht hS)))
        | (go_at_call 84; refine Calls.mono (list_step w _ g _ _ _ _ _ _ gf s _ HS.out (by rfl) hne hs) ?_; rintro e w1 (⟨n, nx, v, ht, rfl, hS, hK⟩ | ⟨ht, rfl, hB⟩); all_goals (first | (have HBAD := Aside0.mk hB; (first | replace HR := Aside0.mk (HR.out.trans (list_no ht _)) | (have HQ := HR.out; simp [HN.out.1, HN.out.2] at HQ; replace HR := Aside0.mk (HQ.trans (list_no ht _)); clear HQ) | (have HQ := HR.out; simp at HQ; replace HR := Aside0.mk (HQ.trans (list_no ht _)); clear HQ)); clear hB ht) | ((first | replace HR := Aside0.mk (HR.out.trans (list_ok ht _)) | (have HQ := HR.out; simp [HN.out.1, HN.out.2] at HQ; replace HR := Aside0.mk (HQ.trans (list_ok ht _)); clear HQ) | (have HQ := HR.out; simp at HQ; replace HR := Aside0.mk (HQ.trans (list_ok ht _)); clear HQ)); simp only [List.setIfInBounds_toArray, List.set_cons_zero, List.set_cons_succ] at hS; replace HS := Aside0.mk hS; have hcell := row_cell (j := 0) HS.out.row rfl; clear ht hS; replace HK := Aside0.mk hK; clear hK))))
      all_goals (first | (refine ⟨rfl, ?_⟩; rw [HR.out]; exact ⟨rfl, HBAD.out⟩) | (go_returns; have HQ := HR.out; (try simp at HQ); rw [HQ]; first | exact Ends.good HS.out HK.out | exact Ends.good HS.out (Kd.R_nil _ _ _ _ _)))
  · replace HR := Aside0.mk (HR.out.trans (num_no ht _))
    have HBAD := Aside0.mk hB
    clear hB ht
    go_wp2_with fail
    refine ⟨rfl, ?_⟩
    rw [HR.out]
    exact ⟨rfl, HBAD.out⟩

/-- The bytes of the fields. -/
def form (d : D) : List UInt8 := en d.kind ++ (en d.inst ++ (if d.kind = 6 then [] else en d.step ++ (if d.kind = 1 then Pk.whole d.keys else [])))

/-- What can be written at all. -/
structure Fits (d : D) : Prop where
  kind : 0 ≤ d.kind ∧ d.kind ≤ 1125899906842624
  inst : 0 ≤ d.inst ∧ d.inst ≤ 1125899906842624
  step : 0 ≤ d.step ∧ d.step ≤ 1125899906842624
  keys : d.keys.length ≤ 4000 ∧ ∀ t ∈ d.keys, t.size ≤ 2000

set_option linter.unusedSimpArgs false in
set_option maxHeartbeats 6000000 in
set_option maxRecDepth 100000 in
theorem fields_write (w0 w : World) (g gf : Nat) (L : List UInt8) (A : Option Addr) (c : Nat) (d : D) (hd : Fits d) (hg0 : w0.heap[g]? = some (.cells (cells d (.slice A d.keys.length c)) 82 (0, 0)))
    (hr : Kd.C Kd.string w0 A d.keys.length d.keys) (hc : d.keys.length ≤ c) (hw : Wr w0 w gf L 1) :
    Calls Try.prog 108 #[.pointer (some ⟨g, 0, none⟩), .pointer (some ⟨gf, 0, none⟩)] w fun e w' => e = .returned (.tuple #[]) ∧ Wr w0 w' gf (L ++ form d) 20 := by
  have HF := Aside0.mk hd
  have HC := Aside0.mk (And.intro hr hc)
  have HW := Aside0.mk hw
  have hg := Aside0.mk hg0
  have hcell := HW.out.cell (j := 0) hg.out rfl
  clear hd hg0 hw hr hc
  obtain ⟨kind, inst, step, keys⟩ := d
  replace hg : Aside0 (w0.heap[g]? = some (.cells #[.int .i64 kind, .int .i64 inst, .int .i64 step, .slice A keys.length c] 82 (0, 0))) := hg
  replace hcell : w.cell? ⟨g, 0, none⟩ = some (.int .i64 kind) := hcell
  have HX : Aside0 (∀ (L' : List UInt8) (w' : World) (k : Nat), Wr w0 w' gf L' k → k ≤ 20 → L' = L ++ form ⟨kind, inst, step, keys⟩ → Wr w0 w' gf (L ++ form ⟨kind, inst, step, keys⟩) 20) := ⟨fun L' w' k h hk he => he ▸ h.more hk⟩
  go_enter Try.func108, Try.ntmps108
  rcases kinds kind with rfl | rfl | ⟨⟨hk0, hk1⟩, HN0⟩
  rotate_left 2
  · have HN := Aside0.mk HN0
    clear HN0
    go_wp2_with (first
        | (go_at_call 83; refine Calls.mono (num_put w0 _ gf _ _ HW.out g _ _ _ _ hg.out (by rfl) (by first | exact HF.out.kind | exact HF.out.inst | exact HF.out.step) (by decide)) ?_; rintro e w1 ⟨rfl, hW⟩; replace HW := Aside0.mk hW; clear hW; have hcell := HW.out.cell (j := 0) hg.out rfl)
        | (go_at_call 84; refine Calls.mono (list_put w0 _ gf _ _ HW.out g _ _ _ A c _ hg.out (by rfl) HC.out.1 HC.out.2 HF.out.keys.1 HF.out.keys.2 (by decide)) ?_; rintro e w1 ⟨rfl, hW⟩; replace HW := Aside0.mk hW; clear hW; have hcell := HW.out.cell (j := 0) hg.out rfl))
    all_goals (go_returns; refine ⟨rfl, HX.out _ _ _ HW.out (by decide) ?_⟩; simp [form, HN.out.1, HN.out.2])
  all_goals
    go_wp2_with (first
        | (go_at_call 83; refine Calls.mono (num_put w0 _ gf _ _ HW.out g _ _ _ _ hg.out (by rfl) (by first | exact HF.out.kind | exact HF.out.inst | exact HF.out.step) (by decide)) ?_; rintro e w1 ⟨rfl, hW⟩; replace HW := Aside0.mk hW; clear hW; have hcell := HW.out.cell (j := 0) hg.out rfl)
        | (go_at_call 84; refine Calls.mono (list_put w0 _ gf _ _ HW.out g _ _ _ A c _ hg.out (by rfl) HC.out.1 HC.out.2 HF.out.keys.1 HF.out.keys.2 (by decide)) ?_; rintro e w1 ⟨rfl, hW⟩; replace HW := Aside0.mk hW; clear hW; have hcell := HW.out.cell (j := 0) hg.out rfl))
    all_goals (go_returns; refine ⟨rfl, HX.out _ _ _ HW.out (by decide) ?_⟩; simp [form])
end Go.Proofs.Ytahonoeiamjgbaa.CdEvent

-- Written by gprint.py, a program of this session, over the kit's print of the loaded functions. Not trusted: Lean checks it.
namespace Go.Proofs.Ytahonoeiamjgbaa.B
open Go.RowKit Go.Proofs.YtahonoeiamjgbaaW.PrintWords Go.Proofs.YtahonoeiamjgbaaW.PrintLast Go.Proofs.YtahonoeiamjgbaaW.PrintMore 
attribute [local go_sem] max2_int min2_int max_two min_two max_three min_three max_four min_four   -- for this text's walks alone
set_option linter.unusedVariables false
set_option linter.unusedSimpArgs false



def errW : Option Int → Value
  | none => .nilIface
  | some c => .iface 0 (.int .i64 c)
theorem errW_none : errW none = .nilIface := rfl
theorem errW_some (c : Int) : errW (some c) = .iface 0 (.int .i64 c) := rfl

-- the values' own types

end Go.Proofs.Ytahonoeiamjgbaa.B

-- Written by gprint.py, a program of this session, over the kit's print of the loaded functions. Not trusted: Lean checks it.
namespace Go.Proofs.Ytahonoeiamjgbaa.B
open Go.RowKit Go.Proofs.YtahonoeiamjgbaaW.PrintWords Go.Proofs.YtahonoeiamjgbaaW.PrintLast Go.Proofs.YtahonoeiamjgbaaW.PrintMore 
attribute [local go_sem] max2_int min2_int max_two min_two max_three min_three max_four min_four   -- for this text's walks alone
set_option linter.unusedVariables false
set_option linter.unusedSimpArgs false

/-! ### codec_between: function 85 -/
def codec_between.f (a0 : Int) (a1 : Int) (a2 : Int) : Option (Bool) := if a1 ≤ a0 then (some (decide (a0 ≤ a2))) else (some false)
set_option maxHeartbeats 8000000 in
set_option maxRecDepth 100000 in
theorem codec_between.calls (a0 : Int) (a1 : Int) (a2 : Int) (r : Bool) (w : World) (h : codec_between.f a0 a1 a2 = some r) :
    Calls Try.prog 85 #[.int .i64 a0, .int .i64 a1, .int .i64 a2] w fun e w' => e = .returned (.bool r) ∧ Drawn0 w w' := by
  have H : (if a1 ≤ a0 then (some (decide (a0 ≤ a2))) else (some false)) = some r := h
  clear h
  by_cases c4 : a1 ≤ a0
  · rw [if_pos c4] at H
    have c4b0 : decide (a1 ≤ a0) = true := decide_eq_true c4
    clear c4
    obtain rfl := Option.some.inj H
    go_enter Try.func85, Try.ntmps85
    go_wp2
    go_ret
    exact ⟨by first | rfl | (simp; done) | (simp [*]; done), by repeat (first | exact Drawn0.refl _ | apply Drawn0.step)⟩
  · rw [if_neg c4] at H
    have c4b0 : decide (a1 ≤ a0) = false := decide_eq_false c4
    clear c4
    obtain rfl := Option.some.inj H
    go_enter Try.func85, Try.ntmps85
    go_wp2
    go_ret
    exact ⟨by first | rfl | (simp; done) | (simp [*]; done), by repeat (first | exact Drawn0.refl _ | apply Drawn0.step)⟩

/-! ### codec_isID: function 86 -/
def codec_isID.f (a0 : Int) : Option (Bool) := (codec_between.f a0 1 60).bind fun t101 => (some t101)
set_option maxHeartbeats 8000000 in
set_option maxRecDepth 100000 in
theorem codec_isID.calls (a0 : Int) (r : Bool) (w : World) (h : codec_isID.f a0 = some r) :
    Calls Try.prog 86 #[.int .i64 a0] w fun e w' => e = .returned (.bool r) ∧ Drawn0 w w' := by
  have H : ((codec_between.f a0 1 60).bind fun t101 => (some t101)) = some r := h
  clear h
  replace H := Option.bind_eq_some_iff.mp H
  obtain ⟨t101, A20, H⟩ := H
  replace H : (some t101) = some r := H
  have A2 := Aside0.mk A20
  clear A20
  obtain rfl := Option.some.inj H
  go_enter Try.func86, Try.ntmps86
  go_wp2_with (first | ((with_reducible refine gate_callee (f := 85) rfl ?_); refine goesL_ (some 4) rfl rfl Try.func85 (by kernel_rfl) rfl #[.int .i64 a0, .int .i64 1, .int .i64 60] rfl (by (try simp only [List.map_toArray, List.map_cons, List.map_nil]); first | done | rfl | (simp only [List.length_drop, List.length_take]; rfl)) ?_; (with_reducible refine (codec_between.calls a0 1 60 t101 _ A2.out).mono ?_); rintro e w' ⟨rfl, ⟨nd, rfl⟩⟩; refine ⟨_, rfl, ?_⟩))
  go_ret
  exact ⟨by first | rfl | (simp; done) | (simp [*]; done), by repeat (first | exact Drawn0.refl _ | apply Drawn0.step)⟩

/-! ### codec_isStep: function 87 -/
def codec_isStep.f (a0 : Int) : Option (Bool) := (codec_between.f a0 0 7).bind fun t102 => (some t102)
set_option maxHeartbeats 8000000 in
set_option maxRecDepth 100000 in
theorem codec_isStep.calls (a0 : Int) (r : Bool) (w : World) (h : codec_isStep.f a0 = some r) :
    Calls Try.prog 87 #[.int .i64 a0] w fun e w' => e = .returned (.bool r) ∧ Drawn0 w w' := by
  have H : ((codec_between.f a0 0 7).bind fun t102 => (some t102)) = some r := h
  clear h
  replace H := Option.bind_eq_some_iff.mp H
  obtain ⟨t102, A20, H⟩ := H
  replace H : (some t102) = some r := H
  have A2 := Aside0.mk A20
  clear A20
  obtain rfl := Option.some.inj H
  go_enter Try.func87, Try.ntmps87
  go_wp2_with (first | ((with_reducible refine gate_callee (f := 85) rfl ?_); refine goesL_ (some 4) rfl rfl Try.func85 (by kernel_rfl) rfl #[.int .i64 a0, .int .i64 0, .int .i64 7] rfl (by (try simp only [List.map_toArray, List.map_cons, List.map_nil]); first | done | rfl | (simp only [List.length_drop, List.length_take]; rfl)) ?_; (with_reducible refine (codec_between.calls a0 0 7 t102 _ A2.out).mono ?_); rintro e w' ⟨rfl, ⟨nd, rfl⟩⟩; refine ⟨_, rfl, ?_⟩))
  go_ret
  exact ⟨by first | rfl | (simp; done) | (simp [*]; done), by repeat (first | exact Drawn0.refl _ | apply Drawn0.step)⟩

/-! ### ledger_mark: function 27 -/
def ledger_mark.f (a0 : Int) : Option (Int) := if a0 = 5 then (some 5) else (some a0)
set_option maxHeartbeats 8000000 in
set_option maxRecDepth 100000 in
theorem ledger_mark.calls (a0 : Int) (r : Int) (w : World) (h : ledger_mark.f a0 = some r) :
    Calls Try.prog 27 #[.int .i64 a0] w fun e w' => e = .returned (.int .i64 r) ∧ Drawn0 w w' := by
  have H : (if a0 = 5 then (some 5) else (some a0)) = some r := h
  clear h
  by_cases c2 : a0 = 5
  · rw [if_pos c2] at H
    have c2b0 : (a0 == 5) = true := beq_iff_eq.mpr c2
    have c2b1 : (a0 != 5) = false := bne_eq_false_iff_eq.mpr c2
    clear c2
    obtain rfl := Option.some.inj H
    go_enter Try.func27, Try.ntmps27
    go_wp2
    go_ret
    exact ⟨by first | rfl | (simp; done) | (simp [*]; done), by repeat (first | exact Drawn0.refl _ | apply Drawn0.step)⟩
  · rw [if_neg c2] at H
    have c2b0 : (a0 == 5) = false := beq_eq_false_iff_ne.mpr c2
    have c2b1 : (a0 != 5) = true := bne_iff_ne.mpr c2
    obtain rfl := Option.some.inj H
    go_enter Try.func27, Try.ntmps27
    go_wp2
    go_ret
    exact ⟨by first | rfl | (simp; done) | (simp [*]; done), by repeat (first | exact Drawn0.refl _ | apply Drawn0.step)⟩

end Go.Proofs.Ytahonoeiamjgbaa.B

/- codec: may of a letter, an event, a note: the walks, by hand. -/
namespace Go.Proofs.Ytahonoeiamjgbaa.CdMay
open Go.RowKit Go.IntWalk Go.Proofs.Ytahonoeiamjgbaa.B Go.Proofs.YtahonoeiamjgbaaW.PrintWords Go.Proofs.YtahonoeiamjgbaaW.PrintLast Go.Proofs.YtahonoeiamjgbaaW.PrintMore Go.Proofs.Ytahonoeiamjgbaa.Tabs Go.Proofs.Ytahonoeiamjgbaa.CdForm Go.Proofs.Ytahonoeiamjgbaa.CdKeys

def btw (n a b : Int) : Bool := decide (a ≤ n) && decide (n ≤ b)
theorem between_f (n a b : Int) : codec_between.f n a b = some (btw n a b) := by
  unfold codec_between.f btw
  by_cases h : a ≤ n <;> simp [h]
theorem between_calls (n a b : Int) (w : World) : Calls Try.prog 85 #[.int .i64 n, .int .i64 a, .int .i64 b] w fun e w' => ∃ nd, e = .returned (.bool (btw n a b)) ∧ w' = w.drewN nd := by
  refine (codec_between.calls n a b _ w (between_f n a b)).mono ?_
  rintro e w' ⟨rfl, nd, rfl⟩
  exact ⟨nd, rfl, rfl⟩
theorem id_calls (n : Int) (w : World) : Calls Try.prog 86 #[.int .i64 n] w fun e w' => ∃ nd, e = .returned (.bool (btw n 1 60)) ∧ w' = w.drewN nd := by
  refine (codec_isID.calls n _ w (by rw [codec_isID.f, between_f]; rfl)).mono ?_
  rintro e w' ⟨rfl, nd, rfl⟩
  exact ⟨nd, rfl, rfl⟩
theorem step_calls (n : Int) (w : World) : Calls Try.prog 87 #[.int .i64 n] w fun e w' => ∃ nd, e = .returned (.bool (btw n 0 7)) ∧ w' = w.drewN nd := by
  refine (codec_isStep.calls n _ w (by rw [codec_isStep.f, between_f]; rfl)).mono ?_
  rintro e w' ⟨rfl, nd, rfl⟩
  exact ⟨nd, rfl, rfl⟩
variable [Tab]

def mayL (d : CdLetter.D) : Bool :=
  (btw d.kind 1 9 && (btw d.part 0 3 && btw d.inst 1 60)) &&
  (if d.kind = 1 then btw d.step 0 7 && (btw d.sort 1 3 && areKeys d.keys)
   else (if d.kind = 3 ∨ d.kind = 9 then decide (d.step = 0) else true) && (btw d.step 0 7 && (decide (d.sort = 0) && ((d.keys.length : Int) == 0))))

set_option linter.unusedSimpArgs false in
set_option maxHeartbeats 2000000 in
set_option maxRecDepth 100000 in
theorem letter_may (w : World) (g : Nat) (A : Option Addr) (c : Nat) (d : CdLetter.D) (hg0 : w.heap[g]? = some (.cells (CdLetter.cells d (.slice A d.keys.length c)) 79 (0, 0)))
    (hr : Kd.C Kd.string w A d.keys.length d.keys) (hs : ∀ t ∈ d.keys, t.size ≤ 9000000000000000000) (hT : Tab.At w) :
    Calls Try.prog 82 #[.pointer (some ⟨g, 0, none⟩)] w fun e w' => e = .returned (.bool (mayL d)) ∧ Below w.heap.size w w' := by
  obtain ⟨kind, part, inst, step, sort, keys⟩ := d
  have hc0 : w.cell? ⟨g, 0, none⟩ = some (.int .i64 kind) := row_cell hg0 rfl
  have hc1 : w.cell? ⟨g, 1, none⟩ = some (.int .i64 part) := row_cell hg0 rfl
  have hc2 : w.cell? ⟨g, 2, none⟩ = some (.int .i64 inst) := row_cell hg0 rfl
  have hc3 : w.cell? ⟨g, 3, none⟩ = some (.int .i64 step) := row_cell hg0 rfl
  have hc4 : w.cell? ⟨g, 4, none⟩ = some (.int .i64 sort) := row_cell hg0 rfl
  have hc5 : w.cell? ⟨g, 5, none⟩ = some (.slice A keys.length c) := row_cell hg0 rfl
  have HR := Aside0.mk (And.intro hr (And.intro hs hT))
  have HM : Aside0 (mayL ⟨kind, part, inst, step, sort, keys⟩ = ((btw kind 1 9 && (btw part 0 3 && btw inst 1 60)) &&
    (if kind = 1 then btw step 0 7 && (btw sort 1 3 && areKeys keys)
     else (if kind = 3 ∨ kind = 9 then decide (step = 0) else true) && (btw step 0 7 && (decide (sort = 0) && ((keys.length : Int) == 0)))))) := ⟨rfl⟩
  generalize mayL ⟨kind, part, inst, step, sort, keys⟩ = r at *
  have HB := Aside0.mk (Below.refl w.heap.size w)
  clear hg0 hr hs hT
  go_enter Try.func82, Try.ntmps82
  rcases CdLetter.kinds kind with rfl | rfl | rfl | ⟨⟨hk3, hk9⟩, hk1, HN0⟩
  rotate_left 3
  · go_wp2_with (first
      | (go_at_call 85; refine (between_calls _ _ _ _).mono ?_; rintro e w1 ⟨nd, rfl, rfl⟩)
      | (go_at_call 86; refine (id_calls _ _).mono ?_; rintro e w1 ⟨nd, rfl, rfl⟩)
      | (go_at_call 87; refine (step_calls _ _).mono ?_; rintro e w1 ⟨nd, rfl, rfl⟩)
      | (go_at_call 81; go_in)
      | (go_at_call 88; refine (keys_calls _ _ _ _ (Kd.C_drewN HR.out.1 _) HR.out.2.1 (Tab.below HR.out.2.2 (pw_below_drewN (Below.refl _ _) _))).mono ?_; rintro e w1 ⟨rfl, hb⟩))
    all_goals (go_ret; refine ⟨congrArg (fun b => Ending.returned (Value.bool b)) ?_, by first | exact ⟨hb.os, hb.tape, hb.output, hb.size, hb.block⟩ | exact pw_below_drewN (Below.refl _ _) _⟩; have HQ := HM.out; clear HM HR HB; clear hc0 hc1 hc2 hc3 hc4 hc5; subst HQ; first | (simp_all; done) | trace_state)
  all_goals
    go_wp2_with (first
      | (go_at_call 85; refine (between_calls _ _ _ _).mono ?_; rintro e w1 ⟨nd, rfl, rfl⟩)
      | (go_at_call 86; refine (id_calls _ _).mono ?_; rintro e w1 ⟨nd, rfl, rfl⟩)
      | (go_at_call 87; refine (step_calls _ _).mono ?_; rintro e w1 ⟨nd, rfl, rfl⟩)
      | (go_at_call 81; go_in)
      | (go_at_call 88; refine (keys_calls _ _ _ _ (Kd.C_drewN HR.out.1 _) HR.out.2.1 (Tab.below HR.out.2.2 (pw_below_drewN (Below.refl _ _) _))).mono ?_; rintro e w1 ⟨rfl, hb⟩))
    all_goals (go_ret; refine ⟨congrArg (fun b => Ending.returned (Value.bool b)) ?_, by first | exact ⟨hb.os, hb.tape, hb.output, hb.size, hb.block⟩ | exact pw_below_drewN (Below.refl _ _) _⟩; have HQ := HM.out; clear HM HR HB; clear hc0 hc1 hc2 hc3 hc4 hc5; subst HQ; first | (simp_all; done) | trace_state)
end Go.Proofs.Ytahonoeiamjgbaa.CdMay

/- codec: may of an event: the walk, by hand. -/
namespace Go.Proofs.Ytahonoeiamjgbaa.CdMay
open Go.RowKit Go.IntWalk Go.Proofs.Ytahonoeiamjgbaa.B Go.Proofs.YtahonoeiamjgbaaW.PrintWords Go.Proofs.YtahonoeiamjgbaaW.PrintLast Go.Proofs.YtahonoeiamjgbaaW.PrintMore Go.Proofs.Ytahonoeiamjgbaa.Tabs Go.Proofs.Ytahonoeiamjgbaa.CdForm Go.Proofs.Ytahonoeiamjgbaa.CdKeys

variable [Tab]
def mayE (d : CdEvent.D) : Bool :=
  (btw d.kind 1 6 && (btw d.inst 1 60 && btw d.step 0 7)) &&
  (if d.kind = 1 then areKeys d.keys else (if d.kind = 6 then decide (d.step = 0) else true) && ((d.keys.length : Int) == 0))

set_option linter.unusedSimpArgs false in
set_option maxHeartbeats 6000000 in
set_option maxRecDepth 100000 in
theorem event_may (w : World) (g : Nat) (A : Option Addr) (c : Nat) (d : CdEvent.D) (hg0 : w.heap[g]? = some (.cells (CdEvent.cells d (.slice A d.keys.length c)) 82 (0, 0)))
    (hr : Kd.C Kd.string w A d.keys.length d.keys) (hs : ∀ t ∈ d.keys, t.size ≤ 9000000000000000000) (hT : Tab.At w) :
    Calls Try.prog 109 #[.pointer (some ⟨g, 0, none⟩)] w fun e w' => e = .returned (.bool (mayE d)) ∧ Below w.heap.size w w' := by
  obtain ⟨kind, inst, step, keys⟩ := d
  have hc0 : w.cell? ⟨g, 0, none⟩ = some (.int .i64 kind) := row_cell hg0 rfl
  have hc1 : w.cell? ⟨g, 1, none⟩ = some (.int .i64 inst) := row_cell hg0 rfl
  have hc2 : w.cell? ⟨g, 2, none⟩ = some (.int .i64 step) := row_cell hg0 rfl
  have hc3 : w.cell? ⟨g, 3, none⟩ = some (.slice A keys.length c) := row_cell hg0 rfl
  have HR := Aside0.mk (And.intro hr (And.intro hs hT))
  have HM : Aside0 (mayE ⟨kind, inst, step, keys⟩ = ((btw kind 1 6 && (btw inst 1 60 && btw step 0 7)) &&
    (if kind = 1 then areKeys keys else (if kind = 6 then decide (step = 0) else true) && ((keys.length : Int) == 0)))) := ⟨rfl⟩
  generalize mayE ⟨kind, inst, step, keys⟩ = r at *
  have HB := Aside0.mk (Below.refl w.heap.size w)
  clear hg0 hr hs hT
  go_enter Try.func109, Try.ntmps109
  rcases CdEvent.kinds kind with rfl | rfl | ⟨⟨hk6, hk1⟩, HN0⟩
  all_goals
    go_wp2_with (first
      | (go_at_call 85; refine (between_calls _ _ _ _).mono ?_; rintro e w1 ⟨nd, rfl, rfl⟩)
      | (go_at_call 86; refine (id_calls _ _).mono ?_; rintro e w1 ⟨nd, rfl, rfl⟩)
      | (go_at_call 87; refine (step_calls _ _).mono ?_; rintro e w1 ⟨nd, rfl, rfl⟩)
      | (go_at_call 88; refine (keys_calls _ _ _ _ (Kd.C_drewN HR.out.1 _) HR.out.2.1 (Tab.below HR.out.2.2 (pw_below_drewN (Below.refl _ _) _))).mono ?_; rintro e w1 ⟨rfl, hb⟩))
    all_goals (go_ret; refine ⟨congrArg (fun b => Ending.returned (Value.bool b)) ?_, by first | exact ⟨hb.os, hb.tape, hb.output, hb.size, hb.block⟩ | exact pw_below_drewN (Below.refl _ _) _⟩; have HQ := HM.out; clear HM HR HB; clear hc0 hc1 hc2 hc3; subst HQ; first | (simp_all; done) | trace_state)
end Go.Proofs.Ytahonoeiamjgbaa.CdMay

/- ledger: what it answers, in plain words; and what the laws ask of it. -/
namespace Go.Proofs.Ytahonoeiamjgbaa.Lg
open Go.Proofs.Ytahonoeiamjgbaa Go.Proofs.Ytahonoeiamjgbaa.Tabs Go.Proofs.Ytahonoeiamjgbaa.CdKeys Go.Proofs.Ytahonoeiamjgbaa.CdMay

/-- How a ledger stands. -/
structure S where
  mark : Int → Int → Int
  freed : Int → Int
  holder : ByteArray → Int
def S.new : S := ⟨fun _ _ => 0, fun _ => 0, fun _ => 0⟩
def nullE : CdEvent.D := ⟨0, 0, 0, []⟩
def nullL : CdLetter.D := ⟨0, 0, 0, 0, 0, []⟩

/-- Is a key among some? -/
def isIn (l : List ByteArray) (k : ByteArray) : Bool := l.any fun x => x.toList == k.toList
/-- Has somebody else one of some keys? -/
def taken (g : S) (inst : Int) (keys : List ByteArray) : Bool := keys.any fun k => decide (g.holder k ≠ 0 ∧ g.holder k ≠ inst)
def doF (g : S) (l : CdLetter.D) (yes : Bool) : Int × Int :=
  if g.mark l.inst l.step = 1 then (0, 4) else if g.mark l.inst l.step = 2 then (0, 5) else if g.mark l.inst l.step = 3 then (0, 6)
  else if g.mark l.inst l.step = 4 ∨ g.mark l.inst l.step = 5 then (0, 7)
  else if g.freed l.inst > 0 then (0, 5)
  else if l.sort = 3 ∧ (taken g l.inst l.keys = true ∨ yes = false) then (0, 8)
  else if taken g l.inst l.keys = true then (3, 6) else if yes = false then (2, 5) else (1, 4)
def undoF (g : S) (l : CdLetter.D) (yes : Bool) : Int × Int :=
  if g.mark l.inst l.step = 1 then (if g.freed l.inst > 0 ∨ yes = false then (0, 8) else (5, 7))
  else if g.mark l.inst l.step = 0 then (if g.freed l.inst > 0 then (0, 7) else (4, 7)) else (0, 7)
def freeF (g : S) (l : CdLetter.D) : Int × Int := if g.freed l.inst > 0 then (0, 9) else (6, 9)

def way (g : S) (l : CdLetter.D) (yes : Bool) : Int × Int := if l.kind = 1 then doF g l yes else if l.kind = 2 then undoF g l yes else freeF g l
/-- The kinds that a letter comes to. -/
theorem way_kinds (g : S) (l : CdLetter.D) (yes : Bool) : (l.kind = 1 ∧ ((way g l yes).1 = 0 ∨ (((way g l yes) = (1, 4) ∧ taken g l.inst l.keys = false ∨ (way g l yes) = (2, 5) ∨ (way g l yes) = (3, 6)) ∧ ¬ g.freed l.inst > 0 ∧ ¬ g.mark l.inst l.step = 1 ∧ ¬ g.mark l.inst l.step = 2 ∧ ¬ g.mark l.inst l.step = 3 ∧ ¬ (g.mark l.inst l.step = 4 ∨ g.mark l.inst l.step = 5)))) ∨
    (l.kind = 2 ∧ ((way g l yes).1 = 0 ∨ ((way g l yes) = (5, 7) ∧ g.mark l.inst l.step = 1 ∧ ¬ g.freed l.inst > 0) ∨ ((way g l yes) = (4, 7) ∧ g.mark l.inst l.step = 0 ∧ ¬ g.freed l.inst > 0))) ∨
    (¬ l.kind = 1 ∧ ¬ l.kind = 2 ∧ ((way g l yes).1 = 0 ∨ ((way g l yes) = (6, 9) ∧ ¬ g.freed l.inst > 0))) := by
  by_cases k1 : l.kind = 1
  · left
    refine ⟨k1, ?_⟩
    unfold way doF
    rw [if_pos k1]
    repeat' split
    all_goals simp_all
  · by_cases k2 : l.kind = 2
    · right; left
      refine ⟨k2, ?_⟩
      unfold way undoF
      rw [if_neg k1, if_pos k2]
      repeat' split
      all_goals simp_all
    · right; right
      refine ⟨k1, k2, ?_⟩
      unfold way freeF
      rw [if_neg k1, if_neg k2]
      split
      all_goals simp_all
def freeS (g : S) (i : Int) : S := ⟨g.mark, fun j => if j = i then g.freed j + 1 else g.freed j, fun k => if g.holder k = i then 0 else g.holder k⟩
def markS (g : S) (e : CdEvent.D) : S :=
  ⟨fun i s => if i = e.inst ∧ s = e.step then e.kind else g.mark i s, g.freed, fun k => if e.kind = 1 ∧ isIn e.keys k = true then e.inst else g.holder k⟩
/-- Marks are marks; whoever has a key may be, and was not let go. -/
structure Inv (g : S) : Prop where
  mark : ∀ i s, 0 ≤ g.mark i s ∧ g.mark i s ≤ 5
  freed : ∀ i, g.freed i = 0 ∨ g.freed i = 1
  holder : ∀ k, g.holder k = 0 ∨ ((1 ≤ g.holder k ∧ g.holder k ≤ 60) ∧ g.freed (g.holder k) = 0)
theorem Inv.new : Inv S.new := ⟨fun _ _ => ⟨Int.le_refl _, by show (0 : Int) ≤ 5; omega⟩, fun _ => Or.inl rfl, fun _ => Or.inl rfl⟩
theorem taken_one (g : S) (inst : Int) (key : ByteArray) : taken g inst [key] = decide (g.holder key ≠ 0 ∧ g.holder key ≠ inst) := by
  simp [taken]
theorem mark_same (g : S) (e : CdEvent.D) : (markS g e).mark e.inst e.step = e.kind := by
  show (if e.inst = e.inst ∧ e.step = e.step then e.kind else _) = _
  rw [if_pos ⟨rfl, rfl⟩]
theorem do_none {g : S} {l : CdLetter.D} {yes : Bool} (h : g.mark l.inst l.step = 0) : doF g l yes = (if g.freed l.inst > 0 then (0, 5) else if l.sort = 3 ∧ (taken g l.inst l.keys = true ∨ yes = false) then (0, 8) else if taken g l.inst l.keys = true then (3, 6) else if yes = false then (2, 5) else (1, 4)) := by
  rw [doF, h]
  simp
variable [Tab]
def askF (g : S) (l : CdLetter.D) (yes : Bool) : CdEvent.D × CdLetter.D × Int :=
  if mayL l = false ∨ l.kind > 3 then (nullE, nullL, 1)
  else (if (way g l yes).1 = 0 then nullE else ⟨(way g l yes).1, l.inst, l.step, if (way g l yes).1 = 1 then l.keys else []⟩, ⟨(way g l yes).2, l.part, l.inst, l.step, 0, []⟩, 0)
def applyF (g : S) (e : CdEvent.D) : S × Int :=
  if mayE e = false then (g, 1)
  else if g.freed e.inst > 0 ∨ (e.kind = 5 ∧ g.mark e.inst e.step ≠ 1) ∨ (e.kind ≠ 5 ∧ e.kind ≠ 6 ∧ g.mark e.inst e.step ≠ 0) then (g, 170)
  else if e.kind = 1 ∧ taken g e.inst e.keys = true then (g, 170)
  else if e.kind = 6 then (freeS g e.inst, 0)
  else (markS g e, 0)

/-! ### what may be -/
theorem mayL_parts {l : CdLetter.D} (h : mayL l = true) : (1 ≤ l.kind ∧ l.kind ≤ 9) ∧ (1 ≤ l.inst ∧ l.inst ≤ 60) ∧ (0 ≤ l.step ∧ l.step ≤ 7) ∧ (l.kind = 1 → areKeys l.keys = true) ∧ (l.kind = 3 → l.step = 0) := by
  obtain ⟨k, p, i, st, so, ks⟩ := l
  simp only [mayL, Bool.and_eq_true] at h
  obtain ⟨⟨h1, h0, h2⟩, h4⟩ := h
  have b : ∀ {n a b : Int}, btw n a b = true → a ≤ n ∧ n ≤ b := fun h => by unfold btw at h; simpa using h
  refine ⟨b h1, b h2, ?_, ?_, ?_⟩
  · by_cases k1 : k = 1
    · simp only [k1, if_true, Bool.and_eq_true] at h4
      exact b h4.1
    · simp only [k1, if_false, Bool.and_eq_true] at h4
      exact b h4.2.1
  · rintro rfl
    simp only [if_true, Bool.and_eq_true] at h4
    exact h4.2.2
  · intro (k3 : k = 3)
    subst k3
    simp at h4
    exact h4.1
theorem mayE_mk {k i st : Int} {ks : List ByteArray} (hk : 1 ≤ k ∧ k ≤ 6) (hi : 1 ≤ i ∧ i ≤ 60) (hs : 0 ≤ st ∧ st ≤ 7) (h1 : k = 1 → areKeys ks = true) (h2 : k ≠ 1 → ks = []) (h6 : k = 6 → st = 0) : mayE ⟨k, i, st, ks⟩ = true := by
  have b : ∀ {n a b : Int}, a ≤ n ∧ n ≤ b → btw n a b = true := fun h => by unfold btw; simpa using h
  unfold mayE
  simp only [b hk, b hi, b hs, Bool.and_self, Bool.true_and]
  by_cases k1 : k = 1
  · rw [if_pos k1]; exact h1 k1
  · rw [if_neg k1, h2 k1]
    by_cases k6 : k = 6
    · simp [k6, h6 k6]
    · simp [k6]
theorem mayE_parts {e : CdEvent.D} (h : mayE e = true) : (1 ≤ e.kind ∧ e.kind ≤ 6) ∧ (1 ≤ e.inst ∧ e.inst ≤ 60) ∧ (0 ≤ e.step ∧ e.step ≤ 7) := by
  obtain ⟨k, i, st, ks⟩ := e
  simp only [mayE, Bool.and_eq_true] at h
  have b : ∀ {n a b : Int}, btw n a b = true → a ≤ n ∧ n ≤ b := fun h => by unfold btw at h; simpa using h
  exact ⟨b h.1.1, b h.1.2.1, b h.1.2.2⟩

/-! ### what Ask says -/
/-- The event of a letter, its kind told. -/
def evOf (l : CdLetter.D) (k : Int) : CdEvent.D := ⟨k, l.inst, l.step, if k = 1 then l.keys else []⟩
theorem ask_cases (g : S) (l : CdLetter.D) (yes : Bool) : (askF g l yes = (nullE, nullL, 1)) ∨
    (mayL l = true ∧ (l.kind = 1 ∨ l.kind = 2 ∨ l.kind = 3) ∧ askF g l yes = (if (way g l yes).1 = 0 then nullE else evOf l (way g l yes).1, ⟨(way g l yes).2, l.part, l.inst, l.step, 0, []⟩, 0)) := by
  by_cases h : mayL l = false ∨ l.kind > 3
  · left; rw [askF, if_pos h]
  · right
    have hm : mayL l = true := by simp only [not_or, Bool.not_eq_false] at h; exact h.1
    have hk : ¬ l.kind > 3 := fun x => h (Or.inr x)
    have hp := (mayL_parts hm).1
    refine ⟨hm, by omega, ?_⟩
    rw [askF, if_neg h]
    rfl

/-! ### LedgerMarks -/
theorem marks_step (g : S) (e : CdEvent.D) (i s : Int) :
    ((applyF g e).1.mark i s = g.mark i s ∨ (¬ g.freed i > 0 ∧ ((g.mark i s = 0 ∧ (applyF g e).1.mark i s ≠ 5) ∨ (g.mark i s = 1 ∧ (applyF g e).1.mark i s = 5)))) ∧
    (g.freed i > 0 → (applyF g e).1.freed i > 0) := by
  unfold applyF
  split
  · exact ⟨Or.inl rfl, id⟩
  · split
    · exact ⟨Or.inl rfl, id⟩
    · rename_i hm hf
      simp only [not_or, not_and] at hf
      obtain ⟨f1, f2, f3⟩ := hf
      split
      · exact ⟨Or.inl rfl, id⟩
      · split
        · refine ⟨Or.inl rfl, fun h => ?_⟩
          show (if i = e.inst then g.freed i + 1 else g.freed i) > 0
          split <;> omega
        · rename_i h6
          refine ⟨?_, id⟩
          show (if i = e.inst ∧ s = e.step then e.kind else g.mark i s) = g.mark i s ∨ (¬ g.freed i > 0 ∧ ((g.mark i s = 0 ∧ (if i = e.inst ∧ s = e.step then e.kind else g.mark i s) ≠ 5) ∨ (g.mark i s = 1 ∧ (if i = e.inst ∧ s = e.step then e.kind else g.mark i s) = 5)))
          by_cases h : i = e.inst ∧ s = e.step
          · obtain ⟨rfl, rfl⟩ := h
            rw [if_pos ⟨rfl, rfl⟩]
            right
            refine ⟨f1, ?_⟩
            by_cases h5 : e.kind = 5
            · have := f2 h5
              right
              exact ⟨Classical.not_not.1 this, h5⟩
            · have := f3 h5 h6
              left
              exact ⟨Classical.not_not.1 this, h5⟩
          · rw [if_neg h]
            exact Or.inl rfl

/-! ### LedgerOnce -/
theorem Inv.apply {g : S} (h : Inv g) (e : CdEvent.D) : Inv (applyF g e).1 := by
  unfold applyF
  split
  · exact h
  · rename_i hm
    have hp := mayE_parts (e := e) (by simpa using hm)
    split
    · exact h
    · rename_i hf
      simp only [not_or] at hf
      split
      · exact h
      · split
        · refine ⟨h.mark, fun i => ?_, fun k => ?_⟩
          · show (if i = e.inst then g.freed i + 1 else g.freed i) = 0 ∨ (if i = e.inst then g.freed i + 1 else g.freed i) = 1
            have := h.freed i
            have := h.freed e.inst
            by_cases hi : i = e.inst
            · subst hi; rw [if_pos rfl]; omega
            · rw [if_neg hi]; assumption
          · show (if g.holder k = e.inst then 0 else g.holder k) = 0 ∨ ((1 ≤ (if g.holder k = e.inst then 0 else g.holder k) ∧ (if g.holder k = e.inst then 0 else g.holder k) ≤ 60) ∧ (if (if g.holder k = e.inst then 0 else g.holder k) = e.inst then g.freed (if g.holder k = e.inst then 0 else g.holder k) + 1 else g.freed (if g.holder k = e.inst then 0 else g.holder k)) = 0)
            by_cases hi : g.holder k = e.inst
            · rw [if_pos hi]; exact Or.inl rfl
            · rw [if_neg hi, if_neg hi]; exact h.holder k
        · rename_i h6
          refine ⟨fun i s => ?_, h.freed, fun k => ?_⟩
          · show 0 ≤ (if i = e.inst ∧ s = e.step then e.kind else g.mark i s) ∧ (if i = e.inst ∧ s = e.step then e.kind else g.mark i s) ≤ 5
            split
            · omega
            · exact h.mark i s
          · show (if e.kind = 1 ∧ isIn e.keys k = true then e.inst else g.holder k) = 0 ∨ ((1 ≤ (if e.kind = 1 ∧ isIn e.keys k = true then e.inst else g.holder k) ∧ (if e.kind = 1 ∧ isIn e.keys k = true then e.inst else g.holder k) ≤ 60) ∧ g.freed (if e.kind = 1 ∧ isIn e.keys k = true then e.inst else g.holder k) = 0)
            split
            · right
              refine ⟨hp.2.1, ?_⟩
              have := h.freed e.inst
              have := hf.1
              omega
            · exact h.holder k

theorem ask_of {g : S} {l : CdLetter.D} {v : Bool} {r : Int} (hm : mayL l = true) (hk : l.kind = 1 ∨ l.kind = 2 ∨ l.kind = 3) (hw : way g l v = (0, r)) : askF g l v = (nullE, ⟨r, l.part, l.inst, l.step, 0, []⟩, 0) := by
  rw [askF, if_neg (by rw [hm]; simp; omega), hw]
  rfl
theorem apply_mark {g : S} {e : CdEvent.D} (hm : mayE e = true) (hf : ¬ g.freed e.inst > 0) (h5 : e.kind = 5 → g.mark e.inst e.step = 1) (h0 : e.kind ≠ 5 → g.mark e.inst e.step = 0) (h6 : e.kind ≠ 6) (ht : e.kind = 1 → taken g e.inst e.keys = false) :
    applyF g e = (markS g e, 0) := by
  rw [applyF, if_neg (by rw [hm]; simp), if_neg, if_neg, if_neg h6]
  · rintro ⟨h1, h2⟩; rw [ht h1] at h2; cases h2
  · rintro (h | ⟨h, h'⟩ | ⟨h, _, h'⟩)
    · exact hf h
    · exact h' (h5 h)
    · exact h' (h0 h)
theorem once (g : S) (hI : Inv g) (l : CdLetter.D) (yes : Bool) : ((askF g l yes).1.kind = 0) ∨ ((askF g l yes).2.2 = 0 ∧ (applyF g (askF g l yes).1).2 = 0 ∧
    ∀ v, askF (applyF g (askF g l yes).1).1 l v = (nullE, (askF g l yes).2.1, 0)) := by
  rcases ask_cases g l yes with h | ⟨hm, hk, h⟩
  · left; rw [h]; rfl
  · rw [h]
    by_cases hz : (way g l yes).1 = 0
    · left; simp only [hz, if_true]; rfl
    · right
      simp only [if_neg hz]
      refine ⟨trivial, ?_⟩
      have hp := mayL_parts hm
      have hmk := hI.mark l.inst l.step
      rcases way_kinds g l yes with ⟨k1, w | ⟨w, hf, m1, m2, m3, m4⟩⟩ | ⟨k2, w | ⟨w, m1, hf⟩ | ⟨w, m0, hf⟩⟩ | ⟨n1, n2, w | ⟨w, hf⟩⟩
      · exact absurd w hz
      · have m0 : g.mark l.inst l.step = 0 := by omega
        have key : ∀ (k r : Int), (k = 1 ∧ r = 4) ∨ (k = 2 ∧ r = 5) ∨ (k = 3 ∧ r = 6) → (k = 1 → taken g l.inst l.keys = false) →
            (applyF g (evOf l k)).2 = 0 ∧ ∀ v, askF (applyF g (evOf l k)).1 l v = (nullE, ⟨r, l.part, l.inst, l.step, 0, []⟩, 0) := by
          intro k r hkr ht
          have hE : mayE (evOf l k) = true := mayE_mk (by omega) hp.2.1 hp.2.2.1 (fun h => by simp only [h, if_true]; exact hp.2.2.2.1 k1) (fun h => by simp only [if_neg h]) (fun h => by omega)
          have ha : applyF g (evOf l k) = (markS g (evOf l k), 0) := apply_mark hE hf (fun h => by have : k = 5 := h; omega) (fun _ => m0) (fun h => by have : k = 6 := h; omega) (fun h => by
            have h1 : k = 1 := h
            subst h1
            exact ht rfl)
          rw [ha]
          refine ⟨rfl, fun v => ask_of hm hk ?_⟩
          have hs : (markS g (evOf l k)).mark l.inst l.step = k := mark_same g (evOf l k)
          unfold way doF
          rw [if_pos k1, hs]
          rcases hkr with ⟨rfl, rfl⟩ | ⟨rfl, rfl⟩ | ⟨rfl, rfl⟩ <;> simp
        rcases w with ⟨w, ht⟩ | w | w
        · rw [w]; exact key 1 4 (by omega) (fun _ => ht)
        · rw [w]; exact key 2 5 (by omega) (fun h => by omega)
        · rw [w]; exact key 3 6 (by omega) (fun h => by omega)
      · exact absurd w hz
      · rw [w]
        have hE : mayE (evOf l 5) = true := mayE_mk (by omega) hp.2.1 hp.2.2.1 (fun h => by omega) (fun _ => rfl) (fun h => by omega)
        have ha : applyF g (evOf l 5) = (markS g (evOf l 5), 0) := apply_mark hE hf (fun _ => m1) (fun h => absurd rfl h) (fun h => by have : (5 : Int) = 6 := h; omega) (fun h => by have : (5 : Int) = 1 := h; omega)
        show (applyF g (evOf l 5)).2 = 0 ∧ _
        simp only
        rw [ha]
        refine ⟨rfl, fun v => ask_of hm hk ?_⟩
        have hs : (markS g (evOf l 5)).mark l.inst l.step = 5 := mark_same g (evOf l 5)
        unfold way undoF
        rw [if_neg (by omega), if_pos k2, hs]
        simp
      · rw [w]
        have hE : mayE (evOf l 4) = true := mayE_mk (by omega) hp.2.1 hp.2.2.1 (fun h => by omega) (fun _ => rfl) (fun h => by omega)
        have ha : applyF g (evOf l 4) = (markS g (evOf l 4), 0) := apply_mark hE hf (fun h => by have : (4 : Int) = 5 := h; omega) (fun _ => m0) (fun h => by have : (4 : Int) = 6 := h; omega) (fun h => by have : (4 : Int) = 1 := h; omega)
        simp only
        rw [ha]
        refine ⟨rfl, fun v => ask_of hm hk ?_⟩
        have hs : (markS g (evOf l 4)).mark l.inst l.step = 4 := mark_same g (evOf l 4)
        unfold way undoF
        rw [if_neg (by omega), if_pos k2, hs]
        simp
      · exact absurd w hz
      · rw [w]
        have k3 : l.kind = 3 := by omega
        have hE : mayE (evOf l 6) = true := mayE_mk (by omega) hp.2.1 hp.2.2.1 (fun h => by omega) (fun _ => rfl) (fun _ => hp.2.2.2.2 k3)
        have ha : applyF g (evOf l 6) = (freeS g l.inst, 0) := by
          rw [applyF, if_neg (by rw [hE]; simp), if_neg, if_neg, if_pos (show (evOf l 6).kind = 6 from rfl)]
          · rfl
          · rintro ⟨h1, _⟩
            have : (6 : Int) = 1 := h1
            omega
          · rintro (h | ⟨h, _⟩ | ⟨_, h, _⟩)
            · exact hf h
            · have : (6 : Int) = 5 := h; omega
            · exact h rfl
        simp only
        rw [ha]
        refine ⟨rfl, fun v => ask_of hm hk ?_⟩
        have hs : (freeS g l.inst).freed l.inst = g.freed l.inst + 1 := by
          show (if l.inst = l.inst then g.freed l.inst + 1 else _) = _
          rw [if_pos rfl]
        have := hI.freed l.inst
        unfold way freeF
        rw [if_neg n1, if_neg n2, hs, if_pos (by omega)]

/-! ### LedgerKeys -/
def lK (key : ByteArray) (inst : Int) : CdLetter.D := ⟨1, 0, inst, 7, 1, [key]⟩
theorem keys (g : S) (hI : Inv g) (key : ByteArray) (inst : Int) :
    (askF g (lK key inst) true).2.2 ≠ 0 ∨ g.holder key = 0 ∨ g.holder key = inst ∨ g.mark inst 7 ≠ 0 ∨ g.freed inst > 0 ∨
    ((askF g (lK key inst) true).1.kind = 3 ∧ (askF g (lK key inst) true).2.1.kind = 6 ∧ applyF g ⟨1, inst, 7, [key]⟩ = (g, 170) ∧ applyF g ⟨6, g.holder key, 0, []⟩ = (freeS g (g.holder key), 0) ∧
      (freeS g (g.holder key)).holder key = 0 ∧ (askF (freeS g (g.holder key)) (lK key inst) true).1.kind = 1 ∧ (askF (freeS g (g.holder key)) (lK key inst) true).2.2 = 0) := by
  by_cases h0 : g.holder key = 0
  · exact Or.inr (Or.inl h0)
  by_cases h1 : g.holder key = inst
  · exact Or.inr (Or.inr (Or.inl h1))
  by_cases h2' : g.mark inst 7 ≠ 0
  · exact Or.inr (Or.inr (Or.inr (Or.inl h2')))
  have h2 : g.mark inst 7 = 0 := Classical.not_not.1 h2'
  by_cases h3 : g.freed inst > 0
  · exact Or.inr (Or.inr (Or.inr (Or.inr (Or.inl h3))))
  rcases ask_cases g (lK key inst) true with h | ⟨hm, hk, h⟩
  · left; rw [h]; simp
  have ht : taken g inst [key] = true := by rw [taken_one]; exact decide_eq_true ⟨h0, h1⟩
  have hw : way g (lK key inst) true = (3, 6) := by
    have ht' : taken g (lK key inst).inst (lK key inst).keys = true := ht
    rw [way, if_pos (show (lK key inst).kind = 1 from rfl), do_none h2, if_neg (show ¬ g.freed (lK key inst).inst > 0 from h3), if_neg (fun x => absurd (show (1 : Int) = 3 from x.1) (by decide)), if_pos ht']
  have hp := mayL_parts hm
  have hh := hI.holder key
  have hE : mayE ⟨1, inst, 7, [key]⟩ = true := mayE_mk (by omega) hp.2.1 (by omega) (fun _ => hp.2.2.2.1 rfl) (fun h => absurd rfl h) (fun h => by omega)
  have hF : mayE ⟨6, g.holder key, 0, []⟩ = true := mayE_mk (by omega) (by omega) (by omega) (fun h => by omega) (fun _ => rfl) (fun _ => rfl)
  refine Or.inr (Or.inr (Or.inr (Or.inr (Or.inr ⟨?_, ?_, ?_, ?_, ?_, ?_⟩))))
  · rw [h, hw]; rfl
  · rw [h, hw]
  · rw [applyF, if_neg (by rw [hE]; simp), if_neg, if_pos]
    · exact ⟨rfl, ht⟩
    · rintro (h | ⟨h, _⟩ | ⟨_, _, h⟩)
      · exact h3 h
      · have : (1 : Int) = 5 := h; omega
      · exact h h2
  · rw [applyF, if_neg (by rw [hF]; simp), if_neg, if_neg, if_pos rfl]
    · rintro ⟨h, _⟩
      have : (6 : Int) = 1 := h
      omega
    · rintro (h | ⟨h, _⟩ | ⟨_, h, _⟩)
      · have : g.freed (g.holder key) > 0 := h
        omega
      · have : (6 : Int) = 5 := h; omega
      · exact h rfl
  · show (if g.holder key = g.holder key then 0 else _) = _
    rw [if_pos rfl]
  · have hw2 : way (freeS g (g.holder key)) (lK key inst) true = (1, 4) := by
      have ht2 : taken (freeS g (g.holder key)) inst [key] = false := by
        rw [taken_one]
        have : (freeS g (g.holder key)).holder key = 0 := by
          show (if g.holder key = g.holder key then 0 else _) = _
          rw [if_pos rfl]
        exact decide_eq_false (fun x => x.1 this)
      have hf2 : (freeS g (g.holder key)).freed inst = g.freed inst := by
        show (if inst = g.holder key then _ else g.freed inst) = _
        rw [if_neg (fun h => h1 h.symm)]
      have h2' : (freeS g (g.holder key)).mark (lK key inst).inst (lK key inst).step = 0 := h2
      have hf' : ¬ (freeS g (g.holder key)).freed (lK key inst).inst > 0 := by
        show ¬ (freeS g (g.holder key)).freed inst > 0
        rw [hf2]; exact h3
      have ht' : ¬ taken (freeS g (g.holder key)) (lK key inst).inst (lK key inst).keys = true := by
        show ¬ taken (freeS g (g.holder key)) inst [key] = true
        rw [ht2]; decide
      rw [way, if_pos (show (lK key inst).kind = 1 from rfl), do_none h2', if_neg hf', if_neg (fun x => absurd (show (1 : Int) = 3 from x.1) (by decide)), if_neg ht', if_neg (by decide)]
    have h4 : askF (freeS g (g.holder key)) (lK key inst) true = (evOf (lK key inst) 1, ⟨4, 0, inst, 7, 0, []⟩, 0) := by
      rw [askF, if_neg (by rw [hm]; simp [lK]), hw2]
      rfl
    rw [h4]
    exact ⟨rfl, rfl⟩

/-! ### scripts -/
structure Op where
  do_ : Int
  l : CdLetter.D
  yes : Bool
  e : CdEvent.D
/-- A ledger behind a call of a script. -/
def playOp (g : S) (o : Op) : S :=
  if o.do_ = 2 then (applyF g o.e).1
  else if (askF g o.l o.yes).2.2 = 0 ∧ (askF g o.l o.yes).1.kind ≠ 0 ∧ o.do_ = 0 then (applyF g (askF g o.l o.yes).1).1 else g
def played (l : List Op) : S := l.foldl playOp S.new
theorem Inv.play {g : S} (h : Inv g) (o : Op) : Inv (playOp g o) := by
  unfold playOp
  split
  · exact h.apply _
  · split
    · exact h.apply _
    · exact h
theorem Inv.plays : ∀ (l : List Op) (g : S), Inv g → Inv (l.foldl playOp g)
  | [], _, h => h
  | o :: l, _, h => Inv.plays l _ (h.play o)
theorem Inv.played (l : List Op) : Inv (played l) := Inv.plays l _ Inv.new
/-- .. and of the marks' law, which applies whatever comes. -/
def markOp (g : S) (o : Op) : S := (applyF g (if o.do_ = 2 then o.e else (askF g o.l o.yes).1)).1
theorem Inv.markOp {g : S} (h : Inv g) (o : Op) : Inv (markOp g o) := h.apply _
/-- What may come of a mark. -/
def okMark (was m : Int) (freed : Bool) : Bool := !(decide (m ≠ was) && (freed || (!(decide (was = 0) && decide (m ≠ 5)) && !(decide (was = 1) && decide (m = 5)))))
theorem marks_ok (g : S) (o : Op) (i s : Int) : okMark (g.mark i s) ((markOp g o).mark i s) (decide (g.freed i > 0)) = true ∧ (g.freed i > 0 → (markOp g o).freed i > 0) := by
  obtain ⟨h1, h2⟩ := marks_step g (if o.do_ = 2 then o.e else (askF g o.l o.yes).1) i s
  refine ⟨?_, h2⟩
  unfold markOp okMark
  rcases h1 with h | ⟨hf, ⟨h0, h5⟩ | ⟨h1, h5⟩⟩
  · simp [h]
  · simp [hf, h0, h5]
  · simp [hf, h1, h5]
end Go.Proofs.Ytahonoeiamjgbaa.Lg

/- How a ledger stands in a world; Mark, Freed, Holder: the walks, by hand. -/
namespace Go.Proofs.Ytahonoeiamjgbaa.LgAt
open Go.RowKit Go.IntWalk Go.Maps Go.Proofs.YtahonoeiamjgbaaW.PrintWords Go.Proofs.Ytahonoeiamjgbaa.LgMaps Go.Proofs.Ytahonoeiamjgbaa.LgLocks Go.Proofs.Ytahonoeiamjgbaa.CdForm Go.Proofs.Ytahonoeiamjgbaa.Lg

theorem lawI : Keyed Try.prog 3 := int_keyed Try.underlying3
theorem keyI {i : Int} (h : (Lit.int .i64 i).wf = true) : keyOf Try.prog 3 (.int .i64 i) = some (.int .i64 i) := by
  simp [keyOf, mapKey, Try.underlying3, h]
def kp (i s : Int) : Lit := .string (keyBytes [.int .i64 i, .int .i64 s])
def ent (m : Int) (v : Value) : Value := .agg #[.int .i64 m, v]
def zent : Value := ent 0 (.slice none 0 0)
theorem zeroE (w : World) : (zeroValue 67).run Try.prog w = .ok zent w := by kernel_rfl
theorem fieldE (m : Int) (A : Option Addr) (n c : Nat) (w : World) : (Instr.field 67 (.agg #[.int .i64 m, .slice A n c]) 0).run Try.prog w = .ok (.int .i64 m) w := by kernel_rfl
abbrev wf (i : Int) : Prop := (Lit.int .i64 i).wf = true

/-- Where a ledger's parts lie: its maps' blocks, what they read as; how many entries they may have; the blocks of its keys. -/
structure Dat where
  ba : Nat
  bb : Nat
  bl : Nat
  bh : Nat
  n : Nat
  D1 : DataW Value
  D2 : DataW Value
  D3 : DataW Value
/-- A ledger. -/
structure At (w : World) (p : Nat) (d : Dat) (g : S) : Prop where
  row : w.heap[p]? = some (.cells #[.map (some d.ba), .map (some d.bb), .pointer (some ⟨d.bl, 0, none⟩)] 62 (0, 0))
  table : w.heap[d.bl]? = some (.cells #[.map (some d.bh)] 88 (0, 0))
  steps : w.ownsMap Try.prog 65 raw d.ba d.n d.D1
  frees : w.ownsMap Try.prog 3 raw d.bb d.n d.D2
  locks : w.ownsMap Try.prog 9 raw d.bh d.n d.D3
  ne : d.ba ≠ d.bb ∧ d.ba ≠ d.bh ∧ d.bb ≠ d.bh
  mark : ∀ i s, wf i → wf s → ∃ A n c, val d.D1 (kp i s) zent = ent (g.mark i s) (.slice A n c)
  freed : ∀ i, wf i → val d.D2 (.int .i64 i) (.int .i64 0) = .int .i64 (g.freed i)
  holder : ∀ k : ByteArray, k.size ≤ maxLen → val d.D3 (keyL k) (.int .i64 0) = .int .i64 (g.holder k)
  held : ∀ k : ByteArray, k.size ≤ maxLen → Maps.has d.D3 (keyL k) = true → g.holder k ≠ 0
/-- A block is one of a ledger's. -/
def Dat.own (d : Dat) (p k : Nat) : Prop := k = p ∨ k = d.ba ∨ k = d.bb ∨ k = d.bl ∨ k = d.bh
theorem ownsMap_move {P : Program} {k b n : Nat} {R : Value → Option (DataW Value × List MemPlace)} {D : DataW Value} {w w' : World} (h : w.ownsMap P k R b n D) (he : w'.heap[b]? = w.heap[b]?) : w'.ownsMap P k R b n D := by
  obtain ⟨es, clock, hb, r⟩ := h
  exact ⟨es, clock, he.trans hb, r⟩
theorem At.move {w w' : World} {p : Nat} {d : Dat} {g : S} (h : At w p d g) (he : ∀ k, d.own p k → k < w.heap.size → w'.heap[k]? = w.heap[k]?) : At w' p d g where
  row := (he p (.inl rfl) (Array.getElem?_eq_some_iff.1 h.row).1).trans h.row
  table := (he d.bl (.inr (.inr (.inr (.inl rfl)))) (Array.getElem?_eq_some_iff.1 h.table).1).trans h.table
  steps := ownsMap_move h.steps (he d.ba (.inr (.inl rfl)) h.steps.lt)
  frees := ownsMap_move h.frees (he d.bb (.inr (.inr (.inl rfl))) h.frees.lt)
  locks := ownsMap_move h.locks (he d.bh (.inr (.inr (.inr (.inr rfl)))) h.locks.lt)
  ne := h.ne
  mark := h.mark
  freed := h.freed
  holder := h.holder
  held := h.held
theorem At.below {w w' : World} {p : Nat} {d : Dat} {g : S} (h : At w p d g) (hb : Below w.heap.size w w') : At w' p d g := h.move fun k _ hk => hb.block k hk
theorem At.cell0 {w : World} {p : Nat} {d : Dat} {g : S} (h : At w p d g) : w.cell? ⟨p, 0, none⟩ = some (.map (some d.ba)) := row_cell h.row rfl
theorem At.cell1 {w : World} {p : Nat} {d : Dat} {g : S} (h : At w p d g) : w.cell? ⟨p, 1, none⟩ = some (.map (some d.bb)) := row_cell h.row rfl
theorem At.cell2 {w : World} {p : Nat} {d : Dat} {g : S} (h : At w p d g) : w.cell? ⟨p, 2, none⟩ = some (.pointer (some ⟨d.bl, 0, none⟩)) := row_cell h.row rfl

set_option maxRecDepth 100000 in
theorem mark_calls (w : World) (p : Nat) (d : Dat) (g : S) (i s : Int) (h : At w p d g) (hi : wf i) (hs : wf s) :
    Calls Try.prog 12 #[.pointer (some ⟨p, 0, none⟩), .int .i64 i, .int .i64 s] w fun e w' => e = .returned (.int .i64 (g.mark i s)) ∧ w' = w := by
  obtain ⟨A, n, c, hv⟩ := h.mark i s hi hs
  have hlook := mlook h.steps LgKeyP.lawP Try.underlying58 (zeroE w) (LgKeyP.keyP hi hs)
  rw [show (Lit.string (keyBytes [.int .i64 i, .int .i64 s]) : Lit) = kp i s from rfl, hv, ent] at hlook
  have hc0 := h.cell0
  have hfe := fieldE (g.mark i s) A n c w
  clear hv h
  generalize g.mark i s = m at *
  go_enter Try.func12, Try.ntmps12
  go_wp2
  go_returns
  exact ⟨rfl, rfl⟩
set_option maxRecDepth 100000 in
theorem freed_calls (w : World) (p : Nat) (d : Dat) (g : S) (i : Int) (h : At w p d g) (hi : wf i) :
    Calls Try.prog 13 #[.pointer (some ⟨p, 0, none⟩), .int .i64 i] w fun e w' => e = .returned (.bool (decide (g.freed i > 0))) ∧ w' = w := by
  have hv := h.freed i hi
  have hlook := mlook h.frees lawI Try.underlying59 (zeroI w) (keyI hi)
  rw [hv] at hlook
  have hc1 := h.cell1
  clear hv h
  generalize g.freed i = m at *
  go_enter Try.func13, Try.ntmps13
  go_wp2
  go_returns
  exact ⟨rfl, rfl⟩
theorem lholder_calls (w : World) (p : Nat) (d : Dat) (g : S) (k : ByteArray) (h : At w p d g) (hk : k.size ≤ maxLen) :
    Calls Try.prog 30 #[.pointer (some ⟨d.bl, 0, none⟩), .string k] w fun e w' => e = .returned (.int .i64 (g.holder k)) ∧ w' = w := by
  have h1 := holder_calls w d.bl d.bh d.n d.D3 k h.table h.locks hk
  rw [h.holder k hk] at h1
  exact h1
set_option maxRecDepth 100000 in
theorem holder_calls (w : World) (p : Nat) (d : Dat) (g : S) (k : ByteArray) (h : At w p d g) (hk : k.size ≤ maxLen) :
    Calls Try.prog 11 #[.pointer (some ⟨p, 0, none⟩), .string k] w fun e w' => e = .returned (.int .i64 (g.holder k)) ∧ w' = w := by
  have h1 := lholder_calls w p d g k h hk
  have hc2 := h.cell2
  clear h
  generalize g.holder k = m at *
  go_enter Try.func11, Try.ntmps11
  go_wp2_with (first | (go_at_call 30; refine h1.mono ?_; rintro e w1 ⟨rfl, rfl⟩))
  go_returns
  exact ⟨rfl, rfl⟩
end Go.Proofs.Ytahonoeiamjgbaa.LgAt

/- slices.IndexFunc, ContainsFunc, Clone over strings: the walks, by hand. -/
namespace Go.Proofs.Ytahonoeiamjgbaa.LgSl
open Go.RowKit Go.IntWalk Go.Proofs.YtahonoeiamjgbaaW.PrintWords

/-- What a function value tells of some strings, whatever has come since. -/
def Tells (w : World) (g : Nat) (lb : Array Value) (p : ByteArray → Bool) (ks : List ByteArray) : Prop :=
  ∀ (W : World) (k : ByteArray), k ∈ ks → Below w.heap.size w W → Calls Try.prog g (#[.string k] ++ lb) W fun e w' => e = .returned (.bool (p k)) ∧ Below W.heap.size W w'
/-- Where the first one is of which it is true; behind a place. -/
def idxF (p : ByteArray → Bool) : Nat → List ByteArray → Int
  | _, [] => -1
  | i, k :: l => if p k = true then (i : Int) else idxF p (i + 1) l
theorem idxF_any (p : ByteArray → Bool) : ∀ (i : Nat) (l : List ByteArray), decide (0 ≤ idxF p i l) = l.any p
  | _, [] => rfl
  | i, k :: l => by
    unfold idxF
    rw [List.any_cons]
    cases p k
    · simpa using idxF_any p (i + 1) l
    · simp

set_option maxHeartbeats 1000000 in
set_option maxRecDepth 100000 in
theorem index_calls (g : Nat) (lb : Array Value) (p : ByteArray → Bool) (ks : List ByteArray) (A : Option Addr) (c : Nat) (w : World) (eg : ∀ args w, (callFunc g args).run Try.prog w = .ok (.enter g args) w)
    (hp : Tells w g lb p ks) (hr : Kd.C Kd.string w A ks.length ks) (hl : ks.length ≤ 9000000000000000000) :
    Calls Try.prog 44 #[.slice A ks.length c, .func (.func g) #[] lb] w fun e w' => e = .returned (.int .i64 (idxF p 0 ks)) ∧ Below w.heap.size w w' := by
  have HR := Aside0.mk hr
  have HP := Aside0.mk hp
  have HB := Aside0.mk (Below.refl w.heap.size w)
  clear hr hp
  have hk : idxF p 0 ks = idxF p 0 (ks.drop 0) := by simp
  have HK := Aside0.mk hk
  clear hk
  go_enter Try.func44, Try.ntmps44
  go_wp2
  go_loopw [5, 8] (fun _ v8 wr => ∃ i : Nat, i ≤ ks.length ∧ v8 = .int .i64 (i : Int) ∧ idxF p 0 ks = idxF p i (ks.drop i) ∧ Below w.heap.size w wr) (fun _ v8 _ => ks.length - (intOf v8).toNat)
  case atStart => exact ⟨0, Nat.zero_le _, rfl, HK.out, HB.out⟩
  case round =>
    obtain ⟨i, hi, rfl, hg, hB⟩ := hrel
    have HG := Aside0.mk hg
    replace HB := Aside0.mk hB
    clear hg hB
    by_cases hlt : i < ks.length
    · obtain ⟨ad, rfl, hcell0⟩ := Kd.at_string HR.out (i : Int) (by omega) (by omega)
      have hx : rdOf ByteArray.empty ks (i : Int) = ks[i] := by unfold rdOf; simp [List.getD, List.getElem?_eq_getElem hlt]
      rw [hx, Int.toNat_natCast] at hcell0
      have hcell := (HB.out.cell (World.block_lt_of_cell? w _ hcell0)).trans hcell0
      have hdrop : ks.drop i = ks[i] :: ks.drop (i + 1) := List.drop_eq_getElem_cons hlt
      have hcall := HP.out wr ks[i] (List.getElem_mem hlt) HB.out
      rw [hdrop, idxF] at HG
      have hd2 : decide ((i : Int) < (ks.length : Int)) = true := decide_eq_true (by omega)
      clear hx hcell0 hdrop
      generalize ks[i] = k at *
      cases hn : p k
      · rw [hn] at hcall HG
        go_wp2_with (first | (go_at_fn g; refine hcall.mono ?_; rintro e w1 ⟨rfl, hb1⟩))
        go_roundw
        case rel => exact ⟨i + 1, hlt, by go_num, HG.out, HB.out.trans (hb1.mono HB.out.size)⟩
        case measure => simp [intOf]; omega
      · rw [hn] at hcall HG
        go_wp2_with (first | (go_at_fn g; refine hcall.mono ?_; rintro e w1 ⟨rfl, hb1⟩))
        go_ret
        rw [HG.out]
        exact ⟨rfl, HB.out.trans (hb1.mono HB.out.size)⟩
    · have hi' : i = ks.length := by omega
      subst hi'
      have hd2 : decide ((ks.length : Int) < (ks.length : Int)) = false := decide_eq_false (by omega)
      go_wp2
      go_ret
      rw [HG.out, List.drop_length]
      exact ⟨rfl, HB.out⟩

set_option maxHeartbeats 1000000 in
set_option maxRecDepth 100000 in
theorem contains_calls (g : Nat) (lb : Array Value) (p : ByteArray → Bool) (ks : List ByteArray) (A : Option Addr) (c : Nat) (w : World) (eg : ∀ args w, (callFunc g args).run Try.prog w = .ok (.enter g args) w)
    (hp : Tells w g lb p ks) (hr : Kd.C Kd.string w A ks.length ks) (hl : ks.length ≤ 9000000000000000000) :
    Calls Try.prog 37 #[.slice A ks.length c, .func (.func g) #[] lb] w fun e w' => e = .returned (.bool (ks.any p)) ∧ Below w.heap.size w w' := by
  have hi := index_calls g lb p ks A c w eg hp hr hl
  have HA := Aside0.mk (idxF_any p 0 ks)
  clear hp hr
  generalize idxF p 0 ks = r at *
  go_enter Try.func37, Try.ntmps37
  go_wp2_with (first | (go_at_call 44; refine hi.mono ?_; rintro e w1 ⟨rfl, hb1⟩))
  go_ret
  refine ⟨?_, hb1⟩
  rw [← HA.out]
  rfl
end Go.Proofs.Ytahonoeiamjgbaa.LgSl

/- How far a world has turned; taken, its closure, and locks.Take: the walks, by hand. -/
namespace Go.Proofs.Ytahonoeiamjgbaa.LgTk
open Go.RowKit Go.IntWalk Go.Maps Go.Proofs.YtahonoeiamjgbaaW.PrintWords Go.Proofs.Ytahonoeiamjgbaa.LgMaps Go.Proofs.Ytahonoeiamjgbaa.LgLocks Go.Proofs.Ytahonoeiamjgbaa.CdForm Go.Proofs.Ytahonoeiamjgbaa.Lg Go.Proofs.Ytahonoeiamjgbaa.LgAt Go.Proofs.Ytahonoeiamjgbaa.LgSl

/-- Nothing but some blocks has turned, and new ones have come. -/
structure Chg (X : Nat → Prop) (w w' : World) : Prop where
  os : w'.os = w.os
  tape : w'.tape = w.tape
  output : w'.output = w.output
  size : w.heap.size ≤ w'.heap.size
  block : ∀ k, k < w.heap.size → ¬ X k → w'.heap[k]? = w.heap[k]?
theorem Chg.refl (X : Nat → Prop) (w : World) : Chg X w w := ⟨rfl, rfl, rfl, Nat.le_refl _, fun _ _ _ => rfl⟩
theorem Chg.trans {X : Nat → Prop} {a b c : World} (h : Chg X a b) (k : Chg X b c) : Chg X a c :=
  ⟨k.os.trans h.os, k.tape.trans h.tape, k.output.trans h.output, Nat.le_trans h.size k.size, fun i hi hx => (k.block i (Nat.lt_of_lt_of_le hi h.size) hx).trans (h.block i hi hx)⟩
theorem Chg.mono {X Y : Nat → Prop} {a b : World} (h : Chg X a b) (hxy : ∀ k, X k → Y k) : Chg Y a b := ⟨h.os, h.tape, h.output, h.size, fun k hk hy => h.block k hk fun hx => hy (hxy k hx)⟩
theorem Chg.of_below {X : Nat → Prop} {a b : World} (h : Below a.heap.size a b) : Chg X a b := ⟨h.os, h.tape, h.output, h.size, fun k hk _ => h.block k hk⟩
theorem Chg.of_grown {X : Nat → Prop} {a b : World} {j : Nat} (h : a.grownBy b (some j)) (hj : j < a.heap.size → X j) : Chg X a b :=
  ⟨h.os, h.tape, h.output, h.size, fun k hk hx => h.block k hk fun e => by cases e; exact hx (hj hk)⟩
theorem Chg.onGrown {X : Nat → Prop} {a b c : World} {j : Nat} (h : Chg X a b) (g : b.grownBy c (some j)) (hj : a.heap.size ≤ j ∨ X j) : Chg X a c :=
  ⟨g.os.trans h.os, g.tape.trans h.tape, g.output.trans h.output, Nat.le_trans h.size g.size, fun k hk hx => (g.block k (Nat.lt_of_lt_of_le hk h.size) (fun e => by cases e; rcases hj with hj | hj; omega; exact hx hj)).trans (h.block k hk hx)⟩
theorem Chg.on {X : Nat → Prop} {a b c : World} (h : Chg X a b) (hb : Below b.heap.size b c) : Chg X a c := h.trans (.of_below hb)
theorem Chg.below {X : Nat → Prop} {a b : World} {n : Nat} (h : Chg X a b) (hn : n ≤ a.heap.size) (hx : ∀ k, X k → n ≤ k) : Below n a b :=
  ⟨h.os, h.tape, h.output, h.size, fun k hk => h.block k (by omega) fun x => by have := hx k x; omega⟩
theorem Chg.drew {X : Nat → Prop} {a b : World} (h : Chg X a b) : Chg X a b.drew := ⟨h.os, h.tape, h.output, h.size, h.block⟩
theorem Chg.cell {X : Nat → Prop} {a b : World} (h : Chg X a b) {p : Addr} {v : Value} (hp : a.cell? p = some v) (hx : ¬ X p.block) : b.cell? p = some v :=
  (World.cell?_of_block (w := a) (h.block p.block (World.block_lt_of_cell? a _ hp) hx)).trans hp
theorem Chg.row {X : Nat → Prop} {a b : World} (h : Chg X a b) {k : Nat} {o : Obj} (hk : a.heap[k]? = some o) (hx : ¬ X k) : b.heap[k]? = some o :=
  (h.block k (Array.getElem?_eq_some_iff.1 hk).1 hx).trans hk

theorem mlook_ok {P : Program} {k t e : TypeId} {w : World} {b n : Nat} {D : DataW Value} {z : Value} {key : Value} {kl : Lit} (h : w.ownsMap P k raw b n D) (K : Keyed P k) (ht : P.underlying t = some (.map k e)) (hz : (zeroValue e).run P w = .ok z w) (hkey : keyOf P k key = some kl) :
    (Instr.lookup t (.map (some b)) key true).run P w = .ok (.tuple #[val D kl z, .bool (Maps.has D kl)]) w := by
  obtain ⟨v, ps, hrun, hv⟩ := h.look_ok K ht hz (zd := .held z) (zp := []) rfl hkey
  have hv' : D.atKey kl (.held z) = .held v := (Prod.mk.inj (Option.some.inj hv)).1.symm
  rw [val_eq hv']
  exact hrun
theorem keyL_inj {a b : ByteArray} (h : keyL a = keyL b) : a = b := by
  unfold keyL at h
  injection h with h
  exact ByteArray.ext (Array.ext' h)
theorem keyL_is (a : ByteArray) : WideAt.IsKeyLit (keyL a) := by simp [keyL, WideAt.IsKeyLit]
theorem val_none {D : DataW Value} {kl : Lit} {z : Value} (h : Maps.has D kl = false) : val D kl z = z := val_eq (atKey_of_not_has h _)

/-- What the closure of 'taken' asks of a key. -/
def heldBy (g : S) (inst : Int) (k : ByteArray) : Bool := decide (g.holder k ≠ 0 ∧ g.holder k ≠ inst)
theorem taken_any (g : S) (inst : Int) (ks : List ByteArray) : taken g inst ks = ks.any (heldBy g inst) := rfl
set_option maxRecDepth 100000 in
theorem taken1_calls (w : World) (p b1 b2 : Nat) (d : Dat) (g : S) (inst : Int) (k : ByteArray) (h : At w p d g) (h1 : w.cell? ⟨b1, 0, none⟩ = some (.pointer (some ⟨p, 0, none⟩))) (h2 : w.cell? ⟨b2, 0, none⟩ = some (.int .i64 inst)) (hk : k.size ≤ maxLen) :
    Calls Try.prog 38 #[.string k, .pointer (some ⟨b1, 0, none⟩), .pointer (some ⟨b2, 0, none⟩)] w fun e w' => e = .returned (.bool (heldBy g inst k)) ∧ w' = w := by
  have hh := lholder_calls w p d g k h hk
  have hc2 := h.cell2
  have HD : Aside0 (heldBy g inst k = decide (g.holder k ≠ 0 ∧ g.holder k ≠ inst)) := ⟨rfl⟩
  clear h hk
  generalize heldBy g inst k = r at *
  generalize g.holder k = m at *
  by_cases h0 : m = 0
  · subst h0
    go_enter Try.func38, Try.ntmps38
    go_wp2_with (first | (go_at_call 30; refine hh.mono ?_; rintro e w1 ⟨rfl, rfl⟩))
    go_returns
    exact ⟨by rw [HD.out]; simp, rfl⟩
  · have hd : (m == 0) = false := beq_eq_false_iff_ne.2 h0
    have hd' : (m != 0) = true := bne_iff_ne.2 h0
    have H0 := Aside0.mk h0
    clear h0
    go_enter Try.func38, Try.ntmps38
    go_wp2_with (first | (go_at_call 30; refine hh.mono ?_; rintro e w1 ⟨rfl, rfl⟩))
    go_returns
    exact ⟨by rw [HD.out]; simp [H0.out]; rfl, rfl⟩

set_option maxRecDepth 100000 in
theorem taken_calls (w : World) (p : Nat) (d : Dat) (g : S) (inst : Int) (A : Option Addr) (c : Nat) (ks : List ByteArray) (h : At w p d g) (hr : Kd.C Kd.string w A ks.length ks) (hl : ks.length ≤ 9000000000000000000) (hs : ∀ k ∈ ks, k.size ≤ maxLen) :
    Calls Try.prog 25 #[.pointer (some ⟨p, 0, none⟩), .int .i64 inst, .slice A ks.length c] w fun e w' => e = .returned (.bool (taken g inst ks)) ∧ Below w.heap.size w w' := by
  have hb2 : Below w.heap.size w ((w.alloc (.cells #[.pointer (some ⟨p, 0, none⟩)] 26)).alloc (.cells #[.int .i64 inst] 3)) := ((Below.refl _ _).alloc (Nat.le_refl _) _).alloc (by simp) _
  have hc : Calls Try.prog 37 #[.slice A ks.length c, .func (.func 38) #[] #[.pointer (some ⟨w.heap.size, 0, none⟩), .pointer (some ⟨w.heap.size + 1, 0, none⟩)]]
      ((w.alloc (.cells #[.pointer (some ⟨p, 0, none⟩)] 26)).alloc (.cells #[.int .i64 inst] 3)) fun e w' => e = .returned (.bool (taken g inst ks)) ∧ Below w.heap.size w w' := by
    refine (contains_calls 38 _ (heldBy g inst) ks A c _ (fun _ _ => by kernel_rfl) ?_ (Kd.C_below hr hb2) hl).mono ?_
    · intro W k hk hB
      have hB0 := hb2.trans (hB.mono hb2.size)
      refine (taken1_calls W p w.heap.size (w.heap.size + 1) d g inst k (h.below hB0) ?_ ?_ (hs k hk)).mono ?_
      · refine cell_below hB ?_
        exact row_cell (t := 26) (by show ((w.heap.push _).push _)[w.heap.size]? = _; rw [Array.getElem?_push_lt (by simp)]; simp; rfl) rfl
      · refine cell_below hB ?_
        exact row_cell (t := 3) (by show ((w.heap.push _).push _)[w.heap.size + 1]? = _; have := Array.getElem?_push_size (xs := w.heap.push (.cells #[.pointer (some ⟨p, 0, none⟩)] 26)) (x := (.cells #[.int .i64 inst] 3 : Obj)); simpa using this) rfl
      · rintro e w' ⟨rfl, rfl⟩
        exact ⟨rfl, Below.refl _ _⟩
    · rintro e w' ⟨rfl, hb⟩
      exact ⟨by rw [taken_any], hb2.trans (hb.mono hb2.size)⟩
  clear h hr hs hb2
  generalize taken g inst ks = r at *
  go_enter Try.func25, Try.ntmps25
  go_wp2_with (first | (go_at_call 37; refine hc.mono ?_; rintro e w1 ⟨rfl, hb⟩))
  go_ret
  exact ⟨rfl, hb⟩
end Go.Proofs.Ytahonoeiamjgbaa.LgTk

/- codec: written, of each kind of item: the walks (written by wip/gen/mkwr.py). -/
namespace Go.Proofs.Ytahonoeiamjgbaa.CdMay
open Go.RowKit Go.IntWalk Go.Proofs.Ytahonoeiamjgbaa.B Go.Proofs.YtahonoeiamjgbaaW.PrintWords Go.Proofs.YtahonoeiamjgbaaW.PrintLast Go.Proofs.YtahonoeiamjgbaaW.PrintMore Go.Proofs.Ytahonoeiamjgbaa.CdForm Go.Proofs.Ytahonoeiamjgbaa.Tabs

theorem form_new (w : World) (s : ByteArray) (b : Bool) (a : Int) : FormAt (w.alloc (.cells #[.bool b, .string s, .int .i64 a] 97)) w.heap.size b s a := by
  show (w.heap.push _)[w.heap.size]? = _
  simp
def wres (b : Bool) (s0 : ByteArray) (L : List UInt8) : Value := if b then .tuple #[.string ⟨(s0.data.toList ++ L).toArray⟩, .int .i64 0] else .tuple #[.string ⟨#[]⟩, .int .i64 1]
theorem of_list {t : ByteArray} {L : List UInt8} (h : t.data.toList = L) : t = ⟨L.toArray⟩ := by
  subst h
  rfl
variable [Tab]

set_option linter.unusedSimpArgs false in
set_option linter.unusedVariables false in
set_option linter.unusedSectionVars false in
set_option maxHeartbeats 4000000 in
set_option maxRecDepth 100000 in
theorem written_letter (w : World) (g : Nat) (A : Option Addr) (c : Nat) (d : CdLetter.D) (s0 : ByteArray) (h0 : s0.size ≤ 10000000) (hg0 : w.heap[g]? = some (.cells (CdLetter.cells d (.slice A d.keys.length c)) 79 (0, 0))) (hr : Kd.C Kd.string w A d.keys.length d.keys) (hc : d.keys.length ≤ c) (hs : ∀ t ∈ d.keys, t.size ≤ 9000000000000000000) (hT : Tab.At w) (hf : mayL d = true → CdLetter.Fits d) :
    Calls Try.prog 36 #[.iface 81 (.pointer (some ⟨g, 0, none⟩)), .string s0] w fun e w' => e = .returned (wres (mayL d) s0 (CdLetter.form d)) ∧ Below w.heap.size w w' := by
  have HG := Aside0.mk hg0
  have HS := Aside0.mk (And.intro hr (And.intro hc (And.intro hs hT)))
  have HF := Aside0.mk hf
  clear hg0 hf hr hc hs hT
  cases hm : mayL d
  all_goals
    have HM := Aside0.mk hm
    clear hm
    go_enter Try.func36, Try.ntmps36
    have HB0 := Aside0.mk (Below.refl w.heap.size w)
    go_wp2_with (go_at_call 82; refine (letter_may w g A c d HG.out HS.out.1 HS.out.2.2.1 HS.out.2.2.2).mono ?_; rintro e w1 ⟨rfl, hb⟩; rw [HM.out]; replace HB0 := Aside0.mk hb; clear hb)
  · go_returns
    exact ⟨rfl, HB0.out⟩
  · refine (CdLetter.fields_write w _ g _ s0.data.toList A c d (HF.out HM.out) HG.out HS.out.1 HS.out.2.1 ⟨s0, form_new _ s0 true 0, rfl, by omega, HB0.out.size, HB0.out.alloc HB0.out.size _⟩).mono ?_
    rintro e w2 ⟨rfl, hw⟩
    obtain ⟨t, ht1, ht2, ht3, ht4, ht5⟩ := hw
    have h1 := ht1.cell1
    have HW := Aside0.mk (And.intro (of_list ht2) ht5)
    clear ht1 ht2 ht3 ht4 ht5
    go_wp2
    go_returns
    exact ⟨by rw [HW.out.1]; rfl, HW.out.2⟩

set_option linter.unusedSimpArgs false in
set_option linter.unusedVariables false in
set_option linter.unusedSectionVars false in
set_option maxHeartbeats 4000000 in
set_option maxRecDepth 100000 in
theorem written_event (w : World) (g : Nat) (A : Option Addr) (c : Nat) (d : CdEvent.D) (s0 : ByteArray) (h0 : s0.size ≤ 10000000) (hg0 : w.heap[g]? = some (.cells (CdEvent.cells d (.slice A d.keys.length c)) 82 (0, 0))) (hr : Kd.C Kd.string w A d.keys.length d.keys) (hc : d.keys.length ≤ c) (hs : ∀ t ∈ d.keys, t.size ≤ 9000000000000000000) (hT : Tab.At w) (hf : mayE d = true → CdEvent.Fits d) :
    Calls Try.prog 36 #[.iface 83 (.pointer (some ⟨g, 0, none⟩)), .string s0] w fun e w' => e = .returned (wres (mayE d) s0 (CdEvent.form d)) ∧ Below w.heap.size w w' := by
  have HG := Aside0.mk hg0
  have HS := Aside0.mk (And.intro hr (And.intro hc (And.intro hs hT)))
  have HF := Aside0.mk hf
  clear hg0 hf hr hc hs hT
  cases hm : mayE d
  all_goals
    have HM := Aside0.mk hm
    clear hm
    go_enter Try.func36, Try.ntmps36
    have HB0 := Aside0.mk (Below.refl w.heap.size w)
    go_wp2_with (go_at_call 109; refine (event_may w g A c d HG.out HS.out.1 HS.out.2.2.1 HS.out.2.2.2).mono ?_; rintro e w1 ⟨rfl, hb⟩; rw [HM.out]; replace HB0 := Aside0.mk hb; clear hb)
  · go_returns
    exact ⟨rfl, HB0.out⟩
  · refine (CdEvent.fields_write w _ g _ s0.data.toList A c d (HF.out HM.out) HG.out HS.out.1 HS.out.2.1 ⟨s0, form_new _ s0 true 0, rfl, by omega, HB0.out.size, HB0.out.alloc HB0.out.size _⟩).mono ?_
    rintro e w2 ⟨rfl, hw⟩
    obtain ⟨t, ht1, ht2, ht3, ht4, ht5⟩ := hw
    have h1 := ht1.cell1
    have HW := Aside0.mk (And.intro (of_list ht2) ht5)
    clear ht1 ht2 ht3 ht4 ht5
    go_wp2
    go_returns
    exact ⟨by rw [HW.out.1]; rfl, HW.out.2⟩

end Go.Proofs.Ytahonoeiamjgbaa.CdMay

/- codec.Letter, codec.Event: the walks (out of XCdFits, XCdOwnP, XCdIO by wip/tools/pick.py; for seats that lack notes). -/
namespace Go.Proofs.Ytahonoeiamjgbaa.Nm
theorem decode_four (s : ByteArray) (pos : Nat) : (Utf8.decode s pos).2 ≤ 4 := by
  simp only [Utf8.decode]
  repeat' split
  all_goals simp
theorem from_four (s : ByteArray) : ∀ (n pos : Nat), s.size - pos = n → n ≤ 4 * (from_ s pos).length := by
  intro n
  induction n using Nat.strongRecOn with
  | _ n ih =>
    intro pos h
    by_cases hp : pos < s.size
    · have h1 := decode_pos s pos
      have h2 := decode_four s pos
      rw [from_step s pos hp, List.length_cons]
      have := ih (s.size - (pos + (Utf8.decode s pos).2)) (by omega) _ rfl
      omega
    · omega
theorem isGo_len : ∀ (l : List Int) (n : Nat), isGo l n = true → l.length + n ≤ 8
  | [], n, h => by
    simp [isGo] at h
    simp
    omega
  | r :: l, n, h => by
    simp only [isGo, Bool.and_eq_true] at h
    have := isGo_len l (n + 1) h.2
    simp only [List.length_cons]
    omega
theorem isName_size {s : ByteArray} (h : isName s = true) : s.size ≤ 32 := by
  have h1 := isGo_len _ _ h
  have h2 := from_four s s.size 0 (by omega)
  rw [from_zero] at h2
  omega
end Go.Proofs.Ytahonoeiamjgbaa.Nm

namespace Go.Proofs.Ytahonoeiamjgbaa.CdMay
open Go.RowKit Go.IntWalk Go.Proofs.Ytahonoeiamjgbaa.B Go.Proofs.YtahonoeiamjgbaaW.PrintWords Go.Proofs.YtahonoeiamjgbaaW.PrintLast Go.Proofs.YtahonoeiamjgbaaW.PrintMore Go.Proofs.Ytahonoeiamjgbaa.CdForm Go.Proofs.Ytahonoeiamjgbaa.Tabs Go.Proofs.Ytahonoeiamjgbaa.CdKeys
theorem btw_iff {n a b : Int} (h : btw n a b = true) : a ≤ n ∧ n ≤ b := by
  unfold btw at h
  simpa using h
theorem beq_bytes {a b : ByteArray} (h : (a.toList == b.toList) = true) : a = b := by
  have h' := eq_of_beq h
  rw [ByteArray.toList_eq, ByteArray.toList_eq] at h'
  exact ByteArray.ext (Array.ext' h')
theorem nil_of {l : List ByteArray} (h : ((l.length : Int) == 0) = true) : l = [] := by
  have := eq_of_beq h
  exact List.eq_nil_of_length_eq_zero (by omega)
theorem nil_fits : ([] : List ByteArray).length ≤ 4000 ∧ ∀ t ∈ ([] : List ByteArray), t.size ≤ 2000 := by simp
theorem cell_below' {w w1 : World} {a : Addr} {v : Value} (hb : Below w.heap.size w w1) (h : w.cell? a = some v) : w1.cell? a = some v := cell_below hb h
theorem below_new {a : World} (o : Obj) : Below a.heap.size a (a.alloc o) := (Below.refl _ _).alloc (Nat.le_refl _) _
theorem below_set {a w : World} {j : Nat} {v : Value} (h : Below a.heap.size a w) : Below a.heap.size a (w.setCell ⟨a.heap.size, j, none⟩ v) := h.setCell (Nat.le_refl _) v
theorem below_on {a w w1 : World} (h : Below a.heap.size a w) (hb : Below w.heap.size w w1) : Below a.heap.size a w1 := h.trans (hb.mono h.size)
theorem below_two (w : World) (a b : Obj) : Below w.heap.size w ((w.alloc a).alloc b) := ((Below.refl _ _).alloc (Nat.le_refl _) _).alloc (by simp) _
theorem alloc2 (w : World) (a b : Obj) : ((w.alloc a).alloc b).heap[w.heap.size + 1]? = some b := by
  have h : (w.heap.push a).size = w.heap.size + 1 := by simp
  show ((w.heap.push a).push b)[w.heap.size + 1]? = _
  generalize w.heap.push a = x at *
  rw [← h]
  exact Array.getElem?_push_size
theorem size2 (w : World) (a b : Obj) : w.heap.size + 1 < ((w.alloc a).alloc b).heap.size := by
  show _ < ((w.heap.push a).push b).size
  simp
variable [Tab]
theorem goK_sizes : ∀ (l : List ByteArray) (p : Option ByteArray), goK p l = true → ∀ t ∈ l, t.size ≤ 32
  | [], _, _, t, ht => by cases ht
  | k :: l, none, h, t, ht => by
    simp only [goK, Bool.and_eq_true] at h
    rcases List.mem_cons.1 ht with rfl | ht
    · exact Nm.isName_size h.1
    · exact goK_sizes l _ h.2 t ht
  | k :: l, some p, h, t, ht => by
    simp only [goK, Bool.and_eq_true] at h
    rcases List.mem_cons.1 ht with rfl | ht
    · exact Nm.isName_size h.1
    · exact goK_sizes l _ h.2.2 t ht
theorem areKeys_fits {l : List ByteArray} (h : areKeys l = true) : l.length ≤ 4000 ∧ ∀ t ∈ l, t.size ≤ 2000 := by
  simp only [areKeys, Bool.and_eq_true, decide_eq_true_eq] at h
  exact ⟨by omega, fun t ht => by have := goK_sizes l _ h.2 t ht; omega⟩
theorem fitsE {d : CdEvent.D} (h : mayE d = true) : CdEvent.Fits d := by
  obtain ⟨k, i, st, l⟩ := d
  simp only [mayE, Bool.and_eq_true] at h
  obtain ⟨⟨h1, h2, h3⟩, h4⟩ := h
  have h1 := btw_iff h1
  have h2 := btw_iff h2
  have h3 := btw_iff h3
  by_cases k1 : k = 1
  · simp only [k1, if_true] at h4
    exact ⟨by simp only; omega, by simp only; omega, by simp only; omega, areKeys_fits h4⟩
  · simp only [k1, if_false, Bool.and_eq_true] at h4
    have hl := nil_of h4.2
    subst hl
    exact ⟨by simp only; omega, by simp only; omega, by simp only; omega, nil_fits⟩
theorem fitsL {d : CdLetter.D} (h : mayL d = true) : CdLetter.Fits d := by
  obtain ⟨k, p, i, st, so, l⟩ := d
  simp only [mayL, Bool.and_eq_true] at h
  obtain ⟨⟨h1, h0, h2⟩, h4⟩ := h
  have h1 := btw_iff h1
  have h0 := btw_iff h0
  have h2 := btw_iff h2
  by_cases k1 : k = 1
  · simp only [k1, if_true, Bool.and_eq_true] at h4
    have h3 := btw_iff h4.1
    have h5 := btw_iff h4.2.1
    exact ⟨by simp only; omega, by simp only; omega, by simp only; omega, by simp only; omega, by simp only; omega, areKeys_fits h4.2.2⟩
  · simp only [k1, if_false, Bool.and_eq_true, decide_eq_true_eq] at h4
    obtain ⟨h5, h3, h6, h7⟩ := h4
    have h3 := btw_iff h3
    have hl := nil_of h7
    subst hl h6
    exact ⟨by simp only; omega, by simp only; omega, by simp only; omega, by simp only; omega, by simp, nil_fits⟩
set_option linter.unusedSimpArgs false in
set_option linter.unusedVariables false in
set_option maxHeartbeats 4000000 in
set_option maxRecDepth 100000 in
theorem Letter_calls (w : World) (A : Option Addr) (c : Nat) (d : CdLetter.D) (hr : Kd.C Kd.string w A d.keys.length d.keys) (hc : d.keys.length ≤ c) (hs : ∀ t ∈ d.keys, t.size ≤ 9000000000000000000) (hT : Tab.At w) :
    Calls Try.prog 22 #[.agg (CdLetter.cells d (.slice A d.keys.length c))] w fun e w' => e = .returned (wres (mayL d) ⟨#[76]⟩ (CdLetter.form d)) ∧ Below w.heap.size w w' := by
  have HS := Aside0.mk (And.intro hr (And.intro hc (And.intro hs hT)))
  clear hr hc hs hT
  have HN : Aside0 (∀ h : mayL d = true, CdLetter.Fits d) := ⟨fun h => fitsL h⟩
  obtain ⟨kind, part, inst, step, sort, keys⟩ := d
  go_enter Try.func22, Try.ntmps22
  simp only [CdLetter.cells]
  go_wp2_with fail
  refine (written_letter _ (w.heap.size + 1) A c _ ⟨#[76]⟩ (by decide) (alloc2 w _ _) (Kd.C_below HS.out.1 (below_two w _ _)) HS.out.2.1 HS.out.2.2.1 (Tab.below HS.out.2.2.2 (below_two w _ _)) HN.out).mono ?_
  rintro e w1 ⟨rfl, hb⟩
  have HB := Aside0.mk (below_on (below_two w _ _) hb)
  clear hb
  generalize hm : mayL _ = m
  cases m
  all_goals
    have HM := Aside0.mk hm
    clear hm
    simp only [wres, Bool.false_eq_true, if_false, if_true]
    go_wp2
    go_returns
    exact ⟨by rw [HM.out]; rfl, HB.out⟩
set_option linter.unusedSimpArgs false in
set_option linter.unusedVariables false in
set_option maxHeartbeats 4000000 in
set_option maxRecDepth 100000 in
theorem Event_calls (w : World) (A : Option Addr) (c : Nat) (d : CdEvent.D) (hr : Kd.C Kd.string w A d.keys.length d.keys) (hc : d.keys.length ≤ c) (hs : ∀ t ∈ d.keys, t.size ≤ 9000000000000000000) (hT : Tab.At w) :
    Calls Try.prog 24 #[.agg (CdEvent.cells d (.slice A d.keys.length c))] w fun e w' => e = .returned (wres (mayE d) ⟨#[69]⟩ (CdEvent.form d)) ∧ Below w.heap.size w w' := by
  have HS := Aside0.mk (And.intro hr (And.intro hc (And.intro hs hT)))
  clear hr hc hs hT
  have HN : Aside0 (∀ h : mayE d = true, CdEvent.Fits d) := ⟨fun h => fitsE h⟩
  obtain ⟨kind, inst, step, keys⟩ := d
  go_enter Try.func24, Try.ntmps24
  simp only [CdEvent.cells]
  go_wp2_with fail
  refine (written_event _ (w.heap.size + 1) A c _ ⟨#[69]⟩ (by decide) (alloc2 w _ _) (Kd.C_below HS.out.1 (below_two w _ _)) HS.out.2.1 HS.out.2.2.1 (Tab.below HS.out.2.2.2 (below_two w _ _)) HN.out).mono ?_
  rintro e w1 ⟨rfl, hb⟩
  have HB := Aside0.mk (below_on (below_two w _ _) hb)
  clear hb
  generalize hm : mayE _ = m
  cases m
  all_goals
    have HM := Aside0.mk hm
    clear hm
    simp only [wres, Bool.false_eq_true, if_false, if_true]
    go_wp2
    go_returns
    exact ⟨by rw [HM.out]; rfl, HB.out⟩
end Go.Proofs.Ytahonoeiamjgbaa.CdMay

/- ledger: do, undo, free: the walks, by hand. -/
namespace Go.Proofs.Ytahonoeiamjgbaa.LgTk
open Go.RowKit Go.IntWalk Go.Maps Go.Proofs.YtahonoeiamjgbaaW.PrintWords Go.Proofs.Ytahonoeiamjgbaa.CdForm Go.Proofs.Ytahonoeiamjgbaa.Lg Go.Proofs.Ytahonoeiamjgbaa.LgAt

/-- A letter that came, as far as a ledger asks. -/
structure LetOk (w : World) (A : Option Addr) (l : CdLetter.D) : Prop where
  keys : Kd.C Kd.string w A l.keys.length l.keys
  len : l.keys.length ≤ 9000000000000000000
  sizes : ∀ k ∈ l.keys, k.size ≤ 9000000000000000000
  inst : wf l.inst
  step : wf l.step
def two (x : Int × Int) : Value := .tuple #[.int .i64 x.1, .int .i64 x.2]
theorem alloc1 (w : World) (b : Obj) : (w.alloc b).heap[w.heap.size]? = some b := by
  show (w.heap.push b)[w.heap.size]? = _
  simp
theorem rowL (w : World) (l : CdLetter.D) (v : Value) : (w.alloc (.cells (CdLetter.cells l v) 25)).heap[w.heap.size]? = some (.cells #[.int .i64 l.kind, .int .i64 l.part, .int .i64 l.inst, .int .i64 l.step, .int .i64 l.sort, v] 25 (0, 0)) := alloc1 w _
theorem below_one (w : World) (o : Obj) : Below w.heap.size w (w.alloc o) := (Below.refl _ _).alloc (Nat.le_refl _) _
theorem szLe {k : ByteArray} (h : k.size ≤ 9000000000000000000) : k.size ≤ maxLen := Nat.le_trans h (by unfold maxLen; omega)

def freeB (fr : Bool) : Int × Int := if fr = true then (0, 9) else (6, 9)
theorem freeB_eq (g : S) (l : CdLetter.D) : freeF g l = freeB (decide (g.freed l.inst > 0)) := by simp [freeF, freeB]
def undoB (m : Int) (fr yes : Bool) : Int × Int := if m = 1 then (if fr = true ∨ yes = false then (0, 8) else (5, 7)) else if m = 0 then (if fr = true then (0, 7) else (4, 7)) else (0, 7)
theorem undoB_eq (g : S) (l : CdLetter.D) (yes : Bool) : undoF g l yes = undoB (g.mark l.inst l.step) (decide (g.freed l.inst > 0)) yes := by simp [undoF, undoB]
def doB (m : Int) (fr tk : Bool) (sort : Int) (yes : Bool) : Int × Int :=
  if m = 1 then (0, 4) else if m = 2 then (0, 5) else if m = 3 then (0, 6) else if m = 4 ∨ m = 5 then (0, 7) else if fr = true then (0, 5)
  else if sort = 3 ∧ (tk = true ∨ yes = false) then (0, 8) else if tk = true then (3, 6) else if yes = false then (2, 5) else (1, 4)
def doC (fr tk : Bool) (sort : Int) (yes : Bool) : Int × Int := if fr = true then (0, 5) else if sort = 3 ∧ (tk = true ∨ yes = false) then (0, 8) else if tk = true then (3, 6) else if yes = false then (2, 5) else (1, 4)
def doE (fr tk yes : Bool) : Int × Int := if fr = true then (0, 5) else if tk = true then (3, 6) else if yes = false then (2, 5) else (1, 4)
theorem doB_eq (g : S) (l : CdLetter.D) (yes : Bool) : doF g l yes = doB (g.mark l.inst l.step) (decide (g.freed l.inst > 0)) (taken g l.inst l.keys) l.sort yes := by simp [doF, doB]
theorem cells_box (w W : World) (l : CdLetter.D) (v : Value) (hb : Below (w.alloc (.cells (CdLetter.cells l v) 25)).heap.size (w.alloc (.cells (CdLetter.cells l v) 25)) W) :
    W.cell? ⟨w.heap.size, 0, none⟩ = some (.int .i64 l.kind) ∧ W.cell? ⟨w.heap.size, 1, none⟩ = some (.int .i64 l.part) ∧ W.cell? ⟨w.heap.size, 2, none⟩ = some (.int .i64 l.inst) ∧ W.cell? ⟨w.heap.size, 3, none⟩ = some (.int .i64 l.step) ∧ W.cell? ⟨w.heap.size, 4, none⟩ = some (.int .i64 l.sort) ∧ W.cell? ⟨w.heap.size, 5, none⟩ = some v := by
  have hr := row_below hb (rowL w l v)
  exact ⟨row_cell hr rfl, row_cell hr rfl, row_cell hr rfl, row_cell hr rfl, row_cell hr rfl, row_cell hr rfl⟩

set_option maxHeartbeats 1000000 in
set_option maxRecDepth 100000 in
theorem free_calls (w : World) (p : Nat) (d : Dat) (g : S) (A : Option Addr) (c : Nat) (l : CdLetter.D) (yes : Bool) (h : At w p d g) (hl : LetOk w A l) :
    Calls Try.prog 21 #[.pointer (some ⟨p, 0, none⟩), .agg (CdLetter.cells l (.slice A l.keys.length c)), .bool yes] w fun e w' => e = .returned (two (freeF g l)) ∧ Below w.heap.size w w' := by
  have hf := freed_calls _ p d g l.inst (h.below (below_one w (.cells (CdLetter.cells l (.slice A l.keys.length c)) 25))) hl.inst
  rw [freeB_eq]
  clear h hl
  generalize decide (g.freed l.inst > 0) = fr at *
  obtain ⟨kind, part, inst, step, sort, keys⟩ := l
  simp only [CdLetter.cells] at *
  cases fr
  all_goals
    go_enter Try.func21, Try.ntmps21
    go_wp2_with (first | (go_at_call 13; refine hf.mono ?_; rintro e w1 ⟨rfl, rfl⟩))
    go_returns
    exact ⟨rfl, below_one _ _⟩

set_option maxHeartbeats 1000000 in
set_option maxRecDepth 100000 in
theorem undo_calls (w : World) (p : Nat) (d : Dat) (g : S) (A : Option Addr) (c : Nat) (l : CdLetter.D) (yes : Bool) (h : At w p d g) (hl : LetOk w A l) :
    Calls Try.prog 20 #[.pointer (some ⟨p, 0, none⟩), .agg (CdLetter.cells l (.slice A l.keys.length c)), .bool yes] w fun e w' => e = .returned (two (undoF g l yes)) ∧ Below w.heap.size w w' := by
  have hA := h.below (below_one w (.cells (CdLetter.cells l (.slice A l.keys.length c)) 25))
  have hf := freed_calls _ p d g l.inst hA hl.inst
  have hm := mark_calls _ p d g l.inst l.step hA hl.inst hl.step
  rw [undoB_eq]
  clear h hl hA
  generalize decide (g.freed l.inst > 0) = fr at *
  generalize g.mark l.inst l.step = m at *
  obtain ⟨kind, part, inst, step, sort, keys⟩ := l
  simp only [CdLetter.cells] at *
  by_cases h1 : m = 1
  · subst h1
    cases fr <;> cases yes
    all_goals
      go_enter Try.func20, Try.ntmps20
      go_wp2_with (first | (go_at_call 13; refine hf.mono ?_; rintro e w1 ⟨rfl, rfl⟩) | (go_at_call 12; refine hm.mono ?_; rintro e w1 ⟨rfl, rfl⟩))
      go_returns
      exact ⟨rfl, below_one _ _⟩
  · have hd1 : (m == 1) = false := beq_eq_false_iff_ne.2 h1
    by_cases h0 : m = 0
    · subst h0
      clear h1 hd1
      cases fr
      all_goals
        go_enter Try.func20, Try.ntmps20
        go_wp2_with (first | (go_at_call 13; refine hf.mono ?_; rintro e w1 ⟨rfl, rfl⟩) | (go_at_call 12; refine hm.mono ?_; rintro e w1 ⟨rfl, rfl⟩))
        go_returns
        exact ⟨rfl, below_one _ _⟩
    · have hd0 : (m == 0) = false := beq_eq_false_iff_ne.2 h0
      have HR : Aside0 (undoB m fr yes = (0, 7)) := ⟨by simp [undoB, h1, h0]⟩
      clear h1 h0
      generalize undoB m fr yes = r at *
      go_enter Try.func20, Try.ntmps20
      go_wp2_with (first | (go_at_call 13; refine hf.mono ?_; rintro e w1 ⟨rfl, rfl⟩) | (go_at_call 12; refine hm.mono ?_; rintro e w1 ⟨rfl, rfl⟩))
      go_returns
      exact ⟨by rw [HR.out]; rfl, below_one _ _⟩

set_option maxHeartbeats 4000000 in
set_option maxRecDepth 100000 in
theorem do_calls (w : World) (p : Nat) (d : Dat) (g : S) (A : Option Addr) (c : Nat) (l : CdLetter.D) (yes : Bool) (h : At w p d g) (hl : LetOk w A l) :
    Calls Try.prog 19 #[.pointer (some ⟨p, 0, none⟩), .agg (CdLetter.cells l (.slice A l.keys.length c)), .bool yes] w fun e w' => e = .returned (two (doF g l yes)) ∧ Below w.heap.size w w' := by
  have hb1 := below_one w (.cells (CdLetter.cells l (.slice A l.keys.length c)) 25)
  have hA := h.below hb1
  have hm := mark_calls _ p d g l.inst l.step hA hl.inst hl.step
  have ht := taken_calls _ p d g l.inst A c l.keys hA (Kd.C_below hl.keys hb1) hl.len (fun k hk => szLe (hl.sizes k hk))
  have HF : Aside0 (∀ W, Below (w.alloc (.cells (CdLetter.cells l (.slice A l.keys.length c)) 25)).heap.size (w.alloc (.cells (CdLetter.cells l (.slice A l.keys.length c)) 25)) W →
    (Calls Try.prog 13 #[.pointer (some ⟨p, 0, none⟩), .int .i64 l.inst] W fun e w' => e = .returned (.bool (decide (g.freed l.inst > 0))) ∧ w' = W) ∧ W.cell? ⟨w.heap.size, 2, none⟩ = some (.int .i64 l.inst) ∧ W.cell? ⟨w.heap.size, 4, none⟩ = some (.int .i64 l.sort)) :=
    ⟨fun W hW => ⟨freed_calls W p d g l.inst (hA.below hW) hl.inst, (cells_box w W l _ hW).2.2.1, (cells_box w W l _ hW).2.2.2.2.1⟩⟩
  have HB := Aside0.mk hb1
  rw [doB_eq]
  clear h hl hA hb1
  generalize decide (g.freed l.inst > 0) = fr at *
  generalize g.mark l.inst l.step = m at *
  generalize taken g l.inst l.keys = tk at *
  obtain ⟨kind, part, inst, step, sort, keys⟩ := l
  simp only [CdLetter.cells] at *
  by_cases h5 : m = 1 ∨ m = 2 ∨ m = 3 ∨ m = 4 ∨ m = 5
  · rcases h5 with rfl | rfl | rfl | rfl | rfl
    all_goals
      go_enter Try.func19, Try.ntmps19
      go_wp2_with (first | (go_at_call 12; refine hm.mono ?_; rintro e w1 ⟨rfl, rfl⟩))
      go_returns
      exact ⟨rfl, HB.out⟩
  · simp only [not_or] at h5
    have hd1 : (m == 1) = false := beq_eq_false_iff_ne.2 h5.1
    have hd2 : (m == 2) = false := beq_eq_false_iff_ne.2 h5.2.1
    have hd3 : (m == 3) = false := beq_eq_false_iff_ne.2 h5.2.2.1
    have hd4 : (m == 4) = false := beq_eq_false_iff_ne.2 h5.2.2.2.1
    have hd5 : (m == 5) = false := beq_eq_false_iff_ne.2 h5.2.2.2.2
    have hC : doB m fr tk sort yes = doC fr tk sort yes := by simp [doB, doC, h5]
    rw [hC]
    clear hC h5
    by_cases h3 : sort = 3
    · subst h3
      cases fr <;> cases tk <;> cases yes
      all_goals
        go_enter Try.func19, Try.ntmps19
        go_wp2_with (first | (go_at_call 12; refine hm.mono ?_; rintro e w1 ⟨rfl, rfl⟩) | (go_at_call 25; refine ht.mono ?_; rintro e w1 ⟨rfl, hb⟩; have HB1 := Aside0.mk hb; clear hb; obtain ⟨hf, hc2, hc4⟩ := HF.out w1 HB1.out) | (go_at_call 13; refine hf.mono ?_; rintro e w2 ⟨rfl, rfl⟩))
        go_returns
        exact ⟨rfl, HB.out.trans (HB1.out.mono HB.out.size)⟩
    · have hd : (sort == 3) = false := beq_eq_false_iff_ne.2 h3
      have hC : doC fr tk sort yes = doE fr tk yes := by simp [doC, doE, h3]
      rw [hC]
      clear hC h3
      cases fr <;> cases tk <;> cases yes
      all_goals
        go_enter Try.func19, Try.ntmps19
        go_wp2_with (first | (go_at_call 12; refine hm.mono ?_; rintro e w1 ⟨rfl, rfl⟩) | (go_at_call 25; refine ht.mono ?_; rintro e w1 ⟨rfl, hb⟩; have HB1 := Aside0.mk hb; clear hb; obtain ⟨hf, hc2, hc4⟩ := HF.out w1 HB1.out) | (go_at_call 13; refine hf.mono ?_; rintro e w2 ⟨rfl, rfl⟩))
        go_returns
        exact ⟨rfl, HB.out.trans (HB1.out.mono HB.out.size)⟩
end Go.Proofs.Ytahonoeiamjgbaa.LgTk

/- slices.Clone over strings: the walk, by hand. -/
namespace Go.Proofs.Ytahonoeiamjgbaa.LgTk
open Go.RowKit Go.IntWalk Go.Maps Go.Proofs.YtahonoeiamjgbaaW.PrintWords Go.Proofs.Ytahonoeiamjgbaa.CdForm

theorem eql_nil (w : World) (a : Option Addr) (n c n' c' : Nat) : (binOp .eql 23 (.slice a n c) (.slice none n' c')).run Try.prog w = .ok (.bool a.isNone) w := by
  cases a <;> kernel_rfl
set_option maxHeartbeats 1000000 in
set_option maxRecDepth 100000 in
theorem clone_calls (w : World) (A : Option Addr) (c : Nat) (ks : List ByteArray) (hr : Kd.C Kd.string w A ks.length ks) (hl : ks.length * 16 ≤ 140737488355328) :
    Calls Try.prog 23 #[.slice A ks.length c] w fun e w' => ∃ v, e = .returned v ∧ Kd.R Kd.string 9 w' w.heap.size (fun _ => True) v ks ∧ Below w.heap.size w w' := by
  cases A with
  | none =>
    have h0 : ks = [] := by
      by_cases hlt : 0 < ks.length
      · obtain ⟨ad, e, _⟩ := Kd.at_string hr ((0 : Nat) : Int) (by omega) (by omega)
        cases e
      · exact List.eq_nil_of_length_eq_zero (by omega)
    subst h0
    clear hr hl
    have he := fun n c n' c' => eql_nil w none n c n' c'
    go_enter Try.func23, Try.ntmps23
    go_wp2
    go_ret
    exact ⟨_, rfl, Kd.R_nil _ _ _ _ _, Below.refl _ _⟩
  | some a =>
    have he := fun n c n' c' => eql_nil w (some a) n c n' c'
    have HR := Aside0.mk (And.intro hr hl)
    clear hr hl
    go_enter Try.func23, Try.ntmps23
    go_wp2_with (at_builtin; refine Kd.R_append_rows Kd.string (Rr := Kd.string.K w) (w0 := w) w.heap.size rfl _ _ 23 9 (.string ByteArray.empty) 16 rfl Try.underlying23 (by kernel_rfl) rfl (by decide) (by decide) _ [] ks (some a) ks.length c (fun _ => True) (fun _ => False) rfl rfl ?_ ?_ ?_ ?_ ?_ ?_ ?_ ?_ ?_)
    · exact Kd.R_of_own (World.ownsRow_made w #[] 0 (Nat.le_refl _) (Nat.zero_le _) rfl) (fun _ _ => trivial)
    · exact Kd.C_below HR.out.1 ((Below.refl _ _).alloc (Nat.le_refl _) _)
    · intro x cs h
      exact h
    · intro k hk
      exact hk.elim
    · intro _ _
      trivial
    · exact (Below.refl _ _).alloc (Nat.le_refl _) _
    · simp
    · have := HR.out.2
      simpa using this
    · intro v1 w1 hv1 hb1 _ _
      have H1 := Aside0.mk (And.intro hv1 hb1)
      clear hv1 hb1
      go_wp2
      go_ret
      exact ⟨_, rfl, H1.out.1, H1.out.2⟩
end Go.Proofs.Ytahonoeiamjgbaa.LgTk

/- locks.Take: the walk, by hand. -/
namespace Go.Proofs.Ytahonoeiamjgbaa.LgTk
open Go.RowKit Go.IntWalk Go.Maps Go.Proofs.YtahonoeiamjgbaaW.PrintWords Go.Proofs.Ytahonoeiamjgbaa.LgMaps Go.Proofs.Ytahonoeiamjgbaa.LgLocks Go.Proofs.Ytahonoeiamjgbaa.CdForm Go.Proofs.Ytahonoeiamjgbaa.Lg Go.Proofs.Ytahonoeiamjgbaa.LgAt Go.Proofs.Ytahonoeiamjgbaa.LgSl

set_option maxRecDepth 100000 in
theorem take1_calls (w : World) (k : ByteArray) (hk : k.size ≤ 9000000000000000000) : Calls Try.prog 39 #[.string k] w fun e w' => e = .returned (.bool (!Nm.isName k)) ∧ Below w.heap.size w w' := by
  have h := NameWalk.is_calls k w hk
  go_enter Try.func39, Try.ntmps39
  go_wp2_with (first | (go_at_call 40; refine h.mono ?_; rintro e w1 ⟨rfl, hb⟩))
  go_ret
  exact ⟨rfl, hb⟩
theorem isIn_snoc (l : List ByteArray) (x k : ByteArray) : isIn (l ++ [x]) k = (isIn l k || (x.toList == k.toList)) := by simp [isIn]
theorem beq_list (x k : ByteArray) : (x.toList == k.toList) = decide (x = k) := by
  by_cases h : x = k
  · subst h; simp
  · have : x.toList ≠ k.toList := by
      rw [ByteArray.toList_eq, ByteArray.toList_eq]
      exact fun e => h (ByteArray.ext (Array.ext' e))
    simp [h, this]
/-- A key more is held. -/
def heldS (g : S) (inst : Int) (ks : List ByteArray) : S := ⟨g.mark, g.freed, fun k => if isIn ks k = true then inst else g.holder k⟩
/-- A table reads as who holds what. -/
structure TabAt (w : World) (bh n : Nat) (D : DataW Value) (f : ByteArray → Int) : Prop where
  own : w.ownsMap Try.prog 9 raw bh n D
  holder : ∀ k : ByteArray, k.size ≤ maxLen → val D (keyL k) (.int .i64 0) = .int .i64 (f k)
  held : ∀ k : ByteArray, k.size ≤ maxLen → Maps.has D (keyL k) = true → f k ≠ 0
theorem TabAt.put {w w' : World} {bh n : Nat} {D : DataW Value} {f : ByteArray → Int} (h : TabAt w bh n D f) {x : ByteArray} {inst : Int} (hi : inst ≠ 0) (ho : w'.ownsMap Try.prog 9 raw bh (n + 1) (D.put (keyL x) (.held (.int .i64 inst)))) (ks : List ByteArray) (f0 : ByteArray → Int) (hf : ∀ k, f k = if isIn ks k = true then inst else f0 k) :
    TabAt w' bh (n + 1) (D.put (keyL x) (.held (.int .i64 inst))) (fun k => if isIn (ks ++ [x]) k = true then inst else f0 k) := by
  refine ⟨ho, fun k hk => ?_, fun k hk hh => ?_⟩
  · rw [isIn_snoc, beq_list]
    by_cases e : x = k
    · subst e
      rw [val_put_same h.own.isMap (keyL_is x)]
      simp
    · rw [val_put_other (fun e' => e (keyL_inj e').symm), h.holder k hk, hf k]
      simp [e]
  · rw [isIn_snoc, beq_list]
    by_cases e : x = k
    · simp [e]; exact hi
    · rw [has_put_other (fun e' => e (keyL_inj e').symm)] at hh
      have := h.held k hk hh
      rw [hf k] at this
      simpa [e] using this

theorem ne_map {w : World} {a : Addr} {v : Value} {P : Program} {k b n : Nat} {R : Value → Option (DataW Value × List MemPlace)} {D : DataW Value} (h : w.cell? a = some v) (ho : w.ownsMap P k R b n D) : ¬ a.block = b := fun e => by
  obtain ⟨es, clock, hb, _⟩ := ho
  subst e
  simp [World.cell?, hb] at h
set_option maxHeartbeats 1000000 in
set_option maxRecDepth 100000 in
theorem take_calls (w : World) (p : Nat) (d : Dat) (g : S) (inst : Int) (A : Option Addr) (c : Nat) (ks : List ByteArray) (h : At w p d g) (h1 : 1 ≤ inst) (hr : Kd.C Kd.string w A ks.length ks) (hl : ks.length ≤ 2)
    (hn : ∀ k ∈ ks, Nm.isName k = true) (hs : ∀ k ∈ ks, k.size ≤ 9000000000000000000) (ht : taken g inst ks = false) (hroom : d.n + 2 < maxLen) :
    Calls Try.prog 28 #[.pointer (some ⟨d.bl, 0, none⟩), .int .i64 inst, .slice A ks.length c] w fun e w' => e = .returned (.tuple #[.string ByteArray.empty, .bool true]) ∧
      ∃ D, TabAt w' d.bh (d.n + 2) D (heldS g inst ks).holder ∧ Chg (· = d.bh) w w' := by
  have hb1 : d.bl ≠ d.bh := fun e => by
    obtain ⟨es, clock, hb, _⟩ := h.locks
    rw [← e, h.table] at hb
    cases hb
  have HT := Aside0.mk (TabAt.mk h.locks h.holder h.held)
  have HX := Aside0.mk (And.intro h.table (And.intro hb1 (And.intro hroom hl)))
  have HR := Aside0.mk (And.intro hr hs)
  have hfree : ∀ k ∈ ks, g.holder k = 0 ∨ g.holder k = inst := fun k hk => by
    have : heldBy g inst k = false := by
      rw [taken_any] at ht
      simpa using (List.any_eq_false.1 ht k hk)
    unfold heldBy at this
    have := of_decide_eq_false this
    omega
  have HF := Aside0.mk hfree
  have hc : Calls Try.prog 37 #[.slice A ks.length c, .func (.func 39) #[] #[]] w fun e w' => e = .returned (.bool false) ∧ Below w.heap.size w w' := by
    refine (contains_calls 39 #[] (fun k => !Nm.isName k) ks A c w (fun _ _ => by kernel_rfl) ?_ hr (by omega)).mono ?_
    · intro W k hk hB
      exact take1_calls W k (hs k hk)
    · rintro e w' ⟨rfl, hb⟩
      refine ⟨?_, hb⟩
      have : (ks.any fun k => !Nm.isName k) = false := by
        rw [List.any_eq_false]
        intro k hk
        simp [hn k hk]
      rw [this]
  have hd : decide (inst < 1) = false := decide_eq_false (by omega)
  have HI := Aside0.mk (show inst ≠ 0 by omega)
  clear h hr hs hn ht hfree hb1 hroom
  go_enter Try.func28, Try.ntmps28
  go_wp2_with (first | (go_at_call 37; refine hc.mono ?_; rintro e w0 ⟨rfl, hb0⟩; have HB := Aside0.mk hb0; clear hb0))
  clear hc
  go_loopw [22] (fun v22 wr => ∃ i : Nat, i ≤ ks.length ∧ v22 = .int .i64 (i : Int) ∧ wr = w0) (fun v22 _ => ks.length - (intOf v22).toNat)
  case atStart => exact ⟨0, Nat.zero_le _, rfl, rfl⟩
  case round =>
    obtain ⟨i, hi, rfl, rfl⟩ := hrel
    by_cases hlt : i < ks.length
    · obtain ⟨ad, rfl, hcell0⟩ := Kd.at_string HR.out.1 (i : Int) (by omega) (by omega)
      have hx : rdOf ByteArray.empty ks (i : Int) = ks[i] := by unfold rdOf; simp [List.getD, List.getElem?_eq_getElem hlt]
      rw [hx, Int.toNat_natCast] at hcell0
      have hcell := cell_below HB.out hcell0
      have hmem := List.getElem_mem hlt
      have hsz : (ks[i]).size ≤ maxLen := Nat.le_trans (HR.out.2 _ hmem) (by unfold maxLen; omega)
      have hf := HF.out _ hmem
      have hval := HT.out.holder _ hsz
      have hheld := HT.out.held _ hsz
      have hlook := mlook_ok (ownsMap_move HT.out.own (HB.out.block d.bh HT.out.own.lt)) lawS Try.underlying86 (zeroI wr) (keyS hsz)
      rw [hval] at hlook
      have hc0 : wr.cell? ⟨d.bl, 0, none⟩ = some (.map (some d.bh)) := row_cell (row_below HB.out HX.out.1) rfl
      have hd2 : decide ((i : Int) < (ks.length : Int)) = true := decide_eq_true (by omega)
      clear hx hcell0 hmem hsz hval
      generalize ks[i] = k at *
      generalize g.holder k = m at *
      generalize Maps.has d.D3 (keyL k) = b at *
      cases b
      · clear hf hheld
        go_wp2
        go_roundw
        case rel => exact ⟨i + 1, hlt, by go_num, trivial⟩
        case measure => simp [intOf]; omega
      · have hm : (m != inst) = false := by
          have := hheld rfl
          rw [bne_eq_false_iff_eq]
          omega
        clear hf hheld
        go_wp2
        go_roundw
        case rel => exact ⟨i + 1, hlt, by go_num, trivial⟩
        case measure => simp [intOf]; omega
    · have hi' : i = ks.length := by omega
      subst hi'
      have hd2 : decide ((ks.length : Int) < (ks.length : Int)) = false := decide_eq_false (by omega)
      go_wp2
      go_loopw [45] (fun v45 wr => ∃ j : Nat, j ≤ ks.length ∧ v45 = .int .i64 (j : Int) ∧ ∃ D, TabAt wr d.bh (d.n + j) D (heldS g inst (ks.take j)).holder ∧ Chg (· = d.bh) w wr) (fun v45 _ => ks.length - (intOf v45).toNat)
      case atStart => exact ⟨0, Nat.zero_le _, rfl, d.D3, ⟨ownsMap_move HT.out.own (HB.out.block d.bh HT.out.own.lt), fun k hk => by rw [HT.out.holder k hk]; simp [heldS, isIn], fun k hk hh => by have := HT.out.held k hk hh; simpa [heldS, isIn] using this⟩, .of_below HB.out⟩
      case round =>
        obtain ⟨j, hj, rfl, D, hT, hC⟩ := hrel
        have HTD := Aside0.mk (And.intro hT hC)
        clear hT hC
        by_cases hlt : j < ks.length
        · obtain ⟨ad, rfl, hcell0⟩ := Kd.at_string HR.out.1 (j : Int) (by omega) (by omega)
          have hx : rdOf ByteArray.empty ks (j : Int) = ks[j] := by unfold rdOf; simp [List.getD, List.getElem?_eq_getElem hlt]
          rw [hx, Int.toNat_natCast] at hcell0
          have hmem := List.getElem_mem hlt
          have hcell := HTD.out.2.cell hcell0 (ne_map hcell0 HT.out.own)
          have hsz : (ks[j]).size ≤ maxLen := Nat.le_trans (HR.out.2 _ hmem) (by unfold maxLen; omega)
          have hc0 : wr.cell? ⟨d.bl, 0, none⟩ = some (.map (some d.bh)) := row_cell (HTD.out.2.row HX.out.1 HX.out.2.1) rfl
          obtain ⟨w2, hput, hown, hgrow⟩ := mput HTD.out.1.own lawS Try.underlying86 (by have := HX.out.2.2; omega) (v := .int .i64 inst) (keyS hsz)
          have hnew := HTD.out.1.put HI.out hown (ks.take j) g.holder (fun k => rfl)
          rw [← List.take_succ_eq_append_getElem hlt] at hnew
          have HN := Aside0.mk (And.intro hnew (HTD.out.2.trans (Chg.of_grown hgrow (fun _ => rfl))))
          have hd2 : decide ((j : Int) < (ks.length : Int)) = true := decide_eq_true (by omega)
          clear hx hcell0 hmem hsz hown hgrow hnew
          generalize ks[j] = k at *
          go_wp2
          go_roundw
          case rel => exact ⟨j + 1, hlt, by go_num, _, HN.out.1, HN.out.2⟩
          case measure => simp [intOf]; omega
        · have hj' : j = ks.length := by omega
          subst hj'
          have hd2 : decide ((ks.length : Int) < (ks.length : Int)) = false := decide_eq_false (by omega)
          go_wp2
          go_returns
          refine ⟨rfl, D, ?_, HTD.out.2⟩
          have h1 := HTD.out.1
          rw [List.take_length] at h1
          exact ⟨h1.own.mono (by have := HX.out.2.2.2; omega), h1.holder, h1.held⟩
end Go.Proofs.Ytahonoeiamjgbaa.LgTk

/- locks.Drop: the walk, by hand. -/
namespace Go.Proofs.Ytahonoeiamjgbaa.LgTk
open Go.RowKit Go.IntWalk Go.Maps Go.Proofs.YtahonoeiamjgbaaW.PrintWords Go.Proofs.Ytahonoeiamjgbaa.LgMaps Go.Proofs.Ytahonoeiamjgbaa.LgLocks Go.Proofs.Ytahonoeiamjgbaa.CdForm Go.Proofs.Ytahonoeiamjgbaa.Lg Go.Proofs.Ytahonoeiamjgbaa.LgAt Go.Proofs.Ytahonoeiamjgbaa.LgSl

theorem keyS_inv {key : Value} {kl : Lit} (h : keyOf Try.prog 9 key = some kl) : ∃ s : ByteArray, key = .string s ∧ s.size ≤ maxLen ∧ kl = keyL s := by
  cases key <;> simp [keyOf, Try.underlying9, mapKey] at h
  rename_i s
  exact ⟨s, rfl, h.1, h.2.symm⟩
/-- A table while it is ranged over and an instance's keys are struck: whoever is not to come is told. -/
structure Drops (D : DataW Value) (left : Lit → Bool) (inst : Int) (f : ByteArray → Int) : Prop where
  holder : ∀ k : ByteArray, k.size ≤ maxLen → val D (keyL k) (.int .i64 0) = .int .i64 (if f k = inst ∧ left (keyL k) = false then 0 else f k)
  held : ∀ k : ByteArray, k.size ≤ maxLen → Maps.has D (keyL k) = true → f k ≠ 0 ∧ (f k = inst → left (keyL k) = true)
theorem Drops.begin {w : World} {bh n : Nat} {D : DataW Value} {f : ByteArray → Int} (h : TabAt w bh n D f) (inst : Int) : Drops D (Maps.has D) inst f := by
  refine ⟨fun k hk => ?_, fun k hk hh => ⟨h.held k hk hh, fun _ => hh⟩⟩
  by_cases hc : f k = inst ∧ Maps.has D (keyL k) = false
  · rw [if_pos hc, val_none hc.2]
  · rw [if_neg hc, h.holder k hk]
theorem Drops.stop {w : World} {bh n : Nat} {D : DataW Value} {left : Lit → Bool} {inst : Int} {f : ByteArray → Int} (h : Drops D left inst f) (ho : w.ownsMap Try.prog 9 raw bh n D) (hl : ∀ kl, left kl = false) : TabAt w bh n D (fun k => if f k = inst then 0 else f k) := by
  refine ⟨ho, fun k hk => by rw [h.holder k hk]; simp [hl], fun k hk hh => ?_⟩
  have := h.held k hk hh
  by_cases e : f k = inst
  · have := this.2 e
    rw [hl] at this
    cases this
  · rw [if_neg e]
    exact this.1
/-- What comes next is told by the table. -/
theorem Drops.at {D : DataW Value} {left : Lit → Bool} {inst : Int} {f : ByteArray → Int} (h : Drops D left inst f) {s : ByteArray} (hs : s.size ≤ maxLen) {c : Value} (hat : ∀ zd, D.atKey (keyL s) zd = .held c) (hl : left (keyL s) = true) : c = .int .i64 (f s) := by
  have h1 := h.holder s hs
  rw [val_eq (hat _)] at h1
  rw [h1, hl]
  simp
theorem same_other {k s : ByteArray} (h : k ≠ s) : (keyL k).sameKey (keyL s) = false := Maps.sameKey_ne fun e => h (keyL_inj e)
theorem same_self (s : ByteArray) : (keyL s).sameKey (keyL s) = true := WideAt.sameKey_self (keyL_is s)
theorem Drops.strike {D : DataW Value} {left : Lit → Bool} {inst : Int} {f : ByteArray → Int} (h : Drops D left inst f) {s : ByteArray} (hs : f s = inst) : Drops (D.del (keyL s)) (fun z => left z && !z.sameKey (keyL s)) inst f := by
  refine ⟨fun k hk => ?_, fun k hk hh => ?_⟩
  · by_cases e : k = s
    · subst e
      rw [val_del_same]
      simp [same_self, hs]
    · rw [val_del_other (fun e' => e (keyL_inj e')), h.holder k hk]
      simp [same_other e]
  · by_cases e : k = s
    · subst e
      rw [Maps.has_del_same] at hh
      cases hh
    · rw [Maps.has_del_other (fun e' => e (keyL_inj e'))] at hh
      have := h.held k hk hh
      exact ⟨this.1, fun e' => by simp [same_other e, this.2 e']⟩
theorem Drops.pass {D : DataW Value} {left : Lit → Bool} {inst : Int} {f : ByteArray → Int} (h : Drops D left inst f) {s : ByteArray} (hs : f s ≠ inst) : Drops D (fun z => left z && !z.sameKey (keyL s)) inst f := by
  refine ⟨fun k hk => ?_, fun k hk hh => ?_⟩
  · by_cases e : k = s
    · subst e
      rw [h.holder k hk]
      simp [hs]
    · rw [h.holder k hk]
      simp [same_other e]
  · have := h.held k hk hh
    refine ⟨this.1, fun e' => ?_⟩
    have e : k ≠ s := fun e => hs (e ▸ e')
    simp [same_other e, this.2 e']

/-- THE STEP, in a table. -/
theorem raw_inv {v : Value} {y : DataW Value × List MemPlace} (h : raw v = some y) : y.1 = .held v := by
  unfold raw at h
  cases h
  rfl
theorem next_table (w : World) {ops : Array Oper} {rest : List Oper} {o : Oper} {a : Act} {Q : Exit → Act → World → Prop} (hg : o.guard = none) (it : Operand) (hop : o.op = Op.next it false) (b r n : Nat) (D : DataW Value) (left : Lit → Bool) (cnt : Nat) (inst : Int) (f : ByteArray → Int)
    (hit : a.eval it = .pointer (some ⟨r, 0, none⟩)) (h : w.ranges Try.prog 9 raw b r n D left cnt) (hD : Drops D left inst f)
    (hDone : (∀ kl, left kl = false) → wpList Try.prog ops Q rest (a.put o.dst (.tuple #[.bool false])) w)
    (hMore : ∀ (s : ByteArray) (w' : World) (cnt' : Nat), s.size ≤ maxLen → w'.ranges Try.prog 9 raw b r n D (fun z => left z && !z.sameKey (keyL s)) cnt' → cnt' < cnt →
      w.grownBy w' (some r) → w'.heap.size = w.heap.size → (Instr.entry (.pointer (some ⟨r, 0, none⟩))).run Try.prog w' = .ok (.tuple #[.string s, .int .i64 (f s)]) w' → wpList Try.prog ops Q rest (a.put o.dst (.tuple #[.bool true, .string s, .int .i64 (f s)])) w') :
    wpList Try.prog ops Q (o :: rest) a w :=
  wpList_next_ranges w hg it hop 9 lawS raw Value.string id (fun key kl hk => by obtain ⟨s, e, _⟩ := keyS_inv hk; exact ⟨s, e⟩) (fun v y _ => ⟨v, rfl⟩) b r n D left cnt hit h (fun _ hl => hDone hl) (fun s c kl y w' cnt' hk hl hv hat hrg hlt hgr hsz hen => by
    obtain ⟨s', e, hs, rfl⟩ := keyS_inv hk
    injection e with e
    subst e
    have hy : y.1 = .held c := raw_inv hv
    have hc : c = .int .i64 (f s) := hD.at hs (fun zd => by rw [hat, hy]) hl
    subst hc
    exact hMore s w' cnt' hs hrg hlt hgr hsz hen)

set_option maxHeartbeats 1000000 in
set_option maxRecDepth 100000 in
theorem drop_calls (w : World) (bl bh n : Nat) (D : DataW Value) (f : ByteArray → Int) (inst : Int) (h : TabAt w bh n D f) (hl : w.heap[bl]? = some (.cells #[.map (some bh)] 88 (0, 0))) :
    Calls Try.prog 26 #[.pointer (some ⟨bl, 0, none⟩), .int .i64 inst] w fun e w' => (∃ z, e = .returned (.int .i64 z)) ∧
      ∃ D', TabAt w' bh n D' (fun k => if f k = inst then 0 else f k) ∧ Chg (· = bh) w w' := by
  have hc0 : w.cell? ⟨bl, 0, none⟩ = some (.map (some bh)) := row_cell hl rfl
  have hne : bl ≠ bh := fun e => by
    obtain ⟨es, clock, hb, _⟩ := h.own
    rw [← e, hl] at hb
    cases hb
  have HL := Aside0.mk (And.intro hl (And.intro hne (Drops.begin h inst)))
  have HO := Aside0.mk h.own
  clear hl hne h
  go_enter Try.func26, Try.ntmps26
  go_wp2_with (first | (at_range; refine wpList_range_own _ rfl _ 86 rfl 9 3 lawS Try.underlying86 raw bh n D rfl HO.out ?_; intro w0 hrg0 hg0 hs0))
  go_frame
  have HR0 := Aside0.mk (And.intro hrg0 (And.intro hg0 hs0))
  clear hrg0 hg0 hs0 hc0
  go_loopw [5] (fun v5 wr => (∃ z, v5 = .int .i64 z) ∧ ∃ D' left cnt, wr.ranges Try.prog 9 raw bh w.heap.size n D' left cnt ∧ Drops D' left inst f ∧ Chg (· = bh) w wr) (fun _ wr => wr.rangeLeft bh w.heap.size)
  case atStart => exact ⟨⟨0, rfl⟩, D, _, _, HR0.out.1, HL.out.2.2, ⟨HR0.out.2.1.os, HR0.out.2.1.tape, HR0.out.2.1.output, HR0.out.2.1.size, fun k hk _ => HR0.out.2.1.block k hk (by simp)⟩⟩
  case round =>
    obtain ⟨⟨z, rfl⟩, D', left, cnt, hrg, hD, hC⟩ := hrel
    have HK := Aside0.mk (And.intro hrg (And.intro hD hC))
    clear hrg hD hC
    go_wp2_with (first | (at_next; refine next_table _ rfl _ rfl bh w.heap.size n D' left cnt inst f rfl HK.out.1 HK.out.2.1 ?_ ?_))
    · intro hl0
      go_wp2
      go_ret
      exact ⟨⟨_, rfl⟩, D', HK.out.2.1.stop HK.out.1.owns hl0, HK.out.2.2⟩
    · intro s w1 cnt1 hs hrg1 hlt hg1 hs1 hen
      have HN := Aside0.mk (And.intro hrg1 (And.intro hg1 (And.intro hlt hs)))
      clear hrg1 hlt hg1 hs1
      have hC1 : Chg (· = bh) w w1 := HK.out.2.2.onGrown HN.out.2.1 (.inl (Nat.le_refl _))
      have HC1 := Aside0.mk hC1
      have hc0 : w1.cell? ⟨bl, 0, none⟩ = some (.map (some bh)) := row_cell (hC1.row HL.out.1 HL.out.2.1) rfl
      clear hC1
      by_cases hf : f s = inst
      · have HF := Aside0.mk hf
        have hd : (f s == inst) = true := beq_iff_eq.2 hf
        clear hf
        generalize hfs : f s = m at *
        have HFS := Aside0.mk hfs
        clear hfs
        go_wp2_with (first | (at_delete; refine wpList_delete_ranges _ rfl _ _ 86 9 rfl 3 lawS Try.underlying86 raw bh w.heap.size n D' _ cnt1 rfl HN.out.1 _ (keyL s) rfl (keyS HN.out.2.2.2) ?_; intro w2 cnt2 hrg2 hle hturn; rw [Maps.strike_twice] at hrg2; have HE := Aside0.mk (And.intro hrg2 (And.intro hle hturn)); clear hrg2 hle hturn; go_frame))
        go_roundw
        case rel => exact ⟨⟨_, rfl⟩, _, _, _, HE.out.1, HK.out.2.1.strike (HFS.out.trans HF.out), HC1.out.onGrown HE.out.2.2.grown (.inr rfl)⟩
        case measure => rw [HE.out.1.left_eq, HK.out.1.left_eq]; have := HE.out.2.1; have := HN.out.2.2.1; omega
      · have HF := Aside0.mk hf
        have hd : (f s == inst) = false := beq_eq_false_iff_ne.2 hf
        clear hf
        generalize hfs : f s = m at *
        have HFS := Aside0.mk hfs
        clear hfs
        go_wp2
        go_roundw
        case rel => exact ⟨⟨_, rfl⟩, _, _, _, HN.out.1, HK.out.2.1.pass (fun e => HF.out (HFS.out.symm.trans e)), HC1.out⟩
        case measure => rw [HN.out.1.left_eq, HK.out.1.left_eq]; have := HN.out.2.2.1; omega
end Go.Proofs.Ytahonoeiamjgbaa.LgTk

/- ledger.Apply, the ways that change nothing: the walk, by hand. -/
namespace Go.Proofs.Ytahonoeiamjgbaa.LgTk
open Go.RowKit Go.IntWalk Go.Maps Go.Proofs.YtahonoeiamjgbaaW.PrintWords Go.Proofs.YtahonoeiamjgbaaW.PrintLast Go.Proofs.YtahonoeiamjgbaaW.PrintMore Go.Proofs.Ytahonoeiamjgbaa.CdForm Go.Proofs.Ytahonoeiamjgbaa.Lg Go.Proofs.Ytahonoeiamjgbaa.LgAt Go.Proofs.Ytahonoeiamjgbaa.Tabs Go.Proofs.Ytahonoeiamjgbaa.CdMay

/-- An event that came, as far as a ledger asks. -/
structure EvOk (w : World) (A : Option Addr) (e : CdEvent.D) : Prop where
  keys : Kd.C Kd.string w A e.keys.length e.keys
  len : e.keys.length ≤ 9000000000000000000
  sizes : ∀ k ∈ e.keys, k.size ≤ 9000000000000000000
  inst : wf e.inst
  step : wf e.step
/-- The blocks of a ledger's maps. -/
def _root_.Go.Proofs.Ytahonoeiamjgbaa.LgAt.Dat.mine (d : Dat) (k : Nat) : Prop := k = d.ba ∨ k = d.bb ∨ k = d.bh
/-- A ledger lies where it lay. -/
def _root_.Go.Proofs.Ytahonoeiamjgbaa.LgAt.Dat.same (d d' : Dat) : Prop := d'.ba = d.ba ∧ d'.bb = d.bb ∧ d'.bl = d.bl ∧ d'.bh = d.bh ∧ d'.n ≤ d.n + 2
/-- What Apply answers, as it lies. -/
def ApplyAt (w : World) (p : Nat) (d : Dat) (x : S × Int) (e : Ending) (w' : World) : Prop :=
  e = .returned (.int .i64 x.2) ∧ ∃ d', At w' p d' x.1 ∧ d.same d' ∧ Chg d.mine w w'
theorem ApplyAt.none {w w' : World} {p : Nat} {d : Dat} {g : S} (h : At w p d g) (hb : Below w.heap.size w w') (n : Int) : ApplyAt w p d (g, n) (.returned (.int .i64 n)) w' :=
  ⟨rfl, d, h.below hb, ⟨rfl, rfl, rfl, rfl, Nat.le_add_right _ _⟩, .of_below hb⟩
theorem rowE (w : World) (l : CdEvent.D) (v : Value) : (w.alloc (.cells (CdEvent.cells l v) 29)).heap[w.heap.size]? = some (.cells #[.int .i64 l.kind, .int .i64 l.inst, .int .i64 l.step, v] 29 (0, 0)) := alloc1 w _
variable [Tab]
/-- What a ledger tells in whatever has come. -/
structure Told (w : World) (p : Nat) (d : Dat) (g : S) (A : Option Addr) (c : Nat) (ev : CdEvent.D) : Prop where
  mark : ∀ W, Below w.heap.size w W → Calls Try.prog 12 #[.pointer (some ⟨p, 0, none⟩), .int .i64 ev.inst, .int .i64 ev.step] W fun e w' => e = .returned (.int .i64 (g.mark ev.inst ev.step)) ∧ w' = W
  freed : ∀ W, Below w.heap.size w W → Calls Try.prog 13 #[.pointer (some ⟨p, 0, none⟩), .int .i64 ev.inst] W fun e w' => e = .returned (.bool (decide (g.freed ev.inst > 0))) ∧ w' = W
  taken : ∀ W, Below w.heap.size w W → Calls Try.prog 25 #[.pointer (some ⟨p, 0, none⟩), .int .i64 ev.inst, .slice A ev.keys.length c] W fun e w' => e = .returned (.bool (taken g ev.inst ev.keys)) ∧ Below W.heap.size W w'
  event : ∀ W, Below w.heap.size w W → Calls Try.prog 24 #[.agg (CdEvent.cells ev (.slice A ev.keys.length c))] W fun e w' => e = .returned (wres (mayE ev) ⟨#[69]⟩ (CdEvent.form ev)) ∧ Below W.heap.size W w'
theorem told (w : World) (p : Nat) (d : Dat) (g : S) (A : Option Addr) (c : Nat) (ev : CdEvent.D) (h : At w p d g) (he : EvOk w A ev) (hc : ev.keys.length ≤ c) (hT : Tab.At w) : Told w p d g A c ev :=
  ⟨fun W hW => mark_calls W p d g _ _ (h.below hW) he.inst he.step, fun W hW => freed_calls W p d g _ (h.below hW) he.inst,
   fun W hW => taken_calls W p d g _ A c _ (h.below hW) (Kd.C_below he.keys hW) he.len (fun k hk => szLe (he.sizes k hk)),
   fun W hW => Event_calls W A c ev (Kd.C_below he.keys hW) hc he.sizes (Tab.below hT hW)⟩

set_option linter.unusedSimpArgs false in
set_option linter.unusedVariables false in
set_option maxHeartbeats 4000000 in
set_option maxRecDepth 100000 in
theorem apply_bad (w : World) (p : Nat) (d : Dat) (g : S) (A : Option Addr) (c : Nat) (ev : CdEvent.D) (h : At w p d g) (he : Told w p d g A c ev) (hm : mayE ev = false) :
    Calls Try.prog 9 #[.pointer (some ⟨p, 0, none⟩), .agg (CdEvent.cells ev (.slice A ev.keys.length c))] w (ApplyAt w p d (applyF g ev)) := by
  rw [show applyF g ev = (g, 1) by rw [applyF, if_pos hm]]
  have HA := Aside0.mk h
  have hev := he.event _ (below_one w (.cells (CdEvent.cells ev (.slice A ev.keys.length c)) 29))
  rw [hm] at hev
  clear h he hm
  obtain ⟨kind, inst, step, keys⟩ := ev
  simp only [CdEvent.cells, wres, Bool.false_eq_true, if_false] at *
  go_enter Try.func9, Try.ntmps9
  go_wp2_with (first | (go_at_call 24; refine hev.mono ?_; rintro e w1 ⟨rfl, hb⟩; have HB := Aside0.mk ((below_one w _).trans (hb.mono (below_one w _).size)); clear hb))
  go_returns
  exact ApplyAt.none HA.out HB.out 1

set_option linter.unusedSimpArgs false in
set_option linter.unusedVariables false in
set_option maxHeartbeats 4000000 in
set_option maxRecDepth 100000 in
/-- An event that may be, refused. -/
theorem apply_no (w : World) (p : Nat) (d : Dat) (g : S) (A : Option Addr) (c : Nat) (ev : CdEvent.D) (h : At w p d g) (he : Told w p d g A c ev) (hm : mayE ev = true)
    (hr : g.freed ev.inst > 0 ∨ (ev.kind = 5 ∧ g.mark ev.inst ev.step ≠ 1) ∨ (ev.kind ≠ 5 ∧ ev.kind ≠ 6 ∧ g.mark ev.inst ev.step ≠ 0) ∨ (ev.kind = 1 ∧ taken g ev.inst ev.keys = true)) :
    Calls Try.prog 9 #[.pointer (some ⟨p, 0, none⟩), .agg (CdEvent.cells ev (.slice A ev.keys.length c))] w (ApplyAt w p d (g, 170)) := by
  have HA := Aside0.mk h
  have hev := he.event _ (below_one w (.cells (CdEvent.cells ev (.slice A ev.keys.length c)) 29))
  rw [hm] at hev
  have HT := Aside0.mk (And.intro he.mark (And.intro he.freed he.taken))
  clear h he hm
  obtain ⟨kind, inst, step, keys⟩ := ev
  simp only [CdEvent.cells, wres, if_true] at *
  generalize (⟨_⟩ : ByteArray) = fs at *
  generalize hfr : decide (g.freed inst > 0) = fr at *
  generalize g.mark inst step = m at *
  generalize taken g inst keys = tk at *
  have hr' : (fr = true) ∨ (fr = false ∧ ((kind = 5 ∧ m ≠ 1) ∨ (kind ≠ 5 ∧ kind ≠ 6 ∧ m ≠ 0) ∨ (kind = 1 ∧ m = 0 ∧ tk = true))) := by
    cases fr
    · right
      refine ⟨rfl, ?_⟩
      rcases hr with h | h | h | h
      · have := of_decide_eq_false hfr; omega
      · exact .inl h
      · exact .inr (.inl h)
      · by_cases hm0 : m = 0
        · exact .inr (.inr ⟨h.1, hm0, h.2⟩)
        · exact .inr (.inl ⟨by omega, by omega, hm0⟩)
    · exact .inl rfl
  clear hr hfr
  go_enter Try.func9, Try.ntmps9
  go_wp2_with fail
  refine hev.mono ?_
  rintro e w1 ⟨rfl, hb⟩
  have k0 := row_below hb (rowE w ⟨kind, inst, step, keys⟩ (.slice A keys.length c))
  have HB := Aside0.mk ((below_one w _).trans (hb.mono (below_one w _).size))
  clear hb hev
  obtain ⟨q0, e0⟩ : ∃ q, q = w.heap.size := ⟨_, rfl⟩
  rw [← e0] at k0 ⊢
  have he0 : w1.cell? ⟨q0, 0, none⟩ = some (.int .i64 kind) := row_cell k0 rfl
  have he1 : w1.cell? ⟨q0, 1, none⟩ = some (.int .i64 inst) := row_cell k0 rfl
  have he2 : w1.cell? ⟨q0, 2, none⟩ = some (.int .i64 step) := row_cell k0 rfl
  have he3 : w1.cell? ⟨q0, 3, none⟩ = some (.slice A keys.length c) := row_cell k0 rfl
  clear k0 e0
  have hmk := HT.out.1 w1 HB.out
  have hfd := HT.out.2.1 w1.drew HB.out.drew
  have htk := HT.out.2.2 w1.drew HB.out.drew
  rcases hr' with rfl | ⟨rfl, ⟨rfl, hm1⟩ | ⟨h5, h6, hm0⟩ | ⟨rfl, rfl, rfl⟩⟩
  · skip
    go_wp2_with (first | (go_at_call 12; refine hmk.mono ?_; rintro e w2 ⟨rfl, rfl⟩))
    refine start_ (n := 8) (S := fun w' => w'.cell? ⟨q0, 0, none⟩ = some (.int .i64 kind)) (ds := []) #[false, false, false, false, false, false, false, false] (by kernel_rfl) rfl rfl ((by go_keep)) (fun hHeld => ?_)
    refine pure_ (i := 0) (N := some 25) (v := ?_) (a' := ?_) #[true, false, false, false, false, false, false, false] rfl rfl (by kernel_rfl) (fun _ _ _ h => h) (Or.inl ⟨by rfl, ?_⟩) ?_ ?_
    rotate_left
    · intro w'
      go_simp
      with_reducible rfl
    rotate_left
    · simp only [Act.put, List.setIfInBounds_toArray, List.set_cons_zero, List.set_cons_succ, i64_w, i32_w]
      rfl
    refine pure_ (i := 3) (N := some 28) (v := ?_) (a' := ?_) #[true, false, false, true, false, false, false, false] rfl rfl (by kernel_rfl) (fun _ _ _ h => h) (Or.inl ⟨by rfl, ?_⟩) ?_ ?_
    rotate_left
    · intro w'
      go_simp
      with_reducible rfl
    rotate_left
    · simp only [Act.put, List.setIfInBounds_toArray, List.set_cons_zero, List.set_cons_succ, i64_w, i32_w]
      rfl
    refine take_ (i := 1) (N := some 26) (v := ?_) (a' := ?_) #[true, true, false, true, false, false, false, false] rfl rfl (by kernel_rfl) (fun _ _ _ h => h) (Or.inl ⟨by rfl, ?_⟩) hHeld ?_ ?_
    rotate_left
    · intro w' s0
      go_simp
      with_reducible rfl
    rotate_left
    · simp only [Act.put, List.setIfInBounds_toArray, List.set_cons_zero, List.set_cons_succ, i64_w, i32_w]
      rfl
    refine pure_ (i := 2) (N := some 27) (v := ?_) (a' := ?_) #[true, true, true, true, false, false, false, false] rfl rfl (by kernel_rfl) (fun _ _ _ h => h) (Or.inl ⟨by rfl, ?_⟩) ?_ ?_
    rotate_left
    · intro w'
      go_simp
      with_reducible rfl
    rotate_left
    · simp only [Act.put, List.setIfInBounds_toArray, List.set_cons_zero, List.set_cons_succ, i64_w, i32_w]
      rfl
    refine pure_ (i := 6) (N := some 8) (v := ?_) (a' := ?_) #[true, true, true, true, false, false, true, false] rfl rfl (by kernel_rfl) (fun _ _ _ h => h) (Or.inl ⟨by rfl, ?_⟩) ?_ ?_
    rotate_left
    · intro w'
      go_simp
      with_reducible rfl
    rotate_left
    · simp only [Act.put, List.setIfInBounds_toArray, List.set_cons_zero, List.set_cons_succ, i64_w, i32_w]
      rfl
    refine take_ (i := 4) (N := some 29) (v := ?_) (a' := ?_) #[true, true, true, true, true, false, true, false] rfl rfl (by kernel_rfl) (fun _ _ _ h => h) (Or.inl ⟨by rfl, ?_⟩) hHeld ?_ ?_
    rotate_left
    · intro w' s0
      go_simp
      with_reducible rfl
    rotate_left
    · simp only [Act.put, List.setIfInBounds_toArray, List.set_cons_zero, List.set_cons_succ, i64_w, i32_w]
      rfl
    refine pure_ (i := 5) (N := some 30) (v := ?_) (a' := ?_) #[true, true, true, true, true, true, true, false] rfl rfl (by kernel_rfl) (fun _ _ _ h => h) (Or.inl ⟨by rfl, ?_⟩) ?_ ?_
    rotate_left
    · intro w'
      go_simp
      with_reducible rfl
    rotate_left
    · simp only [Act.put, List.setIfInBounds_toArray, List.set_cons_zero, List.set_cons_succ, i64_w, i32_w]
      rfl
    refine pure_ (i := 7) (N := some 9) (v := ?_) (a' := ?_) #[true, true, true, true, true, true, true, true] rfl rfl (by kernel_rfl) (fun _ _ _ h => h) (Or.inl ⟨by rfl, ?_⟩) ?_ ?_
    rotate_left
    · intro w'
      go_simp
      with_reducible rfl
    rotate_left
    · simp only [Act.put, List.setIfInBounds_toArray, List.set_cons_zero, List.set_cons_succ, i64_w, i32_w]
      rfl
    refine done_ (by kernel_rfl) ?_
    go_wp2_with (first | (go_at_call 13; refine hfd.mono ?_; rintro e w3 ⟨rfl, rfl⟩) | (go_at_call 25; refine htk.mono ?_; rintro e w3 ⟨rfl, hb3⟩; replace HB := Aside0.mk (HB.out.drew.trans (hb3.mono HB.out.drew.size)); clear hb3))
    go_returns
    first | exact ApplyAt.none HA.out HB.out.drew 170 | exact ApplyAt.none HA.out HB.out 170
  · (have hd1 : (m == 1) = false := beq_eq_false_iff_ne.2 hm1; have hd2 : (m != 1) = true := bne_iff_ne.2 hm1; clear hm1)
    go_wp2_with (first | (go_at_call 12; refine hmk.mono ?_; rintro e w2 ⟨rfl, rfl⟩))
    refine start_ (n := 8) (S := fun w' => w'.cell? ⟨q0, 0, none⟩ = some (.int .i64 5)) (ds := []) #[false, false, false, false, false, false, false, false] (by kernel_rfl) rfl rfl ((by go_keep)) (fun hHeld => ?_)
    refine pure_ (i := 0) (N := some 25) (v := ?_) (a' := ?_) #[true, false, false, false, false, false, false, false] rfl rfl (by kernel_rfl) (fun _ _ _ h => h) (Or.inl ⟨by rfl, ?_⟩) ?_ ?_
    rotate_left
    · intro w'
      go_simp
      with_reducible rfl
    rotate_left
    · simp only [Act.put, List.setIfInBounds_toArray, List.set_cons_zero, List.set_cons_succ, i64_w, i32_w]
      rfl
    refine pure_ (i := 3) (N := some 28) (v := ?_) (a' := ?_) #[true, false, false, true, false, false, false, false] rfl rfl (by kernel_rfl) (fun _ _ _ h => h) (Or.inl ⟨by rfl, ?_⟩) ?_ ?_
    rotate_left
    · intro w'
      go_simp
      with_reducible rfl
    rotate_left
    · simp only [Act.put, List.setIfInBounds_toArray, List.set_cons_zero, List.set_cons_succ, i64_w, i32_w]
      rfl
    refine take_ (i := 1) (N := some 26) (v := ?_) (a' := ?_) #[true, true, false, true, false, false, false, false] rfl rfl (by kernel_rfl) (fun _ _ _ h => h) (Or.inl ⟨by rfl, ?_⟩) hHeld ?_ ?_
    rotate_left
    · intro w' s0
      go_simp
      with_reducible rfl
    rotate_left
    · simp only [Act.put, List.setIfInBounds_toArray, List.set_cons_zero, List.set_cons_succ, i64_w, i32_w]
      rfl
    refine pure_ (i := 2) (N := some 27) (v := ?_) (a' := ?_) #[true, true, true, true, false, false, false, false] rfl rfl (by kernel_rfl) (fun _ _ _ h => h) (Or.inl ⟨by rfl, ?_⟩) ?_ ?_
    rotate_left
    · intro w'
      go_simp
      with_reducible rfl
    rotate_left
    · simp only [Act.put, List.setIfInBounds_toArray, List.set_cons_zero, List.set_cons_succ, i64_w, i32_w]
      rfl
    refine pure_ (i := 6) (N := some 8) (v := ?_) (a' := ?_) #[true, true, true, true, false, false, true, false] rfl rfl (by kernel_rfl) (fun _ _ _ h => h) (Or.inl ⟨by rfl, ?_⟩) ?_ ?_
    rotate_left
    · intro w'
      go_simp
      with_reducible rfl
    rotate_left
    · simp only [Act.put, List.setIfInBounds_toArray, List.set_cons_zero, List.set_cons_succ, i64_w, i32_w]
      rfl
    refine take_ (i := 4) (N := some 29) (v := ?_) (a' := ?_) #[true, true, true, true, true, false, true, false] rfl rfl (by kernel_rfl) (fun _ _ _ h => h) (Or.inl ⟨by rfl, ?_⟩) hHeld ?_ ?_
    rotate_left
    · intro w' s0
      go_simp
      with_reducible rfl
    rotate_left
    · simp only [Act.put, List.setIfInBounds_toArray, List.set_cons_zero, List.set_cons_succ, i64_w, i32_w]
      rfl
    refine pure_ (i := 5) (N := some 30) (v := ?_) (a' := ?_) #[true, true, true, true, true, true, true, false] rfl rfl (by kernel_rfl) (fun _ _ _ h => h) (Or.inl ⟨by rfl, ?_⟩) ?_ ?_
    rotate_left
    · intro w'
      go_simp
      with_reducible rfl
    rotate_left
    · simp only [Act.put, List.setIfInBounds_toArray, List.set_cons_zero, List.set_cons_succ, i64_w, i32_w]
      rfl
    refine pure_ (i := 7) (N := some 9) (v := ?_) (a' := ?_) #[true, true, true, true, true, true, true, true] rfl rfl (by kernel_rfl) (fun _ _ _ h => h) (Or.inl ⟨by rfl, ?_⟩) ?_ ?_
    rotate_left
    · intro w'
      go_simp
      with_reducible rfl
    rotate_left
    · simp only [Act.put, List.setIfInBounds_toArray, List.set_cons_zero, List.set_cons_succ, i64_w, i32_w]
      rfl
    refine done_ (by kernel_rfl) ?_
    go_wp2_with (first | (go_at_call 13; refine hfd.mono ?_; rintro e w3 ⟨rfl, rfl⟩) | (go_at_call 25; refine htk.mono ?_; rintro e w3 ⟨rfl, hb3⟩; replace HB := Aside0.mk (HB.out.drew.trans (hb3.mono HB.out.drew.size)); clear hb3))
    go_returns
    first | exact ApplyAt.none HA.out HB.out.drew 170 | exact ApplyAt.none HA.out HB.out 170
  · (have hd1 : (m == 0) = false := beq_eq_false_iff_ne.2 hm0; have hd2 : (m != 0) = true := bne_iff_ne.2 hm0; have hd3 : (kind == 5) = false := beq_eq_false_iff_ne.2 h5; have hd4 : (kind == 6) = false := beq_eq_false_iff_ne.2 h6; clear hm0 h5 h6)
    go_wp2_with (first | (go_at_call 12; refine hmk.mono ?_; rintro e w2 ⟨rfl, rfl⟩))
    refine start_ (n := 8) (S := fun w' => w'.cell? ⟨q0, 0, none⟩ = some (.int .i64 kind)) (ds := []) #[false, false, false, false, false, false, false, false] (by kernel_rfl) rfl rfl ((by go_keep)) (fun hHeld => ?_)
    refine pure_ (i := 0) (N := some 25) (v := ?_) (a' := ?_) #[true, false, false, false, false, false, false, false] rfl rfl (by kernel_rfl) (fun _ _ _ h => h) (Or.inl ⟨by rfl, ?_⟩) ?_ ?_
    rotate_left
    · intro w'
      go_simp
      with_reducible rfl
    rotate_left
    · simp only [Act.put, List.setIfInBounds_toArray, List.set_cons_zero, List.set_cons_succ, i64_w, i32_w]
      rfl
    refine pure_ (i := 3) (N := some 28) (v := ?_) (a' := ?_) #[true, false, false, true, false, false, false, false] rfl rfl (by kernel_rfl) (fun _ _ _ h => h) (Or.inl ⟨by rfl, ?_⟩) ?_ ?_
    rotate_left
    · intro w'
      go_simp
      with_reducible rfl
    rotate_left
    · simp only [Act.put, List.setIfInBounds_toArray, List.set_cons_zero, List.set_cons_succ, i64_w, i32_w]
      rfl
    refine take_ (i := 1) (N := some 26) (v := ?_) (a' := ?_) #[true, true, false, true, false, false, false, false] rfl rfl (by kernel_rfl) (fun _ _ _ h => h) (Or.inl ⟨by rfl, ?_⟩) hHeld ?_ ?_
    rotate_left
    · intro w' s0
      go_simp
      with_reducible rfl
    rotate_left
    · simp only [Act.put, List.setIfInBounds_toArray, List.set_cons_zero, List.set_cons_succ, i64_w, i32_w]
      rfl
    refine pure_ (i := 2) (N := some 27) (v := ?_) (a' := ?_) #[true, true, true, true, false, false, false, false] rfl rfl (by kernel_rfl) (fun _ _ _ h => h) (Or.inl ⟨by rfl, ?_⟩) ?_ ?_
    rotate_left
    · intro w'
      go_simp
      with_reducible rfl
    rotate_left
    · simp only [Act.put, List.setIfInBounds_toArray, List.set_cons_zero, List.set_cons_succ, i64_w, i32_w]
      rfl
    refine pure_ (i := 6) (N := some 8) (v := ?_) (a' := ?_) #[true, true, true, true, false, false, true, false] rfl rfl (by kernel_rfl) (fun _ _ _ h => h) (Or.inl ⟨by rfl, ?_⟩) ?_ ?_
    rotate_left
    · intro w'
      go_simp
      with_reducible rfl
    rotate_left
    · simp only [Act.put, List.setIfInBounds_toArray, List.set_cons_zero, List.set_cons_succ, i64_w, i32_w]
      rfl
    refine take_ (i := 4) (N := some 29) (v := ?_) (a' := ?_) #[true, true, true, true, true, false, true, false] rfl rfl (by kernel_rfl) (fun _ _ _ h => h) (Or.inl ⟨by rfl, ?_⟩) hHeld ?_ ?_
    rotate_left
    · intro w' s0
      go_simp
      with_reducible rfl
    rotate_left
    · simp only [Act.put, List.setIfInBounds_toArray, List.set_cons_zero, List.set_cons_succ, i64_w, i32_w]
      rfl
    refine pure_ (i := 5) (N := some 30) (v := ?_) (a' := ?_) #[true, true, true, true, true, true, true, false] rfl rfl (by kernel_rfl) (fun _ _ _ h => h) (Or.inl ⟨by rfl, ?_⟩) ?_ ?_
    rotate_left
    · intro w'
      go_simp
      with_reducible rfl
    rotate_left
    · simp only [Act.put, List.setIfInBounds_toArray, List.set_cons_zero, List.set_cons_succ, i64_w, i32_w]
      rfl
    refine pure_ (i := 7) (N := some 9) (v := ?_) (a' := ?_) #[true, true, true, true, true, true, true, true] rfl rfl (by kernel_rfl) (fun _ _ _ h => h) (Or.inl ⟨by rfl, ?_⟩) ?_ ?_
    rotate_left
    · intro w'
      go_simp
      with_reducible rfl
    rotate_left
    · simp only [Act.put, List.setIfInBounds_toArray, List.set_cons_zero, List.set_cons_succ, i64_w, i32_w]
      rfl
    refine done_ (by kernel_rfl) ?_
    go_wp2_with (first | (go_at_call 13; refine hfd.mono ?_; rintro e w3 ⟨rfl, rfl⟩) | (go_at_call 25; refine htk.mono ?_; rintro e w3 ⟨rfl, hb3⟩; replace HB := Aside0.mk (HB.out.drew.trans (hb3.mono HB.out.drew.size)); clear hb3))
    go_returns
    first | exact ApplyAt.none HA.out HB.out.drew 170 | exact ApplyAt.none HA.out HB.out 170
  · skip
    go_wp2_with (first | (go_at_call 12; refine hmk.mono ?_; rintro e w2 ⟨rfl, rfl⟩))
    refine start_ (n := 8) (S := fun w' => w'.cell? ⟨q0, 0, none⟩ = some (.int .i64 1)) (ds := []) #[false, false, false, false, false, false, false, false] (by kernel_rfl) rfl rfl ((by go_keep)) (fun hHeld => ?_)
    refine pure_ (i := 0) (N := some 25) (v := ?_) (a' := ?_) #[true, false, false, false, false, false, false, false] rfl rfl (by kernel_rfl) (fun _ _ _ h => h) (Or.inl ⟨by rfl, ?_⟩) ?_ ?_
    rotate_left
    · intro w'
      go_simp
      with_reducible rfl
    rotate_left
    · simp only [Act.put, List.setIfInBounds_toArray, List.set_cons_zero, List.set_cons_succ, i64_w, i32_w]
      rfl
    refine pure_ (i := 3) (N := some 28) (v := ?_) (a' := ?_) #[true, false, false, true, false, false, false, false] rfl rfl (by kernel_rfl) (fun _ _ _ h => h) (Or.inl ⟨by rfl, ?_⟩) ?_ ?_
    rotate_left
    · intro w'
      go_simp
      with_reducible rfl
    rotate_left
    · simp only [Act.put, List.setIfInBounds_toArray, List.set_cons_zero, List.set_cons_succ, i64_w, i32_w]
      rfl
    refine take_ (i := 1) (N := some 26) (v := ?_) (a' := ?_) #[true, true, false, true, false, false, false, false] rfl rfl (by kernel_rfl) (fun _ _ _ h => h) (Or.inl ⟨by rfl, ?_⟩) hHeld ?_ ?_
    rotate_left
    · intro w' s0
      go_simp
      with_reducible rfl
    rotate_left
    · simp only [Act.put, List.setIfInBounds_toArray, List.set_cons_zero, List.set_cons_succ, i64_w, i32_w]
      rfl
    refine pure_ (i := 2) (N := some 27) (v := ?_) (a' := ?_) #[true, true, true, true, false, false, false, false] rfl rfl (by kernel_rfl) (fun _ _ _ h => h) (Or.inl ⟨by rfl, ?_⟩) ?_ ?_
    rotate_left
    · intro w'
      go_simp
      with_reducible rfl
    rotate_left
    · simp only [Act.put, List.setIfInBounds_toArray, List.set_cons_zero, List.set_cons_succ, i64_w, i32_w]
      rfl
    refine pure_ (i := 6) (N := some 8) (v := ?_) (a' := ?_) #[true, true, true, true, false, false, true, false] rfl rfl (by kernel_rfl) (fun _ _ _ h => h) (Or.inl ⟨by rfl, ?_⟩) ?_ ?_
    rotate_left
    · intro w'
      go_simp
      with_reducible rfl
    rotate_left
    · simp only [Act.put, List.setIfInBounds_toArray, List.set_cons_zero, List.set_cons_succ, i64_w, i32_w]
      rfl
    refine take_ (i := 4) (N := some 29) (v := ?_) (a' := ?_) #[true, true, true, true, true, false, true, false] rfl rfl (by kernel_rfl) (fun _ _ _ h => h) (Or.inl ⟨by rfl, ?_⟩) hHeld ?_ ?_
    rotate_left
    · intro w' s0
      go_simp
      with_reducible rfl
    rotate_left
    · simp only [Act.put, List.setIfInBounds_toArray, List.set_cons_zero, List.set_cons_succ, i64_w, i32_w]
      rfl
    refine pure_ (i := 5) (N := some 30) (v := ?_) (a' := ?_) #[true, true, true, true, true, true, true, false] rfl rfl (by kernel_rfl) (fun _ _ _ h => h) (Or.inl ⟨by rfl, ?_⟩) ?_ ?_
    rotate_left
    · intro w'
      go_simp
      with_reducible rfl
    rotate_left
    · simp only [Act.put, List.setIfInBounds_toArray, List.set_cons_zero, List.set_cons_succ, i64_w, i32_w]
      rfl
    refine pure_ (i := 7) (N := some 9) (v := ?_) (a' := ?_) #[true, true, true, true, true, true, true, true] rfl rfl (by kernel_rfl) (fun _ _ _ h => h) (Or.inl ⟨by rfl, ?_⟩) ?_ ?_
    rotate_left
    · intro w'
      go_simp
      with_reducible rfl
    rotate_left
    · simp only [Act.put, List.setIfInBounds_toArray, List.set_cons_zero, List.set_cons_succ, i64_w, i32_w]
      rfl
    refine done_ (by kernel_rfl) ?_
    go_wp2_with (first | (go_at_call 13; refine hfd.mono ?_; rintro e w3 ⟨rfl, rfl⟩) | (go_at_call 25; refine htk.mono ?_; rintro e w3 ⟨rfl, hb3⟩; replace HB := Aside0.mk (HB.out.drew.trans (hb3.mono HB.out.drew.size)); clear hb3))
    go_returns
    first | exact ApplyAt.none HA.out HB.out.drew 170 | exact ApplyAt.none HA.out HB.out 170
end Go.Proofs.Ytahonoeiamjgbaa.LgTk

/- ledger.Apply of a free: the walk, by hand. -/
namespace Go.Proofs.Ytahonoeiamjgbaa.LgTk
open Go.RowKit Go.IntWalk Go.Maps Go.Proofs.YtahonoeiamjgbaaW.PrintWords Go.Proofs.YtahonoeiamjgbaaW.PrintLast Go.Proofs.YtahonoeiamjgbaaW.PrintMore Go.Proofs.Ytahonoeiamjgbaa.LgMaps Go.Proofs.Ytahonoeiamjgbaa.LgLocks Go.Proofs.Ytahonoeiamjgbaa.CdForm Go.Proofs.Ytahonoeiamjgbaa.Lg Go.Proofs.Ytahonoeiamjgbaa.LgAt Go.Proofs.Ytahonoeiamjgbaa.Tabs Go.Proofs.Ytahonoeiamjgbaa.CdMay

theorem grown_cell {a b : World} {j : Nat} (h : a.grownBy b (some j)) {p : Addr} {v : Value} (hp : a.cell? p = some v) (hj : p.block ≠ j) : b.cell? p = some v :=
  (World.cell?_of_block (w := a) (h.block p.block (World.block_lt_of_cell? a _ hp) (by simpa using hj))).trans hp
theorem row_ne {w : World} {k b n : Nat} {cs : Array Value} {t : TypeId} {P : Program} {kt : Nat} {R : Value → Option (DataW Value × List MemPlace)} {D : DataW Value} (h : w.heap[k]? = some (.cells cs t (0, 0))) (ho : w.ownsMap P kt R b n D) : k ≠ b := fun e => by
  obtain ⟨es, clock, hb, _⟩ := ho
  subst e
  rw [h] at hb
  cases hb
/-- What a ledger's rows are not. -/
theorem pmine {w : World} {p : Nat} {d : Dat} {g : S} (h : At w p d g) : ¬ d.mine p := by
  rintro (e | e | e)
  · exact row_ne h.row h.steps e
  · exact row_ne h.row h.frees e
  · exact row_ne h.row h.locks e
theorem lmine {w : World} {p : Nat} {d : Dat} {g : S} (h : At w p d g) : ¬ d.mine d.bl := by
  rintro (e | e | e)
  · exact row_ne h.table h.steps e
  · exact row_ne h.table h.frees e
  · exact row_ne h.table h.locks e
theorem mine_lt {w : World} {p : Nat} {d : Dat} {g : S} (h : At w p d g) {k : Nat} (hk : d.mine k) : k < w.heap.size := by
  rcases hk with rfl | rfl | rfl
  · exact h.steps.lt
  · exact h.frees.lt
  · exact h.locks.lt
theorem own_keep {w w' : World} {X : Nat → Prop} {P : Program} {kt b n : Nat} {R : Value → Option (DataW Value × List MemPlace)} {D : DataW Value} (ho : w.ownsMap P kt R b n D) (h : Chg X w w') (hx : ¬ X b) : w'.ownsMap P kt R b n D := ownsMap_move ho (h.block b ho.lt hx)
theorem freed_at {w : World} {p : Nat} {d : Dat} {g : S} (h : At w p d g) {inst : Int} (hi : wf inst) (h0 : g.freed inst = 0) : ∀ i, wf i → val (d.D2.put (.int .i64 inst) (.held (.int .i64 1))) (.int .i64 i) (.int .i64 0) = .int .i64 ((freeS g inst).freed i) := by
  intro i hw
  by_cases e : i = inst
  · subst e
    rw [val_put_same h.frees.isMap (by simp [WideAt.IsKeyLit])]
    show _ = Value.int .i64 (if i = i then g.freed i + 1 else g.freed i)
    rw [if_pos rfl, h0]
    rfl
  · rw [val_put_other (by simpa using e), h.freed i hw]
    show _ = Value.int .i64 (if i = inst then g.freed i + 1 else g.freed i)
    rw [if_neg e]
variable [Tab]

set_option linter.unusedSimpArgs false in
set_option linter.unusedVariables false in
set_option maxHeartbeats 4000000 in
set_option maxRecDepth 100000 in
theorem apply_free (w : World) (p : Nat) (d : Dat) (g : S) (A : Option Addr) (c : Nat) (inst step : Int) (keys : List ByteArray) (h : At w p d g) (hi : wf inst) (he : Told w p d g A c ⟨6, inst, step, keys⟩) (hm : mayE ⟨6, inst, step, keys⟩ = true) (h0 : g.freed inst = 0) (hroom : d.n + 2 < maxLen) :
    Calls Try.prog 9 #[.pointer (some ⟨p, 0, none⟩), .agg (CdEvent.cells ⟨6, inst, step, keys⟩ (.slice A keys.length c))] w (ApplyAt w p d (freeS g inst, 0)) := by
  have hev := he.event _ (below_one w (.cells (CdEvent.cells ⟨6, inst, step, keys⟩ (.slice A keys.length c)) 29))
  rw [hm] at hev
  have hfd0 := he.freed
  simp only at hfd0
  rw [show decide (g.freed inst > 0) = false from decide_eq_false (by omega)] at hfd0
  have HT := Aside0.mk (And.intro he.mark hfd0)
  have HA := Aside0.mk (And.intro h (And.intro hi (And.intro h0 hroom)))
  clear h he hm hi h0 hroom hfd0
  simp only [CdEvent.cells, wres, if_true] at *
  generalize (⟨_⟩ : ByteArray) = fs at *
  generalize hmk : g.mark inst step = m at *
  clear hmk
  go_enter Try.func9, Try.ntmps9
  go_wp2_with fail
  refine hev.mono ?_
  rintro e w1 ⟨rfl, hb⟩
  have k0 := row_below hb (rowE w ⟨6, inst, step, keys⟩ (.slice A keys.length c))
  have HB := Aside0.mk ((below_one w _).trans (hb.mono (below_one w _).size))
  clear hb hev
  obtain ⟨q0, e0⟩ : ∃ q, q = w.heap.size := ⟨_, rfl⟩
  rw [← e0] at k0 ⊢
  have he0 : w1.cell? ⟨q0, 0, none⟩ = some (.int .i64 6) := row_cell k0 rfl
  have he1 : w1.cell? ⟨q0, 1, none⟩ = some (.int .i64 inst) := row_cell k0 rfl
  have he2 : w1.cell? ⟨q0, 2, none⟩ = some (.int .i64 step) := row_cell k0 rfl
  have he3 : w1.cell? ⟨q0, 3, none⟩ = some (.slice A keys.length c) := row_cell k0 rfl
  have HE := Aside0.mk e0
  clear k0 e0
  have hmk := HT.out.1 w1 HB.out
  have hfd := HT.out.2 w1.drew HB.out.drew
  have hp1 : w1.cell? ⟨p, 1, none⟩ = some (.map (some d.bb)) := cell_below HB.out HA.out.1.cell1
  have hlook := fun w' (hw : w'.heap = w1.heap) => mlook (w := w') (ownsMap_move HA.out.1.frees ((congrArg (·[d.bb]?) hw).trans (HB.out.block d.bb HA.out.1.frees.lt))) lawI Try.underlying59 (zeroI w') (keyI HA.out.2.1)
  rw [HA.out.1.freed inst HA.out.2.1, HA.out.2.2.1] at hlook
  have HL := Aside0.mk hlook
  obtain ⟨w3, hput, hown, hgrow⟩ := mput (w := w1.drew.drew) (ownsMap_move HA.out.1.frees (HB.out.block d.bb HA.out.1.frees.lt)) lawI Try.underlying59 (by have := HA.out.2.2.2; omega) (v := .int .i64 (wrap64 1)) (keyI HA.out.2.1)
  rw [show wrap64 1 = 1 by unfold wrap64; omega] at hown
  have HG := Aside0.mk (And.intro hown hgrow)
  clear hown hgrow hlook
  go_wp2_with (first | (go_at_call 12; refine hmk.mono ?_; rintro e w2 ⟨rfl, rfl⟩))
  refine start_ (n := 8) (S := fun w' => w'.cell? ⟨q0, 0, none⟩ = some (.int .i64 6)) (ds := []) #[false, false, false, false, false, false, false, false] (by kernel_rfl) rfl rfl ((by go_keep)) (fun hHeld => ?_)
  refine pure_ (i := 0) (N := some 25) (v := ?_) (a' := ?_) #[true, false, false, false, false, false, false, false] rfl rfl (by kernel_rfl) (fun _ _ _ h => h) (Or.inl ⟨by rfl, ?_⟩) ?_ ?_
  rotate_left
  · intro w'
    go_simp
    with_reducible rfl
  rotate_left
  · simp only [Act.put, List.setIfInBounds_toArray, List.set_cons_zero, List.set_cons_succ, i64_w, i32_w]
    rfl
  refine pure_ (i := 3) (N := some 28) (v := ?_) (a' := ?_) #[true, false, false, true, false, false, false, false] rfl rfl (by kernel_rfl) (fun _ _ _ h => h) (Or.inl ⟨by rfl, ?_⟩) ?_ ?_
  rotate_left
  · intro w'
    go_simp
    with_reducible rfl
  rotate_left
  · simp only [Act.put, List.setIfInBounds_toArray, List.set_cons_zero, List.set_cons_succ, i64_w, i32_w]
    rfl
  refine take_ (i := 1) (N := some 26) (v := ?_) (a' := ?_) #[true, true, false, true, false, false, false, false] rfl rfl (by kernel_rfl) (fun _ _ _ h => h) (Or.inl ⟨by rfl, ?_⟩) hHeld ?_ ?_
  rotate_left
  · intro w' s0
    go_simp
    with_reducible rfl
  rotate_left
  · simp only [Act.put, List.setIfInBounds_toArray, List.set_cons_zero, List.set_cons_succ, i64_w, i32_w]
    rfl
  refine pure_ (i := 2) (N := some 27) (v := ?_) (a' := ?_) #[true, true, true, true, false, false, false, false] rfl rfl (by kernel_rfl) (fun _ _ _ h => h) (Or.inl ⟨by rfl, ?_⟩) ?_ ?_
  rotate_left
  · intro w'
    go_simp
    with_reducible rfl
  rotate_left
  · simp only [Act.put, List.setIfInBounds_toArray, List.set_cons_zero, List.set_cons_succ, i64_w, i32_w]
    rfl
  refine pure_ (i := 6) (N := some 8) (v := ?_) (a' := ?_) #[true, true, true, true, false, false, true, false] rfl rfl (by kernel_rfl) (fun _ _ _ h => h) (Or.inl ⟨by rfl, ?_⟩) ?_ ?_
  rotate_left
  · intro w'
    go_simp
    with_reducible rfl
  rotate_left
  · simp only [Act.put, List.setIfInBounds_toArray, List.set_cons_zero, List.set_cons_succ, i64_w, i32_w]
    rfl
  refine take_ (i := 4) (N := some 29) (v := ?_) (a' := ?_) #[true, true, true, true, true, false, true, false] rfl rfl (by kernel_rfl) (fun _ _ _ h => h) (Or.inl ⟨by rfl, ?_⟩) hHeld ?_ ?_
  rotate_left
  · intro w' s0
    go_simp
    with_reducible rfl
  rotate_left
  · simp only [Act.put, List.setIfInBounds_toArray, List.set_cons_zero, List.set_cons_succ, i64_w, i32_w]
    rfl
  refine pure_ (i := 5) (N := some 30) (v := ?_) (a' := ?_) #[true, true, true, true, true, true, true, false] rfl rfl (by kernel_rfl) (fun _ _ _ h => h) (Or.inl ⟨by rfl, ?_⟩) ?_ ?_
  rotate_left
  · intro w'
    go_simp
    with_reducible rfl
  rotate_left
  · simp only [Act.put, List.setIfInBounds_toArray, List.set_cons_zero, List.set_cons_succ, i64_w, i32_w]
    rfl
  refine pure_ (i := 7) (N := some 9) (v := ?_) (a' := ?_) #[true, true, true, true, true, true, true, true] rfl rfl (by kernel_rfl) (fun _ _ _ h => h) (Or.inl ⟨by rfl, ?_⟩) ?_ ?_
  rotate_left
  · intro w'
    go_simp
    with_reducible rfl
  rotate_left
  · simp only [Act.put, List.setIfInBounds_toArray, List.set_cons_zero, List.set_cons_succ, i64_w, i32_w]
    rfl
  refine done_ (by kernel_rfl) ?_
  go_wp2_with (first | (go_at_call 13; refine hfd.mono ?_; rintro e w3 ⟨rfl, rfl⟩))
  refine start_ (n := 9) (S := fun w' => w'.cell? ⟨p, 1, none⟩ = some (.map (some d.bb)) ∧ w'.cell? ⟨q0, 1, none⟩ = some (.int .i64 inst) ∧ (Instr.lookup 59 (.map (some d.bb)) (.int .i64 inst) false).run Try.prog w' = .ok (.int .i64 0) w') (ds := [8]) #[false, false, false, false, false, false, false, false, false] (by kernel_rfl) rfl rfl ⟨(by go_keep), (by go_keep), (HL.out _ rfl)⟩ (fun hHeld => ?_)
  refine pure_ (i := 0) (N := some 65) (v := ?_) (a' := ?_) #[true, false, false, false, false, false, false, false, false] rfl rfl (by kernel_rfl) (fun _ _ _ h => h) (Or.inl ⟨by rfl, ?_⟩) ?_ ?_
  rotate_left
  · intro w'
    go_simp
    with_reducible rfl
  rotate_left
  · simp only [Act.put, List.setIfInBounds_toArray, List.set_cons_zero, List.set_cons_succ, i64_w, i32_w]
    rfl
  refine pure_ (i := 1) (N := some 66) (v := ?_) (a' := ?_) #[true, true, false, false, false, false, false, false, false] rfl rfl (by kernel_rfl) (fun _ _ _ h => h) (Or.inl ⟨by rfl, ?_⟩) ?_ ?_
  rotate_left
  · intro w'
    go_simp
    with_reducible rfl
  rotate_left
  · simp only [Act.put, List.setIfInBounds_toArray, List.set_cons_zero, List.set_cons_succ, i64_w, i32_w]
    rfl
  refine pure_ (i := 2) (N := some 67) (v := ?_) (a' := ?_) #[true, true, true, false, false, false, false, false, false] rfl rfl (by kernel_rfl) (fun _ _ _ h => h) (Or.inl ⟨by rfl, ?_⟩) ?_ ?_
  rotate_left
  · intro w'
    go_simp
    with_reducible rfl
  rotate_left
  · simp only [Act.put, List.setIfInBounds_toArray, List.set_cons_zero, List.set_cons_succ, i64_w, i32_w]
    rfl
  refine pure_ (i := 4) (N := some 69) (v := ?_) (a' := ?_) #[true, true, true, false, true, false, false, false, false] rfl rfl (by kernel_rfl) (fun _ _ _ h => h) (Or.inl ⟨by rfl, ?_⟩) ?_ ?_
  rotate_left
  · intro w'
    go_simp
    with_reducible rfl
  rotate_left
  · simp only [Act.put, List.setIfInBounds_toArray, List.set_cons_zero, List.set_cons_succ, i64_w, i32_w]
    rfl
  refine take_ (i := 3) (N := some 68) (v := ?_) (a' := ?_) #[true, true, true, true, true, false, false, false, false] rfl rfl (by kernel_rfl) (fun _ _ _ h => h) (Or.inl ⟨by rfl, ?_⟩) hHeld ?_ ?_
  rotate_left
  · rintro w' ⟨s0, s1, s2⟩
    go_simp
    with_reducible rfl
  rotate_left
  · simp only [Act.put, List.setIfInBounds_toArray, List.set_cons_zero, List.set_cons_succ, i64_w, i32_w]
    rfl
  refine take_ (i := 5) (N := some 70) (v := ?_) (a' := ?_) #[true, true, true, true, true, true, false, false, false] rfl rfl (by kernel_rfl) (fun _ _ _ h => h) (Or.inl ⟨by rfl, ?_⟩) hHeld ?_ ?_
  rotate_left
  · rintro w' ⟨s0, s1, s2⟩
    go_simp
    with_reducible rfl
  rotate_left
  · simp only [Act.put, List.setIfInBounds_toArray, List.set_cons_zero, List.set_cons_succ, i64_w, i32_w]
    rfl
  refine take_ (i := 6) (N := some 71) (v := ?_) (a' := ?_) #[true, true, true, true, true, true, true, false, false] rfl rfl (by kernel_rfl) (fun _ _ _ h => h) (Or.inl ⟨by rfl, ?_⟩) hHeld ?_ ?_
  rotate_left
  · rintro w' ⟨s0, s1, s2⟩
    go_simp
    with_reducible rfl
  rotate_left
  · simp only [Act.put, List.setIfInBounds_toArray, List.set_cons_zero, List.set_cons_succ, i64_w, i32_w]
    rfl
  refine pure_ (i := 7) (N := some 72) (v := ?_) (a' := ?_) #[true, true, true, true, true, true, true, true, false] rfl rfl (by kernel_rfl) (fun _ _ _ h => h) (Or.inl ⟨by rfl, ?_⟩) ?_ ?_
  rotate_left
  · intro w'
    go_simp
    with_reducible rfl
  rotate_left
  · simp only [Act.put, List.setIfInBounds_toArray, List.set_cons_zero, List.set_cons_succ, i64_w, i32_w]
    rfl
  refine last_ (i := 8) (N := none) #[true, true, true, true, true, true, true, true, true] rfl rfl (by kernel_rfl) (by decide) (fun K hK => ?_)
  refine skip_ (w1 := ?_) (by rfl) rfl ?_ ?_
  rotate_left
  · go_simp
    rfl
  refine hK.out _ _ ?_
  clear hK K
  refine done_ (by kernel_rfl) ?_
  have hA2 : At w2.drew.drew p d g := HA.out.1.below HB.out.drew.drew
  have hC3 : Chg d.mine w w3 := (Chg.of_below HB.out.drew.drew).onGrown HG.out.2 (.inr (.inr (.inl rfl)))
  have hl3 : w3.ownsMap Try.prog 9 raw d.bh d.n d.D3 := hA2.locks.kept HG.out.2 (by simpa using fun e : d.bh = d.bb => hA2.ne.2.2 e.symm)
  have hs3 : w3.ownsMap Try.prog 65 raw d.ba d.n d.D1 := hA2.steps.kept HG.out.2 (by simpa using hA2.ne.1)
  have ht3 := hC3.row HA.out.1.table (lmine HA.out.1)
  have hp2 : w3.cell? ⟨p, 2, none⟩ = some (.pointer (some ⟨d.bl, 0, none⟩)) := hC3.cell HA.out.1.cell2 (pmine HA.out.1)
  have hq1 : w3.cell? ⟨q0, 1, none⟩ = some (.int .i64 inst) := grown_cell HG.out.2 (p := ⟨q0, 1, none⟩) (v := .int .i64 inst) (by simpa using he1) (fun e : q0 = d.bb => by have h1 := HA.out.1.frees.lt; have h2 := HE.out; omega)
  have hdr := drop_calls w3.drew d.bl d.bh d.n d.D3 g.holder inst ⟨hl3, HA.out.1.holder, HA.out.1.held⟩ ht3
  have H3 := Aside0.mk (And.intro hC3 (And.intro hs3 HG.out.1))
  clear hA2 hC3 hl3 hs3 ht3 hput hmk hfd
  go_wp2
  refine start_ (n := 7) (S := fun w' => w'.cell? ⟨p, 2, none⟩ = some (.pointer (some ⟨d.bl, 0, none⟩)) ∧ w'.cell? ⟨q0, 1, none⟩ = some (.int .i64 inst)) (ds := [6]) #[false, false, false, false, false, false, false] (by kernel_rfl) rfl rfl ⟨(by go_keep), (by go_keep)⟩ (fun hHeld => ?_)
  refine pure_ (i := 0) (N := some 73) (v := ?_) (a' := ?_) #[true, false, false, false, false, false, false] rfl rfl (by kernel_rfl) (fun _ _ _ h => h) (Or.inl ⟨by rfl, ?_⟩) ?_ ?_
  rotate_left
  · intro w'
    go_simp
    with_reducible rfl
  rotate_left
  · simp only [Act.put, List.setIfInBounds_toArray, List.set_cons_zero, List.set_cons_succ, i64_w, i32_w]
    rfl
  refine pure_ (i := 1) (N := some 74) (v := ?_) (a' := ?_) #[true, true, false, false, false, false, false] rfl rfl (by kernel_rfl) (fun _ _ _ h => h) (Or.inl ⟨by rfl, ?_⟩) ?_ ?_
  rotate_left
  · intro w'
    go_simp
    with_reducible rfl
  rotate_left
  · simp only [Act.put, List.setIfInBounds_toArray, List.set_cons_zero, List.set_cons_succ, i64_w, i32_w]
    rfl
  refine pure_ (i := 2) (N := some 75) (v := ?_) (a' := ?_) #[true, true, true, false, false, false, false] rfl rfl (by kernel_rfl) (fun _ _ _ h => h) (Or.inl ⟨by rfl, ?_⟩) ?_ ?_
  rotate_left
  · intro w'
    go_simp
    with_reducible rfl
  rotate_left
  · simp only [Act.put, List.setIfInBounds_toArray, List.set_cons_zero, List.set_cons_succ, i64_w, i32_w]
    rfl
  refine pure_ (i := 4) (N := some 77) (v := ?_) (a' := ?_) #[true, true, true, false, true, false, false] rfl rfl (by kernel_rfl) (fun _ _ _ h => h) (Or.inl ⟨by rfl, ?_⟩) ?_ ?_
  rotate_left
  · intro w'
    go_simp
    with_reducible rfl
  rotate_left
  · simp only [Act.put, List.setIfInBounds_toArray, List.set_cons_zero, List.set_cons_succ, i64_w, i32_w]
    rfl
  refine take_ (i := 3) (N := some 76) (v := ?_) (a' := ?_) #[true, true, true, true, true, false, false] rfl rfl (by kernel_rfl) (fun _ _ _ h => h) (Or.inl ⟨by rfl, ?_⟩) hHeld ?_ ?_
  rotate_left
  · rintro w' ⟨s0, s1⟩
    go_simp
    with_reducible rfl
  rotate_left
  · simp only [Act.put, List.setIfInBounds_toArray, List.set_cons_zero, List.set_cons_succ, i64_w, i32_w]
    rfl
  refine take_ (i := 5) (N := some 78) (v := ?_) (a' := ?_) #[true, true, true, true, true, true, false] rfl rfl (by kernel_rfl) (fun _ _ _ h => h) (Or.inl ⟨by rfl, ?_⟩) hHeld ?_ ?_
  rotate_left
  · rintro w' ⟨s0, s1⟩
    go_simp
    with_reducible rfl
  rotate_left
  · simp only [Act.put, List.setIfInBounds_toArray, List.set_cons_zero, List.set_cons_succ, i64_w, i32_w]
    rfl
  refine last_ (i := 6) (N := some 79) #[true, true, true, true, true, true, true] rfl rfl (by kernel_rfl) (by decide) (fun K hK => ?_)
  refine goes_ Try.func26 (by kernel_rfl) rfl #[.pointer (some ⟨d.bl, 0, none⟩), .int .i64 inst] (by rfl) rfl rfl (by simp only [List.map_toArray, List.map_cons, List.map_nil]; rfl) ?_
  with_reducible refine (hdr).mono ?_
  rintro e w4 ⟨⟨z, rfl⟩, D', hT4, hC4⟩
  refine ⟨_, rfl, ?_⟩
  refine hK.out _ _ ?_
  clear hK K
  refine norm_ (a' := ?_) ?_ ?_
  rotate_left
  · show Act.put _ (some 79) _ = _
    simp only [Act.put, List.setIfInBounds_toArray, List.set_cons_zero, List.set_cons_succ, i64_w, i32_w]
    rfl
  refine done_ (by kernel_rfl) ?_
  have hC : Chg d.mine w w4 := H3.out.1.drew.trans (hC4.mono fun k e => .inr (.inr e))
  have HF : Aside0 (ApplyAt w p d (freeS g inst, 0) (.returned (.int .i64 0)) w4) := by
    refine ⟨rfl, { d with D2 := d.D2.put (.int .i64 inst) (.held (.int .i64 1)), D3 := D', n := d.n + 1 }, ⟨?_, ?_, ?_, ?_, ?_, HA.out.1.ne, HA.out.1.mark, freed_at HA.out.1 HA.out.2.1 HA.out.2.2.1, hT4.holder, hT4.held⟩, ⟨rfl, rfl, rfl, rfl, by simp⟩, hC⟩
    · exact hC.row HA.out.1.row (pmine HA.out.1)
    · exact hC.row HA.out.1.table (lmine HA.out.1)
    · exact (own_keep (w := w3.drew) H3.out.2.1 hC4 HA.out.1.ne.2.1).mono (Nat.le_succ _)
    · exact own_keep (w := w3.drew) H3.out.2.2 hC4 HA.out.1.ne.2.2
    · exact hT4.own.mono (Nat.le_succ _)
  clear hC hC4 hT4
  go_wp2
  go_returns
  exact HF.out
end Go.Proofs.Ytahonoeiamjgbaa.LgTk

/- ledger.Apply that leaves a mark: the walk, by hand. -/
namespace Go.Proofs.Ytahonoeiamjgbaa.LgTk
open Go.RowKit Go.IntWalk Go.Maps Go.Proofs.YtahonoeiamjgbaaW.PrintWords Go.Proofs.YtahonoeiamjgbaaW.PrintLast Go.Proofs.YtahonoeiamjgbaaW.PrintMore Go.Proofs.Ytahonoeiamjgbaa.LgMaps Go.Proofs.Ytahonoeiamjgbaa.LgLocks Go.Proofs.Ytahonoeiamjgbaa.CdForm Go.Proofs.Ytahonoeiamjgbaa.Lg Go.Proofs.Ytahonoeiamjgbaa.LgAt Go.Proofs.Ytahonoeiamjgbaa.Tabs Go.Proofs.Ytahonoeiamjgbaa.CdMay

theorem kp_inj {i s i' s' : Int} (hi : wf i) (hs : wf s) (hi' : wf i') (hs' : wf s') (h : kp i s = kp i' s') : i = i' ∧ s = s' := by
  unfold kp at h
  injection h with h
  exact LgKeyP.keyP_inj hi hs hi' hs' h
theorem kp_is (i s : Int) : WideAt.IsKeyLit (kp i s) := by simp [kp, WideAt.IsKeyLit]
theorem mark_at {w : World} {p : Nat} {d : Dat} {g : S} (h : At w p d g) {inst step kind : Int} (hi : wf inst) (hs : wf step) (A' : Option Addr) (n' c' : Nat) :
    ∀ i s, wf i → wf s → ∃ A n c, val (d.D1.put (kp inst step) (.held (ent kind (.slice A' n' c')))) (kp i s) zent = ent (if i = inst ∧ s = step then kind else g.mark i s) (.slice A n c) := by
  intro i s wi ws
  by_cases e : i = inst ∧ s = step
  · obtain ⟨rfl, rfl⟩ := e
    rw [val_put_same h.steps.isMap (kp_is _ _), if_pos ⟨rfl, rfl⟩]
    exact ⟨_, _, _, rfl⟩
  · rw [val_put_other (fun e' => e (kp_inj wi ws hi hs e')), if_neg e]
    exact h.mark i s wi ws
theorem mark2_calls (k : Int) (w : World) : Calls Try.prog 27 #[.int .i64 k] w fun e w' => e = .returned (.int .i64 k) ∧ Below w.heap.size w w' :=
  (B.ledger_mark.calls k k w (by unfold B.ledger_mark.f; split <;> simp_all)).mono fun _ _ ⟨he, hd⟩ => ⟨he, hd.below⟩
variable [Tab]

set_option linter.unusedSimpArgs false in
set_option linter.unusedVariables false in
set_option maxHeartbeats 4000000 in
set_option maxRecDepth 100000 in
theorem apply_mark1 (w : World) (p : Nat) (d : Dat) (g : S) (A : Option Addr) (c : Nat) (kind inst step : Int) (keys : List ByteArray) (h : At w p d g) (hi : wf inst) (hs : wf step) (he : Told w p d g A c ⟨kind, inst, step, keys⟩) (hm : mayE ⟨kind, inst, step, keys⟩ = true) (h0 : g.freed inst = 0) (hroom : d.n + 2 < maxLen)
    (hk1 : kind ≠ 1) (hk6 : kind ≠ 6) (hmk : (kind = 5 ∧ g.mark inst step = 1) ∨ (kind ≠ 5 ∧ g.mark inst step = 0)) :
    Calls Try.prog 9 #[.pointer (some ⟨p, 0, none⟩), .agg (CdEvent.cells ⟨kind, inst, step, keys⟩ (.slice A keys.length c))] w (ApplyAt w p d (markS g ⟨kind, inst, step, keys⟩, 0)) := by
  have hev := he.event _ (below_one w (.cells (CdEvent.cells ⟨kind, inst, step, keys⟩ (.slice A keys.length c)) 29))
  rw [hm] at hev
  have hfd0 := he.freed
  simp only at hfd0
  rw [show decide (g.freed inst > 0) = false from decide_eq_false (by omega)] at hfd0
  have HT := Aside0.mk (And.intro he.mark hfd0)
  obtain ⟨A0, n0, c0, hval⟩ := h.mark inst step hi hs
  have HA := Aside0.mk (And.intro h (And.intro hi (And.intro hs (And.intro hroom (And.intro hval hk1)))))
  clear h he hm hi h0 hroom hfd0 hs hval
  simp only [CdEvent.cells, wres, if_true] at *
  generalize (⟨_⟩ : ByteArray) = fs at *
  generalize hmq : g.mark inst step = m at *
  clear hmq
  go_enter Try.func9, Try.ntmps9
  go_wp2_with fail
  refine hev.mono ?_
  rintro e w1 ⟨rfl, hb⟩
  have k0 := row_below hb (rowE w ⟨kind, inst, step, keys⟩ (.slice A keys.length c))
  have HB := Aside0.mk ((below_one w _).trans (hb.mono (below_one w _).size))
  clear hb hev
  obtain ⟨q0, e0⟩ : ∃ q, q = w.heap.size := ⟨_, rfl⟩
  rw [← e0] at k0 ⊢
  have HE := Aside0.mk (And.intro e0 k0)
  have he0 : w1.cell? ⟨q0, 0, none⟩ = some (.int .i64 kind) := row_cell k0 rfl
  have he1 : w1.cell? ⟨q0, 1, none⟩ = some (.int .i64 inst) := row_cell k0 rfl
  have he2 : w1.cell? ⟨q0, 2, none⟩ = some (.int .i64 step) := row_cell k0 rfl
  have he3 : w1.cell? ⟨q0, 3, none⟩ = some (.slice A keys.length c) := row_cell k0 rfl
  clear k0 e0
  have hmc := HT.out.1 w1 HB.out
  have hfd := HT.out.2 w1.drew HB.out.drew
  have hd1 : (kind == 1) = false := beq_eq_false_iff_ne.2 hk1
  have hd6 : (kind == 6) = false := beq_eq_false_iff_ne.2 hk6
  clear hk1 hk6
  rcases hmk with ⟨rfl, rfl⟩ | ⟨hk5, rfl⟩
  · skip
    go_wp2_with (first | (go_at_call 12; refine hmc.mono ?_; rintro e w2 ⟨rfl, rfl⟩))
    refine start_ (n := 8) (S := fun w' => w'.cell? ⟨q0, 0, none⟩ = some (.int .i64 5)) (ds := []) #[false, false, false, false, false, false, false, false] (by kernel_rfl) rfl rfl ((by go_keep)) (fun hHeld => ?_)
    refine pure_ (i := 0) (N := some 25) (v := ?_) (a' := ?_) #[true, false, false, false, false, false, false, false] rfl rfl (by kernel_rfl) (fun _ _ _ h => h) (Or.inl ⟨by rfl, ?_⟩) ?_ ?_
    rotate_left
    · intro w'
      go_simp
      with_reducible rfl
    rotate_left
    · simp only [Act.put, List.setIfInBounds_toArray, List.set_cons_zero, List.set_cons_succ, i64_w, i32_w]
      rfl
    refine pure_ (i := 3) (N := some 28) (v := ?_) (a' := ?_) #[true, false, false, true, false, false, false, false] rfl rfl (by kernel_rfl) (fun _ _ _ h => h) (Or.inl ⟨by rfl, ?_⟩) ?_ ?_
    rotate_left
    · intro w'
      go_simp
      with_reducible rfl
    rotate_left
    · simp only [Act.put, List.setIfInBounds_toArray, List.set_cons_zero, List.set_cons_succ, i64_w, i32_w]
      rfl
    refine take_ (i := 1) (N := some 26) (v := ?_) (a' := ?_) #[true, true, false, true, false, false, false, false] rfl rfl (by kernel_rfl) (fun _ _ _ h => h) (Or.inl ⟨by rfl, ?_⟩) hHeld ?_ ?_
    rotate_left
    · intro w' s0
      go_simp
      with_reducible rfl
    rotate_left
    · simp only [Act.put, List.setIfInBounds_toArray, List.set_cons_zero, List.set_cons_succ, i64_w, i32_w]
      rfl
    refine pure_ (i := 2) (N := some 27) (v := ?_) (a' := ?_) #[true, true, true, true, false, false, false, false] rfl rfl (by kernel_rfl) (fun _ _ _ h => h) (Or.inl ⟨by rfl, ?_⟩) ?_ ?_
    rotate_left
    · intro w'
      go_simp
      with_reducible rfl
    rotate_left
    · simp only [Act.put, List.setIfInBounds_toArray, List.set_cons_zero, List.set_cons_succ, i64_w, i32_w]
      rfl
    refine pure_ (i := 6) (N := some 8) (v := ?_) (a' := ?_) #[true, true, true, true, false, false, true, false] rfl rfl (by kernel_rfl) (fun _ _ _ h => h) (Or.inl ⟨by rfl, ?_⟩) ?_ ?_
    rotate_left
    · intro w'
      go_simp
      with_reducible rfl
    rotate_left
    · simp only [Act.put, List.setIfInBounds_toArray, List.set_cons_zero, List.set_cons_succ, i64_w, i32_w]
      rfl
    refine take_ (i := 4) (N := some 29) (v := ?_) (a' := ?_) #[true, true, true, true, true, false, true, false] rfl rfl (by kernel_rfl) (fun _ _ _ h => h) (Or.inl ⟨by rfl, ?_⟩) hHeld ?_ ?_
    rotate_left
    · intro w' s0
      go_simp
      with_reducible rfl
    rotate_left
    · simp only [Act.put, List.setIfInBounds_toArray, List.set_cons_zero, List.set_cons_succ, i64_w, i32_w]
      rfl
    refine pure_ (i := 5) (N := some 30) (v := ?_) (a' := ?_) #[true, true, true, true, true, true, true, false] rfl rfl (by kernel_rfl) (fun _ _ _ h => h) (Or.inl ⟨by rfl, ?_⟩) ?_ ?_
    rotate_left
    · intro w'
      go_simp
      with_reducible rfl
    rotate_left
    · simp only [Act.put, List.setIfInBounds_toArray, List.set_cons_zero, List.set_cons_succ, i64_w, i32_w]
      rfl
    refine pure_ (i := 7) (N := some 9) (v := ?_) (a' := ?_) #[true, true, true, true, true, true, true, true] rfl rfl (by kernel_rfl) (fun _ _ _ h => h) (Or.inl ⟨by rfl, ?_⟩) ?_ ?_
    rotate_left
    · intro w'
      go_simp
      with_reducible rfl
    rotate_left
    · simp only [Act.put, List.setIfInBounds_toArray, List.set_cons_zero, List.set_cons_succ, i64_w, i32_w]
      rfl
    refine done_ (by kernel_rfl) ?_
    go_wp2_with (first | (go_at_call 13; refine hfd.mono ?_; rintro e w3 ⟨rfl, rfl⟩))
    generalize hW : World.alloc w2 _ = w3
    have hb3 : Below w2.heap.size w2 w3 := hW ▸ below_one w2 _
    have kq : w3.heap[w2.heap.size]? = some (.cells #[.int .i64 inst, .int .i64 step] 65 (0, 0)) := hW ▸ alloc1 w2 _
    have HB3 := Aside0.mk (HB.out.trans (hb3.mono HB.out.size))
    have HQ := Aside0.mk (And.intro kq (row_below hb3 HE.out.2))
    clear hW
    have hq0 : w3.cell? ⟨w2.heap.size, 0, none⟩ = some (.int .i64 inst) := row_cell kq rfl
    have hq1 : w3.cell? ⟨w2.heap.size, 1, none⟩ = some (.int .i64 step) := row_cell kq rfl
    have hp0 : w3.cell? ⟨p, 0, none⟩ = some (.map (some d.ba)) := cell_below HB3.out HA.out.1.cell0
    have HL : Aside0 (∀ w', Below w.heap.size w w' → (Instr.lookup 58 (.map (some d.ba)) (.agg #[.int .i64 inst, .int .i64 step]) false).run Try.prog w' = .ok (.agg #[.int .i64 1, .slice A0 n0 c0]) w') := ⟨fun w' hw => by
      have h1 := mlook (w := w') (ownsMap_move HA.out.1.steps (hw.block d.ba HA.out.1.steps.lt)) LgKeyP.lawP Try.underlying58 (zeroE w') (LgKeyP.keyP HA.out.2.1 HA.out.2.2.1)
      rw [show (Lit.string (keyBytes [.int .i64 inst, .int .i64 step]) : Lit) = kp inst step from rfl, HA.out.2.2.2.2.1] at h1
      exact h1⟩
    have hfz : ∀ (W : World) cs j, (W.alloc (.cells cs 67)).frozen? ⟨W.heap.size, j, none⟩ = false := fun W _ j => free_of_row (alloc1 W _)
    clear kq hmc hfd he0 he1 he2 he3 hb3
    refine start_ (n := 8) (S := fun w' => w'.cell? ⟨p, 0, none⟩ = some (.map (some d.ba)) ∧ w'.cell? ⟨w2.heap.size, 0, none⟩ = some (.int .i64 inst) ∧ w'.cell? ⟨w2.heap.size, 1, none⟩ = some (.int .i64 step) ∧ (Instr.lookup 58 (.map (some d.ba)) (.agg #[.int .i64 inst, .int .i64 step]) false).run Try.prog w' = .ok (.agg #[.int .i64 1, .slice A0 n0 c0]) w') (ds := [7]) #[false, false, false, false, false, false, false, false] (by kernel_rfl) rfl rfl ⟨(by go_keep), (by go_keep), (by go_keep), (HL.out _ HB3.out.drew.drew)⟩ (fun hHeld => ?_)
    refine pure_ (i := 0) (N := some 85) (v := ?_) (a' := ?_) #[true, false, false, false, false, false, false, false] rfl rfl (by kernel_rfl) (fun _ _ _ h => h) (Or.inl ⟨by rfl, ?_⟩) ?_ ?_
    rotate_left
    · intro w'
      go_simp
      with_reducible rfl
    rotate_left
    · simp only [Act.put, List.setIfInBounds_toArray, List.set_cons_zero, List.set_cons_succ, i64_w, i32_w]
      rfl
    refine pure_ (i := 1) (N := some 86) (v := ?_) (a' := ?_) #[true, true, false, false, false, false, false, false] rfl rfl (by kernel_rfl) (fun _ _ _ h => h) (Or.inl ⟨by rfl, ?_⟩) ?_ ?_
    rotate_left
    · intro w'
      go_simp
      with_reducible rfl
    rotate_left
    · simp only [Act.put, List.setIfInBounds_toArray, List.set_cons_zero, List.set_cons_succ, i64_w, i32_w]
      rfl
    refine pure_ (i := 2) (N := some 87) (v := ?_) (a' := ?_) #[true, true, true, false, false, false, false, false] rfl rfl (by kernel_rfl) (fun _ _ _ h => h) (Or.inl ⟨by rfl, ?_⟩) ?_ ?_
    rotate_left
    · intro w'
      go_simp
      with_reducible rfl
    rotate_left
    · simp only [Act.put, List.setIfInBounds_toArray, List.set_cons_zero, List.set_cons_succ, i64_w, i32_w]
      rfl
    refine take_ (i := 3) (N := some 88) (v := ?_) (a' := ?_) #[true, true, true, true, false, false, false, false] rfl rfl (by kernel_rfl) (fun _ _ _ h => h) (Or.inl ⟨by rfl, ?_⟩) hHeld ?_ ?_
    rotate_left
    · rintro w' ⟨s0, s1, s2, s3⟩
      go_simp
      with_reducible rfl
    rotate_left
    · simp only [Act.put, List.setIfInBounds_toArray, List.set_cons_zero, List.set_cons_succ, i64_w, i32_w]
      rfl
    refine take_ (i := 4) (N := some 89) (v := ?_) (a' := ?_) #[true, true, true, true, true, false, false, false] rfl rfl (by kernel_rfl) (fun _ _ _ h => h) (Or.inl ⟨by rfl, ?_⟩) hHeld ?_ ?_
    rotate_left
    · rintro w' ⟨s0, s1, s2, s3⟩
      go_simp
      with_reducible rfl
    rotate_left
    · simp only [Act.put, List.setIfInBounds_toArray, List.set_cons_zero, List.set_cons_succ, i64_w, i32_w]
      rfl
    refine take_ (i := 5) (N := some 90) (v := ?_) (a' := ?_) #[true, true, true, true, true, true, false, false] rfl rfl (by kernel_rfl) (fun _ _ _ h => h) (Or.inl ⟨by rfl, ?_⟩) hHeld ?_ ?_
    rotate_left
    · rintro w' ⟨s0, s1, s2, s3⟩
      go_simp
      with_reducible rfl
    rotate_left
    · simp only [Act.put, List.setIfInBounds_toArray, List.set_cons_zero, List.set_cons_succ, i64_w, i32_w]
      rfl
    refine one_ (i := 6) (N := some 11) #[true, true, true, true, true, true, true, false] rfl rfl (by kernel_rfl) (by decide) (fun K hK => ?_)
    refine value_ (w1 := ?_) (v := ?_) (by rfl) rfl ?_ ?_
    rotate_left 2
    · go_simp
      constructor
      · rfl
      · rfl
    refine hK.out _ _ ⟨(by go_keep), (by go_keep), (by go_keep), (HL.out _ (HB3.out.drew.drew.alloc HB3.out.size _))⟩ (fun hHeld => ?_)
    clear hK K
    refine norm_ (a' := ?_) ?_ ?_
    rotate_left
    · show Act.put _ (some 11) _ = _
      simp only [Act.put, List.setIfInBounds_toArray, List.set_cons_zero, List.set_cons_succ, i64_w, i32_w]
      rfl
    refine last_ (i := 7) (N := none) #[true, true, true, true, true, true, true, true] rfl rfl (by kernel_rfl) (by decide) (fun K hK => ?_)
    refine skip_ (w1 := ?_) (by rfl) rfl ?_ ?_
    rotate_left
    · go_simp
      rfl
    refine hK.out _ _ ?_
    clear hK K
    refine done_ (by kernel_rfl) ?_
    generalize hW : World.alloc w3 _ = w4
    have hb4 : Below w3.heap.size w3 w4 := hW ▸ below_one w3 _
    have ke : w4.heap[w3.heap.size]? = some (.cells #[.int .i64 1, .slice A0 n0 c0] 67 (0, 0)) := hW ▸ alloc1 w3 _
    have HB4 := Aside0.mk (HB3.out.trans (hb4.mono HB3.out.size))
    have HK4 := Aside0.mk (And.intro ke (And.intro (row_below hb4 HQ.out.1) (row_below hb4 HQ.out.2)))
    have z0 : q0 < w3.heap.size := (Array.getElem?_eq_some_iff.1 HQ.out.2).1
    have z1 : w2.heap.size < w3.heap.size := (Array.getElem?_eq_some_iff.1 HQ.out.1).1
    have zp : p < w3.heap.size := Nat.lt_of_lt_of_le (Array.getElem?_eq_some_iff.1 HA.out.1.row).1 HB3.out.size
    have n0_ : q0 ≠ w3.heap.size := Nat.ne_of_lt z0
    have n1_ : w2.heap.size ≠ w3.heap.size := Nat.ne_of_lt z1
    have np_ : p ≠ w3.heap.size := Nat.ne_of_lt zp
    have n0' := n0_.symm
    have n1' := n1_.symm
    have np' := np_.symm
    have HZ := Aside0.mk HB3.out.size
    have hm0 : w4.drew.drew.cell? ⟨q0, 0, none⟩ = some (.int .i64 5) := row_cell (w := w4.drew.drew) HK4.out.2.2 rfl
    clear hW hb4 ke z0 z1 zp hq0 hq1 hp0 hfz
    go_wp2_with (first | (go_at_call 27; refine (mark2_calls _ _).mono ?_; rintro e w5 ⟨rfl, hb5⟩; have HB5 := Aside0.mk (HB4.out.drew.drew.trans (hb5.mono HB4.out.size)); have ke := row_below hb5 HK4.out.1; have kq := row_below hb5 HK4.out.2.1; have k0 := row_below hb5 HK4.out.2.2; have HK5 := Aside0.mk (And.intro ke (And.intro kq k0)); have hv0 : w5.cell? ⟨w3.heap.size, 0, none⟩ = some (.int .i64 1) := row_cell ke rfl; have hv1 : w5.cell? ⟨w3.heap.size, 1, none⟩ = some (.slice A0 n0 c0) := row_cell ke rfl; have he0 : w5.cell? ⟨q0, 0, none⟩ = some (.int .i64 5) := row_cell k0 rfl; have hf5 : ∀ j, w5.frozen? ⟨w3.heap.size, j, none⟩ = false := fun j => free_of_row ke; clear ke kq k0 hb5 hm0))
    generalize hW : World.setCell w5 _ _ = w6
    have ke6 : w6.heap[w3.heap.size]? = some (.cells #[.int .i64 5, .slice A0 n0 c0] 67 (0, 0)) := hW ▸ row_setCell HK5.out.1 0 _
    have kq6 : w6.heap[w2.heap.size]? = some (.cells #[.int .i64 inst, .int .i64 step] 65 (0, 0)) := hW ▸ row_setCell_ne HK5.out.2.1 ⟨w3.heap.size, 0, none⟩ _ n1_
    have HB6 : Aside0 (Below w.heap.size w w6) := ⟨hW ▸ HB5.out.setCell HZ.out _⟩
    clear hW hv0 hv1 he0 hf5
    have hv0 : w6.cell? ⟨w3.heap.size, 0, none⟩ = some (.int .i64 5) := row_cell ke6 rfl
    have hv1 : w6.cell? ⟨w3.heap.size, 1, none⟩ = some (.slice A0 n0 c0) := row_cell ke6 rfl
    have hq0 : w6.cell? ⟨w2.heap.size, 0, none⟩ = some (.int .i64 inst) := row_cell kq6 rfl
    have hq1 : w6.cell? ⟨w2.heap.size, 1, none⟩ = some (.int .i64 step) := row_cell kq6 rfl
    have hp0 : w6.cell? ⟨p, 0, none⟩ = some (.map (some d.ba)) := cell_below HB6.out HA.out.1.cell0
    clear ke6 kq6
    obtain ⟨w7, hput, hown, hgrow⟩ := mput (w := w6.drew) (ownsMap_move HA.out.1.steps (HB6.out.block d.ba HA.out.1.steps.lt)) LgKeyP.lawP Try.underlying58 (by have := HA.out.2.2.2.1; omega) (v := .agg #[.int .i64 5, .slice A0 n0 c0]) (LgKeyP.keyP HA.out.2.1 HA.out.2.2.1)
    have HG := Aside0.mk (And.intro hown hgrow)
    clear hown hgrow
    refine start_ (n := 7) (S := fun w' => w'.cell? ⟨p, 0, none⟩ = some (.map (some d.ba)) ∧ w'.cell? ⟨w2.heap.size, 0, none⟩ = some (.int .i64 inst) ∧ w'.cell? ⟨w2.heap.size, 1, none⟩ = some (.int .i64 step) ∧ w'.cell? ⟨w3.heap.size, 0, none⟩ = some (.int .i64 5) ∧ w'.cell? ⟨w3.heap.size, 1, none⟩ = some (.slice A0 n0 c0)) (ds := [6]) #[false, false, false, false, false, false, false] (by kernel_rfl) rfl rfl ⟨(by go_keep), (by go_keep), (by go_keep), (by go_keep), (by go_keep)⟩ (fun hHeld => ?_)
    refine pure_ (i := 0) (N := some 111) (v := ?_) (a' := ?_) #[true, false, false, false, false, false, false] rfl rfl (by kernel_rfl) (fun _ _ _ h => h) (Or.inl ⟨by rfl, ?_⟩) ?_ ?_
    rotate_left
    · intro w'
      go_simp
      with_reducible rfl
    rotate_left
    · simp only [Act.put, List.setIfInBounds_toArray, List.set_cons_zero, List.set_cons_succ, i64_w, i32_w]
      rfl
    refine pure_ (i := 1) (N := some 112) (v := ?_) (a' := ?_) #[true, true, false, false, false, false, false] rfl rfl (by kernel_rfl) (fun _ _ _ h => h) (Or.inl ⟨by rfl, ?_⟩) ?_ ?_
    rotate_left
    · intro w'
      go_simp
      with_reducible rfl
    rotate_left
    · simp only [Act.put, List.setIfInBounds_toArray, List.set_cons_zero, List.set_cons_succ, i64_w, i32_w]
      rfl
    refine pure_ (i := 2) (N := some 113) (v := ?_) (a' := ?_) #[true, true, true, false, false, false, false] rfl rfl (by kernel_rfl) (fun _ _ _ h => h) (Or.inl ⟨by rfl, ?_⟩) ?_ ?_
    rotate_left
    · intro w'
      go_simp
      with_reducible rfl
    rotate_left
    · simp only [Act.put, List.setIfInBounds_toArray, List.set_cons_zero, List.set_cons_succ, i64_w, i32_w]
      rfl
    refine take_ (i := 3) (N := some 114) (v := ?_) (a' := ?_) #[true, true, true, true, false, false, false] rfl rfl (by kernel_rfl) (fun _ _ _ h => h) (Or.inl ⟨by rfl, ?_⟩) hHeld ?_ ?_
    rotate_left
    · rintro w' ⟨s0, s1, s2, s3, s4⟩
      go_simp
      with_reducible rfl
    rotate_left
    · simp only [Act.put, List.setIfInBounds_toArray, List.set_cons_zero, List.set_cons_succ, i64_w, i32_w]
      rfl
    refine take_ (i := 4) (N := some 115) (v := ?_) (a' := ?_) #[true, true, true, true, true, false, false] rfl rfl (by kernel_rfl) (fun _ _ _ h => h) (Or.inl ⟨by rfl, ?_⟩) hHeld ?_ ?_
    rotate_left
    · rintro w' ⟨s0, s1, s2, s3, s4⟩
      go_simp
      with_reducible rfl
    rotate_left
    · simp only [Act.put, List.setIfInBounds_toArray, List.set_cons_zero, List.set_cons_succ, i64_w, i32_w]
      rfl
    refine take_ (i := 5) (N := some 116) (v := ?_) (a' := ?_) #[true, true, true, true, true, true, false] rfl rfl (by kernel_rfl) (fun _ _ _ h => h) (Or.inl ⟨by rfl, ?_⟩) hHeld ?_ ?_
    rotate_left
    · rintro w' ⟨s0, s1, s2, s3, s4⟩
      go_simp
      with_reducible rfl
    rotate_left
    · simp only [Act.put, List.setIfInBounds_toArray, List.set_cons_zero, List.set_cons_succ, i64_w, i32_w]
      rfl
    refine last_ (i := 6) (N := none) #[true, true, true, true, true, true, true] rfl rfl (by kernel_rfl) (by decide) (fun K hK => ?_)
    refine skip_ (w1 := ?_) (by rfl) rfl ?_ ?_
    rotate_left
    · go_simp
      rfl
    refine hK.out _ _ ?_
    clear hK K
    refine done_ (by kernel_rfl) ?_
    have hC : Chg d.mine w w7 := (Chg.of_below HB6.out.drew).onGrown HG.out.2 (.inr (.inl rfl))
    have hA6 : At w6.drew p d g := HA.out.1.below HB6.out.drew
    have HF : Aside0 (ApplyAt w p d (markS g ⟨5, inst, step, keys⟩, 0) (.returned (.int .i64 0)) w7) := by
      refine ⟨rfl, { d with D1 := d.D1.put (kp inst step) (.held (ent 5 (.slice A0 n0 c0))), n := d.n + 1 }, ⟨hC.row HA.out.1.row (pmine HA.out.1), hC.row HA.out.1.table (lmine HA.out.1), HG.out.1, ?_, ?_, HA.out.1.ne, mark_at HA.out.1 HA.out.2.1 HA.out.2.2.1 A0 n0 c0, HA.out.1.freed, ?_, ?_⟩, ⟨rfl, rfl, rfl, rfl, by simp⟩, hC⟩
      · exact (hA6.frees.kept HG.out.2 (by simpa using fun e : d.bb = d.ba => hA6.ne.1 e.symm)).mono (Nat.le_succ _)
      · exact (hA6.locks.kept HG.out.2 (by simpa using fun e : d.bh = d.ba => hA6.ne.2.1 e.symm)).mono (Nat.le_succ _)
      · intro k hk
        show _ = Value.int .i64 (if (5 : Int) = 1 ∧ isIn keys k = true then inst else g.holder k)
        rw [if_neg (fun e => HA.out.2.2.2.2.2 e.1)]
        exact HA.out.1.holder k hk
      · intro k hk hh
        show (if (5 : Int) = 1 ∧ isIn keys k = true then inst else g.holder k) ≠ 0
        rw [if_neg (fun e => HA.out.2.2.2.2.2 e.1)]
        exact HA.out.1.held k hk hh
    clear hC hA6
    go_wp2
    go_returns
    exact HF.out
  · (have hd5 : (kind == 5) = false := beq_eq_false_iff_ne.2 hk5; clear hk5)
    go_wp2_with (first | (go_at_call 12; refine hmc.mono ?_; rintro e w2 ⟨rfl, rfl⟩))
    refine start_ (n := 8) (S := fun w' => w'.cell? ⟨q0, 0, none⟩ = some (.int .i64 kind)) (ds := []) #[false, false, false, false, false, false, false, false] (by kernel_rfl) rfl rfl ((by go_keep)) (fun hHeld => ?_)
    refine pure_ (i := 0) (N := some 25) (v := ?_) (a' := ?_) #[true, false, false, false, false, false, false, false] rfl rfl (by kernel_rfl) (fun _ _ _ h => h) (Or.inl ⟨by rfl, ?_⟩) ?_ ?_
    rotate_left
    · intro w'
      go_simp
      with_reducible rfl
    rotate_left
    · simp only [Act.put, List.setIfInBounds_toArray, List.set_cons_zero, List.set_cons_succ, i64_w, i32_w]
      rfl
    refine pure_ (i := 3) (N := some 28) (v := ?_) (a' := ?_) #[true, false, false, true, false, false, false, false] rfl rfl (by kernel_rfl) (fun _ _ _ h => h) (Or.inl ⟨by rfl, ?_⟩) ?_ ?_
    rotate_left
    · intro w'
      go_simp
      with_reducible rfl
    rotate_left
    · simp only [Act.put, List.setIfInBounds_toArray, List.set_cons_zero, List.set_cons_succ, i64_w, i32_w]
      rfl
    refine take_ (i := 1) (N := some 26) (v := ?_) (a' := ?_) #[true, true, false, true, false, false, false, false] rfl rfl (by kernel_rfl) (fun _ _ _ h => h) (Or.inl ⟨by rfl, ?_⟩) hHeld ?_ ?_
    rotate_left
    · intro w' s0
      go_simp
      with_reducible rfl
    rotate_left
    · simp only [Act.put, List.setIfInBounds_toArray, List.set_cons_zero, List.set_cons_succ, i64_w, i32_w]
      rfl
    refine pure_ (i := 2) (N := some 27) (v := ?_) (a' := ?_) #[true, true, true, true, false, false, false, false] rfl rfl (by kernel_rfl) (fun _ _ _ h => h) (Or.inl ⟨by rfl, ?_⟩) ?_ ?_
    rotate_left
    · intro w'
      go_simp
      with_reducible rfl
    rotate_left
    · simp only [Act.put, List.setIfInBounds_toArray, List.set_cons_zero, List.set_cons_succ, i64_w, i32_w]
      rfl
    refine pure_ (i := 6) (N := some 8) (v := ?_) (a' := ?_) #[true, true, true, true, false, false, true, false] rfl rfl (by kernel_rfl) (fun _ _ _ h => h) (Or.inl ⟨by rfl, ?_⟩) ?_ ?_
    rotate_left
    · intro w'
      go_simp
      with_reducible rfl
    rotate_left
    · simp only [Act.put, List.setIfInBounds_toArray, List.set_cons_zero, List.set_cons_succ, i64_w, i32_w]
      rfl
    refine take_ (i := 4) (N := some 29) (v := ?_) (a' := ?_) #[true, true, true, true, true, false, true, false] rfl rfl (by kernel_rfl) (fun _ _ _ h => h) (Or.inl ⟨by rfl, ?_⟩) hHeld ?_ ?_
    rotate_left
    · intro w' s0
      go_simp
      with_reducible rfl
    rotate_left
    · simp only [Act.put, List.setIfInBounds_toArray, List.set_cons_zero, List.set_cons_succ, i64_w, i32_w]
      rfl
    refine pure_ (i := 5) (N := some 30) (v := ?_) (a' := ?_) #[true, true, true, true, true, true, true, false] rfl rfl (by kernel_rfl) (fun _ _ _ h => h) (Or.inl ⟨by rfl, ?_⟩) ?_ ?_
    rotate_left
    · intro w'
      go_simp
      with_reducible rfl
    rotate_left
    · simp only [Act.put, List.setIfInBounds_toArray, List.set_cons_zero, List.set_cons_succ, i64_w, i32_w]
      rfl
    refine pure_ (i := 7) (N := some 9) (v := ?_) (a' := ?_) #[true, true, true, true, true, true, true, true] rfl rfl (by kernel_rfl) (fun _ _ _ h => h) (Or.inl ⟨by rfl, ?_⟩) ?_ ?_
    rotate_left
    · intro w'
      go_simp
      with_reducible rfl
    rotate_left
    · simp only [Act.put, List.setIfInBounds_toArray, List.set_cons_zero, List.set_cons_succ, i64_w, i32_w]
      rfl
    refine done_ (by kernel_rfl) ?_
    go_wp2_with (first | (go_at_call 13; refine hfd.mono ?_; rintro e w3 ⟨rfl, rfl⟩))
    generalize hW : World.alloc w2 _ = w3
    have hb3 : Below w2.heap.size w2 w3 := hW ▸ below_one w2 _
    have kq : w3.heap[w2.heap.size]? = some (.cells #[.int .i64 inst, .int .i64 step] 65 (0, 0)) := hW ▸ alloc1 w2 _
    have HB3 := Aside0.mk (HB.out.trans (hb3.mono HB.out.size))
    have HQ := Aside0.mk (And.intro kq (row_below hb3 HE.out.2))
    clear hW
    have hq0 : w3.cell? ⟨w2.heap.size, 0, none⟩ = some (.int .i64 inst) := row_cell kq rfl
    have hq1 : w3.cell? ⟨w2.heap.size, 1, none⟩ = some (.int .i64 step) := row_cell kq rfl
    have hp0 : w3.cell? ⟨p, 0, none⟩ = some (.map (some d.ba)) := cell_below HB3.out HA.out.1.cell0
    have HL : Aside0 (∀ w', Below w.heap.size w w' → (Instr.lookup 58 (.map (some d.ba)) (.agg #[.int .i64 inst, .int .i64 step]) false).run Try.prog w' = .ok (.agg #[.int .i64 0, .slice A0 n0 c0]) w') := ⟨fun w' hw => by
      have h1 := mlook (w := w') (ownsMap_move HA.out.1.steps (hw.block d.ba HA.out.1.steps.lt)) LgKeyP.lawP Try.underlying58 (zeroE w') (LgKeyP.keyP HA.out.2.1 HA.out.2.2.1)
      rw [show (Lit.string (keyBytes [.int .i64 inst, .int .i64 step]) : Lit) = kp inst step from rfl, HA.out.2.2.2.2.1] at h1
      exact h1⟩
    have hfz : ∀ (W : World) cs j, (W.alloc (.cells cs 67)).frozen? ⟨W.heap.size, j, none⟩ = false := fun W _ j => free_of_row (alloc1 W _)
    clear kq hmc hfd he0 he1 he2 he3 hb3
    refine start_ (n := 8) (S := fun w' => w'.cell? ⟨p, 0, none⟩ = some (.map (some d.ba)) ∧ w'.cell? ⟨w2.heap.size, 0, none⟩ = some (.int .i64 inst) ∧ w'.cell? ⟨w2.heap.size, 1, none⟩ = some (.int .i64 step) ∧ (Instr.lookup 58 (.map (some d.ba)) (.agg #[.int .i64 inst, .int .i64 step]) false).run Try.prog w' = .ok (.agg #[.int .i64 0, .slice A0 n0 c0]) w') (ds := [7]) #[false, false, false, false, false, false, false, false] (by kernel_rfl) rfl rfl ⟨(by go_keep), (by go_keep), (by go_keep), (HL.out _ HB3.out.drew.drew)⟩ (fun hHeld => ?_)
    refine pure_ (i := 0) (N := some 85) (v := ?_) (a' := ?_) #[true, false, false, false, false, false, false, false] rfl rfl (by kernel_rfl) (fun _ _ _ h => h) (Or.inl ⟨by rfl, ?_⟩) ?_ ?_
    rotate_left
    · intro w'
      go_simp
      with_reducible rfl
    rotate_left
    · simp only [Act.put, List.setIfInBounds_toArray, List.set_cons_zero, List.set_cons_succ, i64_w, i32_w]
      rfl
    refine pure_ (i := 1) (N := some 86) (v := ?_) (a' := ?_) #[true, true, false, false, false, false, false, false] rfl rfl (by kernel_rfl) (fun _ _ _ h => h) (Or.inl ⟨by rfl, ?_⟩) ?_ ?_
    rotate_left
    · intro w'
      go_simp
      with_reducible rfl
    rotate_left
    · simp only [Act.put, List.setIfInBounds_toArray, List.set_cons_zero, List.set_cons_succ, i64_w, i32_w]
      rfl
    refine pure_ (i := 2) (N := some 87) (v := ?_) (a' := ?_) #[true, true, true, false, false, false, false, false] rfl rfl (by kernel_rfl) (fun _ _ _ h => h) (Or.inl ⟨by rfl, ?_⟩) ?_ ?_
    rotate_left
    · intro w'
      go_simp
      with_reducible rfl
    rotate_left
    · simp only [Act.put, List.setIfInBounds_toArray, List.set_cons_zero, List.set_cons_succ, i64_w, i32_w]
      rfl
    refine take_ (i := 3) (N := some 88) (v := ?_) (a' := ?_) #[true, true, true, true, false, false, false, false] rfl rfl (by kernel_rfl) (fun _ _ _ h => h) (Or.inl ⟨by rfl, ?_⟩) hHeld ?_ ?_
    rotate_left
    · rintro w' ⟨s0, s1, s2, s3⟩
      go_simp
      with_reducible rfl
    rotate_left
    · simp only [Act.put, List.setIfInBounds_toArray, List.set_cons_zero, List.set_cons_succ, i64_w, i32_w]
      rfl
    refine take_ (i := 4) (N := some 89) (v := ?_) (a' := ?_) #[true, true, true, true, true, false, false, false] rfl rfl (by kernel_rfl) (fun _ _ _ h => h) (Or.inl ⟨by rfl, ?_⟩) hHeld ?_ ?_
    rotate_left
    · rintro w' ⟨s0, s1, s2, s3⟩
      go_simp
      with_reducible rfl
    rotate_left
    · simp only [Act.put, List.setIfInBounds_toArray, List.set_cons_zero, List.set_cons_succ, i64_w, i32_w]
      rfl
    refine take_ (i := 5) (N := some 90) (v := ?_) (a' := ?_) #[true, true, true, true, true, true, false, false] rfl rfl (by kernel_rfl) (fun _ _ _ h => h) (Or.inl ⟨by rfl, ?_⟩) hHeld ?_ ?_
    rotate_left
    · rintro w' ⟨s0, s1, s2, s3⟩
      go_simp
      with_reducible rfl
    rotate_left
    · simp only [Act.put, List.setIfInBounds_toArray, List.set_cons_zero, List.set_cons_succ, i64_w, i32_w]
      rfl
    refine one_ (i := 6) (N := some 11) #[true, true, true, true, true, true, true, false] rfl rfl (by kernel_rfl) (by decide) (fun K hK => ?_)
    refine value_ (w1 := ?_) (v := ?_) (by rfl) rfl ?_ ?_
    rotate_left 2
    · go_simp
      constructor
      · rfl
      · rfl
    refine hK.out _ _ ⟨(by go_keep), (by go_keep), (by go_keep), (HL.out _ (HB3.out.drew.drew.alloc HB3.out.size _))⟩ (fun hHeld => ?_)
    clear hK K
    refine norm_ (a' := ?_) ?_ ?_
    rotate_left
    · show Act.put _ (some 11) _ = _
      simp only [Act.put, List.setIfInBounds_toArray, List.set_cons_zero, List.set_cons_succ, i64_w, i32_w]
      rfl
    refine last_ (i := 7) (N := none) #[true, true, true, true, true, true, true, true] rfl rfl (by kernel_rfl) (by decide) (fun K hK => ?_)
    refine skip_ (w1 := ?_) (by rfl) rfl ?_ ?_
    rotate_left
    · go_simp
      rfl
    refine hK.out _ _ ?_
    clear hK K
    refine done_ (by kernel_rfl) ?_
    generalize hW : World.alloc w3 _ = w4
    have hb4 : Below w3.heap.size w3 w4 := hW ▸ below_one w3 _
    have ke : w4.heap[w3.heap.size]? = some (.cells #[.int .i64 0, .slice A0 n0 c0] 67 (0, 0)) := hW ▸ alloc1 w3 _
    have HB4 := Aside0.mk (HB3.out.trans (hb4.mono HB3.out.size))
    have HK4 := Aside0.mk (And.intro ke (And.intro (row_below hb4 HQ.out.1) (row_below hb4 HQ.out.2)))
    have z0 : q0 < w3.heap.size := (Array.getElem?_eq_some_iff.1 HQ.out.2).1
    have z1 : w2.heap.size < w3.heap.size := (Array.getElem?_eq_some_iff.1 HQ.out.1).1
    have zp : p < w3.heap.size := Nat.lt_of_lt_of_le (Array.getElem?_eq_some_iff.1 HA.out.1.row).1 HB3.out.size
    have n0_ : q0 ≠ w3.heap.size := Nat.ne_of_lt z0
    have n1_ : w2.heap.size ≠ w3.heap.size := Nat.ne_of_lt z1
    have np_ : p ≠ w3.heap.size := Nat.ne_of_lt zp
    have n0' := n0_.symm
    have n1' := n1_.symm
    have np' := np_.symm
    have HZ := Aside0.mk HB3.out.size
    have hm0 : w4.drew.drew.cell? ⟨q0, 0, none⟩ = some (.int .i64 kind) := row_cell (w := w4.drew.drew) HK4.out.2.2 rfl
    clear hW hb4 ke z0 z1 zp hq0 hq1 hp0 hfz
    go_wp2_with (first | (go_at_call 27; refine (mark2_calls _ _).mono ?_; rintro e w5 ⟨rfl, hb5⟩; have HB5 := Aside0.mk (HB4.out.drew.drew.trans (hb5.mono HB4.out.size)); have ke := row_below hb5 HK4.out.1; have kq := row_below hb5 HK4.out.2.1; have k0 := row_below hb5 HK4.out.2.2; have HK5 := Aside0.mk (And.intro ke (And.intro kq k0)); have hv0 : w5.cell? ⟨w3.heap.size, 0, none⟩ = some (.int .i64 0) := row_cell ke rfl; have hv1 : w5.cell? ⟨w3.heap.size, 1, none⟩ = some (.slice A0 n0 c0) := row_cell ke rfl; have he0 : w5.cell? ⟨q0, 0, none⟩ = some (.int .i64 kind) := row_cell k0 rfl; have hf5 : ∀ j, w5.frozen? ⟨w3.heap.size, j, none⟩ = false := fun j => free_of_row ke; clear ke kq k0 hb5 hm0))
    generalize hW : World.setCell w5 _ _ = w6
    have ke6 : w6.heap[w3.heap.size]? = some (.cells #[.int .i64 kind, .slice A0 n0 c0] 67 (0, 0)) := hW ▸ row_setCell HK5.out.1 0 _
    have kq6 : w6.heap[w2.heap.size]? = some (.cells #[.int .i64 inst, .int .i64 step] 65 (0, 0)) := hW ▸ row_setCell_ne HK5.out.2.1 ⟨w3.heap.size, 0, none⟩ _ n1_
    have HB6 : Aside0 (Below w.heap.size w w6) := ⟨hW ▸ HB5.out.setCell HZ.out _⟩
    clear hW hv0 hv1 he0 hf5
    have hv0 : w6.cell? ⟨w3.heap.size, 0, none⟩ = some (.int .i64 kind) := row_cell ke6 rfl
    have hv1 : w6.cell? ⟨w3.heap.size, 1, none⟩ = some (.slice A0 n0 c0) := row_cell ke6 rfl
    have hq0 : w6.cell? ⟨w2.heap.size, 0, none⟩ = some (.int .i64 inst) := row_cell kq6 rfl
    have hq1 : w6.cell? ⟨w2.heap.size, 1, none⟩ = some (.int .i64 step) := row_cell kq6 rfl
    have hp0 : w6.cell? ⟨p, 0, none⟩ = some (.map (some d.ba)) := cell_below HB6.out HA.out.1.cell0
    clear ke6 kq6
    obtain ⟨w7, hput, hown, hgrow⟩ := mput (w := w6.drew) (ownsMap_move HA.out.1.steps (HB6.out.block d.ba HA.out.1.steps.lt)) LgKeyP.lawP Try.underlying58 (by have := HA.out.2.2.2.1; omega) (v := .agg #[.int .i64 kind, .slice A0 n0 c0]) (LgKeyP.keyP HA.out.2.1 HA.out.2.2.1)
    have HG := Aside0.mk (And.intro hown hgrow)
    clear hown hgrow
    refine start_ (n := 7) (S := fun w' => w'.cell? ⟨p, 0, none⟩ = some (.map (some d.ba)) ∧ w'.cell? ⟨w2.heap.size, 0, none⟩ = some (.int .i64 inst) ∧ w'.cell? ⟨w2.heap.size, 1, none⟩ = some (.int .i64 step) ∧ w'.cell? ⟨w3.heap.size, 0, none⟩ = some (.int .i64 kind) ∧ w'.cell? ⟨w3.heap.size, 1, none⟩ = some (.slice A0 n0 c0)) (ds := [6]) #[false, false, false, false, false, false, false] (by kernel_rfl) rfl rfl ⟨(by go_keep), (by go_keep), (by go_keep), (by go_keep), (by go_keep)⟩ (fun hHeld => ?_)
    refine pure_ (i := 0) (N := some 111) (v := ?_) (a' := ?_) #[true, false, false, false, false, false, false] rfl rfl (by kernel_rfl) (fun _ _ _ h => h) (Or.inl ⟨by rfl, ?_⟩) ?_ ?_
    rotate_left
    · intro w'
      go_simp
      with_reducible rfl
    rotate_left
    · simp only [Act.put, List.setIfInBounds_toArray, List.set_cons_zero, List.set_cons_succ, i64_w, i32_w]
      rfl
    refine pure_ (i := 1) (N := some 112) (v := ?_) (a' := ?_) #[true, true, false, false, false, false, false] rfl rfl (by kernel_rfl) (fun _ _ _ h => h) (Or.inl ⟨by rfl, ?_⟩) ?_ ?_
    rotate_left
    · intro w'
      go_simp
      with_reducible rfl
    rotate_left
    · simp only [Act.put, List.setIfInBounds_toArray, List.set_cons_zero, List.set_cons_succ, i64_w, i32_w]
      rfl
    refine pure_ (i := 2) (N := some 113) (v := ?_) (a' := ?_) #[true, true, true, false, false, false, false] rfl rfl (by kernel_rfl) (fun _ _ _ h => h) (Or.inl ⟨by rfl, ?_⟩) ?_ ?_
    rotate_left
    · intro w'
      go_simp
      with_reducible rfl
    rotate_left
    · simp only [Act.put, List.setIfInBounds_toArray, List.set_cons_zero, List.set_cons_succ, i64_w, i32_w]
      rfl
    refine take_ (i := 3) (N := some 114) (v := ?_) (a' := ?_) #[true, true, true, true, false, false, false] rfl rfl (by kernel_rfl) (fun _ _ _ h => h) (Or.inl ⟨by rfl, ?_⟩) hHeld ?_ ?_
    rotate_left
    · rintro w' ⟨s0, s1, s2, s3, s4⟩
      go_simp
      with_reducible rfl
    rotate_left
    · simp only [Act.put, List.setIfInBounds_toArray, List.set_cons_zero, List.set_cons_succ, i64_w, i32_w]
      rfl
    refine take_ (i := 4) (N := some 115) (v := ?_) (a' := ?_) #[true, true, true, true, true, false, false] rfl rfl (by kernel_rfl) (fun _ _ _ h => h) (Or.inl ⟨by rfl, ?_⟩) hHeld ?_ ?_
    rotate_left
    · rintro w' ⟨s0, s1, s2, s3, s4⟩
      go_simp
      with_reducible rfl
    rotate_left
    · simp only [Act.put, List.setIfInBounds_toArray, List.set_cons_zero, List.set_cons_succ, i64_w, i32_w]
      rfl
    refine take_ (i := 5) (N := some 116) (v := ?_) (a' := ?_) #[true, true, true, true, true, true, false] rfl rfl (by kernel_rfl) (fun _ _ _ h => h) (Or.inl ⟨by rfl, ?_⟩) hHeld ?_ ?_
    rotate_left
    · rintro w' ⟨s0, s1, s2, s3, s4⟩
      go_simp
      with_reducible rfl
    rotate_left
    · simp only [Act.put, List.setIfInBounds_toArray, List.set_cons_zero, List.set_cons_succ, i64_w, i32_w]
      rfl
    refine last_ (i := 6) (N := none) #[true, true, true, true, true, true, true] rfl rfl (by kernel_rfl) (by decide) (fun K hK => ?_)
    refine skip_ (w1 := ?_) (by rfl) rfl ?_ ?_
    rotate_left
    · go_simp
      rfl
    refine hK.out _ _ ?_
    clear hK K
    refine done_ (by kernel_rfl) ?_
    have hC : Chg d.mine w w7 := (Chg.of_below HB6.out.drew).onGrown HG.out.2 (.inr (.inl rfl))
    have hA6 : At w6.drew p d g := HA.out.1.below HB6.out.drew
    have HF : Aside0 (ApplyAt w p d (markS g ⟨kind, inst, step, keys⟩, 0) (.returned (.int .i64 0)) w7) := by
      refine ⟨rfl, { d with D1 := d.D1.put (kp inst step) (.held (ent kind (.slice A0 n0 c0))), n := d.n + 1 }, ⟨hC.row HA.out.1.row (pmine HA.out.1), hC.row HA.out.1.table (lmine HA.out.1), HG.out.1, ?_, ?_, HA.out.1.ne, mark_at HA.out.1 HA.out.2.1 HA.out.2.2.1 A0 n0 c0, HA.out.1.freed, ?_, ?_⟩, ⟨rfl, rfl, rfl, rfl, by simp⟩, hC⟩
      · exact (hA6.frees.kept HG.out.2 (by simpa using fun e : d.bb = d.ba => hA6.ne.1 e.symm)).mono (Nat.le_succ _)
      · exact (hA6.locks.kept HG.out.2 (by simpa using fun e : d.bh = d.ba => hA6.ne.2.1 e.symm)).mono (Nat.le_succ _)
      · intro k hk
        show _ = Value.int .i64 (if (kind : Int) = 1 ∧ isIn keys k = true then inst else g.holder k)
        rw [if_neg (fun e => HA.out.2.2.2.2.2 e.1)]
        exact HA.out.1.holder k hk
      · intro k hk hh
        show (if (kind : Int) = 1 ∧ isIn keys k = true then inst else g.holder k) ≠ 0
        rw [if_neg (fun e => HA.out.2.2.2.2.2 e.1)]
        exact HA.out.1.held k hk hh
    clear hC hA6
    go_wp2
    go_returns
    exact HF.out
end Go.Proofs.Ytahonoeiamjgbaa.LgTk

/- ledger.Apply that does a step: the walk, by hand. -/
namespace Go.Proofs.Ytahonoeiamjgbaa.LgTk
open Go.RowKit Go.IntWalk Go.Maps Go.Proofs.YtahonoeiamjgbaaW.PrintWords Go.Proofs.YtahonoeiamjgbaaW.PrintLast Go.Proofs.YtahonoeiamjgbaaW.PrintMore Go.Proofs.Ytahonoeiamjgbaa.LgMaps Go.Proofs.Ytahonoeiamjgbaa.LgLocks Go.Proofs.Ytahonoeiamjgbaa.CdForm Go.Proofs.Ytahonoeiamjgbaa.Lg Go.Proofs.Ytahonoeiamjgbaa.LgAt Go.Proofs.Ytahonoeiamjgbaa.Tabs Go.Proofs.Ytahonoeiamjgbaa.CdMay Go.Proofs.Ytahonoeiamjgbaa.CdKeys

theorem R_far1 {α : Type} {d : Kd α} {e base : Nat} {w : World} {v : Value} {xs : List α} (h : d.R e w base (fun _ => True) v xs) {p : Addr} (hp : p.block < base) (x : Value) : d.R e (w.setCell p x) base (fun _ => True) v xs := by
  refine Kd.R_mono (Kd.R_move (Kd.R_bound h) fun k hk => ?_) (fun _ _ => trivial)
  exact Below.heap_setCell _ _ _ _ (by have := hk.2.1; omega)
variable [Tab]
theorem goK_names : ∀ (l : List ByteArray) (p : Option ByteArray), goK p l = true → ∀ t ∈ l, Nm.isName t = true
  | [], _, _, t, ht => by cases ht
  | k :: l, none, h, t, ht => by
    simp only [goK, Bool.and_eq_true] at h
    rcases List.mem_cons.1 ht with rfl | ht
    · exact h.1
    · exact goK_names l _ h.2 t ht
  | k :: l, some p, h, t, ht => by
    simp only [goK, Bool.and_eq_true] at h
    rcases List.mem_cons.1 ht with rfl | ht
    · exact h.1
    · exact goK_names l _ h.2.2 t ht
theorem areKeys_names {l : List ByteArray} (h : areKeys l = true) : l.length ≤ 2 ∧ ∀ t ∈ l, Nm.isName t = true := by
  simp only [areKeys, Bool.and_eq_true, decide_eq_true_eq] at h
  exact ⟨h.1, goK_names l _ h.2⟩

set_option linter.unusedSimpArgs false in
set_option linter.unusedVariables false in
set_option maxHeartbeats 4000000 in
set_option maxRecDepth 100000 in
theorem apply_do (w : World) (p : Nat) (d : Dat) (g : S) (A : Option Addr) (c : Nat) (inst step : Int) (keys : List ByteArray) (h : At w p d g) (hi : wf inst) (hs : wf step) (he : Told w p d g A c ⟨1, inst, step, keys⟩) (hm : mayE ⟨1, inst, step, keys⟩ = true) (h0 : g.freed inst = 0) (hroom : d.n + 2 < maxLen)
    (hmk : g.mark inst step = 0) (h1 : 1 ≤ inst) (hko : areKeys keys = true) (hsz : ∀ k ∈ keys, k.size ≤ 9000000000000000000) (hkc : Kd.C Kd.string w A keys.length keys) (htk : taken g inst keys = false) :
    Calls Try.prog 9 #[.pointer (some ⟨p, 0, none⟩), .agg (CdEvent.cells ⟨1, inst, step, keys⟩ (.slice A keys.length c))] w (ApplyAt w p d (markS g ⟨1, inst, step, keys⟩, 0)) := by
  have hev := he.event _ (below_one w (.cells (CdEvent.cells ⟨1, inst, step, keys⟩ (.slice A keys.length c)) 29))
  rw [hm] at hev
  have hfd0 := he.freed
  simp only at hfd0
  rw [show decide (g.freed inst > 0) = false from decide_eq_false (by omega)] at hfd0
  have htk0 := he.taken
  simp only at htk0
  rw [htk] at htk0
  have HT := Aside0.mk (And.intro he.mark (And.intro hfd0 htk0))
  have HKY := Aside0.mk (And.intro h1 (And.intro hko (And.intro hsz (And.intro hkc htk))))
  obtain ⟨A0, n0, c0, hval⟩ := h.mark inst step hi hs
  have HA := Aside0.mk (And.intro h (And.intro hi (And.intro hs (And.intro hroom hval))))
  clear h he hm hi h0 hroom hfd0 hs hval htk0 h1 hko hsz hkc htk
  simp only [CdEvent.cells, wres, if_true] at *
  generalize (⟨_⟩ : ByteArray) = fs at *
  rw [hmk] at HT HA
  clear hmk
  go_enter Try.func9, Try.ntmps9
  go_wp2_with fail
  refine hev.mono ?_
  rintro e w1 ⟨rfl, hb⟩
  have k0 := row_below hb (rowE w ⟨1, inst, step, keys⟩ (.slice A keys.length c))
  have HB := Aside0.mk ((below_one w _).trans (hb.mono (below_one w _).size))
  clear hb hev
  obtain ⟨q0, e0⟩ : ∃ q, q = w.heap.size := ⟨_, rfl⟩
  rw [← e0] at k0 ⊢
  have HE := Aside0.mk (And.intro e0 k0)
  have he0 : w1.cell? ⟨q0, 0, none⟩ = some (.int .i64 1) := row_cell k0 rfl
  have he1 : w1.cell? ⟨q0, 1, none⟩ = some (.int .i64 inst) := row_cell k0 rfl
  have he2 : w1.cell? ⟨q0, 2, none⟩ = some (.int .i64 step) := row_cell k0 rfl
  have he3 : w1.cell? ⟨q0, 3, none⟩ = some (.slice A keys.length c) := row_cell k0 rfl
  clear k0 e0
  have hmc := HT.out.1 w1 HB.out
  have hfd := HT.out.2.1 w1.drew HB.out.drew
  have htk := HT.out.2.2 w1.drew HB.out.drew
  go_wp2_with (first | (go_at_call 12; refine hmc.mono ?_; rintro e w2 ⟨rfl, rfl⟩))
  refine start_ (n := 8) (S := fun w' => w'.cell? ⟨q0, 0, none⟩ = some (.int .i64 1)) (ds := []) #[false, false, false, false, false, false, false, false] (by kernel_rfl) rfl rfl ((by go_keep)) (fun hHeld => ?_)
  refine pure_ (i := 0) (N := some 25) (v := ?_) (a' := ?_) #[true, false, false, false, false, false, false, false] rfl rfl (by kernel_rfl) (fun _ _ _ h => h) (Or.inl ⟨by rfl, ?_⟩) ?_ ?_
  rotate_left
  · intro w'
    go_simp
    with_reducible rfl
  rotate_left
  · simp only [Act.put, List.setIfInBounds_toArray, List.set_cons_zero, List.set_cons_succ, i64_w, i32_w]
    rfl
  refine pure_ (i := 3) (N := some 28) (v := ?_) (a' := ?_) #[true, false, false, true, false, false, false, false] rfl rfl (by kernel_rfl) (fun _ _ _ h => h) (Or.inl ⟨by rfl, ?_⟩) ?_ ?_
  rotate_left
  · intro w'
    go_simp
    with_reducible rfl
  rotate_left
  · simp only [Act.put, List.setIfInBounds_toArray, List.set_cons_zero, List.set_cons_succ, i64_w, i32_w]
    rfl
  refine take_ (i := 1) (N := some 26) (v := ?_) (a' := ?_) #[true, true, false, true, false, false, false, false] rfl rfl (by kernel_rfl) (fun _ _ _ h => h) (Or.inl ⟨by rfl, ?_⟩) hHeld ?_ ?_
  rotate_left
  · intro w' s0
    go_simp
    with_reducible rfl
  rotate_left
  · simp only [Act.put, List.setIfInBounds_toArray, List.set_cons_zero, List.set_cons_succ, i64_w, i32_w]
    rfl
  refine pure_ (i := 2) (N := some 27) (v := ?_) (a' := ?_) #[true, true, true, true, false, false, false, false] rfl rfl (by kernel_rfl) (fun _ _ _ h => h) (Or.inl ⟨by rfl, ?_⟩) ?_ ?_
  rotate_left
  · intro w'
    go_simp
    with_reducible rfl
  rotate_left
  · simp only [Act.put, List.setIfInBounds_toArray, List.set_cons_zero, List.set_cons_succ, i64_w, i32_w]
    rfl
  refine pure_ (i := 6) (N := some 8) (v := ?_) (a' := ?_) #[true, true, true, true, false, false, true, false] rfl rfl (by kernel_rfl) (fun _ _ _ h => h) (Or.inl ⟨by rfl, ?_⟩) ?_ ?_
  rotate_left
  · intro w'
    go_simp
    with_reducible rfl
  rotate_left
  · simp only [Act.put, List.setIfInBounds_toArray, List.set_cons_zero, List.set_cons_succ, i64_w, i32_w]
    rfl
  refine take_ (i := 4) (N := some 29) (v := ?_) (a' := ?_) #[true, true, true, true, true, false, true, false] rfl rfl (by kernel_rfl) (fun _ _ _ h => h) (Or.inl ⟨by rfl, ?_⟩) hHeld ?_ ?_
  rotate_left
  · intro w' s0
    go_simp
    with_reducible rfl
  rotate_left
  · simp only [Act.put, List.setIfInBounds_toArray, List.set_cons_zero, List.set_cons_succ, i64_w, i32_w]
    rfl
  refine pure_ (i := 5) (N := some 30) (v := ?_) (a' := ?_) #[true, true, true, true, true, true, true, false] rfl rfl (by kernel_rfl) (fun _ _ _ h => h) (Or.inl ⟨by rfl, ?_⟩) ?_ ?_
  rotate_left
  · intro w'
    go_simp
    with_reducible rfl
  rotate_left
  · simp only [Act.put, List.setIfInBounds_toArray, List.set_cons_zero, List.set_cons_succ, i64_w, i32_w]
    rfl
  refine pure_ (i := 7) (N := some 9) (v := ?_) (a' := ?_) #[true, true, true, true, true, true, true, true] rfl rfl (by kernel_rfl) (fun _ _ _ h => h) (Or.inl ⟨by rfl, ?_⟩) ?_ ?_
  rotate_left
  · intro w'
    go_simp
    with_reducible rfl
  rotate_left
  · simp only [Act.put, List.setIfInBounds_toArray, List.set_cons_zero, List.set_cons_succ, i64_w, i32_w]
    rfl
  refine done_ (by kernel_rfl) ?_
  go_wp2_with (first | (go_at_call 13; refine hfd.mono ?_; rintro e w3 ⟨rfl, rfl⟩) | (go_at_call 25; refine htk.mono ?_; rintro e wt ⟨rfl, hbt⟩; have HBT := Aside0.mk (HB.out.drew.trans (hbt.mono HB.out.size)); have k0 := row_below hbt (show w2.drew.heap[q0]? = _ from HE.out.2); have HET := Aside0.mk (And.intro HE.out.1 k0); replace he0 : wt.cell? ⟨q0, 0, none⟩ = some (.int .i64 1) := row_cell k0 rfl; replace he1 : wt.cell? ⟨q0, 1, none⟩ = some (.int .i64 inst) := row_cell k0 rfl; replace he2 : wt.cell? ⟨q0, 2, none⟩ = some (.int .i64 step) := row_cell k0 rfl; replace he3 : wt.cell? ⟨q0, 3, none⟩ = some (.slice A keys.length c) := row_cell k0 rfl; clear k0 hbt hHeld))
  generalize hW : World.alloc wt _ = w3
  have hb3 : Below wt.heap.size wt w3 := hW ▸ below_one wt _
  have kq : w3.heap[wt.heap.size]? = some (.cells #[.int .i64 inst, .int .i64 step] 65 (0, 0)) := hW ▸ alloc1 wt _
  have HB3 := Aside0.mk (HBT.out.trans (hb3.mono HBT.out.size))
  have HQ := Aside0.mk (And.intro kq (row_below hb3 HET.out.2))
  clear hW
  have hq0 : w3.cell? ⟨wt.heap.size, 0, none⟩ = some (.int .i64 inst) := row_cell kq rfl
  have hq1 : w3.cell? ⟨wt.heap.size, 1, none⟩ = some (.int .i64 step) := row_cell kq rfl
  have hp0 : w3.cell? ⟨p, 0, none⟩ = some (.map (some d.ba)) := cell_below HB3.out HA.out.1.cell0
  have HL : Aside0 (∀ w', Below w.heap.size w w' → (Instr.lookup 58 (.map (some d.ba)) (.agg #[.int .i64 inst, .int .i64 step]) false).run Try.prog w' = .ok (.agg #[.int .i64 0, .slice A0 n0 c0]) w') := ⟨fun w' hw => by
    have h1 := mlook (w := w') (ownsMap_move HA.out.1.steps (hw.block d.ba HA.out.1.steps.lt)) LgKeyP.lawP Try.underlying58 (zeroE w') (LgKeyP.keyP HA.out.2.1 HA.out.2.2.1)
    rw [show (Lit.string (keyBytes [.int .i64 inst, .int .i64 step]) : Lit) = kp inst step from rfl, HA.out.2.2.2.2] at h1
    exact h1⟩
  have hfz : ∀ (W : World) cs j, (W.alloc (.cells cs 67)).frozen? ⟨W.heap.size, j, none⟩ = false := fun W _ j => free_of_row (alloc1 W _)
  clear kq hmc hfd htk he0 he1 he2 he3 hb3
  refine start_ (n := 8) (S := fun w' => w'.cell? ⟨p, 0, none⟩ = some (.map (some d.ba)) ∧ w'.cell? ⟨wt.heap.size, 0, none⟩ = some (.int .i64 inst) ∧ w'.cell? ⟨wt.heap.size, 1, none⟩ = some (.int .i64 step) ∧ (Instr.lookup 58 (.map (some d.ba)) (.agg #[.int .i64 inst, .int .i64 step]) false).run Try.prog w' = .ok (.agg #[.int .i64 0, .slice A0 n0 c0]) w') (ds := [7]) #[false, false, false, false, false, false, false, false] (by kernel_rfl) rfl rfl ⟨(by go_keep), (by go_keep), (by go_keep), (HL.out _ HB3.out.drew)⟩ (fun hHeld => ?_)
  refine pure_ (i := 0) (N := some 85) (v := ?_) (a' := ?_) #[true, false, false, false, false, false, false, false] rfl rfl (by kernel_rfl) (fun _ _ _ h => h) (Or.inl ⟨by rfl, ?_⟩) ?_ ?_
  rotate_left
  · intro w'
    go_simp
    with_reducible rfl
  rotate_left
  · simp only [Act.put, List.setIfInBounds_toArray, List.set_cons_zero, List.set_cons_succ, i64_w, i32_w]
    rfl
  refine pure_ (i := 1) (N := some 86) (v := ?_) (a' := ?_) #[true, true, false, false, false, false, false, false] rfl rfl (by kernel_rfl) (fun _ _ _ h => h) (Or.inl ⟨by rfl, ?_⟩) ?_ ?_
  rotate_left
  · intro w'
    go_simp
    with_reducible rfl
  rotate_left
  · simp only [Act.put, List.setIfInBounds_toArray, List.set_cons_zero, List.set_cons_succ, i64_w, i32_w]
    rfl
  refine pure_ (i := 2) (N := some 87) (v := ?_) (a' := ?_) #[true, true, true, false, false, false, false, false] rfl rfl (by kernel_rfl) (fun _ _ _ h => h) (Or.inl ⟨by rfl, ?_⟩) ?_ ?_
  rotate_left
  · intro w'
    go_simp
    with_reducible rfl
  rotate_left
  · simp only [Act.put, List.setIfInBounds_toArray, List.set_cons_zero, List.set_cons_succ, i64_w, i32_w]
    rfl
  refine take_ (i := 3) (N := some 88) (v := ?_) (a' := ?_) #[true, true, true, true, false, false, false, false] rfl rfl (by kernel_rfl) (fun _ _ _ h => h) (Or.inl ⟨by rfl, ?_⟩) hHeld ?_ ?_
  rotate_left
  · rintro w' ⟨s0, s1, s2, s3⟩
    go_simp
    with_reducible rfl
  rotate_left
  · simp only [Act.put, List.setIfInBounds_toArray, List.set_cons_zero, List.set_cons_succ, i64_w, i32_w]
    rfl
  refine take_ (i := 4) (N := some 89) (v := ?_) (a' := ?_) #[true, true, true, true, true, false, false, false] rfl rfl (by kernel_rfl) (fun _ _ _ h => h) (Or.inl ⟨by rfl, ?_⟩) hHeld ?_ ?_
  rotate_left
  · rintro w' ⟨s0, s1, s2, s3⟩
    go_simp
    with_reducible rfl
  rotate_left
  · simp only [Act.put, List.setIfInBounds_toArray, List.set_cons_zero, List.set_cons_succ, i64_w, i32_w]
    rfl
  refine take_ (i := 5) (N := some 90) (v := ?_) (a' := ?_) #[true, true, true, true, true, true, false, false] rfl rfl (by kernel_rfl) (fun _ _ _ h => h) (Or.inl ⟨by rfl, ?_⟩) hHeld ?_ ?_
  rotate_left
  · rintro w' ⟨s0, s1, s2, s3⟩
    go_simp
    with_reducible rfl
  rotate_left
  · simp only [Act.put, List.setIfInBounds_toArray, List.set_cons_zero, List.set_cons_succ, i64_w, i32_w]
    rfl
  refine one_ (i := 6) (N := some 11) #[true, true, true, true, true, true, true, false] rfl rfl (by kernel_rfl) (by decide) (fun K hK => ?_)
  refine value_ (w1 := ?_) (v := ?_) (by rfl) rfl ?_ ?_
  rotate_left 2
  · go_simp
    constructor
    · rfl
    · rfl
  refine hK.out _ _ ⟨(by go_keep), (by go_keep), (by go_keep), (HL.out _ ((HB3.out.alloc HB3.out.size _).drew))⟩ (fun hHeld => ?_)
  clear hK K
  refine norm_ (a' := ?_) ?_ ?_
  rotate_left
  · show Act.put _ (some 11) _ = _
    simp only [Act.put, List.setIfInBounds_toArray, List.set_cons_zero, List.set_cons_succ, i64_w, i32_w]
    rfl
  refine last_ (i := 7) (N := none) #[true, true, true, true, true, true, true, true] rfl rfl (by kernel_rfl) (by decide) (fun K hK => ?_)
  refine skip_ (w1 := ?_) (by rfl) rfl ?_ ?_
  rotate_left
  · go_simp
    rfl
  refine hK.out _ _ ?_
  clear hK K
  refine done_ (by kernel_rfl) ?_
  generalize hW : World.alloc w3 _ = w4
  have hb4 : Below w3.heap.size w3 w4 := hW ▸ below_one w3 _
  have ke : w4.heap[w3.heap.size]? = some (.cells #[.int .i64 0, .slice A0 n0 c0] 67 (0, 0)) := hW ▸ alloc1 w3 _
  have HB4 := Aside0.mk (HB3.out.trans (hb4.mono HB3.out.size))
  have HK4 := Aside0.mk (And.intro ke (And.intro (row_below hb4 HQ.out.1) (row_below hb4 HQ.out.2)))
  have z0 : q0 < w3.heap.size := (Array.getElem?_eq_some_iff.1 HQ.out.2).1
  have z1 : wt.heap.size < w3.heap.size := (Array.getElem?_eq_some_iff.1 HQ.out.1).1
  have zp : p < w3.heap.size := Nat.lt_of_lt_of_le (Array.getElem?_eq_some_iff.1 HA.out.1.row).1 HB3.out.size
  have n0_ : q0 ≠ w3.heap.size := Nat.ne_of_lt z0
  have n1_ : wt.heap.size ≠ w3.heap.size := Nat.ne_of_lt z1
  have np_ : p ≠ w3.heap.size := Nat.ne_of_lt zp
  have n0' := n0_.symm
  have n1' := n1_.symm
  have np' := np_.symm
  have HZ := Aside0.mk HB3.out.size
  have hm0 : w4.drew.cell? ⟨q0, 0, none⟩ = some (.int .i64 1) := row_cell (w := w4.drew) HK4.out.2.2 rfl
  clear hW hb4 ke z0 z1 zp hq0 hq1 hp0 hfz
  go_wp2_with (first | (go_at_call 27; refine (mark2_calls _ _).mono ?_; rintro e w5 ⟨rfl, hb5⟩; have HB5 := Aside0.mk (HB4.out.drew.trans (hb5.mono HB4.out.size)); have ke := row_below hb5 HK4.out.1; have kq := row_below hb5 HK4.out.2.1; have k0 := row_below hb5 HK4.out.2.2; have HK5 := Aside0.mk (And.intro ke (And.intro kq k0)); have hv0 : w5.cell? ⟨w3.heap.size, 0, none⟩ = some (.int .i64 0) := row_cell ke rfl; have hv1 : w5.cell? ⟨w3.heap.size, 1, none⟩ = some (.slice A0 n0 c0) := row_cell ke rfl; have he0 : w5.cell? ⟨q0, 0, none⟩ = some (.int .i64 1) := row_cell k0 rfl; have he3 : w5.cell? ⟨q0, 3, none⟩ = some (.slice A keys.length c) := row_cell k0 rfl; have hf5 : ∀ j, w5.frozen? ⟨w3.heap.size, j, none⟩ = false := fun j => free_of_row ke; clear ke kq k0 hb5 hm0))
  generalize hW : World.setCell w5 _ _ = w6
  have ke6 : w6.heap[w3.heap.size]? = some (.cells #[.int .i64 1, .slice A0 n0 c0] 67 (0, 0)) := hW ▸ row_setCell HK5.out.1 0 _
  have kq6 : w6.heap[wt.heap.size]? = some (.cells #[.int .i64 inst, .int .i64 step] 65 (0, 0)) := hW ▸ row_setCell_ne HK5.out.2.1 ⟨w3.heap.size, 0, none⟩ _ n1_
  have k06 : w6.heap[q0]? = some (.cells #[.int .i64 1, .int .i64 inst, .int .i64 step, .slice A keys.length c] 29 (0, 0)) := hW ▸ row_setCell_ne HK5.out.2.2 ⟨w3.heap.size, 0, none⟩ _ n0_
  have HB6 : Aside0 (Below w.heap.size w w6) := ⟨hW ▸ HB5.out.setCell HZ.out _⟩
  clear hW hv0 hv1 he0 he3 hf5
  refine (clone_calls w6 A c keys (Kd.C_below HKY.out.2.2.2.1 HB6.out) (by have := (areKeys_names HKY.out.2.1).1; omega)).mono ?_
  rintro e w8 ⟨v, rfl, hR8, hb8⟩
  obtain ⟨A', c', rfl, hle', _⟩ := Kd.R_reads hR8
  have ke8 := row_below hb8 ke6
  have kq8 := row_below hb8 kq6
  have k08 := row_below hb8 k06
  have HB8 := Aside0.mk (HB6.out.trans (hb8.mono HB6.out.size))
  have ze : w3.heap.size < w6.heap.size := (Array.getElem?_eq_some_iff.1 ke6).1
  have HR8 := Aside0.mk (And.intro hR8 (And.intro hle' (And.intro ze (And.intro ke8 (And.intro kq8 k08)))))
  have hv1 : w8.cell? ⟨w3.heap.size, 1, none⟩ = some (.slice A0 n0 c0) := row_cell ke8 rfl
  have hf8 : ∀ j, w8.frozen? ⟨w3.heap.size, j, none⟩ = false := fun j => free_of_row ke8
  clear hR8 hle' ke8 kq8 k08 ke6 kq6 k06 hb8 ze
  go_wp2
  generalize hW : World.setCell w8 _ _ = w9
  have ke9 : w9.heap[w3.heap.size]? = some (.cells #[.int .i64 1, .slice A' keys.length c'] 67 (0, 0)) := hW ▸ row_setCell HR8.out.2.2.2.1 1 _
  have kq9 : w9.heap[wt.heap.size]? = some (.cells #[.int .i64 inst, .int .i64 step] 65 (0, 0)) := hW ▸ row_setCell_ne HR8.out.2.2.2.2.1 ⟨w3.heap.size, 1, none⟩ _ n1_
  have k09 : w9.heap[q0]? = some (.cells #[.int .i64 1, .int .i64 inst, .int .i64 step, .slice A keys.length c] 29 (0, 0)) := hW ▸ row_setCell_ne HR8.out.2.2.2.2.2 ⟨w3.heap.size, 1, none⟩ _ n0_
  have HB9 : Aside0 (Below w.heap.size w w9) := ⟨hW ▸ HB8.out.setCell HZ.out _⟩
  have hC9 : Kd.C Kd.string w9 A' keys.length keys := by
    have h := R_far1 (p := ⟨w3.heap.size, 1, none⟩) HR8.out.1 HR8.out.2.2.1 (.slice A' keys.length c')
    rw [hW] at h
    exact (Kd.R_reads' h).2.2
  have hA9 : At w9.drew p d g := HA.out.1.below HB9.out.drew
  have htake := take_calls w9.drew p d g inst A' c' keys hA9 HKY.out.1 (Kd.C_drew hC9) (areKeys_names HKY.out.2.1).1 (areKeys_names HKY.out.2.1).2 HKY.out.2.2.1 HKY.out.2.2.2.2 HA.out.2.2.2.1
  have hp2 : w9.cell? ⟨p, 2, none⟩ = some (.pointer (some ⟨d.bl, 0, none⟩)) := cell_below HB9.out HA.out.1.cell2
  have he1 : w9.cell? ⟨q0, 1, none⟩ = some (.int .i64 inst) := row_cell k09 rfl
  have he2 : w9.cell? ⟨w3.heap.size, 1, none⟩ = some (.slice A' keys.length c') := row_cell ke9 rfl
  have HK9 := Aside0.mk (And.intro ke9 (And.intro kq9 hA9))
  clear hW hv1 hf8 ke9 kq9 k09 hC9 hA9
  refine start_ (n := 9) (S := fun w' => w'.cell? ⟨p, 2, none⟩ = some (.pointer (some ⟨d.bl, 0, none⟩)) ∧ w'.cell? ⟨q0, 1, none⟩ = some (.int .i64 inst) ∧ w'.cell? ⟨w3.heap.size, 1, none⟩ = some (.slice A' keys.length c')) (ds := [8]) #[false, false, false, false, false, false, false, false, false] (by kernel_rfl) rfl rfl ⟨(by go_keep), (by go_keep), (by go_keep)⟩ (fun hHeld => ?_)
  refine pure_ (i := 0) (N := some 102) (v := ?_) (a' := ?_) #[true, false, false, false, false, false, false, false, false] rfl rfl (by kernel_rfl) (fun _ _ _ h => h) (Or.inl ⟨by rfl, ?_⟩) ?_ ?_
  rotate_left
  · intro w'
    go_simp
    with_reducible rfl
  rotate_left
  · simp only [Act.put, List.setIfInBounds_toArray, List.set_cons_zero, List.set_cons_succ, i64_w, i32_w]
    rfl
  refine pure_ (i := 1) (N := some 103) (v := ?_) (a' := ?_) #[true, true, false, false, false, false, false, false, false] rfl rfl (by kernel_rfl) (fun _ _ _ h => h) (Or.inl ⟨by rfl, ?_⟩) ?_ ?_
  rotate_left
  · intro w'
    go_simp
    with_reducible rfl
  rotate_left
  · simp only [Act.put, List.setIfInBounds_toArray, List.set_cons_zero, List.set_cons_succ, i64_w, i32_w]
    rfl
  refine pure_ (i := 2) (N := some 104) (v := ?_) (a' := ?_) #[true, true, true, false, false, false, false, false, false] rfl rfl (by kernel_rfl) (fun _ _ _ h => h) (Or.inl ⟨by rfl, ?_⟩) ?_ ?_
  rotate_left
  · intro w'
    go_simp
    with_reducible rfl
  rotate_left
  · simp only [Act.put, List.setIfInBounds_toArray, List.set_cons_zero, List.set_cons_succ, i64_w, i32_w]
    rfl
  refine pure_ (i := 4) (N := some 106) (v := ?_) (a' := ?_) #[true, true, true, false, true, false, false, false, false] rfl rfl (by kernel_rfl) (fun _ _ _ h => h) (Or.inl ⟨by rfl, ?_⟩) ?_ ?_
  rotate_left
  · intro w'
    go_simp
    with_reducible rfl
  rotate_left
  · simp only [Act.put, List.setIfInBounds_toArray, List.set_cons_zero, List.set_cons_succ, i64_w, i32_w]
    rfl
  refine pure_ (i := 6) (N := some 108) (v := ?_) (a' := ?_) #[true, true, true, false, true, false, true, false, false] rfl rfl (by kernel_rfl) (fun _ _ _ h => h) (Or.inl ⟨by rfl, ?_⟩) ?_ ?_
  rotate_left
  · intro w'
    go_simp
    with_reducible rfl
  rotate_left
  · simp only [Act.put, List.setIfInBounds_toArray, List.set_cons_zero, List.set_cons_succ, i64_w, i32_w]
    rfl
  refine take_ (i := 3) (N := some 105) (v := ?_) (a' := ?_) #[true, true, true, true, true, false, true, false, false] rfl rfl (by kernel_rfl) (fun _ _ _ h => h) (Or.inl ⟨by rfl, ?_⟩) hHeld ?_ ?_
  rotate_left
  · rintro w' ⟨s0, s1, s2⟩
    go_simp
    with_reducible rfl
  rotate_left
  · simp only [Act.put, List.setIfInBounds_toArray, List.set_cons_zero, List.set_cons_succ, i64_w, i32_w]
    rfl
  refine take_ (i := 5) (N := some 107) (v := ?_) (a' := ?_) #[true, true, true, true, true, true, true, false, false] rfl rfl (by kernel_rfl) (fun _ _ _ h => h) (Or.inl ⟨by rfl, ?_⟩) hHeld ?_ ?_
  rotate_left
  · rintro w' ⟨s0, s1, s2⟩
    go_simp
    with_reducible rfl
  rotate_left
  · simp only [Act.put, List.setIfInBounds_toArray, List.set_cons_zero, List.set_cons_succ, i64_w, i32_w]
    rfl
  refine take_ (i := 7) (N := some 109) (v := ?_) (a' := ?_) #[true, true, true, true, true, true, true, true, false] rfl rfl (by kernel_rfl) (fun _ _ _ h => h) (Or.inl ⟨by rfl, ?_⟩) hHeld ?_ ?_
  rotate_left
  · rintro w' ⟨s0, s1, s2⟩
    go_simp
    with_reducible rfl
  rotate_left
  · simp only [Act.put, List.setIfInBounds_toArray, List.set_cons_zero, List.set_cons_succ, i64_w, i32_w]
    rfl
  refine last_ (i := 8) (N := some 110) #[true, true, true, true, true, true, true, true, true] rfl rfl (by kernel_rfl) (by decide) (fun K hK => ?_)
  refine goes_ Try.func28 (by kernel_rfl) rfl #[.pointer (some ⟨d.bl, 0, none⟩), .int .i64 inst, .slice A' keys.length c'] (by rfl) rfl rfl (by simp only [List.map_toArray, List.map_cons, List.map_nil]; rfl) ?_
  with_reducible refine (htake).mono ?_
  rintro e w10 ⟨rfl, D', hT10, hC10⟩
  refine ⟨_, rfl, ?_⟩
  refine hK.out _ _ ?_
  clear hK K
  refine norm_ (a' := ?_) ?_ ?_
  rotate_left
  · show Act.put _ (some 110) _ = _
    simp only [Act.put, List.setIfInBounds_toArray, List.set_cons_zero, List.set_cons_succ, i64_w, i32_w]
    rfl
  refine done_ (by kernel_rfl) ?_
  have hnb : ∀ k, w.heap.size ≤ k → k ≠ d.bh := fun k hk e => by have := HA.out.1.locks.lt; omega
  have ke10 := hC10.row (show w9.drew.heap[w3.heap.size]? = _ from HK9.out.1) (hnb _ HZ.out)
  have kq10 := hC10.row (show w9.drew.heap[wt.heap.size]? = _ from HK9.out.2.1) (hnb _ HBT.out.size)
  have hv0 : w10.cell? ⟨w3.heap.size, 0, none⟩ = some (.int .i64 1) := row_cell ke10 rfl
  have hv1 : w10.cell? ⟨w3.heap.size, 1, none⟩ = some (.slice A' keys.length c') := row_cell ke10 rfl
  have hq0 : w10.cell? ⟨wt.heap.size, 0, none⟩ = some (.int .i64 inst) := row_cell kq10 rfl
  have hq1 : w10.cell? ⟨wt.heap.size, 1, none⟩ = some (.int .i64 step) := row_cell kq10 rfl
  have hC : Chg d.mine w w10 := (Chg.of_below HB9.out.drew).trans (hC10.mono fun k e => .inr (.inr e))
  have hp0 : w10.cell? ⟨p, 0, none⟩ = some (.map (some d.ba)) := hC.cell HA.out.1.cell0 (pmine HA.out.1)
  obtain ⟨w7, hput, hown, hgrow⟩ := mput (w := w10.drew) (show w10.ownsMap Try.prog 65 raw d.ba d.n d.D1 from own_keep HK9.out.2.2.steps hC10 HA.out.1.ne.2.1) LgKeyP.lawP Try.underlying58 (by have := HA.out.2.2.2.1; omega) (v := .agg #[.int .i64 1, .slice A' keys.length c']) (LgKeyP.keyP HA.out.2.1 HA.out.2.2.1)
  have HG := Aside0.mk (And.intro hown (And.intro hgrow (And.intro hC (And.intro hT10 (own_keep HK9.out.2.2.frees hC10 HA.out.1.ne.2.2)))))
  clear hown hgrow hC hT10 hC10 ke10 kq10 hnb htake hp2 he1 he2
  go_wp2
  refine start_ (n := 7) (S := fun w' => w'.cell? ⟨p, 0, none⟩ = some (.map (some d.ba)) ∧ w'.cell? ⟨wt.heap.size, 0, none⟩ = some (.int .i64 inst) ∧ w'.cell? ⟨wt.heap.size, 1, none⟩ = some (.int .i64 step) ∧ w'.cell? ⟨w3.heap.size, 0, none⟩ = some (.int .i64 1) ∧ w'.cell? ⟨w3.heap.size, 1, none⟩ = some (.slice A' keys.length c')) (ds := [6]) #[false, false, false, false, false, false, false] (by kernel_rfl) rfl rfl ⟨(by go_keep), (by go_keep), (by go_keep), (by go_keep), (by go_keep)⟩ (fun hHeld => ?_)
  refine pure_ (i := 0) (N := some 111) (v := ?_) (a' := ?_) #[true, false, false, false, false, false, false] rfl rfl (by kernel_rfl) (fun _ _ _ h => h) (Or.inl ⟨by rfl, ?_⟩) ?_ ?_
  rotate_left
  · intro w'
    go_simp
    with_reducible rfl
  rotate_left
  · simp only [Act.put, List.setIfInBounds_toArray, List.set_cons_zero, List.set_cons_succ, i64_w, i32_w]
    rfl
  refine pure_ (i := 1) (N := some 112) (v := ?_) (a' := ?_) #[true, true, false, false, false, false, false] rfl rfl (by kernel_rfl) (fun _ _ _ h => h) (Or.inl ⟨by rfl, ?_⟩) ?_ ?_
  rotate_left
  · intro w'
    go_simp
    with_reducible rfl
  rotate_left
  · simp only [Act.put, List.setIfInBounds_toArray, List.set_cons_zero, List.set_cons_succ, i64_w, i32_w]
    rfl
  refine pure_ (i := 2) (N := some 113) (v := ?_) (a' := ?_) #[true, true, true, false, false, false, false] rfl rfl (by kernel_rfl) (fun _ _ _ h => h) (Or.inl ⟨by rfl, ?_⟩) ?_ ?_
  rotate_left
  · intro w'
    go_simp
    with_reducible rfl
  rotate_left
  · simp only [Act.put, List.setIfInBounds_toArray, List.set_cons_zero, List.set_cons_succ, i64_w, i32_w]
    rfl
  refine take_ (i := 3) (N := some 114) (v := ?_) (a' := ?_) #[true, true, true, true, false, false, false] rfl rfl (by kernel_rfl) (fun _ _ _ h => h) (Or.inl ⟨by rfl, ?_⟩) hHeld ?_ ?_
  rotate_left
  · rintro w' ⟨s0, s1, s2, s3, s4⟩
    go_simp
    with_reducible rfl
  rotate_left
  · simp only [Act.put, List.setIfInBounds_toArray, List.set_cons_zero, List.set_cons_succ, i64_w, i32_w]
    rfl
  refine take_ (i := 4) (N := some 115) (v := ?_) (a' := ?_) #[true, true, true, true, true, false, false] rfl rfl (by kernel_rfl) (fun _ _ _ h => h) (Or.inl ⟨by rfl, ?_⟩) hHeld ?_ ?_
  rotate_left
  · rintro w' ⟨s0, s1, s2, s3, s4⟩
    go_simp
    with_reducible rfl
  rotate_left
  · simp only [Act.put, List.setIfInBounds_toArray, List.set_cons_zero, List.set_cons_succ, i64_w, i32_w]
    rfl
  refine take_ (i := 5) (N := some 116) (v := ?_) (a' := ?_) #[true, true, true, true, true, true, false] rfl rfl (by kernel_rfl) (fun _ _ _ h => h) (Or.inl ⟨by rfl, ?_⟩) hHeld ?_ ?_
  rotate_left
  · rintro w' ⟨s0, s1, s2, s3, s4⟩
    go_simp
    with_reducible rfl
  rotate_left
  · simp only [Act.put, List.setIfInBounds_toArray, List.set_cons_zero, List.set_cons_succ, i64_w, i32_w]
    rfl
  refine last_ (i := 6) (N := none) #[true, true, true, true, true, true, true] rfl rfl (by kernel_rfl) (by decide) (fun K hK => ?_)
  refine skip_ (w1 := ?_) (by rfl) rfl ?_ ?_
  rotate_left
  · go_simp
    rfl
  refine hK.out _ _ ?_
  clear hK K
  refine done_ (by kernel_rfl) ?_
  have hC : Chg d.mine w w7 := HG.out.2.2.1.drew.trans (Chg.of_grown HG.out.2.1 fun _ => .inl rfl)
  have HF : Aside0 (ApplyAt w p d (markS g ⟨1, inst, step, keys⟩, 0) (.returned (.int .i64 0)) w7) := by
    refine ⟨rfl, { d with D1 := d.D1.put (kp inst step) (.held (ent 1 (.slice A' keys.length c'))), D3 := D', n := d.n + 2 }, ⟨hC.row HA.out.1.row (pmine HA.out.1), hC.row HA.out.1.table (lmine HA.out.1), HG.out.1.mono (by simp), ?_, ?_, HA.out.1.ne, mark_at HA.out.1 HA.out.2.1 HA.out.2.2.1 A' keys.length c', HA.out.1.freed, ?_, ?_⟩, ⟨rfl, rfl, rfl, rfl, Nat.le_refl _⟩, hC⟩
    · exact (World.ownsMap.kept (w := w10.drew) HG.out.2.2.2.2 HG.out.2.1 (by simpa using fun e : d.bb = d.ba => HA.out.1.ne.1 e.symm)).mono (by simp)
    · exact World.ownsMap.kept (w := w10.drew) HG.out.2.2.2.1.own HG.out.2.1 (by simpa using fun e : d.bh = d.ba => HA.out.1.ne.2.1 e.symm)
    · intro k hk
      show _ = Value.int .i64 (if (1 : Int) = 1 ∧ isIn keys k = true then inst else g.holder k)
      rw [HG.out.2.2.2.1.holder k hk]
      simp [heldS]
    · intro k hk hh
      have h1 := HG.out.2.2.2.1.held k hk hh
      show (if (1 : Int) = 1 ∧ isIn keys k = true then inst else g.holder k) ≠ 0
      simpa [heldS] using h1
  clear hC
  go_wp2
  go_returns
  exact HF.out
end Go.Proofs.Ytahonoeiamjgbaa.LgTk

/- ledger.Apply, whole; ledger.New. -/
namespace Go.Proofs.Ytahonoeiamjgbaa.LgTk
open Go.RowKit Go.IntWalk Go.Maps Go.Proofs.YtahonoeiamjgbaaW.PrintWords Go.Proofs.Ytahonoeiamjgbaa.LgMaps Go.Proofs.Ytahonoeiamjgbaa.LgLocks Go.Proofs.Ytahonoeiamjgbaa.CdForm Go.Proofs.Ytahonoeiamjgbaa.Lg Go.Proofs.Ytahonoeiamjgbaa.LgAt Go.Proofs.Ytahonoeiamjgbaa.Tabs Go.Proofs.Ytahonoeiamjgbaa.CdMay Go.Proofs.Ytahonoeiamjgbaa.CdKeys

section
variable [Tab]
theorem mayE_keys {e : CdEvent.D} (h : mayE e = true) (h1 : e.kind = 1) : areKeys e.keys = true := by
  obtain ⟨k, i, st, ks⟩ := e
  simp only at h1
  subst h1
  simp only [mayE, Bool.and_eq_true] at h
  exact h.2
set_option maxRecDepth 100000 in
theorem apply_calls (w : World) (p : Nat) (d : Dat) (g : S) (A : Option Addr) (c : Nat) (ev : CdEvent.D) (h : At w p d g) (he : EvOk w A ev) (hc : ev.keys.length ≤ c) (hT : Tab.At w) (hI : Inv g) (hroom : d.n + 2 < maxLen) :
    Calls Try.prog 9 #[.pointer (some ⟨p, 0, none⟩), .agg (CdEvent.cells ev (.slice A ev.keys.length c))] w (ApplyAt w p d (applyF g ev)) := by
  have ht := told w p d g A c ev h he hc hT
  cases hm : mayE ev
  · exact apply_bad w p d g A c ev h ht hm
  by_cases h1 : g.freed ev.inst > 0 ∨ (ev.kind = 5 ∧ g.mark ev.inst ev.step ≠ 1) ∨ (ev.kind ≠ 5 ∧ ev.kind ≠ 6 ∧ g.mark ev.inst ev.step ≠ 0)
  · rw [show applyF g ev = (g, 170) by rw [applyF, if_neg (by rw [hm]; simp), if_pos h1]]
    exact apply_no w p d g A c ev h ht hm (h1.imp id (fun h => h.imp id (fun h => .inl h)))
  by_cases h2 : ev.kind = 1 ∧ taken g ev.inst ev.keys = true
  · rw [show applyF g ev = (g, 170) by rw [applyF, if_neg (by rw [hm]; simp), if_neg h1, if_pos h2]]
    exact apply_no w p d g A c ev h ht hm (.inr (.inr (.inr h2)))
  have hF : applyF g ev = if ev.kind = 6 then (freeS g ev.inst, 0) else (markS g ev, 0) := by rw [applyF, if_neg (by rw [hm]; simp), if_neg h1, if_neg h2]
  rw [hF]
  simp only [not_or, not_and] at h1
  obtain ⟨f1, f2, f3⟩ := h1
  have h0 : g.freed ev.inst = 0 := by rcases hI.freed ev.inst with h | h <;> omega
  have hp := mayE_parts hm
  have hi := he.inst
  have hs := he.step
  have hsz := he.sizes
  have hkc := he.keys
  have hko := mayE_keys hm
  obtain ⟨kind, inst, step, keys⟩ := ev
  simp only at *
  by_cases h6 : kind = 6
  · subst h6
    rw [if_pos rfl]
    exact apply_free w p d g A c inst step keys h hi ht hm h0 hroom
  · rw [if_neg h6]
    by_cases h1 : kind = 1
    · subst h1
      exact apply_do w p d g A c inst step keys h hi hs ht hm h0 hroom (Classical.not_not.1 (f3 (by decide) h6)) hp.2.1.1 (hko rfl) hsz hkc (by cases htk : taken g inst keys; rfl; exact absurd ⟨rfl, htk⟩ h2)
    · refine apply_mark1 w p d g A c kind inst step keys h hi hs ht hm h0 hroom h1 h6 ?_
      by_cases h5 : kind = 5
      · exact .inl ⟨h5, Classical.not_not.1 (f2 h5)⟩
      · exact .inr ⟨h5, Classical.not_not.1 (f3 h5 h6)⟩
end

set_option maxRecDepth 100000 in
theorem lnew_calls (w : World) : Calls Try.prog 31 #[] w fun e w' => ∃ bl bh, e = .returned (.pointer (some ⟨bl, 0, none⟩)) ∧ w'.heap[bl]? = some (.cells #[.map (some bh)] 88 (0, 0)) ∧ TabAt w' bh 0 (.map []) (fun _ => 0) ∧ w.heap.size ≤ bl ∧ w.heap.size ≤ bh ∧ Below w.heap.size w w' := by
  have hmm := @run_makeMap Try.prog
  go_enter Try.func31, Try.ntmps31
  go_wp2
  go_returns
  refine ⟨w.heap.size + 1, w.heap.size, rfl, ?_, ⟨?_, ?_, ?_⟩, by omega, Nat.le_refl _, ?_⟩
  · exact alloc2 w _ _
  · exact (World.ownsMap_made w Try.prog 9 raw).alloc _
  · intro k hk
    rfl
  · intro k hk hh
    cases hh
  · exact below_two w _ _
/-- A new ledger. -/
def NewAt (w : World) (e : Ending) (w' : World) : Prop :=
  ∃ p d, e = .returned (.pointer (some ⟨p, 0, none⟩)) ∧ At w' p d S.new ∧ d.n = 0 ∧ w.heap.size ≤ p ∧ (∀ k, d.mine k → w.heap.size ≤ k) ∧ Below w.heap.size w w'
theorem kp_none (i s : Int) : val (.map []) (kp i s) zent = ent 0 (.slice none 0 0) := rfl
set_option maxRecDepth 100000 in
theorem new_calls (w : World) : Calls Try.prog 14 #[] w (NewAt w) := by
  have hmm := @run_makeMap Try.prog
  have hl := lnew_calls ((w.alloc (.map #[] 0)).alloc (.map #[] 0))
  go_enter Try.func14, Try.ntmps14
  go_wp2_with fail
  refine hl.mono ?_
  rintro e w1 ⟨bl, bh, rfl, hrow, hT, hbl, hbh, hb⟩
  have s2 : ((w.alloc (.map #[] 0)).alloc (.map #[] 0)).heap.size = w.heap.size + 2 := by simp
  rw [s2] at hbl hbh
  have HK := Aside0.mk (And.intro hrow (And.intro hT (And.intro hbl (And.intro hbh hb))))
  clear hrow hT hbl hbh hb s2
  go_wp2
  go_returns
  have hb2 := below_two w (.map #[] 0) (.map #[] 0)
  have hB := hb2.trans (HK.out.2.2.2.2.mono hb2.size)
  have z1 : w.heap.size + 2 ≤ w1.heap.size := by have := HK.out.2.2.2.2.size; simp at this; omega
  have hn := below_one w1 (.cells #[.map (some w.heap.size), .map (some (w.heap.size + 1)), .pointer (some ⟨bl, 0, none⟩)] 62)
  refine ⟨w1.heap.size, ⟨w.heap.size, w.heap.size + 1, bl, bh, 0, .map [], .map [], .map []⟩, rfl, ⟨alloc1 w1 _, row_below hn HK.out.1, ?_, ?_, ?_, ⟨by simp, by have := HK.out.2.2.2.1; simp only; omega, by have := HK.out.2.2.2.1; simp only; omega⟩, fun i s _ _ => ⟨_, _, _, kp_none i s⟩, fun i _ => rfl, HK.out.2.1.holder, HK.out.2.1.held⟩, rfl, by omega, ?_, hB.trans (hn.mono (by omega))⟩
  · have h1 : ((w.alloc (.map #[] 0)).alloc (.map #[] 0)).ownsMap Try.prog 65 raw w.heap.size 0 (.map []) := (World.ownsMap_made w Try.prog _ raw).alloc _
    exact ownsMap_move (ownsMap_move h1 (HK.out.2.2.2.2.block _ h1.lt)) (hn.block _ (by simp only; omega))
  · have h1 := World.ownsMap_made (w.alloc (.map #[] 0)) Try.prog 3 (raw)
    rw [show (w.alloc (.map #[] 0)).heap.size = w.heap.size + 1 by simp] at h1
    exact ownsMap_move (ownsMap_move h1 (HK.out.2.2.2.2.block _ h1.lt)) (hn.block _ (by simp only; omega))
  · exact ownsMap_move HK.out.2.1.own (hn.block _ HK.out.2.1.own.lt)
  · have := HK.out.2.2.2.1
    rintro k (e | e | e) <;> simp only at e <;> omega
end Go.Proofs.Ytahonoeiamjgbaa.LgTk
