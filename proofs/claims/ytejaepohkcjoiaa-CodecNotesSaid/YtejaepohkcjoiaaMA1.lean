/- Several texts in one, in build order: CdForm, CdStep, CdKeys, CdLetter, CdEvent, CdNote, Bx0, Bx1, CdMay, CdMayE, CdOwnP, CdOwn1, CdOwn2, CdOwn3. -/
import Derived.Test.YtejaepohkcjoiaaMA0
import Derived.Deep.QuietTactic
import Derived.BigQuiet
import Derived.WalkSmall
import Derived.Deep.RegionHeld3
import Derived.Outline
import Derived.Handy
import Derived.Test.YtejaepohkcjoiaaProg
import Derived.Below
import Derived.Deep.Draws
import Derived.Deep.AppendLies
import Derived.Maps.AppendAt
import Derived.OwnWalk
import Derived.Laws.BytesArg
import Derived.Laws.MakeOwn
import Derived.Laws.OwnMore
import Derived.Deep.OwnRows
import Derived.Tactics
import Derived.Lib.ConvBytes
import Derived.Laws.Slices
import Derived.WalkKit
import Derived.KernelRfl
import Derived.RowKit3
import Derived.Deep.LoopGhost
import Derived.WideLaws
import Derived.Deep.DeepCutAuto
import Derived.Deep.CutBlock
import Derived.Laws.Rows
import Derived.Lib.AppendStr
import Derived.ArgAppend
import Derived.Laws.IdiomCopy
import Derived.OrdersHeld
import Derived.Laws.BitsLemmas
import Derived.RowKit
import Derived.Test.YtejaepohkcjoiaaWWords
import Derived.Test.YtejaepohkcjoiaaWLast
import Derived.Test.YtejaepohkcjoiaaWTab
import Derived.Test.YtejaepohkcjoiaaWFour
import Derived.Test.YtejaepohkcjoiaaWQPut
import Derived.Test.YtejaepohkcjoiaaWApart
import Derived.Test.YtejaepohkcjoiaaWArr
import Derived.Test.YtejaepohkcjoiaaWZeros
import Derived.Test.YtejaepohkcjoiaaWFoot
import Derived.Test.YtejaepohkcjoiaaWKept
import Derived.Test.YtejaepohkcjoiaaWShare
import Derived.Test.YtejaepohkcjoiaaWN
import Derived.Test.YtejaepohkcjoiaaWFootNe
import Derived.Test.YtejaepohkcjoiaaWAt
import Derived.Test.YtejaepohkcjoiaaWEqStruct
import Derived.Test.YtejaepohkcjoiaaWRepsOne
import Derived.Test.YtejaepohkcjoiaaWInv
import Derived.Test.YtejaepohkcjoiaaWInvWords
import Derived.Test.YtejaepohkcjoiaaWGuard
import Derived.Test.YtejaepohkcjoiaaWNEv
import Derived.Test.YtejaepohkcjoiaaWMore
/- codec.must and the form's num, text and list: the walks, by hand. -/
namespace Go.Proofs.Ytejaepohkcjoiaa.CdForm
open Go.RowKit Go.IntWalk Go.Proofs.Ytejaepohkcjoiaa.G Go.Proofs.YtejaepohkcjoiaaW.PrintWords Go.Proofs.YtejaepohkcjoiaaW.PrintLast Go.Proofs.YtejaepohkcjoiaaW.PrintMore

/-- The value that is thrown. -/
def broken : List PanicEntry := [{ v := .iface 79 (.agg #[]), recovered := false }]

set_option maxHeartbeats 400000 in
theorem must_yes (w : World) : Calls Try.prog 45 #[.bool true] w fun e w' => e = .returned (.tuple #[]) ∧ w' = w := by
  go_enter Try.func45, Try.ntmps45
  go_wp2
  go_end0
  exact ⟨rfl, rfl⟩
set_option maxHeartbeats 400000 in
theorem must_no (w : World) : Calls Try.prog 45 #[.bool false] w fun e w' => e = .panicked broken ∧ w' = w := by
  go_enter Try.func45, Try.ntmps45
  go_wp2
  exact ⟨rfl, rfl, rfl⟩

/-- Nothing but two blocks has changed, and new ones have come. -/
structure But2 (w w' : World) (g h : Nat) : Prop where
  os : w'.os = w.os
  tape : w'.tape = w.tape
  output : w'.output = w.output
  size : w.heap.size ≤ w'.heap.size
  block : ∀ k, k < w.heap.size → k ≠ g → k ≠ h → w'.heap[k]? = w.heap[k]?

/-- A form that reads, or writes. -/
def FormAt (w : World) (g : Nat) (write : Bool) (s : ByteArray) (a : Int) : Prop := w.heap[g]? = some (.cells #[.bool write, .string s, .int .i64 a] 71 (0, 0))

theorem FormAt.cell0 {w : World} {g : Nat} {b : Bool} {s : ByteArray} {a : Int} (h : FormAt w g b s a) : w.cell? ⟨g, 0, none⟩ = some (.bool b) := by
  unfold FormAt at h
  simp [World.cell?, h]
theorem FormAt.cell1 {w : World} {g : Nat} {b : Bool} {s : ByteArray} {a : Int} (h : FormAt w g b s a) : w.cell? ⟨g, 1, none⟩ = some (.string s) := by
  unfold FormAt at h
  simp [World.cell?, h]
theorem FormAt.cell2 {w : World} {g : Nat} {b : Bool} {s : ByteArray} {a : Int} (h : FormAt w g b s a) : w.cell? ⟨g, 2, none⟩ = some (.int .i64 a) := by
  unfold FormAt at h
  simp [World.cell?, h]
theorem FormAt.free {w : World} {g : Nat} {b : Bool} {s : ByteArray} {a : Int} (h : FormAt w g b s a) (j : Nat) : w.frozen? ⟨g, j, none⟩ = false := by
  unfold FormAt at h
  simp [World.frozen?, h]
theorem FormAt.below {w w1 : World} {g : Nat} {b : Bool} {s : ByteArray} {a : Int} (h : FormAt w g b s a) (hb : Below w.heap.size w w1) : FormAt w1 g b s a :=
  (hb.block g (Array.getElem?_eq_some_iff.1 h).1).trans h
theorem FormAt.lt {w : World} {g : Nat} {b : Bool} {s : ByteArray} {a : Int} (h : FormAt w g b s a) : g < w.heap.size := (Array.getElem?_eq_some_iff.1 h).1

theorem row_cell {w : World} {g t j : Nat} {arr : Array Value} {v : Value} (hg : w.heap[g]? = some (.cells arr t (0, 0))) (hj : arr[j]? = some v) : w.cell? ⟨g, j, none⟩ = some v := by
  simp [World.cell?, hg, hj]
theorem free_of_row {w : World} {g t j : Nat} {arr : Array Value} (hg : w.heap[g]? = some (.cells arr t (0, 0))) : w.frozen? ⟨g, j, none⟩ = false := by
  simp [World.frozen?, hg]
theorem row_below {w w1 : World} {g : Nat} {o : Obj} (hb : Below w.heap.size w w1) (hg : w.heap[g]? = some o) : w1.heap[g]? = some o :=
  (hb.block g (Array.getElem?_eq_some_iff.1 hg).1).trans hg
theorem cell_below {w w1 : World} {a : Addr} {v : Value} (hb : Below w.heap.size w w1) (h : w.cell? a = some v) : w1.cell? a = some v :=
  (hb.cell (World.block_lt_of_cell? w _ h)).trans h

theorem But2.of_below {w w1 : World} {g h : Nat} (hb : Below w.heap.size w w1) : But2 w w1 g h :=
  ⟨hb.os, hb.tape, hb.output, hb.size, fun k hk _ _ => hb.block k hk⟩
theorem But2.refl (w : World) (g h : Nat) : But2 w w g h := ⟨rfl, rfl, rfl, Nat.le_refl _, fun _ _ _ _ => rfl⟩
theorem But2.trans {a b c : World} {g h : Nat} (x : But2 a b g h) (y : But2 b c g h) : But2 a c g h :=
  ⟨y.os.trans x.os, y.tape.trans x.tape, y.output.trans x.output, Nat.le_trans x.size y.size, fun k hk h1 h2 => (y.block k (Nat.lt_of_lt_of_le hk x.size) h1 h2).trans (x.block k hk h1 h2)⟩

/-- A store into a row. -/
theorem row_setCell {w : World} {g t : Nat} {arr : Array Value} (hg : w.heap[g]? = some (.cells arr t (0, 0))) (j : Nat) (v : Value) :
    (w.setCell ⟨g, j, none⟩ v).heap[g]? = some (.cells (arr.setIfInBounds j v) t (0, 0)) := by
  show (w.heap.modify g _)[g]? = _
  rw [Array.getElem?_modify, if_pos rfl, hg]
  rfl
theorem row_setCell_ne {w : World} {g : Nat} {o : Obj} (hg : w.heap[g]? = some o) (a : Addr) (v : Value) (h : g ≠ a.block) :
    (w.setCell a v).heap[g]? = some o := (Below.heap_setCell w a v g h).trans hg

/-- What a call of num, text, list leaves behind that reads into a cell: the cell, the place; two blocks alone have changed. -/
structure Took (w w' : World) (g t j : Nat) (arr : Array Value) (v : Value) (gf : Nat) (s : ByteArray) (a : Int) : Prop where
  row : w'.heap[g]? = some (.cells (arr.setIfInBounds j v) t (0, 0))
  form : FormAt w' gf false s a
  but : But2 w w' g gf

theorem Took.of {w w2 : World} {g t j : Nat} {arr : Array Value} {gf : Nat} {s : ByteArray} {a a' : Int} {v : Value} (hne : g ≠ gf)
    (hg : w2.heap[g]? = some (.cells arr t (0, 0))) (hf : FormAt w2 gf false s a) (hb : Below w.heap.size w w2) :
    Took w ((w2.setCell ⟨g, j, none⟩ v).setCell ⟨gf, 2, none⟩ (.int .i64 a')) g t j arr v gf s a' := by
  refine ⟨row_setCell_ne (row_setCell hg j v) _ _ hne, ?_, ⟨hb.os, hb.tape, hb.output, ?_, ?_⟩⟩
  · unfold FormAt at *
    rw [row_setCell (row_setCell_ne hf ⟨g, j, none⟩ v (fun h => hne h.symm))]
    rfl
  · show _ ≤ ((w2.setCell _ _).setCell _ _).heap.size
    simpa [World.setCell] using hb.size
  · intro k hk h1 h2
    rw [Below.heap_setCell _ _ _ _ h2, Below.heap_setCell _ _ _ _ h1]
    exact hb.block k hk

set_option maxHeartbeats 2000000 in
set_option maxRecDepth 100000 in
theorem num_read (w : World) (g t j : Nat) (arr : Array Value) (v0 : Int) (gf : Nat) (s : ByteArray) (a : Int) (hg : w.heap[g]? = some (.cells arr t (0, 0))) (hj : arr[j]? = some (.int .i64 v0)) (hne2 : g ≠ gf)
    (hf : FormAt w gf false s a) (hs : s.size ≤ 1000000000000000) :
    Calls Try.prog 77 #[.pointer (some ⟨gf, 0, none⟩), .pointer (some ⟨g, j, none⟩)] w fun e w' =>
      ((Pk.takeNum s a).2.2 = 0 ∧ e = .returned (.tuple #[]) ∧ Took w w' g t j arr (.int .i64 (Pk.takeNum s a).1) gf s (Pk.takeNum s a).2.1) ∨
      ((Pk.takeNum s a).2.2 ≠ 0 ∧ e = .panicked broken ∧ But2 w w' g gf) := by
  have h0 := hf.cell0
  have h1 := hf.cell1
  have h2 := hf.cell2
  have hp := row_cell hg hj
  have hpz := free_of_row (j := j) hg
  have hz2 := hf.free 2
  have htake : pack_TakeNum.f 20 s a = some ((Pk.takeNum s a).1, (Pk.takeNum s a).2.1, (Pk.takeNum s a).2.2) := PkH.pack_takeNum s hs a 20 (Nat.le_refl _)
  have HT := Aside0.mk htake
  have HF := Aside0.mk hf
  have HG := Aside0.mk hg
  clear htake hf hg
  generalize (Pk.takeNum s a).1 = n at *
  generalize (Pk.takeNum s a).2.1 = nx at *
  generalize (Pk.takeNum s a).2.2 = er at *
  have HE : Aside0 (er = 0 ∨ er ≠ 0) := ⟨by omega⟩
  go_enter Try.func77, Try.ntmps77
  go_wp2_with fail
  go_region_held3 (fun w' => w'.cell? ⟨gf, 1, none⟩ = some (.string s) ∧ w'.cell? ⟨gf, 2, none⟩ = some (.int .i64 a))
    (first | exact ⟨h1, h2⟩ | exact ⟨(hb.cell (World.block_lt_of_cell? w _ h1)).trans h1, (hb.cell (World.block_lt_of_cell? w _ h2)).trans h2⟩ | go_keep)
    (first | (go_at_call 84; refine (pack_TakeNum.calls 20 _ _ _ _ _ _ HT.out).mono ?_; rintro e w1 ⟨rfl, hb⟩; replace hb : Below w.heap.size w w1 := ⟨hb.os, hb.tape, hb.output, hb.size, hb.block⟩; have HG1 := Aside0.mk (row_below hb HG.out); have HF1 := Aside0.mk (HF.out.below hb); have hp1 := cell_below hb hp; have hpz1 := free_of_row (j := j) HG1.out; have h21 := HF1.out.cell2; have hz21 := HF1.out.free 2))
  rcases HE.out with he | he
  · subst he
    go_wp2_with (go_at_call 45; refine (must_yes _).mono ?_; rintro e w2 ⟨rfl, rfl⟩)
    go_end0
    exact ⟨rfl, Took.of hne2 HG1.out HF1.out hb⟩
  · have hE : (er == 0) = false := by simpa using he
    have HEE := Aside0.mk he
    clear he
    go_wp2_with (go_at_call 45; refine (must_no _).mono ?_; rintro e w2 ⟨rfl, rfl⟩)
    exact ⟨rfl, Or.inr ⟨HEE.out, rfl, But2.of_below hb⟩⟩

set_option maxHeartbeats 2000000 in
set_option maxRecDepth 100000 in
theorem text_read (w : World) (g t j : Nat) (arr : Array Value) (v0 : ByteArray) (gf : Nat) (s : ByteArray) (a : Int) (hg : w.heap[g]? = some (.cells arr t (0, 0))) (hj : arr[j]? = some (.string v0)) (hne2 : g ≠ gf)
    (hf : FormAt w gf false s a) (hs : s.size ≤ 1000000000000000) :
    Calls Try.prog 107 #[.pointer (some ⟨gf, 0, none⟩), .pointer (some ⟨g, j, none⟩)] w fun e w' =>
      ((Pk.takeText s a).2.2 = 0 ∧ e = .returned (.tuple #[]) ∧ Took w w' g t j arr (.string (Pk.takeText s a).1) gf s (Pk.takeText s a).2.1) ∨
      ((Pk.takeText s a).2.2 ≠ 0 ∧ e = .panicked broken ∧ But2 w w' g gf) := by
  have h0 := hf.cell0
  have h1 := hf.cell1
  have h2 := hf.cell2
  have hp := row_cell hg hj
  have hpz := free_of_row (j := j) hg
  have hz2 := hf.free 2
  have htake : pack_TakeText.f 20 s a = some ((Pk.takeText s a).1, (Pk.takeText s a).2.1, (Pk.takeText s a).2.2) := PkH.pack_takeText s hs a 20 (Nat.le_refl _)
  have HT := Aside0.mk htake
  have HF := Aside0.mk hf
  have HG := Aside0.mk hg
  clear htake hf hg
  generalize (Pk.takeText s a).1 = n at *
  generalize (Pk.takeText s a).2.1 = nx at *
  generalize (Pk.takeText s a).2.2 = er at *
  have HE : Aside0 (er = 0 ∨ er ≠ 0) := ⟨by omega⟩
  go_enter Try.func107, Try.ntmps107
  go_wp2_with fail
  go_region_held3 (fun w' => w'.cell? ⟨gf, 1, none⟩ = some (.string s) ∧ w'.cell? ⟨gf, 2, none⟩ = some (.int .i64 a))
    (first | exact ⟨h1, h2⟩ | exact ⟨(hb.cell (World.block_lt_of_cell? w _ h1)).trans h1, (hb.cell (World.block_lt_of_cell? w _ h2)).trans h2⟩ | go_keep)
    (first | (go_at_call 91; refine (pack_TakeText.calls 20 _ _ _ _ _ _ HT.out).mono ?_; rintro e w1 ⟨rfl, hb⟩; replace hb : Below w.heap.size w w1 := ⟨hb.os, hb.tape, hb.output, hb.size, hb.block⟩; have HG1 := Aside0.mk (row_below hb HG.out); have HF1 := Aside0.mk (HF.out.below hb); have hp1 := cell_below hb hp; have hpz1 := free_of_row (j := j) HG1.out; have h21 := HF1.out.cell2; have hz21 := HF1.out.free 2))
  rcases HE.out with he | he
  · subst he
    go_wp2_with (go_at_call 45; refine (must_yes _).mono ?_; rintro e w2 ⟨rfl, rfl⟩)
    go_end0
    exact ⟨rfl, Took.of hne2 HG1.out HF1.out hb⟩
  · have hE : (er == 0) = false := by simpa using he
    have HEE := Aside0.mk he
    clear he
    go_wp2_with (go_at_call 45; refine (must_no _).mono ?_; rintro e w2 ⟨rfl, rfl⟩)
    exact ⟨rfl, Or.inr ⟨HEE.out, rfl, But2.of_below hb⟩⟩

/-- A row of one's own stays where two elder blocks are written. -/
theorem R_two {α : Type} {d : Kd α} {e base : Nat} {w : World} {v : Value} {xs : List α} (h : d.R e w base (fun _ => True) v xs) {p q : Addr} (hp : p.block < base) (hq : q.block < base) (x y : Value) :
    d.R e ((w.setCell p x).setCell q y) base (fun _ => True) v xs := by
  have h1 := Kd.R_bound h
  have h2 := Kd.R_far (p := p) h1 (fun k hk => by have := hk.2.1; omega) x
  have h3 := Kd.R_far (p := q) h2 (fun k hk => by have := hk.2.1; omega) y
  exact Kd.R_mono h3 (fun _ _ => trivial)
theorem R_slot {α : Type} {d : Kd α} {e base : Nat} {w : World} {ok : Nat → Prop} {v : Value} {xs : List α} (h : d.R e w base ok v xs) : ∃ A n c, v = .slice A n c := by
  obtain ⟨A, c, h⟩ := Kd.R_slice h
  exact ⟨A, _, c, h⟩

set_option maxHeartbeats 2000000 in
set_option maxRecDepth 100000 in
theorem list_read (w : World) (g t j : Nat) (arr : Array Value) (A0 : Option Addr) (n0 c0 : Nat) (gf : Nat) (s : ByteArray) (a : Int) (hg : w.heap[g]? = some (.cells arr t (0, 0))) (hj : arr[j]? = some (.slice A0 n0 c0)) (hne2 : g ≠ gf)
    (hf : FormAt w gf false s a) (hs : s.size ≤ 1000000000000000) :
    Calls Try.prog 78 #[.pointer (some ⟨gf, 0, none⟩), .pointer (some ⟨g, j, none⟩)] w fun e w' =>
      ((Pk.takeList s a).2.2 = 0 ∧ e = .returned (.tuple #[]) ∧ ∃ v, Took w w' g t j arr v gf s (Pk.takeList s a).2.1 ∧ Kd.R Kd.string 9 w' w.heap.size (fun _ => True) v (Pk.takeList s a).1) ∨
      ((Pk.takeList s a).2.2 ≠ 0 ∧ e = .panicked broken ∧ But2 w w' g gf) := by
  have h0 := hf.cell0
  have h1 := hf.cell1
  have h2 := hf.cell2
  have hp := row_cell hg hj
  have hpz := free_of_row (j := j) hg
  have hz2 := hf.free 2
  have htake : pack_TakeList.f 4100 s a = some ((Pk.takeList s a).1, (Pk.takeList s a).2.1, (Pk.takeList s a).2.2) := PkH.pack_takeList s hs a 4100 (Nat.le_refl _)
  have HT := Aside0.mk htake
  have HF := Aside0.mk hf
  have HG := Aside0.mk hg
  clear htake hf hg
  generalize (Pk.takeList s a).1 = n at *
  generalize (Pk.takeList s a).2.1 = nx at *
  generalize (Pk.takeList s a).2.2 = er at *
  have HE : Aside0 (er = 0 ∨ er ≠ 0) := ⟨by omega⟩
  go_enter Try.func78, Try.ntmps78
  go_wp2_with fail
  go_region_held3 (fun w' => w'.cell? ⟨gf, 1, none⟩ = some (.string s) ∧ w'.cell? ⟨gf, 2, none⟩ = some (.int .i64 a))
    (first | exact ⟨h1, h2⟩ | exact ⟨(hb.cell (World.block_lt_of_cell? w _ h1)).trans h1, (hb.cell (World.block_lt_of_cell? w _ h2)).trans h2⟩ | go_keep)
    (first | (go_at_call 86; refine (pack_TakeList.calls 4100 _ _ _ _ _ _ HT.out).mono ?_; rintro e w1 ⟨v0_, rfl, hr, hb⟩; replace hb : Below w.heap.size w w1 := ⟨hb.os, hb.tape, hb.output, hb.size, hb.block⟩; have HG1 := Aside0.mk (row_below hb HG.out); have HF1 := Aside0.mk (HF.out.below hb); have hp1 := cell_below hb hp; have hpz1 := free_of_row (j := j) HG1.out; have h21 := HF1.out.cell2; have hz21 := HF1.out.free 2; obtain ⟨A1, n1, c1, rfl⟩ := R_slot hr; have HR1 := Aside0.mk hr; clear hr))
  rcases HE.out with he | he
  · subst he
    go_wp2_with (go_at_call 45; refine (must_yes _).mono ?_; rintro e w2 ⟨rfl, rfl⟩)
    go_end0
    exact ⟨rfl, _, Took.of hne2 HG1.out HF1.out hb, R_two HR1.out (Array.getElem?_eq_some_iff.1 HG.out).1 HF.out.lt _ _⟩
  · have hE : (er == 0) = false := by simpa using he
    have HEE := Aside0.mk he
    clear he
    go_wp2_with (go_at_call 45; refine (must_no _).mono ?_; rintro e w2 ⟨rfl, rfl⟩)
    exact ⟨rfl, Or.inr ⟨HEE.out, rfl, But2.of_below hb⟩⟩

/-- What a call of num, text, list leaves behind that writes: the form has grown; its block alone has changed. -/
structure Put (w w' : World) (gf : Nat) (s : ByteArray) : Prop where
  form : FormAt w' gf true s 0
  but : But2 w w' gf gf
theorem Put.of {w w2 : World} {gf : Nat} {s s' : ByteArray} (hf : FormAt w2 gf true s 0) (hb : Below w.heap.size w w2) : Put w (w2.setCell ⟨gf, 1, none⟩ (.string s')) gf s' := by
  refine ⟨?_, ⟨hb.os, hb.tape, hb.output, ?_, ?_⟩⟩
  · unfold FormAt at *
    rw [row_setCell hf]
    rfl
  · show _ ≤ (w2.setCell _ _).heap.size
    simpa [World.setCell] using hb.size
  · intro k hk h1 _
    rw [Below.heap_setCell _ _ _ _ h1]
    exact hb.block k hk

set_option maxHeartbeats 2000000 in
set_option maxRecDepth 100000 in
theorem num_write (w : World) (p : Addr) (n : Int) (gf : Nat) (s : ByteArray) (hp : w.cell? p = some (.int .i64 n)) (hf : FormAt w gf true s 0) (hn0 : 0 ≤ n) (hn1 : n ≤ 1125899906842624) (hlen : s.size + (⟨(Pk.enc n.toNat).toArray⟩ : ByteArray).size ≤ 140737488355328) :
    Calls Try.prog 77 #[.pointer (some ⟨gf, 0, none⟩), .pointer (some p)] w fun e w' => e = .returned (.tuple #[]) ∧ Put w w' gf (s ++ (⟨(Pk.enc n.toNat).toArray⟩ : ByteArray)) := by
  have h0 := hf.cell0
  have h1 := hf.cell1
  have hz1 := hf.free 1
  have hnum : pack_Num.f 20 n = some ((⟨(Pk.enc n.toNat).toArray⟩ : ByteArray), 0) := by rw [PkH.pack_num n 20 (Nat.le_refl _), Pk.num_ok hn0 hn1]
  have HT := Aside0.mk hnum
  clear hnum hn0 hn1
  have HF := Aside0.mk hf
  clear hf
  generalize (⟨(Pk.enc n.toNat).toArray⟩ : ByteArray) = x at *
  go_enter Try.func77, Try.ntmps77
  go_wp2_with (first | (go_at_call 83; refine (pack_Num.calls 20 _ _ _ _ HT.out).mono ?_; rintro e w1 ⟨rfl, hb⟩; replace hb : Below w.heap.size w w1 := ⟨hb.os, hb.tape, hb.output, hb.size, hb.block⟩; have HF1 := Aside0.mk (HF.out.below hb); have h11 := HF1.out.cell1; have hz11 := HF1.out.free 1) | (go_at_call 45; refine (must_yes _).mono ?_; rintro e w2 ⟨rfl, rfl⟩))
  go_returns
  exact ⟨rfl, Put.of HF1.out hb⟩

set_option maxHeartbeats 2000000 in
set_option maxRecDepth 100000 in
theorem text_write (w : World) (p : Addr) (t : ByteArray) (gf : Nat) (s : ByteArray) (hp : w.cell? p = some (.string t)) (hf : FormAt w gf true s 0) (ht : ¬ t.size > 2000) (hlen : s.size + (⟨(Pk.item t).toArray⟩ : ByteArray).size ≤ 140737488355328) :
    Calls Try.prog 107 #[.pointer (some ⟨gf, 0, none⟩), .pointer (some p)] w fun e w' => e = .returned (.tuple #[]) ∧ Put w w' gf (s ++ (⟨(Pk.item t).toArray⟩ : ByteArray)) := by
  have h0 := hf.cell0
  have h1 := hf.cell1
  have hz1 := hf.free 1
  have hnum : pack_Text.f 20 t = some ((⟨(Pk.item t).toArray⟩ : ByteArray), 0) := by rw [PkH.pack_text t 20 (Nat.le_refl _), Pk.text_ok ht]
  have HT := Aside0.mk hnum
  clear hnum ht
  have HF := Aside0.mk hf
  clear hf
  generalize (⟨(Pk.item t).toArray⟩ : ByteArray) = x at *
  go_enter Try.func107, Try.ntmps107
  go_wp2_with (first | (go_at_call 89; refine (pack_Text.calls 20 _ _ _ _ HT.out).mono ?_; rintro e w1 ⟨rfl, hb⟩; replace hb : Below w.heap.size w w1 := ⟨hb.os, hb.tape, hb.output, hb.size, hb.block⟩; have HF1 := Aside0.mk (HF.out.below hb); have h11 := HF1.out.cell1; have hz11 := HF1.out.free 1) | (go_at_call 45; refine (must_yes _).mono ?_; rintro e w2 ⟨rfl, rfl⟩))
  go_returns
  exact ⟨rfl, Put.of HF1.out hb⟩

set_option maxHeartbeats 2000000 in
set_option maxRecDepth 100000 in
theorem list_write (w : World) (p : Addr) (A : Option Addr) (c : Nat) (l : List ByteArray) (gf : Nat) (s : ByteArray) (hp : w.cell? p = some (.slice A l.length c)) (hf : FormAt w gf true s 0) (hr : Kd.C Kd.string w A l.length l) (hc : l.length ≤ c) (hl : l.length ≤ 4000) (ht : ∀ t ∈ l, t.size ≤ 2000) (hlen : s.size + (⟨(Pk.whole l).toArray⟩ : ByteArray).size ≤ 140737488355328) :
    Calls Try.prog 78 #[.pointer (some ⟨gf, 0, none⟩), .pointer (some p)] w fun e w' => e = .returned (.tuple #[]) ∧ Put w w' gf (s ++ (⟨(Pk.whole l).toArray⟩ : ByteArray)) := by
  have h0 := hf.cell0
  have h1 := hf.cell1
  have hz1 := hf.free 1
  have hnum : pack_List.f 4100 l = some ((⟨(Pk.whole l).toArray⟩ : ByteArray), 0) := by rw [PkH.pack_list l 4100 (Nat.le_refl _), Pk.list_ok hl ht]
  have HT := Aside0.mk hnum
  have HR := Aside0.mk hr
  have HC := Aside0.mk hc
  clear hnum ht hl hr hc
  have HF := Aside0.mk hf
  clear hf
  generalize (⟨(Pk.whole l).toArray⟩ : ByteArray) = x at *
  go_enter Try.func78, Try.ntmps78
  go_wp2_with (first | (go_at_call 85; refine (pack_List.calls 4100 _ _ _ _ _ _ HR.out HC.out HT.out).mono ?_; rintro e w1 ⟨rfl, hb⟩; replace hb : Below w.heap.size w w1 := ⟨hb.os, hb.tape, hb.output, hb.size, hb.block⟩; have HF1 := Aside0.mk (HF.out.below hb); have h11 := HF1.out.cell1; have hz11 := HF1.out.free 1) | (go_at_call 45; refine (must_yes _).mono ?_; rintro e w2 ⟨rfl, rfl⟩))
  go_returns
  exact ⟨rfl, Put.of HF1.out hb⟩
end Go.Proofs.Ytejaepohkcjoiaa.CdForm

/- The steps along an item's fields: one read, or written, behind the other. -/
namespace Go.Proofs.Ytejaepohkcjoiaa.CdForm
open Go.RowKit Go.IntWalk Go.Proofs.Ytejaepohkcjoiaa.G Go.Proofs.YtejaepohkcjoiaaW.PrintWords Go.Proofs.YtejaepohkcjoiaaW.PrintLast Go.Proofs.YtejaepohkcjoiaaW.PrintMore

/-- An item (block g) is being read out of a form (block gf), since the world w0. -/
structure St (w0 w : World) (g t : Nat) (arr : Array Value) (gf : Nat) (s : ByteArray) (a : Int) : Prop where
  row : w.heap[g]? = some (.cells arr t (0, 0))
  form : FormAt w gf false s a
  but : But2 w0 w g gf

theorem St.drew {w0 w : World} {g t : Nat} {arr : Array Value} {gf : Nat} {s : ByteArray} {a : Int} (h : St w0 w g t arr gf s a) : St w0 w.drew g t arr gf s a :=
  ⟨h.row, h.form, ⟨h.but.os, h.but.tape, h.but.output, h.but.size, h.but.block⟩⟩
theorem But2.glt {w w1 : World} {g gf : Nat} (h : But2 w w1 g gf) : w.heap.size ≤ w1.heap.size := h.size

theorem num_step (w0 w : World) (g t j : Nat) (arr : Array Value) (v0 : Int) (gf : Nat) (s : ByteArray) (a : Int) (h : St w0 w g t arr gf s a) (hj : arr[j]? = some (.int .i64 v0)) (hne : g ≠ gf) (hs : s.size ≤ 1000000000000000) :
    Calls Try.prog 77 #[.pointer (some ⟨gf, 0, none⟩), .pointer (some ⟨g, j, none⟩)] w fun e w' =>
      (∃ n nx, Pk.takeNum s a = (n, nx, 0) ∧ e = .returned (.tuple #[]) ∧ St w0 w' g t (arr.setIfInBounds j (.int .i64 n)) gf s nx) ∨
      ((Pk.takeNum s a).2.2 ≠ 0 ∧ e = .panicked broken ∧ But2 w0 w' g gf) := by
  refine (num_read w g t j arr v0 gf s a h.row hj hne h.form hs).mono ?_
  rintro e w' (⟨he, rfl, ht⟩ | ⟨he, rfl, hb⟩)
  · exact Or.inl ⟨_, _, Prod.ext rfl (Prod.ext rfl he), rfl, ht.row, ht.form, h.but.trans ht.but⟩
  · exact Or.inr ⟨he, rfl, h.but.trans hb⟩
theorem text_step (w0 w : World) (g t j : Nat) (arr : Array Value) (v0 : ByteArray) (gf : Nat) (s : ByteArray) (a : Int) (h : St w0 w g t arr gf s a) (hj : arr[j]? = some (.string v0)) (hne : g ≠ gf) (hs : s.size ≤ 1000000000000000) :
    Calls Try.prog 107 #[.pointer (some ⟨gf, 0, none⟩), .pointer (some ⟨g, j, none⟩)] w fun e w' =>
      (∃ n nx, Pk.takeText s a = (n, nx, 0) ∧ e = .returned (.tuple #[]) ∧ St w0 w' g t (arr.setIfInBounds j (.string n)) gf s nx) ∨
      ((Pk.takeText s a).2.2 ≠ 0 ∧ e = .panicked broken ∧ But2 w0 w' g gf) := by
  refine (text_read w g t j arr v0 gf s a h.row hj hne h.form hs).mono ?_
  rintro e w' (⟨he, rfl, ht⟩ | ⟨he, rfl, hb⟩)
  · exact Or.inl ⟨_, _, Prod.ext rfl (Prod.ext rfl he), rfl, ht.row, ht.form, h.but.trans ht.but⟩
  · exact Or.inr ⟨he, rfl, h.but.trans hb⟩
theorem list_step (w0 w : World) (g t j : Nat) (arr : Array Value) (A0 : Option Addr) (n0 c0 : Nat) (gf : Nat) (s : ByteArray) (a : Int) (h : St w0 w g t arr gf s a) (hj : arr[j]? = some (.slice A0 n0 c0)) (hne : g ≠ gf) (hs : s.size ≤ 1000000000000000) :
    Calls Try.prog 78 #[.pointer (some ⟨gf, 0, none⟩), .pointer (some ⟨g, j, none⟩)] w fun e w' =>
      (∃ l nx v, Pk.takeList s a = (l, nx, 0) ∧ e = .returned (.tuple #[]) ∧ St w0 w' g t (arr.setIfInBounds j v) gf s nx ∧ Kd.R Kd.string 9 w' w0.heap.size (fun _ => True) v l) ∨
      ((Pk.takeList s a).2.2 ≠ 0 ∧ e = .panicked broken ∧ But2 w0 w' g gf) := by
  refine (list_read w g t j arr A0 n0 c0 gf s a h.row hj hne h.form hs).mono ?_
  rintro e w' (⟨he, rfl, v, ht, hr⟩ | ⟨he, rfl, hb⟩)
  · exact Or.inl ⟨_, _, v, Prod.ext rfl (Prod.ext rfl he), rfl, ⟨ht.row, ht.form, h.but.trans ht.but⟩, Kd.R_lower hr h.but.size⟩
  · exact Or.inr ⟨he, rfl, h.but.trans hb⟩

/-- The bytes of a number. -/
abbrev en (n : Int) : List UInt8 := Pk.enc n.toNat

/-- A form (block gf) has been written on, since the world w0: it holds L; the blocks of w0 are as they were. -/
def Wr (w0 w : World) (gf : Nat) (L : List UInt8) (k : Nat) : Prop :=
  ∃ s : ByteArray, FormAt w gf true s 0 ∧ s.data.toList = L ∧ s.size ≤ k * 10000000 ∧ w0.heap.size ≤ gf ∧ Below w0.heap.size w0 w
theorem Wr.more {w0 w : World} {gf : Nat} {L : List UInt8} {k k' : Nat} (h : Wr w0 w gf L k) (hk : k ≤ k') : Wr w0 w gf L k' := by
  obtain ⟨s, h1, h2, h3, h4⟩ := h
  exact ⟨s, h1, h2, Nat.le_trans h3 (Nat.mul_le_mul_right _ hk), h4⟩
theorem Wr.cell {w0 w : World} {gf : Nat} {L : List UInt8} {k : Nat} (h : Wr w0 w gf L k) {g t j : Nat} {arr : Array Value} {v : Value} (hg : w0.heap[g]? = some (.cells arr t (0, 0))) (hj : arr[j]? = some v) : w.cell? ⟨g, j, none⟩ = some v := by
  obtain ⟨s, h1, h2, h3, h4, h5⟩ := h
  exact row_cell (row_below h5 hg) hj
theorem Wr.put {w0 w w' : World} {gf : Nat} {s x : ByteArray} {k : Nat} (h3 : s.size ≤ k * 10000000) (h4 : w0.heap.size ≤ gf) (h5 : Below w0.heap.size w0 w) (hx : x.size ≤ 10000000) (hp : Put w w' gf (s ++ x)) :
    Wr w0 w' gf (s.data.toList ++ x.data.toList) (k + 1) := by
  have ha : (s ++ x).data.toList = s.data.toList ++ x.data.toList := by simp [ByteArray.data_append]
  have hb : (s ++ x).size ≤ (k + 1) * 10000000 := by
    have := ByteArray.size_append (a := s) (b := x)
    omega
  refine ⟨s ++ x, hp.form, ha, hb, h4, ?_⟩
  exact ⟨hp.but.os.trans h5.os, hp.but.tape.trans h5.tape, hp.but.output.trans h5.output, Nat.le_trans h5.size hp.but.size, fun k hk => (hp.but.block k (Nat.lt_of_lt_of_le hk h5.size) (by omega) (by omega)).trans (h5.block k hk)⟩

theorem num_put (w0 w : World) (gf : Nat) (L : List UInt8) (k : Nat) (h : Wr w0 w gf L k) (g t j : Nat) (arr : Array Value) (n : Int) (hg : w0.heap[g]? = some (.cells arr t (0, 0))) (hj : arr[j]? = some (.int .i64 n))
    (hn : 0 ≤ n ∧ n ≤ 1125899906842624) (hk : k ≤ 1000) :
    Calls Try.prog 77 #[.pointer (some ⟨gf, 0, none⟩), .pointer (some ⟨g, j, none⟩)] w fun e w' => e = .returned (.tuple #[]) ∧ Wr w0 w' gf (L ++ en n) (k + 1) := by
  have hc := h.cell hg hj
  obtain ⟨s, h1, rfl, h3, h4, h5⟩ := h
  have hl := Pk.enc_len8 (n := n.toNat) (by omega)
  have hx : (⟨(Pk.enc n.toNat).toArray⟩ : ByteArray).size ≤ 8 := by
    show (Pk.enc n.toNat).toArray.size ≤ 8
    simpa using hl
  refine (num_write w ⟨g, j, none⟩ n gf s hc h1 hn.1 hn.2 (by omega)).mono ?_
  rintro e w' ⟨rfl, hp⟩
  exact ⟨rfl, Wr.put h3 h4 h5 (by omega) hp⟩
theorem text_put (w0 w : World) (gf : Nat) (L : List UInt8) (k : Nat) (h : Wr w0 w gf L k) (g t j : Nat) (arr : Array Value) (n : ByteArray) (hg : w0.heap[g]? = some (.cells arr t (0, 0))) (hj : arr[j]? = some (.string n))
    (hn : ¬ n.size > 2000) (hk : k ≤ 1000) :
    Calls Try.prog 107 #[.pointer (some ⟨gf, 0, none⟩), .pointer (some ⟨g, j, none⟩)] w fun e w' => e = .returned (.tuple #[]) ∧ Wr w0 w' gf (L ++ Pk.item n) (k + 1) := by
  have hc := h.cell hg hj
  obtain ⟨s, h1, rfl, h3, h4, h5⟩ := h
  have hl := Pk.item_len (s := n) (by omega)
  have hx : (⟨(Pk.item n).toArray⟩ : ByteArray).size ≤ 2008 := by
    show (Pk.item n).toArray.size ≤ 2008
    simpa using hl
  refine (text_write w ⟨g, j, none⟩ n gf s hc h1 hn (by omega)).mono ?_
  rintro e w' ⟨rfl, hp⟩
  exact ⟨rfl, Wr.put h3 h4 h5 (by omega) hp⟩
theorem items_len : ∀ (l : List ByteArray), (∀ t ∈ l, t.size ≤ 2000) → (Pk.items l).length ≤ 2008 * l.length
  | [], _ => by simp [Pk.items]
  | t :: l, h => by
    have := items_len l (fun x hx => h x (List.mem_cons_of_mem _ hx))
    have := Pk.item_len (s := t) (h t List.mem_cons_self)
    rw [Pk.items_cons, List.length_append, List.length_cons]
    omega
theorem list_put (w0 w : World) (gf : Nat) (L : List UInt8) (k : Nat) (h : Wr w0 w gf L k) (g t j : Nat) (arr : Array Value) (A : Option Addr) (c : Nat) (l : List ByteArray) (hg : w0.heap[g]? = some (.cells arr t (0, 0))) (hj : arr[j]? = some (.slice A l.length c))
    (hr : Kd.C Kd.string w0 A l.length l) (hc : l.length ≤ c) (hl : l.length ≤ 4000) (ht : ∀ t ∈ l, t.size ≤ 2000) (hk : k ≤ 1000) :
    Calls Try.prog 78 #[.pointer (some ⟨gf, 0, none⟩), .pointer (some ⟨g, j, none⟩)] w fun e w' => e = .returned (.tuple #[]) ∧ Wr w0 w' gf (L ++ Pk.whole l) (k + 1) := by
  have hcell := h.cell hg hj
  obtain ⟨s, h1, rfl, h3, h4, h5⟩ := h
  have hi := items_len l ht
  have he := Pk.enc_len8 (n := l.length) (by omega)
  have hx : (⟨(Pk.whole l).toArray⟩ : ByteArray).size ≤ 10000000 := by
    show (Pk.whole l).toArray.size ≤ 10000000
    rw [List.size_toArray, Pk.whole, List.length_append]
    omega
  refine (list_write w ⟨g, j, none⟩ A c l gf s hcell h1 (Kd.C_below hr h5) hc hl ht (by omega)).mono ?_
  rintro e w' ⟨rfl, hp⟩
  exact ⟨rfl, Wr.put h3 h4 h5 hx hp⟩

/-! Reading, in plain words: one field behind the other. -/
def num {α : Type} (s : ByteArray) (a : Int) (k : Int → Int → Option α) : Option α := if (Pk.takeNum s a).2.2 = 0 then k (Pk.takeNum s a).1 (Pk.takeNum s a).2.1 else none
def text {α : Type} (s : ByteArray) (a : Int) (k : ByteArray → Int → Option α) : Option α := if (Pk.takeText s a).2.2 = 0 then k (Pk.takeText s a).1 (Pk.takeText s a).2.1 else none
def list {α : Type} (s : ByteArray) (a : Int) (k : List ByteArray → Int → Option α) : Option α := if (Pk.takeList s a).2.2 = 0 then k (Pk.takeList s a).1 (Pk.takeList s a).2.1 else none
theorem num_ok {α : Type} {s : ByteArray} {a n x : Int} (h : Pk.takeNum s a = (n, x, 0)) (k : Int → Int → Option α) : num s a k = k n x := by rw [num, h, if_pos rfl]
theorem num_no {α : Type} {s : ByteArray} {a : Int} (h : (Pk.takeNum s a).2.2 ≠ 0) (k : Int → Int → Option α) : num s a k = none := by rw [num, if_neg h]
theorem text_ok {α : Type} {s : ByteArray} {a x : Int} {n : ByteArray} (h : Pk.takeText s a = (n, x, 0)) (k : ByteArray → Int → Option α) : text s a k = k n x := by rw [text, h, if_pos rfl]
theorem text_no {α : Type} {s : ByteArray} {a : Int} (h : (Pk.takeText s a).2.2 ≠ 0) (k : ByteArray → Int → Option α) : text s a k = none := by rw [text, if_neg h]
theorem list_ok {α : Type} {s : ByteArray} {a x : Int} {n : List ByteArray} (h : Pk.takeList s a = (n, x, 0)) (k : List ByteArray → Int → Option α) : list s a k = k n x := by rw [list, h, if_pos rfl]
theorem list_no {α : Type} {s : ByteArray} {a : Int} (h : (Pk.takeList s a).2.2 ≠ 0) (k : List ByteArray → Int → Option α) : list s a k = none := by rw [list, if_neg h]
end Go.Proofs.Ytejaepohkcjoiaa.CdForm

/- codec.areKeys: the walk, by hand. -/
namespace Go.Proofs.Ytejaepohkcjoiaa.CdKeys
open Go.RowKit Go.IntWalk Go.Proofs.Ytejaepohkcjoiaa.G Go.Proofs.YtejaepohkcjoiaaW.PrintWords Go.Proofs.YtejaepohkcjoiaaW.PrintLast Go.Proofs.YtejaepohkcjoiaaW.PrintMore Go.Proofs.Ytejaepohkcjoiaa.Tabs
variable [Tab]

/-- Are these keys, behind one (or none)? -/
def goK : Option ByteArray → List ByteArray → Bool
  | _, [] => true
  | none, k :: l => Nm.isName k && goK (some k) l
  | some p, k :: l => Nm.isName k && (decide (Tab.cmp p k < 0) && goK (some k) l)
def areKeys (l : List ByteArray) : Bool := decide (l.length ≤ 2) && goK none l

def prev (l : List ByteArray) (i : Nat) : Option ByteArray := if i = 0 then none else l[i - 1]?

set_option maxHeartbeats 1000000 in
theorem keys_calls (A : Option Addr) (c : Nat) (l : List ByteArray) (w : World) (hr : Kd.C Kd.string w A l.length l) (hs : ∀ t ∈ l, t.size ≤ 9000000000000000000) (hT : Tab.At w) :
    Calls Try.prog 82 #[.slice A l.length c] w fun e w' => e = .returned (.bool (areKeys l)) ∧ Below w.heap.size w w' := by
  have HR := Aside0.mk hr
  have HS := Aside0.mk hs
  have HT := Aside0.mk hT
  have HB := Aside0.mk (Below.refl w.heap.size w)
  clear hr hs hT
  by_cases h2 : 2 < l.length
  · have hk : areKeys l = false := by simp [areKeys]; omega
    have HK := Aside0.mk hk
    have hd : decide (2 < (l.length : Int)) = true := decide_eq_true (by omega)
    clear hk
    go_enter Try.func82, Try.ntmps82
    go_wp2
    go_ret
    rw [HK.out]
    exact ⟨rfl, HB.out⟩
  · have hk : areKeys l = goK none l := by simp [areKeys]; omega
    have HK := Aside0.mk hk
    have hd : decide (2 < (l.length : Int)) = false := decide_eq_false (by omega)
    clear hk
    go_enter Try.func82, Try.ntmps82
    go_wp2
    go_loopw [10] (fun v10 wr => ∃ i : Nat, i ≤ l.length ∧ v10 = .int .i64 (i : Int) ∧ areKeys l = goK (prev l i) (l.drop i) ∧ (∀ p, prev l i = some p → Nm.AllName p) ∧ Below w.heap.size w wr) (fun v10 _ => l.length - (intOf v10).toNat)
    case atStart => exact ⟨0, Nat.zero_le _, rfl, HK.out, by simp [prev], HB.out⟩
    case round =>
      obtain ⟨i, hi, rfl, hg, hall, hB⟩ := hrel
      have HG := Aside0.mk hg
      have HA := Aside0.mk hall
      replace HB := Aside0.mk hB
      clear hg hall hB
      by_cases hlt : i < l.length
      · obtain ⟨ad, rfl, hcell0⟩ := Kd.at_string HR.out (i : Int) (by omega) (by omega)
        have hx : rdOf ByteArray.empty l (i : Int) = l[i] := by unfold rdOf; simp [List.getD, List.getElem?_eq_getElem hlt]
        rw [hx, Int.toNat_natCast] at hcell0
        have hcell := (HB.out.cell (World.block_lt_of_cell? w _ hcell0)).trans hcell0
        have hsz := HS.out l[i] (List.getElem_mem hlt)
        have hdrop : l.drop i = l[i] :: l.drop (i + 1) := List.drop_eq_getElem_cons hlt
        have hprev : prev l (i + 1) = some l[i] := by unfold prev; rw [if_neg (by omega)]; simp [List.getElem?_eq_getElem hlt]
        rw [hdrop] at HG
        have HP := Aside0.mk hprev
        have HZ := Aside0.mk hsz
        clear hx hcell0 hdrop hprev hsz
        have hd1 : decide (i < l.length) = true := decide_eq_true hlt
        have hd2 : decide ((i : Int) < (l.length : Int)) = true := decide_eq_true (by omega)
        have hi01 : i = 0 ∨ i = 1 := by omega
        have hnm := @Nm.isName_all l[i]
        have HNM := Aside0.mk hnm
        clear hnm
        rcases hi01 with rfl | rfl
        · have hp0 : prev l 0 = none := rfl
          rw [hp0, goK] at HG
          generalize l[0] = k at *
          clear hp0
          replace hcell : wr.cell? ad = some (.string k) := hcell
          cases hn : Nm.isName k
          · have hf : areKeys l = false := by rw [HG.out, hn]; rfl
            have HF := Aside0.mk hf
            clear hf
            go_wp2_with (first | (go_at_call 87; refine (NameWalk.is_calls _ _ HZ.out).mono ?_; rw [hn]; rintro e w1 ⟨rfl, hb1⟩))
            go_ret
            rw [HF.out]
            exact ⟨rfl, HB.out.trans (hb1.mono HB.out.size)⟩
          · have hf : areKeys l = goK (some k) (l.drop 1) := by rw [HG.out, hn]; rfl
            have HF := Aside0.mk hf
            have HAN := Aside0.mk (HNM.out hn)
            clear hf
            go_wp2_with (first | (go_at_call 87; refine (NameWalk.is_calls _ _ HZ.out).mono ?_; rw [hn]; rintro e w1 ⟨rfl, hb1⟩))
            go_roundw
            case rel => exact ⟨1, hlt, by go_num, by rw [HP.out]; exact HF.out, by rw [HP.out]; rintro p ⟨rfl⟩; exact HAN.out, HB.out.trans (hb1.mono HB.out.size)⟩
            case measure => simp [intOf]; omega
        · have hl0 : 0 < l.length := by omega
          have hp1 : prev l 1 = some l[0] := by unfold prev; rw [if_neg (by omega)]; simp [List.getElem?_eq_getElem hl0]
          obtain ⟨ad', he', hcell1⟩ := Kd.at_string HR.out ((0 : Nat) : Int) (by omega) (by omega)
          injection he' with he'
          subst he'
          have hx1 : rdOf ByteArray.empty l ((0 : Nat) : Int) = l[0] := by unfold rdOf; simp [List.getD, List.getElem?_eq_getElem hl0]
          rw [hx1, Int.toNat_natCast] at hcell1
          have hcell2 := (HB.out.cell (World.block_lt_of_cell? w _ hcell1)).trans hcell1
          have HZ1 := Aside0.mk (HS.out l[0] (List.getElem_mem hl0))
          have HAP := Aside0.mk (HA.out _ hp1)
          rw [hp1, goK] at HG
          clear hx1 hcell1 hp1
          generalize l[0] = p at *
          generalize l[1] = k at *
          replace hcell : wr.cell? ⟨ad.block, ad.off + 1, none⟩ = some (.string k) := hcell
          replace hcell2 : wr.cell? ad = some (.string p) := hcell2
          cases hn : Nm.isName k
          · have hf : areKeys l = false := by rw [HG.out, hn]; rfl
            have HF := Aside0.mk hf
            clear hf
            go_wp2_with (first | (go_at_call 87; refine (NameWalk.is_calls _ _ HZ.out).mono ?_; rw [hn]; rintro e w1 ⟨rfl, hb1⟩))
            go_ret
            rw [HF.out]
            exact ⟨rfl, HB.out.trans (hb1.mono HB.out.size)⟩
          · have HAN := Aside0.mk (HNM.out hn)
            have HTC : Aside0 (∀ W, Tab.At W → Calls Try.prog 88 #[.string p, .string k] W fun e w' => e = .returned (.int .i64 (Tab.cmp p k)) ∧ Below W.heap.size W w') := ⟨fun W hW => Tab.calls p k W hW HAP.out HAN.out HZ1.out HZ.out⟩
            rw [hn, Bool.true_and] at HG
            generalize Tab.cmp p k = x at *
            by_cases hx : x < 0
            · have hf : areKeys l = goK (some k) (l.drop 2) := by rw [HG.out, decide_eq_true hx, Bool.true_and]
              have HF := Aside0.mk hf
              have hxx : decide (0 ≤ x) = false := decide_eq_false (by omega)
              clear hf
              go_wp2_with (first | (go_at_call 87; refine (NameWalk.is_calls _ _ HZ.out).mono ?_; rw [hn]; rintro e w1 ⟨rfl, hb1⟩; have hcell3 := (hb1.cell (World.block_lt_of_cell? _ _ hcell2)).trans hcell2; have hcell4 := (hb1.cell (World.block_lt_of_cell? _ _ hcell)).trans hcell; have HB1 := Aside0.mk (HB.out.trans (hb1.mono HB.out.size))) | (go_at_call 88; refine (HTC.out _ (Tab.below HT.out HB1.out)).mono ?_; rintro e w2 ⟨rfl, hb2⟩))
              go_roundw
              case rel => exact ⟨2, hlt, by go_num, by rw [HP.out]; exact HF.out, by rw [HP.out]; rintro p ⟨rfl⟩; exact HAN.out, HB1.out.trans (hb2.mono HB1.out.size)⟩
              case measure => simp [intOf]; omega
            · have hf : areKeys l = false := by rw [HG.out, decide_eq_false hx, Bool.false_and]
              have HF := Aside0.mk hf
              have hxx : decide (0 ≤ x) = true := decide_eq_true (by omega)
              clear hf
              go_wp2_with (first | (go_at_call 87; refine (NameWalk.is_calls _ _ HZ.out).mono ?_; rw [hn]; rintro e w1 ⟨rfl, hb1⟩; have hcell3 := (hb1.cell (World.block_lt_of_cell? _ _ hcell2)).trans hcell2; have hcell4 := (hb1.cell (World.block_lt_of_cell? _ _ hcell)).trans hcell; have HB1 := Aside0.mk (HB.out.trans (hb1.mono HB.out.size))) | (go_at_call 88; refine (HTC.out _ (Tab.below HT.out HB1.out)).mono ?_; rintro e w2 ⟨rfl, hb2⟩))
              go_ret
              rw [HF.out]
              exact ⟨rfl, HB1.out.trans (hb2.mono HB1.out.size)⟩
      · have hi : i = l.length := by omega
        have hf : areKeys l = true := by rw [HG.out, hi, List.drop_length]; cases prev l l.length <;> rfl
        have HF := Aside0.mk hf
        have hd1 : decide (i < l.length) = false := decide_eq_false hlt
        have hd2 : decide ((i : Int) < (l.length : Int)) = false := decide_eq_false (by omega)
        clear hf hi
        go_wp2
        go_ret
        rw [HF.out]
        exact ⟨rfl, HB.out⟩
end Go.Proofs.Ytejaepohkcjoiaa.CdKeys

/- The fields of a letter: read, and written. -/
namespace Go.Proofs.Ytejaepohkcjoiaa.CdLetter
open Go.RowKit Go.IntWalk Go.Proofs.Ytejaepohkcjoiaa.G Go.Proofs.YtejaepohkcjoiaaW.PrintWords Go.Proofs.YtejaepohkcjoiaaW.PrintLast Go.Proofs.YtejaepohkcjoiaaW.PrintMore Go.Proofs.Ytejaepohkcjoiaa.CdForm

structure D where
  kind : Int
  part : Int
  inst : Int
  step : Int
  sort : Int
  keys : List ByteArray

def nullD : D := ⟨0, 0, 0, 0, 0, []⟩

/-- What is read as the fields from a place on, and the place behind. -/
def rd (s : ByteArray) (a : Int) : Option (D × Int) :=
  num s a fun k a => num s a fun p a => num s a fun i a =>
    if k = 3 ∨ k = 9 then some (⟨k, p, i, 0, 0, []⟩, a)
    else num s a fun st a => if k = 1 then num s a fun so a => list s a fun ks a => some (⟨k, p, i, st, so, ks⟩, a) else some (⟨k, p, i, st, 0, []⟩, a)

theorem kinds (n : Int) : n = 3 ∨ n = 9 ∨ n = 1 ∨ (((n == 3) = false ∧ (n == 9) = false ∧ (n == 1) = false) ∧ ¬ n = 3 ∧ ¬ n = 9 ∧ ¬ n = 1) := by
  simp only [beq_eq_false_iff_ne, ne_eq]
  omega

def cells (d : D) (v : Value) : Array Value := #[.int .i64 d.kind, .int .i64 d.part, .int .i64 d.inst, .int .i64 d.step, .int .i64 d.sort, v]

/-- What the reading of an item ends with. -/
def Ends (w0 w : World) (g t : Nat) (gf : Nat) (s : ByteArray) (e : Ending) : Option (D × Int) → Prop
  | none => e = .panicked broken ∧ But2 w0 w g gf
  | some (d, a) => e = .returned (.tuple #[]) ∧ ∃ v, St w0 w g t (cells d v) gf s a ∧ Kd.R Kd.string 9 w w0.heap.size (fun _ => True) v d.keys

theorem Ends.good {w0 w : World} {g t gf : Nat} {s : ByteArray} {d : D} {a : Int} {v : Value} (h : St w0 w g t (cells d v) gf s a) (hk : Kd.R Kd.string 9 w w0.heap.size (fun _ => True) v d.keys) :
    Ends w0 w g t gf s (.returned (.tuple #[])) (some (d, a)) := ⟨rfl, v, h, hk⟩

set_option linter.unusedSimpArgs false in
set_option maxHeartbeats 6000000 in
set_option maxRecDepth 100000 in
theorem fields_read (w : World) (g gf : Nat) (s : ByteArray) (a : Int) (hg : w.heap[g]? = some (.cells (cells nullD (.slice none 0 0)) 51 (0, 0))) (hne : g ≠ gf)
    (hf : FormAt w gf false s a) (hs : s.size ≤ 1000000000000000) :
    Calls Try.prog 74 #[.pointer (some ⟨g, 0, none⟩), .pointer (some ⟨gf, 0, none⟩)] w fun e w' => Ends w w' g 51 gf s e (rd s a) := by
  have HR : Aside0 (rd s a = rd s a) := ⟨rfl⟩
  have HS : Aside0 (St w w g 51 #[.int .i64 0, .int .i64 0, .int .i64 0, .int .i64 0, .int .i64 0, .slice none 0 0] gf s a) := ⟨hg, hf, But2.refl _ _ _⟩
  have HK : Aside0 (Kd.R Kd.string 9 w w.heap.size (fun _ => True) (.slice none 0 0) []) := ⟨Kd.R_nil _ _ _ _ _⟩
  replace HR : Aside0 (rd s a = num s a fun k a => num s a fun p a => num s a fun i a =>
    if k = 3 ∨ k = 9 then some (⟨k, p, i, 0, 0, []⟩, a)
    else num s a fun st a => if k = 1 then num s a fun so a => list s a fun ks a => some (⟨k, p, i, st, so, ks⟩, a) else some (⟨k, p, i, st, 0, []⟩, a)) := HR
  generalize rd s a = r at *
  clear hg hf
  go_enter Try.func74, Try.ntmps74
  go_wp2_with fail
  go_at_call 77
  refine Calls.mono (num_step w _ g _ 0 _ _ gf s _ HS.out rfl hne hs) ?_
  rintro e w1 (⟨n, nx, ht, rfl, hS⟩ | ⟨ht, rfl, hB⟩)
  · replace HR := Aside0.mk (HR.out.trans (num_ok ht _))
    simp only [List.setIfInBounds_toArray, List.set_cons_zero, List.set_cons_succ] at hS
    replace HS := Aside0.mk hS
    have hcell := row_cell (j := 0) HS.out.row rfl
    clear ht hS
    rcases kinds n with rfl | rfl | rfl | ⟨⟨hk0, hk1, hk2⟩, HN0⟩
    rotate_left 3
    · have HN := Aside0.mk HN0
      clear HN0
      go_wp2_with (first
        | (go_at_call 77; refine Calls.mono (num_step w _ g _ _ _ _ gf s _ HS.out (by rfl) hne hs) ?_; rintro e w1 (⟨n, nx, ht, rfl, hS⟩ | ⟨ht, rfl, hB⟩); all_goals (first | (have HBAD := Aside0.mk hB; (first | replace HR := Aside0.mk (HR.out.trans (num_no ht _)) | (have HQ := HR.out; simp [HN.out.1, HN.out.2.1, HN.out.2.2] at HQ; replace HR := Aside0.mk (HQ.trans (num_no ht _)); clear HQ) | (have HQ := HR.out; simp at HQ; replace HR := Aside0.mk (HQ.trans (num_no ht _)); clear HQ)); clear hB ht) | ((first | replace HR := Aside0.mk (HR.out.trans (num_ok ht _)) | (have HQ := HR.out; simp [HN.out.1, HN.out.2.1, HN.out.2.2] at HQ; replace HR := Aside0.mk (HQ.trans (num_ok ht _)); clear HQ) | (have HQ := HR.out; simp at HQ; replace HR := Aside0.mk (HQ.trans (num_ok ht _)); clear HQ)); simp only [List.setIfInBounds_toArray, List.set_cons_zero, List.set_cons_succ] at hS; replace HS := Aside0.mk hS; have hcell := row_cell (j := 0) HS.out.row rfl; clear ht hS)))
        | (go_at_call 78; refine Calls.mono (list_step w _ g _ _ _ _ _ _ gf s _ HS.out (by rfl) hne hs) ?_; rintro e w1 (⟨n, nx, v, ht, rfl, hS, hK⟩ | ⟨ht, rfl, hB⟩); all_goals (first | (have HBAD := Aside0.mk hB; (first | replace HR := Aside0.mk (HR.out.trans (list_no ht _)) | (have HQ := HR.out; simp [HN.out.1, HN.out.2.1, HN.out.2.2] at HQ; replace HR := Aside0.mk (HQ.trans (list_no ht _)); clear HQ) | (have HQ := HR.out; simp at HQ; replace HR := Aside0.mk (HQ.trans (list_no ht _)); clear HQ)); clear hB ht) | ((first | replace HR := Aside0.mk (HR.out.trans (list_ok ht _)) | (have HQ := HR.out; simp [HN.out.1, HN.out.2.1, HN.out.2.2] at HQ; replace HR := Aside0.mk (HQ.trans (list_ok ht _)); clear HQ) | (have HQ := HR.out; simp at HQ; replace HR := Aside0.mk (HQ.trans (list_ok ht _)); clear HQ)); simp only [List.setIfInBounds_toArray, List.set_cons_zero, List.set_cons_succ] at hS; replace HS := Aside0.mk hS; have hcell := row_cell (j := 0) HS.out.row rfl; clear ht hS; replace HK := Aside0.mk hK; clear hK)))
        | (go_at_call 75; go_in))
      all_goals (first | (refine ⟨rfl, ?_⟩; rw [HR.out]; exact ⟨rfl, HBAD.out⟩) | (go_returns; have HQ := HR.out; (try simp [HN.out.1, HN.out.2.1, HN.out.2.2] at HQ); rw [HQ]; first | exact Ends.good HS.out HK.out | exact Ends.good HS.out (Kd.R_nil _ _ _ _ _)))
    all_goals
      go_wp2_with (first
        | (go_at_call 77; refine Calls.mono (num_step w _ g _ _ _ _ gf s _ HS.out (by rfl) hne hs) ?_; rintro e w1 (⟨n, nx, ht, rfl, hS⟩ | ⟨ht, rfl, hB⟩); all_goals (first | (have HBAD := Aside0.mk hB; (first | replace HR := Aside0.mk (HR.out.trans (num_no ht _)) | (have HQ := HR.out; simp [HN.out.1, HN.out.2.1, HN.out.2.2] at HQ; replace HR := Aside0.mk (HQ.trans (num_no ht _)); clear HQ) | (have HQ := HR.out; simp at HQ; replace HR := Aside0.mk (HQ.trans (num_no ht _)); clear HQ)); clear hB ht) | ((first | replace HR := Aside0.mk (HR.out.trans (num_ok ht _)) | (have HQ := HR.out; simp [HN.out.1, HN.out.2.1, HN.out.2.2] at HQ; replace HR := Aside0.mk (HQ.trans (num_ok ht _)); clear HQ) | (have HQ := HR.out; simp at HQ; replace HR := Aside0.mk (HQ.trans (num_ok ht _)); clear HQ)); simp only [List.setIfInBounds_toArray, List.set_cons_zero, List.set_cons_succ] at hS; replace HS := Aside0.mk hS; have hcell := row_cell (j := 0) HS.out.row rfl; clear ht hS)))
        | (go_at_call 78; refine Calls.mono (list_step w _ g _ _ _ _ _ _ gf s _ HS.out (by rfl) hne hs) ?_; rintro e w1 (⟨n, nx, v, ht, rfl, hS, hK⟩ | ⟨ht, rfl, hB⟩); all_goals (first | (have HBAD := Aside0.mk hB; (first | replace HR := Aside0.mk (HR.out.trans (list_no ht _)) | (have HQ := HR.out; simp [HN.out.1, HN.out.2.1, HN.out.2.2] at HQ; replace HR := Aside0.mk (HQ.trans (list_no ht _)); clear HQ) | (have HQ := HR.out; simp at HQ; replace HR := Aside0.mk (HQ.trans (list_no ht _)); clear HQ)); clear hB ht) | ((first | replace HR := Aside0.mk (HR.out.trans (list_ok ht _)) | (have HQ := HR.out; simp [HN.out.1, HN.out.2.1, HN.out.2.2] at HQ; replace HR := Aside0.mk (HQ.trans (list_ok ht _)); clear HQ) | (have HQ := HR.out; simp at HQ; replace HR := Aside0.mk (HQ.trans (list_ok ht _)); clear HQ)); simp only [List.setIfInBounds_toArray, List.set_cons_zero, List.set_cons_succ] at hS; replace HS := Aside0.mk hS; have hcell := row_cell (j := 0) HS.out.row rfl; clear ht hS; replace HK := Aside0.mk hK; clear hK)))
        | (go_at_call 75; go_in))
      all_goals (first | (refine ⟨rfl, ?_⟩; rw [HR.out]; exact ⟨rfl, HBAD.out⟩) | (go_returns; have HQ := HR.out; (try simp at HQ); rw [HQ]; first | exact Ends.good HS.out HK.out | exact Ends.good HS.out (Kd.R_nil _ _ _ _ _)))
  · replace HR := Aside0.mk (HR.out.trans (num_no ht _))
    have HBAD := Aside0.mk hB
    clear hB ht
    go_wp2_with fail
    refine ⟨rfl, ?_⟩
    rw [HR.out]
    exact ⟨rfl, HBAD.out⟩

/-- The bytes of the fields. -/
def form (d : D) : List UInt8 := en d.kind ++ (en d.part ++ (en d.inst ++ (if d.kind = 3 ∨ d.kind = 9 then [] else en d.step ++ (if d.kind = 1 then en d.sort ++ Pk.whole d.keys else []))))

/-- What can be written at all. -/
structure Fits (d : D) : Prop where
  kind : 0 ≤ d.kind ∧ d.kind ≤ 1125899906842624
  part : 0 ≤ d.part ∧ d.part ≤ 1125899906842624
  inst : 0 ≤ d.inst ∧ d.inst ≤ 1125899906842624
  step : 0 ≤ d.step ∧ d.step ≤ 1125899906842624
  sort : 0 ≤ d.sort ∧ d.sort ≤ 1125899906842624
  keys : d.keys.length ≤ 4000 ∧ ∀ t ∈ d.keys, t.size ≤ 2000

set_option linter.unusedSimpArgs false in
set_option maxHeartbeats 6000000 in
set_option maxRecDepth 100000 in
theorem fields_write (w0 w : World) (g gf : Nat) (L : List UInt8) (A : Option Addr) (c : Nat) (d : D) (hd : Fits d) (hg0 : w0.heap[g]? = some (.cells (cells d (.slice A d.keys.length c)) 51 (0, 0)))
    (hr : Kd.C Kd.string w0 A d.keys.length d.keys) (hc : d.keys.length ≤ c) (hw : Wr w0 w gf L 1) :
    Calls Try.prog 74 #[.pointer (some ⟨g, 0, none⟩), .pointer (some ⟨gf, 0, none⟩)] w fun e w' => e = .returned (.tuple #[]) ∧ Wr w0 w' gf (L ++ form d) 20 := by
  have HF := Aside0.mk hd
  have HC := Aside0.mk (And.intro hr hc)
  have HW := Aside0.mk hw
  have hg := Aside0.mk hg0
  have hcell := HW.out.cell (j := 0) hg.out rfl
  clear hd hg0 hw hr hc
  obtain ⟨kind, part, inst, step, sort, keys⟩ := d
  replace hg : Aside0 (w0.heap[g]? = some (.cells #[.int .i64 kind, .int .i64 part, .int .i64 inst, .int .i64 step, .int .i64 sort, .slice A keys.length c] 51 (0, 0))) := hg
  replace hcell : w.cell? ⟨g, 0, none⟩ = some (.int .i64 kind) := hcell
  have HX : Aside0 (∀ (L' : List UInt8) (w' : World) (k : Nat), Wr w0 w' gf L' k → k ≤ 20 → L' = L ++ form ⟨kind, part, inst, step, sort, keys⟩ → Wr w0 w' gf (L ++ form ⟨kind, part, inst, step, sort, keys⟩) 20) := ⟨fun L' w' k h hk he => he ▸ h.more hk⟩
  go_enter Try.func74, Try.ntmps74
  rcases kinds kind with rfl | rfl | rfl | ⟨⟨hk0, hk1, hk2⟩, HN0⟩
  rotate_left 3
  · have HN := Aside0.mk HN0
    clear HN0
    go_wp2_with (first
        | (go_at_call 77; refine Calls.mono (num_put w0 _ gf _ _ HW.out g _ _ _ _ hg.out (by rfl) (by first | exact HF.out.kind | exact HF.out.part | exact HF.out.inst | exact HF.out.step | exact HF.out.sort) (by decide)) ?_; rintro e w1 ⟨rfl, hW⟩; replace HW := Aside0.mk hW; clear hW; have hcell := HW.out.cell (j := 0) hg.out rfl)
        | (go_at_call 78; refine Calls.mono (list_put w0 _ gf _ _ HW.out g _ _ _ A c _ hg.out (by rfl) HC.out.1 HC.out.2 HF.out.keys.1 HF.out.keys.2 (by decide)) ?_; rintro e w1 ⟨rfl, hW⟩; replace HW := Aside0.mk hW; clear hW; have hcell := HW.out.cell (j := 0) hg.out rfl)
        | (go_at_call 75; go_in))
    all_goals (go_returns; refine ⟨rfl, HX.out _ _ _ HW.out (by decide) ?_⟩; simp [form, HN.out.1, HN.out.2.1, HN.out.2.2])
  all_goals
    go_wp2_with (first
        | (go_at_call 77; refine Calls.mono (num_put w0 _ gf _ _ HW.out g _ _ _ _ hg.out (by rfl) (by first | exact HF.out.kind | exact HF.out.part | exact HF.out.inst | exact HF.out.step | exact HF.out.sort) (by decide)) ?_; rintro e w1 ⟨rfl, hW⟩; replace HW := Aside0.mk hW; clear hW; have hcell := HW.out.cell (j := 0) hg.out rfl)
        | (go_at_call 78; refine Calls.mono (list_put w0 _ gf _ _ HW.out g _ _ _ A c _ hg.out (by rfl) HC.out.1 HC.out.2 HF.out.keys.1 HF.out.keys.2 (by decide)) ?_; rintro e w1 ⟨rfl, hW⟩; replace HW := Aside0.mk hW; clear hW; have hcell := HW.out.cell (j := 0) hg.out rfl)
        | (go_at_call 75; go_in))
    all_goals (go_returns; refine ⟨rfl, HX.out _ _ _ HW.out (by decide) ?_⟩; simp [form])
end Go.Proofs.Ytejaepohkcjoiaa.CdLetter

/- The fields of an event: read, and written. -/
namespace Go.Proofs.Ytejaepohkcjoiaa.CdEvent
open Go.RowKit Go.IntWalk Go.Proofs.Ytejaepohkcjoiaa.G Go.Proofs.YtejaepohkcjoiaaW.PrintWords Go.Proofs.YtejaepohkcjoiaaW.PrintLast Go.Proofs.YtejaepohkcjoiaaW.PrintMore Go.Proofs.Ytejaepohkcjoiaa.CdForm

structure D where
  kind : Int
  inst : Int
  step : Int
  keys : List ByteArray

def nullD : D := ⟨0, 0, 0, []⟩

/-- What is read as the fields from a place on, and the place behind. -/
def rd (s : ByteArray) (a : Int) : Option (D × Int) :=
  num s a fun k a => num s a fun i a =>
    if k = 6 then some (⟨k, i, 0, []⟩, a)
    else num s a fun st a => if k = 1 then list s a fun ks a => some (⟨k, i, st, ks⟩, a) else some (⟨k, i, st, []⟩, a)

theorem kinds (n : Int) : n = 6 ∨ n = 1 ∨ (((n == 6) = false ∧ (n == 1) = false) ∧ ¬ n = 6 ∧ ¬ n = 1) := by
  simp only [beq_eq_false_iff_ne, ne_eq]
  omega

def cells (d : D) (v : Value) : Array Value := #[.int .i64 d.kind, .int .i64 d.inst, .int .i64 d.step, v]

/-- What the reading of an item ends with. -/
def Ends (w0 w : World) (g t : Nat) (gf : Nat) (s : ByteArray) (e : Ending) : Option (D × Int) → Prop
  | none => e = .panicked broken ∧ But2 w0 w g gf
  | some (d, a) => e = .returned (.tuple #[]) ∧ ∃ v, St w0 w g t (cells d v) gf s a ∧ Kd.R Kd.string 9 w w0.heap.size (fun _ => True) v d.keys

theorem Ends.good {w0 w : World} {g t gf : Nat} {s : ByteArray} {d : D} {a : Int} {v : Value} (h : St w0 w g t (cells d v) gf s a) (hk : Kd.R Kd.string 9 w w0.heap.size (fun _ => True) v d.keys) :
    Ends w0 w g t gf s (.returned (.tuple #[])) (some (d, a)) := ⟨rfl, v, h, hk⟩

set_option linter.unusedSimpArgs false in
set_option maxHeartbeats 6000000 in
set_option maxRecDepth 100000 in
theorem fields_read (w : World) (g gf : Nat) (s : ByteArray) (a : Int) (hg : w.heap[g]? = some (.cells (cells nullD (.slice none 0 0)) 58 (0, 0))) (hne : g ≠ gf)
    (hf : FormAt w gf false s a) (hs : s.size ≤ 1000000000000000) :
    Calls Try.prog 103 #[.pointer (some ⟨g, 0, none⟩), .pointer (some ⟨gf, 0, none⟩)] w fun e w' => Ends w w' g 58 gf s e (rd s a) := by
  have HR : Aside0 (rd s a = rd s a) := ⟨rfl⟩
  have HS : Aside0 (St w w g 58 #[.int .i64 0, .int .i64 0, .int .i64 0, .slice none 0 0] gf s a) := ⟨hg, hf, But2.refl _ _ _⟩
  have HK : Aside0 (Kd.R Kd.string 9 w w.heap.size (fun _ => True) (.slice none 0 0) []) := ⟨Kd.R_nil _ _ _ _ _⟩
  replace HR : Aside0 (rd s a = num s a fun k a => num s a fun i a =>
    if k = 6 then some (⟨k, i, 0, []⟩, a)
    else num s a fun st a => if k = 1 then list s a fun ks a => some (⟨k, i, st, ks⟩, a) else some (⟨k, i, st, []⟩, a)) := HR
  generalize rd s a = r at *
  clear hg hf
  go_enter Try.func103, Try.ntmps103
  go_wp2_with fail
  go_at_call 77
  refine Calls.mono (num_step w _ g _ 0 _ _ gf s _ HS.out rfl hne hs) ?_
  rintro e w1 (⟨n, nx, ht, rfl, hS⟩ | ⟨ht, rfl, hB⟩)
  · replace HR := Aside0.mk (HR.out.trans (num_ok ht _))
    simp only [List.setIfInBounds_toArray, List.set_cons_zero, List.set_cons_succ] at hS
    replace HS := Aside0.mk hS
    have hcell := row_cell (j := 0) HS.out.row rfl
    clear ht hS
    rcases kinds n with rfl | rfl | ⟨⟨hk0, hk1⟩, HN0⟩
    rotate_left 2
    · have HN := Aside0.mk HN0
      clear HN0
      go_wp2_with (first
        | (go_at_call 77; refine Calls.mono (num_step w _ g _ _ _ _ gf s _ HS.out (by rfl) hne hs) ?_; rintro e w1 (⟨n, nx, ht, rfl, hS⟩ | ⟨ht, rfl, hB⟩); all_goals (first | (have HBAD := Aside0.mk hB; (first | replace HR := Aside0.mk (HR.out.trans (num_no ht _)) | (have HQ := HR.out; simp [HN.out.1, HN.out.2] at HQ; replace HR := Aside0.mk (HQ.trans (num_no ht _)); clear HQ) | (have HQ := HR.out; simp at HQ; replace HR := Aside0.mk (HQ.trans (num_no ht _)); clear HQ)); clear hB ht) | ((first | replace HR := Aside0.mk (HR.out.trans (num_ok ht _)) | (have HQ := HR.out; simp [HN.out.1, HN.out.2] at HQ; replace HR := Aside0.mk (HQ.trans (num_ok ht _)); clear HQ) | (have HQ := HR.out; simp at HQ; replace HR := Aside0.mk (HQ.trans (num_ok ht _)); clear HQ)); simp only [List.setIfInBounds_toArray, List.set_cons_zero, List.set_cons_succ] at hS; replace HS := Aside0.mk hS; have hcell := row_cell (j := 0) HS.out.row rfl; clear ht hS)))
        | (go_at_call 78; refine Calls.mono (list_step w _ g _ _ _ _ _ _ gf s _ HS.out (by rfl) hne hs) ?_; rintro e w1 (⟨n, nx, v, ht, rfl, hS, hK⟩ | ⟨ht, rfl, hB⟩); all_goals (first | (have HBAD := Aside0.mk hB; (first | replace HR := Aside0.mk (HR.out.trans (list_no ht _)) | (have HQ := HR.out; simp [HN.out.1, HN.out.2] at HQ; replace HR := Aside0.mk (HQ.trans (list_no ht _)); clear HQ) | (have HQ := HR.out; simp at HQ; replace HR := Aside0.mk (HQ.trans (list_no ht _)); clear HQ)); clear hB ht) | ((first | replace HR := Aside0.mk (HR.out.trans (list_ok ht _)) | (have HQ := HR.out; simp [HN.out.1, HN.out.2] at HQ; replace HR := Aside0.mk (HQ.trans (list_ok ht _)); clear HQ) | (have HQ := HR.out; simp at HQ; replace HR := Aside0.mk (HQ.trans (list_ok ht _)); clear HQ)); simp only [List.setIfInBounds_toArray, List.set_cons_zero, List.set_cons_succ] at hS; replace HS := Aside0.mk hS; have hcell := row_cell (j := 0) HS.out.row rfl; clear ht hS; replace HK := Aside0.mk hK; clear hK))))
      all_goals (first | (refine ⟨rfl, ?_⟩; rw [HR.out]; exact ⟨rfl, HBAD.out⟩) | (go_returns; have HQ := HR.out; (try simp [HN.out.1, HN.out.2] at HQ); rw [HQ]; first | exact Ends.good HS.out HK.out | exact Ends.good HS.out (Kd.R_nil _ _ _ _ _)))
    all_goals
      go_wp2_with (first
        | (go_at_call 77; refine Calls.mono (num_step w _ g _ _ _ _ gf s _ HS.out (by rfl) hne hs) ?_; rintro e w1 (⟨n, nx, ht, rfl, hS⟩ | ⟨ht, rfl, hB⟩); all_goals (first | (have HBAD := Aside0.mk hB; (first | replace HR := Aside0.mk (HR.out.trans (num_no ht _)) | (have HQ := HR.out; simp [HN.out.1, HN.out.2] at HQ; replace HR := Aside0.mk (HQ.trans (num_no ht _)); clear HQ) | (have HQ := HR.out; simp at HQ; replace HR := Aside0.mk (HQ.trans (num_no ht _)); clear HQ)); clear hB ht) | ((first | replace HR := Aside0.mk (HR.out.trans (num_ok ht _)) | (have HQ := HR.out; simp [HN.out.1, HN.out.2] at HQ; replace HR := Aside0.mk (HQ.trans (num_ok ht _)); clear HQ) | (have HQ := HR.out; simp at HQ; replace HR := Aside0.mk (HQ.trans (num_ok ht _)); clear HQ)); simp only [List.setIfInBounds_toArray, List.set_cons_zero, List.set_cons_succ] at hS; replace HS := Aside0.mk hS; have hcell := row_cell (j := 0) HS.out.row rfl; clear ht hS)))
        | (go_at_call 78; refine Calls.mono (list_step w _ g _ _ _ _ _ _ gf s _ HS.out (by rfl) hne hs) ?_; rintro e w1 (⟨n, nx, v, ht, rfl, hS, hK⟩ | ⟨ht, rfl, hB⟩); all_goals (first | (have HBAD := Aside0.mk hB; (first | replace HR := Aside0.mk (HR.out.trans (list_no ht _)) | (have HQ := HR.out; simp [HN.out.1, HN.out.2] at HQ; replace HR := Aside0.mk (HQ.trans (list_no ht _)); clear HQ) | (have HQ := HR.out; simp at HQ; replace HR := Aside0.mk (HQ.trans (list_no ht _)); clear HQ)); clear hB ht) | ((first | replace HR := Aside0.mk (HR.out.trans (list_ok ht _)) | (have HQ := HR.out; simp [HN.out.1, HN.out.2] at HQ; replace HR := Aside0.mk (HQ.trans (list_ok ht _)); clear HQ) | (have HQ := HR.out; simp at HQ; replace HR := Aside0.mk (HQ.trans (list_ok ht _)); clear HQ)); simp only [List.setIfInBounds_toArray, List.set_cons_zero, List.set_cons_succ] at hS; replace HS := Aside0.mk hS; have hcell := row_cell (j := 0) HS.out.row rfl; clear ht hS; replace HK := Aside0.mk hK; clear hK))))
      all_goals (first | (refine ⟨rfl, ?_⟩; rw [HR.out]; exact ⟨rfl, HBAD.out⟩) | (go_returns; have HQ := HR.out; (try simp at HQ); rw [HQ]; first | exact Ends.good HS.out HK.out | exact Ends.good HS.out (Kd.R_nil _ _ _ _ _)))
  · replace HR := Aside0.mk (HR.out.trans (num_no ht _))
    have HBAD := Aside0.mk hB
    clear hB ht
    go_wp2_with fail
    refine ⟨rfl, ?_⟩
    rw [HR.out]
    exact ⟨rfl, HBAD.out⟩

/-- The bytes of the fields. -/
def form (d : D) : List UInt8 := en d.kind ++ (en d.inst ++ (if d.kind = 6 then [] else en d.step ++ (if d.kind = 1 then Pk.whole d.keys else [])))

/-- What can be written at all. -/
structure Fits (d : D) : Prop where
  kind : 0 ≤ d.kind ∧ d.kind ≤ 1125899906842624
  inst : 0 ≤ d.inst ∧ d.inst ≤ 1125899906842624
  step : 0 ≤ d.step ∧ d.step ≤ 1125899906842624
  keys : d.keys.length ≤ 4000 ∧ ∀ t ∈ d.keys, t.size ≤ 2000

set_option linter.unusedSimpArgs false in
set_option maxHeartbeats 6000000 in
set_option maxRecDepth 100000 in
theorem fields_write (w0 w : World) (g gf : Nat) (L : List UInt8) (A : Option Addr) (c : Nat) (d : D) (hd : Fits d) (hg0 : w0.heap[g]? = some (.cells (cells d (.slice A d.keys.length c)) 58 (0, 0)))
    (hr : Kd.C Kd.string w0 A d.keys.length d.keys) (hc : d.keys.length ≤ c) (hw : Wr w0 w gf L 1) :
    Calls Try.prog 103 #[.pointer (some ⟨g, 0, none⟩), .pointer (some ⟨gf, 0, none⟩)] w fun e w' => e = .returned (.tuple #[]) ∧ Wr w0 w' gf (L ++ form d) 20 := by
  have HF := Aside0.mk hd
  have HC := Aside0.mk (And.intro hr hc)
  have HW := Aside0.mk hw
  have hg := Aside0.mk hg0
  have hcell := HW.out.cell (j := 0) hg.out rfl
  clear hd hg0 hw hr hc
  obtain ⟨kind, inst, step, keys⟩ := d
  replace hg : Aside0 (w0.heap[g]? = some (.cells #[.int .i64 kind, .int .i64 inst, .int .i64 step, .slice A keys.length c] 58 (0, 0))) := hg
  replace hcell : w.cell? ⟨g, 0, none⟩ = some (.int .i64 kind) := hcell
  have HX : Aside0 (∀ (L' : List UInt8) (w' : World) (k : Nat), Wr w0 w' gf L' k → k ≤ 20 → L' = L ++ form ⟨kind, inst, step, keys⟩ → Wr w0 w' gf (L ++ form ⟨kind, inst, step, keys⟩) 20) := ⟨fun L' w' k h hk he => he ▸ h.more hk⟩
  go_enter Try.func103, Try.ntmps103
  rcases kinds kind with rfl | rfl | ⟨⟨hk0, hk1⟩, HN0⟩
  rotate_left 2
  · have HN := Aside0.mk HN0
    clear HN0
    go_wp2_with (first
        | (go_at_call 77; refine Calls.mono (num_put w0 _ gf _ _ HW.out g _ _ _ _ hg.out (by rfl) (by first | exact HF.out.kind | exact HF.out.inst | exact HF.out.step) (by decide)) ?_; rintro e w1 ⟨rfl, hW⟩; replace HW := Aside0.mk hW; clear hW; have hcell := HW.out.cell (j := 0) hg.out rfl)
        | (go_at_call 78; refine Calls.mono (list_put w0 _ gf _ _ HW.out g _ _ _ A c _ hg.out (by rfl) HC.out.1 HC.out.2 HF.out.keys.1 HF.out.keys.2 (by decide)) ?_; rintro e w1 ⟨rfl, hW⟩; replace HW := Aside0.mk hW; clear hW; have hcell := HW.out.cell (j := 0) hg.out rfl))
    all_goals (go_returns; refine ⟨rfl, HX.out _ _ _ HW.out (by decide) ?_⟩; simp [form, HN.out.1, HN.out.2])
  all_goals
    go_wp2_with (first
        | (go_at_call 77; refine Calls.mono (num_put w0 _ gf _ _ HW.out g _ _ _ _ hg.out (by rfl) (by first | exact HF.out.kind | exact HF.out.inst | exact HF.out.step) (by decide)) ?_; rintro e w1 ⟨rfl, hW⟩; replace HW := Aside0.mk hW; clear hW; have hcell := HW.out.cell (j := 0) hg.out rfl)
        | (go_at_call 78; refine Calls.mono (list_put w0 _ gf _ _ HW.out g _ _ _ A c _ hg.out (by rfl) HC.out.1 HC.out.2 HF.out.keys.1 HF.out.keys.2 (by decide)) ?_; rintro e w1 ⟨rfl, hW⟩; replace HW := Aside0.mk hW; clear hW; have hcell := HW.out.cell (j := 0) hg.out rfl))
    all_goals (go_returns; refine ⟨rfl, HX.out _ _ _ HW.out (by decide) ?_⟩; simp [form])
end Go.Proofs.Ytejaepohkcjoiaa.CdEvent

/- The fields of a note: read, and written. -/
namespace Go.Proofs.Ytejaepohkcjoiaa.CdNote
open Go.RowKit Go.IntWalk Go.Proofs.Ytejaepohkcjoiaa.G Go.Proofs.YtejaepohkcjoiaaW.PrintWords Go.Proofs.YtejaepohkcjoiaaW.PrintLast Go.Proofs.YtejaepohkcjoiaaW.PrintMore Go.Proofs.Ytejaepohkcjoiaa.CdForm

structure D where
  kind : Int
  inst : Int
  step : Int
  state : Int
  part : Int
  cause : Int
  key : ByteArray
  name : ByteArray
  version : Int
  text : ByteArray

def nullD : D := ⟨0, 0, 0, 0, 0, 0, ⟨#[]⟩, ⟨#[]⟩, 0, ⟨#[]⟩⟩

/-- What is read as the fields from a place on, and the place behind. -/
def rd (s : ByteArray) (a : Int) : Option (D × Int) :=
  num s a fun k a =>
    if k = 1 then text s a fun t a => some (⟨k, 0, 0, 0, 0, 0, ⟨#[]⟩, ⟨#[]⟩, 0, t⟩, a)
    else num s a fun i a =>
      if k = 2 then text s a fun ky a => text s a fun nm a => num s a fun v a => some (⟨k, i, 0, 0, 0, 0, ky, nm, v, ⟨#[]⟩⟩, a)
      else if k = 5 then num s a fun st a => some (⟨k, i, st, 0, 0, 0, ⟨#[]⟩, ⟨#[]⟩, 0, ⟨#[]⟩⟩, a)
      else if k = 6 then num s a fun st a => num s a fun x a => some (⟨k, i, st, x, 0, 0, ⟨#[]⟩, ⟨#[]⟩, 0, ⟨#[]⟩⟩, a)
      else if k = 8 then num s a fun p a => some (⟨k, i, 0, 0, p, 0, ⟨#[]⟩, ⟨#[]⟩, 0, ⟨#[]⟩⟩, a)
      else if k = 9 then num s a fun x a => num s a fun c a => some (⟨k, i, 0, x, 0, c, ⟨#[]⟩, ⟨#[]⟩, 0, ⟨#[]⟩⟩, a)
      else some (⟨k, i, 0, 0, 0, 0, ⟨#[]⟩, ⟨#[]⟩, 0, ⟨#[]⟩⟩, a)

theorem kinds (n : Int) : n = 1 ∨ n = 2 ∨ n = 5 ∨ n = 6 ∨ n = 8 ∨ n = 9 ∨ (((n == 1) = false ∧ (n == 2) = false ∧ (n == 5) = false ∧ (n == 6) = false ∧ (n == 8) = false ∧ (n == 9) = false) ∧ ¬ n = 1 ∧ ¬ n = 2 ∧ ¬ n = 5 ∧ ¬ n = 6 ∧ ¬ n = 8 ∧ ¬ n = 9) := by
  simp only [beq_eq_false_iff_ne, ne_eq]
  omega

def cells (d : D) : Array Value := #[.int .i64 d.kind, .int .i64 d.inst, .int .i64 d.step, .int .i64 d.state, .int .i64 d.part, .int .i64 d.cause, .string d.key, .string d.name, .int .i64 d.version, .string d.text]

/-- What the reading of an item ends with. -/
def Ends (w0 w : World) (g t : Nat) (gf : Nat) (s : ByteArray) (e : Ending) : Option (D × Int) → Prop
  | none => e = .panicked broken ∧ But2 w0 w g gf
  | some (d, a) => e = .returned (.tuple #[]) ∧ St w0 w g t (cells d) gf s a

theorem Ends.good {w0 w : World} {g t gf : Nat} {s : ByteArray} {d : D} {a : Int} (h : St w0 w g t (cells d) gf s a) :
    Ends w0 w g t gf s (.returned (.tuple #[])) (some (d, a)) := ⟨rfl, h⟩

set_option linter.unusedSimpArgs false in
set_option maxHeartbeats 6000000 in
set_option maxRecDepth 100000 in
theorem fields_read (w : World) (g gf : Nat) (s : ByteArray) (a : Int) (hg : w.heap[g]? = some (.cells (cells nullD) 60 (0, 0))) (hne : g ≠ gf)
    (hf : FormAt w gf false s a) (hs : s.size ≤ 1000000000000000) :
    Calls Try.prog 105 #[.pointer (some ⟨g, 0, none⟩), .pointer (some ⟨gf, 0, none⟩)] w fun e w' => Ends w w' g 60 gf s e (rd s a) := by
  have HR : Aside0 (rd s a = rd s a) := ⟨rfl⟩
  have HS : Aside0 (St w w g 60 #[.int .i64 0, .int .i64 0, .int .i64 0, .int .i64 0, .int .i64 0, .int .i64 0, .string ⟨#[]⟩, .string ⟨#[]⟩, .int .i64 0, .string ⟨#[]⟩] gf s a) := ⟨hg, hf, But2.refl _ _ _⟩
  replace HR : Aside0 (rd s a = num s a fun k a =>
    if k = 1 then text s a fun t a => some (⟨k, 0, 0, 0, 0, 0, ⟨#[]⟩, ⟨#[]⟩, 0, t⟩, a)
    else num s a fun i a =>
      if k = 2 then text s a fun ky a => text s a fun nm a => num s a fun v a => some (⟨k, i, 0, 0, 0, 0, ky, nm, v, ⟨#[]⟩⟩, a)
      else if k = 5 then num s a fun st a => some (⟨k, i, st, 0, 0, 0, ⟨#[]⟩, ⟨#[]⟩, 0, ⟨#[]⟩⟩, a)
      else if k = 6 then num s a fun st a => num s a fun x a => some (⟨k, i, st, x, 0, 0, ⟨#[]⟩, ⟨#[]⟩, 0, ⟨#[]⟩⟩, a)
      else if k = 8 then num s a fun p a => some (⟨k, i, 0, 0, p, 0, ⟨#[]⟩, ⟨#[]⟩, 0, ⟨#[]⟩⟩, a)
      else if k = 9 then num s a fun x a => num s a fun c a => some (⟨k, i, 0, x, 0, c, ⟨#[]⟩, ⟨#[]⟩, 0, ⟨#[]⟩⟩, a)
      else some (⟨k, i, 0, 0, 0, 0, ⟨#[]⟩, ⟨#[]⟩, 0, ⟨#[]⟩⟩, a)) := HR
  generalize rd s a = r at *
  clear hg hf
  go_enter Try.func105, Try.ntmps105
  go_wp2_with fail
  go_at_call 77
  refine Calls.mono (num_step w _ g _ 0 _ _ gf s _ HS.out rfl hne hs) ?_
  rintro e w1 (⟨n, nx, ht, rfl, hS⟩ | ⟨ht, rfl, hB⟩)
  · replace HR := Aside0.mk (HR.out.trans (num_ok ht _))
    simp only [List.setIfInBounds_toArray, List.set_cons_zero, List.set_cons_succ] at hS
    replace HS := Aside0.mk hS
    have hcell := row_cell (j := 0) HS.out.row rfl
    clear ht hS
    rcases kinds n with rfl | rfl | rfl | rfl | rfl | rfl | ⟨⟨hk0, hk1, hk2, hk3, hk4, hk5⟩, HN0⟩
    rotate_left 6
    · have HN := Aside0.mk HN0
      clear HN0
      go_wp2_with (first
        | (go_at_call 77; refine Calls.mono (num_step w _ g _ _ _ _ gf s _ HS.out (by rfl) hne hs) ?_; rintro e w1 (⟨n, nx, ht, rfl, hS⟩ | ⟨ht, rfl, hB⟩); all_goals (first | (have HBAD := Aside0.mk hB; (first | replace HR := Aside0.mk (HR.out.trans (num_no ht _)) | (have HQ := HR.out; simp [HN.out.1, HN.out.2.1, HN.out.2.2.1, HN.out.2.2.2.1, HN.out.2.2.2.2.1, HN.out.2.2.2.2.2] at HQ; replace HR := Aside0.mk (HQ.trans (num_no ht _)); clear HQ) | (have HQ := HR.out; simp at HQ; replace HR := Aside0.mk (HQ.trans (num_no ht _)); clear HQ)); clear hB ht) | ((first | replace HR := Aside0.mk (HR.out.trans (num_ok ht _)) | (have HQ := HR.out; simp [HN.out.1, HN.out.2.1, HN.out.2.2.1, HN.out.2.2.2.1, HN.out.2.2.2.2.1, HN.out.2.2.2.2.2] at HQ; replace HR := Aside0.mk (HQ.trans (num_ok ht _)); clear HQ) | (have HQ := HR.out; simp at HQ; replace HR := Aside0.mk (HQ.trans (num_ok ht _)); clear HQ)); simp only [List.setIfInBounds_toArray, List.set_cons_zero, List.set_cons_succ] at hS; replace HS := Aside0.mk hS; have hcell := row_cell (j := 0) HS.out.row rfl; clear ht hS)))
        | (go_at_call 107; refine Calls.mono (text_step w _ g _ _ _ _ gf s _ HS.out (by rfl) hne hs) ?_; rintro e w1 (⟨n, nx, ht, rfl, hS⟩ | ⟨ht, rfl, hB⟩); all_goals (first | (have HBAD := Aside0.mk hB; (first | replace HR := Aside0.mk (HR.out.trans (text_no ht _)) | (have HQ := HR.out; simp [HN.out.1, HN.out.2.1, HN.out.2.2.1, HN.out.2.2.2.1, HN.out.2.2.2.2.1, HN.out.2.2.2.2.2] at HQ; replace HR := Aside0.mk (HQ.trans (text_no ht _)); clear HQ) | (have HQ := HR.out; simp at HQ; replace HR := Aside0.mk (HQ.trans (text_no ht _)); clear HQ)); clear hB ht) | ((first | replace HR := Aside0.mk (HR.out.trans (text_ok ht _)) | (have HQ := HR.out; simp [HN.out.1, HN.out.2.1, HN.out.2.2.1, HN.out.2.2.2.1, HN.out.2.2.2.2.1, HN.out.2.2.2.2.2] at HQ; replace HR := Aside0.mk (HQ.trans (text_ok ht _)); clear HQ) | (have HQ := HR.out; simp at HQ; replace HR := Aside0.mk (HQ.trans (text_ok ht _)); clear HQ)); simp only [List.setIfInBounds_toArray, List.set_cons_zero, List.set_cons_succ] at hS; replace HS := Aside0.mk hS; have hcell := row_cell (j := 0) HS.out.row rfl; clear ht hS))))
      all_goals (first | (refine ⟨rfl, ?_⟩; rw [HR.out]; exact ⟨rfl, HBAD.out⟩) | (go_returns; have HQ := HR.out; (try simp [HN.out.1, HN.out.2.1, HN.out.2.2.1, HN.out.2.2.2.1, HN.out.2.2.2.2.1, HN.out.2.2.2.2.2] at HQ); rw [HQ]; exact Ends.good HS.out))
    all_goals
      go_wp2_with (first
        | (go_at_call 77; refine Calls.mono (num_step w _ g _ _ _ _ gf s _ HS.out (by rfl) hne hs) ?_; rintro e w1 (⟨n, nx, ht, rfl, hS⟩ | ⟨ht, rfl, hB⟩); all_goals (first | (have HBAD := Aside0.mk hB; (first | replace HR := Aside0.mk (HR.out.trans (num_no ht _)) | (have HQ := HR.out; simp [HN.out.1, HN.out.2.1, HN.out.2.2.1, HN.out.2.2.2.1, HN.out.2.2.2.2.1, HN.out.2.2.2.2.2] at HQ; replace HR := Aside0.mk (HQ.trans (num_no ht _)); clear HQ) | (have HQ := HR.out; simp at HQ; replace HR := Aside0.mk (HQ.trans (num_no ht _)); clear HQ)); clear hB ht) | ((first | replace HR := Aside0.mk (HR.out.trans (num_ok ht _)) | (have HQ := HR.out; simp [HN.out.1, HN.out.2.1, HN.out.2.2.1, HN.out.2.2.2.1, HN.out.2.2.2.2.1, HN.out.2.2.2.2.2] at HQ; replace HR := Aside0.mk (HQ.trans (num_ok ht _)); clear HQ) | (have HQ := HR.out; simp at HQ; replace HR := Aside0.mk (HQ.trans (num_ok ht _)); clear HQ)); simp only [List.setIfInBounds_toArray, List.set_cons_zero, List.set_cons_succ] at hS; replace HS := Aside0.mk hS; have hcell := row_cell (j := 0) HS.out.row rfl; clear ht hS)))
        | (go_at_call 107; refine Calls.mono (text_step w _ g _ _ _ _ gf s _ HS.out (by rfl) hne hs) ?_; rintro e w1 (⟨n, nx, ht, rfl, hS⟩ | ⟨ht, rfl, hB⟩); all_goals (first | (have HBAD := Aside0.mk hB; (first | replace HR := Aside0.mk (HR.out.trans (text_no ht _)) | (have HQ := HR.out; simp [HN.out.1, HN.out.2.1, HN.out.2.2.1, HN.out.2.2.2.1, HN.out.2.2.2.2.1, HN.out.2.2.2.2.2] at HQ; replace HR := Aside0.mk (HQ.trans (text_no ht _)); clear HQ) | (have HQ := HR.out; simp at HQ; replace HR := Aside0.mk (HQ.trans (text_no ht _)); clear HQ)); clear hB ht) | ((first | replace HR := Aside0.mk (HR.out.trans (text_ok ht _)) | (have HQ := HR.out; simp [HN.out.1, HN.out.2.1, HN.out.2.2.1, HN.out.2.2.2.1, HN.out.2.2.2.2.1, HN.out.2.2.2.2.2] at HQ; replace HR := Aside0.mk (HQ.trans (text_ok ht _)); clear HQ) | (have HQ := HR.out; simp at HQ; replace HR := Aside0.mk (HQ.trans (text_ok ht _)); clear HQ)); simp only [List.setIfInBounds_toArray, List.set_cons_zero, List.set_cons_succ] at hS; replace HS := Aside0.mk hS; have hcell := row_cell (j := 0) HS.out.row rfl; clear ht hS))))
      all_goals (first | (refine ⟨rfl, ?_⟩; rw [HR.out]; exact ⟨rfl, HBAD.out⟩) | (go_returns; have HQ := HR.out; (try simp at HQ); rw [HQ]; exact Ends.good HS.out))
  · replace HR := Aside0.mk (HR.out.trans (num_no ht _))
    have HBAD := Aside0.mk hB
    clear hB ht
    go_wp2_with fail
    refine ⟨rfl, ?_⟩
    rw [HR.out]
    exact ⟨rfl, HBAD.out⟩

/-- The bytes of the fields. -/
def form (d : D) : List UInt8 := en d.kind ++ (if d.kind = 1 then Pk.item d.text else en d.inst ++
    (if d.kind = 2 then Pk.item d.key ++ (Pk.item d.name ++ en d.version) else if d.kind = 5 then en d.step else if d.kind = 6 then en d.step ++ en d.state
     else if d.kind = 8 then en d.part else if d.kind = 9 then en d.state ++ en d.cause else []))

/-- What can be written at all. -/
structure Fits (d : D) : Prop where
  kind : 0 ≤ d.kind ∧ d.kind ≤ 1125899906842624
  inst : 0 ≤ d.inst ∧ d.inst ≤ 1125899906842624
  step : 0 ≤ d.step ∧ d.step ≤ 1125899906842624
  state : 0 ≤ d.state ∧ d.state ≤ 1125899906842624
  part : 0 ≤ d.part ∧ d.part ≤ 1125899906842624
  cause : 0 ≤ d.cause ∧ d.cause ≤ 1125899906842624
  key : ¬ d.key.size > 2000
  name : ¬ d.name.size > 2000
  version : 0 ≤ d.version ∧ d.version ≤ 1125899906842624
  text : ¬ d.text.size > 2000

set_option linter.unusedSimpArgs false in
set_option maxHeartbeats 6000000 in
set_option maxRecDepth 100000 in
theorem fields_write (w0 w : World) (g gf : Nat) (L : List UInt8) (d : D) (hd : Fits d) (hg0 : w0.heap[g]? = some (.cells (cells d) 60 (0, 0)))
    (hw : Wr w0 w gf L 1) :
    Calls Try.prog 105 #[.pointer (some ⟨g, 0, none⟩), .pointer (some ⟨gf, 0, none⟩)] w fun e w' => e = .returned (.tuple #[]) ∧ Wr w0 w' gf (L ++ form d) 20 := by
  have HF := Aside0.mk hd
  have HW := Aside0.mk hw
  have hg := Aside0.mk hg0
  have hcell := HW.out.cell (j := 0) hg.out rfl
  clear hd hg0 hw
  obtain ⟨kind, inst, step, state, part, cause, key, name, version, text⟩ := d
  replace hg : Aside0 (w0.heap[g]? = some (.cells #[.int .i64 kind, .int .i64 inst, .int .i64 step, .int .i64 state, .int .i64 part, .int .i64 cause, .string key, .string name, .int .i64 version, .string text] 60 (0, 0))) := hg
  replace hcell : w.cell? ⟨g, 0, none⟩ = some (.int .i64 kind) := hcell
  have HX : Aside0 (∀ (L' : List UInt8) (w' : World) (k : Nat), Wr w0 w' gf L' k → k ≤ 20 → L' = L ++ form ⟨kind, inst, step, state, part, cause, key, name, version, text⟩ → Wr w0 w' gf (L ++ form ⟨kind, inst, step, state, part, cause, key, name, version, text⟩) 20) := ⟨fun L' w' k h hk he => he ▸ h.more hk⟩
  go_enter Try.func105, Try.ntmps105
  rcases kinds kind with rfl | rfl | rfl | rfl | rfl | rfl | ⟨⟨hk0, hk1, hk2, hk3, hk4, hk5⟩, HN0⟩
  rotate_left 6
  · have HN := Aside0.mk HN0
    clear HN0
    go_wp2_with (first
        | (go_at_call 77; refine Calls.mono (num_put w0 _ gf _ _ HW.out g _ _ _ _ hg.out (by rfl) (by first | exact HF.out.kind | exact HF.out.inst | exact HF.out.step | exact HF.out.state | exact HF.out.part | exact HF.out.cause | exact HF.out.version) (by decide)) ?_; rintro e w1 ⟨rfl, hW⟩; replace HW := Aside0.mk hW; clear hW; have hcell := HW.out.cell (j := 0) hg.out rfl)
        | (go_at_call 107; refine Calls.mono (text_put w0 _ gf _ _ HW.out g _ _ _ _ hg.out (by rfl) (by first | exact HF.out.key | exact HF.out.name | exact HF.out.text) (by decide)) ?_; rintro e w1 ⟨rfl, hW⟩; replace HW := Aside0.mk hW; clear hW; have hcell := HW.out.cell (j := 0) hg.out rfl))
    all_goals (go_returns; refine ⟨rfl, HX.out _ _ _ HW.out (by decide) ?_⟩; simp [form, HN.out.1, HN.out.2.1, HN.out.2.2.1, HN.out.2.2.2.1, HN.out.2.2.2.2.1, HN.out.2.2.2.2.2])
  all_goals
    go_wp2_with (first
        | (go_at_call 77; refine Calls.mono (num_put w0 _ gf _ _ HW.out g _ _ _ _ hg.out (by rfl) (by first | exact HF.out.kind | exact HF.out.inst | exact HF.out.step | exact HF.out.state | exact HF.out.part | exact HF.out.cause | exact HF.out.version) (by decide)) ?_; rintro e w1 ⟨rfl, hW⟩; replace HW := Aside0.mk hW; clear hW; have hcell := HW.out.cell (j := 0) hg.out rfl)
        | (go_at_call 107; refine Calls.mono (text_put w0 _ gf _ _ HW.out g _ _ _ _ hg.out (by rfl) (by first | exact HF.out.key | exact HF.out.name | exact HF.out.text) (by decide)) ?_; rintro e w1 ⟨rfl, hW⟩; replace HW := Aside0.mk hW; clear hW; have hcell := HW.out.cell (j := 0) hg.out rfl))
    all_goals (go_returns; refine ⟨rfl, HX.out _ _ _ HW.out (by decide) ?_⟩; simp [form])
end Go.Proofs.Ytejaepohkcjoiaa.CdNote

-- Written by gprint.py, a program of this session, over the kit's print of the loaded functions. Not trusted: Lean checks it.
namespace Go.Proofs.Ytejaepohkcjoiaa.B
open Go.RowKit Go.Proofs.YtejaepohkcjoiaaW.PrintWords Go.Proofs.YtejaepohkcjoiaaW.PrintLast Go.Proofs.YtejaepohkcjoiaaW.PrintMore 
attribute [local go_sem] max2_int min2_int max_two min_two max_three min_three max_four min_four   -- for this text's walks alone
set_option linter.unusedVariables false
set_option linter.unusedSimpArgs false



def errW : Option Int → Value
  | none => .nilIface
  | some c => .iface 0 (.int .i64 c)
theorem errW_none : errW none = .nilIface := rfl
theorem errW_some (c : Int) : errW (some c) = .iface 0 (.int .i64 c) := rfl

-- the values' own types

end Go.Proofs.Ytejaepohkcjoiaa.B

-- Written by gprint.py, a program of this session, over the kit's print of the loaded functions. Not trusted: Lean checks it.
namespace Go.Proofs.Ytejaepohkcjoiaa.B
open Go.RowKit Go.Proofs.YtejaepohkcjoiaaW.PrintWords Go.Proofs.YtejaepohkcjoiaaW.PrintLast Go.Proofs.YtejaepohkcjoiaaW.PrintMore 
attribute [local go_sem] max2_int min2_int max_two min_two max_three min_three max_four min_four   -- for this text's walks alone
set_option linter.unusedVariables false
set_option linter.unusedSimpArgs false

/-! ### codec_between: function 79 -/
def codec_between.f (a0 : Int) (a1 : Int) (a2 : Int) : Option (Bool) := if a1 ≤ a0 then (some (decide (a0 ≤ a2))) else (some false)
set_option maxHeartbeats 8000000 in
set_option maxRecDepth 100000 in
theorem codec_between.calls (a0 : Int) (a1 : Int) (a2 : Int) (r : Bool) (w : World) (h : codec_between.f a0 a1 a2 = some r) :
    Calls Try.prog 79 #[.int .i64 a0, .int .i64 a1, .int .i64 a2] w fun e w' => e = .returned (.bool r) ∧ Drawn0 w w' := by
  have H : (if a1 ≤ a0 then (some (decide (a0 ≤ a2))) else (some false)) = some r := h
  clear h
  by_cases c4 : a1 ≤ a0
  · rw [if_pos c4] at H
    have c4b0 : decide (a1 ≤ a0) = true := decide_eq_true c4
    clear c4
    obtain rfl := Option.some.inj H
    go_enter Try.func79, Try.ntmps79
    go_wp2
    go_ret
    exact ⟨by first | rfl | (simp; done) | (simp [*]; done), by repeat (first | exact Drawn0.refl _ | apply Drawn0.step)⟩
  · rw [if_neg c4] at H
    have c4b0 : decide (a1 ≤ a0) = false := decide_eq_false c4
    clear c4
    obtain rfl := Option.some.inj H
    go_enter Try.func79, Try.ntmps79
    go_wp2
    go_ret
    exact ⟨by first | rfl | (simp; done) | (simp [*]; done), by repeat (first | exact Drawn0.refl _ | apply Drawn0.step)⟩

/-! ### codec_isID: function 80 -/
def codec_isID.f (a0 : Int) : Option (Bool) := (codec_between.f a0 1 60).bind fun t101 => (some t101)
set_option maxHeartbeats 8000000 in
set_option maxRecDepth 100000 in
theorem codec_isID.calls (a0 : Int) (r : Bool) (w : World) (h : codec_isID.f a0 = some r) :
    Calls Try.prog 80 #[.int .i64 a0] w fun e w' => e = .returned (.bool r) ∧ Drawn0 w w' := by
  have H : ((codec_between.f a0 1 60).bind fun t101 => (some t101)) = some r := h
  clear h
  replace H := Option.bind_eq_some_iff.mp H
  obtain ⟨t101, A20, H⟩ := H
  replace H : (some t101) = some r := H
  have A2 := Aside0.mk A20
  clear A20
  obtain rfl := Option.some.inj H
  go_enter Try.func80, Try.ntmps80
  go_wp2_with (first | ((with_reducible refine gate_callee (f := 79) rfl ?_); refine goesL_ (some 4) rfl rfl Try.func79 (by kernel_rfl) rfl #[.int .i64 a0, .int .i64 1, .int .i64 60] rfl (by (try simp only [List.map_toArray, List.map_cons, List.map_nil]); first | done | rfl | (simp only [List.length_drop, List.length_take]; rfl)) ?_; (with_reducible refine (codec_between.calls a0 1 60 t101 _ A2.out).mono ?_); rintro e w' ⟨rfl, ⟨nd, rfl⟩⟩; refine ⟨_, rfl, ?_⟩))
  go_ret
  exact ⟨by first | rfl | (simp; done) | (simp [*]; done), by repeat (first | exact Drawn0.refl _ | apply Drawn0.step)⟩

/-! ### codec_isStep: function 81 -/
def codec_isStep.f (a0 : Int) : Option (Bool) := (codec_between.f a0 0 7).bind fun t102 => (some t102)
set_option maxHeartbeats 8000000 in
set_option maxRecDepth 100000 in
theorem codec_isStep.calls (a0 : Int) (r : Bool) (w : World) (h : codec_isStep.f a0 = some r) :
    Calls Try.prog 81 #[.int .i64 a0] w fun e w' => e = .returned (.bool r) ∧ Drawn0 w w' := by
  have H : ((codec_between.f a0 0 7).bind fun t102 => (some t102)) = some r := h
  clear h
  replace H := Option.bind_eq_some_iff.mp H
  obtain ⟨t102, A20, H⟩ := H
  replace H : (some t102) = some r := H
  have A2 := Aside0.mk A20
  clear A20
  obtain rfl := Option.some.inj H
  go_enter Try.func81, Try.ntmps81
  go_wp2_with (first | ((with_reducible refine gate_callee (f := 79) rfl ?_); refine goesL_ (some 4) rfl rfl Try.func79 (by kernel_rfl) rfl #[.int .i64 a0, .int .i64 0, .int .i64 7] rfl (by (try simp only [List.map_toArray, List.map_cons, List.map_nil]); first | done | rfl | (simp only [List.length_drop, List.length_take]; rfl)) ?_; (with_reducible refine (codec_between.calls a0 0 7 t102 _ A2.out).mono ?_); rintro e w' ⟨rfl, ⟨nd, rfl⟩⟩; refine ⟨_, rfl, ?_⟩))
  go_ret
  exact ⟨by first | rfl | (simp; done) | (simp [*]; done), by repeat (first | exact Drawn0.refl _ | apply Drawn0.step)⟩

end Go.Proofs.Ytejaepohkcjoiaa.B

/- codec: may of a letter, an event, a note: the walks, by hand. -/
namespace Go.Proofs.Ytejaepohkcjoiaa.CdMay
open Go.RowKit Go.IntWalk Go.Proofs.Ytejaepohkcjoiaa.B Go.Proofs.YtejaepohkcjoiaaW.PrintWords Go.Proofs.YtejaepohkcjoiaaW.PrintLast Go.Proofs.YtejaepohkcjoiaaW.PrintMore Go.Proofs.Ytejaepohkcjoiaa.Tabs Go.Proofs.Ytejaepohkcjoiaa.CdForm Go.Proofs.Ytejaepohkcjoiaa.CdKeys

def btw (n a b : Int) : Bool := decide (a ≤ n) && decide (n ≤ b)
theorem between_f (n a b : Int) : codec_between.f n a b = some (btw n a b) := by
  unfold codec_between.f btw
  by_cases h : a ≤ n <;> simp [h]
theorem between_calls (n a b : Int) (w : World) : Calls Try.prog 79 #[.int .i64 n, .int .i64 a, .int .i64 b] w fun e w' => ∃ nd, e = .returned (.bool (btw n a b)) ∧ w' = w.drewN nd := by
  refine (codec_between.calls n a b _ w (between_f n a b)).mono ?_
  rintro e w' ⟨rfl, nd, rfl⟩
  exact ⟨nd, rfl, rfl⟩
theorem id_calls (n : Int) (w : World) : Calls Try.prog 80 #[.int .i64 n] w fun e w' => ∃ nd, e = .returned (.bool (btw n 1 60)) ∧ w' = w.drewN nd := by
  refine (codec_isID.calls n _ w (by rw [codec_isID.f, between_f]; rfl)).mono ?_
  rintro e w' ⟨rfl, nd, rfl⟩
  exact ⟨nd, rfl, rfl⟩
theorem step_calls (n : Int) (w : World) : Calls Try.prog 81 #[.int .i64 n] w fun e w' => ∃ nd, e = .returned (.bool (btw n 0 7)) ∧ w' = w.drewN nd := by
  refine (codec_isStep.calls n _ w (by rw [codec_isStep.f, between_f]; rfl)).mono ?_
  rintro e w' ⟨rfl, nd, rfl⟩
  exact ⟨nd, rfl, rfl⟩
variable [Tab]

def mayL (d : CdLetter.D) : Bool :=
  (btw d.kind 1 9 && (btw d.part 0 3 && btw d.inst 1 60)) &&
  (if d.kind = 1 then btw d.step 0 7 && (btw d.sort 1 3 && areKeys d.keys)
   else (if d.kind = 3 ∨ d.kind = 9 then decide (d.step = 0) else true) && (btw d.step 0 7 && (decide (d.sort = 0) && ((d.keys.length : Int) == 0))))

set_option linter.unusedSimpArgs false in
set_option maxHeartbeats 2000000 in
set_option maxRecDepth 100000 in
theorem letter_may (w : World) (g : Nat) (A : Option Addr) (c : Nat) (d : CdLetter.D) (hg0 : w.heap[g]? = some (.cells (CdLetter.cells d (.slice A d.keys.length c)) 51 (0, 0)))
    (hr : Kd.C Kd.string w A d.keys.length d.keys) (hs : ∀ t ∈ d.keys, t.size ≤ 9000000000000000000) (hT : Tab.At w) :
    Calls Try.prog 76 #[.pointer (some ⟨g, 0, none⟩)] w fun e w' => e = .returned (.bool (mayL d)) ∧ Below w.heap.size w w' := by
  obtain ⟨kind, part, inst, step, sort, keys⟩ := d
  have hc0 : w.cell? ⟨g, 0, none⟩ = some (.int .i64 kind) := row_cell hg0 rfl
  have hc1 : w.cell? ⟨g, 1, none⟩ = some (.int .i64 part) := row_cell hg0 rfl
  have hc2 : w.cell? ⟨g, 2, none⟩ = some (.int .i64 inst) := row_cell hg0 rfl
  have hc3 : w.cell? ⟨g, 3, none⟩ = some (.int .i64 step) := row_cell hg0 rfl
  have hc4 : w.cell? ⟨g, 4, none⟩ = some (.int .i64 sort) := row_cell hg0 rfl
  have hc5 : w.cell? ⟨g, 5, none⟩ = some (.slice A keys.length c) := row_cell hg0 rfl
  have HR := Aside0.mk (And.intro hr (And.intro hs hT))
  have HM : Aside0 (mayL ⟨kind, part, inst, step, sort, keys⟩ = ((btw kind 1 9 && (btw part 0 3 && btw inst 1 60)) &&
    (if kind = 1 then btw step 0 7 && (btw sort 1 3 && areKeys keys)
     else (if kind = 3 ∨ kind = 9 then decide (step = 0) else true) && (btw step 0 7 && (decide (sort = 0) && ((keys.length : Int) == 0)))))) := ⟨rfl⟩
  generalize mayL ⟨kind, part, inst, step, sort, keys⟩ = r at *
  have HB := Aside0.mk (Below.refl w.heap.size w)
  clear hg0 hr hs hT
  go_enter Try.func76, Try.ntmps76
  rcases CdLetter.kinds kind with rfl | rfl | rfl | ⟨⟨hk3, hk9⟩, hk1, HN0⟩
  rotate_left 3
  · go_wp2_with (first
      | (go_at_call 79; refine (between_calls _ _ _ _).mono ?_; rintro e w1 ⟨nd, rfl, rfl⟩)
      | (go_at_call 80; refine (id_calls _ _).mono ?_; rintro e w1 ⟨nd, rfl, rfl⟩)
      | (go_at_call 81; refine (step_calls _ _).mono ?_; rintro e w1 ⟨nd, rfl, rfl⟩)
      | (go_at_call 75; go_in)
      | (go_at_call 82; refine (keys_calls _ _ _ _ (Kd.C_drewN HR.out.1 _) HR.out.2.1 (Tab.below HR.out.2.2 (pw_below_drewN (Below.refl _ _) _))).mono ?_; rintro e w1 ⟨rfl, hb⟩))
    all_goals (go_ret; refine ⟨congrArg (fun b => Ending.returned (Value.bool b)) ?_, by first | exact ⟨hb.os, hb.tape, hb.output, hb.size, hb.block⟩ | exact pw_below_drewN (Below.refl _ _) _⟩; have HQ := HM.out; clear HM HR HB; clear hc0 hc1 hc2 hc3 hc4 hc5; subst HQ; first | (simp_all; done) | trace_state)
  all_goals
    go_wp2_with (first
      | (go_at_call 79; refine (between_calls _ _ _ _).mono ?_; rintro e w1 ⟨nd, rfl, rfl⟩)
      | (go_at_call 80; refine (id_calls _ _).mono ?_; rintro e w1 ⟨nd, rfl, rfl⟩)
      | (go_at_call 81; refine (step_calls _ _).mono ?_; rintro e w1 ⟨nd, rfl, rfl⟩)
      | (go_at_call 75; go_in)
      | (go_at_call 82; refine (keys_calls _ _ _ _ (Kd.C_drewN HR.out.1 _) HR.out.2.1 (Tab.below HR.out.2.2 (pw_below_drewN (Below.refl _ _) _))).mono ?_; rintro e w1 ⟨rfl, hb⟩))
    all_goals (go_ret; refine ⟨congrArg (fun b => Ending.returned (Value.bool b)) ?_, by first | exact ⟨hb.os, hb.tape, hb.output, hb.size, hb.block⟩ | exact pw_below_drewN (Below.refl _ _) _⟩; have HQ := HM.out; clear HM HR HB; clear hc0 hc1 hc2 hc3 hc4 hc5; subst HQ; first | (simp_all; done) | trace_state)
end Go.Proofs.Ytejaepohkcjoiaa.CdMay

/- codec: may of an event: the walk, by hand. -/
namespace Go.Proofs.Ytejaepohkcjoiaa.CdMay
open Go.RowKit Go.IntWalk Go.Proofs.Ytejaepohkcjoiaa.B Go.Proofs.YtejaepohkcjoiaaW.PrintWords Go.Proofs.YtejaepohkcjoiaaW.PrintLast Go.Proofs.YtejaepohkcjoiaaW.PrintMore Go.Proofs.Ytejaepohkcjoiaa.Tabs Go.Proofs.Ytejaepohkcjoiaa.CdForm Go.Proofs.Ytejaepohkcjoiaa.CdKeys

variable [Tab]
def mayE (d : CdEvent.D) : Bool :=
  (btw d.kind 1 6 && (btw d.inst 1 60 && btw d.step 0 7)) &&
  (if d.kind = 1 then areKeys d.keys else (if d.kind = 6 then decide (d.step = 0) else true) && ((d.keys.length : Int) == 0))

set_option linter.unusedSimpArgs false in
set_option maxHeartbeats 6000000 in
set_option maxRecDepth 100000 in
theorem event_may (w : World) (g : Nat) (A : Option Addr) (c : Nat) (d : CdEvent.D) (hg0 : w.heap[g]? = some (.cells (CdEvent.cells d (.slice A d.keys.length c)) 58 (0, 0)))
    (hr : Kd.C Kd.string w A d.keys.length d.keys) (hs : ∀ t ∈ d.keys, t.size ≤ 9000000000000000000) (hT : Tab.At w) :
    Calls Try.prog 104 #[.pointer (some ⟨g, 0, none⟩)] w fun e w' => e = .returned (.bool (mayE d)) ∧ Below w.heap.size w w' := by
  obtain ⟨kind, inst, step, keys⟩ := d
  have hc0 : w.cell? ⟨g, 0, none⟩ = some (.int .i64 kind) := row_cell hg0 rfl
  have hc1 : w.cell? ⟨g, 1, none⟩ = some (.int .i64 inst) := row_cell hg0 rfl
  have hc2 : w.cell? ⟨g, 2, none⟩ = some (.int .i64 step) := row_cell hg0 rfl
  have hc3 : w.cell? ⟨g, 3, none⟩ = some (.slice A keys.length c) := row_cell hg0 rfl
  have HR := Aside0.mk (And.intro hr (And.intro hs hT))
  have HM : Aside0 (mayE ⟨kind, inst, step, keys⟩ = ((btw kind 1 6 && (btw inst 1 60 && btw step 0 7)) &&
    (if kind = 1 then areKeys keys else (if kind = 6 then decide (step = 0) else true) && ((keys.length : Int) == 0)))) := ⟨rfl⟩
  generalize mayE ⟨kind, inst, step, keys⟩ = r at *
  have HB := Aside0.mk (Below.refl w.heap.size w)
  clear hg0 hr hs hT
  go_enter Try.func104, Try.ntmps104
  rcases CdEvent.kinds kind with rfl | rfl | ⟨⟨hk6, hk1⟩, HN0⟩
  all_goals
    go_wp2_with (first
      | (go_at_call 79; refine (between_calls _ _ _ _).mono ?_; rintro e w1 ⟨nd, rfl, rfl⟩)
      | (go_at_call 80; refine (id_calls _ _).mono ?_; rintro e w1 ⟨nd, rfl, rfl⟩)
      | (go_at_call 81; refine (step_calls _ _).mono ?_; rintro e w1 ⟨nd, rfl, rfl⟩)
      | (go_at_call 82; refine (keys_calls _ _ _ _ (Kd.C_drewN HR.out.1 _) HR.out.2.1 (Tab.below HR.out.2.2 (pw_below_drewN (Below.refl _ _) _))).mono ?_; rintro e w1 ⟨rfl, hb⟩))
    all_goals (go_ret; refine ⟨congrArg (fun b => Ending.returned (Value.bool b)) ?_, by first | exact ⟨hb.os, hb.tape, hb.output, hb.size, hb.block⟩ | exact pw_below_drewN (Below.refl _ _) _⟩; have HQ := HM.out; clear HM HR HB; clear hc0 hc1 hc2 hc3; subst HQ; first | (simp_all; done) | trace_state)
end Go.Proofs.Ytejaepohkcjoiaa.CdMay

/- codec: own of a note: the walk, path by path (written by wip/gen/mkown.py). -/
namespace Go.Proofs.Ytejaepohkcjoiaa.CdMay
open Go.RowKit Go.IntWalk Go.Proofs.Ytejaepohkcjoiaa.B Go.Proofs.YtejaepohkcjoiaaW.PrintWords Go.Proofs.YtejaepohkcjoiaaW.PrintLast Go.Proofs.YtejaepohkcjoiaaW.PrintMore Go.Proofs.Ytejaepohkcjoiaa.CdForm

def ownN (d : CdNote.D) : CdNote.D × Bool :=
  if d.kind = 1 then ({CdNote.nullD with text := d.text}, btw d.text.size 1 1800)
  else if d.kind = 2 then ({CdNote.nullD with key := d.key, name := d.name, version := d.version}, Nm.isName d.key && (Nm.isName d.name && btw d.version 1 16))
  else if d.kind = 3 ∨ d.kind = 4 ∨ d.kind = 7 then (CdNote.nullD, true)
  else if d.kind = 5 then ({CdNote.nullD with step := d.step}, btw d.step 0 7)
  else if d.kind = 6 then ({CdNote.nullD with step := d.step, state := d.state}, btw d.step 0 7 && btw d.state 2 5)
  else if d.kind = 8 then ({CdNote.nullD with part := d.part}, btw d.part 0 3)
  else if d.kind = 9 then ({CdNote.nullD with state := d.state, cause := d.cause}, (decide (d.state = 4) && decide (d.cause = 0)) || (decide (d.state = 6) && btw d.cause 1 4))
  else (CdNote.nullD, false)

theorem between_b (n a b : Int) (r : Bool) (w : World) (h : btw n a b = r) : Calls Try.prog 79 #[.int .i64 n, .int .i64 a, .int .i64 b] w fun e w' => ∃ nd, e = .returned (.bool r) ∧ w' = w.drewN nd := by
  subst h
  exact between_calls n a b w
theorem step_b (n : Int) (r : Bool) (w : World) (h : btw n 0 7 = r) : Calls Try.prog 81 #[.int .i64 n] w fun e w' => ∃ nd, e = .returned (.bool r) ∧ w' = w.drewN nd := by
  subst h
  exact step_calls n w
theorem is_b (s : ByteArray) (r : Bool) (w : World) (hs : s.size ≤ 9000000000000000000) (h : Nm.isName s = r) : Calls Try.prog 87 #[.string s] w fun e w' => e = .returned (.bool r) ∧ Below w.heap.size w w' := by
  subst h
  exact NameWalk.is_calls s w hs
theorem cell_below' {w w1 : World} {a : Addr} {v : Value} (hb : Below w.heap.size w w1) (h : w.cell? a = some v) : w1.cell? a = some v := cell_below hb h
theorem below_new {a : World} (o : Obj) : Below a.heap.size a (a.alloc o) := (Below.refl _ _).alloc (Nat.le_refl _) _
theorem below_set {a w : World} {j : Nat} {v : Value} (h : Below a.heap.size a w) : Below a.heap.size a (w.setCell ⟨a.heap.size, j, none⟩ v) := h.setCell (Nat.le_refl _) v
theorem below_on {a w w1 : World} (h : Below a.heap.size a w) (hb : Below w.heap.size w w1) : Below a.heap.size a w1 := h.trans (hb.mono h.size)
def aggN (d : CdNote.D) : Value := .agg #[.int .i64 d.kind, .int .i64 d.inst, .int .i64 d.step, .int .i64 d.state, .int .i64 d.part, .int .i64 d.cause, .string d.key, .string d.name, .int .i64 d.version, .string d.text]
theorem alloc_row (w : World) {c : Array Value} {t : TypeId} : (w.alloc (.cells c t)).drew.heap[w.heap.size]? = some (.cells c t (0, 0)) := by
  show (w.heap.push _)[w.heap.size]? = _
  simp
theorem row10 {w : World} {g t : Nat} {a0 a1 a2 a3 a4 a5 a6 a7 a8 a9 : Value} (h : w.heap[g]? = some (.cells #[a0, a1, a2, a3, a4, a5, a6, a7, a8, a9] t (0, 0))) (v0 v1 v2 v3 v4 v5 v6 v7 v8 v9 : Value) :
    ((((((((((w.setCell ⟨g, 0, none⟩ v0).setCell ⟨g, 1, none⟩ v1).setCell ⟨g, 2, none⟩ v2).setCell ⟨g, 3, none⟩ v3).setCell ⟨g, 4, none⟩ v4).setCell ⟨g, 5, none⟩ v5).setCell ⟨g, 6, none⟩ v6).setCell ⟨g, 7, none⟩ v7).setCell ⟨g, 8, none⟩ v8).setCell ⟨g, 9, none⟩ v9).heap[g]? = some (.cells #[v0, v1, v2, v3, v4, v5, v6, v7, v8, v9] t (0, 0)) := by
  have h0 : (w.setCell ⟨g, 0, none⟩ v0).heap[g]? = some (.cells #[v0, a1, a2, a3, a4, a5, a6, a7, a8, a9] t (0, 0)) := by
    rw [row_setCell h 0 v0]
    simp
  generalize w.setCell ⟨g, 0, none⟩ v0 = w0 at h0 ⊢
  have h1 : (w0.setCell ⟨g, 1, none⟩ v1).heap[g]? = some (.cells #[v0, v1, a2, a3, a4, a5, a6, a7, a8, a9] t (0, 0)) := by
    rw [row_setCell h0 1 v1]
    simp
  generalize w0.setCell ⟨g, 1, none⟩ v1 = w1 at h1 ⊢
  have h2 : (w1.setCell ⟨g, 2, none⟩ v2).heap[g]? = some (.cells #[v0, v1, v2, a3, a4, a5, a6, a7, a8, a9] t (0, 0)) := by
    rw [row_setCell h1 2 v2]
    simp
  generalize w1.setCell ⟨g, 2, none⟩ v2 = w2 at h2 ⊢
  have h3 : (w2.setCell ⟨g, 3, none⟩ v3).heap[g]? = some (.cells #[v0, v1, v2, v3, a4, a5, a6, a7, a8, a9] t (0, 0)) := by
    rw [row_setCell h2 3 v3]
    simp
  generalize w2.setCell ⟨g, 3, none⟩ v3 = w3 at h3 ⊢
  have h4 : (w3.setCell ⟨g, 4, none⟩ v4).heap[g]? = some (.cells #[v0, v1, v2, v3, v4, a5, a6, a7, a8, a9] t (0, 0)) := by
    rw [row_setCell h3 4 v4]
    simp
  generalize w3.setCell ⟨g, 4, none⟩ v4 = w4 at h4 ⊢
  have h5 : (w4.setCell ⟨g, 5, none⟩ v5).heap[g]? = some (.cells #[v0, v1, v2, v3, v4, v5, a6, a7, a8, a9] t (0, 0)) := by
    rw [row_setCell h4 5 v5]
    simp
  generalize w4.setCell ⟨g, 5, none⟩ v5 = w5 at h5 ⊢
  have h6 : (w5.setCell ⟨g, 6, none⟩ v6).heap[g]? = some (.cells #[v0, v1, v2, v3, v4, v5, v6, a7, a8, a9] t (0, 0)) := by
    rw [row_setCell h5 6 v6]
    simp
  generalize w5.setCell ⟨g, 6, none⟩ v6 = w6 at h6 ⊢
  have h7 : (w6.setCell ⟨g, 7, none⟩ v7).heap[g]? = some (.cells #[v0, v1, v2, v3, v4, v5, v6, v7, a8, a9] t (0, 0)) := by
    rw [row_setCell h6 7 v7]
    simp
  generalize w6.setCell ⟨g, 7, none⟩ v7 = w7 at h7 ⊢
  have h8 : (w7.setCell ⟨g, 8, none⟩ v8).heap[g]? = some (.cells #[v0, v1, v2, v3, v4, v5, v6, v7, v8, a9] t (0, 0)) := by
    rw [row_setCell h7 8 v8]
    simp
  generalize w7.setCell ⟨g, 8, none⟩ v8 = w8 at h8 ⊢
  have h9 : (w8.setCell ⟨g, 9, none⟩ v9).heap[g]? = some (.cells #[v0, v1, v2, v3, v4, v5, v6, v7, v8, v9] t (0, 0)) := by
    rw [row_setCell h8 9 v9]
    simp
  generalize w8.setCell ⟨g, 9, none⟩ v9 = w9 at h9 ⊢
  exact h9

end Go.Proofs.Ytejaepohkcjoiaa.CdMay

/- codec: own of a note: the walk, path by path (written by wip/gen/mkown.py). -/
namespace Go.Proofs.Ytejaepohkcjoiaa.CdMay
open Go.RowKit Go.IntWalk Go.Proofs.Ytejaepohkcjoiaa.B Go.Proofs.YtejaepohkcjoiaaW.PrintWords Go.Proofs.YtejaepohkcjoiaaW.PrintLast Go.Proofs.YtejaepohkcjoiaaW.PrintMore Go.Proofs.Ytejaepohkcjoiaa.CdForm

set_option linter.unusedSimpArgs false in
set_option linter.unusedVariables false in
set_option maxHeartbeats 4000000 in
set_option maxRecDepth 100000 in
theorem own1 (w : World) (g : Nat) (kind inst step state part cause : Int) (key name : ByteArray) (version : Int) (text : ByteArray) (hg0 : w.heap[g]? = some (.cells (CdNote.cells ⟨kind, inst, step, state, part, cause, key, name, version, text⟩) 60 (0, 0)))
    (hs : key.size ≤ 9000000000000000000 ∧ name.size ≤ 9000000000000000000) (hk : kind = 1) :
    Calls Try.prog 108 #[.pointer (some ⟨g, 0, none⟩)] w fun e w' => e = .returned (.tuple #[aggN (ownN ⟨kind, inst, step, state, part, cause, key, name, version, text⟩).1, .bool (ownN ⟨kind, inst, step, state, part, cause, key, name, version, text⟩).2]) ∧ Below w.heap.size w w' := by
  have hc0 : w.cell? ⟨g, 0, none⟩ = some (.int .i64 kind) := row_cell hg0 rfl
  have hc1 : w.cell? ⟨g, 1, none⟩ = some (.int .i64 inst) := row_cell hg0 rfl
  have hc2 : w.cell? ⟨g, 2, none⟩ = some (.int .i64 step) := row_cell hg0 rfl
  have hc3 : w.cell? ⟨g, 3, none⟩ = some (.int .i64 state) := row_cell hg0 rfl
  have hc4 : w.cell? ⟨g, 4, none⟩ = some (.int .i64 part) := row_cell hg0 rfl
  have hc5 : w.cell? ⟨g, 5, none⟩ = some (.int .i64 cause) := row_cell hg0 rfl
  have hc6 : w.cell? ⟨g, 6, none⟩ = some (.string key) := row_cell hg0 rfl
  have hc7 : w.cell? ⟨g, 7, none⟩ = some (.string name) := row_cell hg0 rfl
  have hc8 : w.cell? ⟨g, 8, none⟩ = some (.int .i64 version) := row_cell hg0 rfl
  have hc9 : w.cell? ⟨g, 9, none⟩ = some (.string text) := row_cell hg0 rfl
  have hlt : g < w.heap.size := (Array.getElem?_eq_some_iff.1 hg0).1
  have hne : g ≠ w.heap.size := Nat.ne_of_lt hlt
  have hnew' : w.heap.size ≠ g := Ne.symm hne
  have hnew := World.new_ne w ⟨g, 0, none⟩ hc0
  clear hg0

  obtain rfl : kind = 1 := hk
  go_enter Try.func108, Try.ntmps108
  go_wp2_with (first | (go_at_call 79; refine (between_calls _ _ _ _).mono ?_; rintro e w1 ⟨nd, rfl, rfl⟩))
  refine start_ (n := 13) (S := fun w' => w'.cell? ⟨g, 9, none⟩ = some (.string text)) (ds := []) #[false, false, false, false, false, false, false, false, false, false, false, false, false] (by kernel_rfl) rfl rfl ((by go_keep)) (fun hHeld => ?_)
  refine pure_ (i := 0) (N := some 11) (v := ?_) (a' := ?_) #[true, false, false, false, false, false, false, false, false, false, false, false, false] rfl rfl (by kernel_rfl) (fun _ _ _ h => h) (Or.inl ⟨by rfl, ?_⟩) ?_ ?_
  rotate_left
  · intro w'
    go_simp
    with_reducible rfl
  rotate_left
  · simp only [Act.put, List.setIfInBounds_toArray, List.set_cons_zero, List.set_cons_succ, i64_w, i32_w]
    rfl
  refine pure_ (i := 1) (N := some 12) (v := ?_) (a' := ?_) #[true, true, false, false, false, false, false, false, false, false, false, false, false] rfl rfl (by kernel_rfl) (fun _ _ _ h => h) (Or.inl ⟨by rfl, ?_⟩) ?_ ?_
  rotate_left
  · intro w'
    go_simp
    with_reducible rfl
  rotate_left
  · simp only [Act.put, List.setIfInBounds_toArray, List.set_cons_zero, List.set_cons_succ, i64_w, i32_w]
    rfl
  refine pure_ (i := 2) (N := some 13) (v := ?_) (a' := ?_) #[true, true, true, false, false, false, false, false, false, false, false, false, false] rfl rfl (by kernel_rfl) (fun _ _ _ h => h) (Or.inl ⟨by rfl, ?_⟩) ?_ ?_
  rotate_left
  · intro w'
    go_simp
    with_reducible rfl
  rotate_left
  · simp only [Act.put, List.setIfInBounds_toArray, List.set_cons_zero, List.set_cons_succ, i64_w, i32_w]
    rfl
  refine pure_ (i := 5) (N := some 16) (v := ?_) (a' := ?_) #[true, true, true, false, false, true, false, false, false, false, false, false, false] rfl rfl (by kernel_rfl) (fun _ _ _ h => h) (Or.inl ⟨by rfl, ?_⟩) ?_ ?_
  rotate_left
  · intro w'
    go_simp
    with_reducible rfl
  rotate_left
  · simp only [Act.put, List.setIfInBounds_toArray, List.set_cons_zero, List.set_cons_succ, i64_w, i32_w]
    rfl
  refine pure_ (i := 6) (N := some 17) (v := ?_) (a' := ?_) #[true, true, true, false, false, true, true, false, false, false, false, false, false] rfl rfl (by kernel_rfl) (fun _ _ _ h => h) (Or.inl ⟨by rfl, ?_⟩) ?_ ?_
  rotate_left
  · intro w'
    go_simp
    with_reducible rfl
  rotate_left
  · simp only [Act.put, List.setIfInBounds_toArray, List.set_cons_zero, List.set_cons_succ, i64_w, i32_w]
    rfl
  refine pure_ (i := 7) (N := some 18) (v := ?_) (a' := ?_) #[true, true, true, false, false, true, true, true, false, false, false, false, false] rfl rfl (by kernel_rfl) (fun _ _ _ h => h) (Or.inl ⟨by rfl, ?_⟩) ?_ ?_
  rotate_left
  · intro w'
    go_simp
    with_reducible rfl
  rotate_left
  · simp only [Act.put, List.setIfInBounds_toArray, List.set_cons_zero, List.set_cons_succ, i64_w, i32_w]
    rfl
  refine take_ (i := 3) (N := some 14) (v := ?_) (a' := ?_) #[true, true, true, true, false, true, true, true, false, false, false, false, false] rfl rfl (by kernel_rfl) (fun _ _ _ h => h) (Or.inl ⟨by rfl, ?_⟩) hHeld ?_ ?_
  rotate_left
  · intro w' s0
    go_simp
    with_reducible rfl
  rotate_left
  · simp only [Act.put, List.setIfInBounds_toArray, List.set_cons_zero, List.set_cons_succ, i64_w, i32_w]
    rfl
  refine pure_ (i := 4) (N := some 15) (v := ?_) (a' := ?_) #[true, true, true, true, true, true, true, true, false, false, false, false, false] rfl rfl (by kernel_rfl) (fun _ _ _ h => h) (Or.inl ⟨by rfl, ?_⟩) ?_ ?_
  rotate_left
  · intro w'
    go_simp
    with_reducible rfl
  rotate_left
  · simp only [Act.put, List.setIfInBounds_toArray, List.set_cons_zero, List.set_cons_succ, i64_w, i32_w]
    rfl
  refine take_ (i := 8) (N := some 19) (v := ?_) (a' := ?_) #[true, true, true, true, true, true, true, true, true, false, false, false, false] rfl rfl (by kernel_rfl) (fun _ _ _ h => h) (Or.inl ⟨by rfl, ?_⟩) hHeld ?_ ?_
  rotate_left
  · intro w' s0
    go_simp
    with_reducible rfl
  rotate_left
  · simp only [Act.put, List.setIfInBounds_toArray, List.set_cons_zero, List.set_cons_succ, i64_w, i32_w]
    rfl
  refine pure_ (i := 9) (N := some 20) (v := ?_) (a' := ?_) #[true, true, true, true, true, true, true, true, true, true, false, false, false] rfl rfl (by kernel_rfl) (fun _ _ _ h => h) (Or.inl ⟨by rfl, ?_⟩) ?_ ?_
  rotate_left
  · intro w'
    go_simp
    with_reducible rfl
  rotate_left
  · simp only [Act.put, List.setIfInBounds_toArray, List.set_cons_zero, List.set_cons_succ, i64_w, i32_w]
    rfl
  refine one_ (i := 10) (N := some 21) #[true, true, true, true, true, true, true, true, true, true, true, false, false] rfl rfl (by kernel_rfl) (by decide) (fun K hK => ?_)
  refine goes_ Try.func79 (by kernel_rfl) rfl #[.int .i64 text.size, .int .i64 1, .int .i64 1800] (by rfl) rfl rfl (by simp only [List.map_toArray, List.map_cons, List.map_nil]; rfl) ?_
  with_reducible refine (between_b _ _ _ _ _ rfl).mono ?_
  rintro e w3 ⟨nd, rfl, rfl⟩
  refine ⟨_, rfl, ?_⟩
  refine hK.out _ _ (hHeld) (fun hHeld => ?_)
  clear hK K
  refine norm_ (a' := ?_) ?_ ?_
  rotate_left
  · show Act.put _ (some 21) _ = _
    simp only [Act.put, List.setIfInBounds_toArray, List.set_cons_zero, List.set_cons_succ, i64_w, i32_w]
    rfl
  refine one_ (i := 11) (N := none) #[true, true, true, true, true, true, true, true, true, true, true, true, false] rfl rfl (by kernel_rfl) (by decide) (fun K hK => ?_)
  refine skip_ (w1 := ?_) (by rfl) rfl ?_ ?_
  rotate_left
  · go_simp
    rfl
  refine hK.out _ _ (((cell_far (p := ⟨w.heap.size, _, none⟩) hne _).trans ((cell_far (p := ⟨w.heap.size, _, none⟩) hne _).trans ((cell_far (p := ⟨w.heap.size, _, none⟩) hne _).trans ((cell_far (p := ⟨w.heap.size, _, none⟩) hne _).trans ((cell_far (p := ⟨w.heap.size, _, none⟩) hne _).trans ((cell_far (p := ⟨w.heap.size, _, none⟩) hne _).trans ((cell_far (p := ⟨w.heap.size, _, none⟩) hne _).trans ((cell_far (p := ⟨w.heap.size, _, none⟩) hne _).trans ((cell_far (p := ⟨w.heap.size, _, none⟩) hne _).trans ((cell_far (p := ⟨w.heap.size, _, none⟩) hne _).trans hHeld))))))))))) (fun hHeld => ?_)
  clear hK K
  refine pure_ (i := 12) (N := some 3) (v := ?_) (a' := ?_) #[true, true, true, true, true, true, true, true, true, true, true, true, true] rfl rfl (by kernel_rfl) (fun _ _ _ h => h) (Or.inl ⟨by rfl, ?_⟩) ?_ ?_
  rotate_left
  · intro w'
    go_simp
    with_reducible rfl
  rotate_left
  · simp only [Act.put, List.setIfInBounds_toArray, List.set_cons_zero, List.set_cons_succ, i64_w, i32_w]
    rfl
  refine done_ (by kernel_rfl) ?_
  go_wp2_with (first | (go_at_call 79; refine (between_calls _ _ _ _).mono ?_; rintro e w1 ⟨nd, rfl, rfl⟩))
  all_goals (go_returns; refine ⟨by simp [ownN, aggN, CdNote.nullD], ?_⟩; (repeat (with_reducible (first | exact Below.refl _ _ | exact below_new _ | apply below_set | apply Below.drew | apply pw_below_drewN))))

set_option linter.unusedSimpArgs false in
set_option linter.unusedVariables false in
set_option maxHeartbeats 4000000 in
set_option maxRecDepth 100000 in
theorem own5 (w : World) (g : Nat) (kind inst step state part cause : Int) (key name : ByteArray) (version : Int) (text : ByteArray) (hg0 : w.heap[g]? = some (.cells (CdNote.cells ⟨kind, inst, step, state, part, cause, key, name, version, text⟩) 60 (0, 0)))
    (hs : key.size ≤ 9000000000000000000 ∧ name.size ≤ 9000000000000000000) (hk : kind = 5) :
    Calls Try.prog 108 #[.pointer (some ⟨g, 0, none⟩)] w fun e w' => e = .returned (.tuple #[aggN (ownN ⟨kind, inst, step, state, part, cause, key, name, version, text⟩).1, .bool (ownN ⟨kind, inst, step, state, part, cause, key, name, version, text⟩).2]) ∧ Below w.heap.size w w' := by
  have hc0 : w.cell? ⟨g, 0, none⟩ = some (.int .i64 kind) := row_cell hg0 rfl
  have hc1 : w.cell? ⟨g, 1, none⟩ = some (.int .i64 inst) := row_cell hg0 rfl
  have hc2 : w.cell? ⟨g, 2, none⟩ = some (.int .i64 step) := row_cell hg0 rfl
  have hc3 : w.cell? ⟨g, 3, none⟩ = some (.int .i64 state) := row_cell hg0 rfl
  have hc4 : w.cell? ⟨g, 4, none⟩ = some (.int .i64 part) := row_cell hg0 rfl
  have hc5 : w.cell? ⟨g, 5, none⟩ = some (.int .i64 cause) := row_cell hg0 rfl
  have hc6 : w.cell? ⟨g, 6, none⟩ = some (.string key) := row_cell hg0 rfl
  have hc7 : w.cell? ⟨g, 7, none⟩ = some (.string name) := row_cell hg0 rfl
  have hc8 : w.cell? ⟨g, 8, none⟩ = some (.int .i64 version) := row_cell hg0 rfl
  have hc9 : w.cell? ⟨g, 9, none⟩ = some (.string text) := row_cell hg0 rfl
  have hlt : g < w.heap.size := (Array.getElem?_eq_some_iff.1 hg0).1
  have hne : g ≠ w.heap.size := Nat.ne_of_lt hlt
  have hnew' : w.heap.size ≠ g := Ne.symm hne
  have hnew := World.new_ne w ⟨g, 0, none⟩ hc0
  clear hg0

  obtain rfl : kind = 5 := hk
  go_enter Try.func108, Try.ntmps108
  go_wp2_with (first | (go_at_call 79; refine (between_calls _ _ _ _).mono ?_; rintro e w1 ⟨nd, rfl, rfl⟩))
  refine start_ (n := 12) (S := fun w' => w'.cell? ⟨g, 2, none⟩ = some (.int .i64 step)) (ds := []) #[false, false, false, false, false, false, false, false, false, false, false, false] (by kernel_rfl) rfl rfl ((by go_keep)) (fun hHeld => ?_)
  refine pure_ (i := 0) (N := some 63) (v := ?_) (a' := ?_) #[true, false, false, false, false, false, false, false, false, false, false, false] rfl rfl (by kernel_rfl) (fun _ _ _ h => h) (Or.inl ⟨by rfl, ?_⟩) ?_ ?_
  rotate_left
  · intro w'
    go_simp
    with_reducible rfl
  rotate_left
  · simp only [Act.put, List.setIfInBounds_toArray, List.set_cons_zero, List.set_cons_succ, i64_w, i32_w]
    rfl
  refine pure_ (i := 1) (N := some 64) (v := ?_) (a' := ?_) #[true, true, false, false, false, false, false, false, false, false, false, false] rfl rfl (by kernel_rfl) (fun _ _ _ h => h) (Or.inl ⟨by rfl, ?_⟩) ?_ ?_
  rotate_left
  · intro w'
    go_simp
    with_reducible rfl
  rotate_left
  · simp only [Act.put, List.setIfInBounds_toArray, List.set_cons_zero, List.set_cons_succ, i64_w, i32_w]
    rfl
  refine pure_ (i := 2) (N := some 65) (v := ?_) (a' := ?_) #[true, true, true, false, false, false, false, false, false, false, false, false] rfl rfl (by kernel_rfl) (fun _ _ _ h => h) (Or.inl ⟨by rfl, ?_⟩) ?_ ?_
  rotate_left
  · intro w'
    go_simp
    with_reducible rfl
  rotate_left
  · simp only [Act.put, List.setIfInBounds_toArray, List.set_cons_zero, List.set_cons_succ, i64_w, i32_w]
    rfl
  refine pure_ (i := 5) (N := some 68) (v := ?_) (a' := ?_) #[true, true, true, false, false, true, false, false, false, false, false, false] rfl rfl (by kernel_rfl) (fun _ _ _ h => h) (Or.inl ⟨by rfl, ?_⟩) ?_ ?_
  rotate_left
  · intro w'
    go_simp
    with_reducible rfl
  rotate_left
  · simp only [Act.put, List.setIfInBounds_toArray, List.set_cons_zero, List.set_cons_succ, i64_w, i32_w]
    rfl
  refine pure_ (i := 6) (N := some 69) (v := ?_) (a' := ?_) #[true, true, true, false, false, true, true, false, false, false, false, false] rfl rfl (by kernel_rfl) (fun _ _ _ h => h) (Or.inl ⟨by rfl, ?_⟩) ?_ ?_
  rotate_left
  · intro w'
    go_simp
    with_reducible rfl
  rotate_left
  · simp only [Act.put, List.setIfInBounds_toArray, List.set_cons_zero, List.set_cons_succ, i64_w, i32_w]
    rfl
  refine pure_ (i := 7) (N := some 70) (v := ?_) (a' := ?_) #[true, true, true, false, false, true, true, true, false, false, false, false] rfl rfl (by kernel_rfl) (fun _ _ _ h => h) (Or.inl ⟨by rfl, ?_⟩) ?_ ?_
  rotate_left
  · intro w'
    go_simp
    with_reducible rfl
  rotate_left
  · simp only [Act.put, List.setIfInBounds_toArray, List.set_cons_zero, List.set_cons_succ, i64_w, i32_w]
    rfl
  refine take_ (i := 3) (N := some 66) (v := ?_) (a' := ?_) #[true, true, true, true, false, true, true, true, false, false, false, false] rfl rfl (by kernel_rfl) (fun _ _ _ h => h) (Or.inl ⟨by rfl, ?_⟩) hHeld ?_ ?_
  rotate_left
  · intro w' s0
    go_simp
    with_reducible rfl
  rotate_left
  · simp only [Act.put, List.setIfInBounds_toArray, List.set_cons_zero, List.set_cons_succ, i64_w, i32_w]
    rfl
  refine pure_ (i := 4) (N := some 67) (v := ?_) (a' := ?_) #[true, true, true, true, true, true, true, true, false, false, false, false] rfl rfl (by kernel_rfl) (fun _ _ _ h => h) (Or.inl ⟨by rfl, ?_⟩) ?_ ?_
  rotate_left
  · intro w'
    go_simp
    with_reducible rfl
  rotate_left
  · simp only [Act.put, List.setIfInBounds_toArray, List.set_cons_zero, List.set_cons_succ, i64_w, i32_w]
    rfl
  refine take_ (i := 8) (N := some 71) (v := ?_) (a' := ?_) #[true, true, true, true, true, true, true, true, true, false, false, false] rfl rfl (by kernel_rfl) (fun _ _ _ h => h) (Or.inl ⟨by rfl, ?_⟩) hHeld ?_ ?_
  rotate_left
  · intro w' s0
    go_simp
    with_reducible rfl
  rotate_left
  · simp only [Act.put, List.setIfInBounds_toArray, List.set_cons_zero, List.set_cons_succ, i64_w, i32_w]
    rfl
  refine one_ (i := 9) (N := some 72) #[true, true, true, true, true, true, true, true, true, true, false, false] rfl rfl (by kernel_rfl) (by decide) (fun K hK => ?_)
  refine goes_ Try.func81 (by kernel_rfl) rfl #[.int .i64 step] (by rfl) rfl rfl (by simp only [List.map_toArray, List.map_cons, List.map_nil]; rfl) ?_
  with_reducible refine (step_b _ _ _ rfl).mono ?_
  rintro e w3 ⟨nd, rfl, rfl⟩
  refine ⟨_, rfl, ?_⟩
  refine hK.out _ _ (hHeld) (fun hHeld => ?_)
  clear hK K
  refine norm_ (a' := ?_) ?_ ?_
  rotate_left
  · show Act.put _ (some 72) _ = _
    simp only [Act.put, List.setIfInBounds_toArray, List.set_cons_zero, List.set_cons_succ, i64_w, i32_w]
    rfl
  refine one_ (i := 10) (N := none) #[true, true, true, true, true, true, true, true, true, true, true, false] rfl rfl (by kernel_rfl) (by decide) (fun K hK => ?_)
  refine skip_ (w1 := ?_) (by rfl) rfl ?_ ?_
  rotate_left
  · go_simp
    rfl
  refine hK.out _ _ (((cell_far (p := ⟨w.heap.size, _, none⟩) hne _).trans ((cell_far (p := ⟨w.heap.size, _, none⟩) hne _).trans ((cell_far (p := ⟨w.heap.size, _, none⟩) hne _).trans ((cell_far (p := ⟨w.heap.size, _, none⟩) hne _).trans ((cell_far (p := ⟨w.heap.size, _, none⟩) hne _).trans ((cell_far (p := ⟨w.heap.size, _, none⟩) hne _).trans ((cell_far (p := ⟨w.heap.size, _, none⟩) hne _).trans ((cell_far (p := ⟨w.heap.size, _, none⟩) hne _).trans ((cell_far (p := ⟨w.heap.size, _, none⟩) hne _).trans ((cell_far (p := ⟨w.heap.size, _, none⟩) hne _).trans hHeld))))))))))) (fun hHeld => ?_)
  clear hK K
  refine pure_ (i := 11) (N := some 3) (v := ?_) (a' := ?_) #[true, true, true, true, true, true, true, true, true, true, true, true] rfl rfl (by kernel_rfl) (fun _ _ _ h => h) (Or.inl ⟨by rfl, ?_⟩) ?_ ?_
  rotate_left
  · intro w'
    go_simp
    with_reducible rfl
  rotate_left
  · simp only [Act.put, List.setIfInBounds_toArray, List.set_cons_zero, List.set_cons_succ, i64_w, i32_w]
    rfl
  refine done_ (by kernel_rfl) ?_
  go_wp2_with (first | (go_at_call 79; refine (between_calls _ _ _ _).mono ?_; rintro e w1 ⟨nd, rfl, rfl⟩))
  all_goals (go_returns; refine ⟨by simp [ownN, aggN, CdNote.nullD], ?_⟩; (repeat (with_reducible (first | exact Below.refl _ _ | exact below_new _ | apply below_set | apply Below.drew | apply pw_below_drewN))))

set_option linter.unusedSimpArgs false in
set_option linter.unusedVariables false in
set_option maxHeartbeats 4000000 in
set_option maxRecDepth 100000 in
theorem own8 (w : World) (g : Nat) (kind inst step state part cause : Int) (key name : ByteArray) (version : Int) (text : ByteArray) (hg0 : w.heap[g]? = some (.cells (CdNote.cells ⟨kind, inst, step, state, part, cause, key, name, version, text⟩) 60 (0, 0)))
    (hs : key.size ≤ 9000000000000000000 ∧ name.size ≤ 9000000000000000000) (hk : kind = 8) :
    Calls Try.prog 108 #[.pointer (some ⟨g, 0, none⟩)] w fun e w' => e = .returned (.tuple #[aggN (ownN ⟨kind, inst, step, state, part, cause, key, name, version, text⟩).1, .bool (ownN ⟨kind, inst, step, state, part, cause, key, name, version, text⟩).2]) ∧ Below w.heap.size w w' := by
  have hc0 : w.cell? ⟨g, 0, none⟩ = some (.int .i64 kind) := row_cell hg0 rfl
  have hc1 : w.cell? ⟨g, 1, none⟩ = some (.int .i64 inst) := row_cell hg0 rfl
  have hc2 : w.cell? ⟨g, 2, none⟩ = some (.int .i64 step) := row_cell hg0 rfl
  have hc3 : w.cell? ⟨g, 3, none⟩ = some (.int .i64 state) := row_cell hg0 rfl
  have hc4 : w.cell? ⟨g, 4, none⟩ = some (.int .i64 part) := row_cell hg0 rfl
  have hc5 : w.cell? ⟨g, 5, none⟩ = some (.int .i64 cause) := row_cell hg0 rfl
  have hc6 : w.cell? ⟨g, 6, none⟩ = some (.string key) := row_cell hg0 rfl
  have hc7 : w.cell? ⟨g, 7, none⟩ = some (.string name) := row_cell hg0 rfl
  have hc8 : w.cell? ⟨g, 8, none⟩ = some (.int .i64 version) := row_cell hg0 rfl
  have hc9 : w.cell? ⟨g, 9, none⟩ = some (.string text) := row_cell hg0 rfl
  have hlt : g < w.heap.size := (Array.getElem?_eq_some_iff.1 hg0).1
  have hne : g ≠ w.heap.size := Nat.ne_of_lt hlt
  have hnew' : w.heap.size ≠ g := Ne.symm hne
  have hnew := World.new_ne w ⟨g, 0, none⟩ hc0
  clear hg0

  obtain rfl : kind = 8 := hk
  go_enter Try.func108, Try.ntmps108
  go_wp2_with (first | (go_at_call 79; refine (between_calls _ _ _ _).mono ?_; rintro e w1 ⟨nd, rfl, rfl⟩))
  refine start_ (n := 12) (S := fun w' => w'.cell? ⟨g, 4, none⟩ = some (.int .i64 part)) (ds := []) #[false, false, false, false, false, false, false, false, false, false, false, false] (by kernel_rfl) rfl rfl ((by go_keep)) (fun hHeld => ?_)
  refine pure_ (i := 0) (N := some 98) (v := ?_) (a' := ?_) #[true, false, false, false, false, false, false, false, false, false, false, false] rfl rfl (by kernel_rfl) (fun _ _ _ h => h) (Or.inl ⟨by rfl, ?_⟩) ?_ ?_
  rotate_left
  · intro w'
    go_simp
    with_reducible rfl
  rotate_left
  · simp only [Act.put, List.setIfInBounds_toArray, List.set_cons_zero, List.set_cons_succ, i64_w, i32_w]
    rfl
  refine pure_ (i := 1) (N := some 99) (v := ?_) (a' := ?_) #[true, true, false, false, false, false, false, false, false, false, false, false] rfl rfl (by kernel_rfl) (fun _ _ _ h => h) (Or.inl ⟨by rfl, ?_⟩) ?_ ?_
  rotate_left
  · intro w'
    go_simp
    with_reducible rfl
  rotate_left
  · simp only [Act.put, List.setIfInBounds_toArray, List.set_cons_zero, List.set_cons_succ, i64_w, i32_w]
    rfl
  refine pure_ (i := 2) (N := some 100) (v := ?_) (a' := ?_) #[true, true, true, false, false, false, false, false, false, false, false, false] rfl rfl (by kernel_rfl) (fun _ _ _ h => h) (Or.inl ⟨by rfl, ?_⟩) ?_ ?_
  rotate_left
  · intro w'
    go_simp
    with_reducible rfl
  rotate_left
  · simp only [Act.put, List.setIfInBounds_toArray, List.set_cons_zero, List.set_cons_succ, i64_w, i32_w]
    rfl
  refine pure_ (i := 5) (N := some 103) (v := ?_) (a' := ?_) #[true, true, true, false, false, true, false, false, false, false, false, false] rfl rfl (by kernel_rfl) (fun _ _ _ h => h) (Or.inl ⟨by rfl, ?_⟩) ?_ ?_
  rotate_left
  · intro w'
    go_simp
    with_reducible rfl
  rotate_left
  · simp only [Act.put, List.setIfInBounds_toArray, List.set_cons_zero, List.set_cons_succ, i64_w, i32_w]
    rfl
  refine pure_ (i := 6) (N := some 104) (v := ?_) (a' := ?_) #[true, true, true, false, false, true, true, false, false, false, false, false] rfl rfl (by kernel_rfl) (fun _ _ _ h => h) (Or.inl ⟨by rfl, ?_⟩) ?_ ?_
  rotate_left
  · intro w'
    go_simp
    with_reducible rfl
  rotate_left
  · simp only [Act.put, List.setIfInBounds_toArray, List.set_cons_zero, List.set_cons_succ, i64_w, i32_w]
    rfl
  refine pure_ (i := 7) (N := some 105) (v := ?_) (a' := ?_) #[true, true, true, false, false, true, true, true, false, false, false, false] rfl rfl (by kernel_rfl) (fun _ _ _ h => h) (Or.inl ⟨by rfl, ?_⟩) ?_ ?_
  rotate_left
  · intro w'
    go_simp
    with_reducible rfl
  rotate_left
  · simp only [Act.put, List.setIfInBounds_toArray, List.set_cons_zero, List.set_cons_succ, i64_w, i32_w]
    rfl
  refine take_ (i := 3) (N := some 101) (v := ?_) (a' := ?_) #[true, true, true, true, false, true, true, true, false, false, false, false] rfl rfl (by kernel_rfl) (fun _ _ _ h => h) (Or.inl ⟨by rfl, ?_⟩) hHeld ?_ ?_
  rotate_left
  · intro w' s0
    go_simp
    with_reducible rfl
  rotate_left
  · simp only [Act.put, List.setIfInBounds_toArray, List.set_cons_zero, List.set_cons_succ, i64_w, i32_w]
    rfl
  refine pure_ (i := 4) (N := some 102) (v := ?_) (a' := ?_) #[true, true, true, true, true, true, true, true, false, false, false, false] rfl rfl (by kernel_rfl) (fun _ _ _ h => h) (Or.inl ⟨by rfl, ?_⟩) ?_ ?_
  rotate_left
  · intro w'
    go_simp
    with_reducible rfl
  rotate_left
  · simp only [Act.put, List.setIfInBounds_toArray, List.set_cons_zero, List.set_cons_succ, i64_w, i32_w]
    rfl
  refine take_ (i := 8) (N := some 106) (v := ?_) (a' := ?_) #[true, true, true, true, true, true, true, true, true, false, false, false] rfl rfl (by kernel_rfl) (fun _ _ _ h => h) (Or.inl ⟨by rfl, ?_⟩) hHeld ?_ ?_
  rotate_left
  · intro w' s0
    go_simp
    with_reducible rfl
  rotate_left
  · simp only [Act.put, List.setIfInBounds_toArray, List.set_cons_zero, List.set_cons_succ, i64_w, i32_w]
    rfl
  refine one_ (i := 9) (N := some 107) #[true, true, true, true, true, true, true, true, true, true, false, false] rfl rfl (by kernel_rfl) (by decide) (fun K hK => ?_)
  refine goes_ Try.func79 (by kernel_rfl) rfl #[.int .i64 part, .int .i64 0, .int .i64 3] (by rfl) rfl rfl (by simp only [List.map_toArray, List.map_cons, List.map_nil]; rfl) ?_
  with_reducible refine (between_b _ _ _ _ _ rfl).mono ?_
  rintro e w3 ⟨nd, rfl, rfl⟩
  refine ⟨_, rfl, ?_⟩
  refine hK.out _ _ (hHeld) (fun hHeld => ?_)
  clear hK K
  refine norm_ (a' := ?_) ?_ ?_
  rotate_left
  · show Act.put _ (some 107) _ = _
    simp only [Act.put, List.setIfInBounds_toArray, List.set_cons_zero, List.set_cons_succ, i64_w, i32_w]
    rfl
  refine one_ (i := 10) (N := none) #[true, true, true, true, true, true, true, true, true, true, true, false] rfl rfl (by kernel_rfl) (by decide) (fun K hK => ?_)
  refine skip_ (w1 := ?_) (by rfl) rfl ?_ ?_
  rotate_left
  · go_simp
    rfl
  refine hK.out _ _ (((cell_far (p := ⟨w.heap.size, _, none⟩) hne _).trans ((cell_far (p := ⟨w.heap.size, _, none⟩) hne _).trans ((cell_far (p := ⟨w.heap.size, _, none⟩) hne _).trans ((cell_far (p := ⟨w.heap.size, _, none⟩) hne _).trans ((cell_far (p := ⟨w.heap.size, _, none⟩) hne _).trans ((cell_far (p := ⟨w.heap.size, _, none⟩) hne _).trans ((cell_far (p := ⟨w.heap.size, _, none⟩) hne _).trans ((cell_far (p := ⟨w.heap.size, _, none⟩) hne _).trans ((cell_far (p := ⟨w.heap.size, _, none⟩) hne _).trans ((cell_far (p := ⟨w.heap.size, _, none⟩) hne _).trans hHeld))))))))))) (fun hHeld => ?_)
  clear hK K
  refine pure_ (i := 11) (N := some 3) (v := ?_) (a' := ?_) #[true, true, true, true, true, true, true, true, true, true, true, true] rfl rfl (by kernel_rfl) (fun _ _ _ h => h) (Or.inl ⟨by rfl, ?_⟩) ?_ ?_
  rotate_left
  · intro w'
    go_simp
    with_reducible rfl
  rotate_left
  · simp only [Act.put, List.setIfInBounds_toArray, List.set_cons_zero, List.set_cons_succ, i64_w, i32_w]
    rfl
  refine done_ (by kernel_rfl) ?_
  go_wp2_with (first | (go_at_call 79; refine (between_calls _ _ _ _).mono ?_; rintro e w1 ⟨nd, rfl, rfl⟩))
  all_goals (go_returns; refine ⟨by simp [ownN, aggN, CdNote.nullD], ?_⟩; (repeat (with_reducible (first | exact Below.refl _ _ | exact below_new _ | apply below_set | apply Below.drew | apply pw_below_drewN))))

set_option linter.unusedSimpArgs false in
set_option linter.unusedVariables false in
set_option maxHeartbeats 4000000 in
set_option maxRecDepth 100000 in
theorem own3 (w : World) (g : Nat) (kind inst step state part cause : Int) (key name : ByteArray) (version : Int) (text : ByteArray) (hg0 : w.heap[g]? = some (.cells (CdNote.cells ⟨kind, inst, step, state, part, cause, key, name, version, text⟩) 60 (0, 0)))
    (hs : key.size ≤ 9000000000000000000 ∧ name.size ≤ 9000000000000000000) (hk : kind = 3) :
    Calls Try.prog 108 #[.pointer (some ⟨g, 0, none⟩)] w fun e w' => e = .returned (.tuple #[aggN (ownN ⟨kind, inst, step, state, part, cause, key, name, version, text⟩).1, .bool (ownN ⟨kind, inst, step, state, part, cause, key, name, version, text⟩).2]) ∧ Below w.heap.size w w' := by
  have hc0 : w.cell? ⟨g, 0, none⟩ = some (.int .i64 kind) := row_cell hg0 rfl
  have hc1 : w.cell? ⟨g, 1, none⟩ = some (.int .i64 inst) := row_cell hg0 rfl
  have hc2 : w.cell? ⟨g, 2, none⟩ = some (.int .i64 step) := row_cell hg0 rfl
  have hc3 : w.cell? ⟨g, 3, none⟩ = some (.int .i64 state) := row_cell hg0 rfl
  have hc4 : w.cell? ⟨g, 4, none⟩ = some (.int .i64 part) := row_cell hg0 rfl
  have hc5 : w.cell? ⟨g, 5, none⟩ = some (.int .i64 cause) := row_cell hg0 rfl
  have hc6 : w.cell? ⟨g, 6, none⟩ = some (.string key) := row_cell hg0 rfl
  have hc7 : w.cell? ⟨g, 7, none⟩ = some (.string name) := row_cell hg0 rfl
  have hc8 : w.cell? ⟨g, 8, none⟩ = some (.int .i64 version) := row_cell hg0 rfl
  have hc9 : w.cell? ⟨g, 9, none⟩ = some (.string text) := row_cell hg0 rfl
  have hlt : g < w.heap.size := (Array.getElem?_eq_some_iff.1 hg0).1
  have hne : g ≠ w.heap.size := Nat.ne_of_lt hlt
  have hnew' : w.heap.size ≠ g := Ne.symm hne
  have hnew := World.new_ne w ⟨g, 0, none⟩ hc0
  clear hg0

  obtain rfl : kind = 3 := hk
  go_enter Try.func108, Try.ntmps108
  go_wp2_with (first | (go_at_call 79; refine (between_calls _ _ _ _).mono ?_; rintro e w1 ⟨nd, rfl, rfl⟩))
  all_goals (go_returns; refine ⟨by simp [ownN, aggN, CdNote.nullD], ?_⟩; (repeat (with_reducible (first | exact Below.refl _ _ | exact below_new _ | apply below_set | apply Below.drew | apply pw_below_drewN))))

set_option linter.unusedSimpArgs false in
set_option linter.unusedVariables false in
set_option maxHeartbeats 4000000 in
set_option maxRecDepth 100000 in
theorem own4 (w : World) (g : Nat) (kind inst step state part cause : Int) (key name : ByteArray) (version : Int) (text : ByteArray) (hg0 : w.heap[g]? = some (.cells (CdNote.cells ⟨kind, inst, step, state, part, cause, key, name, version, text⟩) 60 (0, 0)))
    (hs : key.size ≤ 9000000000000000000 ∧ name.size ≤ 9000000000000000000) (hk : kind = 4) :
    Calls Try.prog 108 #[.pointer (some ⟨g, 0, none⟩)] w fun e w' => e = .returned (.tuple #[aggN (ownN ⟨kind, inst, step, state, part, cause, key, name, version, text⟩).1, .bool (ownN ⟨kind, inst, step, state, part, cause, key, name, version, text⟩).2]) ∧ Below w.heap.size w w' := by
  have hc0 : w.cell? ⟨g, 0, none⟩ = some (.int .i64 kind) := row_cell hg0 rfl
  have hc1 : w.cell? ⟨g, 1, none⟩ = some (.int .i64 inst) := row_cell hg0 rfl
  have hc2 : w.cell? ⟨g, 2, none⟩ = some (.int .i64 step) := row_cell hg0 rfl
  have hc3 : w.cell? ⟨g, 3, none⟩ = some (.int .i64 state) := row_cell hg0 rfl
  have hc4 : w.cell? ⟨g, 4, none⟩ = some (.int .i64 part) := row_cell hg0 rfl
  have hc5 : w.cell? ⟨g, 5, none⟩ = some (.int .i64 cause) := row_cell hg0 rfl
  have hc6 : w.cell? ⟨g, 6, none⟩ = some (.string key) := row_cell hg0 rfl
  have hc7 : w.cell? ⟨g, 7, none⟩ = some (.string name) := row_cell hg0 rfl
  have hc8 : w.cell? ⟨g, 8, none⟩ = some (.int .i64 version) := row_cell hg0 rfl
  have hc9 : w.cell? ⟨g, 9, none⟩ = some (.string text) := row_cell hg0 rfl
  have hlt : g < w.heap.size := (Array.getElem?_eq_some_iff.1 hg0).1
  have hne : g ≠ w.heap.size := Nat.ne_of_lt hlt
  have hnew' : w.heap.size ≠ g := Ne.symm hne
  have hnew := World.new_ne w ⟨g, 0, none⟩ hc0
  clear hg0

  obtain rfl : kind = 4 := hk
  go_enter Try.func108, Try.ntmps108
  go_wp2_with (first | (go_at_call 79; refine (between_calls _ _ _ _).mono ?_; rintro e w1 ⟨nd, rfl, rfl⟩))
  all_goals (go_returns; refine ⟨by simp [ownN, aggN, CdNote.nullD], ?_⟩; (repeat (with_reducible (first | exact Below.refl _ _ | exact below_new _ | apply below_set | apply Below.drew | apply pw_below_drewN))))

set_option linter.unusedSimpArgs false in
set_option linter.unusedVariables false in
set_option maxHeartbeats 4000000 in
set_option maxRecDepth 100000 in
theorem own7 (w : World) (g : Nat) (kind inst step state part cause : Int) (key name : ByteArray) (version : Int) (text : ByteArray) (hg0 : w.heap[g]? = some (.cells (CdNote.cells ⟨kind, inst, step, state, part, cause, key, name, version, text⟩) 60 (0, 0)))
    (hs : key.size ≤ 9000000000000000000 ∧ name.size ≤ 9000000000000000000) (hk : kind = 7) :
    Calls Try.prog 108 #[.pointer (some ⟨g, 0, none⟩)] w fun e w' => e = .returned (.tuple #[aggN (ownN ⟨kind, inst, step, state, part, cause, key, name, version, text⟩).1, .bool (ownN ⟨kind, inst, step, state, part, cause, key, name, version, text⟩).2]) ∧ Below w.heap.size w w' := by
  have hc0 : w.cell? ⟨g, 0, none⟩ = some (.int .i64 kind) := row_cell hg0 rfl
  have hc1 : w.cell? ⟨g, 1, none⟩ = some (.int .i64 inst) := row_cell hg0 rfl
  have hc2 : w.cell? ⟨g, 2, none⟩ = some (.int .i64 step) := row_cell hg0 rfl
  have hc3 : w.cell? ⟨g, 3, none⟩ = some (.int .i64 state) := row_cell hg0 rfl
  have hc4 : w.cell? ⟨g, 4, none⟩ = some (.int .i64 part) := row_cell hg0 rfl
  have hc5 : w.cell? ⟨g, 5, none⟩ = some (.int .i64 cause) := row_cell hg0 rfl
  have hc6 : w.cell? ⟨g, 6, none⟩ = some (.string key) := row_cell hg0 rfl
  have hc7 : w.cell? ⟨g, 7, none⟩ = some (.string name) := row_cell hg0 rfl
  have hc8 : w.cell? ⟨g, 8, none⟩ = some (.int .i64 version) := row_cell hg0 rfl
  have hc9 : w.cell? ⟨g, 9, none⟩ = some (.string text) := row_cell hg0 rfl
  have hlt : g < w.heap.size := (Array.getElem?_eq_some_iff.1 hg0).1
  have hne : g ≠ w.heap.size := Nat.ne_of_lt hlt
  have hnew' : w.heap.size ≠ g := Ne.symm hne
  have hnew := World.new_ne w ⟨g, 0, none⟩ hc0
  clear hg0

  obtain rfl : kind = 7 := hk
  go_enter Try.func108, Try.ntmps108
  go_wp2_with (first | (go_at_call 79; refine (between_calls _ _ _ _).mono ?_; rintro e w1 ⟨nd, rfl, rfl⟩))
  all_goals (go_returns; refine ⟨by simp [ownN, aggN, CdNote.nullD], ?_⟩; (repeat (with_reducible (first | exact Below.refl _ _ | exact below_new _ | apply below_set | apply Below.drew | apply pw_below_drewN))))

set_option linter.unusedSimpArgs false in
set_option linter.unusedVariables false in
set_option maxHeartbeats 4000000 in
set_option maxRecDepth 100000 in
theorem ownz (w : World) (g : Nat) (kind inst step state part cause : Int) (key name : ByteArray) (version : Int) (text : ByteArray) (hg0 : w.heap[g]? = some (.cells (CdNote.cells ⟨kind, inst, step, state, part, cause, key, name, version, text⟩) 60 (0, 0)))
    (hs : key.size ≤ 9000000000000000000 ∧ name.size ≤ 9000000000000000000) (hk : (kind == 1) = false ∧ (kind == 2) = false ∧ (kind == 3) = false ∧ (kind == 4) = false ∧ (kind == 5) = false ∧ (kind == 6) = false ∧ (kind == 7) = false ∧ (kind == 8) = false ∧ (kind == 9) = false) :
    Calls Try.prog 108 #[.pointer (some ⟨g, 0, none⟩)] w fun e w' => e = .returned (.tuple #[aggN (ownN ⟨kind, inst, step, state, part, cause, key, name, version, text⟩).1, .bool (ownN ⟨kind, inst, step, state, part, cause, key, name, version, text⟩).2]) ∧ Below w.heap.size w w' := by
  have hc0 : w.cell? ⟨g, 0, none⟩ = some (.int .i64 kind) := row_cell hg0 rfl
  have hc1 : w.cell? ⟨g, 1, none⟩ = some (.int .i64 inst) := row_cell hg0 rfl
  have hc2 : w.cell? ⟨g, 2, none⟩ = some (.int .i64 step) := row_cell hg0 rfl
  have hc3 : w.cell? ⟨g, 3, none⟩ = some (.int .i64 state) := row_cell hg0 rfl
  have hc4 : w.cell? ⟨g, 4, none⟩ = some (.int .i64 part) := row_cell hg0 rfl
  have hc5 : w.cell? ⟨g, 5, none⟩ = some (.int .i64 cause) := row_cell hg0 rfl
  have hc6 : w.cell? ⟨g, 6, none⟩ = some (.string key) := row_cell hg0 rfl
  have hc7 : w.cell? ⟨g, 7, none⟩ = some (.string name) := row_cell hg0 rfl
  have hc8 : w.cell? ⟨g, 8, none⟩ = some (.int .i64 version) := row_cell hg0 rfl
  have hc9 : w.cell? ⟨g, 9, none⟩ = some (.string text) := row_cell hg0 rfl
  have hlt : g < w.heap.size := (Array.getElem?_eq_some_iff.1 hg0).1
  have hne : g ≠ w.heap.size := Nat.ne_of_lt hlt
  have hnew' : w.heap.size ≠ g := Ne.symm hne
  have hnew := World.new_ne w ⟨g, 0, none⟩ hc0
  clear hg0

  obtain ⟨hk1, hk2, hk3, hk4, hk5, hk6, hk7, hk8, hk9⟩ := hk
  have HN1 := Aside0.mk (beq_eq_false_iff_ne.1 hk1)
  have HN2 := Aside0.mk (beq_eq_false_iff_ne.1 hk2)
  have HN3 := Aside0.mk (beq_eq_false_iff_ne.1 hk3)
  have HN4 := Aside0.mk (beq_eq_false_iff_ne.1 hk4)
  have HN5 := Aside0.mk (beq_eq_false_iff_ne.1 hk5)
  have HN6 := Aside0.mk (beq_eq_false_iff_ne.1 hk6)
  have HN7 := Aside0.mk (beq_eq_false_iff_ne.1 hk7)
  have HN8 := Aside0.mk (beq_eq_false_iff_ne.1 hk8)
  have HN9 := Aside0.mk (beq_eq_false_iff_ne.1 hk9)
  go_enter Try.func108, Try.ntmps108
  go_wp2_with (first | (go_at_call 79; refine (between_calls _ _ _ _).mono ?_; rintro e w1 ⟨nd, rfl, rfl⟩))
  all_goals (go_returns; refine ⟨by simp [ownN, aggN, CdNote.nullD, HN1.out, HN2.out, HN3.out, HN4.out, HN5.out, HN6.out, HN7.out, HN8.out, HN9.out], ?_⟩; (repeat (with_reducible (first | exact Below.refl _ _ | exact below_new _ | apply below_set | apply Below.drew | apply pw_below_drewN))))

end Go.Proofs.Ytejaepohkcjoiaa.CdMay

/- codec: own of a note: the walk, path by path (written by wip/gen/mkown.py). -/
namespace Go.Proofs.Ytejaepohkcjoiaa.CdMay
open Go.RowKit Go.IntWalk Go.Proofs.Ytejaepohkcjoiaa.B Go.Proofs.YtejaepohkcjoiaaW.PrintWords Go.Proofs.YtejaepohkcjoiaaW.PrintLast Go.Proofs.YtejaepohkcjoiaaW.PrintMore Go.Proofs.Ytejaepohkcjoiaa.CdForm

set_option linter.unusedSimpArgs false in
set_option linter.unusedVariables false in
set_option maxHeartbeats 4000000 in
set_option maxRecDepth 100000 in
theorem own6n (w : World) (g : Nat) (kind inst step state part cause : Int) (key name : ByteArray) (version : Int) (text : ByteArray) (hg0 : w.heap[g]? = some (.cells (CdNote.cells ⟨kind, inst, step, state, part, cause, key, name, version, text⟩) 60 (0, 0)))
    (hs : key.size ≤ 9000000000000000000 ∧ name.size ≤ 9000000000000000000) (hk : kind = 6) (hb : btw step 0 7 = false) :
    Calls Try.prog 108 #[.pointer (some ⟨g, 0, none⟩)] w fun e w' => e = .returned (.tuple #[aggN (ownN ⟨kind, inst, step, state, part, cause, key, name, version, text⟩).1, .bool (ownN ⟨kind, inst, step, state, part, cause, key, name, version, text⟩).2]) ∧ Below w.heap.size w w' := by
  have hc0 : w.cell? ⟨g, 0, none⟩ = some (.int .i64 kind) := row_cell hg0 rfl
  have hc1 : w.cell? ⟨g, 1, none⟩ = some (.int .i64 inst) := row_cell hg0 rfl
  have hc2 : w.cell? ⟨g, 2, none⟩ = some (.int .i64 step) := row_cell hg0 rfl
  have hc3 : w.cell? ⟨g, 3, none⟩ = some (.int .i64 state) := row_cell hg0 rfl
  have hc4 : w.cell? ⟨g, 4, none⟩ = some (.int .i64 part) := row_cell hg0 rfl
  have hc5 : w.cell? ⟨g, 5, none⟩ = some (.int .i64 cause) := row_cell hg0 rfl
  have hc6 : w.cell? ⟨g, 6, none⟩ = some (.string key) := row_cell hg0 rfl
  have hc7 : w.cell? ⟨g, 7, none⟩ = some (.string name) := row_cell hg0 rfl
  have hc8 : w.cell? ⟨g, 8, none⟩ = some (.int .i64 version) := row_cell hg0 rfl
  have hc9 : w.cell? ⟨g, 9, none⟩ = some (.string text) := row_cell hg0 rfl
  have hlt : g < w.heap.size := (Array.getElem?_eq_some_iff.1 hg0).1
  have hne : g ≠ w.heap.size := Nat.ne_of_lt hlt
  have hnew' : w.heap.size ≠ g := Ne.symm hne
  have hnew := World.new_ne w ⟨g, 0, none⟩ hc0
  clear hg0

  obtain rfl : kind = 6 := hk
  have HB := Aside0.mk hb
  clear hb
  go_enter Try.func108, Try.ntmps108
  go_wp2_with (first | (go_at_call 79; refine (between_calls _ _ _ _).mono ?_; rintro e w1 ⟨nd, rfl, rfl⟩))
  refine start_ (n := 23) (S := fun w' => w'.cell? ⟨g, 2, none⟩ = some (.int .i64 step) ∧ w'.cell? ⟨g, 3, none⟩ = some (.int .i64 state)) (ds := []) #[false, false, false, false, false, false, false, false, false, false, false, false, false, false, false, false, false, false, false, false, false, false, false] (by kernel_rfl) rfl rfl ⟨(by go_keep), (by go_keep)⟩ (fun hHeld => ?_)
  refine pure_ (i := 0) (N := some 75) (v := ?_) (a' := ?_) #[true, false, false, false, false, false, false, false, false, false, false, false, false, false, false, false, false, false, false, false, false, false, false] rfl rfl (by kernel_rfl) (fun _ _ _ h => h) (Or.inl ⟨by rfl, ?_⟩) ?_ ?_
  rotate_left
  · intro w'
    go_simp
    with_reducible rfl
  rotate_left
  · simp only [Act.put, List.setIfInBounds_toArray, List.set_cons_zero, List.set_cons_succ, i64_w, i32_w]
    rfl
  refine pure_ (i := 1) (N := some 76) (v := ?_) (a' := ?_) #[true, true, false, false, false, false, false, false, false, false, false, false, false, false, false, false, false, false, false, false, false, false, false] rfl rfl (by kernel_rfl) (fun _ _ _ h => h) (Or.inl ⟨by rfl, ?_⟩) ?_ ?_
  rotate_left
  · intro w'
    go_simp
    with_reducible rfl
  rotate_left
  · simp only [Act.put, List.setIfInBounds_toArray, List.set_cons_zero, List.set_cons_succ, i64_w, i32_w]
    rfl
  refine pure_ (i := 2) (N := some 77) (v := ?_) (a' := ?_) #[true, true, true, false, false, false, false, false, false, false, false, false, false, false, false, false, false, false, false, false, false, false, false] rfl rfl (by kernel_rfl) (fun _ _ _ h => h) (Or.inl ⟨by rfl, ?_⟩) ?_ ?_
  rotate_left
  · intro w'
    go_simp
    with_reducible rfl
  rotate_left
  · simp only [Act.put, List.setIfInBounds_toArray, List.set_cons_zero, List.set_cons_succ, i64_w, i32_w]
    rfl
  refine pure_ (i := 4) (N := some 79) (v := ?_) (a' := ?_) #[true, true, true, false, true, false, false, false, false, false, false, false, false, false, false, false, false, false, false, false, false, false, false] rfl rfl (by kernel_rfl) (fun _ _ _ h => h) (Or.inl ⟨by rfl, ?_⟩) ?_ ?_
  rotate_left
  · intro w'
    go_simp
    with_reducible rfl
  rotate_left
  · simp only [Act.put, List.setIfInBounds_toArray, List.set_cons_zero, List.set_cons_succ, i64_w, i32_w]
    rfl
  refine pure_ (i := 5) (N := some 80) (v := ?_) (a' := ?_) #[true, true, true, false, true, true, false, false, false, false, false, false, false, false, false, false, false, false, false, false, false, false, false] rfl rfl (by kernel_rfl) (fun _ _ _ h => h) (Or.inl ⟨by rfl, ?_⟩) ?_ ?_
  rotate_left
  · intro w'
    go_simp
    with_reducible rfl
  rotate_left
  · simp only [Act.put, List.setIfInBounds_toArray, List.set_cons_zero, List.set_cons_succ, i64_w, i32_w]
    rfl
  refine pure_ (i := 6) (N := some 81) (v := ?_) (a' := ?_) #[true, true, true, false, true, true, true, false, false, false, false, false, false, false, false, false, false, false, false, false, false, false, false] rfl rfl (by kernel_rfl) (fun _ _ _ h => h) (Or.inl ⟨by rfl, ?_⟩) ?_ ?_
  rotate_left
  · intro w'
    go_simp
    with_reducible rfl
  rotate_left
  · simp only [Act.put, List.setIfInBounds_toArray, List.set_cons_zero, List.set_cons_succ, i64_w, i32_w]
    rfl
  refine pure_ (i := 9) (N := some 84) (v := ?_) (a' := ?_) #[true, true, true, false, true, true, true, false, false, true, false, false, false, false, false, false, false, false, false, false, false, false, false] rfl rfl (by kernel_rfl) (fun _ _ _ h => h) (Or.inl ⟨by rfl, ?_⟩) ?_ ?_
  rotate_left
  · intro w'
    go_simp
    with_reducible rfl
  rotate_left
  · simp only [Act.put, List.setIfInBounds_toArray, List.set_cons_zero, List.set_cons_succ, i64_w, i32_w]
    rfl
  refine pure_ (i := 10) (N := some 85) (v := ?_) (a' := ?_) #[true, true, true, false, true, true, true, false, false, true, true, false, false, false, false, false, false, false, false, false, false, false, false] rfl rfl (by kernel_rfl) (fun _ _ _ h => h) (Or.inl ⟨by rfl, ?_⟩) ?_ ?_
  rotate_left
  · intro w'
    go_simp
    with_reducible rfl
  rotate_left
  · simp only [Act.put, List.setIfInBounds_toArray, List.set_cons_zero, List.set_cons_succ, i64_w, i32_w]
    rfl
  refine pure_ (i := 11) (N := some 86) (v := ?_) (a' := ?_) #[true, true, true, false, true, true, true, false, false, true, true, true, false, false, false, false, false, false, false, false, false, false, false] rfl rfl (by kernel_rfl) (fun _ _ _ h => h) (Or.inl ⟨by rfl, ?_⟩) ?_ ?_
  rotate_left
  · intro w'
    go_simp
    with_reducible rfl
  rotate_left
  · simp only [Act.put, List.setIfInBounds_toArray, List.set_cons_zero, List.set_cons_succ, i64_w, i32_w]
    rfl
  refine take_ (i := 3) (N := some 78) (v := ?_) (a' := ?_) #[true, true, true, true, true, true, true, false, false, true, true, true, false, false, false, false, false, false, false, false, false, false, false] rfl rfl (by kernel_rfl) (fun _ _ _ h => h) (Or.inl ⟨by rfl, ?_⟩) hHeld ?_ ?_
  rotate_left
  · rintro w' ⟨s0, s1⟩
    go_simp
    with_reducible rfl
  rotate_left
  · simp only [Act.put, List.setIfInBounds_toArray, List.set_cons_zero, List.set_cons_succ, i64_w, i32_w]
    rfl
  refine take_ (i := 7) (N := some 82) (v := ?_) (a' := ?_) #[true, true, true, true, true, true, true, true, false, true, true, true, false, false, false, false, false, false, false, false, false, false, false] rfl rfl (by kernel_rfl) (fun _ _ _ h => h) (Or.inl ⟨by rfl, ?_⟩) hHeld ?_ ?_
  rotate_left
  · rintro w' ⟨s0, s1⟩
    go_simp
    with_reducible rfl
  rotate_left
  · simp only [Act.put, List.setIfInBounds_toArray, List.set_cons_zero, List.set_cons_succ, i64_w, i32_w]
    rfl
  refine pure_ (i := 8) (N := some 83) (v := ?_) (a' := ?_) #[true, true, true, true, true, true, true, true, true, true, true, true, false, false, false, false, false, false, false, false, false, false, false] rfl rfl (by kernel_rfl) (fun _ _ _ h => h) (Or.inl ⟨by rfl, ?_⟩) ?_ ?_
  rotate_left
  · intro w'
    go_simp
    with_reducible rfl
  rotate_left
  · simp only [Act.put, List.setIfInBounds_toArray, List.set_cons_zero, List.set_cons_succ, i64_w, i32_w]
    rfl
  refine take_ (i := 12) (N := some 87) (v := ?_) (a' := ?_) #[true, true, true, true, true, true, true, true, true, true, true, true, true, false, false, false, false, false, false, false, false, false, false] rfl rfl (by kernel_rfl) (fun _ _ _ h => h) (Or.inl ⟨by rfl, ?_⟩) hHeld ?_ ?_
  rotate_left
  · rintro w' ⟨s0, s1⟩
    go_simp
    with_reducible rfl
  rotate_left
  · simp only [Act.put, List.setIfInBounds_toArray, List.set_cons_zero, List.set_cons_succ, i64_w, i32_w]
    rfl
  refine one_ (i := 13) (N := some 88) #[true, true, true, true, true, true, true, true, true, true, true, true, true, true, false, false, false, false, false, false, false, false, false] rfl rfl (by kernel_rfl) (by decide) (fun K hK => ?_)
  refine goes_ Try.func81 (by kernel_rfl) rfl #[.int .i64 step] (by rfl) rfl rfl (by simp only [List.map_toArray, List.map_cons, List.map_nil]; rfl) ?_
  with_reducible refine (step_b _ _ _ HB.out).mono ?_
  rintro e w3 ⟨nd, rfl, rfl⟩
  refine ⟨_, rfl, ?_⟩
  refine hK.out _ _ ⟨hHeld.1, hHeld.2⟩ (fun hHeld => ?_)
  clear hK K
  refine norm_ (a' := ?_) ?_ ?_
  rotate_left
  · show Act.put _ (some 88) _ = _
    simp only [Act.put, List.setIfInBounds_toArray, List.set_cons_zero, List.set_cons_succ, i64_w, i32_w]
    rfl
  refine pure_ (i := 14) (N := some 89) (v := ?_) (a' := ?_) #[true, true, true, true, true, true, true, true, true, true, true, true, true, true, true, false, false, false, false, false, false, false, false] rfl rfl (by kernel_rfl) (fun _ _ _ h => h) (Or.inl ⟨by rfl, ?_⟩) ?_ ?_
  rotate_left
  · intro w'
    go_simp
    with_reducible rfl
  rotate_left
  · simp only [Act.put, List.setIfInBounds_toArray, List.set_cons_zero, List.set_cons_succ, i64_w, i32_w]
    rfl
  refine pure_ (i := 15) (N := some 90) (v := undef) (a' := ?_) #[true, true, true, true, true, true, true, true, true, true, true, true, true, true, true, true, false, false, false, false, false, false, false] rfl rfl (by kernel_rfl) (fun _ _ _ h => h) (Or.inr ⟨by rfl, rfl⟩) ?_ ?_
  rotate_left
  · simp only [Act.put, List.setIfInBounds_toArray, List.set_cons_zero, List.set_cons_succ, i64_w, i32_w]
    rfl
  refine pure_ (i := 16) (N := some 91) (v := undef) (a' := ?_) #[true, true, true, true, true, true, true, true, true, true, true, true, true, true, true, true, true, false, false, false, false, false, false] rfl rfl (by kernel_rfl) (fun _ _ _ h => h) (Or.inr ⟨by rfl, rfl⟩) ?_ ?_
  rotate_left
  · simp only [Act.put, List.setIfInBounds_toArray, List.set_cons_zero, List.set_cons_succ, i64_w, i32_w]
    rfl
  refine pure_ (i := 17) (N := some 92) (v := undef) (a' := ?_) #[true, true, true, true, true, true, true, true, true, true, true, true, true, true, true, true, true, true, false, false, false, false, false] rfl rfl (by kernel_rfl) (fun _ _ _ h => h) (Or.inr ⟨by rfl, rfl⟩) ?_ ?_
  rotate_left
  · simp only [Act.put, List.setIfInBounds_toArray, List.set_cons_zero, List.set_cons_succ, i64_w, i32_w]
    rfl
  refine pure_ (i := 18) (N := some 93) (v := undef) (a' := ?_) #[true, true, true, true, true, true, true, true, true, true, true, true, true, true, true, true, true, true, true, false, false, false, false] rfl rfl (by kernel_rfl) (fun _ _ _ h => h) (Or.inr ⟨by rfl, rfl⟩) ?_ ?_
  rotate_left
  · simp only [Act.put, List.setIfInBounds_toArray, List.set_cons_zero, List.set_cons_succ, i64_w, i32_w]
    rfl
  refine pure_ (i := 19) (N := some 94) (v := undef) (a' := ?_) #[true, true, true, true, true, true, true, true, true, true, true, true, true, true, true, true, true, true, true, true, false, false, false] rfl rfl (by kernel_rfl) (fun _ _ _ h => h) (Or.inr ⟨by rfl, rfl⟩) ?_ ?_
  rotate_left
  · simp only [Act.put, List.setIfInBounds_toArray, List.set_cons_zero, List.set_cons_succ, i64_w, i32_w]
    rfl
  refine pure_ (i := 20) (N := some 95) (v := ?_) (a' := ?_) #[true, true, true, true, true, true, true, true, true, true, true, true, true, true, true, true, true, true, true, true, true, false, false] rfl rfl (by kernel_rfl) (fun _ _ _ h => h) (Or.inl ⟨by rfl, ?_⟩) ?_ ?_
  rotate_left
  · intro w'
    go_simp
    with_reducible rfl
  rotate_left
  · simp only [Act.put, List.setIfInBounds_toArray, List.set_cons_zero, List.set_cons_succ, i64_w, i32_w]
    rfl
  refine one_ (i := 21) (N := none) #[true, true, true, true, true, true, true, true, true, true, true, true, true, true, true, true, true, true, true, true, true, true, false] rfl rfl (by kernel_rfl) (by decide) (fun K hK => ?_)
  refine skip_ (w1 := ?_) (by rfl) rfl ?_ ?_
  rotate_left
  · go_simp
    rfl
  refine hK.out _ _ ⟨((cell_far (p := ⟨w.heap.size, _, none⟩) hne _).trans ((cell_far (p := ⟨w.heap.size, _, none⟩) hne _).trans ((cell_far (p := ⟨w.heap.size, _, none⟩) hne _).trans ((cell_far (p := ⟨w.heap.size, _, none⟩) hne _).trans ((cell_far (p := ⟨w.heap.size, _, none⟩) hne _).trans ((cell_far (p := ⟨w.heap.size, _, none⟩) hne _).trans ((cell_far (p := ⟨w.heap.size, _, none⟩) hne _).trans ((cell_far (p := ⟨w.heap.size, _, none⟩) hne _).trans ((cell_far (p := ⟨w.heap.size, _, none⟩) hne _).trans ((cell_far (p := ⟨w.heap.size, _, none⟩) hne _).trans hHeld.1)))))))))), ((cell_far (p := ⟨w.heap.size, _, none⟩) hne _).trans ((cell_far (p := ⟨w.heap.size, _, none⟩) hne _).trans ((cell_far (p := ⟨w.heap.size, _, none⟩) hne _).trans ((cell_far (p := ⟨w.heap.size, _, none⟩) hne _).trans ((cell_far (p := ⟨w.heap.size, _, none⟩) hne _).trans ((cell_far (p := ⟨w.heap.size, _, none⟩) hne _).trans ((cell_far (p := ⟨w.heap.size, _, none⟩) hne _).trans ((cell_far (p := ⟨w.heap.size, _, none⟩) hne _).trans ((cell_far (p := ⟨w.heap.size, _, none⟩) hne _).trans ((cell_far (p := ⟨w.heap.size, _, none⟩) hne _).trans hHeld.2))))))))))⟩ (fun hHeld => ?_)
  clear hK K
  refine pure_ (i := 22) (N := some 3) (v := ?_) (a' := ?_) #[true, true, true, true, true, true, true, true, true, true, true, true, true, true, true, true, true, true, true, true, true, true, true] rfl rfl (by kernel_rfl) (fun _ _ _ h => h) (Or.inl ⟨by rfl, ?_⟩) ?_ ?_
  rotate_left
  · intro w'
    go_simp
    with_reducible rfl
  rotate_left
  · simp only [Act.put, List.setIfInBounds_toArray, List.set_cons_zero, List.set_cons_succ, i64_w, i32_w]
    rfl
  refine done_ (by kernel_rfl) ?_
  go_wp2_with (first | (go_at_call 79; refine (between_calls _ _ _ _).mono ?_; rintro e w1 ⟨nd, rfl, rfl⟩))
  all_goals (go_returns; refine ⟨by simp [ownN, aggN, CdNote.nullD, HB.out], ?_⟩; (repeat (with_reducible (first | exact Below.refl _ _ | exact below_new _ | apply below_set | apply Below.drew | apply pw_below_drewN))))

set_option linter.unusedSimpArgs false in
set_option linter.unusedVariables false in
set_option maxHeartbeats 4000000 in
set_option maxRecDepth 100000 in
theorem own6y (w : World) (g : Nat) (kind inst step state part cause : Int) (key name : ByteArray) (version : Int) (text : ByteArray) (hg0 : w.heap[g]? = some (.cells (CdNote.cells ⟨kind, inst, step, state, part, cause, key, name, version, text⟩) 60 (0, 0)))
    (hs : key.size ≤ 9000000000000000000 ∧ name.size ≤ 9000000000000000000) (hk : kind = 6) (hb : btw step 0 7 = true) :
    Calls Try.prog 108 #[.pointer (some ⟨g, 0, none⟩)] w fun e w' => e = .returned (.tuple #[aggN (ownN ⟨kind, inst, step, state, part, cause, key, name, version, text⟩).1, .bool (ownN ⟨kind, inst, step, state, part, cause, key, name, version, text⟩).2]) ∧ Below w.heap.size w w' := by
  have hc0 : w.cell? ⟨g, 0, none⟩ = some (.int .i64 kind) := row_cell hg0 rfl
  have hc1 : w.cell? ⟨g, 1, none⟩ = some (.int .i64 inst) := row_cell hg0 rfl
  have hc2 : w.cell? ⟨g, 2, none⟩ = some (.int .i64 step) := row_cell hg0 rfl
  have hc3 : w.cell? ⟨g, 3, none⟩ = some (.int .i64 state) := row_cell hg0 rfl
  have hc4 : w.cell? ⟨g, 4, none⟩ = some (.int .i64 part) := row_cell hg0 rfl
  have hc5 : w.cell? ⟨g, 5, none⟩ = some (.int .i64 cause) := row_cell hg0 rfl
  have hc6 : w.cell? ⟨g, 6, none⟩ = some (.string key) := row_cell hg0 rfl
  have hc7 : w.cell? ⟨g, 7, none⟩ = some (.string name) := row_cell hg0 rfl
  have hc8 : w.cell? ⟨g, 8, none⟩ = some (.int .i64 version) := row_cell hg0 rfl
  have hc9 : w.cell? ⟨g, 9, none⟩ = some (.string text) := row_cell hg0 rfl
  have hlt : g < w.heap.size := (Array.getElem?_eq_some_iff.1 hg0).1
  have hne : g ≠ w.heap.size := Nat.ne_of_lt hlt
  have hnew' : w.heap.size ≠ g := Ne.symm hne
  have hnew := World.new_ne w ⟨g, 0, none⟩ hc0
  clear hg0

  obtain rfl : kind = 6 := hk
  have HB := Aside0.mk hb
  clear hb
  go_enter Try.func108, Try.ntmps108
  go_wp2_with (first | (go_at_call 79; refine (between_calls _ _ _ _).mono ?_; rintro e w1 ⟨nd, rfl, rfl⟩))
  refine start_ (n := 23) (S := fun w' => w'.cell? ⟨g, 2, none⟩ = some (.int .i64 step) ∧ w'.cell? ⟨g, 3, none⟩ = some (.int .i64 state)) (ds := []) #[false, false, false, false, false, false, false, false, false, false, false, false, false, false, false, false, false, false, false, false, false, false, false] (by kernel_rfl) rfl rfl ⟨(by go_keep), (by go_keep)⟩ (fun hHeld => ?_)
  refine pure_ (i := 0) (N := some 75) (v := ?_) (a' := ?_) #[true, false, false, false, false, false, false, false, false, false, false, false, false, false, false, false, false, false, false, false, false, false, false] rfl rfl (by kernel_rfl) (fun _ _ _ h => h) (Or.inl ⟨by rfl, ?_⟩) ?_ ?_
  rotate_left
  · intro w'
    go_simp
    with_reducible rfl
  rotate_left
  · simp only [Act.put, List.setIfInBounds_toArray, List.set_cons_zero, List.set_cons_succ, i64_w, i32_w]
    rfl
  refine pure_ (i := 1) (N := some 76) (v := ?_) (a' := ?_) #[true, true, false, false, false, false, false, false, false, false, false, false, false, false, false, false, false, false, false, false, false, false, false] rfl rfl (by kernel_rfl) (fun _ _ _ h => h) (Or.inl ⟨by rfl, ?_⟩) ?_ ?_
  rotate_left
  · intro w'
    go_simp
    with_reducible rfl
  rotate_left
  · simp only [Act.put, List.setIfInBounds_toArray, List.set_cons_zero, List.set_cons_succ, i64_w, i32_w]
    rfl
  refine pure_ (i := 2) (N := some 77) (v := ?_) (a' := ?_) #[true, true, true, false, false, false, false, false, false, false, false, false, false, false, false, false, false, false, false, false, false, false, false] rfl rfl (by kernel_rfl) (fun _ _ _ h => h) (Or.inl ⟨by rfl, ?_⟩) ?_ ?_
  rotate_left
  · intro w'
    go_simp
    with_reducible rfl
  rotate_left
  · simp only [Act.put, List.setIfInBounds_toArray, List.set_cons_zero, List.set_cons_succ, i64_w, i32_w]
    rfl
  refine pure_ (i := 4) (N := some 79) (v := ?_) (a' := ?_) #[true, true, true, false, true, false, false, false, false, false, false, false, false, false, false, false, false, false, false, false, false, false, false] rfl rfl (by kernel_rfl) (fun _ _ _ h => h) (Or.inl ⟨by rfl, ?_⟩) ?_ ?_
  rotate_left
  · intro w'
    go_simp
    with_reducible rfl
  rotate_left
  · simp only [Act.put, List.setIfInBounds_toArray, List.set_cons_zero, List.set_cons_succ, i64_w, i32_w]
    rfl
  refine pure_ (i := 5) (N := some 80) (v := ?_) (a' := ?_) #[true, true, true, false, true, true, false, false, false, false, false, false, false, false, false, false, false, false, false, false, false, false, false] rfl rfl (by kernel_rfl) (fun _ _ _ h => h) (Or.inl ⟨by rfl, ?_⟩) ?_ ?_
  rotate_left
  · intro w'
    go_simp
    with_reducible rfl
  rotate_left
  · simp only [Act.put, List.setIfInBounds_toArray, List.set_cons_zero, List.set_cons_succ, i64_w, i32_w]
    rfl
  refine pure_ (i := 6) (N := some 81) (v := ?_) (a' := ?_) #[true, true, true, false, true, true, true, false, false, false, false, false, false, false, false, false, false, false, false, false, false, false, false] rfl rfl (by kernel_rfl) (fun _ _ _ h => h) (Or.inl ⟨by rfl, ?_⟩) ?_ ?_
  rotate_left
  · intro w'
    go_simp
    with_reducible rfl
  rotate_left
  · simp only [Act.put, List.setIfInBounds_toArray, List.set_cons_zero, List.set_cons_succ, i64_w, i32_w]
    rfl
  refine pure_ (i := 9) (N := some 84) (v := ?_) (a' := ?_) #[true, true, true, false, true, true, true, false, false, true, false, false, false, false, false, false, false, false, false, false, false, false, false] rfl rfl (by kernel_rfl) (fun _ _ _ h => h) (Or.inl ⟨by rfl, ?_⟩) ?_ ?_
  rotate_left
  · intro w'
    go_simp
    with_reducible rfl
  rotate_left
  · simp only [Act.put, List.setIfInBounds_toArray, List.set_cons_zero, List.set_cons_succ, i64_w, i32_w]
    rfl
  refine pure_ (i := 10) (N := some 85) (v := ?_) (a' := ?_) #[true, true, true, false, true, true, true, false, false, true, true, false, false, false, false, false, false, false, false, false, false, false, false] rfl rfl (by kernel_rfl) (fun _ _ _ h => h) (Or.inl ⟨by rfl, ?_⟩) ?_ ?_
  rotate_left
  · intro w'
    go_simp
    with_reducible rfl
  rotate_left
  · simp only [Act.put, List.setIfInBounds_toArray, List.set_cons_zero, List.set_cons_succ, i64_w, i32_w]
    rfl
  refine pure_ (i := 11) (N := some 86) (v := ?_) (a' := ?_) #[true, true, true, false, true, true, true, false, false, true, true, true, false, false, false, false, false, false, false, false, false, false, false] rfl rfl (by kernel_rfl) (fun _ _ _ h => h) (Or.inl ⟨by rfl, ?_⟩) ?_ ?_
  rotate_left
  · intro w'
    go_simp
    with_reducible rfl
  rotate_left
  · simp only [Act.put, List.setIfInBounds_toArray, List.set_cons_zero, List.set_cons_succ, i64_w, i32_w]
    rfl
  refine take_ (i := 3) (N := some 78) (v := ?_) (a' := ?_) #[true, true, true, true, true, true, true, false, false, true, true, true, false, false, false, false, false, false, false, false, false, false, false] rfl rfl (by kernel_rfl) (fun _ _ _ h => h) (Or.inl ⟨by rfl, ?_⟩) hHeld ?_ ?_
  rotate_left
  · rintro w' ⟨s0, s1⟩
    go_simp
    with_reducible rfl
  rotate_left
  · simp only [Act.put, List.setIfInBounds_toArray, List.set_cons_zero, List.set_cons_succ, i64_w, i32_w]
    rfl
  refine take_ (i := 7) (N := some 82) (v := ?_) (a' := ?_) #[true, true, true, true, true, true, true, true, false, true, true, true, false, false, false, false, false, false, false, false, false, false, false] rfl rfl (by kernel_rfl) (fun _ _ _ h => h) (Or.inl ⟨by rfl, ?_⟩) hHeld ?_ ?_
  rotate_left
  · rintro w' ⟨s0, s1⟩
    go_simp
    with_reducible rfl
  rotate_left
  · simp only [Act.put, List.setIfInBounds_toArray, List.set_cons_zero, List.set_cons_succ, i64_w, i32_w]
    rfl
  refine pure_ (i := 8) (N := some 83) (v := ?_) (a' := ?_) #[true, true, true, true, true, true, true, true, true, true, true, true, false, false, false, false, false, false, false, false, false, false, false] rfl rfl (by kernel_rfl) (fun _ _ _ h => h) (Or.inl ⟨by rfl, ?_⟩) ?_ ?_
  rotate_left
  · intro w'
    go_simp
    with_reducible rfl
  rotate_left
  · simp only [Act.put, List.setIfInBounds_toArray, List.set_cons_zero, List.set_cons_succ, i64_w, i32_w]
    rfl
  refine take_ (i := 12) (N := some 87) (v := ?_) (a' := ?_) #[true, true, true, true, true, true, true, true, true, true, true, true, true, false, false, false, false, false, false, false, false, false, false] rfl rfl (by kernel_rfl) (fun _ _ _ h => h) (Or.inl ⟨by rfl, ?_⟩) hHeld ?_ ?_
  rotate_left
  · rintro w' ⟨s0, s1⟩
    go_simp
    with_reducible rfl
  rotate_left
  · simp only [Act.put, List.setIfInBounds_toArray, List.set_cons_zero, List.set_cons_succ, i64_w, i32_w]
    rfl
  refine one_ (i := 13) (N := some 88) #[true, true, true, true, true, true, true, true, true, true, true, true, true, true, false, false, false, false, false, false, false, false, false] rfl rfl (by kernel_rfl) (by decide) (fun K hK => ?_)
  refine goes_ Try.func81 (by kernel_rfl) rfl #[.int .i64 step] (by rfl) rfl rfl (by simp only [List.map_toArray, List.map_cons, List.map_nil]; rfl) ?_
  with_reducible refine (step_b _ _ _ HB.out).mono ?_
  rintro e w3 ⟨nd, rfl, rfl⟩
  refine ⟨_, rfl, ?_⟩
  refine hK.out _ _ ⟨hHeld.1, hHeld.2⟩ (fun hHeld => ?_)
  clear hK K
  refine norm_ (a' := ?_) ?_ ?_
  rotate_left
  · show Act.put _ (some 88) _ = _
    simp only [Act.put, List.setIfInBounds_toArray, List.set_cons_zero, List.set_cons_succ, i64_w, i32_w]
    rfl
  refine pure_ (i := 14) (N := some 89) (v := ?_) (a' := ?_) #[true, true, true, true, true, true, true, true, true, true, true, true, true, true, true, false, false, false, false, false, false, false, false] rfl rfl (by kernel_rfl) (fun _ _ _ h => h) (Or.inl ⟨by rfl, ?_⟩) ?_ ?_
  rotate_left
  · intro w'
    go_simp
    with_reducible rfl
  rotate_left
  · simp only [Act.put, List.setIfInBounds_toArray, List.set_cons_zero, List.set_cons_succ, i64_w, i32_w]
    rfl
  refine pure_ (i := 15) (N := some 90) (v := ?_) (a' := ?_) #[true, true, true, true, true, true, true, true, true, true, true, true, true, true, true, true, false, false, false, false, false, false, false] rfl rfl (by kernel_rfl) (fun _ _ _ h => h) (Or.inl ⟨by rfl, ?_⟩) ?_ ?_
  rotate_left
  · intro w'
    go_simp
    with_reducible rfl
  rotate_left
  · simp only [Act.put, List.setIfInBounds_toArray, List.set_cons_zero, List.set_cons_succ, i64_w, i32_w]
    rfl
  refine pure_ (i := 16) (N := some 91) (v := ?_) (a' := ?_) #[true, true, true, true, true, true, true, true, true, true, true, true, true, true, true, true, true, false, false, false, false, false, false] rfl rfl (by kernel_rfl) (fun _ _ _ h => h) (Or.inl ⟨by rfl, ?_⟩) ?_ ?_
  rotate_left
  · intro w'
    go_simp
    with_reducible rfl
  rotate_left
  · simp only [Act.put, List.setIfInBounds_toArray, List.set_cons_zero, List.set_cons_succ, i64_w, i32_w]
    rfl
  refine pure_ (i := 17) (N := some 92) (v := ?_) (a' := ?_) #[true, true, true, true, true, true, true, true, true, true, true, true, true, true, true, true, true, true, false, false, false, false, false] rfl rfl (by kernel_rfl) (fun _ _ _ h => h) (Or.inl ⟨by rfl, ?_⟩) ?_ ?_
  rotate_left
  · intro w'
    go_simp
    with_reducible rfl
  rotate_left
  · simp only [Act.put, List.setIfInBounds_toArray, List.set_cons_zero, List.set_cons_succ, i64_w, i32_w]
    rfl
  refine take_ (i := 18) (N := some 93) (v := ?_) (a' := ?_) #[true, true, true, true, true, true, true, true, true, true, true, true, true, true, true, true, true, true, true, false, false, false, false] rfl rfl (by kernel_rfl) (fun _ _ _ h => h) (Or.inl ⟨by rfl, ?_⟩) hHeld ?_ ?_
  rotate_left
  · rintro w' ⟨s0, s1⟩
    go_simp
    with_reducible rfl
  rotate_left
  · simp only [Act.put, List.setIfInBounds_toArray, List.set_cons_zero, List.set_cons_succ, i64_w, i32_w]
    rfl
  refine one_ (i := 19) (N := some 94) #[true, true, true, true, true, true, true, true, true, true, true, true, true, true, true, true, true, true, true, true, false, false, false] rfl rfl (by kernel_rfl) (by decide) (fun K hK => ?_)
  refine goes_ Try.func79 (by kernel_rfl) rfl #[.int .i64 state, .int .i64 2, .int .i64 5] (by rfl) rfl rfl (by simp only [List.map_toArray, List.map_cons, List.map_nil]; rfl) ?_
  with_reducible refine (between_b _ _ _ _ _ rfl).mono ?_
  rintro e w3 ⟨nd, rfl, rfl⟩
  refine ⟨_, rfl, ?_⟩
  refine hK.out _ _ ⟨hHeld.1, hHeld.2⟩ (fun hHeld => ?_)
  clear hK K
  refine norm_ (a' := ?_) ?_ ?_
  rotate_left
  · show Act.put _ (some 94) _ = _
    simp only [Act.put, List.setIfInBounds_toArray, List.set_cons_zero, List.set_cons_succ, i64_w, i32_w]
    rfl
  refine pure_ (i := 20) (N := some 95) (v := ?_) (a' := ?_) #[true, true, true, true, true, true, true, true, true, true, true, true, true, true, true, true, true, true, true, true, true, false, false] rfl rfl (by kernel_rfl) (fun _ _ _ h => h) (Or.inl ⟨by rfl, ?_⟩) ?_ ?_
  rotate_left
  · intro w'
    go_simp
    with_reducible rfl
  rotate_left
  · simp only [Act.put, List.setIfInBounds_toArray, List.set_cons_zero, List.set_cons_succ, i64_w, i32_w]
    rfl
  refine one_ (i := 21) (N := none) #[true, true, true, true, true, true, true, true, true, true, true, true, true, true, true, true, true, true, true, true, true, true, false] rfl rfl (by kernel_rfl) (by decide) (fun K hK => ?_)
  refine skip_ (w1 := ?_) (by rfl) rfl ?_ ?_
  rotate_left
  · go_simp
    rfl
  refine hK.out _ _ ⟨((cell_far (p := ⟨w.heap.size, _, none⟩) hne _).trans ((cell_far (p := ⟨w.heap.size, _, none⟩) hne _).trans ((cell_far (p := ⟨w.heap.size, _, none⟩) hne _).trans ((cell_far (p := ⟨w.heap.size, _, none⟩) hne _).trans ((cell_far (p := ⟨w.heap.size, _, none⟩) hne _).trans ((cell_far (p := ⟨w.heap.size, _, none⟩) hne _).trans ((cell_far (p := ⟨w.heap.size, _, none⟩) hne _).trans ((cell_far (p := ⟨w.heap.size, _, none⟩) hne _).trans ((cell_far (p := ⟨w.heap.size, _, none⟩) hne _).trans ((cell_far (p := ⟨w.heap.size, _, none⟩) hne _).trans hHeld.1)))))))))), ((cell_far (p := ⟨w.heap.size, _, none⟩) hne _).trans ((cell_far (p := ⟨w.heap.size, _, none⟩) hne _).trans ((cell_far (p := ⟨w.heap.size, _, none⟩) hne _).trans ((cell_far (p := ⟨w.heap.size, _, none⟩) hne _).trans ((cell_far (p := ⟨w.heap.size, _, none⟩) hne _).trans ((cell_far (p := ⟨w.heap.size, _, none⟩) hne _).trans ((cell_far (p := ⟨w.heap.size, _, none⟩) hne _).trans ((cell_far (p := ⟨w.heap.size, _, none⟩) hne _).trans ((cell_far (p := ⟨w.heap.size, _, none⟩) hne _).trans ((cell_far (p := ⟨w.heap.size, _, none⟩) hne _).trans hHeld.2))))))))))⟩ (fun hHeld => ?_)
  clear hK K
  refine pure_ (i := 22) (N := some 3) (v := ?_) (a' := ?_) #[true, true, true, true, true, true, true, true, true, true, true, true, true, true, true, true, true, true, true, true, true, true, true] rfl rfl (by kernel_rfl) (fun _ _ _ h => h) (Or.inl ⟨by rfl, ?_⟩) ?_ ?_
  rotate_left
  · intro w'
    go_simp
    with_reducible rfl
  rotate_left
  · simp only [Act.put, List.setIfInBounds_toArray, List.set_cons_zero, List.set_cons_succ, i64_w, i32_w]
    rfl
  refine done_ (by kernel_rfl) ?_
  go_wp2_with (first | (go_at_call 79; refine (between_calls _ _ _ _).mono ?_; rintro e w1 ⟨nd, rfl, rfl⟩))
  all_goals (go_returns; refine ⟨by simp [ownN, aggN, CdNote.nullD, HB.out], ?_⟩; (repeat (with_reducible (first | exact Below.refl _ _ | exact below_new _ | apply below_set | apply Below.drew | apply pw_below_drewN))))

set_option linter.unusedSimpArgs false in
set_option linter.unusedVariables false in
set_option maxHeartbeats 4000000 in
set_option maxRecDepth 100000 in
theorem own9a (w : World) (g : Nat) (kind inst step state part cause : Int) (key name : ByteArray) (version : Int) (text : ByteArray) (hg0 : w.heap[g]? = some (.cells (CdNote.cells ⟨kind, inst, step, state, part, cause, key, name, version, text⟩) 60 (0, 0)))
    (hs : key.size ≤ 9000000000000000000 ∧ name.size ≤ 9000000000000000000) (hk : kind = 9) (h1 : state = 4) (h2 : cause = 0) :
    Calls Try.prog 108 #[.pointer (some ⟨g, 0, none⟩)] w fun e w' => e = .returned (.tuple #[aggN (ownN ⟨kind, inst, step, state, part, cause, key, name, version, text⟩).1, .bool (ownN ⟨kind, inst, step, state, part, cause, key, name, version, text⟩).2]) ∧ Below w.heap.size w w' := by
  have hc0 : w.cell? ⟨g, 0, none⟩ = some (.int .i64 kind) := row_cell hg0 rfl
  have hc1 : w.cell? ⟨g, 1, none⟩ = some (.int .i64 inst) := row_cell hg0 rfl
  have hc2 : w.cell? ⟨g, 2, none⟩ = some (.int .i64 step) := row_cell hg0 rfl
  have hc3 : w.cell? ⟨g, 3, none⟩ = some (.int .i64 state) := row_cell hg0 rfl
  have hc4 : w.cell? ⟨g, 4, none⟩ = some (.int .i64 part) := row_cell hg0 rfl
  have hc5 : w.cell? ⟨g, 5, none⟩ = some (.int .i64 cause) := row_cell hg0 rfl
  have hc6 : w.cell? ⟨g, 6, none⟩ = some (.string key) := row_cell hg0 rfl
  have hc7 : w.cell? ⟨g, 7, none⟩ = some (.string name) := row_cell hg0 rfl
  have hc8 : w.cell? ⟨g, 8, none⟩ = some (.int .i64 version) := row_cell hg0 rfl
  have hc9 : w.cell? ⟨g, 9, none⟩ = some (.string text) := row_cell hg0 rfl
  have hlt : g < w.heap.size := (Array.getElem?_eq_some_iff.1 hg0).1
  have hne : g ≠ w.heap.size := Nat.ne_of_lt hlt
  have hnew' : w.heap.size ≠ g := Ne.symm hne
  have hnew := World.new_ne w ⟨g, 0, none⟩ hc0
  clear hg0

  obtain rfl : kind = 9 := hk
  subst h1 h2
  go_enter Try.func108, Try.ntmps108
  go_wp2_with (first | (go_at_call 79; refine (between_calls _ _ _ _).mono ?_; rintro e w1 ⟨nd, rfl, rfl⟩))
  refine start_ (n := 26) (S := fun w' => w'.cell? ⟨g, 3, none⟩ = some (.int .i64 4) ∧ w'.cell? ⟨g, 5, none⟩ = some (.int .i64 0)) (ds := []) #[false, false, false, false, false, false, false, false, false, false, false, false, false, false, false, false, false, false, false, false, false, false, false, false, false, false] (by kernel_rfl) rfl rfl ⟨(by go_keep), (by go_keep)⟩ (fun hHeld => ?_)
  refine pure_ (i := 0) (N := some 122) (v := ?_) (a' := ?_) #[true, false, false, false, false, false, false, false, false, false, false, false, false, false, false, false, false, false, false, false, false, false, false, false, false, false] rfl rfl (by kernel_rfl) (fun _ _ _ h => h) (Or.inl ⟨by rfl, ?_⟩) ?_ ?_
  rotate_left
  · intro w'
    go_simp
    with_reducible rfl
  rotate_left
  · simp only [Act.put, List.setIfInBounds_toArray, List.set_cons_zero, List.set_cons_succ, i64_w, i32_w]
    rfl
  refine pure_ (i := 1) (N := some 123) (v := ?_) (a' := ?_) #[true, true, false, false, false, false, false, false, false, false, false, false, false, false, false, false, false, false, false, false, false, false, false, false, false, false] rfl rfl (by kernel_rfl) (fun _ _ _ h => h) (Or.inl ⟨by rfl, ?_⟩) ?_ ?_
  rotate_left
  · intro w'
    go_simp
    with_reducible rfl
  rotate_left
  · simp only [Act.put, List.setIfInBounds_toArray, List.set_cons_zero, List.set_cons_succ, i64_w, i32_w]
    rfl
  refine pure_ (i := 2) (N := some 124) (v := ?_) (a' := ?_) #[true, true, true, false, false, false, false, false, false, false, false, false, false, false, false, false, false, false, false, false, false, false, false, false, false, false] rfl rfl (by kernel_rfl) (fun _ _ _ h => h) (Or.inl ⟨by rfl, ?_⟩) ?_ ?_
  rotate_left
  · intro w'
    go_simp
    with_reducible rfl
  rotate_left
  · simp only [Act.put, List.setIfInBounds_toArray, List.set_cons_zero, List.set_cons_succ, i64_w, i32_w]
    rfl
  refine pure_ (i := 4) (N := some 126) (v := ?_) (a' := ?_) #[true, true, true, false, true, false, false, false, false, false, false, false, false, false, false, false, false, false, false, false, false, false, false, false, false, false] rfl rfl (by kernel_rfl) (fun _ _ _ h => h) (Or.inl ⟨by rfl, ?_⟩) ?_ ?_
  rotate_left
  · intro w'
    go_simp
    with_reducible rfl
  rotate_left
  · simp only [Act.put, List.setIfInBounds_toArray, List.set_cons_zero, List.set_cons_succ, i64_w, i32_w]
    rfl
  refine pure_ (i := 5) (N := some 127) (v := ?_) (a' := ?_) #[true, true, true, false, true, true, false, false, false, false, false, false, false, false, false, false, false, false, false, false, false, false, false, false, false, false] rfl rfl (by kernel_rfl) (fun _ _ _ h => h) (Or.inl ⟨by rfl, ?_⟩) ?_ ?_
  rotate_left
  · intro w'
    go_simp
    with_reducible rfl
  rotate_left
  · simp only [Act.put, List.setIfInBounds_toArray, List.set_cons_zero, List.set_cons_succ, i64_w, i32_w]
    rfl
  refine pure_ (i := 6) (N := some 128) (v := ?_) (a' := ?_) #[true, true, true, false, true, true, true, false, false, false, false, false, false, false, false, false, false, false, false, false, false, false, false, false, false, false] rfl rfl (by kernel_rfl) (fun _ _ _ h => h) (Or.inl ⟨by rfl, ?_⟩) ?_ ?_
  rotate_left
  · intro w'
    go_simp
    with_reducible rfl
  rotate_left
  · simp only [Act.put, List.setIfInBounds_toArray, List.set_cons_zero, List.set_cons_succ, i64_w, i32_w]
    rfl
  refine pure_ (i := 9) (N := some 131) (v := ?_) (a' := ?_) #[true, true, true, false, true, true, true, false, false, true, false, false, false, false, false, false, false, false, false, false, false, false, false, false, false, false] rfl rfl (by kernel_rfl) (fun _ _ _ h => h) (Or.inl ⟨by rfl, ?_⟩) ?_ ?_
  rotate_left
  · intro w'
    go_simp
    with_reducible rfl
  rotate_left
  · simp only [Act.put, List.setIfInBounds_toArray, List.set_cons_zero, List.set_cons_succ, i64_w, i32_w]
    rfl
  refine pure_ (i := 10) (N := some 132) (v := ?_) (a' := ?_) #[true, true, true, false, true, true, true, false, false, true, true, false, false, false, false, false, false, false, false, false, false, false, false, false, false, false] rfl rfl (by kernel_rfl) (fun _ _ _ h => h) (Or.inl ⟨by rfl, ?_⟩) ?_ ?_
  rotate_left
  · intro w'
    go_simp
    with_reducible rfl
  rotate_left
  · simp only [Act.put, List.setIfInBounds_toArray, List.set_cons_zero, List.set_cons_succ, i64_w, i32_w]
    rfl
  refine pure_ (i := 11) (N := some 133) (v := undef) (a' := ?_) #[true, true, true, false, true, true, true, false, false, true, true, true, false, false, false, false, false, false, false, false, false, false, false, false, false, false] rfl rfl (by kernel_rfl) (fun _ _ _ h => h) (Or.inr ⟨by rfl, rfl⟩) ?_ ?_
  rotate_left
  · simp only [Act.put, List.setIfInBounds_toArray, List.set_cons_zero, List.set_cons_succ, i64_w, i32_w]
    rfl
  refine pure_ (i := 12) (N := some 134) (v := undef) (a' := ?_) #[true, true, true, false, true, true, true, false, false, true, true, true, true, false, false, false, false, false, false, false, false, false, false, false, false, false] rfl rfl (by kernel_rfl) (fun _ _ _ h => h) (Or.inr ⟨by rfl, rfl⟩) ?_ ?_
  rotate_left
  · simp only [Act.put, List.setIfInBounds_toArray, List.set_cons_zero, List.set_cons_succ, i64_w, i32_w]
    rfl
  refine pure_ (i := 13) (N := some 135) (v := undef) (a' := ?_) #[true, true, true, false, true, true, true, false, false, true, true, true, true, true, false, false, false, false, false, false, false, false, false, false, false, false] rfl rfl (by kernel_rfl) (fun _ _ _ h => h) (Or.inr ⟨by rfl, rfl⟩) ?_ ?_
  rotate_left
  · simp only [Act.put, List.setIfInBounds_toArray, List.set_cons_zero, List.set_cons_succ, i64_w, i32_w]
    rfl
  refine pure_ (i := 14) (N := some 136) (v := undef) (a' := ?_) #[true, true, true, false, true, true, true, false, false, true, true, true, true, true, true, false, false, false, false, false, false, false, false, false, false, false] rfl rfl (by kernel_rfl) (fun _ _ _ h => h) (Or.inr ⟨by rfl, rfl⟩) ?_ ?_
  rotate_left
  · simp only [Act.put, List.setIfInBounds_toArray, List.set_cons_zero, List.set_cons_succ, i64_w, i32_w]
    rfl
  refine pure_ (i := 15) (N := some 137) (v := undef) (a' := ?_) #[true, true, true, false, true, true, true, false, false, true, true, true, true, true, true, true, false, false, false, false, false, false, false, false, false, false] rfl rfl (by kernel_rfl) (fun _ _ _ h => h) (Or.inr ⟨by rfl, rfl⟩) ?_ ?_
  rotate_left
  · simp only [Act.put, List.setIfInBounds_toArray, List.set_cons_zero, List.set_cons_succ, i64_w, i32_w]
    rfl
  refine pure_ (i := 16) (N := some 138) (v := undef) (a' := ?_) #[true, true, true, false, true, true, true, false, false, true, true, true, true, true, true, true, true, false, false, false, false, false, false, false, false, false] rfl rfl (by kernel_rfl) (fun _ _ _ h => h) (Or.inr ⟨by rfl, rfl⟩) ?_ ?_
  rotate_left
  · simp only [Act.put, List.setIfInBounds_toArray, List.set_cons_zero, List.set_cons_succ, i64_w, i32_w]
    rfl
  refine pure_ (i := 17) (N := some 139) (v := undef) (a' := ?_) #[true, true, true, false, true, true, true, false, false, true, true, true, true, true, true, true, true, true, false, false, false, false, false, false, false, false] rfl rfl (by kernel_rfl) (fun _ _ _ h => h) (Or.inr ⟨by rfl, rfl⟩) ?_ ?_
  rotate_left
  · simp only [Act.put, List.setIfInBounds_toArray, List.set_cons_zero, List.set_cons_succ, i64_w, i32_w]
    rfl
  refine pure_ (i := 18) (N := some 140) (v := undef) (a' := ?_) #[true, true, true, false, true, true, true, false, false, true, true, true, true, true, true, true, true, true, true, false, false, false, false, false, false, false] rfl rfl (by kernel_rfl) (fun _ _ _ h => h) (Or.inr ⟨by rfl, rfl⟩) ?_ ?_
  rotate_left
  · simp only [Act.put, List.setIfInBounds_toArray, List.set_cons_zero, List.set_cons_succ, i64_w, i32_w]
    rfl
  refine pure_ (i := 19) (N := some 141) (v := undef) (a' := ?_) #[true, true, true, false, true, true, true, false, false, true, true, true, true, true, true, true, true, true, true, true, false, false, false, false, false, false] rfl rfl (by kernel_rfl) (fun _ _ _ h => h) (Or.inr ⟨by rfl, rfl⟩) ?_ ?_
  rotate_left
  · simp only [Act.put, List.setIfInBounds_toArray, List.set_cons_zero, List.set_cons_succ, i64_w, i32_w]
    rfl
  refine pure_ (i := 20) (N := some 142) (v := undef) (a' := ?_) #[true, true, true, false, true, true, true, false, false, true, true, true, true, true, true, true, true, true, true, true, true, false, false, false, false, false] rfl rfl (by kernel_rfl) (fun _ _ _ h => h) (Or.inr ⟨by rfl, rfl⟩) ?_ ?_
  rotate_left
  · simp only [Act.put, List.setIfInBounds_toArray, List.set_cons_zero, List.set_cons_succ, i64_w, i32_w]
    rfl
  refine pure_ (i := 21) (N := some 143) (v := undef) (a' := ?_) #[true, true, true, false, true, true, true, false, false, true, true, true, true, true, true, true, true, true, true, true, true, true, false, false, false, false] rfl rfl (by kernel_rfl) (fun _ _ _ h => h) (Or.inr ⟨by rfl, rfl⟩) ?_ ?_
  rotate_left
  · simp only [Act.put, List.setIfInBounds_toArray, List.set_cons_zero, List.set_cons_succ, i64_w, i32_w]
    rfl
  refine pure_ (i := 22) (N := some 144) (v := undef) (a' := ?_) #[true, true, true, false, true, true, true, false, false, true, true, true, true, true, true, true, true, true, true, true, true, true, true, false, false, false] rfl rfl (by kernel_rfl) (fun _ _ _ h => h) (Or.inr ⟨by rfl, rfl⟩) ?_ ?_
  rotate_left
  · simp only [Act.put, List.setIfInBounds_toArray, List.set_cons_zero, List.set_cons_succ, i64_w, i32_w]
    rfl
  refine pure_ (i := 23) (N := some 145) (v := ?_) (a' := ?_) #[true, true, true, false, true, true, true, false, false, true, true, true, true, true, true, true, true, true, true, true, true, true, true, true, false, false] rfl rfl (by kernel_rfl) (fun _ _ _ h => h) (Or.inl ⟨by rfl, ?_⟩) ?_ ?_
  rotate_left
  · intro w'
    go_simp
    with_reducible rfl
  rotate_left
  · simp only [Act.put, List.setIfInBounds_toArray, List.set_cons_zero, List.set_cons_succ, i64_w, i32_w]
    rfl
  refine take_ (i := 3) (N := some 125) (v := ?_) (a' := ?_) #[true, true, true, true, true, true, true, false, false, true, true, true, true, true, true, true, true, true, true, true, true, true, true, true, false, false] rfl rfl (by kernel_rfl) (fun _ _ _ h => h) (Or.inl ⟨by rfl, ?_⟩) hHeld ?_ ?_
  rotate_left
  · rintro w' ⟨s0, s1⟩
    go_simp
    with_reducible rfl
  rotate_left
  · simp only [Act.put, List.setIfInBounds_toArray, List.set_cons_zero, List.set_cons_succ, i64_w, i32_w]
    rfl
  refine take_ (i := 7) (N := some 129) (v := ?_) (a' := ?_) #[true, true, true, true, true, true, true, true, false, true, true, true, true, true, true, true, true, true, true, true, true, true, true, true, false, false] rfl rfl (by kernel_rfl) (fun _ _ _ h => h) (Or.inl ⟨by rfl, ?_⟩) hHeld ?_ ?_
  rotate_left
  · rintro w' ⟨s0, s1⟩
    go_simp
    with_reducible rfl
  rotate_left
  · simp only [Act.put, List.setIfInBounds_toArray, List.set_cons_zero, List.set_cons_succ, i64_w, i32_w]
    rfl
  refine pure_ (i := 8) (N := some 130) (v := ?_) (a' := ?_) #[true, true, true, true, true, true, true, true, true, true, true, true, true, true, true, true, true, true, true, true, true, true, true, true, false, false] rfl rfl (by kernel_rfl) (fun _ _ _ h => h) (Or.inl ⟨by rfl, ?_⟩) ?_ ?_
  rotate_left
  · intro w'
    go_simp
    with_reducible rfl
  rotate_left
  · simp only [Act.put, List.setIfInBounds_toArray, List.set_cons_zero, List.set_cons_succ, i64_w, i32_w]
    rfl
  refine one_ (i := 24) (N := none) #[true, true, true, true, true, true, true, true, true, true, true, true, true, true, true, true, true, true, true, true, true, true, true, true, true, false] rfl rfl (by kernel_rfl) (by decide) (fun K hK => ?_)
  refine skip_ (w1 := ?_) (by rfl) rfl ?_ ?_
  rotate_left
  · go_simp
    rfl
  refine hK.out _ _ ⟨(by go_keep), (by go_keep)⟩ (fun hHeld => ?_)
  clear hK K
  refine pure_ (i := 25) (N := some 3) (v := ?_) (a' := ?_) #[true, true, true, true, true, true, true, true, true, true, true, true, true, true, true, true, true, true, true, true, true, true, true, true, true, true] rfl rfl (by kernel_rfl) (fun _ _ _ h => h) (Or.inl ⟨by rfl, ?_⟩) ?_ ?_
  rotate_left
  · intro w'
    go_simp
    with_reducible rfl
  rotate_left
  · simp only [Act.put, List.setIfInBounds_toArray, List.set_cons_zero, List.set_cons_succ, i64_w, i32_w]
    rfl
  refine done_ (by kernel_rfl) ?_
  go_wp2_with (first | (go_at_call 79; refine (between_calls _ _ _ _).mono ?_; rintro e w1 ⟨nd, rfl, rfl⟩))
  all_goals (go_returns; refine ⟨by simp [ownN, aggN, CdNote.nullD], ?_⟩; (repeat (with_reducible (first | exact Below.refl _ _ | exact below_new _ | apply below_set | apply Below.drew | apply pw_below_drewN))))

set_option linter.unusedSimpArgs false in
set_option linter.unusedVariables false in
set_option maxHeartbeats 4000000 in
set_option maxRecDepth 100000 in
theorem own9b (w : World) (g : Nat) (kind inst step state part cause : Int) (key name : ByteArray) (version : Int) (text : ByteArray) (hg0 : w.heap[g]? = some (.cells (CdNote.cells ⟨kind, inst, step, state, part, cause, key, name, version, text⟩) 60 (0, 0)))
    (hs : key.size ≤ 9000000000000000000 ∧ name.size ≤ 9000000000000000000) (hk : kind = 9) (h1 : state = 4) (h2 : (cause == 0) = false) :
    Calls Try.prog 108 #[.pointer (some ⟨g, 0, none⟩)] w fun e w' => e = .returned (.tuple #[aggN (ownN ⟨kind, inst, step, state, part, cause, key, name, version, text⟩).1, .bool (ownN ⟨kind, inst, step, state, part, cause, key, name, version, text⟩).2]) ∧ Below w.heap.size w w' := by
  have hc0 : w.cell? ⟨g, 0, none⟩ = some (.int .i64 kind) := row_cell hg0 rfl
  have hc1 : w.cell? ⟨g, 1, none⟩ = some (.int .i64 inst) := row_cell hg0 rfl
  have hc2 : w.cell? ⟨g, 2, none⟩ = some (.int .i64 step) := row_cell hg0 rfl
  have hc3 : w.cell? ⟨g, 3, none⟩ = some (.int .i64 state) := row_cell hg0 rfl
  have hc4 : w.cell? ⟨g, 4, none⟩ = some (.int .i64 part) := row_cell hg0 rfl
  have hc5 : w.cell? ⟨g, 5, none⟩ = some (.int .i64 cause) := row_cell hg0 rfl
  have hc6 : w.cell? ⟨g, 6, none⟩ = some (.string key) := row_cell hg0 rfl
  have hc7 : w.cell? ⟨g, 7, none⟩ = some (.string name) := row_cell hg0 rfl
  have hc8 : w.cell? ⟨g, 8, none⟩ = some (.int .i64 version) := row_cell hg0 rfl
  have hc9 : w.cell? ⟨g, 9, none⟩ = some (.string text) := row_cell hg0 rfl
  have hlt : g < w.heap.size := (Array.getElem?_eq_some_iff.1 hg0).1
  have hne : g ≠ w.heap.size := Nat.ne_of_lt hlt
  have hnew' : w.heap.size ≠ g := Ne.symm hne
  have hnew := World.new_ne w ⟨g, 0, none⟩ hc0
  clear hg0

  obtain rfl : kind = 9 := hk
  subst h1
  have HC := Aside0.mk (beq_eq_false_iff_ne.1 h2)
  go_enter Try.func108, Try.ntmps108
  go_wp2_with (first | (go_at_call 79; refine (between_calls _ _ _ _).mono ?_; rintro e w1 ⟨nd, rfl, rfl⟩))
  refine start_ (n := 26) (S := fun w' => w'.cell? ⟨g, 3, none⟩ = some (.int .i64 4) ∧ w'.cell? ⟨g, 5, none⟩ = some (.int .i64 cause)) (ds := []) #[false, false, false, false, false, false, false, false, false, false, false, false, false, false, false, false, false, false, false, false, false, false, false, false, false, false] (by kernel_rfl) rfl rfl ⟨(by go_keep), (by go_keep)⟩ (fun hHeld => ?_)
  refine pure_ (i := 0) (N := some 122) (v := ?_) (a' := ?_) #[true, false, false, false, false, false, false, false, false, false, false, false, false, false, false, false, false, false, false, false, false, false, false, false, false, false] rfl rfl (by kernel_rfl) (fun _ _ _ h => h) (Or.inl ⟨by rfl, ?_⟩) ?_ ?_
  rotate_left
  · intro w'
    go_simp
    with_reducible rfl
  rotate_left
  · simp only [Act.put, List.setIfInBounds_toArray, List.set_cons_zero, List.set_cons_succ, i64_w, i32_w]
    rfl
  refine pure_ (i := 1) (N := some 123) (v := ?_) (a' := ?_) #[true, true, false, false, false, false, false, false, false, false, false, false, false, false, false, false, false, false, false, false, false, false, false, false, false, false] rfl rfl (by kernel_rfl) (fun _ _ _ h => h) (Or.inl ⟨by rfl, ?_⟩) ?_ ?_
  rotate_left
  · intro w'
    go_simp
    with_reducible rfl
  rotate_left
  · simp only [Act.put, List.setIfInBounds_toArray, List.set_cons_zero, List.set_cons_succ, i64_w, i32_w]
    rfl
  refine pure_ (i := 2) (N := some 124) (v := ?_) (a' := ?_) #[true, true, true, false, false, false, false, false, false, false, false, false, false, false, false, false, false, false, false, false, false, false, false, false, false, false] rfl rfl (by kernel_rfl) (fun _ _ _ h => h) (Or.inl ⟨by rfl, ?_⟩) ?_ ?_
  rotate_left
  · intro w'
    go_simp
    with_reducible rfl
  rotate_left
  · simp only [Act.put, List.setIfInBounds_toArray, List.set_cons_zero, List.set_cons_succ, i64_w, i32_w]
    rfl
  refine pure_ (i := 4) (N := some 126) (v := ?_) (a' := ?_) #[true, true, true, false, true, false, false, false, false, false, false, false, false, false, false, false, false, false, false, false, false, false, false, false, false, false] rfl rfl (by kernel_rfl) (fun _ _ _ h => h) (Or.inl ⟨by rfl, ?_⟩) ?_ ?_
  rotate_left
  · intro w'
    go_simp
    with_reducible rfl
  rotate_left
  · simp only [Act.put, List.setIfInBounds_toArray, List.set_cons_zero, List.set_cons_succ, i64_w, i32_w]
    rfl
  refine pure_ (i := 5) (N := some 127) (v := ?_) (a' := ?_) #[true, true, true, false, true, true, false, false, false, false, false, false, false, false, false, false, false, false, false, false, false, false, false, false, false, false] rfl rfl (by kernel_rfl) (fun _ _ _ h => h) (Or.inl ⟨by rfl, ?_⟩) ?_ ?_
  rotate_left
  · intro w'
    go_simp
    with_reducible rfl
  rotate_left
  · simp only [Act.put, List.setIfInBounds_toArray, List.set_cons_zero, List.set_cons_succ, i64_w, i32_w]
    rfl
  refine pure_ (i := 6) (N := some 128) (v := ?_) (a' := ?_) #[true, true, true, false, true, true, true, false, false, false, false, false, false, false, false, false, false, false, false, false, false, false, false, false, false, false] rfl rfl (by kernel_rfl) (fun _ _ _ h => h) (Or.inl ⟨by rfl, ?_⟩) ?_ ?_
  rotate_left
  · intro w'
    go_simp
    with_reducible rfl
  rotate_left
  · simp only [Act.put, List.setIfInBounds_toArray, List.set_cons_zero, List.set_cons_succ, i64_w, i32_w]
    rfl
  refine pure_ (i := 9) (N := some 131) (v := ?_) (a' := ?_) #[true, true, true, false, true, true, true, false, false, true, false, false, false, false, false, false, false, false, false, false, false, false, false, false, false, false] rfl rfl (by kernel_rfl) (fun _ _ _ h => h) (Or.inl ⟨by rfl, ?_⟩) ?_ ?_
  rotate_left
  · intro w'
    go_simp
    with_reducible rfl
  rotate_left
  · simp only [Act.put, List.setIfInBounds_toArray, List.set_cons_zero, List.set_cons_succ, i64_w, i32_w]
    rfl
  refine pure_ (i := 10) (N := some 132) (v := ?_) (a' := ?_) #[true, true, true, false, true, true, true, false, false, true, true, false, false, false, false, false, false, false, false, false, false, false, false, false, false, false] rfl rfl (by kernel_rfl) (fun _ _ _ h => h) (Or.inl ⟨by rfl, ?_⟩) ?_ ?_
  rotate_left
  · intro w'
    go_simp
    with_reducible rfl
  rotate_left
  · simp only [Act.put, List.setIfInBounds_toArray, List.set_cons_zero, List.set_cons_succ, i64_w, i32_w]
    rfl
  refine pure_ (i := 11) (N := some 133) (v := ?_) (a' := ?_) #[true, true, true, false, true, true, true, false, false, true, true, true, false, false, false, false, false, false, false, false, false, false, false, false, false, false] rfl rfl (by kernel_rfl) (fun _ _ _ h => h) (Or.inl ⟨by rfl, ?_⟩) ?_ ?_
  rotate_left
  · intro w'
    go_simp
    with_reducible rfl
  rotate_left
  · simp only [Act.put, List.setIfInBounds_toArray, List.set_cons_zero, List.set_cons_succ, i64_w, i32_w]
    rfl
  refine pure_ (i := 12) (N := some 134) (v := ?_) (a' := ?_) #[true, true, true, false, true, true, true, false, false, true, true, true, true, false, false, false, false, false, false, false, false, false, false, false, false, false] rfl rfl (by kernel_rfl) (fun _ _ _ h => h) (Or.inl ⟨by rfl, ?_⟩) ?_ ?_
  rotate_left
  · intro w'
    go_simp
    with_reducible rfl
  rotate_left
  · simp only [Act.put, List.setIfInBounds_toArray, List.set_cons_zero, List.set_cons_succ, i64_w, i32_w]
    rfl
  refine pure_ (i := 13) (N := some 135) (v := ?_) (a' := ?_) #[true, true, true, false, true, true, true, false, false, true, true, true, true, true, false, false, false, false, false, false, false, false, false, false, false, false] rfl rfl (by kernel_rfl) (fun _ _ _ h => h) (Or.inl ⟨by rfl, ?_⟩) ?_ ?_
  rotate_left
  · intro w'
    go_simp
    with_reducible rfl
  rotate_left
  · simp only [Act.put, List.setIfInBounds_toArray, List.set_cons_zero, List.set_cons_succ, i64_w, i32_w]
    rfl
  refine take_ (i := 3) (N := some 125) (v := ?_) (a' := ?_) #[true, true, true, true, true, true, true, false, false, true, true, true, true, true, false, false, false, false, false, false, false, false, false, false, false, false] rfl rfl (by kernel_rfl) (fun _ _ _ h => h) (Or.inl ⟨by rfl, ?_⟩) hHeld ?_ ?_
  rotate_left
  · rintro w' ⟨s0, s1⟩
    go_simp
    with_reducible rfl
  rotate_left
  · simp only [Act.put, List.setIfInBounds_toArray, List.set_cons_zero, List.set_cons_succ, i64_w, i32_w]
    rfl
  refine take_ (i := 7) (N := some 129) (v := ?_) (a' := ?_) #[true, true, true, true, true, true, true, true, false, true, true, true, true, true, false, false, false, false, false, false, false, false, false, false, false, false] rfl rfl (by kernel_rfl) (fun _ _ _ h => h) (Or.inl ⟨by rfl, ?_⟩) hHeld ?_ ?_
  rotate_left
  · rintro w' ⟨s0, s1⟩
    go_simp
    with_reducible rfl
  rotate_left
  · simp only [Act.put, List.setIfInBounds_toArray, List.set_cons_zero, List.set_cons_succ, i64_w, i32_w]
    rfl
  refine pure_ (i := 8) (N := some 130) (v := ?_) (a' := ?_) #[true, true, true, true, true, true, true, true, true, true, true, true, true, true, false, false, false, false, false, false, false, false, false, false, false, false] rfl rfl (by kernel_rfl) (fun _ _ _ h => h) (Or.inl ⟨by rfl, ?_⟩) ?_ ?_
  rotate_left
  · intro w'
    go_simp
    with_reducible rfl
  rotate_left
  · simp only [Act.put, List.setIfInBounds_toArray, List.set_cons_zero, List.set_cons_succ, i64_w, i32_w]
    rfl
  refine take_ (i := 14) (N := some 136) (v := ?_) (a' := ?_) #[true, true, true, true, true, true, true, true, true, true, true, true, true, true, true, false, false, false, false, false, false, false, false, false, false, false] rfl rfl (by kernel_rfl) (fun _ _ _ h => h) (Or.inl ⟨by rfl, ?_⟩) hHeld ?_ ?_
  rotate_left
  · rintro w' ⟨s0, s1⟩
    go_simp
    with_reducible rfl
  rotate_left
  · simp only [Act.put, List.setIfInBounds_toArray, List.set_cons_zero, List.set_cons_succ, i64_w, i32_w]
    rfl
  refine pure_ (i := 15) (N := some 137) (v := ?_) (a' := ?_) #[true, true, true, true, true, true, true, true, true, true, true, true, true, true, true, true, false, false, false, false, false, false, false, false, false, false] rfl rfl (by kernel_rfl) (fun _ _ _ h => h) (Or.inl ⟨by rfl, ?_⟩) ?_ ?_
  rotate_left
  · intro w'
    go_simp
    with_reducible rfl
  rotate_left
  · simp only [Act.put, List.setIfInBounds_toArray, List.set_cons_zero, List.set_cons_succ, i64_w, i32_w]
    rfl
  refine pure_ (i := 16) (N := some 138) (v := ?_) (a' := ?_) #[true, true, true, true, true, true, true, true, true, true, true, true, true, true, true, true, true, false, false, false, false, false, false, false, false, false] rfl rfl (by kernel_rfl) (fun _ _ _ h => h) (Or.inl ⟨by rfl, ?_⟩) ?_ ?_
  rotate_left
  · intro w'
    go_simp
    with_reducible rfl
  rotate_left
  · simp only [Act.put, List.setIfInBounds_toArray, List.set_cons_zero, List.set_cons_succ, i64_w, i32_w]
    rfl
  refine pure_ (i := 17) (N := some 139) (v := undef) (a' := ?_) #[true, true, true, true, true, true, true, true, true, true, true, true, true, true, true, true, true, true, false, false, false, false, false, false, false, false] rfl rfl (by kernel_rfl) (fun _ _ _ h => h) (Or.inr ⟨by rfl, rfl⟩) ?_ ?_
  rotate_left
  · simp only [Act.put, List.setIfInBounds_toArray, List.set_cons_zero, List.set_cons_succ, i64_w, i32_w]
    rfl
  refine pure_ (i := 18) (N := some 140) (v := undef) (a' := ?_) #[true, true, true, true, true, true, true, true, true, true, true, true, true, true, true, true, true, true, true, false, false, false, false, false, false, false] rfl rfl (by kernel_rfl) (fun _ _ _ h => h) (Or.inr ⟨by rfl, rfl⟩) ?_ ?_
  rotate_left
  · simp only [Act.put, List.setIfInBounds_toArray, List.set_cons_zero, List.set_cons_succ, i64_w, i32_w]
    rfl
  refine pure_ (i := 19) (N := some 141) (v := undef) (a' := ?_) #[true, true, true, true, true, true, true, true, true, true, true, true, true, true, true, true, true, true, true, true, false, false, false, false, false, false] rfl rfl (by kernel_rfl) (fun _ _ _ h => h) (Or.inr ⟨by rfl, rfl⟩) ?_ ?_
  rotate_left
  · simp only [Act.put, List.setIfInBounds_toArray, List.set_cons_zero, List.set_cons_succ, i64_w, i32_w]
    rfl
  refine pure_ (i := 20) (N := some 142) (v := undef) (a' := ?_) #[true, true, true, true, true, true, true, true, true, true, true, true, true, true, true, true, true, true, true, true, true, false, false, false, false, false] rfl rfl (by kernel_rfl) (fun _ _ _ h => h) (Or.inr ⟨by rfl, rfl⟩) ?_ ?_
  rotate_left
  · simp only [Act.put, List.setIfInBounds_toArray, List.set_cons_zero, List.set_cons_succ, i64_w, i32_w]
    rfl
  refine pure_ (i := 21) (N := some 143) (v := undef) (a' := ?_) #[true, true, true, true, true, true, true, true, true, true, true, true, true, true, true, true, true, true, true, true, true, true, false, false, false, false] rfl rfl (by kernel_rfl) (fun _ _ _ h => h) (Or.inr ⟨by rfl, rfl⟩) ?_ ?_
  rotate_left
  · simp only [Act.put, List.setIfInBounds_toArray, List.set_cons_zero, List.set_cons_succ, i64_w, i32_w]
    rfl
  refine pure_ (i := 22) (N := some 144) (v := ?_) (a' := ?_) #[true, true, true, true, true, true, true, true, true, true, true, true, true, true, true, true, true, true, true, true, true, true, true, false, false, false] rfl rfl (by kernel_rfl) (fun _ _ _ h => h) (Or.inl ⟨by rfl, ?_⟩) ?_ ?_
  rotate_left
  · intro w'
    go_simp
    with_reducible rfl
  rotate_left
  · simp only [Act.put, List.setIfInBounds_toArray, List.set_cons_zero, List.set_cons_succ, i64_w, i32_w]
    rfl
  refine pure_ (i := 23) (N := some 145) (v := ?_) (a' := ?_) #[true, true, true, true, true, true, true, true, true, true, true, true, true, true, true, true, true, true, true, true, true, true, true, true, false, false] rfl rfl (by kernel_rfl) (fun _ _ _ h => h) (Or.inl ⟨by rfl, ?_⟩) ?_ ?_
  rotate_left
  · intro w'
    go_simp
    with_reducible rfl
  rotate_left
  · simp only [Act.put, List.setIfInBounds_toArray, List.set_cons_zero, List.set_cons_succ, i64_w, i32_w]
    rfl
  refine one_ (i := 24) (N := none) #[true, true, true, true, true, true, true, true, true, true, true, true, true, true, true, true, true, true, true, true, true, true, true, true, true, false] rfl rfl (by kernel_rfl) (by decide) (fun K hK => ?_)
  refine skip_ (w1 := ?_) (by rfl) rfl ?_ ?_
  rotate_left
  · go_simp
    rfl
  refine hK.out _ _ ⟨(by go_keep), (by go_keep)⟩ (fun hHeld => ?_)
  clear hK K
  refine pure_ (i := 25) (N := some 3) (v := ?_) (a' := ?_) #[true, true, true, true, true, true, true, true, true, true, true, true, true, true, true, true, true, true, true, true, true, true, true, true, true, true] rfl rfl (by kernel_rfl) (fun _ _ _ h => h) (Or.inl ⟨by rfl, ?_⟩) ?_ ?_
  rotate_left
  · intro w'
    go_simp
    with_reducible rfl
  rotate_left
  · simp only [Act.put, List.setIfInBounds_toArray, List.set_cons_zero, List.set_cons_succ, i64_w, i32_w]
    rfl
  refine done_ (by kernel_rfl) ?_
  go_wp2_with (first | (go_at_call 79; refine (between_calls _ _ _ _).mono ?_; rintro e w1 ⟨nd, rfl, rfl⟩))
  all_goals (go_returns; refine ⟨by simp [ownN, aggN, CdNote.nullD, HC.out], ?_⟩; (repeat (with_reducible (first | exact Below.refl _ _ | exact below_new _ | apply below_set | apply Below.drew | apply pw_below_drewN))))

end Go.Proofs.Ytejaepohkcjoiaa.CdMay

/- codec: own of a note: the walk, path by path (written by wip/gen/mkown.py). -/
namespace Go.Proofs.Ytejaepohkcjoiaa.CdMay
open Go.RowKit Go.IntWalk Go.Proofs.Ytejaepohkcjoiaa.B Go.Proofs.YtejaepohkcjoiaaW.PrintWords Go.Proofs.YtejaepohkcjoiaaW.PrintLast Go.Proofs.YtejaepohkcjoiaaW.PrintMore Go.Proofs.Ytejaepohkcjoiaa.CdForm

set_option linter.unusedSimpArgs false in
set_option linter.unusedVariables false in
set_option maxHeartbeats 4000000 in
set_option maxRecDepth 100000 in
theorem own9c (w : World) (g : Nat) (kind inst step state part cause : Int) (key name : ByteArray) (version : Int) (text : ByteArray) (hg0 : w.heap[g]? = some (.cells (CdNote.cells ⟨kind, inst, step, state, part, cause, key, name, version, text⟩) 60 (0, 0)))
    (hs : key.size ≤ 9000000000000000000 ∧ name.size ≤ 9000000000000000000) (hk : kind = 9) (h1 : state = 6) :
    Calls Try.prog 108 #[.pointer (some ⟨g, 0, none⟩)] w fun e w' => e = .returned (.tuple #[aggN (ownN ⟨kind, inst, step, state, part, cause, key, name, version, text⟩).1, .bool (ownN ⟨kind, inst, step, state, part, cause, key, name, version, text⟩).2]) ∧ Below w.heap.size w w' := by
  have hc0 : w.cell? ⟨g, 0, none⟩ = some (.int .i64 kind) := row_cell hg0 rfl
  have hc1 : w.cell? ⟨g, 1, none⟩ = some (.int .i64 inst) := row_cell hg0 rfl
  have hc2 : w.cell? ⟨g, 2, none⟩ = some (.int .i64 step) := row_cell hg0 rfl
  have hc3 : w.cell? ⟨g, 3, none⟩ = some (.int .i64 state) := row_cell hg0 rfl
  have hc4 : w.cell? ⟨g, 4, none⟩ = some (.int .i64 part) := row_cell hg0 rfl
  have hc5 : w.cell? ⟨g, 5, none⟩ = some (.int .i64 cause) := row_cell hg0 rfl
  have hc6 : w.cell? ⟨g, 6, none⟩ = some (.string key) := row_cell hg0 rfl
  have hc7 : w.cell? ⟨g, 7, none⟩ = some (.string name) := row_cell hg0 rfl
  have hc8 : w.cell? ⟨g, 8, none⟩ = some (.int .i64 version) := row_cell hg0 rfl
  have hc9 : w.cell? ⟨g, 9, none⟩ = some (.string text) := row_cell hg0 rfl
  have hlt : g < w.heap.size := (Array.getElem?_eq_some_iff.1 hg0).1
  have hne : g ≠ w.heap.size := Nat.ne_of_lt hlt
  have hnew' : w.heap.size ≠ g := Ne.symm hne
  have hnew := World.new_ne w ⟨g, 0, none⟩ hc0
  clear hg0

  obtain rfl : kind = 9 := hk
  subst h1
  go_enter Try.func108, Try.ntmps108
  go_wp2_with (first | (go_at_call 79; refine (between_calls _ _ _ _).mono ?_; rintro e w1 ⟨nd, rfl, rfl⟩))
  refine start_ (n := 26) (S := fun w' => w'.cell? ⟨g, 3, none⟩ = some (.int .i64 6) ∧ w'.cell? ⟨g, 5, none⟩ = some (.int .i64 cause)) (ds := []) #[false, false, false, false, false, false, false, false, false, false, false, false, false, false, false, false, false, false, false, false, false, false, false, false, false, false] (by kernel_rfl) rfl rfl ⟨(by go_keep), (by go_keep)⟩ (fun hHeld => ?_)
  refine pure_ (i := 0) (N := some 122) (v := ?_) (a' := ?_) #[true, false, false, false, false, false, false, false, false, false, false, false, false, false, false, false, false, false, false, false, false, false, false, false, false, false] rfl rfl (by kernel_rfl) (fun _ _ _ h => h) (Or.inl ⟨by rfl, ?_⟩) ?_ ?_
  rotate_left
  · intro w'
    go_simp
    with_reducible rfl
  rotate_left
  · simp only [Act.put, List.setIfInBounds_toArray, List.set_cons_zero, List.set_cons_succ, i64_w, i32_w]
    rfl
  refine pure_ (i := 1) (N := some 123) (v := ?_) (a' := ?_) #[true, true, false, false, false, false, false, false, false, false, false, false, false, false, false, false, false, false, false, false, false, false, false, false, false, false] rfl rfl (by kernel_rfl) (fun _ _ _ h => h) (Or.inl ⟨by rfl, ?_⟩) ?_ ?_
  rotate_left
  · intro w'
    go_simp
    with_reducible rfl
  rotate_left
  · simp only [Act.put, List.setIfInBounds_toArray, List.set_cons_zero, List.set_cons_succ, i64_w, i32_w]
    rfl
  refine pure_ (i := 2) (N := some 124) (v := ?_) (a' := ?_) #[true, true, true, false, false, false, false, false, false, false, false, false, false, false, false, false, false, false, false, false, false, false, false, false, false, false] rfl rfl (by kernel_rfl) (fun _ _ _ h => h) (Or.inl ⟨by rfl, ?_⟩) ?_ ?_
  rotate_left
  · intro w'
    go_simp
    with_reducible rfl
  rotate_left
  · simp only [Act.put, List.setIfInBounds_toArray, List.set_cons_zero, List.set_cons_succ, i64_w, i32_w]
    rfl
  refine pure_ (i := 4) (N := some 126) (v := ?_) (a' := ?_) #[true, true, true, false, true, false, false, false, false, false, false, false, false, false, false, false, false, false, false, false, false, false, false, false, false, false] rfl rfl (by kernel_rfl) (fun _ _ _ h => h) (Or.inl ⟨by rfl, ?_⟩) ?_ ?_
  rotate_left
  · intro w'
    go_simp
    with_reducible rfl
  rotate_left
  · simp only [Act.put, List.setIfInBounds_toArray, List.set_cons_zero, List.set_cons_succ, i64_w, i32_w]
    rfl
  refine pure_ (i := 5) (N := some 127) (v := ?_) (a' := ?_) #[true, true, true, false, true, true, false, false, false, false, false, false, false, false, false, false, false, false, false, false, false, false, false, false, false, false] rfl rfl (by kernel_rfl) (fun _ _ _ h => h) (Or.inl ⟨by rfl, ?_⟩) ?_ ?_
  rotate_left
  · intro w'
    go_simp
    with_reducible rfl
  rotate_left
  · simp only [Act.put, List.setIfInBounds_toArray, List.set_cons_zero, List.set_cons_succ, i64_w, i32_w]
    rfl
  refine pure_ (i := 6) (N := some 128) (v := ?_) (a' := ?_) #[true, true, true, false, true, true, true, false, false, false, false, false, false, false, false, false, false, false, false, false, false, false, false, false, false, false] rfl rfl (by kernel_rfl) (fun _ _ _ h => h) (Or.inl ⟨by rfl, ?_⟩) ?_ ?_
  rotate_left
  · intro w'
    go_simp
    with_reducible rfl
  rotate_left
  · simp only [Act.put, List.setIfInBounds_toArray, List.set_cons_zero, List.set_cons_succ, i64_w, i32_w]
    rfl
  refine pure_ (i := 9) (N := some 131) (v := ?_) (a' := ?_) #[true, true, true, false, true, true, true, false, false, true, false, false, false, false, false, false, false, false, false, false, false, false, false, false, false, false] rfl rfl (by kernel_rfl) (fun _ _ _ h => h) (Or.inl ⟨by rfl, ?_⟩) ?_ ?_
  rotate_left
  · intro w'
    go_simp
    with_reducible rfl
  rotate_left
  · simp only [Act.put, List.setIfInBounds_toArray, List.set_cons_zero, List.set_cons_succ, i64_w, i32_w]
    rfl
  refine pure_ (i := 10) (N := some 132) (v := ?_) (a' := ?_) #[true, true, true, false, true, true, true, false, false, true, true, false, false, false, false, false, false, false, false, false, false, false, false, false, false, false] rfl rfl (by kernel_rfl) (fun _ _ _ h => h) (Or.inl ⟨by rfl, ?_⟩) ?_ ?_
  rotate_left
  · intro w'
    go_simp
    with_reducible rfl
  rotate_left
  · simp only [Act.put, List.setIfInBounds_toArray, List.set_cons_zero, List.set_cons_succ, i64_w, i32_w]
    rfl
  refine pure_ (i := 11) (N := some 133) (v := ?_) (a' := ?_) #[true, true, true, false, true, true, true, false, false, true, true, true, false, false, false, false, false, false, false, false, false, false, false, false, false, false] rfl rfl (by kernel_rfl) (fun _ _ _ h => h) (Or.inl ⟨by rfl, ?_⟩) ?_ ?_
  rotate_left
  · intro w'
    go_simp
    with_reducible rfl
  rotate_left
  · simp only [Act.put, List.setIfInBounds_toArray, List.set_cons_zero, List.set_cons_succ, i64_w, i32_w]
    rfl
  refine pure_ (i := 12) (N := some 134) (v := ?_) (a' := ?_) #[true, true, true, false, true, true, true, false, false, true, true, true, true, false, false, false, false, false, false, false, false, false, false, false, false, false] rfl rfl (by kernel_rfl) (fun _ _ _ h => h) (Or.inl ⟨by rfl, ?_⟩) ?_ ?_
  rotate_left
  · intro w'
    go_simp
    with_reducible rfl
  rotate_left
  · simp only [Act.put, List.setIfInBounds_toArray, List.set_cons_zero, List.set_cons_succ, i64_w, i32_w]
    rfl
  refine pure_ (i := 13) (N := some 135) (v := ?_) (a' := ?_) #[true, true, true, false, true, true, true, false, false, true, true, true, true, true, false, false, false, false, false, false, false, false, false, false, false, false] rfl rfl (by kernel_rfl) (fun _ _ _ h => h) (Or.inl ⟨by rfl, ?_⟩) ?_ ?_
  rotate_left
  · intro w'
    go_simp
    with_reducible rfl
  rotate_left
  · simp only [Act.put, List.setIfInBounds_toArray, List.set_cons_zero, List.set_cons_succ, i64_w, i32_w]
    rfl
  refine take_ (i := 3) (N := some 125) (v := ?_) (a' := ?_) #[true, true, true, true, true, true, true, false, false, true, true, true, true, true, false, false, false, false, false, false, false, false, false, false, false, false] rfl rfl (by kernel_rfl) (fun _ _ _ h => h) (Or.inl ⟨by rfl, ?_⟩) hHeld ?_ ?_
  rotate_left
  · rintro w' ⟨s0, s1⟩
    go_simp
    with_reducible rfl
  rotate_left
  · simp only [Act.put, List.setIfInBounds_toArray, List.set_cons_zero, List.set_cons_succ, i64_w, i32_w]
    rfl
  refine take_ (i := 7) (N := some 129) (v := ?_) (a' := ?_) #[true, true, true, true, true, true, true, true, false, true, true, true, true, true, false, false, false, false, false, false, false, false, false, false, false, false] rfl rfl (by kernel_rfl) (fun _ _ _ h => h) (Or.inl ⟨by rfl, ?_⟩) hHeld ?_ ?_
  rotate_left
  · rintro w' ⟨s0, s1⟩
    go_simp
    with_reducible rfl
  rotate_left
  · simp only [Act.put, List.setIfInBounds_toArray, List.set_cons_zero, List.set_cons_succ, i64_w, i32_w]
    rfl
  refine pure_ (i := 8) (N := some 130) (v := ?_) (a' := ?_) #[true, true, true, true, true, true, true, true, true, true, true, true, true, true, false, false, false, false, false, false, false, false, false, false, false, false] rfl rfl (by kernel_rfl) (fun _ _ _ h => h) (Or.inl ⟨by rfl, ?_⟩) ?_ ?_
  rotate_left
  · intro w'
    go_simp
    with_reducible rfl
  rotate_left
  · simp only [Act.put, List.setIfInBounds_toArray, List.set_cons_zero, List.set_cons_succ, i64_w, i32_w]
    rfl
  refine take_ (i := 14) (N := some 136) (v := ?_) (a' := ?_) #[true, true, true, true, true, true, true, true, true, true, true, true, true, true, true, false, false, false, false, false, false, false, false, false, false, false] rfl rfl (by kernel_rfl) (fun _ _ _ h => h) (Or.inl ⟨by rfl, ?_⟩) hHeld ?_ ?_
  rotate_left
  · rintro w' ⟨s0, s1⟩
    go_simp
    with_reducible rfl
  rotate_left
  · simp only [Act.put, List.setIfInBounds_toArray, List.set_cons_zero, List.set_cons_succ, i64_w, i32_w]
    rfl
  refine pure_ (i := 15) (N := some 137) (v := ?_) (a' := ?_) #[true, true, true, true, true, true, true, true, true, true, true, true, true, true, true, true, false, false, false, false, false, false, false, false, false, false] rfl rfl (by kernel_rfl) (fun _ _ _ h => h) (Or.inl ⟨by rfl, ?_⟩) ?_ ?_
  rotate_left
  · intro w'
    go_simp
    with_reducible rfl
  rotate_left
  · simp only [Act.put, List.setIfInBounds_toArray, List.set_cons_zero, List.set_cons_succ, i64_w, i32_w]
    rfl
  refine pure_ (i := 16) (N := some 138) (v := ?_) (a' := ?_) #[true, true, true, true, true, true, true, true, true, true, true, true, true, true, true, true, true, false, false, false, false, false, false, false, false, false] rfl rfl (by kernel_rfl) (fun _ _ _ h => h) (Or.inl ⟨by rfl, ?_⟩) ?_ ?_
  rotate_left
  · intro w'
    go_simp
    with_reducible rfl
  rotate_left
  · simp only [Act.put, List.setIfInBounds_toArray, List.set_cons_zero, List.set_cons_succ, i64_w, i32_w]
    rfl
  refine pure_ (i := 17) (N := some 139) (v := ?_) (a' := ?_) #[true, true, true, true, true, true, true, true, true, true, true, true, true, true, true, true, true, true, false, false, false, false, false, false, false, false] rfl rfl (by kernel_rfl) (fun _ _ _ h => h) (Or.inl ⟨by rfl, ?_⟩) ?_ ?_
  rotate_left
  · intro w'
    go_simp
    with_reducible rfl
  rotate_left
  · simp only [Act.put, List.setIfInBounds_toArray, List.set_cons_zero, List.set_cons_succ, i64_w, i32_w]
    rfl
  refine pure_ (i := 18) (N := some 140) (v := ?_) (a' := ?_) #[true, true, true, true, true, true, true, true, true, true, true, true, true, true, true, true, true, true, true, false, false, false, false, false, false, false] rfl rfl (by kernel_rfl) (fun _ _ _ h => h) (Or.inl ⟨by rfl, ?_⟩) ?_ ?_
  rotate_left
  · intro w'
    go_simp
    with_reducible rfl
  rotate_left
  · simp only [Act.put, List.setIfInBounds_toArray, List.set_cons_zero, List.set_cons_succ, i64_w, i32_w]
    rfl
  refine pure_ (i := 19) (N := some 141) (v := ?_) (a' := ?_) #[true, true, true, true, true, true, true, true, true, true, true, true, true, true, true, true, true, true, true, true, false, false, false, false, false, false] rfl rfl (by kernel_rfl) (fun _ _ _ h => h) (Or.inl ⟨by rfl, ?_⟩) ?_ ?_
  rotate_left
  · intro w'
    go_simp
    with_reducible rfl
  rotate_left
  · simp only [Act.put, List.setIfInBounds_toArray, List.set_cons_zero, List.set_cons_succ, i64_w, i32_w]
    rfl
  refine take_ (i := 20) (N := some 142) (v := ?_) (a' := ?_) #[true, true, true, true, true, true, true, true, true, true, true, true, true, true, true, true, true, true, true, true, true, false, false, false, false, false] rfl rfl (by kernel_rfl) (fun _ _ _ h => h) (Or.inl ⟨by rfl, ?_⟩) hHeld ?_ ?_
  rotate_left
  · rintro w' ⟨s0, s1⟩
    go_simp
    with_reducible rfl
  rotate_left
  · simp only [Act.put, List.setIfInBounds_toArray, List.set_cons_zero, List.set_cons_succ, i64_w, i32_w]
    rfl
  refine one_ (i := 21) (N := some 143) #[true, true, true, true, true, true, true, true, true, true, true, true, true, true, true, true, true, true, true, true, true, true, false, false, false, false] rfl rfl (by kernel_rfl) (by decide) (fun K hK => ?_)
  refine goes_ Try.func79 (by kernel_rfl) rfl #[.int .i64 cause, .int .i64 1, .int .i64 4] (by rfl) rfl rfl (by simp only [List.map_toArray, List.map_cons, List.map_nil]; rfl) ?_
  with_reducible refine (between_b _ _ _ _ _ rfl).mono ?_
  rintro e w3 ⟨nd, rfl, rfl⟩
  refine ⟨_, rfl, ?_⟩
  refine hK.out _ _ ⟨hHeld.1, hHeld.2⟩ (fun hHeld => ?_)
  clear hK K
  refine norm_ (a' := ?_) ?_ ?_
  rotate_left
  · show Act.put _ (some 143) _ = _
    simp only [Act.put, List.setIfInBounds_toArray, List.set_cons_zero, List.set_cons_succ, i64_w, i32_w]
    rfl
  refine pure_ (i := 22) (N := some 144) (v := ?_) (a' := ?_) #[true, true, true, true, true, true, true, true, true, true, true, true, true, true, true, true, true, true, true, true, true, true, true, false, false, false] rfl rfl (by kernel_rfl) (fun _ _ _ h => h) (Or.inl ⟨by rfl, ?_⟩) ?_ ?_
  rotate_left
  · intro w'
    go_simp
    with_reducible rfl
  rotate_left
  · simp only [Act.put, List.setIfInBounds_toArray, List.set_cons_zero, List.set_cons_succ, i64_w, i32_w]
    rfl
  refine pure_ (i := 23) (N := some 145) (v := ?_) (a' := ?_) #[true, true, true, true, true, true, true, true, true, true, true, true, true, true, true, true, true, true, true, true, true, true, true, true, false, false] rfl rfl (by kernel_rfl) (fun _ _ _ h => h) (Or.inl ⟨by rfl, ?_⟩) ?_ ?_
  rotate_left
  · intro w'
    go_simp
    with_reducible rfl
  rotate_left
  · simp only [Act.put, List.setIfInBounds_toArray, List.set_cons_zero, List.set_cons_succ, i64_w, i32_w]
    rfl
  refine one_ (i := 24) (N := none) #[true, true, true, true, true, true, true, true, true, true, true, true, true, true, true, true, true, true, true, true, true, true, true, true, true, false] rfl rfl (by kernel_rfl) (by decide) (fun K hK => ?_)
  refine skip_ (w1 := ?_) (by rfl) rfl ?_ ?_
  rotate_left
  · go_simp
    rfl
  refine hK.out _ _ ⟨((cell_far (p := ⟨w.heap.size, _, none⟩) hne _).trans ((cell_far (p := ⟨w.heap.size, _, none⟩) hne _).trans ((cell_far (p := ⟨w.heap.size, _, none⟩) hne _).trans ((cell_far (p := ⟨w.heap.size, _, none⟩) hne _).trans ((cell_far (p := ⟨w.heap.size, _, none⟩) hne _).trans ((cell_far (p := ⟨w.heap.size, _, none⟩) hne _).trans ((cell_far (p := ⟨w.heap.size, _, none⟩) hne _).trans ((cell_far (p := ⟨w.heap.size, _, none⟩) hne _).trans ((cell_far (p := ⟨w.heap.size, _, none⟩) hne _).trans ((cell_far (p := ⟨w.heap.size, _, none⟩) hne _).trans hHeld.1)))))))))), ((cell_far (p := ⟨w.heap.size, _, none⟩) hne _).trans ((cell_far (p := ⟨w.heap.size, _, none⟩) hne _).trans ((cell_far (p := ⟨w.heap.size, _, none⟩) hne _).trans ((cell_far (p := ⟨w.heap.size, _, none⟩) hne _).trans ((cell_far (p := ⟨w.heap.size, _, none⟩) hne _).trans ((cell_far (p := ⟨w.heap.size, _, none⟩) hne _).trans ((cell_far (p := ⟨w.heap.size, _, none⟩) hne _).trans ((cell_far (p := ⟨w.heap.size, _, none⟩) hne _).trans ((cell_far (p := ⟨w.heap.size, _, none⟩) hne _).trans ((cell_far (p := ⟨w.heap.size, _, none⟩) hne _).trans hHeld.2))))))))))⟩ (fun hHeld => ?_)
  clear hK K
  refine pure_ (i := 25) (N := some 3) (v := ?_) (a' := ?_) #[true, true, true, true, true, true, true, true, true, true, true, true, true, true, true, true, true, true, true, true, true, true, true, true, true, true] rfl rfl (by kernel_rfl) (fun _ _ _ h => h) (Or.inl ⟨by rfl, ?_⟩) ?_ ?_
  rotate_left
  · intro w'
    go_simp
    with_reducible rfl
  rotate_left
  · simp only [Act.put, List.setIfInBounds_toArray, List.set_cons_zero, List.set_cons_succ, i64_w, i32_w]
    rfl
  refine done_ (by kernel_rfl) ?_
  go_wp2_with (first | (go_at_call 79; refine (between_calls _ _ _ _).mono ?_; rintro e w1 ⟨nd, rfl, rfl⟩))
  all_goals (go_returns; refine ⟨by simp [ownN, aggN, CdNote.nullD], ?_⟩; (repeat (with_reducible (first | exact Below.refl _ _ | exact below_new _ | apply below_set | apply Below.drew | apply pw_below_drewN))))

set_option linter.unusedSimpArgs false in
set_option linter.unusedVariables false in
set_option maxHeartbeats 4000000 in
set_option maxRecDepth 100000 in
theorem own9d (w : World) (g : Nat) (kind inst step state part cause : Int) (key name : ByteArray) (version : Int) (text : ByteArray) (hg0 : w.heap[g]? = some (.cells (CdNote.cells ⟨kind, inst, step, state, part, cause, key, name, version, text⟩) 60 (0, 0)))
    (hs : key.size ≤ 9000000000000000000 ∧ name.size ≤ 9000000000000000000) (hk : kind = 9) (h1 : (state == 4) = false) (h2 : (state == 6) = false) :
    Calls Try.prog 108 #[.pointer (some ⟨g, 0, none⟩)] w fun e w' => e = .returned (.tuple #[aggN (ownN ⟨kind, inst, step, state, part, cause, key, name, version, text⟩).1, .bool (ownN ⟨kind, inst, step, state, part, cause, key, name, version, text⟩).2]) ∧ Below w.heap.size w w' := by
  have hc0 : w.cell? ⟨g, 0, none⟩ = some (.int .i64 kind) := row_cell hg0 rfl
  have hc1 : w.cell? ⟨g, 1, none⟩ = some (.int .i64 inst) := row_cell hg0 rfl
  have hc2 : w.cell? ⟨g, 2, none⟩ = some (.int .i64 step) := row_cell hg0 rfl
  have hc3 : w.cell? ⟨g, 3, none⟩ = some (.int .i64 state) := row_cell hg0 rfl
  have hc4 : w.cell? ⟨g, 4, none⟩ = some (.int .i64 part) := row_cell hg0 rfl
  have hc5 : w.cell? ⟨g, 5, none⟩ = some (.int .i64 cause) := row_cell hg0 rfl
  have hc6 : w.cell? ⟨g, 6, none⟩ = some (.string key) := row_cell hg0 rfl
  have hc7 : w.cell? ⟨g, 7, none⟩ = some (.string name) := row_cell hg0 rfl
  have hc8 : w.cell? ⟨g, 8, none⟩ = some (.int .i64 version) := row_cell hg0 rfl
  have hc9 : w.cell? ⟨g, 9, none⟩ = some (.string text) := row_cell hg0 rfl
  have hlt : g < w.heap.size := (Array.getElem?_eq_some_iff.1 hg0).1
  have hne : g ≠ w.heap.size := Nat.ne_of_lt hlt
  have hnew' : w.heap.size ≠ g := Ne.symm hne
  have hnew := World.new_ne w ⟨g, 0, none⟩ hc0
  clear hg0

  obtain rfl : kind = 9 := hk
  have HC := Aside0.mk (beq_eq_false_iff_ne.1 h1)
  have HD := Aside0.mk (beq_eq_false_iff_ne.1 h2)
  go_enter Try.func108, Try.ntmps108
  go_wp2_with (first | (go_at_call 79; refine (between_calls _ _ _ _).mono ?_; rintro e w1 ⟨nd, rfl, rfl⟩))
  refine start_ (n := 26) (S := fun w' => w'.cell? ⟨g, 3, none⟩ = some (.int .i64 state) ∧ w'.cell? ⟨g, 5, none⟩ = some (.int .i64 cause)) (ds := []) #[false, false, false, false, false, false, false, false, false, false, false, false, false, false, false, false, false, false, false, false, false, false, false, false, false, false] (by kernel_rfl) rfl rfl ⟨(by go_keep), (by go_keep)⟩ (fun hHeld => ?_)
  refine pure_ (i := 0) (N := some 122) (v := ?_) (a' := ?_) #[true, false, false, false, false, false, false, false, false, false, false, false, false, false, false, false, false, false, false, false, false, false, false, false, false, false] rfl rfl (by kernel_rfl) (fun _ _ _ h => h) (Or.inl ⟨by rfl, ?_⟩) ?_ ?_
  rotate_left
  · intro w'
    go_simp
    with_reducible rfl
  rotate_left
  · simp only [Act.put, List.setIfInBounds_toArray, List.set_cons_zero, List.set_cons_succ, i64_w, i32_w]
    rfl
  refine pure_ (i := 1) (N := some 123) (v := ?_) (a' := ?_) #[true, true, false, false, false, false, false, false, false, false, false, false, false, false, false, false, false, false, false, false, false, false, false, false, false, false] rfl rfl (by kernel_rfl) (fun _ _ _ h => h) (Or.inl ⟨by rfl, ?_⟩) ?_ ?_
  rotate_left
  · intro w'
    go_simp
    with_reducible rfl
  rotate_left
  · simp only [Act.put, List.setIfInBounds_toArray, List.set_cons_zero, List.set_cons_succ, i64_w, i32_w]
    rfl
  refine pure_ (i := 2) (N := some 124) (v := ?_) (a' := ?_) #[true, true, true, false, false, false, false, false, false, false, false, false, false, false, false, false, false, false, false, false, false, false, false, false, false, false] rfl rfl (by kernel_rfl) (fun _ _ _ h => h) (Or.inl ⟨by rfl, ?_⟩) ?_ ?_
  rotate_left
  · intro w'
    go_simp
    with_reducible rfl
  rotate_left
  · simp only [Act.put, List.setIfInBounds_toArray, List.set_cons_zero, List.set_cons_succ, i64_w, i32_w]
    rfl
  refine pure_ (i := 4) (N := some 126) (v := ?_) (a' := ?_) #[true, true, true, false, true, false, false, false, false, false, false, false, false, false, false, false, false, false, false, false, false, false, false, false, false, false] rfl rfl (by kernel_rfl) (fun _ _ _ h => h) (Or.inl ⟨by rfl, ?_⟩) ?_ ?_
  rotate_left
  · intro w'
    go_simp
    with_reducible rfl
  rotate_left
  · simp only [Act.put, List.setIfInBounds_toArray, List.set_cons_zero, List.set_cons_succ, i64_w, i32_w]
    rfl
  refine pure_ (i := 5) (N := some 127) (v := ?_) (a' := ?_) #[true, true, true, false, true, true, false, false, false, false, false, false, false, false, false, false, false, false, false, false, false, false, false, false, false, false] rfl rfl (by kernel_rfl) (fun _ _ _ h => h) (Or.inl ⟨by rfl, ?_⟩) ?_ ?_
  rotate_left
  · intro w'
    go_simp
    with_reducible rfl
  rotate_left
  · simp only [Act.put, List.setIfInBounds_toArray, List.set_cons_zero, List.set_cons_succ, i64_w, i32_w]
    rfl
  refine pure_ (i := 6) (N := some 128) (v := ?_) (a' := ?_) #[true, true, true, false, true, true, true, false, false, false, false, false, false, false, false, false, false, false, false, false, false, false, false, false, false, false] rfl rfl (by kernel_rfl) (fun _ _ _ h => h) (Or.inl ⟨by rfl, ?_⟩) ?_ ?_
  rotate_left
  · intro w'
    go_simp
    with_reducible rfl
  rotate_left
  · simp only [Act.put, List.setIfInBounds_toArray, List.set_cons_zero, List.set_cons_succ, i64_w, i32_w]
    rfl
  refine pure_ (i := 9) (N := some 131) (v := ?_) (a' := ?_) #[true, true, true, false, true, true, true, false, false, true, false, false, false, false, false, false, false, false, false, false, false, false, false, false, false, false] rfl rfl (by kernel_rfl) (fun _ _ _ h => h) (Or.inl ⟨by rfl, ?_⟩) ?_ ?_
  rotate_left
  · intro w'
    go_simp
    with_reducible rfl
  rotate_left
  · simp only [Act.put, List.setIfInBounds_toArray, List.set_cons_zero, List.set_cons_succ, i64_w, i32_w]
    rfl
  refine pure_ (i := 10) (N := some 132) (v := ?_) (a' := ?_) #[true, true, true, false, true, true, true, false, false, true, true, false, false, false, false, false, false, false, false, false, false, false, false, false, false, false] rfl rfl (by kernel_rfl) (fun _ _ _ h => h) (Or.inl ⟨by rfl, ?_⟩) ?_ ?_
  rotate_left
  · intro w'
    go_simp
    with_reducible rfl
  rotate_left
  · simp only [Act.put, List.setIfInBounds_toArray, List.set_cons_zero, List.set_cons_succ, i64_w, i32_w]
    rfl
  refine pure_ (i := 11) (N := some 133) (v := ?_) (a' := ?_) #[true, true, true, false, true, true, true, false, false, true, true, true, false, false, false, false, false, false, false, false, false, false, false, false, false, false] rfl rfl (by kernel_rfl) (fun _ _ _ h => h) (Or.inl ⟨by rfl, ?_⟩) ?_ ?_
  rotate_left
  · intro w'
    go_simp
    with_reducible rfl
  rotate_left
  · simp only [Act.put, List.setIfInBounds_toArray, List.set_cons_zero, List.set_cons_succ, i64_w, i32_w]
    rfl
  refine pure_ (i := 12) (N := some 134) (v := ?_) (a' := ?_) #[true, true, true, false, true, true, true, false, false, true, true, true, true, false, false, false, false, false, false, false, false, false, false, false, false, false] rfl rfl (by kernel_rfl) (fun _ _ _ h => h) (Or.inl ⟨by rfl, ?_⟩) ?_ ?_
  rotate_left
  · intro w'
    go_simp
    with_reducible rfl
  rotate_left
  · simp only [Act.put, List.setIfInBounds_toArray, List.set_cons_zero, List.set_cons_succ, i64_w, i32_w]
    rfl
  refine pure_ (i := 13) (N := some 135) (v := ?_) (a' := ?_) #[true, true, true, false, true, true, true, false, false, true, true, true, true, true, false, false, false, false, false, false, false, false, false, false, false, false] rfl rfl (by kernel_rfl) (fun _ _ _ h => h) (Or.inl ⟨by rfl, ?_⟩) ?_ ?_
  rotate_left
  · intro w'
    go_simp
    with_reducible rfl
  rotate_left
  · simp only [Act.put, List.setIfInBounds_toArray, List.set_cons_zero, List.set_cons_succ, i64_w, i32_w]
    rfl
  refine take_ (i := 3) (N := some 125) (v := ?_) (a' := ?_) #[true, true, true, true, true, true, true, false, false, true, true, true, true, true, false, false, false, false, false, false, false, false, false, false, false, false] rfl rfl (by kernel_rfl) (fun _ _ _ h => h) (Or.inl ⟨by rfl, ?_⟩) hHeld ?_ ?_
  rotate_left
  · rintro w' ⟨s0, s1⟩
    go_simp
    with_reducible rfl
  rotate_left
  · simp only [Act.put, List.setIfInBounds_toArray, List.set_cons_zero, List.set_cons_succ, i64_w, i32_w]
    rfl
  refine take_ (i := 7) (N := some 129) (v := ?_) (a' := ?_) #[true, true, true, true, true, true, true, true, false, true, true, true, true, true, false, false, false, false, false, false, false, false, false, false, false, false] rfl rfl (by kernel_rfl) (fun _ _ _ h => h) (Or.inl ⟨by rfl, ?_⟩) hHeld ?_ ?_
  rotate_left
  · rintro w' ⟨s0, s1⟩
    go_simp
    with_reducible rfl
  rotate_left
  · simp only [Act.put, List.setIfInBounds_toArray, List.set_cons_zero, List.set_cons_succ, i64_w, i32_w]
    rfl
  refine pure_ (i := 8) (N := some 130) (v := ?_) (a' := ?_) #[true, true, true, true, true, true, true, true, true, true, true, true, true, true, false, false, false, false, false, false, false, false, false, false, false, false] rfl rfl (by kernel_rfl) (fun _ _ _ h => h) (Or.inl ⟨by rfl, ?_⟩) ?_ ?_
  rotate_left
  · intro w'
    go_simp
    with_reducible rfl
  rotate_left
  · simp only [Act.put, List.setIfInBounds_toArray, List.set_cons_zero, List.set_cons_succ, i64_w, i32_w]
    rfl
  refine take_ (i := 14) (N := some 136) (v := ?_) (a' := ?_) #[true, true, true, true, true, true, true, true, true, true, true, true, true, true, true, false, false, false, false, false, false, false, false, false, false, false] rfl rfl (by kernel_rfl) (fun _ _ _ h => h) (Or.inl ⟨by rfl, ?_⟩) hHeld ?_ ?_
  rotate_left
  · rintro w' ⟨s0, s1⟩
    go_simp
    with_reducible rfl
  rotate_left
  · simp only [Act.put, List.setIfInBounds_toArray, List.set_cons_zero, List.set_cons_succ, i64_w, i32_w]
    rfl
  refine pure_ (i := 15) (N := some 137) (v := ?_) (a' := ?_) #[true, true, true, true, true, true, true, true, true, true, true, true, true, true, true, true, false, false, false, false, false, false, false, false, false, false] rfl rfl (by kernel_rfl) (fun _ _ _ h => h) (Or.inl ⟨by rfl, ?_⟩) ?_ ?_
  rotate_left
  · intro w'
    go_simp
    with_reducible rfl
  rotate_left
  · simp only [Act.put, List.setIfInBounds_toArray, List.set_cons_zero, List.set_cons_succ, i64_w, i32_w]
    rfl
  refine pure_ (i := 16) (N := some 138) (v := ?_) (a' := ?_) #[true, true, true, true, true, true, true, true, true, true, true, true, true, true, true, true, true, false, false, false, false, false, false, false, false, false] rfl rfl (by kernel_rfl) (fun _ _ _ h => h) (Or.inl ⟨by rfl, ?_⟩) ?_ ?_
  rotate_left
  · intro w'
    go_simp
    with_reducible rfl
  rotate_left
  · simp only [Act.put, List.setIfInBounds_toArray, List.set_cons_zero, List.set_cons_succ, i64_w, i32_w]
    rfl
  refine pure_ (i := 17) (N := some 139) (v := undef) (a' := ?_) #[true, true, true, true, true, true, true, true, true, true, true, true, true, true, true, true, true, true, false, false, false, false, false, false, false, false] rfl rfl (by kernel_rfl) (fun _ _ _ h => h) (Or.inr ⟨by rfl, rfl⟩) ?_ ?_
  rotate_left
  · simp only [Act.put, List.setIfInBounds_toArray, List.set_cons_zero, List.set_cons_succ, i64_w, i32_w]
    rfl
  refine pure_ (i := 18) (N := some 140) (v := undef) (a' := ?_) #[true, true, true, true, true, true, true, true, true, true, true, true, true, true, true, true, true, true, true, false, false, false, false, false, false, false] rfl rfl (by kernel_rfl) (fun _ _ _ h => h) (Or.inr ⟨by rfl, rfl⟩) ?_ ?_
  rotate_left
  · simp only [Act.put, List.setIfInBounds_toArray, List.set_cons_zero, List.set_cons_succ, i64_w, i32_w]
    rfl
  refine pure_ (i := 19) (N := some 141) (v := undef) (a' := ?_) #[true, true, true, true, true, true, true, true, true, true, true, true, true, true, true, true, true, true, true, true, false, false, false, false, false, false] rfl rfl (by kernel_rfl) (fun _ _ _ h => h) (Or.inr ⟨by rfl, rfl⟩) ?_ ?_
  rotate_left
  · simp only [Act.put, List.setIfInBounds_toArray, List.set_cons_zero, List.set_cons_succ, i64_w, i32_w]
    rfl
  refine pure_ (i := 20) (N := some 142) (v := undef) (a' := ?_) #[true, true, true, true, true, true, true, true, true, true, true, true, true, true, true, true, true, true, true, true, true, false, false, false, false, false] rfl rfl (by kernel_rfl) (fun _ _ _ h => h) (Or.inr ⟨by rfl, rfl⟩) ?_ ?_
  rotate_left
  · simp only [Act.put, List.setIfInBounds_toArray, List.set_cons_zero, List.set_cons_succ, i64_w, i32_w]
    rfl
  refine pure_ (i := 21) (N := some 143) (v := undef) (a' := ?_) #[true, true, true, true, true, true, true, true, true, true, true, true, true, true, true, true, true, true, true, true, true, true, false, false, false, false] rfl rfl (by kernel_rfl) (fun _ _ _ h => h) (Or.inr ⟨by rfl, rfl⟩) ?_ ?_
  rotate_left
  · simp only [Act.put, List.setIfInBounds_toArray, List.set_cons_zero, List.set_cons_succ, i64_w, i32_w]
    rfl
  refine pure_ (i := 22) (N := some 144) (v := ?_) (a' := ?_) #[true, true, true, true, true, true, true, true, true, true, true, true, true, true, true, true, true, true, true, true, true, true, true, false, false, false] rfl rfl (by kernel_rfl) (fun _ _ _ h => h) (Or.inl ⟨by rfl, ?_⟩) ?_ ?_
  rotate_left
  · intro w'
    go_simp
    with_reducible rfl
  rotate_left
  · simp only [Act.put, List.setIfInBounds_toArray, List.set_cons_zero, List.set_cons_succ, i64_w, i32_w]
    rfl
  refine pure_ (i := 23) (N := some 145) (v := ?_) (a' := ?_) #[true, true, true, true, true, true, true, true, true, true, true, true, true, true, true, true, true, true, true, true, true, true, true, true, false, false] rfl rfl (by kernel_rfl) (fun _ _ _ h => h) (Or.inl ⟨by rfl, ?_⟩) ?_ ?_
  rotate_left
  · intro w'
    go_simp
    with_reducible rfl
  rotate_left
  · simp only [Act.put, List.setIfInBounds_toArray, List.set_cons_zero, List.set_cons_succ, i64_w, i32_w]
    rfl
  refine one_ (i := 24) (N := none) #[true, true, true, true, true, true, true, true, true, true, true, true, true, true, true, true, true, true, true, true, true, true, true, true, true, false] rfl rfl (by kernel_rfl) (by decide) (fun K hK => ?_)
  refine skip_ (w1 := ?_) (by rfl) rfl ?_ ?_
  rotate_left
  · go_simp
    rfl
  refine hK.out _ _ ⟨(by go_keep), (by go_keep)⟩ (fun hHeld => ?_)
  clear hK K
  refine pure_ (i := 25) (N := some 3) (v := ?_) (a' := ?_) #[true, true, true, true, true, true, true, true, true, true, true, true, true, true, true, true, true, true, true, true, true, true, true, true, true, true] rfl rfl (by kernel_rfl) (fun _ _ _ h => h) (Or.inl ⟨by rfl, ?_⟩) ?_ ?_
  rotate_left
  · intro w'
    go_simp
    with_reducible rfl
  rotate_left
  · simp only [Act.put, List.setIfInBounds_toArray, List.set_cons_zero, List.set_cons_succ, i64_w, i32_w]
    rfl
  refine done_ (by kernel_rfl) ?_
  go_wp2_with (first | (go_at_call 79; refine (between_calls _ _ _ _).mono ?_; rintro e w1 ⟨nd, rfl, rfl⟩))
  all_goals (go_returns; refine ⟨by simp [ownN, aggN, CdNote.nullD, HC.out, HD.out], ?_⟩; (repeat (with_reducible (first | exact Below.refl _ _ | exact below_new _ | apply below_set | apply Below.drew | apply pw_below_drewN))))

set_option linter.unusedSimpArgs false in
set_option linter.unusedVariables false in
set_option maxHeartbeats 4000000 in
set_option maxRecDepth 100000 in
theorem own2n (w : World) (g : Nat) (kind inst step state part cause : Int) (key name : ByteArray) (version : Int) (text : ByteArray) (hg0 : w.heap[g]? = some (.cells (CdNote.cells ⟨kind, inst, step, state, part, cause, key, name, version, text⟩) 60 (0, 0)))
    (hs : key.size ≤ 9000000000000000000 ∧ name.size ≤ 9000000000000000000) (hk : kind = 2) (hb : Nm.isName key = false) :
    Calls Try.prog 108 #[.pointer (some ⟨g, 0, none⟩)] w fun e w' => e = .returned (.tuple #[aggN (ownN ⟨kind, inst, step, state, part, cause, key, name, version, text⟩).1, .bool (ownN ⟨kind, inst, step, state, part, cause, key, name, version, text⟩).2]) ∧ Below w.heap.size w w' := by
  have hc0 : w.cell? ⟨g, 0, none⟩ = some (.int .i64 kind) := row_cell hg0 rfl
  have hc1 : w.cell? ⟨g, 1, none⟩ = some (.int .i64 inst) := row_cell hg0 rfl
  have hc2 : w.cell? ⟨g, 2, none⟩ = some (.int .i64 step) := row_cell hg0 rfl
  have hc3 : w.cell? ⟨g, 3, none⟩ = some (.int .i64 state) := row_cell hg0 rfl
  have hc4 : w.cell? ⟨g, 4, none⟩ = some (.int .i64 part) := row_cell hg0 rfl
  have hc5 : w.cell? ⟨g, 5, none⟩ = some (.int .i64 cause) := row_cell hg0 rfl
  have hc6 : w.cell? ⟨g, 6, none⟩ = some (.string key) := row_cell hg0 rfl
  have hc7 : w.cell? ⟨g, 7, none⟩ = some (.string name) := row_cell hg0 rfl
  have hc8 : w.cell? ⟨g, 8, none⟩ = some (.int .i64 version) := row_cell hg0 rfl
  have hc9 : w.cell? ⟨g, 9, none⟩ = some (.string text) := row_cell hg0 rfl
  have hlt : g < w.heap.size := (Array.getElem?_eq_some_iff.1 hg0).1
  have hne : g ≠ w.heap.size := Nat.ne_of_lt hlt
  have hnew' : w.heap.size ≠ g := Ne.symm hne
  have hnew := World.new_ne w ⟨g, 0, none⟩ hc0
  clear hg0

  obtain rfl : kind = 2 := hk
  have HB := Aside0.mk (And.intro hs.1 hb)
  clear hb hs
  go_enter Try.func108, Try.ntmps108
  go_wp2_with (first | (go_at_call 79; refine (between_calls _ _ _ _).mono ?_; rintro e w1 ⟨nd, rfl, rfl⟩))
  refine start_ (n := 34) (S := fun w' => w'.cell? ⟨g, 6, none⟩ = some (.string key) ∧ w'.cell? ⟨g, 7, none⟩ = some (.string name) ∧ w'.cell? ⟨g, 8, none⟩ = some (.int .i64 version) ∧ w'.heap[w.heap.size]? = some (.cells #[.int .i64 0, .int .i64 0, .int .i64 0, .int .i64 0, .int .i64 0, .int .i64 0, .string ⟨#[]⟩, .string ⟨#[]⟩, .int .i64 0, .string ⟨#[]⟩] 60 (0, 0))) (ds := [32]) #[false, false, false, false, false, false, false, false, false, false, false, false, false, false, false, false, false, false, false, false, false, false, false, false, false, false, false, false, false, false, false, false, false, false] (by kernel_rfl) rfl rfl ⟨(by go_keep), (by go_keep), (by go_keep), (alloc_row w)⟩ (fun hHeld => ?_)
  refine pure_ (i := 0) (N := some 24) (v := ?_) (a' := ?_) #[true, false, false, false, false, false, false, false, false, false, false, false, false, false, false, false, false, false, false, false, false, false, false, false, false, false, false, false, false, false, false, false, false, false] rfl rfl (by kernel_rfl) (fun _ _ _ h => h) (Or.inl ⟨by rfl, ?_⟩) ?_ ?_
  rotate_left
  · intro w'
    go_simp
    with_reducible rfl
  rotate_left
  · simp only [Act.put, List.setIfInBounds_toArray, List.set_cons_zero, List.set_cons_succ, i64_w, i32_w]
    rfl
  refine pure_ (i := 1) (N := some 25) (v := ?_) (a' := ?_) #[true, true, false, false, false, false, false, false, false, false, false, false, false, false, false, false, false, false, false, false, false, false, false, false, false, false, false, false, false, false, false, false, false, false] rfl rfl (by kernel_rfl) (fun _ _ _ h => h) (Or.inl ⟨by rfl, ?_⟩) ?_ ?_
  rotate_left
  · intro w'
    go_simp
    with_reducible rfl
  rotate_left
  · simp only [Act.put, List.setIfInBounds_toArray, List.set_cons_zero, List.set_cons_succ, i64_w, i32_w]
    rfl
  refine pure_ (i := 2) (N := some 26) (v := ?_) (a' := ?_) #[true, true, true, false, false, false, false, false, false, false, false, false, false, false, false, false, false, false, false, false, false, false, false, false, false, false, false, false, false, false, false, false, false, false] rfl rfl (by kernel_rfl) (fun _ _ _ h => h) (Or.inl ⟨by rfl, ?_⟩) ?_ ?_
  rotate_left
  · intro w'
    go_simp
    with_reducible rfl
  rotate_left
  · simp only [Act.put, List.setIfInBounds_toArray, List.set_cons_zero, List.set_cons_succ, i64_w, i32_w]
    rfl
  refine pure_ (i := 4) (N := some 28) (v := ?_) (a' := ?_) #[true, true, true, false, true, false, false, false, false, false, false, false, false, false, false, false, false, false, false, false, false, false, false, false, false, false, false, false, false, false, false, false, false, false] rfl rfl (by kernel_rfl) (fun _ _ _ h => h) (Or.inl ⟨by rfl, ?_⟩) ?_ ?_
  rotate_left
  · intro w'
    go_simp
    with_reducible rfl
  rotate_left
  · simp only [Act.put, List.setIfInBounds_toArray, List.set_cons_zero, List.set_cons_succ, i64_w, i32_w]
    rfl
  refine pure_ (i := 5) (N := some 29) (v := ?_) (a' := ?_) #[true, true, true, false, true, true, false, false, false, false, false, false, false, false, false, false, false, false, false, false, false, false, false, false, false, false, false, false, false, false, false, false, false, false] rfl rfl (by kernel_rfl) (fun _ _ _ h => h) (Or.inl ⟨by rfl, ?_⟩) ?_ ?_
  rotate_left
  · intro w'
    go_simp
    with_reducible rfl
  rotate_left
  · simp only [Act.put, List.setIfInBounds_toArray, List.set_cons_zero, List.set_cons_succ, i64_w, i32_w]
    rfl
  refine pure_ (i := 6) (N := some 30) (v := ?_) (a' := ?_) #[true, true, true, false, true, true, true, false, false, false, false, false, false, false, false, false, false, false, false, false, false, false, false, false, false, false, false, false, false, false, false, false, false, false] rfl rfl (by kernel_rfl) (fun _ _ _ h => h) (Or.inl ⟨by rfl, ?_⟩) ?_ ?_
  rotate_left
  · intro w'
    go_simp
    with_reducible rfl
  rotate_left
  · simp only [Act.put, List.setIfInBounds_toArray, List.set_cons_zero, List.set_cons_succ, i64_w, i32_w]
    rfl
  refine pure_ (i := 8) (N := some 32) (v := ?_) (a' := ?_) #[true, true, true, false, true, true, true, false, true, false, false, false, false, false, false, false, false, false, false, false, false, false, false, false, false, false, false, false, false, false, false, false, false, false] rfl rfl (by kernel_rfl) (fun _ _ _ h => h) (Or.inl ⟨by rfl, ?_⟩) ?_ ?_
  rotate_left
  · intro w'
    go_simp
    with_reducible rfl
  rotate_left
  · simp only [Act.put, List.setIfInBounds_toArray, List.set_cons_zero, List.set_cons_succ, i64_w, i32_w]
    rfl
  refine pure_ (i := 9) (N := some 33) (v := ?_) (a' := ?_) #[true, true, true, false, true, true, true, false, true, true, false, false, false, false, false, false, false, false, false, false, false, false, false, false, false, false, false, false, false, false, false, false, false, false] rfl rfl (by kernel_rfl) (fun _ _ _ h => h) (Or.inl ⟨by rfl, ?_⟩) ?_ ?_
  rotate_left
  · intro w'
    go_simp
    with_reducible rfl
  rotate_left
  · simp only [Act.put, List.setIfInBounds_toArray, List.set_cons_zero, List.set_cons_succ, i64_w, i32_w]
    rfl
  refine pure_ (i := 10) (N := some 34) (v := ?_) (a' := ?_) #[true, true, true, false, true, true, true, false, true, true, true, false, false, false, false, false, false, false, false, false, false, false, false, false, false, false, false, false, false, false, false, false, false, false] rfl rfl (by kernel_rfl) (fun _ _ _ h => h) (Or.inl ⟨by rfl, ?_⟩) ?_ ?_
  rotate_left
  · intro w'
    go_simp
    with_reducible rfl
  rotate_left
  · simp only [Act.put, List.setIfInBounds_toArray, List.set_cons_zero, List.set_cons_succ, i64_w, i32_w]
    rfl
  refine pure_ (i := 13) (N := some 37) (v := ?_) (a' := ?_) #[true, true, true, false, true, true, true, false, true, true, true, false, false, true, false, false, false, false, false, false, false, false, false, false, false, false, false, false, false, false, false, false, false, false] rfl rfl (by kernel_rfl) (fun _ _ _ h => h) (Or.inl ⟨by rfl, ?_⟩) ?_ ?_
  rotate_left
  · intro w'
    go_simp
    with_reducible rfl
  rotate_left
  · simp only [Act.put, List.setIfInBounds_toArray, List.set_cons_zero, List.set_cons_succ, i64_w, i32_w]
    rfl
  refine pure_ (i := 14) (N := some 38) (v := ?_) (a' := ?_) #[true, true, true, false, true, true, true, false, true, true, true, false, false, true, true, false, false, false, false, false, false, false, false, false, false, false, false, false, false, false, false, false, false, false] rfl rfl (by kernel_rfl) (fun _ _ _ h => h) (Or.inl ⟨by rfl, ?_⟩) ?_ ?_
  rotate_left
  · intro w'
    go_simp
    with_reducible rfl
  rotate_left
  · simp only [Act.put, List.setIfInBounds_toArray, List.set_cons_zero, List.set_cons_succ, i64_w, i32_w]
    rfl
  refine pure_ (i := 15) (N := some 39) (v := ?_) (a' := ?_) #[true, true, true, false, true, true, true, false, true, true, true, false, false, true, true, true, false, false, false, false, false, false, false, false, false, false, false, false, false, false, false, false, false, false] rfl rfl (by kernel_rfl) (fun _ _ _ h => h) (Or.inl ⟨by rfl, ?_⟩) ?_ ?_
  rotate_left
  · intro w'
    go_simp
    with_reducible rfl
  rotate_left
  · simp only [Act.put, List.setIfInBounds_toArray, List.set_cons_zero, List.set_cons_succ, i64_w, i32_w]
    rfl
  refine take_ (i := 3) (N := some 27) (v := ?_) (a' := ?_) #[true, true, true, true, true, true, true, false, true, true, true, false, false, true, true, true, false, false, false, false, false, false, false, false, false, false, false, false, false, false, false, false, false, false] rfl rfl (by kernel_rfl) (fun _ _ _ h => h) (Or.inl ⟨by rfl, ?_⟩) hHeld ?_ ?_
  rotate_left
  · rintro w' ⟨s0, s1, s2, s3⟩
    go_simp
    with_reducible rfl
  rotate_left
  · simp only [Act.put, List.setIfInBounds_toArray, List.set_cons_zero, List.set_cons_succ, i64_w, i32_w]
    rfl
  refine take_ (i := 7) (N := some 31) (v := ?_) (a' := ?_) #[true, true, true, true, true, true, true, true, true, true, true, false, false, true, true, true, false, false, false, false, false, false, false, false, false, false, false, false, false, false, false, false, false, false] rfl rfl (by kernel_rfl) (fun _ _ _ h => h) (Or.inl ⟨by rfl, ?_⟩) hHeld ?_ ?_
  rotate_left
  · rintro w' ⟨s0, s1, s2, s3⟩
    go_simp
    with_reducible rfl
  rotate_left
  · simp only [Act.put, List.setIfInBounds_toArray, List.set_cons_zero, List.set_cons_succ, i64_w, i32_w]
    rfl
  refine take_ (i := 11) (N := some 35) (v := ?_) (a' := ?_) #[true, true, true, true, true, true, true, true, true, true, true, true, false, true, true, true, false, false, false, false, false, false, false, false, false, false, false, false, false, false, false, false, false, false] rfl rfl (by kernel_rfl) (fun _ _ _ h => h) (Or.inl ⟨by rfl, ?_⟩) hHeld ?_ ?_
  rotate_left
  · rintro w' ⟨s0, s1, s2, s3⟩
    go_simp
    with_reducible rfl
  rotate_left
  · simp only [Act.put, List.setIfInBounds_toArray, List.set_cons_zero, List.set_cons_succ, i64_w, i32_w]
    rfl
  refine pure_ (i := 12) (N := some 36) (v := ?_) (a' := ?_) #[true, true, true, true, true, true, true, true, true, true, true, true, true, true, true, true, false, false, false, false, false, false, false, false, false, false, false, false, false, false, false, false, false, false] rfl rfl (by kernel_rfl) (fun _ _ _ h => h) (Or.inl ⟨by rfl, ?_⟩) ?_ ?_
  rotate_left
  · intro w'
    go_simp
    with_reducible rfl
  rotate_left
  · simp only [Act.put, List.setIfInBounds_toArray, List.set_cons_zero, List.set_cons_succ, i64_w, i32_w]
    rfl
  refine take_ (i := 16) (N := some 40) (v := ?_) (a' := ?_) #[true, true, true, true, true, true, true, true, true, true, true, true, true, true, true, true, true, false, false, false, false, false, false, false, false, false, false, false, false, false, false, false, false, false] rfl rfl (by kernel_rfl) (fun _ _ _ h => h) (Or.inl ⟨by rfl, ?_⟩) hHeld ?_ ?_
  rotate_left
  · rintro w' ⟨s0, s1, s2, s3⟩
    go_simp
    with_reducible rfl
  rotate_left
  · simp only [Act.put, List.setIfInBounds_toArray, List.set_cons_zero, List.set_cons_succ, i64_w, i32_w]
    rfl
  refine one_ (i := 17) (N := some 41) #[true, true, true, true, true, true, true, true, true, true, true, true, true, true, true, true, true, true, false, false, false, false, false, false, false, false, false, false, false, false, false, false, false, false] rfl rfl (by kernel_rfl) (by decide) (fun K hK => ?_)
  refine goes_ Try.func87 (by kernel_rfl) rfl #[.string key] (by rfl) rfl rfl (by simp only [List.map_toArray, List.map_cons, List.map_nil]; rfl) ?_
  with_reducible refine (is_b _ _ _ HB.out.1 HB.out.2).mono ?_
  rintro e w3 ⟨rfl, hbe⟩
  refine ⟨_, rfl, ?_⟩
  refine hK.out _ _ ⟨(cell_below' hbe hHeld.1), (cell_below' hbe hHeld.2.1), (cell_below' hbe hHeld.2.2.1), (row_below hbe hHeld.2.2.2)⟩ (fun hHeld => ?_)
  clear hK K
  refine norm_ (a' := ?_) ?_ ?_
  rotate_left
  · show Act.put _ (some 41) _ = _
    simp only [Act.put, List.setIfInBounds_toArray, List.set_cons_zero, List.set_cons_succ, i64_w, i32_w]
    rfl
  refine pure_ (i := 18) (N := some 42) (v := ?_) (a' := ?_) #[true, true, true, true, true, true, true, true, true, true, true, true, true, true, true, true, true, true, true, false, false, false, false, false, false, false, false, false, false, false, false, false, false, false] rfl rfl (by kernel_rfl) (fun _ _ _ h => h) (Or.inl ⟨by rfl, ?_⟩) ?_ ?_
  rotate_left
  · intro w'
    go_simp
    with_reducible rfl
  rotate_left
  · simp only [Act.put, List.setIfInBounds_toArray, List.set_cons_zero, List.set_cons_succ, i64_w, i32_w]
    rfl
  refine pure_ (i := 19) (N := some 43) (v := undef) (a' := ?_) #[true, true, true, true, true, true, true, true, true, true, true, true, true, true, true, true, true, true, true, true, false, false, false, false, false, false, false, false, false, false, false, false, false, false] rfl rfl (by kernel_rfl) (fun _ _ _ h => h) (Or.inr ⟨by rfl, rfl⟩) ?_ ?_
  rotate_left
  · simp only [Act.put, List.setIfInBounds_toArray, List.set_cons_zero, List.set_cons_succ, i64_w, i32_w]
    rfl
  refine pure_ (i := 20) (N := some 44) (v := undef) (a' := ?_) #[true, true, true, true, true, true, true, true, true, true, true, true, true, true, true, true, true, true, true, true, true, false, false, false, false, false, false, false, false, false, false, false, false, false] rfl rfl (by kernel_rfl) (fun _ _ _ h => h) (Or.inr ⟨by rfl, rfl⟩) ?_ ?_
  rotate_left
  · simp only [Act.put, List.setIfInBounds_toArray, List.set_cons_zero, List.set_cons_succ, i64_w, i32_w]
    rfl
  refine pure_ (i := 21) (N := some 45) (v := undef) (a' := ?_) #[true, true, true, true, true, true, true, true, true, true, true, true, true, true, true, true, true, true, true, true, true, true, false, false, false, false, false, false, false, false, false, false, false, false] rfl rfl (by kernel_rfl) (fun _ _ _ h => h) (Or.inr ⟨by rfl, rfl⟩) ?_ ?_
  rotate_left
  · simp only [Act.put, List.setIfInBounds_toArray, List.set_cons_zero, List.set_cons_succ, i64_w, i32_w]
    rfl
  refine pure_ (i := 22) (N := some 46) (v := undef) (a' := ?_) #[true, true, true, true, true, true, true, true, true, true, true, true, true, true, true, true, true, true, true, true, true, true, true, false, false, false, false, false, false, false, false, false, false, false] rfl rfl (by kernel_rfl) (fun _ _ _ h => h) (Or.inr ⟨by rfl, rfl⟩) ?_ ?_
  rotate_left
  · simp only [Act.put, List.setIfInBounds_toArray, List.set_cons_zero, List.set_cons_succ, i64_w, i32_w]
    rfl
  refine pure_ (i := 23) (N := some 47) (v := undef) (a' := ?_) #[true, true, true, true, true, true, true, true, true, true, true, true, true, true, true, true, true, true, true, true, true, true, true, true, false, false, false, false, false, false, false, false, false, false] rfl rfl (by kernel_rfl) (fun _ _ _ h => h) (Or.inr ⟨by rfl, rfl⟩) ?_ ?_
  rotate_left
  · simp only [Act.put, List.setIfInBounds_toArray, List.set_cons_zero, List.set_cons_succ, i64_w, i32_w]
    rfl
  refine pure_ (i := 24) (N := some 48) (v := ?_) (a' := ?_) #[true, true, true, true, true, true, true, true, true, true, true, true, true, true, true, true, true, true, true, true, true, true, true, true, true, false, false, false, false, false, false, false, false, false] rfl rfl (by kernel_rfl) (fun _ _ _ h => h) (Or.inl ⟨by rfl, ?_⟩) ?_ ?_
  rotate_left
  · intro w'
    go_simp
    with_reducible rfl
  rotate_left
  · simp only [Act.put, List.setIfInBounds_toArray, List.set_cons_zero, List.set_cons_succ, i64_w, i32_w]
    rfl
  refine pure_ (i := 25) (N := some 49) (v := ?_) (a' := ?_) #[true, true, true, true, true, true, true, true, true, true, true, true, true, true, true, true, true, true, true, true, true, true, true, true, true, true, false, false, false, false, false, false, false, false] rfl rfl (by kernel_rfl) (fun _ _ _ h => h) (Or.inl ⟨by rfl, ?_⟩) ?_ ?_
  rotate_left
  · intro w'
    go_simp
    with_reducible rfl
  rotate_left
  · simp only [Act.put, List.setIfInBounds_toArray, List.set_cons_zero, List.set_cons_succ, i64_w, i32_w]
    rfl
  refine pure_ (i := 26) (N := some 50) (v := undef) (a' := ?_) #[true, true, true, true, true, true, true, true, true, true, true, true, true, true, true, true, true, true, true, true, true, true, true, true, true, true, true, false, false, false, false, false, false, false] rfl rfl (by kernel_rfl) (fun _ _ _ h => h) (Or.inr ⟨by rfl, rfl⟩) ?_ ?_
  rotate_left
  · simp only [Act.put, List.setIfInBounds_toArray, List.set_cons_zero, List.set_cons_succ, i64_w, i32_w]
    rfl
  refine pure_ (i := 27) (N := some 51) (v := undef) (a' := ?_) #[true, true, true, true, true, true, true, true, true, true, true, true, true, true, true, true, true, true, true, true, true, true, true, true, true, true, true, true, false, false, false, false, false, false] rfl rfl (by kernel_rfl) (fun _ _ _ h => h) (Or.inr ⟨by rfl, rfl⟩) ?_ ?_
  rotate_left
  · simp only [Act.put, List.setIfInBounds_toArray, List.set_cons_zero, List.set_cons_succ, i64_w, i32_w]
    rfl
  refine pure_ (i := 28) (N := some 52) (v := undef) (a' := ?_) #[true, true, true, true, true, true, true, true, true, true, true, true, true, true, true, true, true, true, true, true, true, true, true, true, true, true, true, true, true, false, false, false, false, false] rfl rfl (by kernel_rfl) (fun _ _ _ h => h) (Or.inr ⟨by rfl, rfl⟩) ?_ ?_
  rotate_left
  · simp only [Act.put, List.setIfInBounds_toArray, List.set_cons_zero, List.set_cons_succ, i64_w, i32_w]
    rfl
  refine pure_ (i := 29) (N := some 53) (v := undef) (a' := ?_) #[true, true, true, true, true, true, true, true, true, true, true, true, true, true, true, true, true, true, true, true, true, true, true, true, true, true, true, true, true, true, false, false, false, false] rfl rfl (by kernel_rfl) (fun _ _ _ h => h) (Or.inr ⟨by rfl, rfl⟩) ?_ ?_
  rotate_left
  · simp only [Act.put, List.setIfInBounds_toArray, List.set_cons_zero, List.set_cons_succ, i64_w, i32_w]
    rfl
  refine pure_ (i := 30) (N := some 54) (v := undef) (a' := ?_) #[true, true, true, true, true, true, true, true, true, true, true, true, true, true, true, true, true, true, true, true, true, true, true, true, true, true, true, true, true, true, true, false, false, false] rfl rfl (by kernel_rfl) (fun _ _ _ h => h) (Or.inr ⟨by rfl, rfl⟩) ?_ ?_
  rotate_left
  · simp only [Act.put, List.setIfInBounds_toArray, List.set_cons_zero, List.set_cons_succ, i64_w, i32_w]
    rfl
  refine pure_ (i := 31) (N := some 55) (v := ?_) (a' := ?_) #[true, true, true, true, true, true, true, true, true, true, true, true, true, true, true, true, true, true, true, true, true, true, true, true, true, true, true, true, true, true, true, true, false, false] rfl rfl (by kernel_rfl) (fun _ _ _ h => h) (Or.inl ⟨by rfl, ?_⟩) ?_ ?_
  rotate_left
  · intro w'
    go_simp
    with_reducible rfl
  rotate_left
  · simp only [Act.put, List.setIfInBounds_toArray, List.set_cons_zero, List.set_cons_succ, i64_w, i32_w]
    rfl
  refine last_ (i := 32) (N := none) #[true, true, true, true, true, true, true, true, true, true, true, true, true, true, true, true, true, true, true, true, true, true, true, true, true, true, true, true, true, true, true, true, true, false] rfl rfl (by kernel_rfl) (by decide) (fun K hK => ?_)
  have hs0_ : w3.cell? ⟨w.heap.size, 0, none⟩ = some (.int .i64 0) := row_cell hHeld.2.2.2 rfl
  have hf0_ : w3.frozen? ⟨w.heap.size, 0, none⟩ = false := free_of_row hHeld.2.2.2
  have hs1_ : w3.cell? ⟨w.heap.size, 1, none⟩ = some (.int .i64 0) := row_cell hHeld.2.2.2 rfl
  have hf1_ : w3.frozen? ⟨w.heap.size, 1, none⟩ = false := free_of_row hHeld.2.2.2
  have hs2_ : w3.cell? ⟨w.heap.size, 2, none⟩ = some (.int .i64 0) := row_cell hHeld.2.2.2 rfl
  have hf2_ : w3.frozen? ⟨w.heap.size, 2, none⟩ = false := free_of_row hHeld.2.2.2
  have hs3_ : w3.cell? ⟨w.heap.size, 3, none⟩ = some (.int .i64 0) := row_cell hHeld.2.2.2 rfl
  have hf3_ : w3.frozen? ⟨w.heap.size, 3, none⟩ = false := free_of_row hHeld.2.2.2
  have hs4_ : w3.cell? ⟨w.heap.size, 4, none⟩ = some (.int .i64 0) := row_cell hHeld.2.2.2 rfl
  have hf4_ : w3.frozen? ⟨w.heap.size, 4, none⟩ = false := free_of_row hHeld.2.2.2
  have hs5_ : w3.cell? ⟨w.heap.size, 5, none⟩ = some (.int .i64 0) := row_cell hHeld.2.2.2 rfl
  have hf5_ : w3.frozen? ⟨w.heap.size, 5, none⟩ = false := free_of_row hHeld.2.2.2
  have hs6_ : w3.cell? ⟨w.heap.size, 6, none⟩ = some (.string ⟨#[]⟩) := row_cell hHeld.2.2.2 rfl
  have hf6_ : w3.frozen? ⟨w.heap.size, 6, none⟩ = false := free_of_row hHeld.2.2.2
  have hs7_ : w3.cell? ⟨w.heap.size, 7, none⟩ = some (.string ⟨#[]⟩) := row_cell hHeld.2.2.2 rfl
  have hf7_ : w3.frozen? ⟨w.heap.size, 7, none⟩ = false := free_of_row hHeld.2.2.2
  have hs8_ : w3.cell? ⟨w.heap.size, 8, none⟩ = some (.int .i64 0) := row_cell hHeld.2.2.2 rfl
  have hf8_ : w3.frozen? ⟨w.heap.size, 8, none⟩ = false := free_of_row hHeld.2.2.2
  have hs9_ : w3.cell? ⟨w.heap.size, 9, none⟩ = some (.string ⟨#[]⟩) := row_cell hHeld.2.2.2 rfl
  have hf9_ : w3.frozen? ⟨w.heap.size, 9, none⟩ = false := free_of_row hHeld.2.2.2
  refine skip_ (w1 := ?_) (by rfl) rfl ?_ ?_
  rotate_left
  · go_simp
    rfl
  refine hK.out _ _ ?_
  clear hK K
  refine pure_ (i := 33) (N := some 3) (v := ?_) (a' := ?_) #[true, true, true, true, true, true, true, true, true, true, true, true, true, true, true, true, true, true, true, true, true, true, true, true, true, true, true, true, true, true, true, true, true, true] rfl rfl (by kernel_rfl) (fun _ _ _ h => h) (Or.inl ⟨by rfl, ?_⟩) ?_ ?_
  rotate_left
  · intro w'
    go_simp
    with_reducible rfl
  rotate_left
  · simp only [Act.put, List.setIfInBounds_toArray, List.set_cons_zero, List.set_cons_succ, i64_w, i32_w]
    rfl
  refine done_ (by kernel_rfl) ?_
  go_wp2_with (first | (go_at_call 79; refine (between_calls _ _ _ _).mono ?_; rintro e w1 ⟨nd, rfl, rfl⟩))
  all_goals ((try simp only [Exit.inBlock, Exit.then]); refine bodyPost_ret (results_ct rfl _ _ w.heap.size 60 _ (0, 0) _ rfl (row10 hHeld.2.2.2 _ _ _ _ _ _ _ _ _ _) Try.underlying60 rfl (by kernel_rfl)) rfl ?_; refine ⟨by simp [ownN, aggN, CdNote.nullD, HB.out.2], ?_⟩; (repeat (with_reducible (first | exact Below.refl _ _ | exact below_new _ | apply below_set | apply Below.drew | apply pw_below_drewN | refine below_on ?_ hbe))))

end Go.Proofs.Ytejaepohkcjoiaa.CdMay
