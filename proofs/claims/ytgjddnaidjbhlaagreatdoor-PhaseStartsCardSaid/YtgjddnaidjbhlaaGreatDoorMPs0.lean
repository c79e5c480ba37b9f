/- Several texts in one, in build order: Opens, RowsK, Nm, NameWalk, CmpWalk, Cmp2, PlName, PlDef, PlKeys, PlNeeds, PlSl, PlAlone, PlFirst, PlReach, PlAlong, PlRing, LgMaps, PlHeld, PlCheckP, PlFour, PlCheck, PlWar, PlNoRing, PlState, PlGr, PlMade, PlThose, PlReady. -/
import Derived.Test.YtgjddnaidjbhlaaGreatDoorMPsWMore
import Derived.SizedLaws
import Derived.ChangeSlices
import Derived.Carry
import Derived.ChangeOld
import Derived.Laws.RangeAny
import Derived.Laws.Strings
import Derived.Test.YtgjddnaidjbhlaaGreatDoorProg
import Derived.WalkKit
import Derived.KernelRfl
import Derived.LoopTactic
import Derived.Outline
import Derived.IntWalk
import Derived.Laws.BitsLemmas
import Derived.Laws.BitsAll
import Derived.Laws.Shifts
import Derived.Lib.OthersKept
import Derived.WalkSmall
import Derived.Test.YtgjddnaidjbhlaaGreatDoorMPsShelf
import Derived.Deep.QuietTactic
import Derived.BigQuiet
import Derived.Handy
import Derived.Maps.Own
import Derived.Maps.OwnOps
import Derived.Maps.OwnSet
import Derived.Maps.Views
import Derived.Maps.RangeWalk
import Derived.Test.YtgjddnaidjbhlaaGreatDoorMPsWWords
import Derived.Test.YtgjddnaidjbhlaaGreatDoorMPsWLast
set_option linter.unusedVariables false
set_option linter.unusedSimpArgs false
namespace Go.Proofs.YtgjddnaidjbhlaaGreatDoor
theorem zA {α : Type} (l : List α) (i : Nat) (a : α) : l.toArray.setIfInBounds i a = (l.set i a).toArray := List.setIfInBounds_toArray ..
theorem zB {α : Type} (x : α) (l : List α) (a : α) : (x :: l).set 0 a = a :: l := List.set_cons_zero ..
theorem zC {α : Type} (x : α) (l : List α) (n : Nat) (a : α) : (x :: l).set (n + 1) a = x :: l.set n a := List.set_cons_succ ..
end Go.Proofs.YtgjddnaidjbhlaaGreatDoor
namespace Go.Proofs.YtgjddnaidjbhlaaGreatDoor
open Go.RowKit Go.Proofs.YtgjddnaidjbhlaaGreatDoorW.PrintWords Go.Proofs.YtgjddnaidjbhlaaGreatDoorW.PrintLast Go.Proofs.YtgjddnaidjbhlaaGreatDoorW.PrintMore
def zF : Nat → Nat → List Bool
  | 0, _ => []
  | n + 1, m => (m % 2 == 1) :: zF n (m / 2)
def zG (n m : Nat) : Array Bool := ⟨zF n m⟩
section
variable {P : Program} {ops : Array Oper} {Q : Exit → Act → World → Prop} {md : Region.Mode} {S : World → Prop} {ds : List Nat} {oi : Oper} {fuel : Nat} {l : Array Bool} {a : Act} {w : World} {a' : Act} {v : Value}
theorem zU (i : Nat) (t : Tmp) (n m : Nat) (h : wpAnyLast P md ops Q S ds fuel (zG n m) a' w) (hi : ops[i]? = some oi := by rfl) (hN : oi.dst = some t := by rfl) (hc : anyB md ops l (zG n m) i = true := by kernel_rfl)
    (hQ : ∀ c a w, Q (.panic c) (a.put oi.dst undef) w → Q (.panic c) a w := by exact fun _ _ _ h => h) (hy : Region.wanted oi (yielded ops a.tmps) = false := by rfl)
    (ha : a.put (some t) undef = a' := by simp only [Act.put, zA, zB, zC, i64_w, i32_w]; rfl) : wpAnyLast P md ops Q S ds (fuel + 1) l a w := pure_ _ hi hN hc hQ (Or.inr ⟨hy, rfl⟩) ha h
theorem zV (i : Nat) (t : Tmp) (n m : Nat) (h : wpAnyLast P md ops Q S ds fuel (zG n m) a' w) (hi : ops[i]? = some oi := by rfl) (hN : oi.dst = some t := by rfl) (hc : anyB md ops l (zG n m) i = true := by kernel_rfl)
    (hy0 : Region.wanted oi (yielded ops a.tmps) = true := by rfl) (hy : ∀ w, (execOp a.eval oi).run P w = .ok (.value v) w := by intro w'; go_simp; with_reducible rfl)
    (hQ : ∀ c a w, Q (.panic c) (a.put oi.dst v) w → Q (.panic c) a w := by exact fun _ _ _ h => h) (ha : a.put (some t) v = a' := by simp only [Act.put, zA, zB, zC, i64_w, i32_w]; rfl) : wpAnyLast P md ops Q S ds (fuel + 1) l a w := pure_ _ hi hN hc hQ (Or.inl ⟨hy0, hy⟩) ha h
theorem zT (i : Nat) (t : Tmp) (n m : Nat) (hS : S w) (h : wpAnyLast P md ops Q S ds fuel (zG n m) a' w) (hi : ops[i]? = some oi := by rfl) (hN : oi.dst = some t := by rfl) (hc : takeB md ops ds l (zG n m) i = true := by kernel_rfl)
    (hy0 : Region.wanted oi (yielded ops a.tmps) = true := by rfl) (hy : ∀ w, S w → (execOp a.eval oi).run P w = .ok (.value v) w := by intro w' hs; repeat (with_reducible refine And.elim (fun _ hs => ?_) hs); go_simp; with_reducible rfl)
    (hQ : ∀ c a w, Q (.panic c) (a.put oi.dst v) w → Q (.panic c) a w := by exact fun _ _ _ h => h) (ha : a.put (some t) v = a' := by simp only [Act.put, zA, zB, zC, i64_w, i32_w]; rfl) : wpAnyLast P md ops Q S ds (fuel + 1) l a w := take_ _ hi hN hc hQ (Or.inl ⟨hy0, hy⟩) hS ha h
end
end Go.Proofs.YtgjddnaidjbhlaaGreatDoor
/- How an argument that came in is read as plain data of a kind: numbers, bools, strings, and slices of these; with the sizes that the form's reach tells. -/
namespace Go.Proofs.YtgjddnaidjbhlaaGreatDoor.Opening
open Go.ChangeShapes Go.WideShapes Go.RowKit Go.Proofs.YtgjddnaidjbhlaaGreatDoorW.PrintWords

/-- Whatever reads as data of a type is of the kind, and what the kind's values are bounded by holds. -/
structure Opens {α : Type} (P : Program) (t : TypeId) (d : Kd α) (B : α → Prop) : Prop where
 op : ∀ {H : Type} (enc : TypeId × Value → H) (w : World) (fuel : Nat) (cs : List Value) (x : DataW H × List MemPlace),
  DataW.trod enc P w 0 (fun _ => true) true fuel t cs = some x → (x.1.weights P t).all (· ≤ reachBytes) = true → ∃ a, d.K w a cs ∧ B a

section
variable {P : Program} {t e : TypeId}
theorem opens_int {k : IntKind} (ht : P.underlying t = some (.int k)) : Opens P t (Kd.int k) (fun n => (Lit.int k n).wf = true) :=
 ⟨fun enc w fuel cs x h _ => by
  obtain ⟨n, rfl, _, hw⟩ := DataW.trod_int ht h
  exact ⟨n, rfl, hw⟩⟩
theorem opens_string (ht : P.underlying t = some .string) : Opens P t Kd.string (fun s => s.size ≤ 140737488351232) :=
 ⟨fun enc w fuel cs x h hz => by
  obtain ⟨s, rfl, hx, _⟩ := DataW.trod_string ht h
  refine ⟨s, rfl, ?_⟩
  rw [hx] at hz
  simp only [DataW.weights, List.all_cons, List.all_nil, Bool.and_true, decide_eq_true_eq] at hz
  rw [Array.length_toList] at hz
  exact hz⟩

theorem weights_all {H : Type} {P : Program} {e : TypeId} : ∀ (l : List (DataW H)) (d : DataW H), d ∈ l → ∀ n ∈ d.weights P e, n ∈ DataW.weightsAll P e l
 | [], _, h, _, _ => by simp at h
 | x :: r, d, h, n, hn => by
  simp only [DataW.weightsAll, List.mem_append]
  rcases List.mem_cons.1 h with h | h
  · subst h; exact Or.inl hn
  · exact Or.inr (weights_all r d h n hn)

/-- One list out of what holds at each place. -/
theorem list_of {α : Type} {n : Nat} {R : Nat → α → Prop} (h : ∀ i, i < n → ∃ a, R i a) : ∃ l : List α, l.length = n ∧ ∀ j a, l[j]? = some a → R j a := by
 induction n with
 | zero => exact ⟨[], rfl, fun j a hj => by simp at hj⟩
 | succ n ih =>
  obtain ⟨l, hl, hr⟩ := ih (fun i hi => h i (by omega))
  obtain ⟨a, ha⟩ := h n (by omega)
  refine ⟨l ++ [a], by simp [hl], fun j b hj => ?_⟩
  rcases Nat.lt_or_ge j l.length with hlt | hge
  · rw [List.getElem?_append_left hlt] at hj
    exact hr j b hj
  · have hj2 := (List.getElem?_eq_some_iff.1 hj).1
    rw [List.length_append, List.length_singleton] at hj2
    obtain rfl : j = l.length := by omega
    have : a = b := by simpa using hj
    subst this
    rw [hl]; exact ha

theorem opens_slice {α : Type} {d : Kd α} {B : α → Prop} (ht : P.underlying t = some (.slice e)) (hc : P.cellsOf e = d.sz) (h : Opens P e d B) :
 Opens P t (Kd.slice e d) (fun l => (∀ x ∈ l, B x) ∧ l.length * P.bytesOf e ≤ reachBytes) :=
 ⟨fun {H} enc w fuel cs x hx hz => by
  rcases DataW.trod_slice ht hx with ⟨rfl, _⟩ | ⟨a, len, cap, elems, rest, n, _, rfl, hxe, _, hl, hm, hlen, hel, _, _⟩
  · exact ⟨[], ⟨none, 0, rfl, Nat.le_refl _, rfl, Nat.zero_le _, fun h0 => absurd h0 (Nat.lt_irrefl _)⟩, by simp, by simp⟩
  · rw [hxe] at hz
    simp only [DataW.weights, ht, List.all_cons, Bool.and_eq_true, decide_eq_true_eq, List.all_append] at hz
    obtain ⟨hz0, hz1, _⟩ := hz
    have each : ∀ i, i < len → ∃ y : α, (∃ c, c.length = d.sz ∧ d.K w y c ∧ ∀ j u, c[j]? = some u → w.cell? (a.add (i * d.sz + j)) = some u) ∧ B y := by
     intro i hi
     have h1 := hel i hi
     have hi' : i < elems.length := by omega
     rw [List.getElem?_eq_getElem hi', Option.bind_eq_some_iff] at h1
     obtain ⟨c, h2, h3⟩ := h1
     have hw : (elems[i].1.weights P e).all (· ≤ reachBytes) = true := by
      rw [List.all_eq_true]
      intro m hmm
      exact List.all_eq_true.1 hz1 m (weights_all _ elems[i].1 (List.mem_map.2 ⟨elems[i], List.getElem_mem hi', rfl⟩) m hmm)
     obtain ⟨y, hy, hB⟩ := h.op enc w n c _ h3 hw
     obtain ⟨_, hcl, hcc⟩ := World.cells?_some h2
     rw [hc] at hcl hcc
     refine ⟨y, ⟨c, hcl, hy, fun j u hu => ?_⟩, hB⟩
     have hj : j < d.sz := by have := (List.getElem?_eq_some_iff.1 hu).1; omega
     have := hcc j hj
     rw [Addr.add_add] at this
     rw [this, hu]
    obtain ⟨l, hll, hr⟩ := list_of each
    refine ⟨l, ⟨some a, cap, by rw [hll], by omega, rfl, ?_, fun _ => ⟨a, rfl, fun j p hj => (hr j p hj).1⟩⟩, ?_, ?_⟩
    · have : len ≤ maxLen := Nat.le_trans hl hm
      rw [hll]
      exact this
    · intro y hy
      obtain ⟨j, hj⟩ := List.getElem?_of_mem hy
      exact (hr j y hj).2
    · rw [hll, ← hlen]
      have : elems.length * P.bytesOf e ≤ ((elems.map (·.1)).length + (rest.map (·.1)).length) * P.bytesOf e := Nat.mul_le_mul_right _ (by simp)
      omega⟩
end

end Go.Proofs.YtgjddnaidjbhlaaGreatDoor.Opening

/- Arguments that are structs, and slices of structs, read as plain data (out of XOpensK, XLgOps by wip/tools/pick.py). -/
namespace Go.Proofs.YtgjddnaidjbhlaaGreatDoor.Opening
open Go.ChangeShapes Go.WideShapes Go.RowKit Go.Proofs.YtgjddnaidjbhlaaGreatDoorW.PrintWords
structure OpensK {α : Type} (P : Program) (t : TypeId) (K : World → α → List Value → Prop) (B : α → Prop) : Prop where
 op : ∀ {H : Type} (enc : TypeId × Value → H) (w : World) (fuel : Nat) (cs : List Value) (x : DataW H × List MemPlace),
  DataW.trod enc P w 0 (fun _ => true) true fuel t cs = some x → (x.1.weights P t).all (· ≤ reachBytes) = true → ∃ a, K w a cs ∧ B a
theorem OpensK.of {α : Type} {P : Program} {t : TypeId} {d : Kd α} {B : α → Prop} (o : Opens P t d B) : OpensK P t d.K B := ⟨o.op⟩
theorem fields {H : Type} {enc : TypeId × Value → H} {P : Program} {t : TypeId} {fs : Array Field} {w : World} {fuel : Nat} {cs : List Value} {x : DataW H × List MemPlace} (ht : P.underlying t = some (.struct fs))
 (h : DataW.trod enc P w 0 (fun _ => true) true fuel t cs = some x) (hz : (x.1.weights P t).all (· ≤ reachBytes) = true) :
 cs.length = P.cellsOf t ∧ ∀ (i : Nat) (f : Field), fs[i]? = some f → ∀ {α : Type} {K : World → α → List Value → Prop} {B : α → Prop}, OpensK P f.type K B → ∃ a, K w a ((cs.drop f.offset).take (P.cellsOf f.type)) ∧ B a := by
 obtain ⟨xs, n, rfl, rfl, hl, hlen, hf⟩ := DataW.trod_struct ht h
 refine ⟨hl, fun i f hi {α K B} o => ?_⟩
 have h1 := hf i f hi
 have hlt : i < xs.length := by have := (Array.getElem?_eq_some_iff.1 hi).1; omega
 rw [List.getElem?_eq_getElem hlt] at h1
 refine o.op enc w n _ _ h1 ?_
 rw [List.all_eq_true] at hz ⊢
 intro m hm
 refine hz m ?_
 simp only [DataW.weights, ht]
 exact DataW.weights_mem_each (j := i) (by simp [hi]) (by simp [List.getElem?_map, List.getElem?_eq_getElem hlt]) m hm
theorem cons_len {cs : List Value} {n : Nat} (h : cs.length = n + 1) : ∃ c r, cs = c :: r ∧ r.length = n := by
 cases cs with
 | nil => cases h
 | cons c r => exact ⟨c, r, rfl, by simpa using h⟩
theorem openedK {H : Type} {enc : TypeId × Value → H} {P : Program} {W : World} {t : TypeId} {v : Value} {D : DataW H} {ps : List MemPlace} {ts : List TypeId} {ds : List (DataW H)} {j : Nat}
 {α : Type} {K : World → α → List Value → Prop} {B : α → Prop} (o : OpensK P t K B) (hsz : (DataW.weightsEach P ts ds).all (· ≤ reachBytes) = true) (ht : ts[j]? = some t) (hd : ds[j]? = some D)
 (h : DataW.Trod enc P W 0 (fun _ => true) true t v D ps) : ∃ a, K W a v.cells.toList ∧ B a := by
 obtain ⟨fuel, hf⟩ := h
 refine o.op enc W fuel _ _ hf ?_
 rw [List.all_eq_true]
 intro n hn
 exact List.all_eq_true.1 hsz n (DataW.weights_mem_each ht hd n hn)
/-- A row of elements, each told by its cells. -/
def RowsK {α : Type} (K : World → α → List Value → Prop) (sz : Nat) (W : World) (A : Option Addr) (l : List α) : Prop :=
 ∀ (i : Nat) (x : α), l[i]? = some x → ∃ ad, A = some ad ∧ ∃ cs, cs.length = sz ∧ K W x cs ∧ ∀ j u, cs[j]? = some u → W.cell? (ad.add (i * sz + j)) = some u
theorem opensK_slice {α : Type} {K : World → α → List Value → Prop} {B : α → Prop} {P : Program} {t e : TypeId} {sz : Nat} (ht : P.underlying t = some (.slice e)) (hc : P.cellsOf e = sz) (h : OpensK P e K B)
 {H : Type} {enc : TypeId × Value → H} {w : World} {fuel : Nat} {cs : List Value} {x : DataW H × List MemPlace} (hx : DataW.trod enc P w 0 (fun _ => true) true fuel t cs = some x) (hz : (x.1.weights P t).all (· ≤ reachBytes) = true) :
 ∃ (A : Option Addr) (c : Nat) (l : List α), cs = [.slice A l.length c] ∧ l.length ≤ c ∧ RowsK K sz w A l ∧ (∀ y ∈ l, B y) ∧ l.length * P.bytesOf e ≤ reachBytes := by
 rcases DataW.trod_slice ht hx with ⟨rfl, _⟩ | ⟨a, len, cap, elems, rest, n, _, rfl, hxe, _, hl, hm, hlen, hel, _, _⟩
 · exact ⟨none, 0, [], rfl, Nat.le_refl _, fun i y hy => by simp at hy, by simp, by simp⟩
 · rw [hxe] at hz
   simp only [DataW.weights, ht, List.all_cons, Bool.and_eq_true, decide_eq_true_eq, List.all_append] at hz
   obtain ⟨hz0, hz1, _⟩ := hz
   have each : ∀ i, i < len → ∃ y : α, (∃ c, c.length = sz ∧ K w y c ∧ ∀ j u, c[j]? = some u → w.cell? (a.add (i * sz + j)) = some u) ∧ B y := by
    intro i hi
    have h1 := hel i hi
    have hi' : i < elems.length := by omega
    rw [List.getElem?_eq_getElem hi', Option.bind_eq_some_iff] at h1
    obtain ⟨c, h2, h3⟩ := h1
    have hw : (elems[i].1.weights P e).all (· ≤ reachBytes) = true := by
     rw [List.all_eq_true]
     intro m hmm
     exact List.all_eq_true.1 hz1 m (weights_all _ elems[i].1 (List.mem_map.2 ⟨elems[i], List.getElem_mem hi', rfl⟩) m hmm)
    obtain ⟨y, hy, hB⟩ := h.op enc w n c _ h3 hw
    obtain ⟨_, hcl, hcc⟩ := World.cells?_some h2
    rw [hc] at hcl hcc
    refine ⟨y, ⟨c, hcl, hy, fun j u hu => ?_⟩, hB⟩
    have hj : j < sz := by have := (List.getElem?_eq_some_iff.1 hu).1; omega
    have := hcc j hj
    rw [Addr.add_add] at this
    rw [this, hu]
   obtain ⟨l, hll, hr⟩ := list_of each
   refine ⟨some a, cap, l, by rw [hll], by omega, fun i y hy => ⟨a, rfl, (hr i y hy).1⟩, ?_, ?_⟩
   · intro y hy
     obtain ⟨j, hj⟩ := List.getElem?_of_mem hy
     exact (hr j y hj).2
   · rw [hll, ← hlen]
     have : elems.length * P.bytesOf e ≤ ((elems.map (·.1)).length + (rest.map (·.1)).length) * P.bytesOf e := Nat.mul_le_mul_right _ (by simp)
     omega
end Go.Proofs.YtgjddnaidjbhlaaGreatDoor.Opening

/- The plain words of chapter 1: a text's runes, small letters, names. -/
namespace Go.Proofs.YtgjddnaidjbhlaaGreatDoor.Nm

/-- The runes of a text from a byte on. -/
def runesF (s : ByteArray) : Nat → Nat → List Int
 | 0, _ => []
 | f + 1, pos => if pos < s.size then ((Utf8.decode s pos).1 : Int) :: runesF s f (pos + (Utf8.decode s pos).2) else []
def runes (s : ByteArray) : List Int := runesF s s.size 0

theorem decode_pos (s : ByteArray) (pos : Nat) : 1 ≤ (Utf8.decode s pos).2 := by
 simp only [Utf8.decode]
 repeat' split
 all_goals simp

theorem runesF_end (s : ByteArray) (f pos : Nat) (h : s.size ≤ pos) : runesF s f pos = [] := by
 cases f with
 | zero => rfl
 | succ f => rw [runesF, if_neg (by omega)]
theorem runesF_more (s : ByteArray) : ∀ (f g pos : Nat), s.size - pos ≤ f → f ≤ g → runesF s g pos = runesF s f pos := by
 intro f
 induction f with
 | zero => intro g pos h _; rw [runesF_end s g pos (by omega)]; rfl
 | succ f ih =>
  intro g pos h hg
  obtain ⟨g, rfl⟩ : ∃ m, g = m + 1 := ⟨g - 1, by omega⟩
  rw [runesF, runesF]
  have := decode_pos s pos
  by_cases hp : pos < s.size
  · rw [if_pos hp, if_pos hp, ih g _ (by omega) (by omega)]
  · rw [if_neg hp, if_neg hp]
/-- From a byte on, with as many rounds as there are bytes. -/
def from_ (s : ByteArray) (pos : Nat) : List Int := runesF s (s.size - pos) pos
theorem from_zero (s : ByteArray) : from_ s 0 = runes s := rfl
theorem from_end (s : ByteArray) (pos : Nat) (h : s.size ≤ pos) : from_ s pos = [] := runesF_end s _ pos h
theorem from_step (s : ByteArray) (pos : Nat) (h : pos < s.size) : from_ s pos = ((Utf8.decode s pos).1 : Int) :: from_ s (pos + (Utf8.decode s pos).2) := by
 unfold from_
 obtain ⟨f, hf⟩ : ∃ f, s.size - pos = f + 1 := ⟨s.size - pos - 1, by omega⟩
 rw [hf, runesF, if_pos h]
 have := decode_pos s pos
 rw [runesF_more s (s.size - (pos + (Utf8.decode s pos).2)) f _ (Nat.le_refl _) (by omega)]

/-- Is a rune a small letter? -/
def letterR (r : Int) : Bool := (decide (97 ≤ r) && decide (r ≤ 122)) || (decide (945 ≤ r) && decide (r ≤ 969)) || decide (r = 228) || decide (r = 246) || decide (r = 252) || decide (r = 223)
/-- May a rune stand in a name behind so many others? -/
def mayR (r : Int) (n : Nat) : Bool := letterR r || (decide (0 < n) && (decide (r = 45) || (decide (48 ≤ r) && decide (r ≤ 57))))
def isGo : List Int → Nat → Bool
 | [], n => decide (0 < n) && decide (n ≤ 8)
 | r :: l, n => mayR r n && isGo l (n + 1)
/-- Is a text a name? -/
def isName (s : ByteArray) : Bool := isGo (runes s) 0

theorem from_len (s : ByteArray) : ∀ (n pos : Nat), s.size - pos = n → (from_ s pos).length ≤ n := by
 intro n
 induction n using Nat.strongRecOn with
 | _ n ih =>
  intro pos h
  by_cases hp : pos < s.size
  · rw [from_step s pos hp, List.length_cons]
    have := decode_pos s pos
    have := ih (s.size - (pos + (Utf8.decode s pos).2)) (by omega) _ rfl
    omega
  · rw [from_end s pos (by omega)]; simp
theorem runes_len (s : ByteArray) : (runes s).length ≤ s.size := from_len s s.size 0 (by omega)

/-! ### names, byte by byte -/
def nameRune (r : Int) : Bool := letterR r || (decide (r = 45) || (decide (48 ≤ r) && decide (r ≤ 57)))
theorem nameRune_iff (r : Int) : nameRune r = true ↔ (97 ≤ r ∧ r ≤ 122) ∨ (945 ≤ r ∧ r ≤ 969) ∨ r = 228 ∨ r = 246 ∨ r = 252 ∨ r = 223 ∨ r = 45 ∨ (48 ≤ r ∧ r ≤ 57) := by
 simp only [nameRune, letterR, Bool.or_eq_true, Bool.and_eq_true, decide_eq_true_eq]
 omega
def AllName (s : ByteArray) : Prop := ∀ r ∈ runes s, nameRune r = true
theorem isGo_all : ∀ (l : List Int) (n : Nat), isGo l n = true → ∀ r ∈ l, nameRune r = true
 | [], _, _, r, hr => by simp at hr
 | x :: l, n, h, r, hr => by
  rw [isGo, Bool.and_eq_true] at h
  rcases List.mem_cons.1 hr with rfl | hr
  · have := h.1
    simp only [mayR, nameRune, Bool.or_eq_true, Bool.and_eq_true] at this ⊢
    rcases this with h1 | h1
    · exact Or.inl h1
    · exact Or.inr h1.2
  · exact isGo_all l _ h.2 r hr
theorem isName_all {s : ByteArray} (h : isName s = true) : AllName s := isGo_all _ _ h

theorem get_extract (b : ByteArray) (n j : Nat) : (b.extract n b.size).get! j = b.get! (n + j) := by
 have hs : (b.extract n b.size).size = b.size - n := by rw [ByteArray.size_extract]; omega
 by_cases h : n + j < b.size
 · have h1 : j < (b.extract n b.size).size := by omega
   have e1 : (b.extract n b.size).get! j = (b.extract n b.size)[j]'h1 := by
    show (b.extract n b.size).data[j]! = _
    exact getElem!_pos (b.extract n b.size).data j h1
   have e2 : b.get! (n + j) = b[n + j]'h := by
    show b.data[n + j]! = _
    simp [h]
    rfl
   rw [e1, e2, ByteArray.getElem_extract]
 · have e1 : (b.extract n b.size).get! j = default := by
    show (b.extract n b.size).data[j]! = _
    rw [getElem!_neg]
    show ¬ j < (b.extract n b.size).size
    omega
   have e2 : b.get! (n + j) = default := by
    show b.data[n + j]! = _
    rw [getElem!_neg]
    exact h
   rw [e1, e2]
theorem decode_extract (b : ByteArray) (n i : Nat) : Utf8.decode (b.extract n b.size) i = Utf8.decode b (n + i) := by
 have hs : (b.extract n b.size).size = b.size - n := by rw [ByteArray.size_extract]; omega
 have hg : ∀ k, (b.extract n b.size).get! (i + k) = b.get! (n + i + k) := fun k => by rw [get_extract, Nat.add_assoc]
 have hc : ∀ k, (decide (i + k < (b.extract n b.size).size)) = decide (n + i + k < b.size) := fun k => by
  rw [hs]
  by_cases h : n + i + k < b.size
  · rw [decide_eq_true h, decide_eq_true (by omega)]
  · rw [decide_eq_false h, decide_eq_false (by omega)]
 simp only [Utf8.decode, hg, hc]
theorem from_extract (b : ByteArray) (n : Nat) : ∀ (m pos : Nat), b.size - (n + pos) = m → from_ (b.extract n b.size) pos = from_ b (n + pos) := by
 have hs : (b.extract n b.size).size = b.size - n := by rw [ByteArray.size_extract]; omega
 intro m
 induction m using Nat.strongRecOn with
 | _ m ih =>
  intro pos hm
  by_cases hp : n + pos < b.size
  · have := decode_pos b (n + pos)
    rw [from_step b _ hp, from_step (b.extract n b.size) pos (by omega), decode_extract, ih (b.size - (n + (pos + (Utf8.decode b (n + pos)).2))) (by omega) _ rfl, Nat.add_assoc]
  · rw [from_end b _ (by omega), from_end _ _ (by omega)]
theorem runes_extract (b : ByteArray) (n : Nat) : runes (b.extract n b.size) = from_ b n := by
 rw [← from_zero, from_extract b n _ 0 rfl, Nat.add_zero]

/-- A byte of a text. -/
def byte (s : ByteArray) (i : Nat) : Nat := (s.data.toList.getD i 0).toNat
theorem byte_lt (s : ByteArray) (i : Nat) : byte s i < 256 := (s.data.toList.getD i 0).toNat_lt
theorem byte_at (s : ByteArray) (i : Nat) (h : i < s.size) : (s[i]'h).toNat = byte s i := by
 unfold byte
 rw [List.getD_eq_getElem?_getD, List.getElem?_eq_getElem (by simpa using h)]
 rfl
theorem byte_get (s : ByteArray) (i : Nat) (h : i < s.size) : (s.get! i).toNat = byte s i := by
 rw [← byte_at s i h]
 show (s.data[i]!).toNat = _
 simp [h]
 rfl

/-- The first rune of a text all of whose runes may stand in a name. -/
theorem decode_first {s : ByteArray} (h : 0 < s.size) (hn : nameRune (Utf8.decode s 0).1 = true) :
 (byte s 0 < 128 ∧ Utf8.decode s 0 = (byte s 0, 1)) ∨ (2 ≤ s.size ∧ (Utf8.decode s 0).2 = 2 ∧ (byte s 0 = 195 ∨ byte s 0 = 206 ∨ byte s 0 = 207)) := by
 by_cases h0 : byte s 0 < 128
 · left
   refine ⟨h0, ?_⟩
   have := decode_ascii s 0 h (by rw [byte_at]; exact h0)
   rw [this, byte_at]
 · right
   rw [nameRune_iff] at hn
   have hb0 := byte_lt s 0
   have e0 : (s.get! (0 + 0)).toNat = byte s 0 := byte_get s 0 h
   simp only [Utf8.decode, e0, Nat.zero_add] at hn ⊢
   rw [if_neg h0] at hn ⊢
   by_cases h1 : ((byte s 0 / 32 == 6) && (decide (1 < s.size) && (s.get! 1).toNat / 64 == 2)) = true
   · simp only [h1, if_true] at hn ⊢
     simp only [Bool.and_eq_true, decide_eq_true_eq, beq_iff_eq] at h1
     by_cases h2 : byte s 0 % 32 * 64 + (s.get! 1).toNat % 64 ≥ 128
     · rw [if_pos h2] at hn ⊢
       simp only at hn ⊢
       obtain ⟨h3, h4, h5⟩ := h1
       refine ⟨by omega, trivial, ?_⟩
       omega
     · rw [if_neg h2] at hn
       simp only [Utf8.runeError] at hn
       omega
   · exfalso
     simp only [h1] at hn
     repeat' split at hn
     all_goals simp only [Utf8.runeError, Bool.and_eq_true, decide_eq_true_eq, ge_iff_le] at *
     all_goals first | omega | contradiction
theorem runes_first {s : ByteArray} (h : 0 < s.size) : runes s = ((Utf8.decode s 0).1 : Int) :: from_ s (Utf8.decode s 0).2 := by
 rw [← from_zero, from_step s 0 h, Nat.zero_add]
end Go.Proofs.YtgjddnaidjbhlaaGreatDoor.Nm

/- name.letter and name.Is: the walks, by hand. -/
namespace Go.Proofs.YtgjddnaidjbhlaaGreatDoor.NameWalk
open Go.RowKit Go.IntWalk Go.Proofs.YtgjddnaidjbhlaaGreatDoorW.PrintWords Go.Proofs.YtgjddnaidjbhlaaGreatDoorW.PrintMore

set_option maxHeartbeats 400000 in
theorem letter_calls (r : Int) (w : World) (h0 : 0 ≤ r) (h1 : r ≤ 2147483647) :
 Calls Tryz.prog 80 #[.int .i32 r] w fun e w' => e = .returned (.bool (Nm.letterR r)) ∧ w' = w := by
 have hl : Nm.letterR r = ((decide (97 ≤ r) && decide (r ≤ 122)) || (decide (945 ≤ r) && decide (r ≤ 969)) || decide (r = 228) || decide (r = 246) || decide (r = 252) || decide (r = 223)) := rfl
 have HL := Aside0.mk hl
 clear hl
 go_enter Tryz.func80, Tryz.ntmps80
 go_wp2
 all_goals
  go_ret
  refine ⟨congrArg (fun b => Ending.returned (Value.bool b)) ?_, rfl⟩
  first | (subst_vars; decide) | (rw [HL.out, Bool.eq_iff_iff]; simp; done) | (rw [HL.out, Bool.eq_iff_iff]; simp; omega)

/-- What holds at the loop's head: so many runes have been read, and may stand; the rest is still to come. -/
def Head (w : World) (s : ByteArray) (v3 : Value) (wr : World) : Prop :=
 ∃ pos n : Nat, n + (Nm.from_ s pos).length ≤ s.size ∧ v3 = .int .i64 n ∧ wr = w.iter s pos ∧ Nm.isName s = Nm.isGo (Nm.from_ s pos) n

theorem go_true {l : List Int} {r : Int} {n : Nat} (h : Nm.mayR r n = true) : Nm.isGo (r :: l) n = Nm.isGo l (n + 1) := by rw [Nm.isGo, h, Bool.true_and]
theorem go_false {l : List Int} {r : Int} {n : Nat} (h : Nm.mayR r n = false) : Nm.isGo (r :: l) n = false := by rw [Nm.isGo, h, Bool.false_and]

set_option maxHeartbeats 1000000 in
theorem is_calls (s : ByteArray) (w : World) (hs : s.size ≤ 9000000000000000000) :
 Calls Tryz.prog 32 #[.string s] w fun e w' => e = .returned (.bool (Nm.isName s)) ∧ Below w.heap.size w w' := by
 have HS := Aside0.mk hs
 clear hs
 go_enter Tryz.func32, Tryz.ntmps32
 go_wp2
 go_loopw [3] (fun v3 wr => Head w s v3 wr) (fun _ wr => s.size - wr.iterPos w.heap.size)
 case atStart => exact ⟨0, 0, by rw [Nm.from_zero, Nat.zero_add]; exact Nm.runes_len s, rfl, rfl, rfl⟩
 case round =>
  obtain ⟨pos, n, hn, rfl, rfl, hi⟩ := hrel
  by_cases hlt : pos < s.size
  · have hnext := fun ty => run_next_any (P := Tryz.prog) w s pos ty hlt
    have hle := decode_le s pos
    have hpos := Nm.decode_pos s pos
    rw [Nm.from_step s pos hlt] at hi hn
    generalize (Utf8.decode s pos).1 = r at *
    generalize (Utf8.decode s pos).2 = c at *
    rw [List.length_cons] at hn
    have hsize := HS.out
    have HN := Aside0.mk hn
    have HI := Aside0.mk hi
    have HB : Aside0 (Below w.heap.size w (w.iter s (pos + c))) := ⟨(Below.refl _ _).alloc (Nat.le_refl _) _⟩
    have hn9 : (n : Int) + 1 ≤ 9223372036854775807 := by omega
    clear hi hn hsize
    cases hb : Nm.letterR (r : Int)
    · by_cases hn0 : n = 0
      · subst hn0
        have hm : Nm.mayR r 0 = false := by simp [Nm.mayR, hb]
        have HM := Aside0.mk hm
        have HLB := Aside0.mk hb
        clear hm hb
        go_wp2_with (go_at_call 80; refine (letter_calls _ _ (by omega) (by omega)).mono ?_; rw [HLB.out]; rintro e w' ⟨rfl, rfl⟩)
        go_ret
        rw [HI.out, go_false HM.out]
        exact ⟨rfl, HB.out⟩
      · by_cases hd : (r : Int) = 45 ∨ (48 ≤ (r : Int) ∧ (r : Int) ≤ 57)
        · have hm : Nm.mayR r n = true := by
           simp [Nm.mayR]
           omega
          have HM := Aside0.mk hm
          have HLB := Aside0.mk hb
          clear hm hb
          have hn1 : ((n : Int) == 0) = false := by simp; omega
          by_cases h45 : (r : Int) = 45
          · have h45b : ((r : Int) != 45) = false := by simp; omega
            clear h45 hd
            go_wp2_with (go_at_call 80; refine (letter_calls _ _ (by omega) (by omega)).mono ?_; rw [HLB.out]; rintro e w' ⟨rfl, rfl⟩)
            go_roundw
            case rel => exact ⟨pos + c, n + 1, by have := HN.out; omega, by go_num, rfl, by rw [HI.out, go_true HM.out]⟩
            case measure => simp; omega
          · have h45b : ((r : Int) != 45) = true := by simp; omega
            have hlo : decide ((r : Int) < 48) = false := decide_eq_false (by omega)
            have hhi : decide (57 < (r : Int)) = false := decide_eq_false (by omega)
            clear h45 hd
            go_wp2_with (go_at_call 80; refine (letter_calls _ _ (by omega) (by omega)).mono ?_; rw [HLB.out]; rintro e w' ⟨rfl, rfl⟩)
            go_roundw
            case rel => exact ⟨pos + c, n + 1, by have := HN.out; omega, by go_num, rfl, by rw [HI.out, go_true HM.out]⟩
            case measure => simp; omega
        · have hm : Nm.mayR r n = false := by
           rw [Nm.mayR, hb, Bool.false_or, Bool.and_eq_false_iff]
           right
           simp
           omega
          have HM := Aside0.mk hm
          have HLB := Aside0.mk hb
          clear hm hb
          have hn1 : ((n : Int) == 0) = false := by simp; omega
          have h45b : ((r : Int) != 45) = true := by simp; omega
          by_cases h48 : (r : Int) < 48
          · have hlo : decide ((r : Int) < 48) = true := decide_eq_true h48
            clear h48 hd
            go_wp2_with (go_at_call 80; refine (letter_calls _ _ (by omega) (by omega)).mono ?_; rw [HLB.out]; rintro e w' ⟨rfl, rfl⟩)
            go_ret
            rw [HI.out, go_false HM.out]
            exact ⟨rfl, HB.out⟩
          · have hlo : decide ((r : Int) < 48) = false := decide_eq_false h48
            have hhi : decide (57 < (r : Int)) = true := decide_eq_true (by omega)
            clear h48 hd
            go_wp2_with (go_at_call 80; refine (letter_calls _ _ (by omega) (by omega)).mono ?_; rw [HLB.out]; rintro e w' ⟨rfl, rfl⟩)
            go_ret
            rw [HI.out, go_false HM.out]
            exact ⟨rfl, HB.out⟩
    · have hm : Nm.mayR r n = true := by simp [Nm.mayR, hb]
      have HM := Aside0.mk hm
      have HLB := Aside0.mk hb
      clear hm hb
      go_wp2_with (go_at_call 80; refine (letter_calls _ _ (by omega) (by omega)).mono ?_; rw [HLB.out]; rintro e w' ⟨rfl, rfl⟩)
      go_roundw
      case rel => exact ⟨pos + c, n + 1, by have := HN.out; omega, by go_num, rfl, by rw [HI.out, go_true HM.out]⟩
      case measure => simp; omega
  · have hnext := fun ty => run_next_end (P := Tryz.prog) w s pos ty hlt
    rw [Nm.from_end s pos (by omega)] at hi hn
    have HI := Aside0.mk hi
    have HB : Aside0 (Below w.heap.size w (w.iter s pos)) := ⟨(Below.refl _ _).alloc (Nat.le_refl _) _⟩
    have hsize := HS.out
    have hn9 : (n : Int) ≤ 9223372036854775807 := by simp only [List.length_nil] at hn; omega
    clear hi hn hsize
    go_wp2
    all_goals
     go_ret
     refine ⟨?_, HB.out⟩
     rw [HI.out]
     refine congrArg (fun b => Ending.returned (Value.bool b)) ?_
     rw [Nm.isGo, Bool.eq_iff_iff]
     first | (simp; done) | (simp; omega)
end Go.Proofs.YtgjddnaidjbhlaaGreatDoor.NameWalk

/- unicode/utf8.decodeRuneInStringSlow, DecodeRuneInString and name.Compare over tables of whatever content: the walks, by hand. -/
namespace Go.Proofs.YtgjddnaidjbhlaaGreatDoor.CmpWalk
open Go.Proofs.YtgjddnaidjbhlaaGreatDoor.Nm (byte byte_lt byte_at)
open Go.RowKit Go.IntWalk Go.Proofs.YtgjddnaidjbhlaaGreatDoorW.PrintWords Go.Proofs.YtgjddnaidjbhlaaGreatDoorW.PrintMore

/-- What the two tables of unicode/utf8 hold. -/
structure Utabs where
 first : Nat → Nat
 lo : Nat → Nat
 hi : Nat → Nat
 first8 : ∀ i, first i < 256
 lo8 : ∀ i, lo i < 256
 hi8 : ∀ i, hi i < 256
structure TabsRaw (T : Utabs) (w : World) : Prop where
 first : ∀ i, i < 256 → w.cell? ⟨0, i, none⟩ = some (.int .u8 (T.first i))
 lo : ∀ i, i < 16 → w.cell? ⟨1, i * 2, none⟩ = some (.int .u8 (T.lo i))
 hi : ∀ i, i < 16 → w.cell? ⟨1, i * 2 + 1, none⟩ = some (.int .u8 (T.hi i))

/-- What is decoded. -/
def decT (T : Utabs) (s : ByteArray) : Nat × Nat :=
 let x := T.first (byte s 0)
 if 240 ≤ x then (if x % 2 = 1 then 65533 else byte s 0, 1)
 else if s.size < x % 8 then (65533, 1)
 else if byte s 1 < T.lo (x / 16) ∨ T.hi (x / 16) < byte s 1 then (65533, 1)
 else if x % 8 ≤ 2 then (byte s 0 % 32 * 64 + byte s 1 % 64, 2)
 else if byte s 2 < 128 ∨ 191 < byte s 2 then (65533, 1)
 else if x % 8 ≤ 3 then (byte s 0 % 16 * 4096 + byte s 1 % 64 * 64 + byte s 2 % 64, 3)
 else if byte s 3 < 128 ∨ 191 < byte s 3 then (65533, 1)
 else (byte s 0 % 8 * 262144 + byte s 1 % 64 * 4096 + byte s 2 % 64 * 64 + byte s 3 % 64, 4)

theorem two_eq {a b a' b' : Int} (h1 : a = a') (h2 : b = b') : Ending.returned (.tuple #[.int .i32 a, .int .i64 b]) = Ending.returned (.tuple #[.int .i32 a', .int .i64 b']) := by rw [h1, h2]
theorem mask_odd (x : Nat) (ho : x % 2 = 1) : wrap32 ((x : Int) * 2147483648) / 2147483648 = -1 := by unfold wrap32; omega
theorem mask_even (x : Nat) (ho : ¬ x % 2 = 1) : wrap32 ((x : Int) * 2147483648) / 2147483648 = 0 := by unfold wrap32; omega
theorem high_odd (b : Nat) (h : b < 256) : Go.bits .or .i32 (Go.bits .andNot .i32 (b : Int) (-1)) (Go.bits .and .i32 65533 (-1)) = 65533 := by
 have : ∀ b : Fin 256, Go.bits .or .i32 (Go.bits .andNot .i32 ((b : Nat) : Int) (-1)) (Go.bits .and .i32 65533 (-1)) = 65533 := by decide +kernel
 exact this ⟨b, h⟩
theorem high_even (b : Nat) (h : b < 256) : Go.bits .or .i32 (Go.bits .andNot .i32 (b : Int) 0) (Go.bits .and .i32 65533 0) = (b : Int) := by
 have : ∀ b : Fin 256, Go.bits .or .i32 (Go.bits .andNot .i32 ((b : Nat) : Int) 0) (Go.bits .and .i32 65533 0) = ((b : Nat) : Int) := by decide +kernel
 exact this ⟨b, h⟩

set_option maxHeartbeats 1000000 in
set_option maxRecDepth 100000 in
theorem slow_calls (T : Utabs) (s : ByteArray) (w : World) (hT : TabsRaw T w) (h2 : 2 ≤ s.size) (hs : s.size ≤ 9000000000000000000) :
 Calls Tryz.prog 197 #[.string s] w fun e w' => e = .returned (.tuple #[.int .i32 (decT T s).1, .int .i64 (decT T s).2]) ∧ Below w.heap.size w w' := by
 have hx8 := T.first8 (byte s 0)
 have hb0 := byte_at s 0 (by omega)
 have hb1 := byte_at s 1 (by omega)
 have hl0 := byte_lt s 0
 have hc := hT.first (byte s 0) hl0
 have hlo := hT.lo (T.first (byte s 0) / 16) (by omega)
 have hhi := hT.hi (T.first (byte s 0) / 16) (by omega)
 have hlt0 : 0 < w.heap.size := World.block_lt_of_cell? w _ hc
 have hlt1 : 1 < w.heap.size := World.block_lt_of_cell? w _ hlo
 have HD : Aside0 (decT T s = decT T s) := ⟨rfl⟩
 by_cases h240 : 240 ≤ T.first (byte s 0)
 · have hd : decT T s = (if T.first (byte s 0) % 2 = 1 then 65533 else byte s 0, 1) := by
    unfold decT; simp only; rw [if_pos h240]
   generalize hxx : T.first (byte s 0) = x at *
   have HDD := Aside0.mk hd
   clear hd HD hT hlo hhi hxx
   have hge : decide ((240 : Int) ≤ (x : Int)) = true := decide_eq_true (by omega)
   have hne : decide ((s.size : Int) < 1) = false := decide_eq_false (by omega)
   go_enter Tryz.func197, Tryz.ntmps197
   go_wp2
   go_ret2
   rw [HDD.out]
   refine ⟨?_, Below.refl _ _⟩
   refine congrArg Ending.returned (congrArg Value.tuple ?_)
   refine congrArg (fun v => #[Value.int .i32 v, Value.int .i64 1]) ?_
   by_cases ho : x % 2 = 1
   · rw [mask_odd x ho, high_odd _ hl0, if_pos ho]; rfl
   · rw [mask_even x ho, high_even _ hl0, if_neg ho]
 · have hd : decT T s = if s.size < T.first (byte s 0) % 8 then (65533, 1)
    else if byte s 1 < T.lo (T.first (byte s 0) / 16) ∨ T.hi (T.first (byte s 0) / 16) < byte s 1 then (65533, 1)
    else if T.first (byte s 0) % 8 ≤ 2 then (byte s 0 % 32 * 64 + byte s 1 % 64, 2)
    else if byte s 2 < 128 ∨ 191 < byte s 2 then (65533, 1)
    else if T.first (byte s 0) % 8 ≤ 3 then (byte s 0 % 16 * 4096 + byte s 1 % 64 * 64 + byte s 2 % 64, 3)
    else if byte s 3 < 128 ∨ 191 < byte s 3 then (65533, 1)
    else (byte s 0 % 8 * 262144 + byte s 1 % 64 * 4096 + byte s 2 % 64 * 64 + byte s 3 % 64, 4) := by
    unfold decT; simp only; rw [if_neg h240]
   have hlo8 := T.lo8 (T.first (byte s 0) / 16)
   have hhi8 := T.hi8 (T.first (byte s 0) / 16)
   generalize T.lo (T.first (byte s 0) / 16) = lo at *
   generalize T.hi (T.first (byte s 0) / 16) = hi at *
   generalize hxx : T.first (byte s 0) = x at *
   have HDD := Aside0.mk hd
   clear hd HD hT hxx
   have hge : decide ((240 : Int) ≤ (x : Int)) = false := decide_eq_false (by omega)
   have hne : decide ((s.size : Int) < 1) = false := decide_eq_false (by omega)
   go_enter Tryz.func197, Tryz.ntmps197
   go_wp2
   all_goals
    go_ret2
    rw [HDD.out]
    clear hb0 hb1 HDD hlo hhi hc
    (try simp only [byte_at] at *)
    repeat (first | rw [if_pos (by omega)] | rw [if_neg (by omega)])
    refine ⟨two_eq ?_ ?_, ?_⟩
   all_goals first | rfl | (exact (Below.refl _ _).alloc (Nat.le_refl _) _) | (simp; done) | (simp; omega)

/-- What DecodeRuneInString tells of a text that is not empty. -/
def decA (T : Utabs) (s : ByteArray) : Nat × Nat := if byte s 0 < 128 then (byte s 0, 1) else decT T s

theorem decT_bounds (T : Utabs) (s : ByteArray) (h2 : 2 ≤ s.size) : (decT T s).1 ≤ 2147483647 ∧ 1 ≤ (decT T s).2 ∧ (decT T s).2 ≤ s.size := by
 have h0 := byte_lt s 0; have h1 := byte_lt s 1; have h2 := byte_lt s 2; have h3 := byte_lt s 3
 unfold decT
 simp only
 repeat' split
 all_goals simp only
 all_goals omega
theorem decA_bounds (T : Utabs) (s : ByteArray) (h : 0 < s.size) (h2 : byte s 0 < 128 ∨ 2 ≤ s.size) : (decA T s).1 ≤ 2147483647 ∧ 1 ≤ (decA T s).2 ∧ (decA T s).2 ≤ s.size := by
 unfold decA
 by_cases h0 : byte s 0 < 128
 · rw [if_pos h0]; simp only; omega
 · rw [if_neg h0]; exact decT_bounds T s (by omega)

/-- A text all of whose runes may stand in a name: what is decoded and may stand in a name is the rune, with its own width. -/
theorem decA_name (T : Utabs) {s : ByteArray} (h : 0 < s.size) (hn : Nm.AllName s) (hr : Nm.nameRune (decA T s).1 = true) : Nm.AllName (s.extract (decA T s).2 s.size) := by
 have hf : Nm.nameRune (Utf8.decode s 0).1 = true := hn _ (by rw [Nm.runes_first h]; exact List.mem_cons_self)
 have hrest : Nm.AllName (s.extract (Utf8.decode s 0).2 s.size) := by
  intro r hm
  rw [Nm.runes_extract] at hm
  exact hn r (by rw [Nm.runes_first h]; exact List.mem_cons_of_mem _ hm)
 rcases Nm.decode_first h hf with ⟨h0, hd⟩ | ⟨h2, hd, hb⟩
 · have : (decA T s).2 = (Utf8.decode s 0).2 := by unfold decA; rw [if_pos h0, hd]
   rw [this]
   exact hrest
 · have hne : ¬ byte s 0 < 128 := by omega
   have : (decA T s).2 = 2 := by
    unfold decA at hr ⊢
    rw [if_neg hne] at hr ⊢
    have h1 := byte_lt s 1; have h3 := byte_lt s 2; have h4 := byte_lt s 3
    rw [Nm.nameRune_iff] at hr
    unfold decT at hr ⊢
    simp only at hr ⊢
    repeat' split
    all_goals rename_i hcs
    all_goals simp_all
    all_goals omega
   rw [this, ← hd]
   exact hrest
theorem first_two {s : ByteArray} (h : 0 < s.size) (hn : Nm.AllName s) : byte s 0 < 128 ∨ 2 ≤ s.size := by
 have hf : Nm.nameRune (Utf8.decode s 0).1 = true := hn _ (by rw [Nm.runes_first h]; exact List.mem_cons_self)
 rcases Nm.decode_first h hf with ⟨h0, _⟩ | ⟨h2, _⟩
 · exact Or.inl h0
 · exact Or.inr h2

set_option maxHeartbeats 1000000 in
set_option maxRecDepth 100000 in
theorem dec_calls (T : Utabs) (s : ByteArray) (w : World) (hT : TabsRaw T w) (h : 0 < s.size) (h2 : byte s 0 < 128 ∨ 2 ≤ s.size) (hs : s.size ≤ 9000000000000000000) :
 Calls Tryz.prog 185 #[.string s] w fun e w' => e = .returned (.tuple #[.int .i32 (decA T s).1, .int .i64 (decA T s).2]) ∧ Below w.heap.size w w' := by
 have hb0 := byte_at s 0 h
 have hne : s.toList.isEmpty = false := by
  rw [ByteArray.toList_eq]
  cases hc : s.data.toList with
  | nil =>
   have : s.data.toList.length = s.size := by simp
   rw [hc] at this
   simp at this
   omega
  | cons a b => rfl
 by_cases h0 : byte s 0 < 128
 · have hd : decA T s = (byte s 0, 1) := by unfold decA; rw [if_pos h0]
   have HD := Aside0.mk hd
   clear hd hT
   go_enter Tryz.func185, Tryz.ntmps185
   go_wp2
   all_goals
    go_ret2
    rw [HD.out]
    exact ⟨rfl, Below.refl _ _⟩
 · have hd : decA T s = decT T s := by unfold decA; rw [if_neg h0]
   have HS := slow_calls T s w hT (by omega) hs
   have HD := Aside0.mk hd
   clear hd hT
   go_enter Tryz.func185, Tryz.ntmps185
   go_wp2_with (go_at_call 197; refine HS.mono ?_; rintro e w1 ⟨rfl, hb⟩)
   all_goals
    go_ret2
    rw [HD.out]
    exact ⟨rfl, hb⟩

end Go.Proofs.YtgjddnaidjbhlaaGreatDoor.CmpWalk

/- name.Compare over tables of whatever content: the walk, by hand. -/
namespace Go.Proofs.YtgjddnaidjbhlaaGreatDoor.Cmp2
open Go.Proofs.YtgjddnaidjbhlaaGreatDoor.Nm (byte byte_lt byte_at)
open Go.RowKit Go.IntWalk Go.Proofs.YtgjddnaidjbhlaaGreatDoorW.PrintWords Go.Proofs.YtgjddnaidjbhlaaGreatDoorW.PrintMore Go.Proofs.YtgjddnaidjbhlaaGreatDoor.CmpWalk

/-- name.Compare, as the tables have it. -/
def cmpF (T : Utabs) : List Int → ByteArray → Int
 | [], b => if b.size = 0 then 0 else -1
 | x :: l, b => if b.size = 0 then 1 else if x < (decA T b).1 then -1 else if ((decA T b).1 : Int) < x then 1 else cmpF T l (b.extract (decA T b).2 b.size)

theorem empty_size {s : ByteArray} (h : s.size = 0) : s.toList.isEmpty = true := by
 rw [ByteArray.toList_eq]
 have : s.data.toList.length = s.size := by simp
 rw [h] at this
 rw [List.eq_nil_of_length_eq_zero this]
 rfl
theorem some_size {s : ByteArray} (h : ¬ s.size = 0) : s.toList.isEmpty = false := by
 rw [ByteArray.toList_eq]
 cases hc : s.data.toList with
 | nil =>
  have : s.data.toList.length = s.size := by simp
  rw [hc] at this
  simp at this
  omega
 | cons a b => rfl

theorem tabs_below {T : Utabs} {w w1 : World} (h : TabsRaw T w) (hb : Below w.heap.size w w1) : TabsRaw T w1 :=
 ⟨fun i hi => (hb.cell (World.block_lt_of_cell? w _ (h.first i hi))).trans (h.first i hi), fun i hi => (hb.cell (World.block_lt_of_cell? w _ (h.lo i hi))).trans (h.lo i hi), fun i hi => (hb.cell (World.block_lt_of_cell? w _ (h.hi i hi))).trans (h.hi i hi)⟩

/-- What holds at the loop's head. -/
def Head (T : Utabs) (w : World) (a b : ByteArray) (v1 : Value) (wr : World) : Prop :=
 ∃ (pos : Nat) (c : ByteArray), v1 = .string c ∧ wr.heap[w.heap.size]? = some (.stringIter a pos) ∧ Below w.heap.size w wr ∧ c.size ≤ b.size ∧ Nm.AllName c ∧ (∀ r ∈ Nm.from_ a pos, Nm.nameRune r = true) ∧ cmpF T (Nm.runes a) b = cmpF T (Nm.from_ a pos) c

set_option maxHeartbeats 2000000 in
set_option maxRecDepth 100000 in
theorem cmp_calls (T : Utabs) (a b : ByteArray) (w : World) (hT : TabsRaw T w) (ha : Nm.AllName a) (hb : Nm.AllName b) (hsb : b.size ≤ 9000000000000000000) :
 Calls Tryz.prog 178 #[.string a, .string b] w fun e w' => e = .returned (.int .i64 (cmpF T (Nm.runes a) b)) ∧ Below w.heap.size w w' := by
 have HT := Aside0.mk hT
 have HA := Aside0.mk ha
 have HNB := Aside0.mk hb
 have HSB := Aside0.mk hsb
 clear hT ha hb hsb
 go_enter Tryz.func178, Tryz.ntmps178
 go_wp2
 go_loopw [1] (fun v1 wr => Head T w a b v1 wr) (fun _ wr => a.size - wr.iterPos w.heap.size)
 case atStart => exact ⟨0, b, rfl, World.iter_heap w a 0, (Below.refl _ _).alloc (Nat.le_refl _) _, Nat.le_refl _, HNB.out, HA.out, by rw [Nm.from_zero]⟩
 case round =>
  obtain ⟨pos, c, rfl, hit, hB, hsz, hn, hfr, hc⟩ := hrel
  have hpos0 := iterPos_of hit
  have HB := Aside0.mk hB
  have HC := Aside0.mk hc
  have HN := Aside0.mk hn
  have HFR := Aside0.mk hfr
  clear hfr
  have HIT := Aside0.mk hit
  clear hc hn hB
  by_cases hlt : pos < a.size
  · have hnext := fun ty => Lib.run_next_any_at (P := Tryz.prog) wr w.heap.size a pos ty hit hlt
    have hle := decode_le a pos
    have hposd := Nm.decode_pos a pos
    have hrun := Nm.from_step a pos hlt
    clear hit hpos0
    have hdn : Nm.nameRune ((Utf8.decode a pos).1 : Int) = true := by
     have hall : ∀ r ∈ Nm.from_ a pos, Nm.nameRune r = true := HFR.out
     exact hall _ (by rw [hrun]; exact List.mem_cons_self)
    have hrest : ∀ r ∈ Nm.from_ a (pos + (Utf8.decode a pos).2), Nm.nameRune r = true := by
     intro r hr
     exact HFR.out r (by rw [hrun]; exact List.mem_cons_of_mem _ hr)
    have HREST := Aside0.mk hrest
    clear hrest
    generalize (Utf8.decode a pos).1 = x at *
    generalize (Utf8.decode a pos).2 = d at *
    have hbelow : ∀ p, Below w.heap.size w (wr.iterAt w.heap.size a p) := fun p => Lib.below_iterAt HB.out (Nat.le_refl _) a p
    have HBW := Aside0.mk hbelow
    have hit2 := Lib.iterAt_heap wr w.heap.size a pos (pos + d) HIT.out
    have HIT2 := Aside0.mk hit2
    clear hbelow hit2
    by_cases hz : c.size = 0
    · have hz0 := empty_size hz
      have hfin : cmpF T (Nm.from_ a pos) c = 1 := by rw [hrun, cmpF, if_pos hz]
      have HF := Aside0.mk hfin
      clear hfin hrun hz
      go_wp2
      go_ret
      rw [HC.out, HF.out]
      exact ⟨rfl, HBW.out _⟩
    · have hz0 := some_size hz
      have hcp : 0 < c.size := by omega
      have h2 := first_two hcp HN.out
      have hbd := decA_bounds T c hcp h2
      have hstep := decA_name T hcp HN.out
      have HDEC := fun W (hW : TabsRaw T W) => dec_calls T c W hW hcp h2 (Nat.le_trans hsz HSB.out)
      have hfin : cmpF T (Nm.from_ a pos) c = if (x : Int) < (decA T c).1 then -1 else if ((decA T c).1 : Int) < (x : Int) then 1 else cmpF T (Nm.from_ a (pos + d)) (c.extract (decA T c).2 c.size) := by rw [hrun, cmpF, if_neg hz]
      have hext : (c.extract (decA T c).2 c.size).size ≤ b.size := by rw [ByteArray.size_extract]; omega
      have HF := Aside0.mk hfin
      have HST := Aside0.mk hstep
      have HEX := Aside0.mk hext
      clear hfin hrun hz h2 hstep hext
      generalize hy : (decA T c).1 = y at *
      generalize hq : (decA T c).2 = q at *
      clear hy hq
      by_cases hlt1 : (x : Int) < (y : Int)
      · have hl1 : decide (x < y) = true := decide_eq_true (by omega)
        go_wp2_with (go_at_call 185; refine (HDEC _ (tabs_below HT.out (HBW.out _))).mono ?_; rintro e w1 ⟨rfl, hb1⟩)
        go_ret
        rw [HC.out, HF.out, if_pos hlt1]
        exact ⟨rfl, (HBW.out _).trans (hb1.mono (HBW.out _).size)⟩
      · have hl1 : decide (x < y) = false := decide_eq_false (by omega)
        by_cases hlt2 : (y : Int) < (x : Int)
        · have hl2 : decide (y < x) = true := decide_eq_true (by omega)
          go_wp2_with (go_at_call 185; refine (HDEC _ (tabs_below HT.out (HBW.out _))).mono ?_; rintro e w1 ⟨rfl, hb1⟩)
          go_ret
          rw [HC.out, HF.out, if_neg (by omega), if_pos (by omega)]
          exact ⟨rfl, (HBW.out _).trans (hb1.mono (HBW.out _).size)⟩
        · have hl2 : decide (y < x) = false := decide_eq_false (by omega)
          have hxy : x = y := by omega
          have HXY := Aside0.mk hxy
          clear hxy
          go_wp2_with (go_at_call 185; refine (HDEC _ (tabs_below HT.out (HBW.out _))).mono ?_; rintro e w1 ⟨rfl, hb1⟩)
          have hkeep : w1.heap[w.heap.size]? = some (.stringIter a (pos + d)) := (hb1.block _ (Array.getElem?_eq_some_iff.1 HIT2.out).1).trans HIT2.out
          go_roundw
          case rel =>
           refine ⟨pos + d, c.extract q c.size, rfl, hkeep, (HBW.out _).trans (hb1.mono (HBW.out _).size), HEX.out, HST.out (by rw [← HXY.out]; exact hdn), HREST.out, ?_⟩
           rw [HC.out, HF.out, if_neg (by omega), if_neg (by omega)]
          case measure => rw [iterPos_of hkeep, iterPos_of HIT.out]; omega
  · have hnext := fun ty => Lib.run_next_end_at (P := Tryz.prog) wr w.heap.size a pos ty hit hlt
    have hend := Nm.from_end a pos (by omega)
    by_cases hz : c.size = 0
    · have hz0 := empty_size hz
      have hfin : cmpF T (Nm.from_ a pos) c = 0 := by rw [hend, cmpF, if_pos hz]
      have HF := Aside0.mk hfin
      clear hfin hend hz hit hpos0
      go_wp2
      go_ret
      rw [HC.out, HF.out]
      exact ⟨rfl, HB.out⟩
    · have hz0 := some_size hz
      have hfin : cmpF T (Nm.from_ a pos) c = -1 := by rw [hend, cmpF, if_neg hz]
      have HF := Aside0.mk hfin
      clear hfin hend hz hit hpos0
      go_wp2
      go_ret
      rw [HC.out, HF.out]
      exact ⟨rfl, HB.out⟩
end Go.Proofs.YtgjddnaidjbhlaaGreatDoor.Cmp2

/- name.Compare, name.Owner over the tables as they are laid: the walks, by hand. -/
namespace Go.Proofs.YtgjddnaidjbhlaaGreatDoor.PlName
open Go.RowKit Go.IntWalk Go.Proofs.YtgjddnaidjbhlaaGreatDoorW.PrintWords Go.Proofs.YtgjddnaidjbhlaaGreatDoorW.PrintMore Go.Proofs.YtgjddnaidjbhlaaGreatDoor.CmpWalk Go.Proofs.YtgjddnaidjbhlaaGreatDoor.Cmp2

/-- Which list of runes comes first. -/
def cmpR : List Int → List Int → Int
 | [], [] => 0
 | [], _ :: _ => -1
 | _ :: _, [] => 1
 | x :: l, y :: m => if x < y then -1 else if y < x then 1 else cmpR l m
def cmp (a b : ByteArray) : Int := cmpR (Nm.runes a) (Nm.runes b)
def sumR : List Int → Int
 | [] => 0
 | x :: l => x + sumR l
/-- Whose key a text is. -/
def owner (s : ByteArray) : Int := sumR (Nm.runes s) % 4
abbrev TabsAt (w : World) : Prop := Lib.Utf8Tabs 0 1 w
theorem tabs_on {w w1 : World} (h : TabsAt w) (hb : Below w.heap.size w w1) : TabsAt w1 :=
 ⟨fun c hc => (hb.cell (World.block_lt_of_cell? w _ (h.1 c hc))).trans (h.1 c hc), fun i hi => ⟨(hb.cell (World.block_lt_of_cell? w _ (h.2 i hi).1)).trans (h.2 i hi).1, (hb.cell (World.block_lt_of_cell? w _ (h.2 i hi).2)).trans (h.2 i hi).2⟩⟩
theorem runes_cons {c : ByteArray} (h : 0 < c.size) : Nm.runes c = ((Utf8.decode c 0).1 : Int) :: Nm.runes (c.extract (Utf8.decode c 0).2 c.size) := by
 rw [Nm.runes_extract]
 exact Nm.runes_first h
theorem runes_nil {c : ByteArray} (h : c.size = 0) : Nm.runes c = [] := by
 rw [← Nm.from_zero, Nm.from_end c 0 (by omega)]
theorem dec_calls (c : ByteArray) (w : World) (hT : TabsAt w) (h : 0 < c.size) : Calls Tryz.prog 185 #[.string c] w fun e w' => e = .returned (.tuple #[.int .i32 (Utf8.decode c 0).1, .int .i64 (Utf8.decode c 0).2]) ∧ Below w.heap.size w w' := by
 have h1 := Tryz.utf8_DecodeRuneInString c w hT
 unfold Lib.decodeGo at h1
 rw [if_neg (by omega)] at h1
 exact h1
theorem dec_le {c : ByteArray} (h : 0 < c.size) : (Utf8.decode c 0).2 ≤ c.size := by
 simp only [Utf8.decode]
 repeat' split
 all_goals simp_all
 all_goals omega
def Head (w : World) (a b : ByteArray) (v1 : Value) (wr : World) : Prop :=
 ∃ (pos : Nat) (c : ByteArray), v1 = .string c ∧ wr.heap[w.heap.size]? = some (.stringIter a pos) ∧ Below w.heap.size w wr ∧ c.size ≤ b.size ∧ cmp a b = cmpR (Nm.from_ a pos) (Nm.runes c)

set_option maxHeartbeats 2000000 in
set_option maxRecDepth 100000 in
theorem cmp_calls (a b : ByteArray) (w : World) (hT : TabsAt w) (hsb : b.size ≤ 9000000000000000000) :
 Calls Tryz.prog 178 #[.string a, .string b] w fun e w' => e = .returned (.int .i64 (cmp a b)) ∧ Below w.heap.size w w' := by
 have HT := Aside0.mk hT
 have HSB := Aside0.mk hsb
 clear hT hsb
 go_enter Tryz.func178, Tryz.ntmps178
 go_wp2
 go_loopw [1] (fun v1 wr => Head w a b v1 wr) (fun _ wr => a.size - wr.iterPos w.heap.size)
 case atStart => exact ⟨0, b, rfl, World.iter_heap w a 0, (Below.refl _ _).alloc (Nat.le_refl _) _, Nat.le_refl _, by rw [Nm.from_zero]; rfl⟩
 case round =>
  obtain ⟨pos, c, rfl, hit, hB, hsz, hc⟩ := hrel
  have hpos0 := iterPos_of hit
  have HB := Aside0.mk hB
  have HC := Aside0.mk hc
  have HIT := Aside0.mk hit
  clear hc hB
  by_cases hlt : pos < a.size
  · have hnext := fun ty => Lib.run_next_any_at (P := Tryz.prog) wr w.heap.size a pos ty hit hlt
    have hle := decode_le a pos
    have hposd := Nm.decode_pos a pos
    have hrun := Nm.from_step a pos hlt
    clear hit hpos0
    generalize (Utf8.decode a pos).1 = x at *
    generalize (Utf8.decode a pos).2 = d at *
    have hbelow : ∀ p, Below w.heap.size w (wr.iterAt w.heap.size a p) := fun p => Lib.below_iterAt HB.out (Nat.le_refl _) a p
    have HBW := Aside0.mk hbelow
    have hit2 := Lib.iterAt_heap wr w.heap.size a pos (pos + d) HIT.out
    have HIT2 := Aside0.mk hit2
    clear hbelow hit2
    by_cases hz : c.size = 0
    · have hz0 := empty_size hz
      have hfin : cmpR (Nm.from_ a pos) (Nm.runes c) = 1 := by rw [hrun, runes_nil hz]; rfl
      have HF := Aside0.mk hfin
      clear hfin hrun hz
      go_wp2
      go_ret
      rw [HC.out, HF.out]
      exact ⟨rfl, HBW.out _⟩
    · have hz0 := some_size hz
      have hcp : 0 < c.size := by omega
      have hbd := decode_le c 0
      have hb2 := dec_le hcp
      have hb1 := Nm.decode_pos c 0
      have HDEC := fun W (hW : TabsAt W) => dec_calls c W hW hcp
      have hfin : cmpR (Nm.from_ a pos) (Nm.runes c) = if (x : Int) < ((Utf8.decode c 0).1 : Int) then -1 else if ((Utf8.decode c 0).1 : Int) < (x : Int) then 1 else cmpR (Nm.from_ a (pos + d)) (Nm.runes (c.extract (Utf8.decode c 0).2 c.size)) := by rw [hrun, runes_cons hcp]; rfl
      have hext : (c.extract (Utf8.decode c 0).2 c.size).size ≤ b.size := by rw [ByteArray.size_extract]; omega
      have HF := Aside0.mk hfin
      have HEX := Aside0.mk hext
      clear hfin hrun hz hext
      generalize hy : (Utf8.decode c 0).1 = y at *
      generalize hq : (Utf8.decode c 0).2 = q at *
      clear hy hq
      by_cases hlt1 : (x : Int) < (y : Int)
      · have hl1 : decide (x < y) = true := decide_eq_true (by omega)
        go_wp2_with (go_at_call 185; refine (HDEC _ (tabs_on HT.out (HBW.out _))).mono ?_; rintro e w1 ⟨rfl, hb1⟩)
        go_ret
        rw [HC.out, HF.out, if_pos hlt1]
        exact ⟨rfl, (HBW.out _).trans (hb1.mono (HBW.out _).size)⟩
      · have hl1 : decide (x < y) = false := decide_eq_false (by omega)
        by_cases hlt2 : (y : Int) < (x : Int)
        · have hl2 : decide (y < x) = true := decide_eq_true (by omega)
          go_wp2_with (go_at_call 185; refine (HDEC _ (tabs_on HT.out (HBW.out _))).mono ?_; rintro e w1 ⟨rfl, hb1⟩)
          go_ret
          rw [HC.out, HF.out, if_neg (by omega), if_pos (by omega)]
          exact ⟨rfl, (HBW.out _).trans (hb1.mono (HBW.out _).size)⟩
        · have hl2 : decide (y < x) = false := decide_eq_false (by omega)
          go_wp2_with (go_at_call 185; refine (HDEC _ (tabs_on HT.out (HBW.out _))).mono ?_; rintro e w1 ⟨rfl, hb1⟩)
          have hkeep : w1.heap[w.heap.size]? = some (.stringIter a (pos + d)) := (hb1.block _ (Array.getElem?_eq_some_iff.1 HIT2.out).1).trans HIT2.out
          go_roundw
          case rel =>
           refine ⟨pos + d, c.extract q c.size, rfl, hkeep, (HBW.out _).trans (hb1.mono (HBW.out _).size), HEX.out, ?_⟩
           rw [HC.out, HF.out, if_neg (by omega), if_neg (by omega)]
          case measure => rw [iterPos_of hkeep, iterPos_of HIT.out]; omega
  · have hnext := fun ty => Lib.run_next_end_at (P := Tryz.prog) wr w.heap.size a pos ty hit hlt
    have hend := Nm.from_end a pos (by omega)
    by_cases hz : c.size = 0
    · have hz0 := empty_size hz
      have hfin : cmpR (Nm.from_ a pos) (Nm.runes c) = 0 := by rw [hend, runes_nil hz]; rfl
      have HF := Aside0.mk hfin
      clear hfin hend hz hit hpos0
      go_wp2
      go_ret
      rw [HC.out, HF.out]
      exact ⟨rfl, HB.out⟩
    · have hz0 := some_size hz
      have hfin : cmpR (Nm.from_ a pos) (Nm.runes c) = -1 := by rw [hend, runes_cons (by omega)]; rfl
      have HF := Aside0.mk hfin
      clear hfin hend hz hit hpos0
      go_wp2
      go_ret
      rw [HC.out, HF.out]
      exact ⟨rfl, HB.out⟩

/-- A name's runes are few, and so is their sum. -/
theorem isGo_few : ∀ (l : List Int) (n : Nat), Nm.isGo l n = true → l.length + n ≤ 8
 | [], n, h => by
  simp [Nm.isGo] at h
  simp
  omega
 | r :: l, n, h => by
  simp only [Nm.isGo, Bool.and_eq_true] at h
  have := isGo_few l (n + 1) h.2
  simp only [List.length_cons]
  omega
theorem sum_name : ∀ (l : List Int), (∀ r ∈ l, Nm.nameRune r = true) → 0 ≤ sumR l ∧ sumR l ≤ 1000 * l.length
 | [], _ => by simp [sumR]
 | x :: l, h => by
  have h1 := sum_name l (fun r hr => h r (List.mem_cons_of_mem _ hr))
  have h2 := (Nm.nameRune_iff x).1 (h x List.mem_cons_self)
  simp only [sumR, List.length_cons]
  omega
def HeadO (w : World) (a : ByteArray) (v3 : Value) (wr : World) : Prop :=
 ∃ (pos : Nat) (n : Int), v3 = .int .i64 n ∧ wr.heap[w.heap.size]? = some (.stringIter a pos) ∧ Below w.heap.size w wr ∧ 0 ≤ n ∧ (∀ r ∈ Nm.from_ a pos, Nm.nameRune r = true) ∧ n + sumR (Nm.from_ a pos) = sumR (Nm.runes a)
set_option maxHeartbeats 2000000 in
set_option maxRecDepth 100000 in
theorem owner_calls (a : ByteArray) (w : World) (hn : Nm.isName a = true) :
 Calls Tryz.prog 177 #[.string a] w fun e w' => e = .returned (.int .i64 (owner a)) ∧ Below w.heap.size w w' := by
 have hall := Nm.isName_all hn
 have hfew := isGo_few _ _ hn
 have htot : sumR (Nm.runes a) ≤ 8000 := by have := (sum_name _ hall).2; omega
 have HALL := Aside0.mk hall
 have HTOT := Aside0.mk htot
 clear hall hfew htot hn
 go_enter Tryz.func177, Tryz.ntmps177
 go_wp2
 go_loopw [3] (fun v3 wr => HeadO w a v3 wr) (fun _ wr => a.size - wr.iterPos w.heap.size)
 case atStart => exact ⟨0, 0, rfl, World.iter_heap w a 0, (Below.refl _ _).alloc (Nat.le_refl _) _, Int.le_refl _, HALL.out, by rw [Nm.from_zero]; omega⟩
 case round =>
  obtain ⟨pos, n, rfl, hit, hB, h0, hfr, hc⟩ := hrel
  have hpos0 := iterPos_of hit
  have HB := Aside0.mk hB
  have HC := Aside0.mk hc
  have HFR := Aside0.mk hfr
  have HIT := Aside0.mk hit
  have hbig : n + sumR (Nm.from_ a pos) ≤ 8000 := by have := HTOT.out; omega
  have hpos := (sum_name _ hfr).1
  clear hc hB hfr
  by_cases hlt : pos < a.size
  · have hnext := fun ty => Lib.run_next_any_at (P := Tryz.prog) wr w.heap.size a pos ty hit hlt
    have hposd := Nm.decode_pos a pos
    have hrun := Nm.from_step a pos hlt
    have hrest : ∀ r ∈ Nm.from_ a (pos + (Utf8.decode a pos).2), Nm.nameRune r = true := fun r hr => HFR.out r (by rw [hrun]; exact List.mem_cons_of_mem _ hr)
    have hx := (Nm.nameRune_iff _).1 (HFR.out ((Utf8.decode a pos).1 : Int) (by rw [hrun]; exact List.mem_cons_self))
    have hp2 := (sum_name _ hrest).1
    have HREST := Aside0.mk hrest
    rw [hrun, sumR] at hbig
    clear hit hpos0 hrest
    generalize (Utf8.decode a pos).1 = x at *
    generalize (Utf8.decode a pos).2 = d at *
    have hx8 : n + (x : Int) ≤ 8000 := by omega
    have hx0 : (x : Int) ≤ 1000 := by omega
    have HBW : Aside0 (∀ p, Below w.heap.size w (wr.iterAt w.heap.size a p)) := ⟨fun p => Lib.below_iterAt HB.out (Nat.le_refl _) a p⟩
    have HIT2 := Aside0.mk (Lib.iterAt_heap wr w.heap.size a pos (pos + d) HIT.out)
    have HRUN := Aside0.mk hrun
    clear hrun hx hp2 hbig hpos
    go_wp2
    go_roundw
    case rel => exact ⟨pos + d, n + x, rfl, HIT2.out, HBW.out _, by omega, HREST.out, by have := HC.out; rw [HRUN.out, sumR] at this; omega⟩
    case measure => rw [iterPos_of HIT2.out, iterPos_of HIT.out]; omega
  · have hnext := fun ty => Lib.run_next_end_at (P := Tryz.prog) wr w.heap.size a pos ty hit hlt
    have hfin : n = sumR (Nm.runes a) := by have := HC.out; rw [Nm.from_end a pos (by omega)] at this; simpa [sumR] using this
    have HF := Aside0.mk hfin
    clear hfin hit hpos0 hbig hpos
    go_wp2
    go_ret
    refine ⟨?_, HB.out⟩
    rw [owner, ← HF.out]
    rfl
end Go.Proofs.YtgjddnaidjbhlaaGreatDoor.PlName

/- Definitions as plain data, and how they lie. -/
namespace Go.Proofs.YtgjddnaidjbhlaaGreatDoor.Pl
open Go.RowKit Go.IntWalk Go.Proofs.YtgjddnaidjbhlaaGreatDoorW.PrintWords Go.Proofs.YtgjddnaidjbhlaaGreatDoor.Opening

theorem bdn {B n : Nat} {a w : World} (h : Below B a w) : Below B a (w.drewN n) := h.trans ⟨rfl, rfl, rfl, Nat.le_refl _, fun _ _ => rfl⟩
structure Step where
 name : ByteArray
 kind : Int
 part : Int
 keys : List ByteArray
 needs : List Int
structure Def where
 name : ByteArray
 steps : List Step
/-- A step's cells. -/
def cells (s : Step) (v1 v2 : Value) : List Value := [.string s.name, .int .i64 s.kind, .int .i64 s.part, v1, v2]
def StepK (w : World) (s : Step) (cs : List Value) : Prop := ∃ A1 c1 A2 c2, cs = cells s (.slice A1 s.keys.length c1) (.slice A2 s.needs.length c2) ∧
 s.keys.length ≤ c1 ∧ Kd.C Kd.string w A1 s.keys.length s.keys ∧ s.needs.length ≤ c2 ∧ Kd.C (Kd.int .i64) w A2 s.needs.length s.needs
/-- What every reading bounds. -/
def StepB (s : Step) : Prop := s.name.size ≤ 140737488351232 ∧ (Lit.int .i64 s.kind).wf = true ∧ (Lit.int .i64 s.part).wf = true ∧ ((∀ x ∈ s.keys, x.size ≤ 140737488351232) ∧ s.keys.length ≤ 8796093022208) ∧ ((∀ x ∈ s.needs, (Lit.int .i64 x).wf = true) ∧ s.needs.length ≤ 17592186044416)
/-- A definition's steps, as they lie. -/
def StepsAt (w : World) (A : Option Addr) (l : List Step) : Prop := RowsK StepK 5 w A l
theorem StepK.below {w w' : World} {s : Step} {cs : List Value} (h : StepK w s cs) (hb : Below w.heap.size w w') : StepK w' s cs := by
 obtain ⟨A1, c1, A2, c2, e, h1, h2, h3, h4⟩ := h
 exact ⟨A1, c1, A2, c2, e, h1, Kd.C_below h2 hb, h3, Kd.C_below h4 hb⟩
theorem cell_on {w w1 : World} {a : Addr} {v : Value} (hb : Below w.heap.size w w1) (h : w.cell? a = some v) : w1.cell? a = some v :=
 (hb.cell (World.block_lt_of_cell? w _ h)).trans h
theorem StepsAt.below {w w' : World} {A : Option Addr} {l : List Step} (h : StepsAt w A l) (hb : Below w.heap.size w w') : StepsAt w' A l := by
 intro i x hx
 obtain ⟨ad, e, cs, h1, h2, h3⟩ := h i x hx
 exact ⟨ad, e, cs, h1, h2.below hb, fun j u hj => cell_on hb (h3 j u hj)⟩
theorem StepsAt.take {w : World} {A : Option Addr} {l : List Step} (h : StepsAt w A l) (n : Nat) : StepsAt w A (l.take n) := by
 intro i x hx
 rw [List.getElem?_take] at hx
 split at hx
 · exact h i x hx
 · cases hx
/-- One step, as it lies. -/
structure At1 (w : World) (ax : Addr) (s : Step) (A1 : Option Addr) (c1 : Nat) (A2 : Option Addr) (c2 : Nat) : Prop where
 c0 : w.cell? ax = some (.string s.name)
 c1_ : w.cell? ⟨ax.block, ax.off + 1, none⟩ = some (.int .i64 s.kind)
 c2_ : w.cell? ⟨ax.block, ax.off + 2, none⟩ = some (.int .i64 s.part)
 c3 : w.cell? ⟨ax.block, ax.off + 3, none⟩ = some (.slice A1 s.keys.length c1)
 c4 : w.cell? ⟨ax.block, ax.off + 4, none⟩ = some (.slice A2 s.needs.length c2)
 k1 : s.keys.length ≤ c1
 keys : Kd.C Kd.string w A1 s.keys.length s.keys
 k2 : s.needs.length ≤ c2
 needs : Kd.C (Kd.int .i64) w A2 s.needs.length s.needs
theorem At1.below {w w' : World} {ax : Addr} {s : Step} {A1 : Option Addr} {c1 : Nat} {A2 : Option Addr} {c2 : Nat} (h : At1 w ax s A1 c1 A2 c2) (hb : Below w.heap.size w w') : At1 w' ax s A1 c1 A2 c2 :=
 ⟨cell_on hb h.c0, cell_on hb h.c1_, cell_on hb h.c2_, cell_on hb h.c3, cell_on hb h.c4, h.k1, Kd.C_below h.keys hb, h.k2, Kd.C_below h.needs hb⟩
theorem StepsAt.one {w : World} {A : Option Addr} {l : List Step} (h : StepsAt w A l) {i : Nat} {s : Step} (hi : l[i]? = some s) : ∃ ad, A = some ad ∧ ∃ A1 c1 A2 c2, At1 w (ad.add (i * 5)) s A1 c1 A2 c2 := by
 obtain ⟨ad, e, cs, h1, ⟨A1, c1, A2, c2, rfl, k1, k2, k3, k4⟩, h3⟩ := h i s hi
 have nx : ∀ {j : Nat} {u : Value}, (cells s (.slice A1 s.keys.length c1) (.slice A2 s.needs.length c2))[j + 1]? = some u → w.cell? ⟨(ad.add (i * 5)).block, (ad.add (i * 5)).off + (j + 1), none⟩ = some u := fun {j u} hu => by
  have h4 := h3 (j + 1) u hu
  rw [← Addr.add_add] at h4
  exact h4
 exact ⟨ad, e, A1, c1, A2, c2, h3 0 _ rfl, nx (j := 0) rfl, nx (j := 1) rfl, nx (j := 2) rfl, nx (j := 3) rfl, k1, k2, k3, k4⟩

/-! ### what may be -/
/-- Are a step's keys right, behind one (or none)? -/
def goKeys (part : Int) : Option ByteArray → List ByteArray → Bool
 | _, [] => true
 | none, k :: l => Nm.isName k && (decide (PlName.owner k = part) && goKeys part (some k) l)
 | some p, k :: l => Nm.isName k && (decide (PlName.owner k = part) && (decide (PlName.cmp p k < 0) && goKeys part (some k) l))
def keysOk (s : Step) : Bool := decide (s.keys.length ≤ 2) && goKeys s.part none s.keys
/-- Are needs right, behind one? -/
def goNeeds (n i : Int) : Int → List Int → Bool
 | _, [] => true
 | last, x :: l => decide (last < x) && (decide (x < n) && (decide (x ≠ i) && goNeeds n i x l))
def needsOk (n i : Int) (l : List Int) : Bool := goNeeds n i (-1) l
def twice (l : List Step) (i : Nat) (s : Step) : Bool := (l.take i).any fun x => x.name.toList == s.name.toList
def aloneOk (l : List Step) (i : Nat) (s : Step) : Bool := Nm.isName s.name && (!twice l i s && (decide (1 ≤ s.kind ∧ s.kind ≤ 3) && (decide (0 ≤ s.part ∧ s.part ≤ 3) && (keysOk s && needsOk l.length i s.needs))))
end Go.Proofs.YtgjddnaidjbhlaaGreatDoor.Pl

/- check.keys: the walk, by hand. -/
namespace Go.Proofs.YtgjddnaidjbhlaaGreatDoor.Pl
open Go.RowKit Go.IntWalk Go.Proofs.YtgjddnaidjbhlaaGreatDoorW.PrintWords Go.Proofs.YtgjddnaidjbhlaaGreatDoorW.PrintLast Go.Proofs.YtgjddnaidjbhlaaGreatDoorW.PrintMore Go.Proofs.YtgjddnaidjbhlaaGreatDoor.PlName

theorem alloc1 (w : World) (b : Obj) : (w.alloc b).heap[w.heap.size]? = some b := by
 show (w.heap.push b)[w.heap.size]? = _
 simp
theorem below_one (w : World) (o : Obj) : Below w.heap.size w (w.alloc o) := (Below.refl _ _).alloc (Nat.le_refl _) _
theorem row_cell {w : World} {g t j : Nat} {arr : Array Value} {v : Value} (hg : w.heap[g]? = some (.cells arr t (0, 0))) (hj : arr[j]? = some v) : w.cell? ⟨g, j, none⟩ = some v := by
 simp [World.cell?, hg, hj]
theorem on_ {a b c : World} (h : Below a.heap.size a b) (hb : Below b.heap.size b c) : Below a.heap.size a c := h.trans (hb.mono h.size)
theorem row_on {w w1 : World} {g : Nat} {o : Obj} (hb : Below w.heap.size w w1) (hg : w.heap[g]? = some o) : w1.heap[g]? = some o := (hb.block g (Array.getElem?_eq_some_iff.1 hg).1).trans hg
def prev (l : List ByteArray) (i : Nat) : Option ByteArray := if i = 0 then none else l[i - 1]?
theorem key_at {w : World} {A : Option Addr} {l : List ByteArray} (h : Kd.C Kd.string w A l.length l) {i : Nat} (hlt : i < l.length) : ∃ ad, A = some ad ∧ w.cell? (match i with | 0 => ad | j + 1 => ⟨ad.block, ad.off + (j + 1), none⟩) = some (.string l[i]) := by
 obtain ⟨_, _, h3⟩ := h
 obtain ⟨ad, e, h4⟩ := h3 (by omega)
 obtain ⟨cs, h5, h6, h7⟩ := h4 i l[i] (List.getElem?_eq_getElem hlt)
 refine ⟨ad, e, ?_⟩
 have h8 : cs = [.string l[i]] := h6
 have h9 := h7 0 (.string l[i]) (by rw [h8]; rfl)
 rw [show Kd.string.sz = 1 from rfl, Nat.mul_one, Nat.add_zero] at h9
 cases i with
 | zero => exact h9
 | succ j => exact h9

set_option maxHeartbeats 4000000 in
set_option maxRecDepth 100000 in
theorem keys_calls (s : Step) (A1 : Option Addr) (c1 : Nat) (v2 : Value) (n2 c2 : Nat) (A2 : Option Addr) (w : World) (hv2 : v2 = .slice A2 n2 c2) (hk : Kd.C Kd.string w A1 s.keys.length s.keys) (hs : ∀ k ∈ s.keys, k.size ≤ 140737488351232) (hl : s.keys.length ≤ 8796093022208) (hT : TabsAt w) :
 Calls Tryz.prog 140 #[.agg (cells s (.slice A1 s.keys.length c1) v2).toArray] w fun e w' => e = .returned (.bool (keysOk s)) ∧ Below w.heap.size w w' := by
 subst hv2
 have HK := Aside0.mk (And.intro hk (And.intro hs (And.intro hl hT)))
 clear hk hs hl hT
 obtain ⟨name, kind, part, l, needs⟩ := s
 simp only [cells] at *
 by_cases h2 : 2 < l.length
 · have hd : decide (2 < (l.length : Int)) = true := decide_eq_true (by omega)
   have HF : Aside0 (keysOk ⟨name, kind, part, l, needs⟩ = false) := ⟨by simp [keysOk]; omega⟩
   clear h2
   go_enter Tryz.func140, Tryz.ntmps140
   go_wp2
   go_ret
   rw [HF.out]
   exact ⟨rfl, below_one _ _⟩
 · have hd : decide (2 < (l.length : Int)) = false := decide_eq_false (by omega)
   have HF : Aside0 (keysOk ⟨name, kind, part, l, needs⟩ = goKeys part none l) := ⟨by simp [keysOk]; omega⟩
   go_enter Tryz.func140, Tryz.ntmps140
   go_wp2
   have hrow := alloc1 w (.cells #[.string name, .int .i64 kind, .int .i64 part, .slice A1 l.length c1, .slice A2 n2 c2] 70)
   have HB0 := Aside0.mk (And.intro (below_one w (.cells #[.string name, .int .i64 kind, .int .i64 part, .slice A1 l.length c1, .slice A2 n2 c2] 70)) hrow)
   generalize World.alloc w _ = w0 at *
   clear hrow
   go_loopw [12] (fun v12 wr => ∃ i : Nat, i ≤ l.length ∧ v12 = .int .i64 (i : Int) ∧ keysOk ⟨name, kind, part, l, needs⟩ = goKeys part (prev l i) (l.drop i) ∧ Below w0.heap.size w0 wr) (fun v12 _ => l.length - (intOf v12).toNat)
   case atStart => exact ⟨0, Nat.zero_le _, rfl, HF.out, Below.refl _ _⟩
   case round =>
    obtain ⟨i, hi, rfl, hg, hB⟩ := hrel
    have HG := Aside0.mk hg
    have HBR := Aside0.mk hB
    have hrow := row_on hB HB0.out.2
    have hq2 : wr.cell? ⟨w.heap.size, 2, none⟩ = some (.int .i64 part) := row_cell hrow rfl
    have hq3 : wr.cell? ⟨w.heap.size, 3, none⟩ = some (.slice A1 l.length c1) := row_cell hrow rfl
    have HTR := Aside0.mk (tabs_on HK.out.2.2.2 (on_ HB0.out.1 hB))
    clear hg hrow hB
    by_cases hlt : i < l.length
    · have hd2 : decide ((i : Int) < (l.length : Int)) = true := decide_eq_true (by omega)
      have hi01 : i = 0 ∨ i = 1 := by omega
      obtain ⟨ad, rfl, hkey⟩ := key_at HK.out.1 hlt
      replace hkey := cell_on (on_ HB0.out.1 HBR.out) hkey
      have hmem := List.getElem_mem hlt
      have hsz := HK.out.2.1 _ hmem
      have hdrop : l.drop i = l[i] :: l.drop (i + 1) := List.drop_eq_getElem_cons hlt
      have hprev : prev l (i + 1) = some l[i] := by unfold prev; rw [if_neg (by omega)]; simp [List.getElem?_eq_getElem hlt]
      have HPV := Aside0.mk hprev
      rw [hdrop] at HG
      have HI : Aside0 (∀ W, Calls Tryz.prog 32 #[.string l[i]] W fun e w' => e = .returned (.bool (Nm.isName l[i])) ∧ Below W.heap.size W w') := ⟨fun W => NameWalk.is_calls _ W (by omega)⟩
      have HOW : Nm.isName l[i] = true → Aside0 (∀ W, Calls Tryz.prog 177 #[.string l[i]] W fun e w' => e = .returned (.int .i64 (owner l[i])) ∧ Below W.heap.size W w') := fun h => ⟨fun W => owner_calls _ W h⟩
      clear hmem hdrop hprev
      rcases hi01 with rfl | rfl
      · have hp0 : prev l 0 = none := rfl
        rw [hp0, goKeys] at HG
        simp only at hkey
        generalize l[0] = k at *
        clear hp0 hsz
        cases hn : Nm.isName k
        · rw [hn] at HG HI
          clear HOW
          have HFIN : Aside0 ((false && (decide (owner k = part) && goKeys part (some k) (List.drop (0 + 1) l))) = false) := ⟨rfl⟩
          go_wp2
          refine start_ (n := 25) (S := fun w' => w'.cell? ⟨w.heap.size, 2, none⟩ = some (.int .i64 part) ∧ w'.cell? ⟨w.heap.size, 3, none⟩ = some (.slice (some ad) l.length c1) ∧ TabsAt w') (ds := []) #[false,false,false,false,false,false,false,false,false,false,false,false,false,false,false,false,false,false,false,false,false,false,false,false,false] (by kernel_rfl) rfl rfl ⟨(by go_keep), (by go_keep), (tabs_on HTR.out (below_drew (Below.refl _ _)))⟩ (fun hHeld => ?_)
          refine zV 0 17 25 1 ?_
          refine one_ (i := 1) (N := some 18) (zG 25 3) rfl rfl (by kernel_rfl) (by decide) (fun K hK => ?_)
          refine goes_ Tryz.func32 (by kernel_rfl) rfl #[.string k] (by rfl) rfl rfl (by simp only [List.map_toArray, List.map_cons, List.map_nil]; rfl) ?_
          with_reducible refine (HI.out _).mono ?_
          rintro e w1 ⟨rfl, hb1⟩
          refine ⟨_, rfl, ?_⟩
          refine hK.out _ _ ⟨(cell_on hb1 hHeld.1), (cell_on hb1 hHeld.2.1), (tabs_on hHeld.2.2 hb1)⟩ (fun hHeld => ?_)
          clear hK K
          refine norm_ (a' := ?_) ?_ ?_
          rotate_left
          · show Act.put _ (some 18) _ = _
            simp only [Act.put, zA, zB, zC, i64_w, i32_w]
            rfl
          refine zV 2 19 25 7 ?_
          refine zV 3 20 25 15 ?_
          refine zU 4 21 25 31 ?_
          refine zU 5 22 25 63 ?_
          refine zU 6 23 25 127 ?_
          refine zU 7 24 25 255 ?_
          refine zU 8 25 25 511 ?_
          refine zV 9 26 25 1023 ?_
          refine zV 10 27 25 2047 ?_
          refine zU 11 28 25 4095 ?_
          refine zU 12 29 25 8191 ?_
          refine zU 13 30 25 16383 ?_
          refine zU 14 31 25 32767 ?_
          refine zU 15 32 25 65535 ?_
          refine zU 16 33 25 131071 ?_
          refine zU 17 34 25 262143 ?_
          refine zU 18 35 25 524287 ?_
          refine zU 19 36 25 1048575 ?_
          refine zU 20 37 25 2097151 ?_
          refine zU 21 38 25 4194303 ?_
          refine zU 22 39 25 8388607 ?_
          refine zU 23 40 25 16777215 ?_
          refine zV 24 41 25 33554431 ?_
          refine done_ (by kernel_rfl) ?_
          go_wp2
          go_ret
          rw [HG.out, HFIN.out]
          exact ⟨rfl, on_ (on_ HB0.out.1 HBR.out) (on_ (below_drew (Below.refl _ _)) hb1)⟩
        · rw [hn] at HG HI
          replace HOW := HOW hn
          clear hn
          generalize owner k = o at *
          by_cases ho : o = part
          · have hd3 : (o != part) = false := bne_eq_false_iff_eq.2 ho
            have HFIN : Aside0 ((true && (decide (o = part) && goKeys part (some k) (List.drop (0 + 1) l))) = goKeys part (prev l 1) (l.drop 1)) := ⟨by rw [HPV.out, decide_eq_true ho]; rfl⟩
            clear ho
            go_wp2
            refine start_ (n := 25) (S := fun w' => w'.cell? ⟨w.heap.size, 2, none⟩ = some (.int .i64 part) ∧ w'.cell? ⟨w.heap.size, 3, none⟩ = some (.slice (some ad) l.length c1) ∧ TabsAt w') (ds := []) #[false,false,false,false,false,false,false,false,false,false,false,false,false,false,false,false,false,false,false,false,false,false,false,false,false] (by kernel_rfl) rfl rfl ⟨(by go_keep), (by go_keep), (tabs_on HTR.out (below_drew (Below.refl _ _)))⟩ (fun hHeld => ?_)
            refine zV 0 17 25 1 ?_
            refine one_ (i := 1) (N := some 18) (zG 25 3) rfl rfl (by kernel_rfl) (by decide) (fun K hK => ?_)
            refine goes_ Tryz.func32 (by kernel_rfl) rfl #[.string k] (by rfl) rfl rfl (by simp only [List.map_toArray, List.map_cons, List.map_nil]; rfl) ?_
            with_reducible refine (HI.out _).mono ?_
            rintro e w1 ⟨rfl, hb1⟩
            refine ⟨_, rfl, ?_⟩
            refine hK.out _ _ ⟨(cell_on hb1 hHeld.1), (cell_on hb1 hHeld.2.1), (tabs_on hHeld.2.2 hb1)⟩ (fun hHeld => ?_)
            clear hK K
            refine norm_ (a' := ?_) ?_ ?_
            rotate_left
            · show Act.put _ (some 18) _ = _
              simp only [Act.put, zA, zB, zC, i64_w, i32_w]
              rfl
            refine zV 2 19 25 7 ?_
            refine zV 3 20 25 15 ?_
            refine zV 4 21 25 31 ?_
            refine zV 6 23 25 95 ?_
            refine zT 7 24 25 223 hHeld ?_
            refine one_ (i := 5) (N := some 22) (zG 25 255) rfl rfl (by kernel_rfl) (by decide) (fun K hK => ?_)
            refine goes_ Tryz.func177 (by kernel_rfl) rfl #[.string k] (by rfl) rfl rfl (by simp only [List.map_toArray, List.map_cons, List.map_nil]; rfl) ?_
            with_reducible refine (HOW.out _).mono ?_
            rintro e w2 ⟨rfl, hb2⟩
            refine ⟨_, rfl, ?_⟩
            refine hK.out _ _ ⟨(cell_on hb2 hHeld.1), (cell_on hb2 hHeld.2.1), (tabs_on hHeld.2.2 hb2)⟩ (fun hHeld => ?_)
            clear hK K
            refine norm_ (a' := ?_) ?_ ?_
            rotate_left
            · show Act.put _ (some 22) _ = _
              simp only [Act.put, zA, zB, zC, i64_w, i32_w]
              rfl
            refine zV 8 25 25 511 ?_
            refine zV 9 26 25 1023 ?_
            refine zV 10 27 25 2047 ?_
            refine zV 11 28 25 4095 ?_
            refine zV 12 29 25 8191 ?_
            refine zV 13 30 25 16383 ?_
            refine zU 14 31 25 32767 ?_
            refine zU 15 32 25 65535 ?_
            refine zU 16 33 25 131071 ?_
            refine zU 17 34 25 262143 ?_
            refine zU 18 35 25 524287 ?_
            refine zU 19 36 25 1048575 ?_
            refine zU 20 37 25 2097151 ?_
            refine zU 21 38 25 4194303 ?_
            refine zU 22 39 25 8388607 ?_
            refine zV 23 40 25 16777215 ?_
            refine zV 24 41 25 33554431 ?_
            refine done_ (by kernel_rfl) ?_
            go_wp2
            go_roundw
            case rel => exact ⟨1, by omega, by go_num, by rw [HG.out]; exact HFIN.out, on_ HBR.out (on_ (on_ (below_drew (Below.refl _ _)) hb1) hb2)⟩
            case measure => simp [intOf]; omega
          · have hd3 : (o != part) = true := bne_iff_ne.2 ho
            have HFIN : Aside0 ((true && (decide (o = part) && goKeys part (some k) (List.drop (0 + 1) l))) = false) := ⟨by rw [decide_eq_false ho]; rfl⟩
            clear ho
            go_wp2
            refine start_ (n := 25) (S := fun w' => w'.cell? ⟨w.heap.size, 2, none⟩ = some (.int .i64 part) ∧ w'.cell? ⟨w.heap.size, 3, none⟩ = some (.slice (some ad) l.length c1) ∧ TabsAt w') (ds := []) #[false,false,false,false,false,false,false,false,false,false,false,false,false,false,false,false,false,false,false,false,false,false,false,false,false] (by kernel_rfl) rfl rfl ⟨(by go_keep), (by go_keep), (tabs_on HTR.out (below_drew (Below.refl _ _)))⟩ (fun hHeld => ?_)
            refine zV 0 17 25 1 ?_
            refine one_ (i := 1) (N := some 18) (zG 25 3) rfl rfl (by kernel_rfl) (by decide) (fun K hK => ?_)
            refine goes_ Tryz.func32 (by kernel_rfl) rfl #[.string k] (by rfl) rfl rfl (by simp only [List.map_toArray, List.map_cons, List.map_nil]; rfl) ?_
            with_reducible refine (HI.out _).mono ?_
            rintro e w1 ⟨rfl, hb1⟩
            refine ⟨_, rfl, ?_⟩
            refine hK.out _ _ ⟨(cell_on hb1 hHeld.1), (cell_on hb1 hHeld.2.1), (tabs_on hHeld.2.2 hb1)⟩ (fun hHeld => ?_)
            clear hK K
            refine norm_ (a' := ?_) ?_ ?_
            rotate_left
            · show Act.put _ (some 18) _ = _
              simp only [Act.put, zA, zB, zC, i64_w, i32_w]
              rfl
            refine zV 2 19 25 7 ?_
            refine zV 3 20 25 15 ?_
            refine zV 4 21 25 31 ?_
            refine zV 6 23 25 95 ?_
            refine zT 7 24 25 223 hHeld ?_
            refine one_ (i := 5) (N := some 22) (zG 25 255) rfl rfl (by kernel_rfl) (by decide) (fun K hK => ?_)
            refine goes_ Tryz.func177 (by kernel_rfl) rfl #[.string k] (by rfl) rfl rfl (by simp only [List.map_toArray, List.map_cons, List.map_nil]; rfl) ?_
            with_reducible refine (HOW.out _).mono ?_
            rintro e w2 ⟨rfl, hb2⟩
            refine ⟨_, rfl, ?_⟩
            refine hK.out _ _ ⟨(cell_on hb2 hHeld.1), (cell_on hb2 hHeld.2.1), (tabs_on hHeld.2.2 hb2)⟩ (fun hHeld => ?_)
            clear hK K
            refine norm_ (a' := ?_) ?_ ?_
            rotate_left
            · show Act.put _ (some 22) _ = _
              simp only [Act.put, zA, zB, zC, i64_w, i32_w]
              rfl
            refine zV 8 25 25 511 ?_
            refine zV 9 26 25 1023 ?_
            refine zV 10 27 25 2047 ?_
            refine zU 11 28 25 4095 ?_
            refine zU 12 29 25 8191 ?_
            refine zU 13 30 25 16383 ?_
            refine zU 14 31 25 32767 ?_
            refine zU 15 32 25 65535 ?_
            refine zU 16 33 25 131071 ?_
            refine zU 17 34 25 262143 ?_
            refine zU 18 35 25 524287 ?_
            refine zU 19 36 25 1048575 ?_
            refine zU 20 37 25 2097151 ?_
            refine zU 21 38 25 4194303 ?_
            refine zU 22 39 25 8388607 ?_
            refine zU 23 40 25 16777215 ?_
            refine zV 24 41 25 33554431 ?_
            refine done_ (by kernel_rfl) ?_
            go_wp2
            go_ret
            rw [HG.out, HFIN.out]
            exact ⟨rfl, on_ (on_ HB0.out.1 HBR.out) (on_ (on_ (below_drew (Below.refl _ _)) hb1) hb2)⟩
      · have hl0 : 0 < l.length := by omega
        have hw0 : wrap64 0 = 0 := by unfold wrap64; omega
        have hlp : (0 : Int) < (l.length : Int) := by omega
        obtain ⟨ad', e', hkey0⟩ := key_at HK.out.1 hl0
        injection e' with e'
        subst e'
        replace hkey0 := cell_on (on_ HB0.out.1 HBR.out) hkey0
        have hp1 : prev l 1 = some l[0] := by unfold prev; rw [if_neg (by omega)]; simp [List.getElem?_eq_getElem hl0]
        rw [hp1, goKeys] at HG
        simp only at hkey hkey0
        have HCM : Aside0 (∀ W, TabsAt W → Calls Tryz.prog 178 #[.string l[0], .string l[1]] W fun e w' => e = .returned (.int .i64 (cmp l[0] l[1])) ∧ Below W.heap.size W w') := ⟨fun W hW => cmp_calls _ _ W hW (by omega)⟩
        generalize l[0] = p at *
        generalize l[1] = k at *
        clear hp1 hsz
        cases hn : Nm.isName k
        · rw [hn] at HG HI
          clear HOW HCM
          have HFIN : Aside0 ((false && (decide (owner k = part) && (decide (cmp p k < 0) && goKeys part (some k) (List.drop (1 + 1) l)))) = false) := ⟨rfl⟩
          go_wp2
          refine start_ (n := 25) (S := fun w' => w'.cell? ⟨w.heap.size, 2, none⟩ = some (.int .i64 part) ∧ w'.cell? ⟨w.heap.size, 3, none⟩ = some (.slice (some ad) l.length c1) ∧ w'.cell? ad = some (.string p) ∧ TabsAt w') (ds := []) #[false,false,false,false,false,false,false,false,false,false,false,false,false,false,false,false,false,false,false,false,false,false,false,false,false] (by kernel_rfl) rfl rfl ⟨(by go_keep), (by go_keep), (by go_keep), (tabs_on HTR.out (below_drew (Below.refl _ _)))⟩ (fun hHeld => ?_)
          refine zV 0 17 25 1 ?_
          refine one_ (i := 1) (N := some 18) (zG 25 3) rfl rfl (by kernel_rfl) (by decide) (fun K hK => ?_)
          refine goes_ Tryz.func32 (by kernel_rfl) rfl #[.string k] (by rfl) rfl rfl (by simp only [List.map_toArray, List.map_cons, List.map_nil]; rfl) ?_
          with_reducible refine (HI.out _).mono ?_
          rintro e w1 ⟨rfl, hb1⟩
          refine ⟨_, rfl, ?_⟩
          refine hK.out _ _ ⟨(cell_on hb1 hHeld.1), (cell_on hb1 hHeld.2.1), (cell_on hb1 hHeld.2.2.1), (tabs_on hHeld.2.2.2 hb1)⟩ (fun hHeld => ?_)
          clear hK K
          refine norm_ (a' := ?_) ?_ ?_
          rotate_left
          · show Act.put _ (some 18) _ = _
            simp only [Act.put, zA, zB, zC, i64_w, i32_w]
            rfl
          refine zV 2 19 25 7 ?_
          refine zV 3 20 25 15 ?_
          refine zU 4 21 25 31 ?_
          refine zU 5 22 25 63 ?_
          refine zU 6 23 25 127 ?_
          refine zU 7 24 25 255 ?_
          refine zU 8 25 25 511 ?_
          refine zV 9 26 25 1023 ?_
          refine zV 10 27 25 2047 ?_
          refine zU 11 28 25 4095 ?_
          refine zU 12 29 25 8191 ?_
          refine zU 13 30 25 16383 ?_
          refine zU 14 31 25 32767 ?_
          refine zU 15 32 25 65535 ?_
          refine zU 16 33 25 131071 ?_
          refine zU 17 34 25 262143 ?_
          refine zU 18 35 25 524287 ?_
          refine zU 19 36 25 1048575 ?_
          refine zU 20 37 25 2097151 ?_
          refine zU 21 38 25 4194303 ?_
          refine zU 22 39 25 8388607 ?_
          refine zU 23 40 25 16777215 ?_
          refine zV 24 41 25 33554431 ?_
          refine done_ (by kernel_rfl) ?_
          go_wp2
          go_ret
          rw [HG.out, HFIN.out]
          exact ⟨rfl, on_ (on_ HB0.out.1 HBR.out) (on_ (below_drew (Below.refl _ _)) hb1)⟩
        · rw [hn] at HG HI
          replace HOW := HOW hn
          clear hn
          generalize owner k = o at *
          generalize cmp p k = x at *
          by_cases ho : o = part
          · have hd3 : (o != part) = false := bne_eq_false_iff_eq.2 ho
            by_cases hx : x < 0
            · have hd4 : decide (0 ≤ x) = false := decide_eq_false (by omega)
              have HFIN : Aside0 ((true && (decide (o = part) && (decide (x < 0) && goKeys part (some k) (List.drop (1 + 1) l)))) = goKeys part (prev l 2) (l.drop 2)) := ⟨by rw [HPV.out, decide_eq_true ho, decide_eq_true hx]; rfl⟩
              clear ho hx
              go_wp2
              refine start_ (n := 25) (S := fun w' => w'.cell? ⟨w.heap.size, 2, none⟩ = some (.int .i64 part) ∧ w'.cell? ⟨w.heap.size, 3, none⟩ = some (.slice (some ad) l.length c1) ∧ w'.cell? ad = some (.string p) ∧ TabsAt w') (ds := []) #[false,false,false,false,false,false,false,false,false,false,false,false,false,false,false,false,false,false,false,false,false,false,false,false,false] (by kernel_rfl) rfl rfl ⟨(by go_keep), (by go_keep), (by go_keep), (tabs_on HTR.out (below_drew (Below.refl _ _)))⟩ (fun hHeld => ?_)
              refine zV 0 17 25 1 ?_
              refine one_ (i := 1) (N := some 18) (zG 25 3) rfl rfl (by kernel_rfl) (by decide) (fun K hK => ?_)
              refine goes_ Tryz.func32 (by kernel_rfl) rfl #[.string k] (by rfl) rfl rfl (by simp only [List.map_toArray, List.map_cons, List.map_nil]; rfl) ?_
              with_reducible refine (HI.out _).mono ?_
              rintro e w1 ⟨rfl, hb1⟩
              refine ⟨_, rfl, ?_⟩
              refine hK.out _ _ ⟨(cell_on hb1 hHeld.1), (cell_on hb1 hHeld.2.1), (cell_on hb1 hHeld.2.2.1), (tabs_on hHeld.2.2.2 hb1)⟩ (fun hHeld => ?_)
              clear hK K
              refine norm_ (a' := ?_) ?_ ?_
              rotate_left
              · show Act.put _ (some 18) _ = _
                simp only [Act.put, zA, zB, zC, i64_w, i32_w]
                rfl
              refine zV 2 19 25 7 ?_
              refine zV 3 20 25 15 ?_
              refine zV 4 21 25 31 ?_
              refine zV 6 23 25 95 ?_
              refine zT 7 24 25 223 hHeld ?_
              refine one_ (i := 5) (N := some 22) (zG 25 255) rfl rfl (by kernel_rfl) (by decide) (fun K hK => ?_)
              refine goes_ Tryz.func177 (by kernel_rfl) rfl #[.string k] (by rfl) rfl rfl (by simp only [List.map_toArray, List.map_cons, List.map_nil]; rfl) ?_
              with_reducible refine (HOW.out _).mono ?_
              rintro e w2 ⟨rfl, hb2⟩
              refine ⟨_, rfl, ?_⟩
              refine hK.out _ _ ⟨(cell_on hb2 hHeld.1), (cell_on hb2 hHeld.2.1), (cell_on hb2 hHeld.2.2.1), (tabs_on hHeld.2.2.2 hb2)⟩ (fun hHeld => ?_)
              clear hK K
              refine norm_ (a' := ?_) ?_ ?_
              rotate_left
              · show Act.put _ (some 22) _ = _
                simp only [Act.put, zA, zB, zC, i64_w, i32_w]
                rfl
              refine zV 8 25 25 511 ?_
              refine zV 9 26 25 1023 ?_
              refine zV 10 27 25 2047 ?_
              refine zV 11 28 25 4095 ?_
              refine zV 12 29 25 8191 ?_
              refine zV 13 30 25 16383 ?_
              refine zV 14 31 25 32767 ?_
              refine zV 16 33 25 98303 ?_
              refine zV 17 34 25 229375 ?_
              refine zV 20 37 25 1277951 ?_
              refine zT 15 32 25 1310719 hHeld ?_
              refine zV 18 35 25 1572863 ?_
              refine zT 19 36 25 2097151 hHeld ?_
              refine one_ (i := 21) (N := some 38) (zG 25 4194303) rfl rfl (by kernel_rfl) (by decide) (fun K hK => ?_)
              refine goes_ Tryz.func178 (by kernel_rfl) rfl #[.string p, .string k] (by rfl) rfl rfl (by simp only [List.map_toArray, List.map_cons, List.map_nil]; rfl) ?_
              with_reducible refine (HCM.out _ hHeld.2.2.2).mono ?_
              rintro e w3 ⟨rfl, hb3⟩
              refine ⟨_, rfl, ?_⟩
              refine hK.out _ _ ⟨(cell_on hb3 hHeld.1), (cell_on hb3 hHeld.2.1), (cell_on hb3 hHeld.2.2.1), (tabs_on hHeld.2.2.2 hb3)⟩ (fun hHeld => ?_)
              clear hK K
              refine norm_ (a' := ?_) ?_ ?_
              rotate_left
              · show Act.put _ (some 38) _ = _
                simp only [Act.put, zA, zB, zC, i64_w, i32_w]
                rfl
              refine zV 22 39 25 8388607 ?_
              refine zV 23 40 25 16777215 ?_
              refine zV 24 41 25 33554431 ?_
              refine done_ (by kernel_rfl) ?_
              go_wp2
              go_roundw
              case rel => exact ⟨2, by omega, by go_num, by rw [HG.out]; exact HFIN.out, on_ HBR.out (on_ (on_ (on_ (below_drew (Below.refl _ _)) hb1) hb2) hb3)⟩
              case measure => simp [intOf]; omega
            · have hd4 : decide (0 ≤ x) = true := decide_eq_true (by omega)
              have HFIN : Aside0 ((true && (decide (o = part) && (decide (x < 0) && goKeys part (some k) (List.drop (1 + 1) l)))) = false) := ⟨by rw [decide_eq_false hx]; simp⟩
              clear ho hx
              go_wp2
              refine start_ (n := 25) (S := fun w' => w'.cell? ⟨w.heap.size, 2, none⟩ = some (.int .i64 part) ∧ w'.cell? ⟨w.heap.size, 3, none⟩ = some (.slice (some ad) l.length c1) ∧ w'.cell? ad = some (.string p) ∧ TabsAt w') (ds := []) #[false,false,false,false,false,false,false,false,false,false,false,false,false,false,false,false,false,false,false,false,false,false,false,false,false] (by kernel_rfl) rfl rfl ⟨(by go_keep), (by go_keep), (by go_keep), (tabs_on HTR.out (below_drew (Below.refl _ _)))⟩ (fun hHeld => ?_)
              refine zV 0 17 25 1 ?_
              refine one_ (i := 1) (N := some 18) (zG 25 3) rfl rfl (by kernel_rfl) (by decide) (fun K hK => ?_)
              refine goes_ Tryz.func32 (by kernel_rfl) rfl #[.string k] (by rfl) rfl rfl (by simp only [List.map_toArray, List.map_cons, List.map_nil]; rfl) ?_
              with_reducible refine (HI.out _).mono ?_
              rintro e w1 ⟨rfl, hb1⟩
              refine ⟨_, rfl, ?_⟩
              refine hK.out _ _ ⟨(cell_on hb1 hHeld.1), (cell_on hb1 hHeld.2.1), (cell_on hb1 hHeld.2.2.1), (tabs_on hHeld.2.2.2 hb1)⟩ (fun hHeld => ?_)
              clear hK K
              refine norm_ (a' := ?_) ?_ ?_
              rotate_left
              · show Act.put _ (some 18) _ = _
                simp only [Act.put, zA, zB, zC, i64_w, i32_w]
                rfl
              refine zV 2 19 25 7 ?_
              refine zV 3 20 25 15 ?_
              refine zV 4 21 25 31 ?_
              refine zV 6 23 25 95 ?_
              refine zT 7 24 25 223 hHeld ?_
              refine one_ (i := 5) (N := some 22) (zG 25 255) rfl rfl (by kernel_rfl) (by decide) (fun K hK => ?_)
              refine goes_ Tryz.func177 (by kernel_rfl) rfl #[.string k] (by rfl) rfl rfl (by simp only [List.map_toArray, List.map_cons, List.map_nil]; rfl) ?_
              with_reducible refine (HOW.out _).mono ?_
              rintro e w2 ⟨rfl, hb2⟩
              refine ⟨_, rfl, ?_⟩
              refine hK.out _ _ ⟨(cell_on hb2 hHeld.1), (cell_on hb2 hHeld.2.1), (cell_on hb2 hHeld.2.2.1), (tabs_on hHeld.2.2.2 hb2)⟩ (fun hHeld => ?_)
              clear hK K
              refine norm_ (a' := ?_) ?_ ?_
              rotate_left
              · show Act.put _ (some 22) _ = _
                simp only [Act.put, zA, zB, zC, i64_w, i32_w]
                rfl
              refine zV 8 25 25 511 ?_
              refine zV 9 26 25 1023 ?_
              refine zV 10 27 25 2047 ?_
              refine zV 11 28 25 4095 ?_
              refine zV 12 29 25 8191 ?_
              refine zV 13 30 25 16383 ?_
              refine zV 14 31 25 32767 ?_
              refine zV 16 33 25 98303 ?_
              refine zV 17 34 25 229375 ?_
              refine zV 20 37 25 1277951 ?_
              refine zT 15 32 25 1310719 hHeld ?_
              refine zV 18 35 25 1572863 ?_
              refine zT 19 36 25 2097151 hHeld ?_
              refine one_ (i := 21) (N := some 38) (zG 25 4194303) rfl rfl (by kernel_rfl) (by decide) (fun K hK => ?_)
              refine goes_ Tryz.func178 (by kernel_rfl) rfl #[.string p, .string k] (by rfl) rfl rfl (by simp only [List.map_toArray, List.map_cons, List.map_nil]; rfl) ?_
              with_reducible refine (HCM.out _ hHeld.2.2.2).mono ?_
              rintro e w3 ⟨rfl, hb3⟩
              refine ⟨_, rfl, ?_⟩
              refine hK.out _ _ ⟨(cell_on hb3 hHeld.1), (cell_on hb3 hHeld.2.1), (cell_on hb3 hHeld.2.2.1), (tabs_on hHeld.2.2.2 hb3)⟩ (fun hHeld => ?_)
              clear hK K
              refine norm_ (a' := ?_) ?_ ?_
              rotate_left
              · show Act.put _ (some 38) _ = _
                simp only [Act.put, zA, zB, zC, i64_w, i32_w]
                rfl
              refine zV 22 39 25 8388607 ?_
              refine zV 23 40 25 16777215 ?_
              refine zV 24 41 25 33554431 ?_
              refine done_ (by kernel_rfl) ?_
              go_wp2
              go_ret
              rw [HG.out, HFIN.out]
              exact ⟨rfl, on_ (on_ HB0.out.1 HBR.out) (on_ (on_ (on_ (below_drew (Below.refl _ _)) hb1) hb2) hb3)⟩
          · have hd3 : (o != part) = true := bne_iff_ne.2 ho
            have HFIN : Aside0 ((true && (decide (o = part) && (decide (x < 0) && goKeys part (some k) (List.drop (1 + 1) l)))) = false) := ⟨by rw [decide_eq_false ho]; rfl⟩
            clear ho
            go_wp2
            refine start_ (n := 25) (S := fun w' => w'.cell? ⟨w.heap.size, 2, none⟩ = some (.int .i64 part) ∧ w'.cell? ⟨w.heap.size, 3, none⟩ = some (.slice (some ad) l.length c1) ∧ w'.cell? ad = some (.string p) ∧ TabsAt w') (ds := []) #[false,false,false,false,false,false,false,false,false,false,false,false,false,false,false,false,false,false,false,false,false,false,false,false,false] (by kernel_rfl) rfl rfl ⟨(by go_keep), (by go_keep), (by go_keep), (tabs_on HTR.out (below_drew (Below.refl _ _)))⟩ (fun hHeld => ?_)
            refine zV 0 17 25 1 ?_
            refine one_ (i := 1) (N := some 18) (zG 25 3) rfl rfl (by kernel_rfl) (by decide) (fun K hK => ?_)
            refine goes_ Tryz.func32 (by kernel_rfl) rfl #[.string k] (by rfl) rfl rfl (by simp only [List.map_toArray, List.map_cons, List.map_nil]; rfl) ?_
            with_reducible refine (HI.out _).mono ?_
            rintro e w1 ⟨rfl, hb1⟩
            refine ⟨_, rfl, ?_⟩
            refine hK.out _ _ ⟨(cell_on hb1 hHeld.1), (cell_on hb1 hHeld.2.1), (cell_on hb1 hHeld.2.2.1), (tabs_on hHeld.2.2.2 hb1)⟩ (fun hHeld => ?_)
            clear hK K
            refine norm_ (a' := ?_) ?_ ?_
            rotate_left
            · show Act.put _ (some 18) _ = _
              simp only [Act.put, zA, zB, zC, i64_w, i32_w]
              rfl
            refine zV 2 19 25 7 ?_
            refine zV 3 20 25 15 ?_
            refine zV 4 21 25 31 ?_
            refine zV 6 23 25 95 ?_
            refine zT 7 24 25 223 hHeld ?_
            refine one_ (i := 5) (N := some 22) (zG 25 255) rfl rfl (by kernel_rfl) (by decide) (fun K hK => ?_)
            refine goes_ Tryz.func177 (by kernel_rfl) rfl #[.string k] (by rfl) rfl rfl (by simp only [List.map_toArray, List.map_cons, List.map_nil]; rfl) ?_
            with_reducible refine (HOW.out _).mono ?_
            rintro e w2 ⟨rfl, hb2⟩
            refine ⟨_, rfl, ?_⟩
            refine hK.out _ _ ⟨(cell_on hb2 hHeld.1), (cell_on hb2 hHeld.2.1), (cell_on hb2 hHeld.2.2.1), (tabs_on hHeld.2.2.2 hb2)⟩ (fun hHeld => ?_)
            clear hK K
            refine norm_ (a' := ?_) ?_ ?_
            rotate_left
            · show Act.put _ (some 22) _ = _
              simp only [Act.put, zA, zB, zC, i64_w, i32_w]
              rfl
            refine zV 8 25 25 511 ?_
            refine zV 9 26 25 1023 ?_
            refine zV 10 27 25 2047 ?_
            refine zU 11 28 25 4095 ?_
            refine zU 12 29 25 8191 ?_
            refine zU 13 30 25 16383 ?_
            refine zU 14 31 25 32767 ?_
            refine zU 15 32 25 65535 ?_
            refine zU 16 33 25 131071 ?_
            refine zU 17 34 25 262143 ?_
            refine zU 18 35 25 524287 ?_
            refine zU 19 36 25 1048575 ?_
            refine zU 20 37 25 2097151 ?_
            refine zU 21 38 25 4194303 ?_
            refine zU 22 39 25 8388607 ?_
            refine zU 23 40 25 16777215 ?_
            refine zV 24 41 25 33554431 ?_
            refine done_ (by kernel_rfl) ?_
            go_wp2
            go_ret
            rw [HG.out, HFIN.out]
            exact ⟨rfl, on_ (on_ HB0.out.1 HBR.out) (on_ (on_ (below_drew (Below.refl _ _)) hb1) hb2)⟩
    · have hi' : i = l.length := by omega
      subst hi'
      have hd2 : decide ((l.length : Int) < (l.length : Int)) = false := decide_eq_false (by omega)
      go_wp2
      go_ret
      rw [HG.out, List.drop_length]
      refine ⟨?_, on_ HB0.out.1 HBR.out⟩
      cases prev l l.length <;> rfl
end Go.Proofs.YtgjddnaidjbhlaaGreatDoor.Pl

/- check.needs: the walk, by hand. -/
namespace Go.Proofs.YtgjddnaidjbhlaaGreatDoor.Pl
open Go.RowKit Go.IntWalk Go.Proofs.YtgjddnaidjbhlaaGreatDoorW.PrintWords Go.Proofs.YtgjddnaidjbhlaaGreatDoorW.PrintLast Go.Proofs.YtgjddnaidjbhlaaGreatDoorW.PrintMore Go.Proofs.YtgjddnaidjbhlaaGreatDoor.PlName

def lastOf (l : List Int) (k : Nat) : Int := if k = 0 then -1 else l.getD (k - 1) 0
theorem lastOf_succ {l : List Int} {k : Nat} (h : k < l.length) : lastOf l (k + 1) = l[k] := by
 unfold lastOf; rw [if_neg (by omega)]; simp [List.getElem?_eq_getElem h]
theorem lastOf_i64 {l : List Int} (hl : ∀ x ∈ l, (Lit.int .i64 x).wf = true) {k : Nat} (hk : k ≤ l.length) : -9223372036854775808 ≤ lastOf l k ∧ lastOf l k < 9223372036854775808 := by
 unfold lastOf
 split
 · omega
 · rename_i h
   have h1 := hl (l[k - 1]'(by omega)) (List.getElem_mem _)
   have h2 : l.getD (k - 1) 0 = l[k - 1]'(by omega) := by simp [List.getElem?_eq_getElem (show k - 1 < l.length by omega)]
   rw [h2]
   simp [Lit.wf] at h1
   have h3 : IntKind.i64.min = -9223372036854775808 := by decide
   rw [h3] at h1
   exact ⟨h1.1, by omega⟩

theorem int_at {w : World} {A : Option Addr} {l : List Int} (h : Kd.C (Kd.int .i64) w A l.length l) {i : Nat} (hlt : i < l.length) : ∃ ad, A = some ad ∧ w.cell? (ad.add i) = some (.int .i64 l[i]) := by
 obtain ⟨_, _, h3⟩ := h
 obtain ⟨ad, e, h4⟩ := h3 (by omega)
 obtain ⟨cs, h5, h6, h7⟩ := h4 i l[i] (List.getElem?_eq_getElem hlt)
 refine ⟨ad, e, ?_⟩
 have h8 : cs = [.int .i64 l[i]] := h6
 have h9 := h7 0 (.int .i64 l[i]) (by rw [h8]; rfl)
 rw [show (Kd.int .i64).sz = 1 from rfl, Nat.mul_one] at h9
 cases i with
 | zero => exact h9
 | succ j => exact h9

set_option maxHeartbeats 4000000 in
set_option maxRecDepth 100000 in
theorem needs_calls (nm : ByteArray) (l : List Step) (A : Option Addr) (c : Nat) (i : Nat) (s : Step) (w : World) (hi : l[i]? = some s) (hS : StepsAt w A l) (hs : ∀ x ∈ s.needs, (Lit.int .i64 x).wf = true) (hl : s.needs.length ≤ 17592186044416) (hn : l.length ≤ 8) :
 Calls Tryz.prog 141 #[.agg #[.string nm, .slice A l.length c], .int .i64 (i : Int)] w fun e w' => e = .returned (.bool (needsOk l.length i s.needs)) ∧ Below w.heap.size w w' := by
 obtain ⟨ad, rfl, A1, c1, A2, c2, h1⟩ := hS.one hi
 have hil : i < l.length := (List.getElem?_eq_some_iff.1 hi).1
 have HA := Aside0.mk h1
 have HS := Aside0.mk (And.intro hs (And.intro hl hS))
 have hq4 := cell_on (below_one w (.cells #[.string nm, .slice (some ad) l.length c] 24)) h1.c4
 clear h1 hs hl hS hi
 go_enter Tryz.func141, Tryz.ntmps141
 go_wp2
 have hrow := alloc1 w (.cells #[.string nm, .slice (some ad) l.length c] 24)
 have HB0 := Aside0.mk (And.intro (below_one w (.cells #[.string nm, .slice (some ad) l.length c] 24)) hrow)
 generalize World.alloc w _ = w0 at *
 clear hrow hq4
 go_loopw [5, 15] (fun v5 v15 wr => ∃ k : Nat, k ≤ s.needs.length ∧ v15 = .int .i64 (k : Int) ∧ v5 = .int .i64 (lastOf s.needs k) ∧ needsOk l.length i s.needs = goNeeds l.length i (lastOf s.needs k) (s.needs.drop k) ∧ Below w0.heap.size w0 wr) (fun _ v15 _ => s.needs.length - (intOf v15).toNat)
 case atStart => exact ⟨0, Nat.zero_le _, rfl, by simp [lastOf], by simp [lastOf, needsOk], Below.refl _ _⟩
 case round =>
  obtain ⟨k, hk, rfl, rfl, hg, hB⟩ := hrel
  have HG := Aside0.mk hg
  have HBR := Aside0.mk hB
  have hrow := row_on hB HB0.out.2
  have hq1 : wr.cell? ⟨w.heap.size, 1, none⟩ = some (.slice (some ad) l.length c) := row_cell hrow rfl
  have hw1 := Aside0.mk (lastOf_i64 HS.out.1 hk)
  clear hg hrow hB
  by_cases hlt : k < s.needs.length
  · have hd2 : decide ((k : Int) < (s.needs.length : Int)) = true := decide_eq_true (by omega)
    obtain ⟨a2, rfl, hx⟩ := int_at HA.out.needs hlt
    replace hx := cell_on (on_ HB0.out.1 HBR.out) hx
    have hwx : Aside0 ((Lit.int .i64 s.needs[k]).wf = true) := ⟨HS.out.1 _ (List.getElem_mem _)⟩
    have hdrop : s.needs.drop k = s.needs[k] :: s.needs.drop (k + 1) := List.drop_eq_getElem_cons hlt
    have HL := Aside0.mk (lastOf_succ hlt)
    rw [hdrop, goNeeds] at HG
    generalize s.needs[k] = x at *
    generalize lastOf s.needs k = last at *
    clear hdrop
    by_cases h1 : x ≤ last
    · have hd3 : decide (x ≤ last) = true := decide_eq_true h1
      have HFIN : Aside0 ((decide (last < x) && (decide (x < (l.length : Int)) && (decide (x ≠ (i : Int)) && goNeeds l.length i x (s.needs.drop (k + 1))))) = false) := ⟨by rw [decide_eq_false (by omega)]; rfl⟩
      clear h1
      go_wp2
      go_ret
      rw [HG.out, HFIN.out]
      exact ⟨rfl, on_ HB0.out.1 HBR.out⟩
    · have hd3 : decide (x ≤ last) = false := decide_eq_false h1
      by_cases h2 : x < (l.length : Int)
      · have hd4 : decide ((l.length : Int) ≤ x) = false := decide_eq_false (by omega)
        by_cases h4 : x = (i : Int)
        · have hd5 : (x == (i : Int)) = true := beq_iff_eq.2 h4
          have HFIN : Aside0 ((decide (last < x) && (decide (x < (l.length : Int)) && (decide (x ≠ (i : Int)) && goNeeds l.length i x (s.needs.drop (k + 1))))) = false) := ⟨by rw [decide_eq_false (p := x ≠ (i : Int)) (by omega)]; simp⟩
          clear h1 h2 h4
          go_wp2
          go_ret
          rw [HG.out, HFIN.out]
          exact ⟨rfl, on_ HB0.out.1 HBR.out⟩
        · have hd5 : (x == (i : Int)) = false := beq_eq_false_iff_ne.2 h4
          have HFIN : Aside0 ((decide (last < x) && (decide (x < (l.length : Int)) && (decide (x ≠ (i : Int)) && goNeeds l.length i x (s.needs.drop (k + 1))))) = goNeeds l.length i (lastOf s.needs (k + 1)) (s.needs.drop (k + 1))) := ⟨by rw [HL.out, decide_eq_true (p := x ≠ (i : Int)) h4, decide_eq_true h2, decide_eq_true (show last < x by omega)]; rfl⟩
          clear h1 h2 h4
          have hll := HS.out.2.1
          go_wp2
          go_roundw
          case rel => exact ⟨k + 1, by omega, by go_num, by rw [HL.out], by rw [HG.out]; exact HFIN.out, HBR.out⟩
          case measure => simp [intOf]; omega
      · have hd4 : decide ((l.length : Int) ≤ x) = true := decide_eq_true (by omega)
        have HFIN : Aside0 ((decide (last < x) && (decide (x < (l.length : Int)) && (decide (x ≠ (i : Int)) && goNeeds l.length i x (s.needs.drop (k + 1))))) = false) := ⟨by rw [decide_eq_false h2]; simp⟩
        clear h1 h2
        go_wp2
        go_ret
        rw [HG.out, HFIN.out]
        exact ⟨rfl, on_ HB0.out.1 HBR.out⟩
  · have hi' : k = s.needs.length := by omega
    have hd2 : decide ((k : Int) < (s.needs.length : Int)) = false := decide_eq_false (by omega)
    go_wp2
    go_ret
    rw [HG.out, hi', List.drop_length]
    exact ⟨rfl, on_ HB0.out.1 HBR.out⟩
end Go.Proofs.YtgjddnaidjbhlaaGreatDoor.Pl

/- slices.IndexFunc, ContainsFunc over steps and over numbers: the walks, by hand. -/
namespace Go.Proofs.YtgjddnaidjbhlaaGreatDoor.Pl
open Go.RowKit Go.IntWalk Go.Proofs.YtgjddnaidjbhlaaGreatDoorW.PrintWords Go.Proofs.YtgjddnaidjbhlaaGreatDoor.PlName

/-- Where the first one is of which it is true; behind a place. -/
def idxF {α : Type} (p : α → Bool) : Nat → List α → Int
 | _, [] => -1
 | i, k :: l => if p k = true then (i : Int) else idxF p (i + 1) l
theorem idxF_any {α : Type} (p : α → Bool) : ∀ (i : Nat) (l : List α), decide (0 ≤ idxF p i l) = l.any p
 | _, [] => rfl
 | i, k :: l => by
  unfold idxF
  rw [List.any_cons]
  cases p k
  · simpa using idxF_any p (i + 1) l
  · simp
/-- What a function value tells of some steps, whatever has come since. -/
def TellsS (w : World) (g : Nat) (lb : Array Value) (p : Step → Bool) (ks : List Step) : Prop :=
 ∀ (W : World) (k : Step) (v1 v2 : Value), k ∈ ks → Below w.heap.size w W → Calls Tryz.prog g (#[.agg (cells k v1 v2).toArray] ++ lb) W fun e w' => e = .returned (.bool (p k)) ∧ Below W.heap.size W w'
/-- What a function value tells of some numbers, whatever has come since. -/
def TellsI (w : World) (g : Nat) (lb : Array Value) (p : Int → Bool) (ks : List Int) : Prop :=
 ∀ (W : World) (k : Int), k ∈ ks → Below w.heap.size w W → Calls Tryz.prog g (#[.int .i64 k] ++ lb) W fun e w' => e = .returned (.bool (p k)) ∧ Below W.heap.size W w'

set_option maxHeartbeats 1000000 in
set_option maxRecDepth 100000 in
theorem indexI_calls (g : Nat) (lb : Array Value) (p : Int → Bool) (ks : List Int) (A : Option Addr) (c : Nat) (w : World) (eg : ∀ args w, (callFunc g args).run Tryz.prog w = .ok (.enter g args) w)
 (hp : TellsI w g lb p ks) (hr : Kd.C (Kd.int .i64) w A ks.length ks) (hl : ks.length ≤ 9000000000000000000) :
 Calls Tryz.prog 142 #[.slice A ks.length c, .func (.func g) #[] lb] w fun e w' => e = .returned (.int .i64 (idxF p 0 ks)) ∧ Below w.heap.size w w' := by
 have HR := Aside0.mk hr
 have HP := Aside0.mk hp
 have HB := Aside0.mk (Below.refl w.heap.size w)
 clear hr hp
 have hk : idxF p 0 ks = idxF p 0 (ks.drop 0) := by simp
 have HK := Aside0.mk hk
 clear hk
 go_enter Tryz.func142, Tryz.ntmps142
 go_wp2
 go_loopw [5, 8] (fun _ v8 wr => ∃ i : Nat, i ≤ ks.length ∧ v8 = .int .i64 (i : Int) ∧ idxF p 0 ks = idxF p i (ks.drop i) ∧ Below w.heap.size w wr) (fun _ v8 _ => ks.length - (intOf v8).toNat)
 case atStart => exact ⟨0, Nat.zero_le _, rfl, HK.out, HB.out⟩
 case round =>
  obtain ⟨i, hi, rfl, hg, hB⟩ := hrel
  have HG := Aside0.mk hg
  replace HB := Aside0.mk hB
  clear hg hB
  by_cases hlt : i < ks.length
  · obtain ⟨ad, rfl, hcell0⟩ := int_at HR.out hlt
    have hcell := cell_on HB.out hcell0
    have hdrop : ks.drop i = ks[i] :: ks.drop (i + 1) := List.drop_eq_getElem_cons hlt
    have hcall := HP.out wr ks[i] (List.getElem_mem hlt) HB.out
    rw [hdrop, idxF] at HG
    have hd2 : decide ((i : Int) < (ks.length : Int)) = true := decide_eq_true (by omega)
    clear hcell0 hdrop
    generalize ks[i] = k at *
    cases hn : p k
    · rw [hn] at hcall HG
      go_wp2_with (first | (go_at_fn g; refine hcall.mono ?_; rintro e w1 ⟨rfl, hb1⟩))
      go_roundw
      case rel => exact ⟨i + 1, hlt, by go_num, HG.out, HB.out.trans (hb1.mono HB.out.size)⟩
      case measure => simp [intOf]; omega
    · rw [hn] at hcall HG
      go_wp2_with (first | (go_at_fn g; refine hcall.mono ?_; rintro e w1 ⟨rfl, hb1⟩))
      go_ret
      rw [HG.out]
      exact ⟨rfl, HB.out.trans (hb1.mono HB.out.size)⟩
  · have hi' : i = ks.length := by omega
    subst hi'
    have hd2 : decide ((ks.length : Int) < (ks.length : Int)) = false := decide_eq_false (by omega)
    go_wp2
    go_ret
    rw [HG.out, List.drop_length]
    exact ⟨rfl, HB.out⟩

set_option maxHeartbeats 1000000 in
set_option maxRecDepth 100000 in
theorem containsI_calls (g : Nat) (lb : Array Value) (p : Int → Bool) (ks : List Int) (A : Option Addr) (c : Nat) (w : World) (eg : ∀ args w, (callFunc g args).run Tryz.prog w = .ok (.enter g args) w)
 (hp : TellsI w g lb p ks) (hr : Kd.C (Kd.int .i64) w A ks.length ks) (hl : ks.length ≤ 9000000000000000000) :
 Calls Tryz.prog 74 #[.slice A ks.length c, .func (.func g) #[] lb] w fun e w' => e = .returned (.bool (ks.any p)) ∧ Below w.heap.size w w' := by
 have hi := indexI_calls g lb p ks A c w eg hp hr hl
 have HA := Aside0.mk (idxF_any p 0 ks)
 clear hp hr
 generalize idxF p 0 ks = r at *
 go_enter Tryz.func74, Tryz.ntmps74
 go_wp2_with (first | (go_at_call 142; refine hi.mono ?_; rintro e w1 ⟨rfl, hb1⟩))
 go_ret
 refine ⟨?_, hb1⟩
 rw [← HA.out]
 rfl

set_option maxHeartbeats 1000000 in
set_option maxRecDepth 100000 in
theorem indexS_calls (g : Nat) (lb : Array Value) (p : Step → Bool) (ks : List Step) (A : Option Addr) (c : Nat) (w : World) (eg : ∀ args w, (callFunc g args).run Tryz.prog w = .ok (.enter g args) w)
 (hp : TellsS w g lb p ks) (hr : StepsAt w A ks) (hl : ks.length ≤ 8) :
 Calls Tryz.prog 176 #[.slice A ks.length c, .func (.func g) #[] lb] w fun e w' => e = .returned (.int .i64 (idxF p 0 ks)) ∧ Below w.heap.size w w' := by
 have HR := Aside0.mk hr
 have HP := Aside0.mk hp
 have HB := Aside0.mk (Below.refl w.heap.size w)
 clear hr hp
 have hk : idxF p 0 ks = idxF p 0 (ks.drop 0) := by simp
 have HK := Aside0.mk hk
 clear hk
 go_enter Tryz.func176, Tryz.ntmps176
 go_wp2
 go_loopw [5, 8] (fun _ v8 wr => ∃ i : Nat, i ≤ ks.length ∧ v8 = .int .i64 (i : Int) ∧ idxF p 0 ks = idxF p i (ks.drop i) ∧ Below w.heap.size w wr) (fun _ v8 _ => ks.length - (intOf v8).toNat)
 case atStart => exact ⟨0, Nat.zero_le _, rfl, HK.out, HB.out⟩
 case round =>
  obtain ⟨i, hi, rfl, hg, hB⟩ := hrel
  have HG := Aside0.mk hg
  replace HB := Aside0.mk hB
  clear hg hB
  by_cases hlt : i < ks.length
  · obtain ⟨ad, rfl, A1, c1, A2, c2, h1⟩ := HR.out.one (List.getElem?_eq_getElem hlt)
    obtain ⟨hq0, hq1, hq2, hq3, hq4, _, _, _, _⟩ := h1.below HB.out
    have hdrop : ks.drop i = ks[i] :: ks.drop (i + 1) := List.drop_eq_getElem_cons hlt
    have hcall := HP.out wr ks[i] (.slice A1 ks[i].keys.length c1) (.slice A2 ks[i].needs.length c2) (List.getElem_mem hlt) HB.out
    rw [hdrop, idxF] at HG
    have hd2 : decide ((i : Int) < (ks.length : Int)) = true := decide_eq_true (by omega)
    clear h1 hdrop
    generalize ks[i] = k at *
    simp only [cells] at hcall
    cases hn : p k
    · rw [hn] at hcall HG
      go_wp2_with (first | (go_at_fn g; refine hcall.mono ?_; rintro e w1 ⟨rfl, hb1⟩))
      go_roundw
      case rel => exact ⟨i + 1, hlt, by go_num, HG.out, HB.out.trans (hb1.mono HB.out.size)⟩
      case measure => simp [intOf]; omega
    · rw [hn] at hcall HG
      go_wp2_with (first | (go_at_fn g; refine hcall.mono ?_; rintro e w1 ⟨rfl, hb1⟩))
      go_ret
      rw [HG.out]
      exact ⟨rfl, HB.out.trans (hb1.mono HB.out.size)⟩
  · have hi' : i = ks.length := by omega
    subst hi'
    have hd2 : decide ((ks.length : Int) < (ks.length : Int)) = false := decide_eq_false (by omega)
    go_wp2
    go_ret
    rw [HG.out, List.drop_length]
    exact ⟨rfl, HB.out⟩

set_option maxHeartbeats 1000000 in
set_option maxRecDepth 100000 in
theorem containsS_calls (g : Nat) (lb : Array Value) (p : Step → Bool) (ks : List Step) (A : Option Addr) (c : Nat) (w : World) (eg : ∀ args w, (callFunc g args).run Tryz.prog w = .ok (.enter g args) w)
 (hp : TellsS w g lb p ks) (hr : StepsAt w A ks) (hl : ks.length ≤ 8) :
 Calls Tryz.prog 138 #[.slice A ks.length c, .func (.func g) #[] lb] w fun e w' => e = .returned (.bool (ks.any p)) ∧ Below w.heap.size w w' := by
 have hi := indexS_calls g lb p ks A c w eg hp hr hl
 have HA := Aside0.mk (idxF_any p 0 ks)
 clear hp hr
 generalize idxF p 0 ks = r at *
 go_enter Tryz.func138, Tryz.ntmps138
 go_wp2_with (first | (go_at_call 176; refine hi.mono ?_; rintro e w1 ⟨rfl, hb1⟩))
 go_ret
 refine ⟨?_, hb1⟩
 rw [← HA.out]
 rfl

set_option maxHeartbeats 1000000 in
set_option maxRecDepth 100000 in
/-- The closure of alone: is a step named so? -/
theorem alone1_calls (x : Step) (v1 v2 : Value) (a : Addr) (nm : ByteArray) (w : World) (hq : w.cell? ⟨a.block, a.off, none⟩ = some (.string nm)) :
 Calls Tryz.prog 139 #[.agg (cells x v1 v2).toArray, .pointer (some ⟨a.block, a.off, none⟩)] w fun e w' => e = .returned (.bool (x.name.toList == nm.toList)) ∧ Below w.heap.size w w' := by
 obtain ⟨name, kind, part, l, needs⟩ := x
 simp only [cells] at *
 have hq' := cell_on (below_one w (.cells #[.string name, .int .i64 kind, .int .i64 part, v1, v2] 70)) hq
 go_enter Tryz.func139, Tryz.ntmps139
 go_wp2
 go_ret
 exact ⟨rfl, below_one _ _⟩
end Go.Proofs.YtgjddnaidjbhlaaGreatDoor.Pl

/- check.alone: the walk, by hand. -/
namespace Go.Proofs.YtgjddnaidjbhlaaGreatDoor.Pl
open Go.RowKit Go.IntWalk Go.Proofs.YtgjddnaidjbhlaaGreatDoorW.PrintWords Go.Proofs.YtgjddnaidjbhlaaGreatDoor.PlName

theorem row_setCell {w : World} {g t : Nat} {arr : Array Value} (hg : w.heap[g]? = some (.cells arr t (0, 0))) (j : Nat) (v : Value) :
 (w.setCell ⟨g, j, none⟩ v).heap[g]? = some (.cells (arr.setIfInBounds j v) t (0, 0)) := by
 show (w.heap.modify g _)[g]? = _
 rw [Array.getElem?_modify, if_pos rfl, hg]
 rfl
theorem row_setCell_ne {w : World} {g : Nat} {o : Obj} (hg : w.heap[g]? = some o) (a : Addr) (v : Value) (h : g ≠ a.block) :
 (w.setCell a v).heap[g]? = some o := (Below.heap_setCell w a v g h).trans hg

/-- What is wrong with a step by itself (0: nothing). -/
def aloneE (l : List Step) (i : Nat) (s : Step) : Int :=
 if Nm.isName s.name = false then 110 else if twice l i s = true then 112 else if decide (1 ≤ s.kind ∧ s.kind ≤ 3) = false then 113 else if decide (0 ≤ s.part ∧ s.part ≤ 3) = false then 114 else if keysOk s = false then 115 else if needsOk l.length i s.needs = false then 116 else 0
theorem aloneE_ok (l : List Step) (i : Nat) (s : Step) : (aloneE l i s == 0) = aloneOk l i s := by
 unfold aloneE aloneOk
 cases Nm.isName s.name
 · simp
 · cases twice l i s
   · by_cases h1 : 1 ≤ s.kind ∧ s.kind ≤ 3
     · by_cases h2 : 0 ≤ s.part ∧ s.part ≤ 3
       · cases keysOk s
         · simp [h1, h2]
         · cases needsOk l.length i s.needs
           · simp [h1, h2]
           · simp [h1, h2]
       · simp [h1, h2]
     · simp [h1]
   · simp

/-- The world of alone: the definition, the step. -/
structure Alo (w w' : World) (nm : ByteArray) (vd : Value) (s : Step) (v1 v2 : Value) : Prop where
 below : Below w.heap.size w w'
 row0 : w'.heap[w.heap.size]? = some (.cells #[.string nm, vd] 24 (0, 0))
 row1 : w'.heap[w.heap.size + 1]? = some (.cells #[.string s.name, .int .i64 s.kind, .int .i64 s.part, v1, v2] 70 (0, 0))
theorem Alo.on {w w' w'' : World} {nm : ByteArray} {vd : Value} {s : Step} {v1 v2 : Value} (h : Alo w w' nm vd s v1 v2) (hb : Below w'.heap.size w' w'') : Alo w w'' nm vd s v1 v2 :=
 ⟨on_ h.below hb, row_on hb h.row0, row_on hb h.row1⟩
theorem Alo.cells {w w' : World} {nm : ByteArray} {vd : Value} {s : Step} {v1 v2 : Value} (h : Alo w w' nm vd s v1 v2) :
 w'.cell? ⟨w.heap.size + 1, 0, none⟩ = some (.string s.name) ∧ w'.cell? ⟨w.heap.size + 1, 1, none⟩ = some (.int .i64 s.kind) ∧ w'.cell? ⟨w.heap.size + 1, 2, none⟩ = some (.int .i64 s.part) ∧ w'.cell? ⟨w.heap.size + 1, 3, none⟩ = some v1 ∧ w'.cell? ⟨w.heap.size + 1, 4, none⟩ = some v2 ∧ w'.cell? ⟨w.heap.size, 0, none⟩ = some (.string nm) ∧ w'.cell? ⟨w.heap.size, 1, none⟩ = some vd :=
 ⟨row_cell h.row1 rfl, row_cell h.row1 rfl, row_cell h.row1 rfl, row_cell h.row1 rfl, row_cell h.row1 rfl, row_cell h.row0 rfl, row_cell h.row0 rfl⟩
theorem Alo.start (w : World) (nm : ByteArray) (vd : Value) (s : Step) (v1 v2 : Value) :
 Alo w ((w.alloc (.cells #[.string nm, vd] 24)).alloc (.cells #[.string s.name, .int .i64 s.kind, .int .i64 s.part, v1, v2] 70)) nm vd s v1 v2 := by
 have h1 := alloc1 w (.cells #[.string nm, vd] 24)
 have h2 := alloc1 (w.alloc (.cells #[.string nm, vd] 24)) (.cells #[.string s.name, .int .i64 s.kind, .int .i64 s.part, v1, v2] 70)
 have h3 := below_one (w.alloc (.cells #[.string nm, vd] 24)) (.cells #[.string s.name, .int .i64 s.kind, .int .i64 s.part, v1, v2] 70)
 have h4 := below_one w (.cells #[.string nm, vd] 24)
 refine ⟨on_ h4 h3, row_on h3 h1, ?_⟩
 have h5 : (w.alloc (.cells #[.string nm, vd] 24)).heap.size = w.heap.size + 1 := by
  show (w.heap.push _).size = _
  simp
 rw [h5] at h2
 exact h2
def aloneB (bn bt b1 b2 b3 b4 bk bd : Bool) : Int :=
 if bn = false then 110 else if bt = true then 112 else if b1 = true then 113 else if b2 = true then 113 else if b3 = true then 114 else if b4 = true then 114 else if bk = false then 115 else if bd = false then 116 else 0
theorem aloneE_B (l : List Step) (i : Nat) (s : Step) : aloneE l i s = aloneB (Nm.isName s.name) (twice l i s) (decide (s.kind < 1)) (decide (3 < s.kind)) (decide (s.part < 0)) (decide (4 ≤ s.part)) (keysOk s) (needsOk l.length i s.needs) := by
 unfold aloneE aloneB
 cases Nm.isName s.name
 · rfl
 · cases twice l i s
   · have e1 : decide (1 ≤ s.kind ∧ s.kind ≤ 3) = !(decide (s.kind < 1) || decide (3 < s.kind)) := by
      by_cases h1 : s.kind < 1 <;> by_cases h2 : 3 < s.kind <;> simp [h1, h2] <;> omega
     have e2 : decide (0 ≤ s.part ∧ s.part ≤ 3) = !(decide (s.part < 0) || decide (4 ≤ s.part)) := by
      by_cases h1 : s.part < 0 <;> by_cases h2 : 4 ≤ s.part <;> simp [h1, h2] <;> omega
     rw [e1, e2]
     cases decide (s.kind < 1) <;> cases decide (3 < s.kind) <;> cases decide (s.part < 0) <;> cases decide (4 ≤ s.part) <;> rfl
   · rfl
theorem alone_ways : ∀ (bn bt b1 b2 b3 b4 bk bd : Bool), (bn = false) ∨ (bn = true ∧ bt = true) ∨ (bn = true ∧ bt = false ∧ b1 = true) ∨ (bn = true ∧ bt = false ∧ b1 = false ∧ b2 = true) ∨ (bn = true ∧ bt = false ∧ b1 = false ∧ b2 = false ∧ b3 = true) ∨ (bn = true ∧ bt = false ∧ b1 = false ∧ b2 = false ∧ b3 = false ∧ b4 = true) ∨ (bn = true ∧ bt = false ∧ b1 = false ∧ b2 = false ∧ b3 = false ∧ b4 = false ∧ bk = false) ∨ (bn = true ∧ bt = false ∧ b1 = false ∧ b2 = false ∧ b3 = false ∧ b4 = false ∧ bk = true ∧ bd = false) ∨ (bn = true ∧ bt = false ∧ b1 = false ∧ b2 = false ∧ b3 = false ∧ b4 = false ∧ bk = true ∧ bd = true) := by
 intro bn bt b1 b2 b3 b4 bk bd
 cases bn <;> cases bt <;> cases b1 <;> cases b2 <;> cases b3 <;> cases b4 <;> cases bk <;> cases bd <;> simp

set_option maxHeartbeats 4000000 in
set_option maxRecDepth 100000 in
theorem alone_calls (nm : ByteArray) (l : List Step) (A : Option Addr) (c : Nat) (i : Nat) (s : Step) (w : World) (hi : l[i]? = some s) (hS : StepsAt w A l) (hb : StepB s) (hn : l.length ≤ 8) (hc : l.length ≤ c) (hT : TabsAt w) :
 Calls Tryz.prog 70 #[.agg #[.string nm, .slice A l.length c], .int .i64 (i : Int)] w fun e w' => e = .returned (.int .i64 (aloneE l i s)) ∧ Below w.heap.size w w' := by
 obtain ⟨ad, rfl, A1, c1, A2, c2, h1⟩ := hS.one hi
 have hil : i < l.length := (List.getElem?_eq_some_iff.1 hi).1
 have hbb := below_one w (.cells #[.string nm, .slice (some ad) l.length c] 24)
 obtain ⟨hq0, hq1, hq2, hq3, hq4, _, _, _, _⟩ := h1.below hbb
 have HW := Aside0.mk (Alo.start w nm (.slice (some ad) l.length c) s (.slice A1 s.keys.length c1) (.slice A2 s.needs.length c2))
 have eg : ∀ args w, (callFunc 139 args).run Tryz.prog w = .ok (.enter 139 args) w := fun _ _ => by kernel_rfl
 have HC69 : Aside0 (Calls Tryz.prog 138 #[.slice (some ad) i c, .func (.func 139) #[] #[.pointer (some ⟨w.heap.size + 1, 0, none⟩)]] ((w.alloc (.cells #[.string nm, .slice (some ad) l.length c] 24)).alloc (.cells #[.string s.name, .int .i64 s.kind, .int .i64 s.part, .slice A1 s.keys.length c1, .slice A2 s.needs.length c2] 70)) fun e w' => e = .returned (.bool (twice l i s)) ∧ Below ((w.alloc (.cells #[.string nm, .slice (some ad) l.length c] 24)).alloc (.cells #[.string s.name, .int .i64 s.kind, .int .i64 s.part, .slice A1 s.keys.length c1, .slice A2 s.needs.length c2] 70)).heap.size ((w.alloc (.cells #[.string nm, .slice (some ad) l.length c] 24)).alloc (.cells #[.string s.name, .int .i64 s.kind, .int .i64 s.part, .slice A1 s.keys.length c1, .slice A2 s.needs.length c2] 70)) w') := by
  refine ⟨?_⟩
  have hlen : (l.take i).length = i := by rw [List.length_take]; omega
  have hg := containsS_calls 139 #[.pointer (some ⟨w.heap.size + 1, 0, none⟩)] (fun x => x.name.toList == s.name.toList) (l.take i) (some ad) c _ eg (fun W k v1 v2 _ hW => alone1_calls k v1 v2 ⟨w.heap.size + 1, 0, none⟩ s.name W (cell_on hW HW.out.cells.1)) ((hS.below HW.out.below).take i) (by omega)
  rw [hlen] at hg
  exact hg
 have HC53 : Aside0 (∀ W, Calls Tryz.prog 32 #[.string s.name] W fun e w' => e = .returned (.bool (Nm.isName s.name)) ∧ Below W.heap.size W w') := ⟨fun W => NameWalk.is_calls _ W (by have := hb.1; omega)⟩
 have HC71 : Aside0 (∀ W, Below w.heap.size w W → Calls Tryz.prog 140 #[.agg #[.string s.name, .int .i64 s.kind, .int .i64 s.part, .slice A1 s.keys.length c1, .slice A2 s.needs.length c2]] W fun e w' => e = .returned (.bool (keysOk s)) ∧ Below W.heap.size W w') :=
  ⟨fun W hW => keys_calls s A1 c1 _ s.needs.length c2 A2 W rfl (Kd.C_below h1.keys hW) hb.2.2.2.1.1 hb.2.2.2.1.2 (tabs_on hT hW)⟩
 have HC72 : Aside0 (∀ W, Below w.heap.size w W → Calls Tryz.prog 141 #[.agg #[.string nm, .slice (some ad) l.length c], .int .i64 (i : Int)] W fun e w' => e = .returned (.bool (needsOk l.length i s.needs)) ∧ Below W.heap.size W w') :=
  ⟨fun W hW => needs_calls nm l (some ad) c i s W hi (hS.below hW) hb.2.2.2.2.1 hb.2.2.2.2.2 hn⟩
 have HF := Aside0.mk (aloneE_B l i s)
 clear h1 hS hb hT hbb hi
 generalize aloneE l i s = r at *
 generalize Nm.isName s.name = bn at *
 generalize twice l i s = bt at *
 generalize keysOk s = bk at *
 generalize needsOk l.length i s.needs = bd at *
 generalize hd1 : decide (s.kind < 1) = b1 at *
 generalize hd2 : decide (3 < s.kind) = b2 at *
 generalize hd3 : decide (s.part < 0) = b3 at *
 generalize hd4 : decide (4 ≤ s.part) = b4 at *
 go_enter Tryz.func70, Tryz.ntmps70
 rcases alone_ways bn bt b1 b2 b3 b4 bk bd with rfl | ⟨rfl, rfl⟩ | ⟨rfl, rfl, rfl⟩ | ⟨rfl, rfl, rfl, rfl⟩ | ⟨rfl, rfl, rfl, rfl, rfl⟩ | ⟨rfl, rfl, rfl, rfl, rfl, rfl⟩ | ⟨rfl, rfl, rfl, rfl, rfl, rfl, rfl⟩ | ⟨rfl, rfl, rfl, rfl, rfl, rfl, rfl, rfl⟩ | ⟨rfl, rfl, rfl, rfl, rfl, rfl, rfl, rfl⟩
 all_goals
  go_wp2_with (first | (go_at_call 138; refine HC69.out.mono ?_; rintro e w3 ⟨rfl, hb3⟩; have H3 := Aside0.mk (HW.out.on hb3); clear hb3; obtain ⟨a30, a31, a32, a33, a34, d30, d31⟩ := H3.out.cells) | (go_at_call 32; refine (HC53.out _).mono ?_; rintro e w4 ⟨rfl, hb4⟩; have H4 := Aside0.mk (H3.out.on hb4); clear hb4; obtain ⟨a40, a41, a42, a43, a44, d40, d41⟩ := H4.out.cells) | (go_at_call 140; refine (HC71.out _ H4.out.below).mono ?_; rintro e w5 ⟨rfl, hb5⟩; have H5 := Aside0.mk (H4.out.on hb5); clear hb5; obtain ⟨a50, a51, a52, a53, a54, d50, d51⟩ := H5.out.cells) | (go_at_call 141; refine (HC72.out _ H5.out.below).mono ?_; rintro e w6 ⟨rfl, hb6⟩; have H6 := Aside0.mk (H5.out.on hb6); clear hb6))
  go_ret
  rw [HF.out]
  first | exact ⟨rfl, H6.out.below⟩ | exact ⟨rfl, H5.out.below⟩ | exact ⟨rfl, H4.out.below⟩
end Go.Proofs.YtgjddnaidjbhlaaGreatDoor.Pl

/- check.first and three of its arguments: the walks, by hand. -/
namespace Go.Proofs.YtgjddnaidjbhlaaGreatDoor.Pl
open Go.RowKit Go.IntWalk Go.Proofs.YtgjddnaidjbhlaaGreatDoorW.PrintWords Go.Proofs.YtgjddnaidjbhlaaGreatDoor.PlName

/-- Nothing but some blocks has changed. -/
structure Chg (X : Nat → Prop) (w w' : World) : Prop where
 os : w'.os = w.os
 tape : w'.tape = w.tape
 output : w'.output = w.output
 size : w.heap.size ≤ w'.heap.size
 block : ∀ k, k < w.heap.size → ¬ X k → w'.heap[k]? = w.heap[k]?
theorem Chg.refl (X : Nat → Prop) (w : World) : Chg X w w := ⟨rfl, rfl, rfl, Nat.le_refl _, fun _ _ _ => rfl⟩
theorem Chg.trans {X : Nat → Prop} {a b c : World} (h : Chg X a b) (k : Chg X b c) : Chg X a c :=
 ⟨k.os.trans h.os, k.tape.trans h.tape, k.output.trans h.output, Nat.le_trans h.size k.size, fun i hi hx => (k.block i (Nat.lt_of_lt_of_le hi h.size) hx).trans (h.block i hi hx)⟩
theorem Chg.mono {X Y : Nat → Prop} {a b : World} (h : Chg X a b) (hxy : ∀ k, X k → Y k) : Chg Y a b := ⟨h.os, h.tape, h.output, h.size, fun k hk hy => h.block k hk fun hx => hy (hxy k hx)⟩
theorem Chg.of_below {X : Nat → Prop} {a b : World} (h : Below a.heap.size a b) : Chg X a b := ⟨h.os, h.tape, h.output, h.size, fun k hk _ => h.block k hk⟩
theorem Chg.of_grown {X : Nat → Prop} {a b : World} {j : Nat} (h : a.grownBy b (some j)) (hj : j < a.heap.size → X j) : Chg X a b :=
 ⟨h.os, h.tape, h.output, h.size, fun k hk hx => h.block k hk fun e => by cases e; exact hx (hj hk)⟩
theorem Chg.on {X : Nat → Prop} {a b c : World} (h : Chg X a b) (hb : Below b.heap.size b c) : Chg X a c := h.trans (.of_below hb)
theorem Chg.below {X : Nat → Prop} {a b : World} {n : Nat} (h : Chg X a b) (hn : n ≤ a.heap.size) (hx : ∀ k, X k → n ≤ k) : Below n a b :=
 ⟨h.os, h.tape, h.output, h.size, fun k hk => h.block k (by omega) fun x => by have := hx k x; omega⟩
theorem Chg.drew {X : Nat → Prop} {a b : World} (h : Chg X a b) : Chg X a b.drew := ⟨h.os, h.tape, h.output, h.size, h.block⟩
theorem Chg.cell {X : Nat → Prop} {a b : World} (h : Chg X a b) {p : Addr} {v : Value} (hp : a.cell? p = some v) (hx : ¬ X p.block) : b.cell? p = some v :=
 (World.cell?_of_block (w := a) (h.block p.block (World.block_lt_of_cell? a _ hp) hx)).trans hp
theorem Chg.row {X : Nat → Prop} {a b : World} (h : Chg X a b) {k : Nat} {o : Obj} (hk : a.heap[k]? = some o) (hx : ¬ X k) : b.heap[k]? = some o :=
 (h.block k (Array.getElem?_eq_some_iff.1 hk).1 hx).trans hk
theorem free_of_row {w : World} {g t j : Nat} {arr : Array Value} (hg : w.heap[g]? = some (.cells arr t (0, 0))) : w.frozen? ⟨g, j, none⟩ = false := by
 simp [World.frozen?, hg]
theorem Chg.setCell (w : World) (a : Addr) (v : Value) : Chg (· = a.block) w (w.setCell a v) :=
 ⟨rfl, rfl, rfl, by show _ ≤ (w.heap.modify _ _).size; simp, fun k _ hk => Below.heap_setCell w a v k hk⟩
/-- The first number of which it is true. -/
def firstF (p : Nat → Bool) : Nat → Nat → Int
 | _, 0 => -1
 | i, n + 1 => if p i = true then (i : Int) else firstF p (i + 1) n
theorem firstF_any (p : Nat → Bool) : ∀ (n i : Nat), decide (0 ≤ firstF p i n) = (List.range' i n).any p
 | 0, _ => rfl
 | n + 1, i => by
  unfold firstF
  rw [List.range'_succ, List.any_cons]
  cases p i
  · simpa using firstF_any p n (i + 1)
  · simp
theorem firstF_step {p : Nat → Bool} {i n : Nat} (h : i < n) : firstF p i (n - i) = if p i = true then (i : Int) else firstF p (i + 1) (n - (i + 1)) := by
 have : n - i = (n - (i + 1)) + 1 := by omega
 rw [this, firstF]

set_option maxHeartbeats 4000000 in
set_option maxRecDepth 100000 in
theorem first_calls (nm : ByteArray) (n : Nat) (A : Option Addr) (c : Nat) (g : Nat) (lb : Array Value) (p : Nat → Bool) (X : Nat → Prop) (I : Nat → World → Prop) (w : World) (eg : ∀ args w, (callFunc g args).run Tryz.prog w = .ok (.enter g args) w) (hn : n ≤ 8) (hX : ∀ k, X k → k < w.heap.size)
 (h0 : I 0 (w.alloc (.cells #[.string nm, .slice A n c] 24)))
 (hI : ∀ (i : Nat) (W : World), i < n → Chg X w W → I i W → Calls Tryz.prog g (#[.int .i64 (i : Int)] ++ lb) W fun e w' => e = .returned (.bool (p i)) ∧ I (i + 1) w' ∧ Chg X W w') :
 Calls Tryz.prog 71 #[.agg #[.string nm, .slice A n c], .func (.func g) #[] lb] w fun e w' => e = .returned (.int .i64 (firstF p 0 n)) ∧ Chg X w w' := by
 have HI := Aside0.mk (And.intro hI h0)
 clear hI h0
 go_enter Tryz.func71, Tryz.ntmps71
 go_wp2
 have HB := Aside0.mk (Chg.of_below (X := X) (below_one w (.cells #[.string nm, .slice A n c] 24)))
 replace HI := HI.out
 generalize World.alloc w _ = w0 at *
 have HI2 := Aside0.mk HI
 clear HI
 go_loopw [5, 9] (fun _ v9 wr => ∃ i : Nat, i ≤ n ∧ v9 = .int .i64 (i : Int) ∧ firstF p 0 n = firstF p i (n - i) ∧ I i wr ∧ Chg X w wr) (fun _ v9 _ => n - (intOf v9).toNat)
 case atStart => exact ⟨0, Nat.zero_le _, rfl, rfl, HI2.out.2, HB.out⟩
 case round =>
  obtain ⟨i, hi, rfl, hg, hIi, hB⟩ := hrel
  have HG := Aside0.mk (And.intro hg hIi)
  have HBR := Aside0.mk hB
  clear hg hIi hB
  by_cases hlt : i < n
  · have hcall := HI2.out.1 i wr hlt HBR.out HG.out.2
    have hs := Aside0.mk (HG.out.1.trans (firstF_step hlt))
    have hd2 : decide ((i : Int) < (n : Int)) = true := decide_eq_true (by omega)
    cases hp : p i
    · rw [hp] at hcall hs
      go_wp2_with (first | (go_at_fn g; refine hcall.mono ?_; rintro e w1 ⟨rfl, hi1, hb1⟩; have H1 := Aside0.mk (And.intro hi1 hb1); clear hi1 hb1))
      go_roundw
      case rel => exact ⟨i + 1, hlt, by go_num, hs.out, H1.out.1, HBR.out.trans H1.out.2⟩
      case measure => simp [intOf]; omega
    · rw [hp] at hcall hs
      go_wp2_with (first | (go_at_fn g; refine hcall.mono ?_; rintro e w1 ⟨rfl, hi1, hb1⟩; have H1 := Aside0.mk (And.intro hi1 hb1); clear hi1 hb1))
      go_ret
      rw [hs.out]
      exact ⟨rfl, HBR.out.trans H1.out.2⟩
  · have hi' : i = n := by omega
    subst hi'
    have hd2 : decide ((i : Int) < (i : Int)) = false := decide_eq_false (by omega)
    have hs : Aside0 (firstF p 0 i = -1) := ⟨by rw [HG.out.1, Nat.sub_self]; rfl⟩
    go_wp2
    go_ret
    rw [hs.out]
    exact ⟨rfl, HBR.out⟩

/-- The step at a place. -/
def stepAt (l : List Step) (i : Nat) : Step := l.getD i ⟨ByteArray.empty, 0, 0, [], []⟩
theorem stepAt_eq {l : List Step} {i : Nat} (h : i < l.length) : l[i]? = some (stepAt l i) := by
 unfold stepAt; simp [List.getElem?_eq_getElem h]
/-- A definition, boxed. -/
structure Boxed (w : World) (g : Nat) (nm : ByteArray) (l : List Step) (ad : Addr) (c : Nat) : Prop where
 row : w.heap[g]? = some (.cells #[.string nm, .slice (some ad) l.length c] 24 (0, 0))
 steps : StepsAt w (some ad) l

set_option maxHeartbeats 4000000 in
set_option maxRecDepth 100000 in
/-- Pivots are counted. -/
theorem check1_calls (l : List Step) (nm : ByteArray) (g gp : Nat) (ad : Addr) (c : Nat) (i : Nat) (k : Nat) (w : World) (hB : Boxed w g nm l ad c) (hi : i < l.length) (hl : l.length ≤ 8) (hk : k ≤ 8) (hp : w.heap[gp]? = some (.cells #[.int .i64 (k : Int)] 3 (0, 0))) :
 Calls Tryz.prog 72 #[.int .i64 (i : Int), .pointer (some ⟨g, 0, none⟩), .pointer (some ⟨gp, 0, none⟩)] w fun e w' => e = .returned (.bool (decide (1 < k + (if (stepAt l i).kind = 2 then 1 else 0)))) ∧ w'.heap[gp]? = some (.cells #[.int .i64 ((k + (if (stepAt l i).kind = 2 then 1 else 0) : Nat) : Int)] 3 (0, 0)) ∧ Chg (· = gp) w w' := by
 obtain ⟨_, e, A1, c1, A2, c2, h1⟩ := hB.steps.one (stepAt_eq hi)
 cases e
 have hq1 := h1.c1_
 have hd1 : w.cell? ⟨g, 1, none⟩ = some (.slice (some ad) l.length c) := row_cell hB.row rfl
 have hp0 : w.cell? ⟨gp, 0, none⟩ = some (.int .i64 (k : Int)) := row_cell hp rfl
 have HP := Aside0.mk hp
 have hfr : w.frozen? ⟨gp, 0, none⟩ = false := free_of_row hp
 clear h1 hB hp
 go_enter Tryz.func72, Tryz.ntmps72
 have hpv : Aside0 ((stepAt l i).kind = 2 ∧ (if (stepAt l i).kind = 2 then 1 else 0) = 1 ∨ (stepAt l i).kind ≠ 2 ∧ (if (stepAt l i).kind = 2 then 1 else 0) = 0) := ⟨by by_cases h : (stepAt l i).kind = 2 <;> simp [h]⟩
 generalize (if (stepAt l i).kind = 2 then 1 else 0) = pv at *
 generalize (stepAt l i).kind = kd at *
 rcases hpv.out with ⟨h2, rfl⟩ | ⟨h2, rfl⟩
 · have hd2 : (kd == 2) = true := beq_iff_eq.2 h2
   have HD : Aside0 (decide (1 < k + 1) = decide (1 < (k : Int) + 1) ∧ ((k + 1 : Nat) : Int) = (k : Int) + 1) := ⟨decide_eq_decide.2 (by omega), by omega⟩
   generalize decide (1 < k + 1) = rb at *
   generalize ((k + 1 : Nat) : Int) = rk at *
   clear h2 hpv
   go_wp2
   go_ret
   rw [HD.out.1, HD.out.2]
   exact ⟨rfl, row_setCell HP.out 0 _, Chg.setCell w ⟨gp, 0, none⟩ _⟩
 · have hd2 : (kd == 2) = false := beq_eq_false_iff_ne.2 h2
   have HD : Aside0 (decide (1 < k + 0) = decide (1 < (k : Int))) := ⟨decide_eq_decide.2 (by omega)⟩
   generalize decide (1 < k + 0) = rb at *
   clear h2 hpv
   go_wp2
   go_ret
   rw [HD.out]
   exact ⟨rfl, HP.out, Chg.refl _ _⟩

set_option maxHeartbeats 4000000 in
set_option maxRecDepth 100000 in
/-- Is a step not compensatable? -/
theorem check21_calls (l : List Step) (nm : ByteArray) (g : Nat) (ad : Addr) (c : Nat) (i : Nat) (w : World) (hB : Boxed w g nm l ad c) (hi : i < l.length) (hl : l.length ≤ 8) :
 Calls Tryz.prog 75 #[.int .i64 (i : Int), .pointer (some ⟨g, 0, none⟩)] w fun e w' => e = .returned (.bool ((stepAt l i).kind != 1)) ∧ Below w.heap.size w w' := by
 obtain ⟨_, e, A1, c1, A2, c2, h1⟩ := hB.steps.one (stepAt_eq hi)
 cases e
 have hq1 := h1.c1_
 have hd1 : w.cell? ⟨g, 1, none⟩ = some (.slice (some ad) l.length c) := row_cell hB.row rfl
 clear h1 hB
 go_enter Tryz.func75, Tryz.ntmps75
 go_wp2
 go_ret
 exact ⟨rfl, Below.refl _ _⟩
theorem Boxed.on {w w' : World} {g : Nat} {nm : ByteArray} {l : List Step} {ad : Addr} {c : Nat} (h : Boxed w g nm l ad c) (hb : Below w.heap.size w w') : Boxed w' g nm l ad c :=
 ⟨row_on hb h.row, h.steps.below hb⟩
/-- Numbers of steps. -/
def Within (l : List Step) (s : Step) : Prop := ∀ x ∈ s.needs, 0 ≤ x ∧ x < (l.length : Int)
def ordersBad (l : List Step) (i : Nat) : Bool := (stepAt l i).kind != 3 && (stepAt l i).needs.any fun x => (stepAt l x.toNat).kind != 1

set_option maxHeartbeats 4000000 in
set_option maxRecDepth 100000 in
theorem check2_calls (l : List Step) (nm : ByteArray) (g : Nat) (ad : Addr) (c : Nat) (i : Nat) (w : World) (hB : Boxed w g nm l ad c) (hi : i < l.length) (hl : l.length ≤ 8) (hin : Within l (stepAt l i)) (hnl : (stepAt l i).needs.length ≤ 17592186044416) :
 Calls Tryz.prog 73 #[.int .i64 (i : Int), .pointer (some ⟨g, 0, none⟩)] w fun e w' => e = .returned (.bool (ordersBad l i)) ∧ Below w.heap.size w w' := by
 obtain ⟨_, e, A1, c1, A2, c2, h1⟩ := hB.steps.one (stepAt_eq hi)
 cases e
 have hq1 := h1.c1_
 have hq4 := h1.c4
 have hd1 : w.cell? ⟨g, 1, none⟩ = some (.slice (some ad) l.length c) := row_cell hB.row rfl
 have eg : ∀ args w, (callFunc 75 args).run Tryz.prog w = .ok (.enter 75 args) w := fun _ _ => by kernel_rfl
 have HC : Aside0 (Calls Tryz.prog 74 #[.slice A2 (stepAt l i).needs.length c2, .func (.func 75) #[] #[.pointer (some ⟨g, 0, none⟩)]] w fun e w' => e = .returned (.bool ((stepAt l i).needs.any fun x => (stepAt l x.toNat).kind != 1)) ∧ Below w.heap.size w w') := by
  refine ⟨containsI_calls _ _ (fun x => (stepAt l x.toNat).kind != 1) _ A2 c2 w eg (fun W k hk hW => ?_) h1.needs (by omega)⟩
  have hk2 := hin k hk
  have := check21_calls l nm g ad c k.toNat W (hB.on hW) (by omega) hl
  rw [show ((k.toNat : Nat) : Int) = k by omega] at this
  exact this
 have hpv : Aside0 (ordersBad l i = ((stepAt l i).kind != 3 && (stepAt l i).needs.any fun x => (stepAt l x.toNat).kind != 1)) := ⟨rfl⟩
 clear h1 hB hin
 generalize ordersBad l i = rb at *
 generalize ((stepAt l i).needs.any fun x => (stepAt l x.toNat).kind != 1) = nb at *
 generalize hkd : ((stepAt l i).kind != 3) = kb at *
 clear eg
 go_enter Tryz.func73, Tryz.ntmps73
 cases kb
 · go_wp2
   go_ret
   rw [hpv.out]
   exact ⟨rfl, Below.refl _ _⟩
 · go_wp2_with (first | (go_at_call 74; refine HC.out.mono ?_; rintro e w3 ⟨rfl, hb3⟩))
   go_ret
   rw [hpv.out]
   exact ⟨rfl, hb3⟩
end Go.Proofs.YtgjddnaidjbhlaaGreatDoor.Pl

/- Who needs whom through others: the search, as plain law. -/
namespace Go.Proofs.YtgjddnaidjbhlaaGreatDoor.Pl
open Go.RowKit

/-- A step needs another, through none or some. -/
inductive Reach (l : List Step) : Nat → Nat → Prop
 | one {k x : Nat} : (x : Int) ∈ (stepAt l k).needs → Reach l k x
 | more {k y x : Nat} : (y : Int) ∈ (stepAt l k).needs → Reach l y x → Reach l k x
def met (m : List Int) (x : Nat) : Int := m.getD x 0
def zeros (m : List Int) : Nat := m.count 0
theorem met_set {m : List Int} {n : Nat} (h : n < m.length) (v : Int) (x : Nat) : met (m.set n v) x = if n = x then v else met m x := by
 unfold met
 rw [List.getD_eq_getElem?_getD, List.getD_eq_getElem?_getD, List.getElem?_set]
 by_cases e : n = x
 · subst e
   simp [h]
 · simp [e]
theorem zeros_set : ∀ {m : List Int} {n : Nat} (_ : n < m.length) {v : Int} (_ : v ≠ 0), (met m n ≠ 0 → zeros (m.set n v) = zeros m) ∧ (met m n = 0 → zeros m = zeros (m.set n v) + 1)
 | a :: m, 0, _, v, hv => by
  have hv' : (v == 0) = false := beq_eq_false_iff_ne.2 hv
  constructor
  · intro ha
    have ha' : (a == 0) = false := beq_eq_false_iff_ne.2 ha
    show (v :: m).count 0 = (a :: m).count 0
    rw [List.count_cons, List.count_cons, hv', ha']
  · intro ha
    have ha' : (a == 0) = true := beq_iff_eq.2 ha
    show (a :: m).count 0 = (v :: m).count 0 + 1
    rw [List.count_cons, List.count_cons, hv', ha']
    simp
 | a :: m, n + 1, h, v, hv => by
  have ih := zeros_set (m := m) (n := n) (by simpa using h) hv
  have e1 : met (a :: m) (n + 1) = met m n := rfl
  have e2 : zeros ((a :: m).set (n + 1) v) = zeros (m.set n v) + if (a == 0) = true then 1 else 0 := List.count_cons
  have e3 : zeros (a :: m) = zeros m + if (a == 0) = true then 1 else 0 := List.count_cons
  rw [e1, e2, e3]
  exact ⟨fun hz => by rw [ih.1 hz], fun hz => by rw [ih.2 hz]; omega⟩
/-- What a search from k has met, behind j of its needs. -/
structure Grown (l : List Step) (k j : Nat) (m m' : List Int) : Prop where
 len : m'.length = 8
 nn : ∀ x, 0 ≤ met m' x
 up : ∀ x, met m x ≤ met m' x
 zer : zeros m' ≤ zeros m
 top : ∀ x, met m' x ≤ met m x + (j + 8 * ((zeros m : Int) - zeros m'))
 here : ∀ y ∈ (stepAt l k).needs.take j, 0 < met m' y.toNat
 closed : ∀ x, met m x = 0 → 0 < met m' x → ∀ y ∈ (stepAt l x).needs, 0 < met m' y.toNat
 sound : ∀ x, met m x < met m' x → Reach l k x
theorem Grown.start (l : List Step) (k : Nat) {m : List Int} (hl : m.length = 8) (hn : ∀ x, 0 ≤ met m x) : Grown l k 0 m m :=
 ⟨hl, hn, fun _ => Int.le_refl _, Nat.le_refl _, fun _ => by omega, fun y hy => by simp at hy, fun x h h' => by omega, fun x h => by omega⟩
theorem take_succ {l : List Int} {j : Nat} (h : j < l.length) {y : Int} (hy : y ∈ l.take (j + 1)) : y ∈ l.take j ∨ y = l[j] := by
 rw [List.take_add_one, List.getElem?_eq_getElem h, List.mem_append] at hy
 rcases hy with hy | hy
 · exact .inl hy
 · exact .inr (List.mem_singleton.1 hy)
theorem Grown.old {l : List Step} {k j : Nat} {m m' : List Int} (h : Grown l k j m m') (hj : j < (stepAt l k).needs.length) {n : Nat} (hn : (stepAt l k).needs[j] = (n : Int)) (hn8 : n < 8) (hm : 0 < met m' n) : Grown l k (j + 1) m (m'.set n (met m' n + 1)) := by
 have hlen : n < m'.length := by rw [h.len]; exact hn8
 have hz := (zeros_set hlen (v := met m' n + 1) (by omega)).1 (by omega)
 have hs := met_set hlen (met m' n + 1)
 have hge : ∀ x, met m' x ≤ met (m'.set n (met m' n + 1)) x := fun x => by
  rw [hs]
  split <;> rename_i e
  · subst e; omega
  · exact Int.le_refl _
 refine ⟨by rw [List.length_set, h.len], fun x => Int.le_trans (h.nn x) (hge x), fun x => Int.le_trans (h.up x) (hge x), by rw [hz]; exact h.zer, fun x => ?_, fun y hy => ?_, fun x h0 h1 y hy => ?_, fun x h1 => ?_⟩
 · have := h.top x
   rw [hs, hz]
   split <;> rename_i e
   · subst e; omega
   · omega
 · rcases take_succ hj hy with hy | hy
   · exact Int.lt_of_lt_of_le (h.here y hy) (hge _)
   · rw [hy, hn]
     exact Int.lt_of_lt_of_le hm (hge _)
 · refine Int.lt_of_lt_of_le (h.closed x h0 ?_ y hy) (hge _)
   rw [hs] at h1
   split at h1 <;> rename_i e
   · subst e; exact hm
   · exact h1
 · by_cases e : n = x
   · subst e
     exact .one (hn ▸ List.getElem_mem hj)
   · rw [hs, if_neg e] at h1
     exact h.sound x h1
theorem Grown.new {l : List Step} {k j : Nat} {m m' m'' : List Int} (h : Grown l k j m m') (hj : j < (stepAt l k).needs.length) {n : Nat} (hn : (stepAt l k).needs[j] = (n : Int)) (hn8 : n < 8) (hm : met m' n = 0) (hN : (stepAt l n).needs.length ≤ 8)
 (h2 : Grown l n (stepAt l n).needs.length (m'.set n 1) m'') : Grown l k (j + 1) m m'' := by
 have hlen : n < m'.length := by rw [h.len]; exact hn8
 have hz := (zeros_set hlen (v := 1) (by omega)).2 hm
 have hs := met_set hlen 1
 have hge : ∀ x, met m' x ≤ met (m'.set n 1) x := fun x => by
  rw [hs]
  split <;> rename_i e
  · subst e; omega
  · exact Int.le_refl _
 have hge2 : ∀ x, met m' x ≤ met m'' x := fun x => Int.le_trans (hge x) (h2.up x)
 have hn1 : 0 < met m'' n := by have := h2.up n; rw [hs, if_pos rfl] at this; omega
 have hkn : (n : Int) ∈ (stepAt l k).needs := hn ▸ List.getElem_mem hj
 have hz2 := h2.zer
 have hz3 := h.zer
 refine ⟨h2.len, h2.nn, fun x => Int.le_trans (h.up x) (hge2 x), by omega, fun x => ?_, fun y hy => ?_, fun x h0 h1 y hy => ?_, fun x h1 => ?_⟩
 · have t1 := h.top x
   have t2 := h2.top x
   rw [hs] at t2
   split at t2 <;> rename_i e
   · subst e; omega
   · omega
 · rcases take_succ hj hy with hy | hy
   · exact Int.lt_of_lt_of_le (h.here y hy) (hge2 _)
   · rw [hy, hn]
     exact hn1
 · by_cases e : n = x
   · subst e
     exact h2.here y (by rw [List.take_length]; exact hy)
   · by_cases e2 : 0 < met m' x
     · exact Int.lt_of_lt_of_le (h.closed x h0 e2 y hy) (hge2 _)
     · have e3 : met (m'.set n 1) x = 0 := by rw [hs, if_neg e]; have := h.nn x; omega
       exact h2.closed x e3 h1 y hy
 · by_cases e : n = x
   · subst e
     exact .one hkn
   · by_cases e2 : met m x < met m' x
     · exact h.sound x e2
     · refine .more hkn (h2.sound x ?_)
       rw [hs, if_neg e]
       omega
/-- The whole search: just who is reached is met. -/
theorem Grown.all {l : List Step} {k : Nat} {m' : List Int} (h : Grown l k (stepAt l k).needs.length (List.replicate 8 0) m') (x : Nat) : 0 < met m' x ↔ Reach l k x := by
 have h0 : ∀ x, met (List.replicate 8 0) x = 0 := fun x => by
  unfold met
  rw [List.getD_eq_getElem?_getD, List.getElem?_replicate]
  split <;> rfl
 have hc : ∀ y ∈ (stepAt l k).needs, 0 < met m' y.toNat := fun y hy => h.here y (by rw [List.take_length]; exact hy)
 constructor
 · intro hx
   exact h.sound x (by rw [h0]; exact hx)
 · have gen : ∀ {a b : Nat}, Reach l a b → (∀ y ∈ (stepAt l a).needs, 0 < met m' y.toNat) → 0 < met m' b := by
    intro a b hr
    induction hr with
    | one hy => intro ha; exact ha _ hy
    | more hy _ ih => intro ha; exact ih fun z hz => h.closed _ (h0 _) (ha _ hy) z hz
   exact fun hr => gen hr hc
end Go.Proofs.YtgjddnaidjbhlaaGreatDoor.Pl

/- check.rings' search: the walk, by hand. -/
namespace Go.Proofs.YtgjddnaidjbhlaaGreatDoor.Pl
open Go.RowKit Go.IntWalk Go.Proofs.YtgjddnaidjbhlaaGreatDoorW.PrintWords Go.Proofs.YtgjddnaidjbhlaaGreatDoor.PlName

def metV (m : List Int) : Array Value := (m.map (Value.int .i64)).toArray
theorem metV_at {m : List Int} {n : Nat} (h : n < m.length) : (metV m)[n]? = some (.int .i64 (met m n)) := by
 unfold metV met
 simp [List.getElem?_eq_getElem h]
theorem metV_set (m : List Int) (n : Nat) (v : Int) : (metV m).setIfInBounds n (.int .i64 v) = metV (m.set n v) := by
 unfold metV
 simp [List.map_set]
/-- The search's own function value. -/
def alongV (g gm gf : Nat) : Value := .func (.func 144) #[] #[.pointer (some ⟨g, 0, none⟩), .pointer (some ⟨gm, 0, none⟩), .pointer (some ⟨gf, 0, none⟩)]

set_option maxHeartbeats 4000000 in
set_option maxRecDepth 100000 in
theorem along_calls (wb : World) (l : List Step) (nm : ByteArray) (g : Nat) (ad : Addr) (c : Nat) (hB : Boxed wb g nm l ad c) (hl : l.length ≤ 8) (hin : ∀ k, k < l.length → Within l (stepAt l k) ∧ (stepAt l k).needs.length ≤ 8) (gm gf tm tf : Nat) (hgm : wb.heap.size ≤ gm) (hgf : wb.heap.size ≤ gf) (hne : gf ≠ gm) :
 ∀ (z : Nat) (m : List Int) (k : Nat) (w : World), zeros m = z → k < l.length → m.length = 8 → (∀ x, 0 ≤ met m x) → (∀ x, met m x + 16 * (zeros m : Int) ≤ 1000) → Below wb.heap.size wb w → w.heap[gm]? = some (.cells (metV m) tm (0, 0)) → w.heap[gf]? = some (.cells #[alongV g gm gf] tf (0, 0)) →
 Calls Tryz.prog 144 #[.int .i64 (k : Int), .pointer (some ⟨g, 0, none⟩), .pointer (some ⟨gm, 0, none⟩), .pointer (some ⟨gf, 0, none⟩)] w fun e w' => (∃ v, e = .returned v) ∧ ∃ m', Grown l k (stepAt l k).needs.length m m' ∧ w'.heap[gm]? = some (.cells (metV m') tm (0, 0)) ∧ Chg (· = gm) w w' := by
 intro z
 induction z using Nat.strongRecOn with
 | _ z IH =>
 intro m k w hz hk hm hnn htop hbw hrm hrf
 obtain ⟨_, e, A1, c1, A2, c2, h1⟩ := hB.steps.one (stepAt_eq hk)
 cases e
 have hq4 := cell_on hbw h1.c4
 have hd1 : w.cell? ⟨g, 1, none⟩ = some (.slice (some ad) l.length c) := cell_on hbw (row_cell hB.row rfl)
 have eg : ∀ args w, (callFunc 144 args).run Tryz.prog w = .ok (.enter 144 args) w := fun _ _ => by kernel_rfl
 have HX := Aside0.mk (And.intro hz (And.intro hm (And.intro hnn (And.intro htop (And.intro hbw (And.intro hrm hrf))))))
 have HY := Aside0.mk (And.intro hin (And.intro h1.needs IH))
 have HN := Aside0.mk hin
 have hnl := (hin k hk).2
 clear hz hm hnn htop hbw hrm hrf h1 IH hin
 go_enter Tryz.func144, Tryz.ntmps144
 go_wp2
 go_loopw [14] (fun v14 wr => ∃ (j : Nat) (m1 : List Int), j ≤ (stepAt l k).needs.length ∧ v14 = .int .i64 (j : Int) ∧ Grown l k j m m1 ∧ wr.heap[gm]? = some (.cells (metV m1) tm (0, 0)) ∧ Chg (· = gm) w wr) (fun v14 _ => (stepAt l k).needs.length - (intOf v14).toNat)
 case atStart => exact ⟨0, m, Nat.zero_le _, rfl, Grown.start l k HX.out.2.1 HX.out.2.2.1, HX.out.2.2.2.2.2.1, Chg.refl _ _⟩
 case round =>
  obtain ⟨j, m1, hj, rfl, hG, hR, hC⟩ := hrel
  have HG := Aside0.mk (And.intro hG (And.intro hR hC))
  clear hG hR hC
  by_cases hlt : j < (stepAt l k).needs.length
  · obtain ⟨a2, rfl, hx⟩ := int_at HY.out.2.1 hlt
    have hbr : Below wb.heap.size wb wr := HX.out.2.2.2.2.1.trans (HG.out.2.2.below HX.out.2.2.2.2.1.size (fun k hk => by subst hk; exact hgm))
    have HBR := Aside0.mk hbr
    replace hx := cell_on hbr hx
    have hw := (HY.out.1 k hk).1 _ (List.getElem_mem hlt)
    obtain ⟨n, hn⟩ : ∃ n : Nat, (stepAt l k).needs[j] = (n : Int) := ⟨((stepAt l k).needs[j]).toNat, by omega⟩
    rw [hn] at hx hw
    have HNJ := Aside0.mk hn
    have hn8 : n < 8 := by omega
    have hnl8 : n < l.length := by omega
    have hlen1 : n < m1.length := by rw [HG.out.1.len]; exact hn8
    have hq : wr.cell? ⟨gm, n, none⟩ = some (.int .i64 (met m1 n)) := row_cell HG.out.2.1 (metV_at hlen1)
    have hfr : wr.frozen? ⟨gm, n, none⟩ = false := free_of_row HG.out.2.1
    have hd2 : decide ((j : Int) < ((stepAt l k).needs.length : Int)) = true := decide_eq_true (by omega)
    have hq0 := HG.out.1.nn n
    have hqt : met m1 n ≤ 2000 := by
     have t0 := HX.out.2.2.1 n
     have t1 := HG.out.1.top n
     have t2 := HX.out.2.2.2.1 n
     have t3 := HG.out.1.zer
     omega
    clear hbr hw
    by_cases h0 : met m1 n = 0
    · rw [h0] at hq
      have hrow1 := row_setCell HG.out.2.1 n (.int .i64 1)
      rw [metV_set] at hrow1
      have hrf1 : (wr.setCell ⟨gm, n, none⟩ (.int .i64 1)).heap[gf]? = some (.cells #[alongV g gm gf] tf (0, 0)) := row_setCell_ne (HG.out.2.2.row HX.out.2.2.2.2.2.2 hne) _ _ hne
      have hf0 : (wr.setCell ⟨gm, n, none⟩ (.int .i64 1)).cell? ⟨gf, 0, none⟩ = some (alongV g gm gf) := row_cell hrf1 rfl
      have hzs := (zeros_set hlen1 (v := 1) (by omega)).2 h0
      have hz3 := HG.out.1.zer
      have hms := met_set hlen1 (1 : Int)
      have hcall := HY.out.2.2 (zeros (m1.set n 1)) (by have := HX.out.1; omega) (m1.set n 1) n (wr.setCell ⟨gm, n, none⟩ (.int .i64 1)) rfl hnl8 (by rw [List.length_set]; exact HG.out.1.len)
       (fun x => by
        rw [hms]
        split
        · omega
        · exact HG.out.1.nn x)
       (fun x => by
        have t1 := HG.out.1.top x
        have t2 := HX.out.2.2.2.1 x
        have t3 := HG.out.1.nn x
        have t4 := HX.out.2.2.1 x
        rw [hms]; split <;> omega)
       (HBR.out.trans ((Chg.setCell wr ⟨gm, n, none⟩ (.int .i64 1)).below HBR.out.size (fun k hk => by subst hk; exact hgm))) hrow1 hrf1
      have HQ := Aside0.mk h0
      clear hrow1 hrf1 hzs hms hq0 hqt hlen1
      unfold alongV at hf0
      go_wp2_with (first | (go_at_fn 144; refine hcall.mono ?_; rintro e w1 ⟨⟨v, rfl⟩, m2, hg2, hr2, hc2⟩; have H2 := Aside0.mk (And.intro hg2 (And.intro hr2 hc2)); clear hg2 hr2 hc2))
      go_roundw
      case rel => exact ⟨j + 1, m2, hlt, by go_num, HG.out.1.new hlt HNJ.out hn8 HQ.out (HY.out.1 n hnl8).2 H2.out.1, H2.out.2.1, (HG.out.2.2.trans (Chg.setCell wr ⟨gm, n, none⟩ (.int .i64 1))).trans H2.out.2.2⟩
      case measure => simp [intOf]; omega
    · have hd3 : (met m1 n + 1 == 1) = false := beq_eq_false_iff_ne.2 (by omega)
      have hrow1 := row_setCell HG.out.2.1 n (.int .i64 (met m1 n + 1))
      rw [metV_set] at hrow1
      have HO := Aside0.mk (And.intro hrow1 (HG.out.1.old hlt HNJ.out hn8 (by omega)))
      clear hrow1 hlen1
      generalize met m1 n = q at *
      go_wp2
      go_roundw
      case rel => exact ⟨j + 1, _, hlt, by go_num, HO.out.2, HO.out.1, HG.out.2.2.trans (Chg.setCell wr ⟨gm, n, none⟩ _)⟩
      case measure => simp [intOf]; omega
  · have hi' : j = (stepAt l k).needs.length := by omega
    subst hi'
    have hd2 : decide (((stepAt l k).needs.length : Int) < ((stepAt l k).needs.length : Int)) = false := decide_eq_false (by omega)
    go_wp2
    go_end0
    exact ⟨⟨_, rfl⟩, m1, HG.out.1, HG.out.2.1, HG.out.2.2⟩
end Go.Proofs.YtgjddnaidjbhlaaGreatDoor.Pl

/- check.rings: the walk, by hand. -/
namespace Go.Proofs.YtgjddnaidjbhlaaGreatDoor.Pl
open Go.RowKit Go.IntWalk Go.Proofs.YtgjddnaidjbhlaaGreatDoorW.PrintWords Go.Proofs.YtgjddnaidjbhlaaGreatDoor.PlName

open Classical in
noncomputable def ringAt (l : List Step) (i : Nat) : Bool := decide (Reach l i i)
theorem met_zero (x : Nat) : met (List.replicate 8 0) x = 0 := by
 unfold met
 rw [List.getD_eq_getElem?_getD, List.getElem?_replicate]
 split <;> rfl
theorem ringAt_eq {l : List Step} {i : Nat} {b : Bool} (h : b = true ↔ Reach l i i) : ringAt l i = b := by
 unfold ringAt
 by_cases hr : Reach l i i
 · rw [h.2 hr]
   simp [hr]
 · cases b
   · simp [hr]
   · exact absurd (h.1 rfl) hr

set_option maxHeartbeats 4000000 in
set_option maxRecDepth 100000 in
theorem ring1_calls (l : List Step) (nm : ByteArray) (g : Nat) (ad : Addr) (c : Nat) (i : Nat) (w : World) (hB : Boxed w g nm l ad c) (hi : i < l.length) (hl : l.length ≤ 8) (hin : ∀ k, k < l.length → Within l (stepAt l k) ∧ (stepAt l k).needs.length ≤ 8) :
 Calls Tryz.prog 143 #[.int .i64 (i : Int), .pointer (some ⟨g, 0, none⟩)] w fun e w' => e = .returned (.bool (ringAt l i)) ∧ Below w.heap.size w w' := by
 have eg : ∀ args w, (callFunc 144 args).run Tryz.prog w = .ok (.enter 144 args) w := fun _ _ => by kernel_rfl
 have HB := Aside0.mk (And.intro hB hin)
 clear hB hin
 have hs1 : (w.alloc (.cells (metV (List.replicate 8 0)) 146)).heap.size = w.heap.size + 1 := by
  show (w.heap.push _).size = _
  simp
 have hr1 := alloc1 w (.cells (metV (List.replicate 8 0)) 146)
 have hr2 := alloc1 (w.alloc (.cells (metV (List.replicate 8 0)) 146)) (.cells #[.nilFunc] 92)
 rw [hs1] at hr2
 have hb2 := on_ (below_one w (.cells (metV (List.replicate 8 0)) 146)) (below_one (w.alloc (.cells (metV (List.replicate 8 0)) 146)) (.cells #[.nilFunc] 92))
 replace hr1 := row_on (below_one (w.alloc (.cells (metV (List.replicate 8 0)) 146)) (.cells #[.nilFunc] 92)) hr1
 have hfr : ((w.alloc (.cells (metV (List.replicate 8 0)) 146)).alloc (.cells #[.nilFunc] 92)).frozen? ⟨w.heap.size + 1, 0, none⟩ = false := free_of_row hr2
 have hq : ((w.alloc (.cells (metV (List.replicate 8 0)) 146)).alloc (.cells #[.nilFunc] 92)).cell? ⟨w.heap.size + 1, 0, none⟩ = some .nilFunc := row_cell hr2 rfl
 have hrow2 := row_setCell hr2 0 (alongV g w.heap.size (w.heap.size + 1))
 have hrow1 := row_setCell_ne hr1 ⟨w.heap.size + 1, 0, none⟩ (alongV g w.heap.size (w.heap.size + 1)) (by show w.heap.size ≠ w.heap.size + 1; omega)
 have HS := Aside0.mk (And.intro hrow1 (And.intro hrow2 hb2))
 have hm : metV (List.replicate 8 0) = #[.int .i64 0, .int .i64 0, .int .i64 0, .int .i64 0, .int .i64 0, .int .i64 0, .int .i64 0, .int .i64 0] := rfl
 rw [hm] at hfr hq HS
 clear hm
 have hst := run_store Tryz.prog ((w.alloc (.cells #[.int .i64 0, .int .i64 0, .int .i64 0, .int .i64 0, .int .i64 0, .int .i64 0, .int .i64 0, .int .i64 0] 146)).alloc (.cells #[.nilFunc] 92)) ⟨w.heap.size + 1, 0, none⟩ (alongV g w.heap.size (w.heap.size + 1)) .plain rfl
 rw [hq] at hst
 simp only [hfr, alongV] at hst
 have hb3 := on_ (below_one w (.cells (metV (List.replicate 8 0)) 146)) (below_one (w.alloc (.cells (metV (List.replicate 8 0)) 146)) (.cells #[alongV g w.heap.size (w.heap.size + 1)] 92))
 have hr4 := alloc1 (w.alloc (.cells (metV (List.replicate 8 0)) 146)) (.cells #[alongV g w.heap.size (w.heap.size + 1)] 92)
 have hr3 := row_on (below_one (w.alloc (.cells (metV (List.replicate 8 0)) 146)) (.cells #[alongV g w.heap.size (w.heap.size + 1)] 92)) (alloc1 w (.cells (metV (List.replicate 8 0)) 146))
 rw [hs1] at hr4
 have HCL := Aside0.mk (along_calls w l nm g ad c HB.out.1 hl HB.out.2 w.heap.size (w.heap.size + 1) 146 92 (Nat.le_refl _) (by omega) (by omega) _ (List.replicate 8 0) i _ rfl hi rfl (fun x => by rw [met_zero]; omega) (fun x => by rw [met_zero]; decide) hb3 hr3 hr4)
 replace hb3 := Aside0.mk hb3
 clear hr3 hr4
 clear hr1 hr2 hrow1 hrow2 hb2 hs1 HS
 go_enter Tryz.func143, Tryz.ntmps143
 go_wp2_with (first | (go_at_fn 144; refine HCL.out.mono ?_; rintro e w3 ⟨⟨v, rfl⟩, m2, hg2, hr2, hc2⟩; have hlm : i < m2.length := (by rw [hg2.len]; omega); have hqm : w3.cell? ⟨w.heap.size, i, none⟩ = some (.int .i64 (met m2 i)) := row_cell hr2 (metV_at hlm); have H2 := Aside0.mk (And.intro hg2 (And.intro hr2 hc2)); clear hg2 hr2 hc2))
 go_ret
 refine ⟨?_, hb3.out.trans (H2.out.2.2.below hb3.out.size (fun k hk => by subst hk; exact Nat.le_refl _))⟩
 have := ringAt_eq (l := l) (i := i) (b := decide (0 < met m2 i)) (by rw [decide_eq_true_iff]; exact H2.out.1.all i)
 rw [this]
 rfl
end Go.Proofs.YtgjddnaidjbhlaaGreatDoor.Pl

/- Maps whose elements are read raw: what is there is told as a value. -/
namespace Go.Proofs.YtgjddnaidjbhlaaGreatDoor.LgMaps
open Go.RowKit Go.Maps

def raw (v : Value) : Option (DataW Value × List MemPlace) := some (.held v, [])
/-- What is found at a key. -/
def val (D : DataW Value) (kl : Lit) (z : Value) : Value := match D.atKey kl (.held z) with | .held v => v | _ => z
theorem val_eq {D : DataW Value} {kl : Lit} {z v : Value} (h : D.atKey kl (.held z) = .held v) : val D kl z = v := by rw [val, h]

section
variable {P : Program} {k t e : TypeId} {w : World} {b n : Nat} {D : DataW Value} {z : Value} {key : Value} {kl : Lit}
theorem mlook (h : w.ownsMap P k raw b n D) (K : Keyed P k) (ht : P.underlying t = some (.map k e)) (hz : (zeroValue e).run P w = .ok z w) (hkey : keyOf P k key = some kl) :
 (Instr.lookup t (.map (some b)) key false).run P w = .ok (val D kl z) w := by
 obtain ⟨v, ps, hrun, hv⟩ := h.lookup K ht hz (zd := .held z) (zp := []) rfl hkey
 have hv' : D.atKey kl (.held z) = .held v := by
  have := Option.some.inj hv
  exact (Prod.mk.inj this).1.symm
 rw [val_eq hv']
 exact hrun
theorem mput (h : w.ownsMap P k raw b n D) (K : Keyed P k) (ht : P.underlying t = some (.map k e)) (hn : n < maxLen) {v : Value} (hkey : keyOf P k key = some kl) :
 ∃ w', (Instr.mapUpdate t (.map (some b)) key v).run P w = .ok () w' ∧ w'.ownsMap P k raw b (n + 1) (D.put kl (.held v)) ∧ w.grownBy w' (some b) :=
 h.update K ht hn hkey rfl
theorem val_put_same (hD : IsMap D) (hk : WideAt.IsKeyLit kl) (v : Value) : val (D.put kl (.held v)) kl z = v := val_eq (atKey_put_same hD hk _ _)
theorem val_put_other {kl' : Lit} (hne : kl' ≠ kl) (v : Value) : val (D.put kl (.held v)) kl' z = val D kl' z := by
 unfold val
 rw [atKey_put_other hne]
end
end Go.Proofs.YtgjddnaidjbhlaaGreatDoor.LgMaps

/- check.rings itself; check.Check's fourth question: the walks, by hand. -/
namespace Go.Proofs.YtgjddnaidjbhlaaGreatDoor.Pl
open Go.RowKit Go.IntWalk Go.Maps Go.Proofs.YtgjddnaidjbhlaaGreatDoorW.PrintWords Go.Proofs.YtgjddnaidjbhlaaGreatDoor.PlName Go.Proofs.YtgjddnaidjbhlaaGreatDoor.LgMaps

set_option maxHeartbeats 4000000 in
set_option maxRecDepth 100000 in
theorem rings_calls (nm : ByteArray) (vd : Value) (w : World) :
 Calls Tryz.prog 76 #[.agg #[.string nm, vd]] w fun e w' => e = .returned (.func (.func 143) #[] #[.pointer (some ⟨w.heap.size, 0, none⟩)]) ∧ Below w.heap.size w w' ∧ w'.heap[w.heap.size]? = some (.cells #[.string nm, vd] 24 (0, 0)) := by
 have hr := Aside0.mk (alloc1 w (.cells #[.string nm, vd] 24))
 have hb := Aside0.mk (below_one w (.cells #[.string nm, vd] 24))
 go_enter Tryz.func76, Tryz.ntmps76
 go_wp2
 go_ret
 exact ⟨rfl, hb.out, hr.out⟩

theorem lawS : Keyed Tryz.prog 9 := string_keyed Tryz.underlying9
theorem zeroI (w : World) : (zeroValue 3).run Tryz.prog w = .ok (.int .i64 0) w := by kernel_rfl
def keyL (s : ByteArray) : Lit := .string s.data.toList
theorem keyS {s : ByteArray} (h : s.size ≤ maxLen) : keyOf Tryz.prog 9 (.string s) = some (keyL s) := Go.WideMaps.keyOf_string_mk Tryz.underlying9 h
theorem keyL_inj {a b : ByteArray} (h : keyL a = keyL b) : a = b := by
 unfold keyL at h
 injection h with h
 cases a; cases b
 exact congrArg ByteArray.mk (Array.toList_inj.1 h)
/-- What a function value tells of some strings, whatever has come since. -/
def TellsB (w : World) (g : Nat) (lb : Array Value) (p : ByteArray → Bool) (ks : List ByteArray) : Prop :=
 ∀ (W : World) (k : ByteArray), k ∈ ks → Below w.heap.size w W → Calls Tryz.prog g (#[.string k] ++ lb) W fun e w' => e = .returned (.bool (p k)) ∧ Below W.heap.size W w'

set_option maxHeartbeats 1000000 in
set_option maxRecDepth 100000 in
theorem indexB_calls (g : Nat) (lb : Array Value) (p : ByteArray → Bool) (ks : List ByteArray) (A : Option Addr) (c : Nat) (w : World) (eg : ∀ args w, (callFunc g args).run Tryz.prog w = .ok (.enter g args) w)
 (hp : TellsB w g lb p ks) (hr : Kd.C Kd.string w A ks.length ks) (hl : ks.length ≤ 9000000000000000000) :
 Calls Tryz.prog 145 #[.slice A ks.length c, .func (.func g) #[] lb] w fun e w' => e = .returned (.int .i64 (idxF p 0 ks)) ∧ Below w.heap.size w w' := by
 have HR := Aside0.mk hr
 have HP := Aside0.mk hp
 have HB := Aside0.mk (Below.refl w.heap.size w)
 clear hr hp
 have hk : idxF p 0 ks = idxF p 0 (ks.drop 0) := by simp
 have HK := Aside0.mk hk
 clear hk
 go_enter Tryz.func145, Tryz.ntmps145
 go_wp2
 go_loopw [5, 8] (fun _ v8 wr => ∃ i : Nat, i ≤ ks.length ∧ v8 = .int .i64 (i : Int) ∧ idxF p 0 ks = idxF p i (ks.drop i) ∧ Below w.heap.size w wr) (fun _ v8 _ => ks.length - (intOf v8).toNat)
 case atStart => exact ⟨0, Nat.zero_le _, rfl, HK.out, HB.out⟩
 case round =>
  obtain ⟨i, hi, rfl, hg, hB⟩ := hrel
  have HG := Aside0.mk hg
  replace HB := Aside0.mk hB
  clear hg hB
  by_cases hlt : i < ks.length
  · obtain ⟨ad, rfl, hcell0⟩ := Kd.at_string HR.out (i : Int) (by omega) (by omega)
    have hx : rdOf ByteArray.empty ks (i : Int) = ks[i] := by unfold rdOf; simp [List.getD, List.getElem?_eq_getElem hlt]
    rw [hx, Int.toNat_natCast] at hcell0
    have hcell := cell_on HB.out hcell0
    have hdrop : ks.drop i = ks[i] :: ks.drop (i + 1) := List.drop_eq_getElem_cons hlt
    have hcall := HP.out wr ks[i] (List.getElem_mem hlt) HB.out
    rw [hdrop, idxF] at HG
    have hd2 : decide ((i : Int) < (ks.length : Int)) = true := decide_eq_true (by omega)
    clear hx hcell0 hdrop
    generalize ks[i] = k at *
    cases hn : p k
    · rw [hn] at hcall HG
      go_wp2_with (first | (go_at_fn g; refine hcall.mono ?_; rintro e w1 ⟨rfl, hb1⟩))
      go_roundw
      case rel => exact ⟨i + 1, hlt, by go_num, HG.out, HB.out.trans (hb1.mono HB.out.size)⟩
      case measure => simp [intOf]; omega
    · rw [hn] at hcall HG
      go_wp2_with (first | (go_at_fn g; refine hcall.mono ?_; rintro e w1 ⟨rfl, hb1⟩))
      go_ret
      rw [HG.out]
      exact ⟨rfl, HB.out.trans (hb1.mono HB.out.size)⟩
  · have hi' : i = ks.length := by omega
    subst hi'
    have hd2 : decide ((ks.length : Int) < (ks.length : Int)) = false := decide_eq_false (by omega)
    go_wp2
    go_ret
    rw [HG.out, List.drop_length]
    exact ⟨rfl, HB.out⟩

set_option maxHeartbeats 1000000 in
set_option maxRecDepth 100000 in
theorem containsB_calls (g : Nat) (lb : Array Value) (p : ByteArray → Bool) (ks : List ByteArray) (A : Option Addr) (c : Nat) (w : World) (eg : ∀ args w, (callFunc g args).run Tryz.prog w = .ok (.enter g args) w)
 (hp : TellsB w g lb p ks) (hr : Kd.C Kd.string w A ks.length ks) (hl : ks.length ≤ 9000000000000000000) :
 Calls Tryz.prog 78 #[.slice A ks.length c, .func (.func g) #[] lb] w fun e w' => e = .returned (.bool (ks.any p)) ∧ Below w.heap.size w w' := by
 have hi := indexB_calls g lb p ks A c w eg hp hr hl
 have HA := Aside0.mk (idxF_any p 0 ks)
 clear hp hr
 generalize idxF p 0 ks = r at *
 go_enter Tryz.func78, Tryz.ntmps78
 go_wp2_with (first | (go_at_call 145; refine hi.mono ?_; rintro e w1 ⟨rfl, hb1⟩))
 go_ret
 refine ⟨?_, hb1⟩
 rw [← HA.out]
 rfl

theorem ownsMap_move {P : Program} {k b n : Nat} {R : Value → Option (DataW Value × List MemPlace)} {D : DataW Value} {w w' : World} (h : w.ownsMap P k R b n D) (he : w'.heap[b]? = w.heap[b]?) : w'.ownsMap P k R b n D := by
 obtain ⟨es, clock, hb, r⟩ := h
 exact ⟨es, clock, he.trans hb, r⟩
/-- How often a key is held. -/
structure HeldAt (w : World) (gb b n : Nat) (D : DataW Value) (f : ByteArray → Int) : Prop where
 box : w.heap[gb]? = some (.cells #[.map (some b)] 102 (0, 0))
 own : w.ownsMap Tryz.prog 9 raw b n D
 told : ∀ k : ByteArray, k.size ≤ maxLen → val D (keyL k) (.int .i64 0) = .int .i64 (f k)

set_option maxHeartbeats 1000000 in
set_option maxRecDepth 100000 in
theorem check31_calls (w : World) (gb b n : Nat) (D : DataW Value) (f : ByteArray → Int) (k : ByteArray) (h : HeldAt w gb b n D f) (hk : k.size ≤ maxLen) :
 Calls Tryz.prog 79 #[.string k, .pointer (some ⟨gb, 0, none⟩)] w fun e w' => e = .returned (.bool (f k == 0)) ∧ Below w.heap.size w w' := by
 have hc := row_cell h.box (j := 0) rfl
 have hlook := mlook (key := .string k) h.own lawS Tryz.underlying102 (zeroI _) (keyS hk)
 rw [h.told k hk] at hlook
 clear h
 go_enter Tryz.func79, Tryz.ntmps79
 go_wp2
 go_ret
 exact ⟨rfl, Below.refl _ _⟩
theorem HeldAt.on {w w' : World} {gb b n : Nat} {D : DataW Value} {f : ByteArray → Int} (h : HeldAt w gb b n D f) (hb : Below w.heap.size w w') : HeldAt w' gb b n D f := by
 exact ⟨row_on hb h.box, ownsMap_move h.own (hb.block b h.own.lt), h.told⟩
def lacksHeld (l : List Step) (f : ByteArray → Int) (i : Nat) : Bool := (stepAt l i).keys.any fun k => f k == 0

set_option maxHeartbeats 4000000 in
set_option maxRecDepth 100000 in
theorem check3_calls (l : List Step) (nm : ByteArray) (g : Nat) (ad : Addr) (c : Nat) (i : Nat) (w : World) (gb b n : Nat) (D : DataW Value) (f : ByteArray → Int) (hB : Boxed w g nm l ad c) (hH : HeldAt w gb b n D f) (hi : i < l.length) (hl : l.length ≤ 8) (hkl : (stepAt l i).keys.length ≤ 2) (hks : ∀ k ∈ (stepAt l i).keys, k.size ≤ maxLen) :
 Calls Tryz.prog 77 #[.int .i64 (i : Int), .pointer (some ⟨g, 0, none⟩), .pointer (some ⟨gb, 0, none⟩)] w fun e w' => e = .returned (.bool (lacksHeld l f i)) ∧ Below w.heap.size w w' := by
 obtain ⟨_, e, A1, c1, A2, c2, h1⟩ := hB.steps.one (stepAt_eq hi)
 cases e
 have hq3 := h1.c3
 have hd1 : w.cell? ⟨g, 1, none⟩ = some (.slice (some ad) l.length c) := row_cell hB.row rfl
 have eg : ∀ args w, (callFunc 79 args).run Tryz.prog w = .ok (.enter 79 args) w := fun _ _ => by kernel_rfl
 have HC : Aside0 (Calls Tryz.prog 78 #[.slice A1 (stepAt l i).keys.length c1, .func (.func 79) #[] #[.pointer (some ⟨gb, 0, none⟩)]] w fun e w' => e = .returned (.bool (lacksHeld l f i)) ∧ Below w.heap.size w w') :=
  ⟨containsB_calls _ _ (fun k => f k == 0) _ A1 c1 w eg (fun W k hk hW => check31_calls W gb b n D f k (hH.on hW) (hks k hk)) h1.keys (by omega)⟩
 clear h1 hB hH hks eg
 go_enter Tryz.func77, Tryz.ntmps77
 go_wp2_with (first | (go_at_call 78; refine HC.out.mono ?_; rintro e w3 ⟨rfl, hb3⟩))
 go_ret
 exact ⟨rfl, hb3⟩
end Go.Proofs.YtgjddnaidjbhlaaGreatDoor.Pl

/- What Check's worlds keep, what its table tells. -/
namespace Go.Proofs.YtgjddnaidjbhlaaGreatDoor.Pl
open Go.RowKit Go.IntWalk Go.Maps Go.Proofs.YtgjddnaidjbhlaaGreatDoorW.PrintWords Go.Proofs.YtgjddnaidjbhlaaGreatDoor.PlName Go.Proofs.YtgjddnaidjbhlaaGreatDoor.LgMaps

/-- The worlds of Check: the definition lies there, boxed. -/
structure Ck (w w' : World) (nm : ByteArray) (l : List Step) (ad : Addr) (c : Nat) : Prop where
 below : Below w.heap.size w w'
 box : Boxed w' w.heap.size nm l ad c
 tabs : TabsAt w'
theorem Ck.on {w w' w'' : World} {nm : ByteArray} {l : List Step} {ad : Addr} {c : Nat} (h : Ck w w' nm l ad c) (hb : Below w'.heap.size w' w'') : Ck w w'' nm l ad c :=
 ⟨on_ h.below hb, h.box.on hb, tabs_on h.tabs hb⟩
theorem Ck.cells {w w' : World} {nm : ByteArray} {l : List Step} {ad : Addr} {c : Nat} (h : Ck w w' nm l ad c) : w'.cell? ⟨w.heap.size, 0, none⟩ = some (.string nm) ∧ w'.cell? ⟨w.heap.size, 1, none⟩ = some (.slice (some ad) l.length c) :=
 ⟨row_cell h.box.row rfl, row_cell h.box.row rfl⟩
theorem Ck.chg {w w' w'' : World} {nm : ByteArray} {l : List Step} {ad : Addr} {c : Nat} {X : Nat → Prop} (hS : StepsAt w (some ad) l) (hT : TabsAt w) (h : Ck w w' nm l ad c) (hc : Chg X w' w'') (hX : ∀ k, X k → w.heap.size < k) : Ck w w'' nm l ad c := by
 have hb : Below w.heap.size w w'' := h.below.trans (hc.below h.below.size fun k hk => Nat.le_of_lt (hX k hk))
 exact ⟨hb, ⟨hc.row h.box.row fun hx => absurd (hX _ hx) (Nat.lt_irrefl _), hS.below hb⟩, tabs_on hT hb⟩
theorem all_range {p : Nat → Bool} {n : Nat} (h : ∀ j, j < n → p j = true) : (List.range' 0 n).all p = true := by
 rw [List.all_eq_true]
 intro x hx
 have := List.mem_range'_1.1 hx
 exact h x (by omega)
theorem all_range_false {p : Nat → Bool} {n j : Nat} (hj : j < n) (h : p j = false) : (List.range' 0 n).all p = false := by
 rw [List.all_eq_false]
 exact ⟨j, List.mem_range'_1.2 ⟨by omega, by omega⟩, by rw [h]; simp⟩

theorem keyL_is (a : ByteArray) : WideAt.IsKeyLit (keyL a) := by simp [keyL, WideAt.IsKeyLit]
/-- Keys that are held by steps that are not retriable. -/
def heldKeys (l : List Step) : List ByteArray := l.flatMap fun s => if s.kind = 3 then [] else s.keys
def countK (ks : List ByteArray) (k : ByteArray) : Int := ((ks.countP fun x => decide (x = k) : Nat) : Int)
def heldF (l : List Step) : ByteArray → Int := countK (heldKeys l)
theorem countK_snoc (ks : List ByteArray) (k x : ByteArray) : countK (ks ++ [k]) x = if x = k then countK ks k + 1 else countK ks x := by
 unfold countK
 rw [List.countP_append]
 by_cases h : x = k
 · subst h
   simp
 · have h' : ¬ k = x := fun e => h e.symm
   simp [h, h']
theorem countK_le (ks : List ByteArray) (k : ByteArray) : 0 ≤ countK ks k ∧ countK ks k ≤ ks.length := by
 have : ks.countP (fun x => decide (x = k)) ≤ ks.length := List.countP_le_length
 unfold countK
 omega
theorem heldKeys_snoc {l : List Step} {i : Nat} (h : i < l.length) : heldKeys (l.take (i + 1)) = heldKeys (l.take i) ++ (if (stepAt l i).kind = 3 then [] else (stepAt l i).keys) := by
 unfold heldKeys
 rw [List.take_add_one, stepAt_eq h]
 simp
theorem HeldAt.put {w w' : World} {gb b n : Nat} {D : DataW Value} {ks : List ByteArray} {k : ByteArray} (h : HeldAt w gb b n D (countK ks)) (hk : k.size ≤ maxLen) (hne : gb ≠ b)
 (hown : w'.ownsMap Tryz.prog 9 raw b (n + 1) (D.put (keyL k) (.held (.int .i64 (countK ks k + 1))))) (hg : w.grownBy w' (some b)) : HeldAt w' gb b (n + 1) (D.put (keyL k) (.held (.int .i64 (countK ks k + 1)))) (countK (ks ++ [k])) := by
 refine ⟨(Chg.of_grown (X := (· = b)) hg (fun _ => rfl)).row h.box hne, hown, fun x hx => ?_⟩
 rw [countK_snoc]
 by_cases e : x = k
 · subst e
   rw [if_pos rfl, val_put_same h.own.isMap (keyL_is x)]
 · rw [if_neg e, val_put_other (fun e' => e (keyL_inj e')), h.told x hx]
/-- Where Check makes its counter and its table. -/
theorem made (w : World) : ∃ w', w' = ((w.alloc (.cells #[.int .i64 0] 3)).alloc (.map #[] 0)).alloc (.cells #[.map (some (w.heap.size + 1))] 102) ∧ Below w.heap.size w w' ∧ w'.heap[w.heap.size]? = some (.cells #[.int .i64 0] 3 (0, 0)) ∧ HeldAt w' (w.heap.size + 2) (w.heap.size + 1) 0 (.map []) (countK []) := by
 have s1 : (w.alloc (.cells #[.int .i64 0] 3)).heap.size = w.heap.size + 1 := by
  show (w.heap.push _).size = _
  simp
 have s2 : ((w.alloc (.cells #[.int .i64 0] 3)).alloc (.map #[] 0)).heap.size = w.heap.size + 2 := by
  show ((w.alloc (.cells #[.int .i64 0] 3)).heap.push _).size = _
  simp [s1]
 have b1 := below_one w (.cells #[.int .i64 0] 3)
 have b2 := below_one (w.alloc (.cells #[.int .i64 0] 3)) (.map #[] 0)
 have b3 := below_one ((w.alloc (.cells #[.int .i64 0] 3)).alloc (.map #[] 0)) (.cells #[.map (some (w.heap.size + 1))] 102)
 have r3 := alloc1 ((w.alloc (.cells #[.int .i64 0] 3)).alloc (.map #[] 0)) (.cells #[.map (some (w.heap.size + 1))] 102)
 have o2 := World.ownsMap_made (w.alloc (.cells #[.int .i64 0] 3)) Tryz.prog 9 raw
 rw [s1] at o2
 rw [s2] at r3
 exact ⟨_, rfl, on_ b1 (on_ b2 b3), row_on (on_ b2 b3) (alloc1 w _), r3, o2.alloc _, fun k _ => rfl⟩
end Go.Proofs.YtgjddnaidjbhlaaGreatDoor.Pl

/- The four questions that Check asks of all steps. -/
namespace Go.Proofs.YtgjddnaidjbhlaaGreatDoor.Pl
open Go.RowKit Go.IntWalk Go.Maps Go.Proofs.YtgjddnaidjbhlaaGreatDoorW.PrintWords Go.Proofs.YtgjddnaidjbhlaaGreatDoor.PlName Go.Proofs.YtgjddnaidjbhlaaGreatDoor.LgMaps

def pivots (l : List Step) (i : Nat) : Nat := ((l.take i).filter fun s => decide (s.kind = 2)).length
theorem pivots_succ {l : List Step} {i : Nat} (h : i < l.length) : pivots l (i + 1) = pivots l i + (if (stepAt l i).kind = 2 then 1 else 0) := by
 unfold pivots
 rw [List.take_add_one, stepAt_eq h, List.filter_append, List.length_append]
 by_cases e : (stepAt l i).kind = 2 <;> simp [e]
theorem pivots_le (l : List Step) (i : Nat) : pivots l i ≤ l.length := by
 unfold pivots
 exact Nat.le_trans (List.length_filter_le _ _) (by rw [List.length_take]; omega)
structure Zed (w W : World) (nm : ByteArray) (l : List Step) (ad : Addr) (c gp n : Nat) (D : DataW Value) : Prop where
 ck : Ck w W nm l ad c
 held : HeldAt W (gp + 1 + 1) (gp + 1) n D (heldF l)
theorem HeldAt.chg {w w' : World} {gb b n : Nat} {D : DataW Value} {f : ByteArray → Int} {X : Nat → Prop} (h : HeldAt w gb b n D f) (hc : Chg X w w') (h1 : ¬ X gb) (h2 : ¬ X b) : HeldAt w' gb b n D f :=
 ⟨hc.row h.box h1, ownsMap_move h.own (hc.block b h.own.lt h2), h.told⟩
theorem Chg.none {w w' : World} (h : Chg (fun _ => False) w w') : Below w.heap.size w w' := h.below (Nat.le_refl _) fun _ hk => hk.elim
theorem Zed.on {w W W' : World} {nm : ByteArray} {l : List Step} {ad : Addr} {c gp n : Nat} {D : DataW Value} (h : Zed w W nm l ad c gp n D) (hb : Below W.heap.size W W') : Zed w W' nm l ad c gp n D :=
 ⟨h.ck.on hb, h.held.on hb⟩

section
variable {w W : World} {nm : ByteArray} {l : List Step} {ad : Addr} {c gp n : Nat} {D : DataW Value}
theorem q1_calls (hS : StepsAt w (some ad) l) (hT : TabsAt w) (hl : l.length ≤ 8) (hg : w.heap.size < gp) (h : Zed w W nm l ad c gp n D) (hrp : W.heap[gp]? = some (.cells #[.int .i64 0] 3 (0, 0))) :
 Calls Tryz.prog 71 #[.agg #[.string nm, .slice (some ad) l.length c], .func (.func 72) #[] #[.pointer (some ⟨w.heap.size, 0, none⟩), .pointer (some ⟨gp, 0, none⟩)]] W fun e w' => e = .returned (.int .i64 (firstF (fun i => decide (1 < pivots l (i + 1))) 0 l.length)) ∧ Zed w w' nm l ad c gp n D := by
 have eg : ∀ args w, (callFunc 72 args).run Tryz.prog w = .ok (.enter 72 args) w := fun _ _ => by kernel_rfl
 refine (first_calls nm l.length (some ad) c _ _ (fun i => decide (1 < pivots l (i + 1))) (· = gp) (fun i W' => W'.heap[gp]? = some (.cells #[.int .i64 (pivots l i : Int)] 3 (0, 0))) W eg hl (fun k hk => by subst hk; exact (Array.getElem?_eq_some_iff.1 hrp).1) (row_on (below_one W _) hrp) ?_).mono ?_
 · intro i W' hi hc hI
   have hck := h.ck.chg hS hT hc (fun k hk => by subst hk; exact hg)
   have := check1_calls l nm w.heap.size gp ad c i (pivots l i) W' hck.box hi hl (Nat.le_trans (pivots_le l i) hl) hI
   rw [← pivots_succ hi] at this
   exact this
 · rintro e w' ⟨he, hc⟩
   exact ⟨he, h.ck.chg hS hT hc (fun k hk => by subst hk; exact hg), h.held.chg hc (by omega) (by omega)⟩
theorem q2_calls (hl : l.length ≤ 8) (hin : ∀ k, k < l.length → Within l (stepAt l k) ∧ (stepAt l k).needs.length ≤ 8) (h : Zed w W nm l ad c gp n D) :
 Calls Tryz.prog 71 #[.agg #[.string nm, .slice (some ad) l.length c], .func (.func 73) #[] #[.pointer (some ⟨w.heap.size, 0, none⟩)]] W fun e w' => e = .returned (.int .i64 (firstF (ordersBad l) 0 l.length)) ∧ Zed w w' nm l ad c gp n D := by
 have eg : ∀ args w, (callFunc 73 args).run Tryz.prog w = .ok (.enter 73 args) w := fun _ _ => by kernel_rfl
 refine (first_calls nm l.length (some ad) c _ _ (ordersBad l) (fun _ => False) (fun _ _ => True) W eg hl (fun _ hk => hk.elim) trivial ?_).mono ?_
 · intro i W' hi hc _
   refine (check2_calls l nm w.heap.size ad c i W' (h.ck.on hc.none).box hi hl (hin i hi).1 (by have := (hin i hi).2; omega)).mono ?_
   rintro e w' ⟨he, hb⟩
   exact ⟨he, trivial, .of_below hb⟩
 · rintro e w' ⟨he, hc⟩
   exact ⟨he, h.on hc.none⟩
theorem q3_calls (g : Nat) (hl : l.length ≤ 8) (hin : ∀ k, k < l.length → Within l (stepAt l k) ∧ (stepAt l k).needs.length ≤ 8) (h : Zed w W nm l ad c gp n D) (hg : W.heap[g]? = some (.cells #[.string nm, .slice (some ad) l.length c] 24 (0, 0))) :
 Calls Tryz.prog 71 #[.agg #[.string nm, .slice (some ad) l.length c], .func (.func 143) #[] #[.pointer (some ⟨g, 0, none⟩)]] W fun e w' => e = .returned (.int .i64 (firstF (ringAt l) 0 l.length)) ∧ Zed w w' nm l ad c gp n D := by
 have eg : ∀ args w, (callFunc 143 args).run Tryz.prog w = .ok (.enter 143 args) w := fun _ _ => by kernel_rfl
 refine (first_calls nm l.length (some ad) c _ _ (ringAt l) (fun _ => False) (fun _ _ => True) W eg hl (fun _ hk => hk.elim) trivial ?_).mono ?_
 · intro i W' hi hc _
   refine (ring1_calls l nm g ad c i W' ⟨row_on hc.none hg, (h.ck.on hc.none).box.steps⟩ hi hl hin).mono ?_
   rintro e w' ⟨he, hb⟩
   exact ⟨he, trivial, .of_below hb⟩
 · rintro e w' ⟨he, hc⟩
   exact ⟨he, h.on hc.none⟩
theorem q4_calls (hl : l.length ≤ 8) (hks : ∀ k, k < l.length → (stepAt l k).keys.length ≤ 2 ∧ ∀ x ∈ (stepAt l k).keys, x.size ≤ maxLen) (h : Zed w W nm l ad c gp n D) :
 Calls Tryz.prog 71 #[.agg #[.string nm, .slice (some ad) l.length c], .func (.func 77) #[] #[.pointer (some ⟨w.heap.size, 0, none⟩), .pointer (some ⟨gp + 1 + 1, 0, none⟩)]] W fun e w' => e = .returned (.int .i64 (firstF (lacksHeld l (heldF l)) 0 l.length)) ∧ Zed w w' nm l ad c gp n D := by
 have eg : ∀ args w, (callFunc 77 args).run Tryz.prog w = .ok (.enter 77 args) w := fun _ _ => by kernel_rfl
 refine (first_calls nm l.length (some ad) c _ _ (lacksHeld l (heldF l)) (fun _ => False) (fun _ _ => True) W eg hl (fun _ hk => hk.elim) trivial ?_).mono ?_
 · intro i W' hi hc _
   have hz := h.on hc.none
   refine (check3_calls l nm w.heap.size ad c i W' (gp + 1 + 1) (gp + 1) n D (heldF l) hz.ck.box hz.held hi hl (hks i hi).1 (hks i hi).2).mono ?_
   rintro e w' ⟨he, hb⟩
   exact ⟨he, trivial, .of_below hb⟩
 · rintro e w' ⟨he, hc⟩
   exact ⟨he, h.on hc.none⟩
end
end Go.Proofs.YtgjddnaidjbhlaaGreatDoor.Pl

/- check.Check: the walk, by hand. -/
namespace Go.Proofs.YtgjddnaidjbhlaaGreatDoor.Pl
open Go.RowKit Go.IntWalk Go.Maps Go.Proofs.YtgjddnaidjbhlaaGreatDoorW.PrintWords Go.Proofs.YtgjddnaidjbhlaaGreatDoorW.PrintLast Go.Proofs.YtgjddnaidjbhlaaGreatDoorW.PrintMore Go.Proofs.YtgjddnaidjbhlaaGreatDoor.PlName Go.Proofs.YtgjddnaidjbhlaaGreatDoor.LgMaps

theorem str_at {w : World} {A : Option Addr} {l : List ByteArray} (h : Kd.C Kd.string w A l.length l) {i : Nat} (hlt : i < l.length) : ∃ ad, A = some ad ∧ w.cell? (ad.add i) = some (.string l[i]) := by
 obtain ⟨_, _, h3⟩ := h
 obtain ⟨ad, e, h4⟩ := h3 (by omega)
 obtain ⟨cs, h5, h6, h7⟩ := h4 i l[i] (List.getElem?_eq_getElem hlt)
 refine ⟨ad, e, ?_⟩
 have h8 : cs = [.string l[i]] := h6
 have h9 := h7 0 (.string l[i]) (by rw [h8]; rfl)
 rw [show Kd.string.sz = 1 from rfl, Nat.mul_one] at h9
 cases i with
 | zero => exact h9
 | succ j => exact h9
theorem keys_two {l : List Step} {i : Nat} {s : Step} (h : aloneOk l i s = true) : s.keys.length ≤ 2 := by
 unfold aloneOk keysOk at h
 simp only [Bool.and_eq_true, decide_eq_true_eq] at h
 exact h.2.2.2.2.1.1
theorem goNeeds_in (n i : Int) : ∀ (last : Int) (l : List Int), last < n → goNeeds n i last l = true → (∀ x ∈ l, last < x ∧ x < n) ∧ (l.length : Int) ≤ n - 1 - last
 | last, [], h, _ => ⟨fun x hx => by simp at hx, by simp; omega⟩
 | last, x :: l, h, hg => by
  rw [goNeeds] at hg
  simp only [Bool.and_eq_true, decide_eq_true_eq] at hg
  obtain ⟨h1, h2, _, h4⟩ := hg
  have ih := goNeeds_in n i x l h2 h4
  refine ⟨fun y hy => ?_, by have := ih.2; simp; omega⟩
  rcases List.mem_cons.1 hy with rfl | hy
  · exact ⟨h1, h2⟩
  · have := ih.1 y hy
    omega
theorem needs_in {l : List Step} {i : Nat} {s : Step} (hl : l.length ≤ 8) (h : aloneOk l i s = true) : Within l s ∧ s.needs.length ≤ 8 := by
 unfold aloneOk at h
 simp only [Bool.and_eq_true, decide_eq_true_eq] at h
 have h2 := h.2.2.2.2.2
 unfold needsOk at h2
 have := goNeeds_in l.length i (-1) s.needs (by omega) h2
 exact ⟨fun x hx => by have := this.1 x hx; omega, by omega⟩
theorem four_ways : ∀ (b1 b2 b3 b4 : Bool), b1 = true ∨ (b1 = false ∧ b2 = true) ∨ (b1 = false ∧ b2 = false ∧ b3 = true) ∨ (b1 = false ∧ b2 = false ∧ b3 = false ∧ b4 = true) ∨ (b1 = false ∧ b2 = false ∧ b3 = false ∧ b4 = false) := by decide
def allOf (p : Nat → Bool) (n : Nat) : Bool := !(List.range' 0 n).any p
noncomputable def defOk (nm : ByteArray) (l : List Step) : Bool :=
 Nm.isName nm && (decide (1 ≤ l.length ∧ l.length ≤ 8) && ((List.range' 0 l.length).all (fun i => aloneOk l i (stepAt l i)) && (allOf (fun i => decide (1 < pivots l (i + 1))) l.length && (allOf (ordersBad l) l.length && (allOf (ringAt l) l.length && allOf (lacksHeld l (heldF l)) l.length)))))

set_option maxHeartbeats 4000000 in
set_option maxRecDepth 100000 in
theorem check_calls (nm : ByteArray) (l : List Step) (A : Option Addr) (c : Nat) (w : World) (hnm : nm.size ≤ 140737488351232) (hS : StepsAt w A l) (hb : ∀ s ∈ l, StepB s) (hn : l.length ≤ 9000000000000) (hc : l.length ≤ c) (hT : TabsAt w) :
 Calls Tryz.prog 31 #[.agg #[.string nm, .slice A l.length c]] w fun e w' => (∃ a b, e = .returned (.tuple #[.int .i64 a, .int .i64 b]) ∧ (b == 0) = defOk nm l) ∧ Below w.heap.size w w' := by
 have HC53 : Aside0 (∀ W, Calls Tryz.prog 32 #[.string nm] W fun e w' => e = .returned (.bool (Nm.isName nm)) ∧ Below W.heap.size W w') := ⟨fun W => NameWalk.is_calls _ W (by omega)⟩
 have hbb := below_one w (.cells #[.string nm, .slice A l.length c] 24)
 have hr0 := alloc1 w (.cells #[.string nm, .slice A l.length c] 24)
 have HW := Aside0.mk (And.intro hbb hr0)
 have HA := Aside0.mk (And.intro hS (And.intro hb hT))
 have hdef : Aside0 (defOk nm l = (Nm.isName nm && (decide (1 ≤ l.length ∧ l.length ≤ 8) && ((List.range' 0 l.length).all (fun i => aloneOk l i (stepAt l i)) && (allOf (fun i => decide (1 < pivots l (i + 1))) l.length && (allOf (ordersBad l) l.length && (allOf (ringAt l) l.length && allOf (lacksHeld l (heldF l)) l.length))))))) := ⟨rfl⟩
 generalize defOk nm l = rr at *
 clear hbb hr0 hS hb hT
 go_enter Tryz.func31, Tryz.ntmps31
 cases hnn : Nm.isName nm
 · rw [hnn] at HC53 hdef
   go_wp2_with (first | (go_at_call 32; refine (HC53.out _).mono ?_; rintro e w1 ⟨rfl, hb1⟩))
   go_ret2
   rw [hdef.out]
   exact ⟨⟨_, _, rfl, rfl⟩, on_ HW.out.1 hb1⟩
 · rw [hnn] at HC53 hdef
   by_cases h1 : 1 ≤ l.length ∧ l.length ≤ 8
   · have hd1 : ((l.length : Int) == 0) = false := beq_eq_false_iff_ne.2 (by omega)
     have hd2 : decide (8 < (l.length : Int)) = false := decide_eq_false (by omega)
     replace hdef := Aside0.mk (hdef.out.trans (by rw [decide_eq_true h1, Bool.true_and, Bool.true_and]))
     have hl8 : l.length ≤ 8 := h1.2
     obtain ⟨ad, rfl, _⟩ := HA.out.1.one (stepAt_eq (l := l) (i := 0) (by omega))
     have HCK := Aside0.mk (Ck.mk HW.out.1 ⟨HW.out.2, HA.out.1.below HW.out.1⟩ (tabs_on HA.out.2.2 HW.out.1))
     clear h1 HW
     go_wp2_with (first | (go_at_call 32; refine (HC53.out _).mono ?_; rintro e w1 ⟨rfl, hb1⟩; have HK1 := Aside0.mk (HCK.out.on hb1); have hq1 := HK1.out.cells.2; clear hb1))
     clear hq1 HCK HC53
     go_loopw [35] (fun v35 wr => ∃ i : Nat, i ≤ l.length ∧ v35 = .int .i64 (i : Int) ∧ (∀ j, j < i → aloneOk l j (stepAt l j) = true) ∧ Ck w wr nm l ad c) (fun v35 _ => l.length - (intOf v35).toNat)
     case atStart => exact ⟨0, Nat.zero_le _, rfl, fun j hj => absurd hj (Nat.not_lt_zero _), HK1.out⟩
     case round =>
      obtain ⟨i, hi, rfl, hal, hck⟩ := hrel
      have HAL := Aside0.mk (And.intro hal hck)
      have hqr := hck.cells
      obtain ⟨hq0, hq1⟩ := hqr
      clear hal hck
      by_cases hlt : i < l.length
      · have hd3 : decide ((i : Int) < (l.length : Int)) = true := decide_eq_true (by omega)
        have hcall := Aside0.mk (alone_calls nm l (some ad) c i (stepAt l i) wr (stepAt_eq hlt) HAL.out.2.box.steps (HA.out.2.1 _ (List.mem_of_getElem? (stepAt_eq hlt))) hl8 hc HAL.out.2.tabs)
        have HR := Aside0.mk (aloneE_ok l i (stepAt l i))
        generalize aloneE l i (stepAt l i) = r at *
        cases hok : (r == 0)
        · have hd4 : (r != 0) = true := by rw [bne, hok]; rfl
          have HF : Aside0 (rr = false) := ⟨by rw [hdef.out, all_range_false hlt (by rw [← HR.out, hok])]; rfl⟩
          go_wp2_with (first | (go_at_call 70; refine hcall.out.mono ?_; rintro e w2 ⟨rfl, hb2⟩))
          go_ret2
          rw [HF.out]
          exact ⟨⟨_, _, rfl, hok⟩, on_ HAL.out.2.below hb2⟩
        · have hd4 : (r != 0) = false := by rw [bne, hok]; rfl
          have HOK : Aside0 (aloneOk l i (stepAt l i) = true) := ⟨by rw [← HR.out, hok]⟩
          go_wp2_with (first | (go_at_call 70; refine hcall.out.mono ?_; rintro e w2 ⟨rfl, hb2⟩))
          go_roundw
          case rel => exact ⟨i + 1, hlt, by go_num, fun j hj => by rcases Nat.lt_succ_iff_lt_or_eq.1 hj with h | h; exact HAL.out.1 j h; exact h ▸ HOK.out, HAL.out.2.on hb2⟩
          case measure => simp [intOf]; omega
      · have hi' : i = l.length := by omega
        subst hi'
        have hd3 : decide ((l.length : Int) < (l.length : Int)) = false := decide_eq_false (by omega)
        replace hdef := Aside0.mk (hdef.out.trans (by rw [all_range HAL.out.1, Bool.true_and]))
        obtain ⟨w2, ew2, hbm, hrp, hH⟩ := made wr
        have hmm := @run_makeMap Tryz.prog
        have HM := Aside0.mk (And.intro hbm (And.intro hrp (And.intro hH (HAL.out.2.on hbm))))
        have hsz : w.heap.size < wr.heap.size := (Array.getElem?_eq_some_iff.1 HAL.out.2.box.row).1
        have hq1m := HM.out.2.2.2.cells.2
        have hq1a : ((wr.alloc (.cells #[.int .i64 0] 3)).alloc (.map #[] 0)).cell? ⟨w.heap.size, 1, none⟩ = some (.slice (some ad) l.length c) := cell_on (on_ (below_one wr _) (below_one _ _)) hq1
        clear hbm hrp hH
        rw [ew2] at hq1m
        generalize hgp : wr.heap.size = gp at *
        go_wp2
        rw [← ew2]
        clear hq1m hq1a ew2 hmm
        go_loopw [50] (fun v50 wr2 => ∃ (i n : Nat) (D : DataW Value), i ≤ l.length ∧ v50 = .int .i64 (i : Int) ∧ n ≤ 2 * i ∧ HeldAt wr2 (gp + 1 + 1) (gp + 1) n D (countK (heldKeys (l.take i))) ∧ wr2.heap[gp]? = some (.cells #[.int .i64 0] 3 (0, 0)) ∧ (heldKeys (l.take i)).length ≤ 2 * i ∧ Ck w wr2 nm l ad c) (fun v50 _ => l.length - (intOf v50).toNat)
        case atStart => exact ⟨0, 0, _, Nat.zero_le _, rfl, Nat.le_refl _, HM.out.2.2.1, HM.out.2.1, Nat.le_refl _, HM.out.2.2.2⟩
        case round =>
         obtain ⟨i, n, D, hi, rfl, hn2, hH, hrp, hkl, hck⟩ := hrel
         have HP := Aside0.mk (And.intro hn2 (And.intro hH (And.intro hrp (And.intro hkl hck))))
         clear hn2 hH hrp hkl hck
         by_cases hlt : i < l.length
         · have hd4 : decide ((i : Int) < (l.length : Int)) = true := decide_eq_true (by omega)
           obtain ⟨_, e9, A1, c1, A2, c2, h9⟩ := HA.out.1.one (stepAt_eq hlt)
           cases e9
           obtain ⟨hs0, hs1, hs2, hs3, hs4, _, _, _, _⟩ := h9.below HP.out.2.2.2.2.below
           have HK := Aside0.mk h9.keys
           have hbs := below_one wr (.cells #[.string (stepAt l i).name, .int .i64 (stepAt l i).kind, .int .i64 (stepAt l i).part, .slice A1 (stepAt l i).keys.length c1, .slice A2 (stepAt l i).needs.length c2] 70)
           have hrs := alloc1 wr (.cells #[.string (stepAt l i).name, .int .i64 (stepAt l i).kind, .int .i64 (stepAt l i).part, .slice A1 (stepAt l i).keys.length c1, .slice A2 (stepAt l i).needs.length c2] 70)
           have HS := Aside0.mk (And.intro hbs hrs)
           have hgs : gp + 2 < wr.heap.size := (Array.getElem?_eq_some_iff.1 HP.out.2.1.box).1
           clear h9 hbs hrs
           generalize hg9 : wr.heap.size = g9 at *
           go_wp2
           generalize World.alloc wr _ = w3 at *
           have hq93 : w3.cell? ⟨g9, 3, none⟩ = some (.slice A1 (stepAt l i).keys.length c1) := row_cell HS.out.2 rfl
           have hkl2 : (stepAt l i).keys.length ≤ 2 := keys_two (HAL.out.1 i hlt)
           have HSB := Aside0.mk (HA.out.2.1 _ (List.mem_of_getElem? (stepAt_eq hlt))).2.2.2.1.1
           go_loopw [57] (fun v57 wr => ∃ (j n : Nat) (D : DataW Value), j ≤ (stepAt l i).keys.length ∧ v57 = .int .i64 (j : Int) ∧ n ≤ 2 * i + j ∧ HeldAt wr (gp + 1 + 1) (gp + 1) n D (countK (heldKeys (l.take i) ++ (if (stepAt l i).kind = 3 then [] else (stepAt l i).keys.take j))) ∧ wr.heap[gp]? = some (.cells #[.int .i64 0] 3 (0, 0)) ∧ Ck w wr nm l ad c ∧ wr.heap[g9]? = some (.cells #[.string (stepAt l i).name, .int .i64 (stepAt l i).kind, .int .i64 (stepAt l i).part, .slice A1 (stepAt l i).keys.length c1, .slice A2 (stepAt l i).needs.length c2] 70 (0, 0))) (fun v57 _ => (stepAt l i).keys.length - (intOf v57).toNat)
           case atStart => exact ⟨0, n, D, Nat.zero_le _, rfl, HP.out.1, by simpa using HP.out.2.1.on (hg9 ▸ HS.out.1), row_on (hg9 ▸ HS.out.1) HP.out.2.2.1, HP.out.2.2.2.2.on (hg9 ▸ HS.out.1), HS.out.2⟩
           case round =>
            obtain ⟨j, n3, D3, hj, rfl, hn3, hH3, hrp3, hck3, hr9⟩ := hrel
            have H3 := Aside0.mk (And.intro hn3 (And.intro hH3 (And.intro hrp3 (And.intro hck3 hr9))))
            clear hn3 hH3 hrp3 hck3 hr9
            have hq91 : wr.cell? ⟨g9, 1, none⟩ = some (.int .i64 (stepAt l i).kind) := row_cell H3.out.2.2.2.2 rfl
            by_cases hlj : j < (stepAt l i).keys.length
            · have hd5 : decide ((j : Int) < ((stepAt l i).keys.length : Int)) = true := decide_eq_true (by omega)
              obtain ⟨ak, rfl, hkey⟩ := str_at (Kd.C_below HK.out H3.out.2.2.2.1.below) hlj
              have hksz : ((stepAt l i).keys[j]).size ≤ maxLen := Nat.le_trans (HSB.out _ (List.getElem_mem hlj)) (by unfold maxLen; omega)
              by_cases hkd : (stepAt l i).kind = 3
              · have hd6 : ((stepAt l i).kind != 3) = false := bne_eq_false_iff_eq.2 hkd
                have HKD := Aside0.mk hkd
                clear hkd
                go_wp2
                go_roundw
                case rel => exact ⟨j + 1, n3, D3, hlj, by go_num, by have := H3.out.1; omega, by have := H3.out.2.1; rw [if_pos HKD.out] at this ⊢; exact this, H3.out.2.2.1, H3.out.2.2.2.1, H3.out.2.2.2.2⟩
                case measure => simp [intOf]; omega
              · have hd6 : ((stepAt l i).kind != 3) = true := bne_iff_ne.2 hkd
                have hH := H3.out.2.1
                rw [if_neg hkd] at hH
                have hmb : wr.cell? ⟨gp + 1 + 1, 0, none⟩ = some (.map (some (gp + 1))) := row_cell hH.box rfl
                have hlook := mlook (key := .string (stepAt l i).keys[j]) hH.own lawS Tryz.underlying102 (zeroI _) (keyS hksz)
                rw [hH.told _ hksz] at hlook
                have hcb := countK_le (heldKeys (l.take i) ++ (stepAt l i).keys.take j) (stepAt l i).keys[j]
                have hcl : (heldKeys (l.take i) ++ (stepAt l i).keys.take j).length ≤ 100 := by
                 rw [List.length_append, List.length_take]
                 have := HP.out.2.2.2.1
                 omega
                obtain ⟨w4, hput, hown, hgrow⟩ := mput hH.own lawS Tryz.underlying102 (by have := H3.out.1; unfold maxLen; omega) (v := .int .i64 (countK (heldKeys (l.take i) ++ (stepAt l i).keys.take j) (stepAt l i).keys[j] + 1)) (keyS hksz)
                have hnew := hH.put hksz (by omega) hown hgrow
                rw [List.append_assoc, ← List.take_succ_eq_append_getElem hlj] at hnew
                have hchg := Chg.of_grown (X := (· = gp + 1)) hgrow (fun _ => rfl)
                have hck4 := Ck.chg HA.out.1 HA.out.2.2 H3.out.2.2.2.1 hchg (fun k hk => by subst hk; omega)
                have HN := Aside0.mk (And.intro hnew (And.intro hchg (And.intro hck4 (if_neg hkd : (if (stepAt l i).kind = 3 then [] else (stepAt l i).keys.take (j + 1)) = (stepAt l i).keys.take (j + 1)))))
                clear hH hnew hchg hck4 hown hgrow hkd
                generalize countK (heldKeys (l.take i) ++ (stepAt l i).keys.take j) (stepAt l i).keys[j] = cn at *
                go_wp2
                go_roundw
                case rel => exact ⟨j + 1, n3 + 1, _, hlj, by go_num, by have := H3.out.1; omega, by rw [HN.out.2.2.2]; exact HN.out.1, HN.out.2.1.row H3.out.2.2.1 (by omega), HN.out.2.2.1, HN.out.2.1.row H3.out.2.2.2.2 (by omega)⟩
                case measure => simp [intOf]; omega
            · have hj' : j = (stepAt l i).keys.length := by omega
              subst hj'
              have hd5 : decide (((stepAt l i).keys.length : Int) < ((stepAt l i).keys.length : Int)) = false := decide_eq_false (by omega)
              go_wp2
              go_roundw
              case rel => exact ⟨i + 1, n3, D3, hlt, by go_num, by have := H3.out.1; omega, by have := H3.out.2.1; rw [List.take_length] at this; rw [heldKeys_snoc hlt]; exact this, H3.out.2.2.1, by rw [heldKeys_snoc hlt, List.length_append]; have := HP.out.2.2.2.1; split <;> simp <;> omega, H3.out.2.2.2.1⟩
              case measure => simp [intOf]; omega
         · have hi' : i = l.length := by omega
           subst hi'
           have hd4 : decide ((l.length : Int) < (l.length : Int)) = false := decide_eq_false (by omega)
           have hHF : Aside0 (HeldAt wr (gp + 1 + 1) (gp + 1) n D (heldF l)) := ⟨by have := HP.out.2.1; rw [List.take_length] at this; exact this⟩
           have hdq := HP.out.2.2.2.2.cells
           obtain ⟨hdq0, hdq1⟩ := hdq
           have HIN : Aside0 ((∀ k, k < l.length → Within l (stepAt l k) ∧ (stepAt l k).needs.length ≤ 8) ∧ (∀ k, k < l.length → (stepAt l k).keys.length ≤ 2 ∧ ∀ x ∈ (stepAt l k).keys, x.size ≤ maxLen)) := ⟨fun k hk => needs_in hl8 (HAL.out.1 k hk), fun k hk => ⟨keys_two (HAL.out.1 k hk), fun x hx => Nat.le_trans ((HA.out.2.1 _ (List.mem_of_getElem? (stepAt_eq hk))).2.2.2.1.1 x hx) (by unfold maxLen; omega)⟩⟩
           have HZ0 := Aside0.mk (Zed.mk HP.out.2.2.2.2 hHF.out)
           have HQ1 := Aside0.mk (q1_calls HA.out.1 HA.out.2.2 hl8 hsz HZ0.out HP.out.2.2.1)
           have HQ2 := Aside0.mk (fun W (h : Zed w W nm l ad c gp n D) => q2_calls hl8 HIN.out.1 h)
           have HQ4 := Aside0.mk (fun W (h : Zed w W nm l ad c gp n D) => q4_calls hl8 HIN.out.2 h)
           have HD := Aside0.mk (And.intro (firstF_any (fun i => decide (1 < pivots l (i + 1))) l.length 0) (And.intro (firstF_any (ordersBad l) l.length 0) (And.intro (firstF_any (ringAt l) l.length 0) (firstF_any (lacksHeld l (heldF l)) l.length 0))))
           have HRR : Aside0 (rr = (!(List.range' 0 l.length).any (fun i => decide (1 < pivots l (i + 1))) && (!(List.range' 0 l.length).any (ordersBad l) && (!(List.range' 0 l.length).any (ringAt l) && !(List.range' 0 l.length).any (lacksHeld l (heldF l)))))) := ⟨hdef.out⟩
           have HQ3 := Aside0.mk (fun W g (h : Zed w W nm l ad c gp n D) hg => q3_calls g hl8 HIN.out.1 h hg)
           obtain ⟨hd5, hd6, hd7, hd8⟩ := HD.out
           clear HD hdef HP HM hHF HAL HK1
           generalize firstF (fun i => decide (1 < pivots l (i + 1))) 0 l.length = f1 at *
           generalize firstF (ordersBad l) 0 l.length = f2 at *
           generalize firstF (ringAt l) 0 l.length = f3 at *
           generalize firstF (lacksHeld l (heldF l)) 0 l.length = f4 at *
           generalize (List.range' 0 l.length).any (fun i => decide (1 < pivots l (i + 1))) = b1 at *
           generalize (List.range' 0 l.length).any (ordersBad l) = b2 at *
           generalize (List.range' 0 l.length).any (ringAt l) = b3 at *
           generalize (List.range' 0 l.length).any (lacksHeld l (heldF l)) = b4 at *
           rcases four_ways b1 b2 b3 b4 with rfl | ⟨rfl, rfl⟩ | ⟨rfl, rfl, rfl⟩ | ⟨rfl, rfl, rfl, rfl⟩ | ⟨rfl, rfl, rfl, rfl⟩
           · go_wp2_with (first | (go_at_call 71; (with_reducible show Calls _ _ #[.agg #[.string nm, .slice (some ad) l.length c], .func (.func 72) #[] #[.pointer (some ⟨w.heap.size, 0, none⟩), .pointer (some ⟨gp, 0, none⟩)]] _ _); refine HQ1.out.mono ?_; rintro e wq1 ⟨rfl, hz⟩; have HZ1 := Aside0.mk hz; clear hz; obtain ⟨c10, c11⟩ := HZ1.out.ck.cells))
             go_ret2
             rw [HRR.out]
             exact ⟨⟨_, _, rfl, rfl⟩, HZ1.out.ck.below⟩
           · go_wp2_with (first | (go_at_call 71; (with_reducible show Calls _ _ #[.agg #[.string nm, .slice (some ad) l.length c], .func (.func 72) #[] #[.pointer (some ⟨w.heap.size, 0, none⟩), .pointer (some ⟨gp, 0, none⟩)]] _ _); refine HQ1.out.mono ?_; rintro e wq1 ⟨rfl, hz⟩; have HZ1 := Aside0.mk hz; clear hz; obtain ⟨c10, c11⟩ := HZ1.out.ck.cells) | (go_at_call 71; (with_reducible show Calls _ _ #[.agg #[.string nm, .slice (some ad) l.length c], .func (.func 73) #[] #[.pointer (some ⟨w.heap.size, 0, none⟩)]] _ _); refine (HQ2.out _ HZ1.out).mono ?_; rintro e wq2 ⟨rfl, hz⟩; have HZ2 := Aside0.mk hz; clear hz; obtain ⟨c20, c21⟩ := HZ2.out.ck.cells))
             go_ret2
             rw [HRR.out]
             exact ⟨⟨_, _, rfl, rfl⟩, HZ2.out.ck.below⟩
           · go_wp2_with (first | (go_at_call 71; (with_reducible show Calls _ _ #[.agg #[.string nm, .slice (some ad) l.length c], .func (.func 72) #[] #[.pointer (some ⟨w.heap.size, 0, none⟩), .pointer (some ⟨gp, 0, none⟩)]] _ _); refine HQ1.out.mono ?_; rintro e wq1 ⟨rfl, hz⟩; have HZ1 := Aside0.mk hz; clear hz; obtain ⟨c10, c11⟩ := HZ1.out.ck.cells) | (go_at_call 71; (with_reducible show Calls _ _ #[.agg #[.string nm, .slice (some ad) l.length c], .func (.func 73) #[] #[.pointer (some ⟨w.heap.size, 0, none⟩)]] _ _); refine (HQ2.out _ HZ1.out).mono ?_; rintro e wq2 ⟨rfl, hz⟩; have HZ2 := Aside0.mk hz; clear hz; obtain ⟨c20, c21⟩ := HZ2.out.ck.cells))
             refine start_ (n := 5) (S := fun w' => w'.cell? ⟨w.heap.size, 0, none⟩ = some (.string nm) ∧ w'.cell? ⟨w.heap.size, 1, none⟩ = some (.slice (some ad) l.length c) ∧ Zed w w' nm l ad c gp n D) (ds := []) #[false,false,false,false,false] (by kernel_rfl) rfl rfl ⟨(by go_keep), (by go_keep), (HZ2.out.on (below_drew (Below.refl _ _)))⟩ (fun hHeld => ?_)
             refine zT 0 82 5 1 hHeld ?_
             refine zT 1 83 5 3 hHeld ?_
             refine one_ (i := 2) (N := some 84) (zG 5 7) rfl rfl (by kernel_rfl) (by decide) (fun K hK => ?_)
             refine goes_ Tryz.func76 (by kernel_rfl) rfl #[.agg #[.string nm, .slice (some ad) l.length c]] (by rfl) rfl rfl (by simp only [List.map_toArray, List.map_cons, List.map_nil]; rfl) ?_
             with_reducible refine (rings_calls _ _ _).mono ?_
             rintro e w5 ⟨rfl, hb5, hr5⟩
             refine ⟨_, rfl, ?_⟩
             refine hK.out _ _ ⟨(cell_on hb5 hHeld.1), (cell_on hb5 hHeld.2.1), (hHeld.2.2.on hb5)⟩ (fun hHeld => ?_)
             clear hK K
             refine norm_ (a' := ?_) ?_ ?_
             rotate_left
             · show Act.put _ (some 84) _ = _
               simp only [Act.put, zA, zB, zC, i64_w, i32_w]
               rfl
             refine one_ (i := 3) (N := some 85) (zG 5 15) rfl rfl (by kernel_rfl) (by decide) (fun K hK => ?_)
             refine goes_ Tryz.func71 (by kernel_rfl) rfl #[.agg #[.string nm, .slice (some ad) l.length c], .func (.func 143) #[] #[.pointer (some ⟨_, 0, none⟩)]] (by rfl) rfl rfl (by simp only [List.map_toArray, List.map_cons, List.map_nil]; rfl) ?_
             with_reducible refine (HQ3.out _ _ hHeld.2.2 hr5).mono ?_
             rintro e w6 ⟨rfl, hz6⟩
             refine ⟨_, rfl, ?_⟩
             refine hK.out _ _ ⟨hz6.ck.cells.1, hz6.ck.cells.2, hz6⟩ (fun hHeld => ?_)
             clear hK K
             refine norm_ (a' := ?_) ?_ ?_
             rotate_left
             · show Act.put _ (some 85) _ = _
               simp only [Act.put, zA, zB, zC, i64_w, i32_w]
               rfl
             refine zV 4 14 5 31 ?_
             refine done_ (by kernel_rfl) ?_
             have HZ3 := Aside0.mk hz6
             obtain ⟨c30, c31⟩ := HZ3.out.ck.cells
             clear hz6
             go_wp2
             go_ret2
             rw [HRR.out]
             exact ⟨⟨_, _, rfl, rfl⟩, HZ3.out.ck.below⟩
           · go_wp2_with (first | (go_at_call 71; (with_reducible show Calls _ _ #[.agg #[.string nm, .slice (some ad) l.length c], .func (.func 72) #[] #[.pointer (some ⟨w.heap.size, 0, none⟩), .pointer (some ⟨gp, 0, none⟩)]] _ _); refine HQ1.out.mono ?_; rintro e wq1 ⟨rfl, hz⟩; have HZ1 := Aside0.mk hz; clear hz; obtain ⟨c10, c11⟩ := HZ1.out.ck.cells) | (go_at_call 71; (with_reducible show Calls _ _ #[.agg #[.string nm, .slice (some ad) l.length c], .func (.func 73) #[] #[.pointer (some ⟨w.heap.size, 0, none⟩)]] _ _); refine (HQ2.out _ HZ1.out).mono ?_; rintro e wq2 ⟨rfl, hz⟩; have HZ2 := Aside0.mk hz; clear hz; obtain ⟨c20, c21⟩ := HZ2.out.ck.cells))
             refine start_ (n := 5) (S := fun w' => w'.cell? ⟨w.heap.size, 0, none⟩ = some (.string nm) ∧ w'.cell? ⟨w.heap.size, 1, none⟩ = some (.slice (some ad) l.length c) ∧ Zed w w' nm l ad c gp n D) (ds := []) #[false,false,false,false,false] (by kernel_rfl) rfl rfl ⟨(by go_keep), (by go_keep), (HZ2.out.on (below_drew (Below.refl _ _)))⟩ (fun hHeld => ?_)
             refine zT 0 82 5 1 hHeld ?_
             refine zT 1 83 5 3 hHeld ?_
             refine one_ (i := 2) (N := some 84) (zG 5 7) rfl rfl (by kernel_rfl) (by decide) (fun K hK => ?_)
             refine goes_ Tryz.func76 (by kernel_rfl) rfl #[.agg #[.string nm, .slice (some ad) l.length c]] (by rfl) rfl rfl (by simp only [List.map_toArray, List.map_cons, List.map_nil]; rfl) ?_
             with_reducible refine (rings_calls _ _ _).mono ?_
             rintro e w5 ⟨rfl, hb5, hr5⟩
             refine ⟨_, rfl, ?_⟩
             refine hK.out _ _ ⟨(cell_on hb5 hHeld.1), (cell_on hb5 hHeld.2.1), (hHeld.2.2.on hb5)⟩ (fun hHeld => ?_)
             clear hK K
             refine norm_ (a' := ?_) ?_ ?_
             rotate_left
             · show Act.put _ (some 84) _ = _
               simp only [Act.put, zA, zB, zC, i64_w, i32_w]
               rfl
             refine one_ (i := 3) (N := some 85) (zG 5 15) rfl rfl (by kernel_rfl) (by decide) (fun K hK => ?_)
             refine goes_ Tryz.func71 (by kernel_rfl) rfl #[.agg #[.string nm, .slice (some ad) l.length c], .func (.func 143) #[] #[.pointer (some ⟨_, 0, none⟩)]] (by rfl) rfl rfl (by simp only [List.map_toArray, List.map_cons, List.map_nil]; rfl) ?_
             with_reducible refine (HQ3.out _ _ hHeld.2.2 hr5).mono ?_
             rintro e w6 ⟨rfl, hz6⟩
             refine ⟨_, rfl, ?_⟩
             refine hK.out _ _ ⟨hz6.ck.cells.1, hz6.ck.cells.2, hz6⟩ (fun hHeld => ?_)
             clear hK K
             refine norm_ (a' := ?_) ?_ ?_
             rotate_left
             · show Act.put _ (some 85) _ = _
               simp only [Act.put, zA, zB, zC, i64_w, i32_w]
               rfl
             refine zV 4 14 5 31 ?_
             refine done_ (by kernel_rfl) ?_
             have HZ3 := Aside0.mk hz6
             obtain ⟨c30, c31⟩ := HZ3.out.ck.cells
             clear hz6
             go_wp2_with (first | (go_at_call 71; (with_reducible show Calls _ _ #[.agg #[.string nm, .slice (some ad) l.length c], .func (.func 77) #[] #[.pointer (some ⟨w.heap.size, 0, none⟩), .pointer (some ⟨gp + 1 + 1, 0, none⟩)]] _ _); refine (HQ4.out _ HZ3.out).mono ?_; rintro e wq4 ⟨rfl, hz⟩; have HZ4 := Aside0.mk hz; clear hz; obtain ⟨c40, c41⟩ := HZ4.out.ck.cells))
             go_ret2
             rw [HRR.out]
             exact ⟨⟨_, _, rfl, rfl⟩, HZ4.out.ck.below⟩
           · go_wp2_with (first | (go_at_call 71; (with_reducible show Calls _ _ #[.agg #[.string nm, .slice (some ad) l.length c], .func (.func 72) #[] #[.pointer (some ⟨w.heap.size, 0, none⟩), .pointer (some ⟨gp, 0, none⟩)]] _ _); refine HQ1.out.mono ?_; rintro e wq1 ⟨rfl, hz⟩; have HZ1 := Aside0.mk hz; clear hz; obtain ⟨c10, c11⟩ := HZ1.out.ck.cells) | (go_at_call 71; (with_reducible show Calls _ _ #[.agg #[.string nm, .slice (some ad) l.length c], .func (.func 73) #[] #[.pointer (some ⟨w.heap.size, 0, none⟩)]] _ _); refine (HQ2.out _ HZ1.out).mono ?_; rintro e wq2 ⟨rfl, hz⟩; have HZ2 := Aside0.mk hz; clear hz; obtain ⟨c20, c21⟩ := HZ2.out.ck.cells))
             refine start_ (n := 5) (S := fun w' => w'.cell? ⟨w.heap.size, 0, none⟩ = some (.string nm) ∧ w'.cell? ⟨w.heap.size, 1, none⟩ = some (.slice (some ad) l.length c) ∧ Zed w w' nm l ad c gp n D) (ds := []) #[false,false,false,false,false] (by kernel_rfl) rfl rfl ⟨(by go_keep), (by go_keep), (HZ2.out.on (below_drew (Below.refl _ _)))⟩ (fun hHeld => ?_)
             refine zT 0 82 5 1 hHeld ?_
             refine zT 1 83 5 3 hHeld ?_
             refine one_ (i := 2) (N := some 84) (zG 5 7) rfl rfl (by kernel_rfl) (by decide) (fun K hK => ?_)
             refine goes_ Tryz.func76 (by kernel_rfl) rfl #[.agg #[.string nm, .slice (some ad) l.length c]] (by rfl) rfl rfl (by simp only [List.map_toArray, List.map_cons, List.map_nil]; rfl) ?_
             with_reducible refine (rings_calls _ _ _).mono ?_
             rintro e w5 ⟨rfl, hb5, hr5⟩
             refine ⟨_, rfl, ?_⟩
             refine hK.out _ _ ⟨(cell_on hb5 hHeld.1), (cell_on hb5 hHeld.2.1), (hHeld.2.2.on hb5)⟩ (fun hHeld => ?_)
             clear hK K
             refine norm_ (a' := ?_) ?_ ?_
             rotate_left
             · show Act.put _ (some 84) _ = _
               simp only [Act.put, zA, zB, zC, i64_w, i32_w]
               rfl
             refine one_ (i := 3) (N := some 85) (zG 5 15) rfl rfl (by kernel_rfl) (by decide) (fun K hK => ?_)
             refine goes_ Tryz.func71 (by kernel_rfl) rfl #[.agg #[.string nm, .slice (some ad) l.length c], .func (.func 143) #[] #[.pointer (some ⟨_, 0, none⟩)]] (by rfl) rfl rfl (by simp only [List.map_toArray, List.map_cons, List.map_nil]; rfl) ?_
             with_reducible refine (HQ3.out _ _ hHeld.2.2 hr5).mono ?_
             rintro e w6 ⟨rfl, hz6⟩
             refine ⟨_, rfl, ?_⟩
             refine hK.out _ _ ⟨hz6.ck.cells.1, hz6.ck.cells.2, hz6⟩ (fun hHeld => ?_)
             clear hK K
             refine norm_ (a' := ?_) ?_ ?_
             rotate_left
             · show Act.put _ (some 85) _ = _
               simp only [Act.put, zA, zB, zC, i64_w, i32_w]
               rfl
             refine zV 4 14 5 31 ?_
             refine done_ (by kernel_rfl) ?_
             have HZ3 := Aside0.mk hz6
             obtain ⟨c30, c31⟩ := HZ3.out.ck.cells
             clear hz6
             go_wp2_with (first | (go_at_call 71; (with_reducible show Calls _ _ #[.agg #[.string nm, .slice (some ad) l.length c], .func (.func 77) #[] #[.pointer (some ⟨w.heap.size, 0, none⟩), .pointer (some ⟨gp + 1 + 1, 0, none⟩)]] _ _); refine (HQ4.out _ HZ3.out).mono ?_; rintro e wq4 ⟨rfl, hz⟩; have HZ4 := Aside0.mk hz; clear hz; obtain ⟨c40, c41⟩ := HZ4.out.ck.cells))
             go_ret2
             rw [HRR.out]
             exact ⟨⟨_, _, rfl, rfl⟩, HZ4.out.ck.below⟩
   · have HF : Aside0 (rr = false) := ⟨by rw [hdef.out, decide_eq_false h1]; rfl⟩
     have hl8 : (l.length : Int) = 0 ∨ (8 < (l.length : Int) ∧ (l.length : Int) ≠ 0) := by omega
     clear h1
     rcases hl8 with h0 | ⟨h8, h9⟩
     · have hd1 : ((l.length : Int) == 0) = true := beq_iff_eq.2 h0
       clear h0
       go_wp2_with (first | (go_at_call 32; refine (HC53.out _).mono ?_; rintro e w1 ⟨rfl, hb1⟩; have hq1 : w1.cell? ⟨w.heap.size, 1, none⟩ = some (.slice A l.length c) := row_cell (row_on hb1 HW.out.2) rfl))
       go_ret2
       rw [HF.out]
       exact ⟨⟨_, _, rfl, rfl⟩, on_ HW.out.1 hb1⟩
     · have hd1 : ((l.length : Int) == 0) = false := beq_eq_false_iff_ne.2 h9
       have hd2 : decide (8 < (l.length : Int)) = true := decide_eq_true h8
       clear h8 h9
       go_wp2_with (first | (go_at_call 32; refine (HC53.out _).mono ?_; rintro e w1 ⟨rfl, hb1⟩; have hq1 : w1.cell? ⟨w.heap.size, 1, none⟩ = some (.slice A l.length c) := row_cell (row_on hb1 HW.out.2) rfl))
       go_ret2
       rw [HF.out]
       exact ⟨⟨_, _, rfl, rfl⟩, on_ HW.out.1 hb1⟩
end Go.Proofs.YtgjddnaidjbhlaaGreatDoor.Pl

/- Who is ahead of whom through others: the rounds of made, as plain law. -/
namespace Go.Proofs.YtgjddnaidjbhlaaGreatDoor.Pl

/-- One round: through one more. -/
def war (b : Nat) (M : Nat → Nat → Bool) : Nat → Nat → Bool := fun x y => M x y || (M x b && M b y)
def wars (R : Nat → Nat → Bool) : Nat → Nat → Nat → Bool
 | 0 => R
 | b + 1 => war b (wars R b)
/-- Through none or some. -/
inductive Thru (R : Nat → Nat → Bool) : Nat → Nat → Prop
 | one {x y : Nat} : R x y = true → Thru R x y
 | more {x y z : Nat} : R x y = true → Thru R y z → Thru R x z
theorem Thru.trans {R : Nat → Nat → Bool} {x y z : Nat} (h : Thru R x y) (k : Thru R y z) : Thru R x z := by
 induction h with
 | one h => exact .more h k
 | more h _ ih => exact .more h (ih k)
theorem war_iff {b : Nat} {M : Nat → Nat → Bool} {x y : Nat} : war b M x y = true ↔ M x y = true ∨ (M x b = true ∧ M b y = true) := by
 unfold war
 rw [Bool.or_eq_true, Bool.and_eq_true]
/-- What a round reads does not turn in it. -/
theorem war_col (b : Nat) (M : Nat → Nat → Bool) (x : Nat) : war b M x b = M x b := by
 unfold war
 cases M x b <;> simp
theorem war_row (b : Nat) (M : Nat → Nat → Bool) (y : Nat) : war b M b y = M b y := by
 unfold war
 cases M b y <;> cases M b b <;> rfl
theorem wars_mono {R : Nat → Nat → Bool} {x y : Nat} (h : R x y = true) : ∀ b, wars R b x y = true
 | 0 => h
 | b + 1 => war_iff.2 (.inl (wars_mono h b))
theorem wars_sound {R : Nat → Nat → Bool} : ∀ (b : Nat) {x y : Nat}, wars R b x y = true → Thru R x y
 | 0, _, _, h => .one h
 | b + 1, _, _, h => by
  rcases war_iff.1 h with h | ⟨h1, h2⟩
  · exact wars_sound b h
  · exact (wars_sound b h1).trans (wars_sound b h2)
theorem wars_closed {R : Nat → Nat → Bool} : ∀ (b : Nat) {x k y : Nat}, k < b → wars R b x k = true → wars R b k y = true → wars R b x y = true
 | 0, _, _, _, hk, _, _ => absurd hk (Nat.not_lt_zero _)
 | b + 1, x, k, y, hk, h1, h2 => by
  rcases Nat.lt_succ_iff_lt_or_eq.1 hk with hk | rfl
  · have c := fun {x y : Nat} => wars_closed (R := R) b (x := x) (k := k) (y := y) hk
    rcases war_iff.1 h1 with h1 | ⟨a1, a2⟩ <;> rcases war_iff.1 h2 with h2 | ⟨d1, d2⟩
    · exact war_iff.2 (.inl (c h1 h2))
    · exact war_iff.2 (.inr ⟨c h1 d1, d2⟩)
    · exact war_iff.2 (.inr ⟨a1, c a2 h2⟩)
    · exact war_iff.2 (.inr ⟨a1, d2⟩)
  · refine war_iff.2 (.inr ⟨?_, ?_⟩)
    · have h : war k (wars R k) x k = true := h1
      rw [war_col] at h
      exact h
    · have h : war k (wars R k) k y = true := h2
      rw [war_row] at h
      exact h
theorem wars_all {R : Nat → Nat → Bool} {n : Nat} (hR : ∀ x y, R x y = true → x < n ∧ y < n) {x y : Nat} : wars R n x y = true ↔ Thru R x y := by
 refine ⟨wars_sound n, fun h => ?_⟩
 induction h with
 | one h => exact wars_mono h n
 | more h _ ih => exact wars_closed n (hR _ _ h).2 (wars_mono h n) ih
end Go.Proofs.YtgjddnaidjbhlaaGreatDoor.Pl

/- A definition that may be has no rings, in the order of its kinds neither. -/
namespace Go.Proofs.YtgjddnaidjbhlaaGreatDoor.Pl

/-- A step comes directly behind another one. -/
def direct (l : List Step) (b a : Nat) : Bool :=
 decide (b < l.length ∧ a < l.length) && ((stepAt l b).needs.contains (a : Int) || decide ((stepAt l a).kind < (stepAt l b).kind))
theorem direct_in {l : List Step} {b a : Nat} (h : direct l b a = true) : b < l.length ∧ a < l.length := by
 unfold direct at h
 rw [Bool.and_eq_true, decide_eq_true_iff] at h
 exact h.1
theorem direct_iff {l : List Step} {b a : Nat} : direct l b a = true ↔ (b < l.length ∧ a < l.length) ∧ ((a : Int) ∈ (stepAt l b).needs ∨ (stepAt l a).kind < (stepAt l b).kind) := by
 unfold direct
 rw [Bool.and_eq_true, decide_eq_true_iff, Bool.or_eq_true, decide_eq_true_iff, List.contains_iff_mem]
/-- Needs go down the kinds. -/
def Down (l : List Step) : Prop := ∀ b a : Nat, b < l.length → a < l.length → (a : Int) ∈ (stepAt l b).needs → (stepAt l a).kind ≤ (stepAt l b).kind
theorem thru_down {l : List Step} (hd : Down l) {x y : Nat} (h : Thru (direct l) x y) : (stepAt l y).kind < (stepAt l x).kind ∨ ((stepAt l y).kind = (stepAt l x).kind ∧ Reach l x y) := by
 induction h with
 | one h =>
  obtain ⟨⟨h1, h2⟩, h3⟩ := direct_iff.1 h
  rcases h3 with h3 | h3
  · rcases Int.lt_or_eq_of_le (hd _ _ h1 h2 h3) with e | e
    · exact .inl e
    · exact .inr ⟨e, .one h3⟩
  · exact .inl h3
 | more h _ ih =>
  obtain ⟨⟨h1, h2⟩, h3⟩ := direct_iff.1 h
  rcases h3 with h3 | h3
  · have := hd _ _ h1 h2 h3
    rcases ih with ih | ⟨ih, hr⟩
    · exact .inl (by omega)
    · rcases Int.lt_or_eq_of_le this with e | e
      · exact .inl (by omega)
      · exact .inr ⟨ih.trans e, .more h3 hr⟩
  · rcases ih with ih | ⟨ih, _⟩
    · exact .inl (by omega)
    · exact .inl (by omega)
theorem no_ring {l : List Step} (hd : Down l) (hr : allOf (ringAt l) l.length = true) {x : Nat} (hx : x < l.length) : ¬ Thru (direct l) x x := by
 intro h
 rcases thru_down hd h with h | ⟨_, h⟩
 · omega
 · have h1 : ringAt l x = true := ringAt_eq (b := true) ⟨fun _ => h, fun _ => rfl⟩
   unfold allOf at hr
   rw [Bool.not_eq_true', List.any_eq_false] at hr
   exact hr x (List.mem_range'_1.2 ⟨by omega, by omega⟩) h1
theorem down_of {l : List Step} (hk : ∀ k, k < l.length → 1 ≤ (stepAt l k).kind ∧ (stepAt l k).kind ≤ 3) (ho : allOf (ordersBad l) l.length = true) : Down l := by
 intro b a hb ha hn
 unfold allOf at ho
 rw [Bool.not_eq_true', List.any_eq_false] at ho
 have h1 := ho b (List.mem_range'_1.2 ⟨by omega, by omega⟩)
 have h2 := hk a ha
 have h3 := hk b hb
 by_cases e : (stepAt l b).kind = 3
 · omega
 · unfold ordersBad at h1
   rw [Bool.and_eq_true, not_and] at h1
   have h4 := h1 (bne_iff_ne.2 e)
   rw [List.any_eq_true] at h4
   by_cases e2 : (stepAt l a).kind = 1
   · omega
   · exact absurd ⟨(a : Int), hn, by rw [Int.toNat_natCast]; exact bne_iff_ne.2 e2⟩ h4
end Go.Proofs.YtgjddnaidjbhlaaGreatDoor.Pl

/- A graph's states: idle, done, stands: the walks, by hand. -/
namespace Go.Proofs.YtgjddnaidjbhlaaGreatDoor.Pl
open Go.RowKit Go.IntWalk Go.Proofs.YtgjddnaidjbhlaaGreatDoorW.PrintWords Go.Proofs.YtgjddnaidjbhlaaGreatDoor.PlName

/-- A step's state. -/
def stOf (st : List Int) (i : Nat) : Int := st.getD i 0
theorem state_at {w : World} {A : Option Addr} {st : List Int} (h : Kd.C (Kd.int .i64) w A st.length st) {i : Nat} (hi : i < st.length) : ∃ ad, A = some ad ∧ w.cell? (ad.add i) = some (.int .i64 (stOf st i)) := by
 obtain ⟨ad, e, hx⟩ := int_at h hi
 refine ⟨ad, e, ?_⟩
 rw [hx]
 unfold stOf
 simp [List.getElem?_eq_getElem hi]
section
variable {w : World} {gg : Nat} {va : Value} {A : Option Addr} {c : Nat} {st : List Int} {i : Nat}

set_option maxHeartbeats 4000000 in
set_option maxRecDepth 100000 in
theorem idle_calls (hr : w.heap[gg]? = some (.cells #[va, .slice A st.length c] 131 (0, 0))) (hs : Kd.C (Kd.int .i64) w A st.length st) (hi : i < st.length) :
 Calls Tryz.prog 173 #[.pointer (some ⟨gg, 0, none⟩), .int .i64 (i : Int)] w fun e w' => e = .returned (.bool (stOf st i == 0)) ∧ Below w.heap.size w w' := by
 obtain ⟨ad, rfl, hx⟩ := state_at hs hi
 have hq : w.cell? ⟨gg, 1, none⟩ = some (.slice (some ad) st.length c) := row_cell hr rfl
 clear hr hs
 go_enter Tryz.func173, Tryz.ntmps173
 go_wp2
 go_ret
 exact ⟨rfl, Below.refl _ _⟩

set_option maxHeartbeats 4000000 in
set_option maxRecDepth 100000 in
theorem done_calls (hr : w.heap[gg]? = some (.cells #[va, .slice A st.length c] 131 (0, 0))) (hs : Kd.C (Kd.int .i64) w A st.length st) (hi : i < st.length) :
 Calls Tryz.prog 174 #[.pointer (some ⟨gg, 0, none⟩), .int .i64 (i : Int)] w fun e w' => e = .returned (.bool (stOf st i == 2)) ∧ Below w.heap.size w w' := by
 obtain ⟨ad, rfl, hx⟩ := state_at hs hi
 have hq : w.cell? ⟨gg, 1, none⟩ = some (.slice (some ad) st.length c) := row_cell hr rfl
 clear hr hs
 go_enter Tryz.func174, Tryz.ntmps174
 go_wp2
 go_ret
 exact ⟨rfl, Below.refl _ _⟩

set_option maxHeartbeats 4000000 in
set_option maxRecDepth 100000 in
theorem stands_calls (hr : w.heap[gg]? = some (.cells #[va, .slice A st.length c] 131 (0, 0))) (hs : Kd.C (Kd.int .i64) w A st.length st) (hi : i < st.length) :
 Calls Tryz.prog 175 #[.pointer (some ⟨gg, 0, none⟩), .int .i64 (i : Int)] w fun e w' => e = .returned (.bool (stOf st i == 1 || stOf st i == 2)) ∧ Below w.heap.size w w' := by
 obtain ⟨ad, rfl, hx⟩ := state_at hs hi
 have hq : w.cell? ⟨gg, 1, none⟩ = some (.slice (some ad) st.length c) := row_cell hr rfl
 have HF := Aside0.mk (rfl : (stOf st i == 1 || stOf st i == 2) = (stOf st i == 1 || stOf st i == 2))
 clear hr hs
 generalize stOf st i = s at *
 generalize hb : (s == 1 || s == 2) = b at *
 replace HF := Aside0.mk hb
 clear hb
 go_enter Tryz.func175, Tryz.ntmps175
 cases h1 : (s == 1)
 · go_wp2
   go_ret
   rw [← HF.out, h1]
   exact ⟨rfl, Below.refl _ _⟩
 · go_wp2
   go_ret
   rw [← HF.out, h1]
   exact ⟨rfl, Below.refl _ _⟩
end
end Go.Proofs.YtgjddnaidjbhlaaGreatDoor.Pl

/- A graph as it lies: the table of its rows. -/
namespace Go.Proofs.YtgjddnaidjbhlaaGreatDoor.Pl
open Go.RowKit Go.IntWalk Go.Proofs.YtgjddnaidjbhlaaGreatDoorW.PrintWords Go.Proofs.YtgjddnaidjbhlaaGreatDoor.PlName

theorem contains_calls (A : Option Addr) (c : Nat) (ks : List Int) (x : Int) (w : World) (h : Kd.C (Kd.int .i64) w A ks.length ks) (hl : ks.length ≤ 9223372036854775807) :
 Calls Tryz.prog 118 #[.slice A ks.length c, .int .i64 x] w fun e w' => e = .returned (.bool (ks.contains x)) ∧ w' = w := by
 cases ks with
 | nil => exact Tryz.slices_Contains_int_empty A c x w
 | cons k ks =>
  obtain ⟨⟨b, o, p⟩, rfl, h0⟩ := int_at h (i := 0) (by simp)
  have hp : p = none := by
   have h1 := Kd.C_below h (Below.refl _ _)
   cases p with
   | none => rfl
   | some q =>
    exfalso
    simp [Addr.add, World.cell?] at h0
    split at h0
    · cases h0
    · cases h0
  subst hp
  have := Tryz.slices_Contains_int b o (k :: ks).length c (k :: ks) x w (Nat.le_refl _) hl fun j hj => by
   obtain ⟨ad, e, hx⟩ := int_at h hj
   cases e
   rw [List.getD_eq_getElem?_getD, List.getElem?_eq_getElem hj]
   simpa [Addr.add_lit] using hx
  rw [List.take_length] at this
  exact this

def rowA (f : Nat → Bool) (n : Nat) : Array Value := ((List.range n).map fun j => Value.bool (f j)).toArray
theorem rowA_at {f : Nat → Bool} {n j : Nat} (h : j < n) : (rowA f n)[j]? = some (.bool (f j)) := by
 unfold rowA
 simp [h]
def upd (f : Nat → Bool) (j : Nat) (b : Bool) : Nat → Bool := fun k => if k = j then b else f k
theorem rowA_set (f : Nat → Bool) (n j : Nat) (b : Bool) : (rowA f n).setIfInBounds j (.bool b) = rowA (upd f j b) n := by
 apply Array.ext_getElem?
 intro k
 rw [Array.getElem?_setIfInBounds]
 by_cases hk : k < n
 · rw [rowA_at hk]
   by_cases e : j = k
   · subst e
     have hs : j < (rowA f n).size := by simp [rowA, hk]
     simp [hs, rowA_at hk, upd]
   · rw [if_neg e, rowA_at hk]
     unfold upd
     rw [if_neg (fun h => e h.symm)]
 · have h1 : ∀ g : Nat → Bool, (rowA g n)[k]? = none := fun g => by simp [rowA]; omega
   rw [h1, h1]
   split
   · split
     · rename_i h2 h3
       simp [rowA] at h3
       omega
     · rfl
   · rfl
theorem rowA_congr {f g : Nat → Bool} {n : Nat} (h : ∀ j, j < n → f j = g j) : rowA f n = rowA g n := by
 apply Array.ext_getElem?
 intro k
 by_cases hk : k < n
 · rw [rowA_at hk, rowA_at hk, h k hk]
 · have h1 : ∀ g : Nat → Bool, (rowA g n)[k]? = none := fun g => by simp [rowA]; omega
   rw [h1, h1]
/-- The slices of the rows. -/
def tabV (rb : Nat → Nat) (m n : Nat) : List Value := (List.range m).map fun k => .slice (some ⟨rb k, 0, none⟩) n n
/-- A graph with m rows of n: where it lies, what its rows hold. -/
structure Gr (w : World) (lo gg : Nat) (v vs : Value) (rb : Nat → Nat) (m n : Nat) (M : Nat → Nat → Bool) : Prop where
 box : w.heap[gg]? = some (.cells #[v, vs] 131 (0, 0))
 own : w.ownsRow lo 113 1 v m (tabV rb m n)
 row : ∀ k, k < m → w.heap[rb k]? = some (.cells (rowA (M k) n) 4 (0, 0))
 inj : ∀ i j, i < m → j < m → rb i = rb j → i = j
 lo_ : lo ≤ gg ∧ ∀ k, k < m → lo ≤ rb k

theorem ownsRow_on {w w' : World} {base e size : Nat} {v : Value} {n : Nat} {xs : List Value} (h : w.ownsRow base e size v n xs) (hb : Below w.heap.size w w') : w'.ownsRow base e size v n xs := by
 refine ⟨h.1, ?_⟩
 rcases h.2 with hn | ⟨g, cap, cur, rfl, h1, h2, rest⟩
 · exact .inl hn
 · exact .inr ⟨g, cap, cur, rfl, h1, row_on hb h2, rest⟩
theorem ownsRow_chg {w w' : World} {X : Nat → Prop} {base e size : Nat} {v : Value} {n : Nat} {xs : List Value} (h : w.ownsRow base e size v n xs) (hb : Chg X w w') (hX : ∀ k, v.ownBlock = some k → ¬ X k) : w'.ownsRow base e size v n xs := by
 refine ⟨h.1, ?_⟩
 rcases h.2 with hn | ⟨g, cap, cur, rfl, h1, h2, rest⟩
 · exact .inl hn
 · exact .inr ⟨g, cap, cur, rfl, h1, hb.row h2 (hX g rfl), rest⟩
section
variable {w w' : World} {lo gg : Nat} {v vs : Value} {rb : Nat → Nat} {m n : Nat} {M : Nat → Nat → Bool}
theorem Gr.on (h : Gr w lo gg v vs rb m n M) (hb : Below w.heap.size w w') : Gr w' lo gg v vs rb m n M :=
 ⟨row_on hb h.box, ownsRow_on h.own hb, fun k hk => row_on hb (h.row k hk), h.inj, h.lo_⟩
theorem Gr.congr {M' : Nat → Nat → Bool} (h : Gr w lo gg v vs rb m n M) (he : ∀ x y, x < m → y < n → M x y = M' x y) : Gr w lo gg v vs rb m n M' :=
 ⟨h.box, h.own, fun k hk => by rw [h.row k hk, rowA_congr fun j hj => he k j hk hj], h.inj, h.lo_⟩
theorem Gr.block (h : Gr w lo gg v vs rb m n M) {k : Nat} (hk : v.ownBlock = some k) : ∃ cur, w.heap[k]? = some (.cells cur 113 (0, 0)) := by
 rcases h.own.2 with ⟨rfl, _⟩ | ⟨g, cap, cur, rfl, _, h2, _⟩
 · cases hk
 · injection hk with hk
   subst hk
   exact ⟨cur, h2⟩
theorem Gr.ahead (h : Gr w lo gg v vs rb m n M) (hm : 0 < m) : ∃ ga cap, v = .slice (some ⟨ga, 0, none⟩) m cap ∧ lo ≤ ga := by
 rcases h.own.2 with ⟨_, h2⟩ | ⟨g, cap, cur, rfl, h1, _⟩
 · omega
 · exact ⟨g, cap, rfl, h1⟩
theorem Gr.slot {ga cap : Nat} (h : Gr w lo gg (.slice (some ⟨ga, 0, none⟩) m cap) vs rb m n M) {k : Nat} (hk : k < m) : w.cell? ⟨ga, k, none⟩ = some (.slice (some ⟨rb k, 0, none⟩) n n) := by
 have := h.own.cells (g := ga) rfl k (.slice (some ⟨rb k, 0, none⟩) n n) (by unfold tabV; simp [hk])
 rw [Addr.add_lit, Nat.zero_add] at this
 exact this
theorem Gr.at_ (h : Gr w lo gg v vs rb m n M) {k j : Nat} (hk : k < m) (hj : j < n) : w.cell? ⟨rb k, j, none⟩ = some (.bool (M k j)) :=
 row_cell (h.row k hk) (rowA_at hj)
theorem Gr.free (h : Gr w lo gg v vs rb m n M) {k j : Nat} (hk : k < m) : w.frozen? ⟨rb k, j, none⟩ = false := free_of_row (h.row k hk)
theorem Gr.chg {X : Nat → Prop} (h : Gr w lo gg v vs rb m n M) (hc : Chg X w w') (h1 : ¬ X gg) (h2 : ∀ k, k < m → ¬ X (rb k)) (h3 : ∀ k, v.ownBlock = some k → ¬ X k) : Gr w' lo gg v vs rb m n M :=
 ⟨hc.row h.box h1, ownsRow_chg h.own hc h3, fun k hk => hc.row (h.row k hk) (h2 k hk), h.inj, h.lo_⟩
/-- A block of truths that is none of its rows is written. -/
theorem Gr.aside {q : Nat} {a : Array Value} (h : Gr w lo gg v vs rb m n M) (hq : w.heap[q]? = some (.cells a 4 (0, 0))) (hne : ∀ k, k < m → rb k ≠ q) (j : Nat) (u : Value) : Gr (w.setCell ⟨q, j, none⟩ u) lo gg v vs rb m n M := by
 refine h.chg (Chg.setCell w _ _) (fun e => ?_) (fun k hk e => hne k hk e) (fun k hk e => ?_)
 · have e : gg = q := e
   subst e
   have h2 := hq.symm.trans h.box
   simp at h2
 · have e : k = q := e
   subst e
   obtain ⟨cur, h1⟩ := h.block hk
   have h2 := h1.symm.trans hq
   simp at h2
theorem Gr.box_grown {w1 : World} (h : Gr w lo gg v vs rb m n M) (hgr : w.grownBy w1 v.ownBlock) : w1.heap[gg]? = some (.cells #[v, vs] 131 (0, 0)) := by
 have hb0 : some gg ≠ v.ownBlock := fun e => by
  obtain ⟨cur, h1⟩ := h.block e.symm
  have h2 := h1.symm.trans h.box
  simp at h2
 exact (hgr.block gg (Array.getElem?_eq_some_iff.1 h.box).1 hb0).trans h.box
theorem Gr.blk_lt {a : Array Value} (h : Gr w lo gg v vs rb m n M) (hr : w.heap[lo]? = some (.cells a 24 (0, 0))) : (∀ k, v.ownBlock = some k → lo < k) ∧ (∀ k, k < m → lo < rb k) ∧ lo < gg := by
 refine ⟨fun k hk => ?_, fun k hk => ?_, ?_⟩
 · have h1 := (h.own.lt k hk).1
   obtain ⟨cur, h2⟩ := h.block hk
   have : k ≠ lo := fun e => by
    subst e
    have h3 := h2.symm.trans hr
    simp at h3
   omega
 · have h1 := h.lo_.2 k hk
   have : rb k ≠ lo := fun e => by
    have h2 := h.row k hk
    rw [e] at h2
    have h3 := h2.symm.trans hr
    simp at h3
   omega
 · have h1 := h.lo_.1
   have : gg ≠ lo := fun e => by
    have h2 := h.box
    rw [e] at h2
    have h3 := h2.symm.trans hr
    simp at h3
   omega
/-- A cell of a row is written. -/
theorem Gr.set (h : Gr w lo gg v vs rb m n M) {k j : Nat} (hk : k < m) (b : Bool) :
 Gr (w.setCell ⟨rb k, j, none⟩ (.bool b)) lo gg v vs rb m n (fun x => if x = k then upd (M k) j b else M x) := by
 have hrk := h.row k hk
 refine ⟨row_setCell_ne h.box _ _ ?_, ownsRow_chg h.own (Chg.setCell w _ _) ?_, fun x hx => ?_, h.inj, h.lo_⟩
 · intro e
   have h1 := h.box
   rw [e] at h1
   have h2 := h1.symm.trans hrk
   simp at h2
 · intro q hq e
   obtain ⟨cur, h1⟩ := h.block hq
   subst e
   have h2 := h1.symm.trans hrk
   simp at h2
 · by_cases e : x = k
   · subst e
     rw [if_pos rfl, row_setCell hrk, rowA_set]
   · rw [if_neg e]
     exact row_setCell_ne (h.row x hx) _ _ (fun e' => e (h.inj x k hx hk e'))
/-- The graph's own cells are written. -/
theorem Gr.store (h : Gr w lo gg v vs rb m n M) (us : Value) : Gr (w.setCell ⟨gg, 1, none⟩ us) lo gg v us rb m n M := by
 refine ⟨?_, ownsRow_chg h.own (Chg.setCell w _ _) ?_, fun x hx => row_setCell_ne (h.row x hx) _ _ ?_, h.inj, h.lo_⟩
 · rw [row_setCell h.box]
   rfl
 · intro q hq e
   obtain ⟨cur, h1⟩ := h.block hq
   subst e
   have h2 := h1.symm.trans h.box
   simp at h2
 · intro e
   have h1 := h.row x hx
   rw [e] at h1
   have h2 := h1.symm.trans h.box
   simp at h2
/-- A row more. -/
theorem Gr.push {w1 : World} {v1 : Value} {rn : Nat} {f : Nat → Bool} (h : Gr w lo gg v vs rb m n M) (hr : w.heap[rn]? = some (.cells (rowA f n) 4 (0, 0))) (hlo : lo ≤ rn) (hne : ∀ k, k < m → rb k ≠ rn)
 (hown : w1.ownsRow lo 113 1 v1 (m + 1) (tabV rb m n ++ [.slice (some ⟨rn, 0, none⟩) n n])) (hgr : w.grownBy w1 v.ownBlock) :
 Gr (w1.setCell ⟨gg, 0, none⟩ v1) lo gg v1 vs (fun k => if k = m then rn else rb k) (m + 1) n (fun x => if x = m then f else M x) := by
 have hb0 : some gg ≠ v.ownBlock := fun e => by
  obtain ⟨cur, h1⟩ := h.block e.symm
  have h2 := h1.symm.trans h.box
  simp at h2
 have hbx : w1.heap[gg]? = some (.cells #[v, vs] 131 (0, 0)) := (hgr.block gg (Array.getElem?_eq_some_iff.1 h.box).1 hb0).trans h.box
 have hro : ∀ {q : Nat} {a : Array Value}, w.heap[q]? = some (.cells a 4 (0, 0)) → (w1.setCell ⟨gg, 0, none⟩ v1).heap[q]? = some (.cells a 4 (0, 0)) := fun {q a} hq => by
  have hb1 : some q ≠ v.ownBlock := fun e => by
   obtain ⟨cur, h1⟩ := h.block e.symm
   have h2 := h1.symm.trans hq
   simp at h2
  refine row_setCell_ne ((hgr.block q (Array.getElem?_eq_some_iff.1 hq).1 hb1).trans hq) _ _ fun e => ?_
  have e : q = gg := e
  subst e
  have h2 := hq.symm.trans h.box
  simp at h2
 refine ⟨?_, ?_, fun k hk => ?_, fun i j hi hj e => ?_, h.lo_.1, fun k hk => ?_⟩
 · rw [row_setCell hbx]
   rfl
 · have et : tabV (fun k => if k = m then rn else rb k) (m + 1) n = tabV rb m n ++ [.slice (some ⟨rn, 0, none⟩) n n] := by
    unfold tabV
    rw [List.range_succ, List.map_append]
    congr 1
    · apply List.map_congr_left
      intro k hk
      have := List.mem_range.1 hk
      show Value.slice (some ⟨if k = m then rn else rb k, 0, none⟩) n n = _
      rw [if_neg (by omega)]
    · simp
   rw [et]
   refine ownsRow_chg hown (Chg.setCell w1 _ _) fun q hq e => ?_
   have e : q = gg := e
   subst e
   rcases hown.2 with ⟨_, h2⟩ | ⟨g, cap, cur, rfl, _, h2, _⟩
   · omega
   · injection hq with hq
     have hq : g = q := hq
     subst hq
     have h3 := h2.symm.trans hbx
     simp at h3
 · by_cases e : k = m
   · subst e
     rw [if_pos rfl, if_pos rfl]
     exact hro hr
   · rw [if_neg e, if_neg e]
     exact hro (h.row k (by omega))
 · by_cases e1 : i = m
   · by_cases e2 : j = m
     · omega
     · simp only [if_pos e1, if_neg e2] at e
       exact absurd e.symm (hne j (by omega))
   · by_cases e2 : j = m
     · simp only [if_neg e1, if_pos e2] at e
       exact absurd e (hne i (by omega))
     · simp only [if_neg e1, if_neg e2] at e
       exact h.inj i j (by omega) (by omega) e
 · show lo ≤ if k = m then rn else rb k
   split
   · exact hlo
   · exact h.lo_.2 k (by omega)
end
theorem own_some {w : World} {lo e m : Nat} {v : Value} {xs : List Value} (h : w.ownsRow lo e 1 v (m + 1) xs) : ∃ ga cap, v = .slice (some ⟨ga, 0, none⟩) (m + 1) cap := by
 rcases h.2 with ⟨_, h2⟩ | ⟨g, cap, cur, rfl, h1, _⟩
 · omega
 · exact ⟨g, cap, rfl⟩
/-- A row of its own that is made. -/
theorem made_row {w' : World} {lo n q c : Nat} (h : w'.ownsRow lo 4 1 (.slice (some ⟨q, 0, none⟩) n c) n (List.replicate n (.bool false))) (hc : c = n) :
 w'.heap[q]? = some (.cells (rowA (fun _ => false) n) 4 (0, 0)) := by
 subst hc
 rcases h.2 with ⟨h1, _⟩ | ⟨g, cap, cur, h1, _, h2, _, _, h3, h4⟩
 · cases h1
 · injection h1 with e1 e2 e3
   injection e1 with e1
   injection e1 with e1
   subst e1 e3
   rw [h2]
   congr 1
   have : cur = rowA (fun _ => false) c := by
    rw [Nat.mul_one] at h3 h4
    rw [← h3, ← Array.length_toList, List.take_length] at h4
    apply Array.toList_inj.1
    rw [h4]
    unfold rowA
    simp only [List.map_const']
    simp [h3]
   rw [this]

theorem one_new (w : World) (v : Value) (t : Nat) : ∀ j u, [v][j]? = some u → (w.alloc (.cells #[v] t)).cell? ((⟨w.heap.size, 0, none⟩ : Addr).add j) = some u := by
 intro j u hj
 match j, hj with
 | 0, hj =>
  simp at hj
  subst hj
  exact row_cell (alloc1 w _) rfl
theorem below_grown {w w1 : World} {row : Option Nat} {B : Nat} (hg : w.grownBy w1 row) (hB : B ≤ w.heap.size) (hr : ∀ k, row = some k → B ≤ k) : Below B w w1 := (Below.refl B w).grown hg hB hr

/-! ### a round in its middle -/
def ph (b : Nat) (M : Nat → Nat → Bool) (x y : Nat) : Nat → Nat → Bool := fun a z => if a < x ∨ (a = x ∧ z < y) then war b M a z else M a z
theorem ph_col (b : Nat) (M : Nat → Nat → Bool) (x y a : Nat) : ph b M x y a b = M a b := by
 unfold ph
 split
 · exact war_col b M a
 · rfl
theorem ph_row (b : Nat) (M : Nat → Nat → Bool) (x y z : Nat) : ph b M x y b z = M b z := by
 unfold ph
 split
 · exact war_row b M z
 · rfl
theorem ph_zero (b : Nat) (M : Nat → Nat → Bool) (a z : Nat) : ph b M 0 0 a z = M a z := by
 unfold ph
 simp
theorem ph_done (b : Nat) (M : Nat → Nat → Bool) {n a z : Nat} (ha : a < n) : ph b M n 0 a z = war b M a z := by
 unfold ph
 simp [ha]
theorem ph_next (b : Nat) (M : Nat → Nat → Bool) {n x a z : Nat} (hz : z < n) : ph b M x n a z = ph b M (x + 1) 0 a z := by
 unfold ph
 by_cases h : a < x
 · simp [h, Nat.lt_succ_of_lt h]
 · by_cases e : a = x
   · subst e
     simp [hz]
   · have : ¬ a < x + 1 := by omega
     simp [h, e, this]
theorem ph_hit (b : Nat) (M : Nat → Nat → Bool) {x y : Nat} (h1 : M x b = true) (h2 : M b y = true) (a z : Nat) : (if a = x then upd (ph b M x y x) y true else ph b M x y a) z = ph b M x (y + 1) a z := by
 by_cases e : a = x
 · subst e
   rw [if_pos rfl]
   unfold upd ph
   by_cases e2 : z = y
   · subst e2
     simp [war, h1, h2]
   · by_cases h : z < y
     · simp [e2, h, Nat.lt_succ_of_lt h]
     · have : ¬ z < y + 1 := by omega
       simp [e2, h, this]
 · rw [if_neg e]
   unfold ph
   by_cases h : a < x
   · simp [h]
   · simp [h, e]
theorem ph_miss (b : Nat) (M : Nat → Nat → Bool) {x y : Nat} (h : (M x b && M b y) = false) (a z : Nat) : ph b M x y a z = ph b M x (y + 1) a z := by
 unfold ph
 by_cases h1 : a < x
 · simp [h1]
 · by_cases e : a = x
   · subst e
     by_cases h2 : z < y
     · simp [h2, Nat.lt_succ_of_lt h2]
     · by_cases e2 : z = y
       · subst e2
         simp [war, h]
       · have : ¬ z < y + 1 := by omega
         simp [h2, this]
   · simp [h1, e]
end Go.Proofs.YtgjddnaidjbhlaaGreatDoor.Pl

/- plan.made: the walk, by hand. -/
namespace Go.Proofs.YtgjddnaidjbhlaaGreatDoor.Pl
open Go.RowKit Go.IntWalk Go.Maps Go.Proofs.YtgjddnaidjbhlaaGreatDoorW.PrintWords Go.Proofs.YtgjddnaidjbhlaaGreatDoor.PlName Go.Proofs.YtgjddnaidjbhlaaGreatDoor.LgMaps

theorem bool_info : (Tryz.prog.info? 4).map (fun i => (i.zero, i.size, i.bytes)) = some (some (.bool false), 1, 1) := by kernel_rfl
theorem bools_info : (Tryz.prog.info? 113).map (fun i => (i.zero, i.size, i.bytes)) = some (some (.slice none 0 0), 1, 24) := by kernel_rfl
theorem defOk_len {nm : ByteArray} {l : List Step} (h : defOk nm l = true) : 1 ≤ l.length ∧ l.length ≤ 8 ∧ ∀ k, k < l.length → aloneOk l k (stepAt l k) = true := by
 unfold defOk at h
 simp only [Bool.and_eq_true, decide_eq_true_eq] at h
 refine ⟨h.2.1.1, h.2.1.2, fun k hk => ?_⟩
 have := h.2.2.1
 rw [List.all_eq_true] at this
 exact this k (List.mem_range'_1.2 ⟨by omega, by omega⟩)
theorem direct_lt {l : List Step} {i j : Nat} (hi : i < l.length) (hj : j < l.length) : direct l i j = ((stepAt l i).needs.contains (j : Int) || decide ((stepAt l j).kind < (stepAt l i).kind)) := by
 unfold direct
 rw [decide_eq_true (show i < l.length ∧ j < l.length from ⟨hi, hj⟩), Bool.true_and]

theorem Chg.of_own {a b : World} {row : Option Nat} (h : a.grownBy b row) : Chg (fun k => row = some k) a b := ⟨h.os, h.tape, h.output, h.size, fun k hk hx => h.block k hk fun e => hx e.symm⟩
theorem ck_own {w w' w1 : World} {nm : ByteArray} {l : List Step} {ad : Addr} {c gg : Nat} {v vs : Value} {rb : Nat → Nat} {m n : Nat} {M : Nat → Nat → Bool} (hS : StepsAt w (some ad) l) (hT : TabsAt w) (h : Ck w w' nm l ad c) (hg : Gr w' w.heap.size gg v vs rb m n M) (hgr : w'.grownBy w1 v.ownBlock) (u : Value) : Ck w (w1.setCell ⟨gg, 0, none⟩ u) nm l ad c := by
 have hb := hg.blk_lt h.box.row
 refine h.chg (X := fun k => v.ownBlock = some k ∨ k = gg) hS hT (((Chg.of_own hgr).mono fun k hk => Or.inl hk).trans ((Chg.setCell w1 ⟨gg, 0, none⟩ u).mono fun k hk => Or.inr hk)) fun k hk => ?_
 rcases hk with hk | hk
 · exact hb.1 k hk
 · subst hk
   exact hb.2.2
theorem ck_set {w w' : World} {nm : ByteArray} {l : List Step} {ad : Addr} {c gg : Nat} {v vs : Value} {rb : Nat → Nat} {m n : Nat} {M : Nat → Nat → Bool} (hS : StepsAt w (some ad) l) (hT : TabsAt w) (h : Ck w w' nm l ad c) (hg : Gr w' w.heap.size gg v vs rb m n M) {k : Nat} (hk : k < m) (j : Nat) (u : Value) : Ck w (w'.setCell ⟨rb k, j, none⟩ u) nm l ad c := by
 have hb := hg.blk_lt h.box.row
 refine h.chg hS hT (Chg.setCell w' _ _) fun q hq => ?_
 have hq : q = rb k := hq
 subst hq
 exact hb.2.1 k hk

/-- What made gives. -/
def MadeAt (w w' : World) (e : Ending) (l : List Step) (ok : Bool) : Prop :=
 if ok = true then ∃ gg v rb, e = .returned (.pointer (some ⟨gg, 0, none⟩)) ∧ Gr w' w.heap.size gg v (.slice none 0 0) rb l.length l.length (wars (direct l) l.length) else e = .returned (.pointer none)

set_option maxHeartbeats 8000000 in
set_option maxRecDepth 100000 in
theorem made_calls (nm : ByteArray) (l : List Step) (A : Option Addr) (c : Nat) (w : World) (hnm : nm.size ≤ 140737488351232) (hS : StepsAt w A l) (hb : ∀ s ∈ l, StepB s) (hn : l.length ≤ 9000000000000) (hc : l.length ≤ c) (hT : TabsAt w) :
 Calls Tryz.prog 115 #[.agg #[.string nm, .slice A l.length c]] w fun e w' => MadeAt w w' e l (defOk nm l) ∧ Below w.heap.size w w' := by
 have hbb := below_one w (.cells #[.string nm, .slice A l.length c] 24)
 have hr0 := alloc1 w (.cells #[.string nm, .slice A l.length c] 24)
 have HW := Aside0.mk (And.intro hbb hr0)
 have HA := Aside0.mk (And.intro hS (And.intro hb (And.intro hT hc)))
 have hck := Aside0.mk (check_calls nm l A c (w.alloc (.cells #[.string nm, .slice A l.length c] 24)) hnm (hS.below hbb) hb hn hc (tabs_on hT hbb))
 clear hbb hr0 hS hb hT
 go_enter Tryz.func115, Tryz.ntmps115
 cases hok : defOk nm l
 · rw [hok] at hck
   go_wp2_with (first | (go_at_call 31; refine hck.out.mono ?_; rintro e w1 ⟨⟨xa, xb, rfl, hxb⟩, hb1⟩; have hd1 : (xb != 0) = true := (by rw [bne, hxb]; rfl); clear hxb))
   go_ret
   exact ⟨rfl, on_ HW.out.1 hb1⟩
 · have hl := defOk_len hok
   rw [hok] at hck
   obtain ⟨hl1, hl8, hal⟩ := hl
   obtain ⟨ad, rfl, _⟩ := HA.out.1.one (stepAt_eq (l := l) (i := 0) (by omega))
   have HAL := Aside0.mk (And.intro hal (And.intro hl1 hl8))
   have HCK0 := Aside0.mk (Ck.mk HW.out.1 ⟨HW.out.2, HA.out.1.below HW.out.1⟩ (tabs_on HA.out.2.2.1 HW.out.1))
   obtain ⟨i4, hi4, hz4, hs4, hb4⟩ := info_parts bool_info
   obtain ⟨i52, hi52, hz52, hs52, hb52⟩ := info_parts bools_info
   have HI := Aside0.mk (And.intro (And.intro hi4 (And.intro hz4 (And.intro hs4 hb4))) (And.intro hi52 (And.intro hz52 (And.intro hs52 hb52))))
   clear HW hal hi4 hz4 hs4 hb4 hi52 hz52 hs52 hb52 hok
   go_wp2_with (first | (go_at_call 31; refine hck.out.mono ?_; rintro e w1 ⟨⟨xa, xb, rfl, hxb⟩, hb1⟩; have hd1 : (xb != 0) = false := (by rw [bne, hxb]; rfl); have HCK1 := Aside0.mk (HCK0.out.on hb1); have hq11 := HCK1.out.cells.2; have hq1 := cell_on (below_one w1 (.cells #[.slice none 0 0, .slice none 0 0] 131)) hq11; clear hb1 hxb))
   have hg0 : Gr (w1.alloc (.cells #[.slice none 0 0, .slice none 0 0] 131)) w.heap.size w1.heap.size (.slice none 0 0) (.slice none 0 0) (fun _ => 0) 0 l.length (direct l) :=
    ⟨alloc1 w1 _, World.ownsRow_nil _ _ _ _, fun k hk => absurd hk (Nat.not_lt_zero _), fun i j hi => absurd hi (Nat.not_lt_zero _), HCK1.out.below.size, fun k hk => absurd hk (Nat.not_lt_zero _)⟩
   have HG0 := Aside0.mk (And.intro hg0 (HCK1.out.on (below_one w1 (.cells #[.slice none 0 0, .slice none 0 0] 131))))
   have hgglo : w.heap.size < w1.heap.size := (Array.getElem?_eq_some_iff.1 HCK1.out.box.row).1
   clear hg0 hq11 hq1 hck HCK1 HCK0
   generalize hgg : w1.heap.size = gg at *
   go_loopw [26] (fun v26 wr => ∃ (i : Nat) (v : Value) (rb : Nat → Nat), i ≤ l.length ∧ v26 = .int .i64 (i : Int) ∧ Gr wr w.heap.size gg v (.slice none 0 0) rb i l.length (direct l) ∧ Ck w wr nm l ad c) (fun v26 _ => l.length - (intOf v26).toNat)
   case atStart => exact ⟨0, _, _, Nat.zero_le _, rfl, HG0.out.1, HG0.out.2⟩
   case round =>
    obtain ⟨i, v, rb, hi, rfl, hg, hck⟩ := hrel
    have HG := Aside0.mk (And.intro hg hck)
    have hqg : wr.cell? ⟨gg, 0, none⟩ = some v := row_cell hg.box rfl
    clear hg hck HG0
    by_cases hlt : i < l.length
    · have hd4 : decide ((i : Int) < (l.length : Int)) = true := decide_eq_true (by omega)
      obtain ⟨_, e9, A1, c1, A2, c2, h9⟩ := HA.out.1.one (stepAt_eq hlt)
      cases e9
      obtain ⟨hs0, hs1, hs2, hs3, hs4, _, _, _, _⟩ := h9.below HG.out.2.below
      have hbs := below_one wr (.cells #[.string (stepAt l i).name, .int .i64 (stepAt l i).kind, .int .i64 (stepAt l i).part, .slice A1 (stepAt l i).keys.length c1, .slice A2 (stepAt l i).needs.length c2] 70)
      have hrs := alloc1 wr (.cells #[.string (stepAt l i).name, .int .i64 (stepAt l i).kind, .int .i64 (stepAt l i).part, .slice A1 (stepAt l i).keys.length c1, .slice A2 (stepAt l i).needs.length c2] 70)
      have hq1 := (HG.out.2.on hbs).cells.2
      have HS := Aside0.mk (And.intro hbs (And.intro hrs h9.needs))
      clear h9 hbs hrs
      generalize hgx : wr.heap.size = gx at *
      have hwx : w.heap.size ≤ (World.alloc wr (.cells #[.string (stepAt l i).name, .int .i64 (stepAt l i).kind, .int .i64 (stepAt l i).part, .slice A1 (stepAt l i).keys.length c1, .slice A2 (stepAt l i).needs.length c2] 70)).heap.size := Nat.le_trans HG.out.2.below.size (hgx ▸ HS.out.1.size)
      go_wp2_with (first | (at_make; refine wpList_make_full _ rfl (.tmp 32) (.tmp 32) 113 rfl w.heap.size 4 i4 (.bool false) 1 Tryz.underlying113 HI.out.1.1 HI.out.1.2.1 HI.out.1.2.2.1 .i64 .i64 _ _ l.length rfl rfl rfl rfl (by rw [HI.out.1.2.2.2]; omega) (by unfold maxLen; omega) hwx ?_; intro w3 hown3 hgr3; have hb3 := Aside0.mk (on_ (hgx ▸ HS.out.1) (below_grown hgr3 (Nat.le_refl _) (fun k h => by cases h))); have hq13 := (HG.out.2.on hb3.out).cells.2; have HM := Aside0.mk (And.intro hown3 (row_on (below_grown hgr3 (Nat.le_refl _) (fun k h => by cases h)) HS.out.2.1)); clear hown3 hgr3))
      have hrn : gx < (World.alloc wr (.cells #[.string (stepAt l i).name, .int .i64 (stepAt l i).kind, .int .i64 (stepAt l i).part, .slice A1 (stepAt l i).keys.length c1, .slice A2 (stepAt l i).needs.length c2] 70)).heap.size := (Array.getElem?_eq_some_iff.1 HS.out.2.1).1
      have HR3 : Aside0 (w3.heap[(World.alloc wr (.cells #[.string (stepAt l i).name, .int .i64 (stepAt l i).kind, .int .i64 (stepAt l i).part, .slice A1 (stepAt l i).keys.length c1, .slice A2 (stepAt l i).needs.length c2] 70)).heap.size]? = some (.cells (rowA (fun _ => false) l.length) 4 (0, 0))) := ⟨made_row (by have := HM.out.1; rw [show (Value.bool false).cells = #[.bool false] from rfl, toList_madeCells_one, Nat.mul_one] at this; exact this) rfl⟩
      have hsz : (World.alloc wr (.cells #[.string (stepAt l i).name, .int .i64 (stepAt l i).kind, .int .i64 (stepAt l i).part, .slice A1 (stepAt l i).keys.length c1, .slice A2 (stepAt l i).needs.length c2] 70)).heap.size = gx + 1 := by
       show (wr.heap.push _).size = _
       simp [hgx]
      rw [hsz] at hrn HR3 hwx HM
      clear hsz
      generalize hrn1 : gx + 1 = rn at *
      have HB := Aside0.mk (And.intro (fun k (hk : k < i) => (show rb k ≠ rn from fun e => by have := (Array.getElem?_eq_some_iff.1 (HG.out.1.row k hk)).1; omega)) (And.intro hwx hrn))
      clear hwx hrn hq1 hs0 hs1 hs2 hs3 hs4 hqg
      go_loopw [37] (fun v37 wq => ∃ j : Nat, j ≤ l.length ∧ v37 = .int .i64 (j : Int) ∧ Gr wq w.heap.size gg v (.slice none 0 0) rb i l.length (direct l) ∧ Ck w wq nm l ad c ∧ wq.heap[gx]? = some (.cells #[.string (stepAt l i).name, .int .i64 (stepAt l i).kind, .int .i64 (stepAt l i).part, .slice A1 (stepAt l i).keys.length c1, .slice A2 (stepAt l i).needs.length c2] 70 (0, 0)) ∧ wq.heap[rn]? = some (.cells (rowA (fun k => decide (k < j) && direct l i k) l.length) 4 (0, 0))) (fun v37 _ => l.length - (intOf v37).toNat)
      case atStart => exact ⟨0, Nat.zero_le _, rfl, HG.out.1.on hb3.out, HG.out.2.on hb3.out, HM.out.2, by rw [HR3.out]; rfl⟩
      case round =>
       obtain ⟨j, hj, rfl, hg, hck, hrx, hrr⟩ := hrel
       have HQ := Aside0.mk (And.intro hg (And.intro hck (And.intro hrx hrr)))
       clear hg hck hrx hrr
       by_cases hlj : j < l.length
       · have hd5 : decide ((j : Int) < (l.length : Int)) = true := decide_eq_true (by omega)
         obtain ⟨_, e8, B1, b1, B2, b2, h8⟩ := HA.out.1.one (stepAt_eq hlj)
         cases e8
         obtain ⟨ht0, ht1, ht2, ht3, ht4, _, _, _, _⟩ := h8.below HQ.out.2.1.below
         have hbt := below_one wr (.cells #[.string (stepAt l j).name, .int .i64 (stepAt l j).kind, .int .i64 (stepAt l j).part, .slice B1 (stepAt l j).keys.length b1, .slice B2 (stepAt l j).needs.length b2] 70)
         have hrt := alloc1 wr (.cells #[.string (stepAt l j).name, .int .i64 (stepAt l j).kind, .int .i64 (stepAt l j).part, .slice B1 (stepAt l j).keys.length b1, .slice B2 (stepAt l j).needs.length b2] 70)
         have hck4 := HQ.out.2.1.on hbt
         have HT := Aside0.mk (And.intro hbt (And.intro hrt (And.intro (HQ.out.1.on hbt) (And.intro hck4 (And.intro (row_on hbt HQ.out.2.2.1) (row_on hbt HQ.out.2.2.2))))))
         have hcon := Aside0.mk (contains_calls A2 c2 (stepAt l i).needs (j : Int) _ (Kd.C_below HS.out.2.2 hck4.below) (by have := (needs_in hl8 (HAL.out.1 i hlt)).2; omega))
         have HD := Aside0.mk (direct_lt hlt hlj)
         have hx1 := row_cell (j := 1) HT.out.2.2.2.2.1 rfl
         have hx4 := row_cell (j := 4) HT.out.2.2.2.2.1 rfl
         have hy1 := row_cell (j := 1) HT.out.2.1 rfl
         have hz1 := row_cell (j := j) HT.out.2.2.2.2.2 (rowA_at hlj)
         have hzf := free_of_row (j := j) HT.out.2.2.2.2.2
         generalize hgy : wr.heap.size = gy at *
         generalize (stepAt l i).needs.contains (j : Int) = cn at *
         clear h8 hbt hrt hck4
         have fin : ∀ bb : Bool, direct l i j = bb → ∀ W, W = World.alloc wr (.cells #[.string (stepAt l j).name, .int .i64 (stepAt l j).kind, .int .i64 (stepAt l j).part, .slice B1 (stepAt l j).keys.length b1, .slice B2 (stepAt l j).needs.length b2] 70) → Gr (W.setCell ⟨rn, j, none⟩ (.bool bb)) w.heap.size gg v (.slice none 0 0) rb i l.length (direct l) ∧ Ck w (W.setCell ⟨rn, j, none⟩ (.bool bb)) nm l ad c ∧ (W.setCell ⟨rn, j, none⟩ (.bool bb)).heap[gx]? = some (.cells #[.string (stepAt l i).name, .int .i64 (stepAt l i).kind, .int .i64 (stepAt l i).part, .slice A1 (stepAt l i).keys.length c1, .slice A2 (stepAt l i).needs.length c2] 70 (0, 0)) ∧ (W.setCell ⟨rn, j, none⟩ (.bool bb)).heap[rn]? = some (.cells (rowA (fun k => decide (k < j + 1) && direct l i k) l.length) 4 (0, 0)) := by
          intro bb hbb W hW
          subst hW
          refine ⟨HT.out.2.2.1.aside HT.out.2.2.2.2.2 HB.out.1 j _, HT.out.2.2.2.1.chg HA.out.1 HA.out.2.2.1 (Chg.setCell _ _ _) (fun k hk => ?_), row_setCell_ne HT.out.2.2.2.2.1 _ _ (Nat.ne_of_lt HB.out.2.2), ?_⟩
          · have hk : k = rn := hk
            have := HG.out.2.below.size
            have := HB.out.2.2
            omega
          · rw [row_setCell HT.out.2.2.2.2.2, rowA_set]
            congr 2
            refine rowA_congr fun k hk => ?_
            unfold upd
            by_cases e : k = j
            · subst e
              simp [hbb]
            · rw [if_neg e]
              by_cases h : k < j
              · simp [h, Nat.lt_succ_of_lt h]
              · have : ¬ k < j + 1 := by omega
                simp [h, this]
         replace fin := Aside0.mk fin
         by_cases hkk : (stepAt l j).kind < (stepAt l i).kind
         · have hd6 : decide ((stepAt l j).kind < (stepAt l i).kind) = true := decide_eq_true hkk
           rw [hd6] at HD
           clear hkk
           cases cn
           · go_wp2_with (first | (go_at_call 118; refine hcon.out.mono ?_; rintro e w5 ⟨rfl, rfl⟩))
             go_roundw
             case rel => exact ⟨j + 1, hlj, by go_num, fin.out true HD.out _ rfl⟩
             case measure => simp [intOf]; omega
           · go_wp2_with (first | (go_at_call 118; refine hcon.out.mono ?_; rintro e w5 ⟨rfl, rfl⟩))
             go_roundw
             case rel => exact ⟨j + 1, hlj, by go_num, fin.out true HD.out _ rfl⟩
             case measure => simp [intOf]; omega
         · have hd6 : decide ((stepAt l j).kind < (stepAt l i).kind) = false := decide_eq_false hkk
           rw [hd6] at HD
           clear hkk
           cases cn
           · go_wp2_with (first | (go_at_call 118; refine hcon.out.mono ?_; rintro e w5 ⟨rfl, rfl⟩))
             go_roundw
             case rel => exact ⟨j + 1, hlj, by go_num, fin.out false HD.out _ rfl⟩
             case measure => simp [intOf]; omega
           · go_wp2_with (first | (go_at_call 118; refine hcon.out.mono ?_; rintro e w5 ⟨rfl, rfl⟩))
             go_roundw
             case rel => exact ⟨j + 1, hlj, by go_num, fin.out true HD.out _ rfl⟩
             case measure => simp [intOf]; omega
       · have hj' : j = l.length := by omega
         subst hj'
         have hd5 : decide ((l.length : Int) < (l.length : Int)) = false := decide_eq_false (by omega)
         have hqv : wr.cell? ⟨gg, 0, none⟩ = some v := row_cell HQ.out.1.box rfl
         have hwq : w.heap.size ≤ wr.heap.size := HQ.out.2.1.below.size
         go_wp2_with (first | (at_builtin; refine wpList_append_own _ rfl (.tmp 61) (.tmp 63) 129 rfl w.heap.size 113 i52 (.slice none 0 0) 1 24 Tryz.underlying129 HI.out.2.1 HI.out.2.2.1 HI.out.2.2.2.1 HI.out.2.2.2.2 rfl (by decide) v i (tabV rb i l.length) rfl (HQ.out.1.own.alloc _) ⟨wr.heap.size, 0, none⟩ 1 1 [.slice (some ⟨rn, 0, none⟩) l.length l.length] rfl rfl (one_new _ _ _) (by intro u hu; simp at hu; subst hu; rfl) (by unfold maxLen; omega) (by omega) (by simp; omega) ?_; intro v' w5 hown5 hgr5 _; obtain ⟨ga5, cap5, rfl⟩ := own_some hown5; have HN := Aside0.mk (And.intro hown5 (And.intro hgr5 ((HQ.out.1.on (below_one wr (.cells #[.slice (some ⟨rn, 0, none⟩) l.length l.length] 113))).box_grown hgr5))); have hc5 := row_cell (j := 0) HN.out.2.2 rfl; have hf5 := free_of_row (j := 0) HN.out.2.2; clear hown5 hgr5))
         have HB5 := Aside0.mk (below_one wr (.cells #[.slice (some ⟨rn, 0, none⟩) l.length l.length] 113))
         have hgn := (HQ.out.1.on HB5.out).push (row_on HB5.out HQ.out.2.2.2) HB.out.2.1 HB.out.1 HN.out.1 HN.out.2.1
         go_roundw
         case rel =>
          refine ⟨i + 1, _, _, hlt, by go_num, hgn.congr fun x y hx hy => ?_, ?_⟩
          · by_cases e : x = i
            · subst e
              simp [hy]
            · rw [if_neg e]
          · exact ck_own HA.out.1 HA.out.2.2.1 (HQ.out.2.1.on HB5.out) (HQ.out.1.on HB5.out) HN.out.2.1 _
         case measure => simp [intOf]; omega
    · have hi' : i = l.length := by omega
      subst hi'
      have hd4 : decide ((l.length : Int) < (l.length : Int)) = false := decide_eq_false (by omega)
      obtain ⟨ga, cap, rfl, _⟩ := HG.out.1.ahead (by omega)
      have HG1 := Aside0.mk (And.intro HG.out.1 HG.out.2)
      have hqg := row_cell (j := 0) HG1.out.1.box rfl
      clear HG
      go_wp2
      go_loopw [73] (fun v73 wb => ∃ b : Nat, b ≤ l.length ∧ v73 = .int .i64 (b : Int) ∧ Gr wb w.heap.size gg (.slice (some ⟨ga, 0, none⟩) l.length cap) (.slice none 0 0) rb l.length l.length (wars (direct l) b) ∧ Ck w wb nm l ad c) (fun v73 _ => l.length - (intOf v73).toNat)
      case atStart => exact ⟨0, Nat.zero_le _, rfl, HG1.out.1, HG1.out.2⟩
      case round =>
       obtain ⟨b, hb, rfl, hg, hck⟩ := hrel
       have HG2 := Aside0.mk (And.intro hg hck)
       have hqg := row_cell (j := 0) hg.box rfl
       clear hg hck HG1
       by_cases hlb : b < l.length
       · have hd5 : decide ((b : Int) < (l.length : Int)) = true := decide_eq_true (by omega)
         go_wp2
         go_loopw [81] (fun v81 wx => ∃ x : Nat, x ≤ l.length ∧ v81 = .int .i64 (x : Int) ∧ Gr wx w.heap.size gg (.slice (some ⟨ga, 0, none⟩) l.length cap) (.slice none 0 0) rb l.length l.length (ph b (wars (direct l) b) x 0) ∧ Ck w wx nm l ad c) (fun v81 _ => l.length - (intOf v81).toNat)
         case atStart => exact ⟨0, Nat.zero_le _, rfl, HG2.out.1.congr fun x y _ _ => (ph_zero _ _ _ _).symm, HG2.out.2⟩
         case round =>
          obtain ⟨x, hx, rfl, hg, hck⟩ := hrel
          have HG3 := Aside0.mk (And.intro hg hck)
          have hqg := row_cell (j := 0) hg.box rfl
          clear hg hck HG2
          by_cases hlx : x < l.length
          · have hd6 : decide ((x : Int) < (l.length : Int)) = true := decide_eq_true (by omega)
            go_wp2
            go_loopw [89] (fun v89 wy => ∃ y : Nat, y ≤ l.length ∧ v89 = .int .i64 (y : Int) ∧ Gr wy w.heap.size gg (.slice (some ⟨ga, 0, none⟩) l.length cap) (.slice none 0 0) rb l.length l.length (ph b (wars (direct l) b) x y) ∧ Ck w wy nm l ad c) (fun v89 _ => l.length - (intOf v89).toNat)
            case atStart => exact ⟨0, Nat.zero_le _, rfl, HG3.out.1, HG3.out.2⟩
            case round =>
             obtain ⟨y, hy, rfl, hg, hck⟩ := hrel
             have HG4 := Aside0.mk (And.intro hg hck)
             have hqg := row_cell (j := 0) hg.box rfl
             clear HG3
             by_cases hly : y < l.length
             · have hd7 : decide ((y : Int) < (l.length : Int)) = true := decide_eq_true (by omega)
               have hsx := hg.slot hlx
               have hsb := hg.slot hlb
               have hcx := hg.at_ hlx hlb
               have hcb := hg.at_ hlb hly
               have hcy := hg.at_ hlx hly
               have hfy := hg.free (j := y) hlx
               rw [ph_col] at hcx
               rw [ph_row] at hcb
               have HK := Aside0.mk (fun (u : Value) => ck_set HA.out.1 HA.out.2.2.1 hck hg hlx y u)
               have HS := Aside0.mk (hg.set (j := y) hlx true)
               have HP := Aside0.mk (And.intro (ph_hit b (wars (direct l) b) (x := x) (y := y)) (ph_miss b (wars (direct l) b) (x := x) (y := y)))
               clear hg hck
               generalize wars (direct l) b x b = t1 at *
               generalize wars (direct l) b b y = t2 at *
               generalize ph b (wars (direct l) b) x y x y = t3 at *
               cases t1
               · go_wp2
                 go_roundw
                 case rel => exact ⟨y + 1, hly, by go_num, HG4.out.1.congr fun p q _ _ => HP.out.2 rfl p q, HG4.out.2⟩
                 case measure => simp [intOf]; omega
               · cases t2
                 · go_wp2
                   go_roundw
                   case rel => exact ⟨y + 1, hly, by go_num, HG4.out.1.congr fun p q _ _ => HP.out.2 rfl p q, HG4.out.2⟩
                   case measure => simp [intOf]; omega
                 · go_wp2
                   go_roundw
                   case rel => exact ⟨y + 1, hly, by go_num, HS.out.congr fun p q _ _ => HP.out.1 rfl rfl p q, HK.out _⟩
                   case measure => simp [intOf]; omega
             · have hy' : y = l.length := by omega
               subst hy'
               have hd7 : decide ((l.length : Int) < (l.length : Int)) = false := decide_eq_false (by omega)
               clear hg hck
               go_wp2
               go_roundw
               case rel => exact ⟨x + 1, hlx, by go_num, HG4.out.1.congr fun p q _ hq => ph_next _ _ hq, HG4.out.2⟩
               case measure => simp [intOf]; omega
          · have hx' : x = l.length := by omega
            subst hx'
            have hd6 : decide ((l.length : Int) < (l.length : Int)) = false := decide_eq_false (by omega)
            go_wp2
            go_roundw
            case rel => exact ⟨b + 1, hlb, by go_num, HG3.out.1.congr fun p q hp _ => ph_done _ _ hp, HG3.out.2⟩
            case measure => simp [intOf]; omega
       · have hb' : b = l.length := by omega
         subst hb'
         have hd5 : decide ((l.length : Int) < (l.length : Int)) = false := decide_eq_false (by omega)
         go_wp2
         go_ret
         exact ⟨⟨_, _, _, rfl, HG2.out.1⟩, HG2.out.2.below⟩
end Go.Proofs.YtgjddnaidjbhlaaGreatDoor.Pl

/- A graph's those, all: the walks, by hand. -/
namespace Go.Proofs.YtgjddnaidjbhlaaGreatDoor.Pl
open Go.RowKit Go.IntWalk Go.Proofs.YtgjddnaidjbhlaaGreatDoorW.PrintWords Go.Proofs.YtgjddnaidjbhlaaGreatDoor.PlName

/-- The numbers below n of which something is so. -/
def sel (p : Nat → Bool) (n : Nat) : List Nat := (List.range n).filter p
def selV (l : List Nat) : List Value := l.map fun k : Nat => Value.int .i64 (k : Int)
theorem sel_hit {p : Nat → Bool} {i : Nat} (h : p i = true) : sel p (i + 1) = sel p i ++ [i] := by
 unfold sel
 rw [List.range_succ, List.filter_append]
 simp [h]
theorem sel_miss {p : Nat → Bool} {i : Nat} (h : p i = false) : sel p (i + 1) = sel p i := by
 unfold sel
 rw [List.range_succ, List.filter_append]
 simp [h]
theorem sel_len (p : Nat → Bool) (n : Nat) : (sel p n).length ≤ n := by
 unfold sel
 exact Nat.le_trans (List.length_filter_le _ _) (by simp)
theorem mem_sel {p : Nat → Bool} {n i : Nat} : i ∈ sel p n ↔ i < n ∧ p i = true := by
 unfold sel
 rw [List.mem_filter, List.mem_range]
theorem selV_snoc (l : List Nat) (i : Nat) : selV (l ++ [i]) = selV l ++ [.int .i64 (i : Int)] := by
 unfold selV
 rw [List.map_append]
 rfl
theorem int_info : (Tryz.prog.info? 3).map (fun i => (i.zero, i.size, i.bytes)) = some (some (.int .i64 0), 1, 8) := by kernel_rfl
/-- What a function value tells of the numbers below n, whatever has come since. -/
def Tells (w : World) (g : Nat) (ba lb : Array Value) (p : Nat → Bool) (n : Nat) : Prop :=
 ∀ (W : World) (k : Nat), k < n → Below w.heap.size w W → Calls Tryz.prog g (ba ++ #[.int .i64 (k : Int)] ++ lb) W fun e w' => e = .returned (.bool (p k)) ∧ Below W.heap.size W w'
theorem Tells.on {w w1 : World} {g : Nat} {ba lb : Array Value} {p : Nat → Bool} {n : Nat} (h : Tells w g ba lb p n) (hb : Below w.heap.size w w1) : Tells w1 g ba lb p n :=
 fun W k hk hw => h W k hk (on_ hb hw)
/-- A list of numbers that lies in memory of one's own. -/
def Own (w0 w : World) (v : Value) (l : List Nat) : Prop := w.ownsRow w0.heap.size 3 1 v l.length (selV l)

set_option maxHeartbeats 4000000 in
set_option maxRecDepth 100000 in
theorem those_calls (g gg : Nat) (A : Option Addr) (c n : Nat) (vs : Value) (lb : Array Value) (p : Nat → Bool) (w : World) (eg : ∀ args w, (callFunc g args).run Tryz.prog w = .ok (.enter g args) w)
 (hp : Tells w g #[] lb p n) (hr : w.heap[gg]? = some (.cells #[.slice A n c, vs] 131 (0, 0))) (hn : n ≤ 1000000) :
 Calls Tryz.prog 119 #[.pointer (some ⟨gg, 0, none⟩), .func (.func g) #[] lb] w fun e w' => (∃ v, e = .returned v ∧ Own w w' v (sel p n)) ∧ Below w.heap.size w w' := by
 have HP := Aside0.mk (And.intro hp hr)
 have hq := row_cell (j := 0) hr rfl
 obtain ⟨i3, hi3, hz3, hs3, hb3⟩ := info_parts int_info
 have HI := Aside0.mk (And.intro hi3 (And.intro hz3 (And.intro hs3 hb3)))
 clear hp hr hi3 hz3 hs3 hb3
 go_enter Tryz.func119, Tryz.ntmps119
 go_wp2
 go_loopw [5, 12] (fun v5 v12 wr => ∃ i : Nat, i ≤ n ∧ v12 = .int .i64 (i : Int) ∧ Own w wr v5 (sel p i) ∧ Below w.heap.size w wr) (fun _ v12 _ => n - (intOf v12).toNat)
 case atStart => exact ⟨0, Nat.zero_le _, rfl, by exact World.ownsRow_nil _ _ _ _, Below.refl _ _⟩
 case round =>
  obtain ⟨i, hi, rfl, hown, hB⟩ := hrel
  have HG := Aside0.mk (And.intro hown hB)
  clear hown hB
  by_cases hlt : i < n
  · have hd2 : decide ((i : Int) < (n : Int)) = true := decide_eq_true (by omega)
    have hcall := HP.out.1 _ i hlt HG.out.2
    simp only [Array.empty_append] at hcall
    replace hcall := Aside0.mk hcall
    cases hn1 : p i
    · rw [hn1] at hcall
      go_wp2_with (first | (go_at_fn g; refine hcall.out.mono ?_; rintro e w1 ⟨rfl, hb1⟩))
      go_roundw
      case rel => exact ⟨i + 1, hlt, by go_num, by rw [sel_miss hn1]; exact ownsRow_on HG.out.1 hb1, on_ HG.out.2 hb1⟩
      case measure => simp [intOf]; omega
    · rw [hn1] at hcall
      have hsl := sel_len p i
      go_wp2_with (first | (go_at_fn g; refine hcall.out.mono ?_; rintro e w1 ⟨rfl, hb1⟩; have HN1 := Aside0.mk (And.intro (ownsRow_on HG.out.1 hb1) (on_ HG.out.2 hb1)); have hlow := HN1.out.2.size; clear hb1) | (at_builtin; refine wpList_append_own _ rfl (.tmp 18) (.tmp 20) 25 rfl w.heap.size 3 i3 (.int .i64 0) 1 8 Tryz.underlying25 HI.out.1 HI.out.2.1 HI.out.2.2.1 HI.out.2.2.2 rfl (by decide) _ (sel p i).length (selV (sel p i)) rfl (HN1.out.1.alloc _) ⟨w1.heap.size, 0, none⟩ 1 1 [.int .i64 (i : Int)] rfl rfl (one_new _ _ _) (by intro u hu; simp at hu; subst hu; rfl) (by unfold maxLen; omega) (by omega) (by simp; omega) ?_; intro v' w5 hown5 hgr5 _; have HN := Aside0.mk (And.intro hown5 hgr5); clear hown5 hgr5))
      go_roundw
      case rel =>
       refine ⟨i + 1, hlt, by go_num, ?_, ?_⟩
       · unfold Own
         rw [sel_hit hn1, selV_snoc, List.length_append]
         exact HN.out.1
       · exact (HN1.out.2.alloc HN1.out.2.size _).grown HN.out.2 (by simp; omega) fun k hk => (HN1.out.1.lt k hk).1
      case measure => simp [intOf]; omega
  · have hi' : i = n := by omega
    subst hi'
    have hd2 : decide ((i : Int) < (i : Int)) = false := decide_eq_false (by omega)
    go_wp2
    go_ret
    exact ⟨⟨_, rfl, HG.out.1⟩, HG.out.2⟩

theorem step_le {P Q : Nat → Prop} {k : Nat} (h : ∀ j, j < k → P j → Q j) (hk : P k → Q k) : ∀ j, j < k + 1 → P j → Q j := fun j hj h1 => by
 rcases Nat.lt_succ_iff_lt_or_eq.1 hj with h2 | h2
 · exact h j h2 h1
 · subst h2
   exact hk h1
/-- Something is so of all rows ahead. -/
def allF (M : Nat → Bool) (p : Nat → Bool) (n : Nat) : Bool := (List.range n).all fun k => !M k || p k
theorem allF_true {M p : Nat → Bool} {n : Nat} (h : ∀ k, k < n → M k = true → p k = true) : allF M p n = true := by
 unfold allF
 rw [List.all_eq_true]
 intro k hk
 cases hm : M k
 · rfl
 · rw [h k (List.mem_range.1 hk) hm]
   rfl
theorem allF_false {M p : Nat → Bool} {n k : Nat} (hk : k < n) (h1 : M k = true) (h2 : p k = false) : allF M p n = false := by
 unfold allF
 rw [List.all_eq_false]
 exact ⟨k, List.mem_range.2 hk, by rw [h1, h2]; simp⟩
theorem allF_iff {M p : Nat → Bool} {n : Nat} : allF M p n = true ↔ ∀ k, k < n → M k = true → p k = true := by
 constructor
 · intro h k hk h1
   cases h2 : p k
   · rw [allF_false hk h1 h2] at h
     cases h
   · rfl
 · exact allF_true

set_option maxHeartbeats 4000000 in
set_option maxRecDepth 100000 in
theorem all_calls (g lo gg : Nat) (v vs : Value) (rb : Nat → Nat) (M : Nat → Nat → Bool) (n i : Nat) (ba lb : Array Value) (p : Nat → Bool) (w : World) (eg : ∀ args w, (callFunc g args).run Tryz.prog w = .ok (.enter g args) w)
 (hp : Tells w g ba lb p n) (hg : Gr w lo gg v vs rb n n M) (hi : i < n) (hn : n ≤ 1000000) :
 Calls Tryz.prog 121 #[.pointer (some ⟨gg, 0, none⟩), .int .i64 (i : Int), .func (.func g) ba lb] w fun e w' => e = .returned (.bool (allF (M i) p n)) ∧ Below w.heap.size w w' := by
 obtain ⟨ga, cap, rfl, _⟩ := hg.ahead (by omega)
 have HP := Aside0.mk (And.intro hp hg)
 have hq := row_cell (j := 0) hg.box rfl
 have hs := hg.slot hi
 have HR := Aside0.mk (rfl : allF (M i) p n = allF (M i) p n)
 clear hp hg
 generalize hrr : allF (M i) p n = rr at *
 replace hrr := Aside0.mk hrr
 clear HR
 go_enter Tryz.func121, Tryz.ntmps121
 go_wp2
 go_loopw [17] (fun v17 wr => ∃ k : Nat, k ≤ n ∧ v17 = .int .i64 (k : Int) ∧ (∀ j, j < k → M i j = true → p j = true) ∧ Below w.heap.size w wr) (fun v17 _ => n - (intOf v17).toNat)
 case atStart => exact ⟨0, Nat.zero_le _, rfl, fun j hj => absurd hj (Nat.not_lt_zero _), Below.refl _ _⟩
 case round =>
  obtain ⟨k, hk, rfl, hal, hB⟩ := hrel
  have HG := Aside0.mk (And.intro hal hB)
  clear hal hB
  by_cases hlt : k < n
  · have hd2 : decide ((k : Int) < (n : Int)) = true := decide_eq_true (by omega)
    have hcall := Aside0.mk (HP.out.1 _ k hlt HG.out.2)
    have hcm := (HP.out.2.on HG.out.2).at_ hi hlt
    cases hm : M i k
    · rw [hm] at hcm
      go_wp2
      go_roundw
      case rel => exact ⟨k + 1, hlt, by go_num, step_le HG.out.1 (fun h1 => by rw [hm] at h1; cases h1), HG.out.2⟩
      case measure => simp [intOf]; omega
    · rw [hm] at hcm
      cases hpk : p k
      · rw [hpk] at hcall
        go_wp2_with (first | (go_at_fn g; refine hcall.out.mono ?_; rintro e w1 ⟨rfl, hb1⟩))
        go_ret
        rw [← hrr.out, allF_false hlt hm hpk]
        exact ⟨rfl, on_ HG.out.2 hb1⟩
      · rw [hpk] at hcall
        go_wp2_with (first | (go_at_fn g; refine hcall.out.mono ?_; rintro e w1 ⟨rfl, hb1⟩))
        go_roundw
        case rel => exact ⟨k + 1, hlt, by go_num, step_le HG.out.1 (fun _ => hpk), on_ HG.out.2 hb1⟩
        case measure => simp [intOf]; omega
  · have hk' : k = n := by omega
    subst hk'
    have hd2 : decide ((k : Int) < (k : Int)) = false := decide_eq_false (by omega)
    go_wp2
    go_ret
    rw [← hrr.out, allF_true HG.out.1]
    exact ⟨rfl, HG.out.2⟩
end Go.Proofs.YtgjddnaidjbhlaaGreatDoor.Pl

/- A graph's ready, undo, with: the walks, by hand. -/
namespace Go.Proofs.YtgjddnaidjbhlaaGreatDoor.Pl
open Go.RowKit Go.IntWalk Go.Proofs.YtgjddnaidjbhlaaGreatDoorW.PrintWords Go.Proofs.YtgjddnaidjbhlaaGreatDoor.PlName

def doneF (st : List Int) (k : Nat) : Bool := stOf st k == 2
def standsF (st : List Int) (k : Nat) : Bool := stOf st k == 1 || stOf st k == 2
def readyF (M : Nat → Nat → Bool) (st : List Int) (n i : Nat) : Bool := (stOf st i == 0) && allF (M i) (doneF st) n
def undoF (M : Nat → Nat → Bool) (st : List Int) (n i : Nat) : Bool := standsF st i && allF (fun k => M k i) (fun k => !standsF st k) n
/-- A graph with states. -/
structure GrS (w : World) (lo gg : Nat) (v : Value) (A : Option Addr) (c : Nat) (st : List Int) (rb : Nat → Nat) (n : Nat) (M : Nat → Nat → Bool) : Prop where
 gr : Gr w lo gg v (.slice A st.length c) rb n n M
 st_ : Kd.C (Kd.int .i64) w A st.length st
 len : st.length = n
theorem GrS.on {w w' : World} {lo gg : Nat} {v : Value} {A : Option Addr} {c : Nat} {st : List Int} {rb : Nat → Nat} {n : Nat} {M : Nat → Nat → Bool} (h : GrS w lo gg v A c st rb n M) (hb : Below w.heap.size w w') : GrS w' lo gg v A c st rb n M :=
 ⟨h.gr.on hb, Kd.C_below h.st_ hb, h.len⟩
section
variable {w : World} {lo gg : Nat} {v : Value} {A : Option Addr} {c : Nat} {st : List Int} {rb : Nat → Nat} {n : Nat} {M : Nat → Nat → Bool}
theorem done_tells (h : GrS w lo gg v A c st rb n M) : Tells w 174 #[.pointer (some ⟨gg, 0, none⟩)] #[] (doneF st) n := fun W k hk hb => by
 have h1 := h.on hb
 have := done_calls (i := k) h1.gr.box h1.st_ (by rw [h1.len]; exact hk)
 simpa [doneF] using this

set_option maxHeartbeats 4000000 in
set_option maxRecDepth 100000 in
theorem ready_calls {i : Nat} (h : GrS w lo gg v A c st rb n M) (hi : i < n) (hn : n ≤ 1000000) :
 Calls Tryz.prog 134 #[.pointer (some ⟨gg, 0, none⟩), .int .i64 (i : Int)] w fun e w' => e = .returned (.bool (readyF M st n i)) ∧ Below w.heap.size w w' := by
 have HH := Aside0.mk h
 have hc1 := Aside0.mk (idle_calls (i := i) h.gr.box h.st_ (by rw [h.len]; exact hi))
 have eg : ∀ args w, (callFunc 174 args).run Tryz.prog w = .ok (.enter 174 args) w := fun _ _ => by kernel_rfl
 have hc2 : Aside0 (∀ W, Below w.heap.size w W → Calls Tryz.prog 121 #[.pointer (some ⟨gg, 0, none⟩), .int .i64 (i : Int), .func (.func 174) #[.pointer (some ⟨gg, 0, none⟩)] #[]] W fun e w' => e = .returned (.bool (allF (M i) (doneF st) n)) ∧ Below W.heap.size W w') :=
  ⟨fun W hb => all_calls _ lo gg v _ rb M n i _ _ (doneF st) W eg (done_tells (h.on hb)) (h.on hb).gr hi hn⟩
 have HF : Aside0 (readyF M st n i = ((stOf st i == 0) && allF (M i) (doneF st) n)) := ⟨rfl⟩
 clear h
 generalize readyF M st n i = rr at *
 generalize allF (M i) (doneF st) n = b2 at *
 generalize (stOf st i == 0) = b1 at *
 go_enter Tryz.func134, Tryz.ntmps134
 cases b1
 · go_wp2_with (first | (go_at_call 173; refine hc1.out.mono ?_; rintro e w1 ⟨rfl, hb1⟩))
   go_ret
   rw [HF.out]
   exact ⟨rfl, hb1⟩
 · go_wp2_with (first | (go_at_call 173; refine hc1.out.mono ?_; rintro e w1 ⟨rfl, hb1⟩) | (go_at_call 121; refine (hc2.out _ hb1).mono ?_; rintro e w2 ⟨rfl, hb2⟩))
   go_ret
   rw [HF.out]
   exact ⟨rfl, on_ hb1 hb2⟩

set_option maxHeartbeats 4000000 in
set_option maxRecDepth 100000 in
theorem undo_calls {i : Nat} (h : GrS w lo gg v A c st rb n M) (hi : i < n) (hn : n ≤ 1000000) :
 Calls Tryz.prog 137 #[.pointer (some ⟨gg, 0, none⟩), .int .i64 (i : Int)] w fun e w' => e = .returned (.bool (undoF M st n i)) ∧ Below w.heap.size w w' := by
 obtain ⟨ga, cap, rfl, _⟩ := h.gr.ahead (by omega)
 have HH := Aside0.mk h
 have hc1 : Aside0 (∀ W k, k < n → Below w.heap.size w W → Calls Tryz.prog 175 #[.pointer (some ⟨gg, 0, none⟩), .int .i64 (k : Int)] W fun e w' => e = .returned (.bool (standsF st k)) ∧ Below W.heap.size W w') :=
  ⟨fun W k hk hb => stands_calls (i := k) (h.on hb).gr.box (h.on hb).st_ (by rw [h.len]; exact hk)⟩
 have hc0 := Aside0.mk (hc1.out w i hi (Below.refl _ _))
 have HF : Aside0 (undoF M st n i = (standsF st i && allF (fun k => M k i) (fun k => !standsF st k) n)) := ⟨rfl⟩
 clear h
 generalize undoF M st n i = rr at *
 go_enter Tryz.func137, Tryz.ntmps137
 cases h1 : standsF st i
 · rw [h1] at hc0 HF
   go_wp2_with (first | (go_at_call 175; refine hc0.out.mono ?_; rintro e w1 ⟨rfl, hb1⟩))
   go_ret
   rw [HF.out]
   exact ⟨rfl, hb1⟩
 · rw [h1, Bool.true_and] at HF
   rw [h1] at hc0
   go_wp2_with (first | (go_at_call 175; refine hc0.out.mono ?_; rintro e w1 ⟨rfl, hb1⟩; have HB1 := Aside0.mk hb1; have hq := row_cell (j := 0) (HH.out.on hb1).gr.box rfl; clear hb1))
   go_loopw [15] (fun v15 wr => ∃ k : Nat, k ≤ n ∧ v15 = .int .i64 (k : Int) ∧ (∀ j, j < k → M j i = true → (!standsF st j) = true) ∧ Below w.heap.size w wr) (fun v15 _ => n - (intOf v15).toNat)
   case atStart => exact ⟨0, Nat.zero_le _, rfl, fun j hj => absurd hj (Nat.not_lt_zero _), HB1.out⟩
   case round =>
    obtain ⟨k, hk, rfl, hal, hB⟩ := hrel
    have HG := Aside0.mk (And.intro hal hB)
    clear hal hB hq
    by_cases hlt : k < n
    · have hd2 : decide ((k : Int) < (n : Int)) = true := decide_eq_true (by omega)
      have hcall := Aside0.mk (hc1.out _ k hlt HG.out.2)
      have hh := (HH.out.on HG.out.2).gr
      have hq := row_cell (j := 0) hh.box rfl
      have hsl := hh.slot hlt
      have hcm := hh.at_ hlt hi
      clear hh
      cases hm : M k i
      · rw [hm] at hcm
        go_wp2
        go_roundw
        case rel => exact ⟨k + 1, hlt, by go_num, step_le HG.out.1 (fun h1 => by rw [hm] at h1; cases h1), HG.out.2⟩
        case measure => simp [intOf]; omega
      · rw [hm] at hcm
        cases hpk : standsF st k
        · rw [hpk] at hcall
          go_wp2_with (first | (go_at_call 175; refine hcall.out.mono ?_; rintro e w1 ⟨rfl, hb1⟩))
          go_roundw
          case rel => exact ⟨k + 1, hlt, by go_num, step_le HG.out.1 (fun _ => by rw [hpk]; rfl), on_ HG.out.2 hb1⟩
          case measure => simp [intOf]; omega
        · rw [hpk] at hcall
          have HX : Aside0 (rr = false) := ⟨by rw [HF.out]; exact allF_false (M := fun k => M k i) hlt hm (by rw [hpk]; rfl)⟩
          go_wp2_with (first | (go_at_call 175; refine hcall.out.mono ?_; rintro e w1 ⟨rfl, hb1⟩))
          go_ret
          rw [HX.out]
          exact ⟨rfl, on_ HG.out.2 hb1⟩
    · have hk' : k = n := by omega
      subst hk'
      have hd2 : decide ((k : Int) < (k : Int)) = false := decide_eq_false (by omega)
      have HX : Aside0 (rr = true) := ⟨by rw [HF.out]; exact allF_true (M := fun k => M k i) HG.out.1⟩
      go_wp2
      go_ret
      rw [HX.out]
      exact ⟨rfl, HG.out.2⟩
end

/-- Is a state none? -/
def oddS (s : Int) : Bool := decide (s < 0) || decide (5 < s)
set_option maxHeartbeats 4000000 in
set_option maxRecDepth 100000 in
theorem odd_calls (s : Int) (w : World) : Calls Tryz.prog 171 #[.int .i64 s] w fun e w' => e = .returned (.bool (oddS s)) ∧ Below w.heap.size w w' := by
 have HF : Aside0 (oddS s = (decide (s < 0) || decide (5 < s))) := ⟨rfl⟩
 generalize oddS s = rr at *
 go_enter Tryz.func171, Tryz.ntmps171
 by_cases h1 : s < 0
 · have hd1 : decide (s < 0) = true := decide_eq_true h1
   rw [hd1] at HF
   clear h1
   go_wp2
   go_ret
   rw [HF.out]
   exact ⟨rfl, Below.refl _ _⟩
 · have hd1 : decide (s < 0) = false := decide_eq_false h1
   rw [hd1, Bool.false_or] at HF
   clear h1
   by_cases h2 : 5 < s
   · have hd2 : decide (5 < s) = true := decide_eq_true h2
     rw [hd2] at HF
     clear h2
     go_wp2
     go_ret
     rw [HF.out]
     exact ⟨rfl, Below.refl _ _⟩
   · have hd2 : decide (5 < s) = false := decide_eq_false h2
     rw [hd2] at HF
     clear h2
     go_wp2
     go_ret
     rw [HF.out]
     exact ⟨rfl, Below.refl _ _⟩
theorem odd_tells (w : World) (st : List Int) : TellsI w 171 #[] oddS st := fun W k _ _ => odd_calls k W
def stsOk (st : List Int) (n : Nat) : Bool := decide (st.length = n) && !st.any oddS

set_option maxHeartbeats 4000000 in
set_option maxRecDepth 100000 in
theorem with_nil (A : Option Addr) (n c : Nat) (w : World) : Calls Tryz.prog 132 #[.pointer none, .slice A n c] w fun e w' => e = .returned (.pointer none) ∧ Below w.heap.size w w' := by
 go_enter Tryz.func132, Tryz.ntmps132
 go_wp2
 go_ret
 exact ⟨rfl, Below.refl _ _⟩

/-- What with gives. -/
def WithAt (w w' : World) (e : Ending) (lo gg : Nat) (v : Value) (A : Option Addr) (c : Nat) (st : List Int) (rb : Nat → Nat) (n : Nat) (M : Nat → Nat → Bool) (ok : Bool) : Prop :=
 if ok = true then e = .returned (.pointer (some ⟨gg, 0, none⟩)) ∧ GrS w' lo gg v A c st rb n M else e = .returned (.pointer none)
set_option maxHeartbeats 4000000 in
set_option maxRecDepth 100000 in
theorem with_calls (lo gg : Nat) (v vs : Value) (A : Option Addr) (c : Nat) (st : List Int) (rb : Nat → Nat) (n : Nat) (M : Nat → Nat → Bool) (w : World) (hg : Gr w lo gg v vs rb n n M) (hs : ∀ W, Chg (· = gg) w W → Kd.C (Kd.int .i64) W A st.length st) (hl : st.length ≤ 9000000000000000000) (hn : 0 < n) :
 Calls Tryz.prog 132 #[.pointer (some ⟨gg, 0, none⟩), .slice A st.length c] w fun e w' => WithAt w w' e lo gg v A c st rb n M (stsOk st n) ∧ Chg (· = gg) w w' := by
 obtain ⟨ga, cap, rfl, _⟩ := hg.ahead hn
 have HG := Aside0.mk (And.intro hg hs)
 have eg : ∀ args w, (callFunc 171 args).run Tryz.prog w = .ok (.enter 171 args) w := fun _ _ => by kernel_rfl
 have hc := Aside0.mk (containsI_calls 171 #[] oddS st A c w eg (odd_tells w st) (hs w (Chg.refl _ _)) hl)
 have hq := row_cell (j := 0) hg.box rfl
 have HF : Aside0 (stsOk st n = (decide (st.length = n) && !st.any oddS)) := ⟨rfl⟩
 clear hg hs eg
 generalize stsOk st n = rr at *
 generalize st.any oddS = b2 at *
 go_enter Tryz.func132, Tryz.ntmps132
 by_cases h1 : st.length = n
 · have hd1 : ((st.length : Int) != (n : Int)) = false := bne_eq_false_iff_eq.2 (by omega)
   rw [decide_eq_true h1, Bool.true_and] at HF
   replace h1 := Aside0.mk h1
   cases b2
   · go_wp2_with (first | (go_at_call 74; refine hc.out.mono ?_; rintro e w1 ⟨rfl, hb1⟩; have HB1 := Aside0.mk hb1; have hq1 := row_cell (j := 1) (HG.out.1.on hb1).box rfl; have hf1 := free_of_row (j := 1) (HG.out.1.on hb1).box; clear hb1))
     go_ret
     have hch : Chg (· = gg) w (w1.setCell ⟨gg, 1, none⟩ (.slice A st.length c)) := (Chg.of_below HB1.out).trans (Chg.setCell w1 ⟨gg, 1, none⟩ _)
     refine ⟨?_, hch⟩
     rw [HF.out]
     exact ⟨rfl, (HG.out.1.on HB1.out).store _, HG.out.2 _ hch, h1.out⟩
   · go_wp2_with (first | (go_at_call 74; refine hc.out.mono ?_; rintro e w1 ⟨rfl, hb1⟩))
     go_ret
     rw [HF.out]
     exact ⟨rfl, Chg.of_below hb1⟩
 · have hd1 : ((st.length : Int) != (n : Int)) = true := bne_iff_ne.2 (by omega)
   rw [decide_eq_false h1, Bool.false_and] at HF
   clear h1
   go_wp2
   go_ret
   rw [HF.out]
   exact ⟨rfl, Chg.refl _ _⟩
end Go.Proofs.YtgjddnaidjbhlaaGreatDoor.Pl
