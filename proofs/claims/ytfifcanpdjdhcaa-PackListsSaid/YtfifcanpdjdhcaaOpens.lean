/- How an argument that came in is read as plain data of a kind: numbers, bools, strings, and slices of these; with the sizes that the form's reach tells. -/
import Derived.Test.YtfifcanpdjdhcaaWMore
import Derived.Test.YtfifcanpdjdhcaaWSized
import Derived.Carry
import Derived.ChangeOld
namespace Go.Proofs.Ytfifcanpdjdhcaa.Opening
open Go.ChangeShapes Go.WideShapes Go.RowKit Go.Proofs.YtfifcanpdjdhcaaW.PrintWords

/-- Whatever reads as data of a type is of the kind, and what the kind's values are bounded by holds. -/
structure Opens {α : Type} (P : Program) (t : TypeId) (d : Kd α) (B : α → Prop) : Prop where
  op : ∀ {H : Type} (enc : TypeId × Value → H) (w : World) (fuel : Nat) (cs : List Value) (x : DataW H × List MemPlace),
    DataW.trod enc P w 0 (fun _ => true) true fuel t cs = some x → (x.1.weights P t).all (· ≤ reachBytes) = true → ∃ a, d.K w a cs ∧ B a

section
variable {P : Program} {t e : TypeId}
theorem opens_int {k : IntKind} (ht : P.underlying t = some (.int k)) : Opens P t (Kd.int k) (fun n => (Lit.int k n).wf = true) :=
  ⟨fun enc w fuel cs x h _ => by
    obtain ⟨n, rfl, _, hw⟩ := DataW.trod_int ht h
    exact ⟨n, rfl, hw⟩⟩
theorem opens_bool (ht : P.underlying t = some .bool) : Opens P t Kd.bool (fun _ => True) :=
  ⟨fun enc w fuel cs x h _ => by
    obtain ⟨b, rfl, _⟩ := DataW.trod_bool ht h
    exact ⟨b, rfl, trivial⟩⟩
theorem opens_string (ht : P.underlying t = some .string) : Opens P t Kd.string (fun s => s.size ≤ 140737488351232) :=
  ⟨fun enc w fuel cs x h hz => by
    obtain ⟨s, rfl, hx, _⟩ := DataW.trod_string ht h
    refine ⟨s, rfl, ?_⟩
    rw [hx] at hz
    simp only [DataW.weights, List.all_cons, List.all_nil, Bool.and_true, decide_eq_true_eq] at hz
    rw [Array.length_toList] at hz
    exact hz⟩

theorem weights_all {H : Type} {P : Program} {e : TypeId} : ∀ (l : List (DataW H)) (d : DataW H), d ∈ l → ∀ n ∈ d.weights P e, n ∈ DataW.weightsAll P e l
  | [], _, h, _, _ => by simp at h
  | x :: r, d, h, n, hn => by
    simp only [DataW.weightsAll, List.mem_append]
    rcases List.mem_cons.1 h with h | h
    · subst h; exact Or.inl hn
    · exact Or.inr (weights_all r d h n hn)

/-- One list out of what holds at each place. -/
theorem list_of {α : Type} {n : Nat} {R : Nat → α → Prop} (h : ∀ i, i < n → ∃ a, R i a) : ∃ l : List α, l.length = n ∧ ∀ j a, l[j]? = some a → R j a := by
  induction n with
  | zero => exact ⟨[], rfl, fun j a hj => by simp at hj⟩
  | succ n ih =>
    obtain ⟨l, hl, hr⟩ := ih (fun i hi => h i (by omega))
    obtain ⟨a, ha⟩ := h n (by omega)
    refine ⟨l ++ [a], by simp [hl], fun j b hj => ?_⟩
    rcases Nat.lt_or_ge j l.length with hlt | hge
    · rw [List.getElem?_append_left hlt] at hj
      exact hr j b hj
    · have hj2 := (List.getElem?_eq_some_iff.1 hj).1
      rw [List.length_append, List.length_singleton] at hj2
      obtain rfl : j = l.length := by omega
      have : a = b := by simpa using hj
      subst this
      rw [hl]; exact ha

theorem opens_slice {α : Type} {d : Kd α} {B : α → Prop} (ht : P.underlying t = some (.slice e)) (hc : P.cellsOf e = d.sz) (h : Opens P e d B) :
    Opens P t (Kd.slice e d) (fun l => (∀ x ∈ l, B x) ∧ l.length * P.bytesOf e ≤ reachBytes) :=
  ⟨fun {H} enc w fuel cs x hx hz => by
    rcases DataW.trod_slice ht hx with ⟨rfl, _⟩ | ⟨a, len, cap, elems, rest, n, _, rfl, hxe, _, hl, hm, hlen, hel, _, _⟩
    · exact ⟨[], ⟨none, 0, rfl, Nat.le_refl _, rfl, Nat.zero_le _, fun h0 => absurd h0 (Nat.lt_irrefl _)⟩, by simp, by simp⟩
    · rw [hxe] at hz
      simp only [DataW.weights, ht, List.all_cons, Bool.and_eq_true, decide_eq_true_eq, List.all_append] at hz
      obtain ⟨hz0, hz1, _⟩ := hz
      have each : ∀ i, i < len → ∃ y : α, (∃ c, c.length = d.sz ∧ d.K w y c ∧ ∀ j u, c[j]? = some u → w.cell? (a.add (i * d.sz + j)) = some u) ∧ B y := by
        intro i hi
        have h1 := hel i hi
        have hi' : i < elems.length := by omega
        rw [List.getElem?_eq_getElem hi', Option.bind_eq_some_iff] at h1
        obtain ⟨c, h2, h3⟩ := h1
        have hw : (elems[i].1.weights P e).all (· ≤ reachBytes) = true := by
          rw [List.all_eq_true]
          intro m hmm
          exact List.all_eq_true.1 hz1 m (weights_all _ elems[i].1 (List.mem_map.2 ⟨elems[i], List.getElem_mem hi', rfl⟩) m hmm)
        obtain ⟨y, hy, hB⟩ := h.op enc w n c _ h3 hw
        obtain ⟨_, hcl, hcc⟩ := World.cells?_some h2
        rw [hc] at hcl hcc
        refine ⟨y, ⟨c, hcl, hy, fun j u hu => ?_⟩, hB⟩
        have hj : j < d.sz := by have := (List.getElem?_eq_some_iff.1 hu).1; omega
        have := hcc j hj
        rw [Addr.add_add] at this
        rw [this, hu]
      obtain ⟨l, hll, hr⟩ := list_of each
      refine ⟨l, ⟨some a, cap, by rw [hll], by omega, rfl, ?_, fun _ => ⟨a, rfl, fun j p hj => (hr j p hj).1⟩⟩, ?_, ?_⟩
      · have : len ≤ maxLen := Nat.le_trans hl hm
        rw [hll]
        exact this
      · intro y hy
        obtain ⟨j, hj⟩ := List.getElem?_of_mem hy
        exact (hr j y hj).2
      · rw [hll, ← hlen]
        have : elems.length * P.bytesOf e ≤ ((elems.map (·.1)).length + (rest.map (·.1)).length) * P.bytesOf e := Nat.mul_le_mul_right _ (by simp)
        omega⟩
end

section
variable {H : Type} {enc : TypeId × Value → H} {P : Program} {W : World} {t : TypeId} {v : Value} {D : DataW H} {ps : List MemPlace} {ts : List TypeId} {ds : List (DataW H)} {j : Nat}
/-- An argument, read. -/
theorem opened {α : Type} {d : Kd α} {B : α → Prop} (o : Opens P t d B) (hsz : (DataW.weightsEach P ts ds).all (· ≤ reachBytes) = true) (ht : ts[j]? = some t) (hd : ds[j]? = some D)
    (h : DataW.Trod enc P W 0 (fun _ => true) true t v D ps) : ∃ a, d.K W a v.cells.toList ∧ B a := by
  obtain ⟨fuel, hf⟩ := h
  refine o.op enc W fuel _ _ hf ?_
  rw [List.all_eq_true]
  intro n hn
  exact List.all_eq_true.1 hsz n (DataW.weights_mem_each ht hd n hn)
/-- A slice that came in. -/
theorem opened_slice {α : Type} {d : Kd α} {B : List α → Prop} {e : TypeId} {A : Option Addr} {n c : Nat} (o : Opens P t (Kd.slice e d) B) (hsz : (DataW.weightsEach P ts ds).all (· ≤ reachBytes) = true) (ht : ts[j]? = some t) (hd : ds[j]? = some D)
    (h : DataW.Trod enc P W 0 (fun _ => true) true t (.slice A n c) D ps) : ∃ l : List α, l.length = n ∧ n ≤ c ∧ d.C W A l.length l ∧ B l := by
  obtain ⟨l, ⟨A', c', he, hl, hC⟩, hB⟩ := opened o hsz ht hd h
  simp only [Value.cells, List.cons.injEq, Value.slice.injEq, and_true] at he
  obtain ⟨rfl, rfl, rfl⟩ := he
  exact ⟨l, rfl, hl, hC, hB⟩
end
end Go.Proofs.Ytfifcanpdjdhcaa.Opening
