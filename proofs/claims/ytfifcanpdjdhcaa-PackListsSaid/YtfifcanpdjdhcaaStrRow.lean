/- A row of bytes that began as a string's conversion, and that strings are appended to: its block bears a mark behind its last cell. -/
import Derived.Test.YtfifcanpdjdhcaaWMore
import Derived.Lib.AppendStr
import Derived.Lib.ConvBytes
import Derived.Laws.IdiomRangeMap
namespace Go.Proofs.Ytfifcanpdjdhcaa.StrRow
open Go.RowKit Go.Lib Go.Proofs.YtfifcanpdjdhcaaW.PrintWords Go.Proofs.YtfifcanpdjdhcaaW.PrintMore

/-- The value is a slice of just these bytes, in a block of the call's own, which bears no mark over its cells. -/
def BRow (w : World) (base : Nat) (e : TypeId) (v : Value) (s : List UInt8) : Prop :=
  ∃ g cap cur fr, v = .slice (some ⟨g, 0, none⟩) s.length cap ∧ base ≤ g ∧ w.heap[g]? = some (.cells cur e fr) ∧ (fr = (0, 0) ∨ cur.size ≤ fr.1) ∧ s.length ≤ cap ∧ cap ≤ maxLen ∧ cur.size = cap ∧
    cur.toList.take s.length = s.map fun b => Value.int .u8 b.toNat

section
variable {P : Program} {w : World} {base : Nat} {e : TypeId} {v : Value} {s : List UInt8}
theorem BRow.below {w1 : World} (h : BRow w base e v s) (hb : Below w.heap.size w w1) : BRow w1 base e v s := by
  obtain ⟨g, cap, cur, fr, h1, h2, h3, h4⟩ := h
  exact ⟨g, cap, cur, fr, h1, h2, (hb.block g (Array.getElem?_eq_some_iff.1 h3).1).trans h3, h4⟩
theorem BRow.lt (h : BRow w base e v s) : ∀ k, v.ownBlock = some k → base ≤ k ∧ k < w.heap.size := by
  obtain ⟨g, cap, cur, fr, rfl, h2, h3, _⟩ := h
  intro k hk
  simp only [Value.ownBlock, Option.some.injEq] at hk
  subst hk
  exact ⟨h2, (Array.getElem?_eq_some_iff.1 h3).1⟩
theorem BRow.slice (h : BRow w base e v s) : ∃ g cap, v = .slice (some ⟨g, 0, none⟩) s.length cap ∧ s.length ≤ cap := by
  obtain ⟨g, cap, cur, fr, h1, _, _, _, h5, _⟩ := h
  exact ⟨g, cap, h1, h5⟩

/-- What a conversion lays. -/
theorem BRow.made (w : World) (e : TypeId) (s : ByteArray) (hb : base ≤ w.heap.size) (hs : s.size ≤ maxLen) :
    BRow (bytesWorld w e s) base e (.slice (some ⟨w.heap.size, 0, none⟩) s.size (grownCap w s.size 0 e)) s.data.toList := by
  have hl : s.data.toList.length = s.size := by simp
  have hge := grownCap_ge w s.size 0 e
  have hsz : (bytesCells w e s).size = grownCap w s.size 0 e := by
    have : s.data.size = s.size := rfl
    simp only [bytesCells, Array.size_append, Array.size_map, Array.size_replicate]
    omega
  refine ⟨w.heap.size, grownCap w s.size 0 e, bytesCells w e s, _, by rw [hl], hb, bytesWorld_at_new w e s, Or.inr (Nat.le_refl _), by rw [hl]; exact hge, grownCap_le_maxLen w _ _ _ hs, hsz, ?_⟩
  rw [hl]
  simp only [bytesCells, Array.toList_append, Array.toList_map]
  rw [List.take_append_of_le_length (by rw [List.length_map, hl]; exact Nat.le_refl _), List.take_of_length_le (by rw [List.length_map, hl]; exact Nat.le_refl _)]
theorem bytesWorld_os (w : World) (e : TypeId) (s : ByteArray) : (bytesWorld w e s).os = w.os := by simp [bytesWorld, World.freeze, World.alloc, World.drew, -World.alloc_eq, -World.drew_eq]
theorem bytesWorld_tape (w : World) (e : TypeId) (s : ByteArray) : (bytesWorld w e s).tape = w.tape := by simp [bytesWorld, World.freeze, World.alloc, World.drew, -World.alloc_eq, -World.drew_eq]
theorem bytesWorld_output (w : World) (e : TypeId) (s : ByteArray) : (bytesWorld w e s).output = w.output := by simp [bytesWorld, World.freeze, World.alloc, World.drew, -World.alloc_eq, -World.drew_eq]
theorem bytes_below (w : World) (e : TypeId) (s : ByteArray) : Below w.heap.size w (bytesWorld w e s) :=
  ⟨bytesWorld_os w e s, bytesWorld_tape w e s, bytesWorld_output w e s, by rw [bytesWorld_size]; omega, fun i hi => bytesWorld_at_old w e s i hi⟩

theorem take_set_last {α : Type} (l : List α) (j : Nat) (v : α) (h : j < l.length) : (l.set j v).take (j + 1) = l.take j ++ [v] := by
  rw [List.take_succ_eq_append_getElem (by simpa using h), List.take_set, List.set_eq_of_length_le (by rw [List.length_take]; omega), List.getElem_set_self]

/-- Stores into such a block. -/
theorem stores (g o : Nat) (t : TypeId) (fr : Nat × Nat) : ∀ (vs : List Value) (i : Nat) (cur : Array Value) (w : World), w.heap[g]? = some (.cells cur t fr) → (fr = (0, 0) ∨ cur.size ≤ fr.1) → o + i + vs.length ≤ cur.size → (∀ v ∈ vs, v.oneCell' = true) →
    ∃ cur' w', (storeCells ⟨g, o, none⟩ vs i).run P w = .ok () w' ∧ w'.heap[g]? = some (.cells cur' t fr) ∧ cur'.size = cur.size ∧ cur'.toList.take (o + i + vs.length) = cur.toList.take (o + i) ++ vs ∧ w.grownBy w' (some g)
  | [], i, cur, w, hg, _, _, _ => ⟨cur, w, rfl, hg, rfl, by simp, ⟨rfl, rfl, rfl, Nat.le_refl _, fun _ _ _ => rfl⟩⟩
  | v :: r, i, cur, w, hg, hfr, hl, h1 => by
    have hi : o + i < cur.size := by simp at hl; omega
    have hadd : (⟨g, o, none⟩ : Addr).add i = ⟨g, o + i, none⟩ := by unfold Addr.add; split <;> simp_all
    have hcell : w.cell? ⟨g, o + i, none⟩ = some cur[o + i] := by simp [World.cell?, hg, hi]
    have hfro : w.frozen? ⟨g, o + i, none⟩ = false := by
      obtain ⟨lo, hi2⟩ := fr
      simp only [World.frozen?, hg]
      rcases hfr with hfr | hfr
      · simp only [Prod.mk.injEq] at hfr
        simp [hfr.1, hfr.2]
      · simp only at hfr
        simp
        omega
    have hst : (store ((⟨g, o, none⟩ : Addr).add i) v).run P w = .ok () (w.setRow g (cur.setIfInBounds (o + i) v)) := by
      rw [hadd, run_store P w _ v _ (h1 v (by simp)), hcell]
      simp [hfro, setCell_eq_setRow w g (o + i) cur t fr v hg]
    obtain ⟨cur', w', h2, h3, h4, h5, h6⟩ := stores g o t fr r (i + 1) (cur.setIfInBounds (o + i) v) (w.setRow g (cur.setIfInBounds (o + i) v)) (setRow_heap w g cur _ t _ hg) (by simpa using hfr) (by simp at hl ⊢; omega) (fun x hx => h1 x (by simp [hx]))
    refine ⟨cur', w', ?_, h3, by simpa using h4, ?_, ?_⟩
    · simp only [storeCells, Sem.run_bind, hst, Result.andThen_ok, h2]
    · rw [List.length_cons, show o + i + (r.length + 1) = o + (i + 1) + r.length from by omega, h5, Array.toList_setIfInBounds, show o + (i + 1) = o + i + 1 from by omega, take_set_last _ _ _ (by simpa using hi)]
      simp
    · refine ⟨h6.os, h6.tape, h6.output, by have := h6.size; simpa [World.setRow] using this, fun k hk hne => ?_⟩
      rw [h6.block k (by simpa [World.setRow] using hk) hne, setRow_other w g k _ (fun hkg => hne (by rw [hkg]))]

theorem strCells_map (x : ByteArray) : strCells x = x.data.toList.map fun b => Value.int .u8 b.toNat := rfl

/-- A string's bytes appended. -/
theorem append_bytes (t u ty e : TypeId) (i : TypeInfo) (ht : P.underlying t = some (.slice e)) (hu : P.underlying u = some .string) (hi : P.info? e = some i) (hz : i.zero = some (.int .u8 0))
    (hsize : i.size = 1) (hby : i.bytes = 1) (h : BRow w base e v s) (x : ByteArray) (hx : s.length + x.size ≤ 140737488355328) (hbase : base ≤ w.heap.size) :
    ∃ v' w', (Builtin.append_ #[t, u] ty #[v, .string x]).run P w = .ok v' w' ∧ BRow w' base e v' (s ++ x.data.toList) ∧ w.grownBy w' v.ownBlock := by
  have hxl : x.data.toList.length = x.size := by simp
  obtain ⟨g, cap, cur, fr, rfl, hbg, hg, hfr, hnc, hcm, hcs, htake⟩ := h
  by_cases hroom : s.length + x.size ≤ cap
  · obtain ⟨cur', w', h1, h2, h3, h4, h5⟩ := stores (P := P) g s.length e fr (strCells x) 0 cur w hg hfr (by rw [strCells_length]; omega) (strCells_oneCell x)
    have hf := run_firstCells_string (P := P) w 1 x
    refine ⟨.slice (some ⟨g, 0, none⟩) (s.length + x.size) cap, w', ?_, ?_, h5⟩
    · simp [Builtin.append_, run_underlying ht, run_underlying hu, sizeOf, typeInfo, hi, hsize, Builtin.lenOf, hroom, hf, Addr.add_lit, h1]
    · refine ⟨g, cap, cur', fr, by rw [List.length_append, hxl], hbg, h2, by rw [h3]; exact hfr, by rw [List.length_append, hxl]; exact hroom, hcm, by rw [h3]; exact hcs, ?_⟩
      rw [Nat.add_zero, strCells_length, htake] at h4
      rw [List.length_append, hxl, h4, List.map_append, strCells_map]
  · have holds : ∀ j u, (s.map fun b => Value.int .u8 b.toNat)[j]? = some u → w.cell? ((⟨g, 0, none⟩ : Addr).add j) = some u := by
      intro j u hj
      rw [← htake] at hj
      rw [List.getElem?_take] at hj
      split at hj
      · have : (⟨g, 0, none⟩ : Addr).add j = ⟨g, j, none⟩ := by unfold Addr.add; split <;> simp_all
        rw [this]
        simp only [World.cell?, hg]
        simpa using hj
      · cases hj
    have hr := run_append_grow_string (P := P) w t u ty e i (.int .u8 0) ht hu hi hz ⟨g, 0, none⟩ s.length cap (s.map fun b => Value.int .u8 b.toNat) (by rw [hsize]; simp) holds x (by omega) (by omega) (by rw [hby]; exact growslice_fits (by omega) (by omega))
    have hge := grownCap_ge w (s.length + x.size) cap e
    have hm : s.length + x.size ≤ maxLen := by simp only [maxLen]; omega
    have hml := grownCap_le_maxLen w (s.length + x.size) cap e hm
    refine ⟨_, _, hr, ⟨w.heap.size, grownCap w (s.length + x.size) cap e, _, (0, 0), by rw [List.length_append, hxl], hbase, heap_alloc_new w.drew _, Or.inl rfl, by rw [List.length_append, hxl]; exact hge, hml, ?_, ?_⟩, ⟨rfl, rfl, rfl, by simp, fun k hk _ => heap_alloc_old w.drew _ hk⟩⟩
    · have hz1 : (Value.int IntKind.u8 0).cells.size = 1 := rfl
      simp only [Array.size_append, List.size_toArray, size_zeroCells, hz1, List.length_map, strCells_length]
      omega
    · simp only [Array.toList_append, List.append_assoc]
      rw [← List.append_assoc, strCells_map, ← List.map_append, List.take_append_of_le_length (by rw [List.length_map]; exact Nat.le_refl _), List.take_of_length_le (by rw [List.length_map]; exact Nat.le_refl _)]

/-- The operation, for the walk. -/
theorem wpList_append_bytes {ops : Array Oper} {rest : List Oper} {o : Oper} {a : Act} {Q : Exit → Act → World → Prop} (hgd : o.guard = none) (sl x : Operand) (t u : TypeId)
    (ho : o.op = .call { callee := .builtin .append, args := #[sl, x], argTypes := #[t, u] })
    (base : Nat) (e : TypeId) (i : TypeInfo) (ht : P.underlying t = some (.slice e)) (hu : P.underlying u = some .string) (hi : P.info? e = some i) (hz : i.zero = some (.int .u8 0))
    (hsize : i.size = 1) (hby : i.bytes = 1) (v : Value) (s : List UInt8) (hs : a.eval sl = v) (hown : BRow w base e v s) (y : ByteArray) (hx : a.eval x = .string y)
    (hbytes : s.length + y.size ≤ 140737488355328) (hbase : base ≤ w.heap.size)
    (h : ∀ v' w', BRow w' base e v' (s ++ y.data.toList) → w.grownBy w' v.ownBlock → wpList P ops Q rest (a.put o.dst v') w') : wpList P ops Q (o :: rest) a w := by
  refine wpList_plain hgd fun K hK => ?_
  obtain ⟨v', w', hr, h2, h3⟩ := append_bytes (P := P) t u o.type e i ht hu hi hz hsize hby hown y hbytes hbase
  unfold Oper.wp execOp
  simp only [ho, resolve, invoke, builtin, Sem.run_bind, Sem.run_pure, Result.andThen_ok, List.map_toArray, List.map_cons, List.map_nil, hs, hx, hr]
  exact hK _ _ (h v' w' h2 h3)

theorem nums_string (l : List UInt8) : strOfNums (l.map fun b => (b.toNat : Int)) = ⟨l.toArray⟩ := by
  show (⟨((l.map fun b => (b.toNat : Int)).map fun n => UInt8.ofNat n.toNat).toArray⟩ : ByteArray) = _
  rw [List.map_map]
  congr 2
  conv => rhs; rw [← List.map_id l]
  apply List.map_congr_left
  intro b _
  simp
/-- string(b). -/
theorem string_of_row {src dst e : TypeId} (hs : P.underlying src = some (.slice e)) (he : P.underlying e = some (.int .u8)) (hd : P.underlying dst = some .string) (h : BRow w base e v s) :
    (convert src dst v).run P w = .ok (.string ⟨s.toArray⟩) w := by
  obtain ⟨g, cap, cur, fr, rfl, hbg, hg, hfr, hnc, hcm, hcs, htake⟩ := h
  have hr : ReadsInt w .u8 (some ⟨g, 0, none⟩) s.length (s.map fun b => (b.toNat : Int)) := by
    refine ⟨by simp, by simp only [maxLen] at hcm; omega, fun _ => ⟨_, rfl, fun j hj => ?_⟩⟩
    have : (⟨g, 0, none⟩ : Addr).add j = ⟨g, j, none⟩ := by unfold Addr.add; split <;> simp_all
    rw [this]
    have hc : cur.toList[j]? = some (Value.int .u8 (s[j].toNat)) := by
      have h1 : (cur.toList.take s.length)[j]? = some (Value.int .u8 (s[j].toNat)) := by rw [htake]; simp [hj]
      rw [List.getElem?_take, if_pos hj] at h1
      exact h1
    simp only [World.cell?, hg]
    rw [show (if ((⟨g, j, none⟩ : Addr).spot.isSome = true) then none else cur[(⟨g, j, none⟩ : Addr).off]?) = cur[j]? from rfl, ← Array.getElem?_toList, hc]
    simp [hj]
  have := string_of_reads (P := P) (c := cap) hs he hd hr
  rw [this, nums_string]
end
end Go.Proofs.Ytfifcanpdjdhcaa.StrRow
