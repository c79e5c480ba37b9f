/- odysseyref03.List answers what Pk.list says: the walk, by hand. -/
import Derived.Test.YtfifcanpdjdhcaaPkG
import Derived.Test.YtfifcanpdjdhcaaPkBack
import Derived.Test.YtfifcanpdjdhcaaStrRow
import Derived.LoopTactic
import Derived.Outline
namespace Go.Proofs.Ytfifcanpdjdhcaa.RefList
open Go.RowKit Go.IntWalk Go.Proofs.Ytfifcanpdjdhcaa.G Go.Proofs.YtfifcanpdjdhcaaW.PrintWords Go.Proofs.YtfifcanpdjdhcaaW.PrintLast Go.Proofs.YtfifcanpdjdhcaaW.PrintMore

def odysseyref03_List.f (l0 : List ByteArray) : Option (ByteArray × Int) := some (Pk.list l0)

theorem info5 : (Try.prog.info? 5).map (fun i => (i.zero, i.size, i.bytes)) = some (some (.int .u8 0), 1, 1) := by kernel_rfl

set_option maxHeartbeats 400000 in
theorem long_calls (A0 : Option Addr) (c0 : Nat) (l0 : List ByteArray) (w : World) (h : 4000 < l0.length) :
    Calls Try.prog 24 #[.slice A0 l0.length c0] w fun e w' => e = .returned (.tuple #[.string ⟨#[]⟩, .int .i64 2]) ∧ Below w.heap.size w w' := by
  have h1 : decide (4000 < l0.length) = true := decide_eq_true h
  have h2 : decide ((4000 : Int) < (l0.length : Int)) = true := decide_eq_true (by omega)
  have HH := Aside0.mk h
  clear h
  go_enter Try.func24, Try.ntmps24
  go_wp2
  go_ret2
  exact ⟨rfl, Below.refl _ _⟩

theorem items_len : ∀ L : List ByteArray, (∀ t ∈ L, t.size ≤ 2000) → (Pk.items L).length ≤ 2008 * L.length
  | [], _ => by simp [Pk.items]
  | t :: L, h => by
    have h1 := items_len L (fun x hx => h x (List.mem_cons_of_mem _ hx))
    have h2 := Pk.item_len (h t List.mem_cons_self)
    rw [Pk.items_cons, List.length_append, List.length_cons]
    omega
theorem size_mk (l : List UInt8) : (⟨l.toArray⟩ : ByteArray).size = l.length := by show l.toArray.size = _; rw [List.size_toArray]

/-- What holds at the loop's head. -/
def Head (w : World) (l0 : List ByteArray) (v6 v7 : Value) (wr : World) : Prop :=
  ∃ k : Nat, k ≤ l0.length ∧ v7 = .int .i64 k ∧ (∀ t ∈ l0.take k, t.size ≤ 2000) ∧ StrRow.BRow wr w.heap.size 5 v6 (Pk.enc l0.length ++ Pk.items (l0.take k)) ∧ Below w.heap.size w wr

set_option maxHeartbeats 1000000 in
theorem short_calls (A0 : Option Addr) (c0 : Nat) (l0 : List ByteArray) (w : World) (hr0 : Kd.C Kd.string w A0 l0.length l0) (hc0 : l0.length ≤ c0) (h : l0.length ≤ 4000) :
    Calls Try.prog 24 #[.slice A0 l0.length c0] w fun e w' => e = .returned (.tuple #[.string (Pk.list l0).1, .int .i64 (Pk.list l0).2]) ∧ Below w.heap.size w w' := by
  have h1 : decide (4000 < l0.length) = false := decide_eq_false (by omega)
  have h2 : decide ((4000 : Int) < (l0.length : Int)) = false := decide_eq_false (by omega)
  have HC := Aside0.mk hr0
  have HN := Aside0.mk hc0
  have HL := Aside0.mk h
  have hnum : odysseyref03_Num.f 20 (l0.length : Int) = some (Pk.num (l0.length : Int)) := PkG.ref_num _ 20 (Nat.le_refl _)
  rw [Pk.num_ok (by omega) (by omega), Int.toNat_natCast] at hnum
  have HNum := Aside0.mk hnum
  clear hr0 hc0 hnum
  have hcv : ∀ (W : World) (s : ByteArray), (convert 9 43 (.string s)).run Try.prog W = .ok (.slice (some ⟨W.heap.size, 0, none⟩) s.size (grownCap W s.size 0 5)) (Lib.bytesWorld W 5 s) :=
    fun W s => Lib.run_convert_string_bytes W _ _ _ s Try.underlying9 Try.underlying43 Try.underlying5
  go_enter Try.func24, Try.ntmps24
  go_wp2_with (go_at_call 11; refine (odysseyref03_Num.calls 20 _ _ _ _ HNum.out).mono ?_; rintro e w1 ⟨rfl, hb1⟩)
  clear hcv
  go_loopw [6, 7] (fun v6 v7 wr => Head w l0 v6 v7 wr) (fun _ v7 _ => l0.length - (intOf v7).toNat)
  case atStart =>
    refine ⟨0, Nat.zero_le _, rfl, by simp, ?_, hb1.trans ((StrRow.bytes_below w1 5 _).mono hb1.size)⟩
    have := StrRow.BRow.made (base := w.heap.size) w1 5 ⟨(Pk.enc l0.length).toArray⟩ hb1.size (by have := Pk.enc_len8 (n := l0.length) (by omega); show (Pk.enc l0.length).toArray.size ≤ maxLen; rw [List.size_toArray]; simp only [maxLen]; omega)
    simpa [Pk.items, ByteArray.size] using this
  case round =>
    obtain ⟨k, hk, rfl, ht, hrow, hB⟩ := hrel
    have HB := Aside0.mk hB
    have HR := Aside0.mk hrow
    have HT := Aside0.mk ht
    clear hB hrow ht
    by_cases hlt : k < l0.length
    · obtain ⟨ad, rfl, hcell0⟩ := Kd.at_string HC.out (k : Int) (by omega) (by omega)
      have hx : rdOf ByteArray.empty l0 (k : Int) = l0[k] := by unfold rdOf; simp [List.getD, List.getElem?_eq_getElem hlt]
      rw [hx, Int.toNat_natCast] at hcell0
      have hcell := (HB.out.cell (World.block_lt_of_cell? w _ hcell0)).trans hcell0
      clear hx hcell0
      have htext : odysseyref03_Text.f 20 l0[k] = some (Pk.text l0[k]) := PkG.ref_text _ 20 (Nat.le_refl _)
      have hmem : l0[k] ∈ l0 := List.getElem_mem hlt
      have hl0 := h
      by_cases hbig : l0[k].size > 2000
      · rw [Pk.text_long hbig] at htext
        have hfin : Pk.list l0 = (⟨#[]⟩, 2) := by
          unfold Pk.list
          rw [if_neg (by omega)]
          cases hT : Pk.texts l0 with
          | none => rfl
          | some t => exact absurd ((Pk.texts_some l0 t hT).1 _ hmem) (by omega)
        have HF := Aside0.mk hfin
        have HX := Aside0.mk htext
        clear hfin htext hmem hbig
        generalize l0[k] = x at *
        have hd1 : decide (k < l0.length) = true := decide_eq_true hlt
        have hd2 : decide ((k : Int) < (l0.length : Int)) = true := decide_eq_true (by omega)
        go_wp2_with (go_at_call 21; refine (odysseyref03_Text.calls 20 _ _ _ _ HX.out).mono ?_; rintro e w2 ⟨rfl, hb2⟩)
        go_ret2
        rw [HF.out]
        exact ⟨rfl, HB.out.trans (hb2.mono HB.out.size)⟩
      · have hitem := Pk.item_len (s := l0[k]) (by omega)
        rw [Pk.text_ok hbig] at htext
        have htake : l0.take (k + 1) = l0.take k ++ [l0[k]] := List.take_succ_eq_append_getElem hlt
        have hitems : Pk.items (l0.take (k + 1)) = Pk.items (l0.take k) ++ Pk.item l0[k] := by rw [htake]; unfold Pk.items; rw [List.map_append, List.flatten_append]; simp
        have hall : ∀ t ∈ l0.take (k + 1), t.size ≤ 2000 := by
          intro t hm
          rw [htake, List.mem_append, List.mem_singleton] at hm
          rcases hm with hm | rfl
          · exact HT.out t hm
          · omega
        have hlen : (Pk.enc l0.length ++ Pk.items (l0.take k)).length + (⟨(Pk.item l0[k]).toArray⟩ : ByteArray).size ≤ 140737488355328 := by
          have h1 := items_len (l0.take k) HT.out
          have h2 := Pk.enc_len8 (n := l0.length) (by omega)
          rw [List.length_take] at h1
          rw [List.length_append, size_mk]
          omega
        have HLEN := Aside0.mk hlen
        clear hlen
        have HI := Aside0.mk hitems
        have HA := Aside0.mk hall
        have HX := Aside0.mk htext
        clear hitems hall htext hmem hbig htake
        generalize hxx : l0[k] = x at *
        clear hxx
        obtain ⟨i0, hi, hz0, hz1, hz2⟩ := info_parts info5
        have HINF := Aside0.mk (And.intro hi (And.intro hz0 (And.intro hz1 hz2)))
        clear hi hz0 hz1 hz2
        have hd1 : decide (k < l0.length) = true := decide_eq_true hlt
        have hd2 : decide ((k : Int) < (l0.length : Int)) = true := decide_eq_true (by omega)
        go_wp2_with (first | (go_at_call 21; refine (odysseyref03_Text.calls 20 _ _ _ _ HX.out).mono ?_; rintro e w2 ⟨rfl, hb2⟩) | (at_builtin; refine StrRow.wpList_append_bytes rfl (.tmp 38) (.tmp 39) 43 9 rfl w.heap.size 5 i0 Try.underlying43 Try.underlying9 HINF.out.1 HINF.out.2.1 HINF.out.2.2.1 HINF.out.2.2.2 _ _ rfl (HR.out.below hb2) _ rfl HLEN.out (Nat.le_trans HB.out.size hb2.size) ?_; intro v' w3 hrow3 hg3))
        go_roundw
        case rel =>
          refine ⟨k + 1, hlt, by go_num, HA.out, ?_, ?_⟩
          · rw [HI.out, ← List.append_assoc]
            exact hrow3
          · have hlow := (HR.out.below hb2).lt
            exact (HB.out.trans (hb2.mono HB.out.size)).trans ⟨hg3.os, hg3.tape, hg3.output, hg3.size, fun j hj => hg3.block j (by have := HB.out.size; have := hb2.size; omega) (fun e => by have := hlow j e.symm; omega)⟩
        case measure => simp [intOf]; omega
    · have hke : k = l0.length := by omega
      have hrow := HR.out
      have ht := HT.out
      rw [hke, List.take_length] at hrow ht
      have hcs := StrRow.string_of_row (P := Try.prog) (src := 43) (dst := 9) Try.underlying43 Try.underlying5 Try.underlying9 hrow
      have hfin : Pk.list l0 = (⟨(Pk.enc l0.length ++ Pk.items l0).toArray⟩, 0) := by rw [Pk.list_ok HL.out ht]; rfl
      have HF := Aside0.mk hfin
      clear hrow ht hfin hke
      have hd1 : decide (k < l0.length) = false := decide_eq_false hlt
      have hd2 : decide ((k : Int) < (l0.length : Int)) = false := decide_eq_false (by omega)
      generalize (Pk.enc l0.length ++ Pk.items l0).toArray = z at *
      go_wp2
      go_ret2
      rw [HF.out]
      exact ⟨rfl, HB.out⟩

theorem odysseyref03_List.calls (A0 : Option Addr) (c0 : Nat) (l0 : List ByteArray) (r1 : ByteArray) (r2 : Int) (w : World) (hr0 : Kd.C Kd.string w A0 l0.length l0) (hc0 : l0.length ≤ c0) (h : odysseyref03_List.f l0 = some (r1, r2)) :
    Calls Try.prog 24 #[.slice A0 l0.length c0] w fun e w' => e = .returned (.tuple #[.string r1, .int .i64 r2]) ∧ Below w.heap.size w w' := by
  have he := Option.some.inj h
  by_cases hl : 4000 < l0.length
  · have e2 : Pk.list l0 = (⟨#[]⟩, 2) := by rw [Pk.list, if_pos hl]
    rw [e2] at he
    simp only [Prod.mk.injEq] at he
    obtain ⟨rfl, rfl⟩ := he
    exact long_calls A0 c0 l0 w hl
  · have := short_calls A0 c0 l0 w hr0 hc0 (by omega)
    rw [he] at this
    exact this
end Go.Proofs.Ytfifcanpdjdhcaa.RefList
