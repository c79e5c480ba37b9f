/- pack.join: the bytes of all pieces, one behind the other; through strings.Join's contract. -/
import Derived.Test.YtfifcanpdjdhcaaShelf
import Derived.Test.YtfifcanpdjdhcaaWMore
import Derived.WalkKit
import Derived.KernelRfl
namespace Go.Proofs.Ytfifcanpdjdhcaa.Joins
open Go.RowKit Go.Proofs.YtfifcanpdjdhcaaW.PrintWords Go.Proofs.YtfifcanpdjdhcaaW.PrintMore

/-- The bytes of all pieces. -/
def cat (l : List ByteArray) : List UInt8 := (l.map (·.data.toList)).flatten
theorem join_cat (l : List ByteArray) : Lib.join (l.map (·.data.toList)) [] = cat l := by
  cases l with
  | nil => rfl
  | cons x r =>
    rw [List.map_cons, Lib.join_cons]
    simp [cat, Lib.joinTail]
    rfl
def pack_join.f (l0 : List ByteArray) : Option (ByteArray) := if (cat l0).length ≤ 140737488355328 ∧ l0.length ≤ 140737488355328 then some ⟨(cat l0).toArray⟩ else none

theorem spot_none {w : World} {a : Addr} {v : Value} (h : w.cell? a = some v) : a = ⟨a.block, a.off, none⟩ := by
  unfold World.cell? at h
  split at h
  · split at h
    · cases h
    · rename_i hs
      cases a with
      | mk b o s => cases s with
        | none => rfl
        | some x => simp at hs
  · cases h

theorem strings_join (A0 : Option Addr) (c0 : Nat) (l0 : List ByteArray) (w : World) (hr0 : Kd.C Kd.string w A0 l0.length l0) (hc0 : l0.length ≤ c0) (hl : (cat l0).length ≤ 140737488355328) (hn : l0.length ≤ 140737488355328) :
    Calls Try.prog 26 #[.slice A0 l0.length c0, .string ⟨#[]⟩] w fun e w' => e = .returned (.string ⟨(cat l0).toArray⟩) ∧ Below w.heap.size w w' := by
  cases hl0 : l0 with
  | nil =>
    refine (Try.strings_Join_none A0 c0 ⟨#[]⟩ w).mono fun e w' ⟨he, hw⟩ => ⟨he, hw ▸ Below.refl _ _⟩
  | cons x r =>
    rw [← hl0]
    obtain ⟨ad, rfl, hcell⟩ := hr0.2.2 (by rw [hl0]; simp)
    have each : ∀ (j : Nat) y, l0[j]? = some y → w.cell? (ad.add j) = some (.string y) := by
      intro j y hy
      obtain ⟨c, hcl, hk, hcc⟩ := hcell j y hy
      have hk' : c = [.string y] := hk
      have := hcc 0 (.string y) (by rw [hk']; rfl)
      rw [show j * Kd.string.sz + 0 = j from Nat.mul_one j] at this
      exact this
    have h0 := each 0 x (by rw [hl0]; rfl)
    rw [show ad.add 0 = ad from by simp [Addr.add]] at h0
    have hsp := spot_none h0
    have hlt : ad.block < w.heap.size := World.block_lt_of_cell? w _ h0
    have := Try.strings_Join ad.block ad.off c0 l0 ⟨#[]⟩ w (fun j y hy => by
      have h1 := each j y hy
      rw [hsp] at h1
      by_cases hj : j = 0
      · subst hj; simpa [Addr.add] using h1
      · simpa [Addr.add, hj] using h1) hlt hn hc0 (by rw [show (⟨#[]⟩ : ByteArray).data.toList = [] from rfl, join_cat]; exact hl)
    rw [show (⟨#[]⟩ : ByteArray).data.toList = [] from rfl, join_cat, ← hsp] at this
    exact this

set_option maxHeartbeats 400000 in
theorem pack_join.calls (A0 : Option Addr) (c0 : Nat) (l0 : List ByteArray) (r : ByteArray) (w : World) (hr0 : Kd.C Kd.string w A0 l0.length l0) (hc0 : l0.length ≤ c0) (h : pack_join.f l0 = some r) :
    Calls Try.prog 25 #[.slice A0 l0.length c0] w fun e w' => e = .returned (.string r) ∧ Below w.heap.size w w' := by
  unfold pack_join.f at h
  by_cases hl : (cat l0).length ≤ 140737488355328 ∧ l0.length ≤ 140737488355328
  · rw [if_pos hl] at h
    obtain rfl := Option.some.inj h
    have HJ := fun W => strings_join A0 c0 l0 W
    have HC := Aside0.mk hr0
    have HN := Aside0.mk hc0
    have HL := Aside0.mk hl
    clear hr0 hc0 h hl
    go_enter Try.func25, Try.ntmps25
    go_wp2_with (go_at_call 26; refine (HJ _ HC.out HN.out HL.out.1 HL.out.2).mono ?_; rintro e w' ⟨rfl, hb⟩)
    go_ret
    exact ⟨rfl, hb⟩
  · rw [if_neg hl] at h; cases h
end Go.Proofs.Ytfifcanpdjdhcaa.Joins
