/- PackTakes: of any bytes at any place TakeNum, TakeText and TakeList answer what the reference answers, twice, and what came out is the caller's to write into. No condition. -/
import Derived.Test.YtfifcanpdjdhcaaPkBase
namespace Go.Proofs.Ytfifcanpdjdhcaa.Pure
open Go.RowKit Go.Proofs.Ytfifcanpdjdhcaa.PPackTakes Go.Proofs.YtfifcanpdjdhcaaW.PrintWords Go.Proofs.YtfifcanpdjdhcaaW.PrintLast

theorem PackTakes_write (s : ByteArray) (hs : s.size ≤ 140737488351232) (a : Int) (L : List ByteArray) (b c : Int) (hL : (L, b, c) = Pk.takeList s a) :
    ∀ (n i k : Nat) (l : List ByteArray), l.length = L.length → i + n = l.length → n + 4200 < k → odysseylaw03_PackTakes.l0 k s a l L b c (i : Int) = some true := by
  have hlen := Pk.takeList_len s a
  rw [← hL] at hlen
  simp only at hlen
  intro n
  induction n with
  | zero =>
    intro i k l hl hi hk
    obtain ⟨k, rfl⟩ : ∃ m, k = m + 1 := ⟨k - 1, by omega⟩
    rw [odysseylaw03_PackTakes.l0, if_neg (by omega), PkBase.pack_takeList s hs a k (by omega), Option.bind_some, ← hL]
    simp only
    rw [PkBase.same_list L L (by omega) k (by omega), PkBase.live k (by omega)]
    simp
  | succ n ih =>
    intro i k l hl hi hk
    obtain ⟨k, rfl⟩ : ∃ m, k = m + 1 := ⟨k - 1, by omega⟩
    rw [odysseylaw03_PackTakes.l0, if_pos (by omega), if_pos (by omega), Pk.wrap_up i (by omega)]
    exact ih (i + 1) k _ (by rw [List.length_set]; exact hl) (by rw [List.length_set]; omega) (by omega)

theorem PackTakes : odysseylaw03_PackTakes.Pure := by
  intro s a hs _
  refine ⟨8300, ?_⟩
  unfold odysseylaw03_PackTakes.f
  rw [PkBase.pack_takeNum s hs a _ (by omega), PkBase.ref_takeNum s hs a _ (by omega)]
  simp only [Option.bind_some, if_true, bne_self_eq_false]
  rw [odysseylaw03_PackTakes.j0, if_neg (by decide), PkBase.pack_takeText s hs a _ (by omega), PkBase.ref_takeText s hs a _ (by omega)]
  simp only [Option.bind_some, if_true, bne_self_eq_false]
  have hlen := Pk.takeList_len s a
  rw [odysseylaw03_PackTakes.j1, if_neg (by decide), PkBase.pack_takeList s hs a _ (by omega), PkBase.ref_takeList s hs a _ (by omega)]
  simp only [Option.bind_some, if_true, bne_self_eq_false]
  rw [PkBase.same_list _ _ (by omega) _ (by omega)]
  simp only [Option.bind_some, decide_true, if_true]
  rw [odysseylaw03_PackTakes.j2, if_neg (by decide)]
  exact PackTakes_write s hs a _ _ _ rfl (Pk.takeList s a).1.length 0 _ _ rfl (by simp) (by omega)
end Go.Proofs.Ytfifcanpdjdhcaa.Pure
