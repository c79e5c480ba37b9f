/- PackNumbers: for every whole number, pack.Num answers twice what the reference answers, and the document's examples hold. No condition. -/
import Derived.Test.YtfifcanpdjdhcaaPPackNumbersx2
import Derived.Test.YtfifcanpdjdhcaaPk
namespace Go.Proofs.Ytfifcanpdjdhcaa.Pure
open Go.RowKit Go.Proofs.Ytfifcanpdjdhcaa.PPackNumbers Go.Proofs.YtfifcanpdjdhcaaW.PrintWords Go.Proofs.YtfifcanpdjdhcaaW.PrintLast

theorem PackNumbers_pack (a : Int) (k : Nat) (hk : 20 ≤ k) : pack_Num.f k a = some (Pk.num a) := by
  unfold pack_Num.f
  obtain ⟨k, rfl⟩ : ∃ m, k = m + 1 := ⟨k - 1, by omega⟩
  by_cases h0 : a < 0
  · rw [if_pos h0, Pk.num_bad (Or.inl h0), pack_Num.j0, if_pos rfl]
  · rw [if_neg h0]
    by_cases h1 : a > 1125899906842624
    · rw [Pk.num_bad (Or.inr h1), pack_Num.j0, if_pos (by simpa using h1)]
    · rw [Pk.num_ok (by omega) (by omega), pack_Num.j0, if_neg (by simpa using h1)]
      obtain ⟨n, rfl⟩ := Int.eq_ofNat_of_zero_le (show 0 ≤ a by omega)
      rw [Pk.pack_loop pack_Num.l0 (fun k x0 x4 => by rw [pack_Num.l0]) 7 n [] k (by omega) (by omega) (by simp), Int.toNat_natCast]
      rfl

theorem PackNumbers_ref (a : Int) (k : Nat) (hk : 20 ≤ k) : odysseyref03_Num.f k a = some (Pk.num a) := by
  unfold odysseyref03_Num.f
  obtain ⟨k, rfl⟩ : ∃ m, k = m + 1 := ⟨k - 1, by omega⟩
  by_cases h0 : a < 0
  · rw [if_pos h0, Pk.num_bad (Or.inl h0), odysseyref03_Num.j0, if_pos rfl]
  · rw [if_neg h0]
    by_cases h1 : a > 1125899906842624
    · rw [Pk.num_bad (Or.inr h1), odysseyref03_Num.j0, if_pos (by simpa using h1)]
    · rw [Pk.num_ok (by omega) (by omega), odysseyref03_Num.j0, if_neg (by simpa using h1)]
      obtain ⟨n, rfl⟩ := Int.eq_ofNat_of_zero_le (show 0 ≤ a by omega)
      rw [Pk.ref_loop odysseyref03_Num.l0 (fun k x0 x4 => by rw [odysseyref03_Num.l0]) 7 n ⟨#[]⟩ k (by omega) (by omega) (by omega) (by simp [ByteArray.size]), Int.toNat_natCast]
      rfl

theorem PackNumbers_live : odysseylaw03_live.f 20 = some true := by decide +kernel

theorem PackNumbers : odysseylaw03_PackNumbers.Pure := by
  intro a _
  refine ⟨20, ?_⟩
  unfold odysseylaw03_PackNumbers.f
  rw [PackNumbers_pack a 20 (Nat.le_refl _), PackNumbers_ref a 20 (Nat.le_refl _), PackNumbers_live]
  simp
end Go.Proofs.Ytfifcanpdjdhcaa.Pure
