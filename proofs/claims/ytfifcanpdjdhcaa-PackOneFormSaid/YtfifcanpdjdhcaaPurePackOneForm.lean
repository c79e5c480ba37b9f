/- PackOneForm: what was read, written again, are the bytes that were read; and without the last of them it is cut. No condition. -/
import Derived.Test.YtfifcanpdjdhcaaGx5
import Derived.Test.YtfifcanpdjdhcaaPkG
import Derived.Test.YtfifcanpdjdhcaaPkBack
namespace Go.Proofs.Ytfifcanpdjdhcaa.Pure
open Go.RowKit Go.IntWalk Go.Proofs.Ytfifcanpdjdhcaa.G Go.Proofs.YtfifcanpdjdhcaaW.PrintWords Go.Proofs.YtfifcanpdjdhcaaW.PrintLast

theorem OneForm_last {l e rest : List UInt8} (he : e ≠ []) (h : l = e ++ rest) : ∃ p q, l.take (e.length - 1) = p ∧ p ++ q = e ∧ q ≠ [] := by
  refine ⟨_, e.drop (e.length - 1), rfl, ?_, ?_⟩
  · rw [h, List.take_append_of_le_length (by omega), List.take_append_drop]
  · intro hn
    have := List.length_pos_iff.2 he
    rw [List.drop_eq_nil_iff] at hn
    omega

theorem OneForm_cutbytes {s : ByteArray} {a : Nat} {e rest : List UInt8} (ha : a ≤ s.size) (he : e ≠ []) (h : s.data.toList.drop a = e ++ rest) :
    a ≤ (s.extract 0 (a + e.length - 1)).size ∧ ∃ p q, (s.extract 0 (a + e.length - 1)).data.toList.drop a = p ∧ p ++ q = e ∧ q ≠ [] := by
  have hp := List.length_pos_iff.2 he
  have hl := Pk.drop_len s a
  rw [h, List.length_append] at hl
  constructor
  · rw [ByteArray.size_extract]
    omega
  · have hx : (s.extract 0 (a + e.length - 1)).data.toList.drop a = (s.data.toList.drop a).take (e.length - 1) := by
      rw [Pk.extract_list, List.drop_zero, Nat.sub_zero, List.drop_take]
      congr 1
      omega
    rw [hx]
    exact OneForm_last he h

theorem OneForm_slice {s : ByteArray} {a : Nat} {e rest : List UInt8} (h : s.data.toList.drop a = e ++ rest) : (s.extract a (a + e.length)) = ⟨e.toArray⟩ := by
  apply Pk.bytes_ext
  rw [Pk.extract_list, h, show a + e.length - a = e.length from by omega, List.take_left]

theorem OneForm_list (s : ByteArray) (hs : s.size ≤ 140737488351232) (x : Int) (k : Nat) (hk : 4200 ≤ k) : odysseylaw03_PackOneForm.j1 k s x = some true := by
  obtain ⟨k, rfl⟩ : ∃ m, k = m + 1 := ⟨k - 1, by omega⟩
  rw [odysseylaw03_PackOneForm.j1, PkG.pack_takeList s (by omega) x k (by omega), Option.bind_some]
  by_cases h0 : (Pk.takeList s x).2.2 = 0
  · obtain ⟨a, L, rest, rfl, ha, hl, hls, hd, he⟩ := Pk.takeList_one h0
    rw [if_pos h0, he]
    simp only
    have hne : Pk.whole L ≠ [] := by unfold Pk.whole; intro h; exact Pk.enc_ne _ (List.append_eq_nil_iff.1 h).1
    have hpos := List.length_pos_iff.2 hne
    have hlen := Pk.drop_len s a
    rw [hd, List.length_append] at hlen
    rw [if_neg (by omega), if_neg (by omega)]
    obtain ⟨k, rfl⟩ : ∃ m, k = m + 1 := ⟨k - 1, by omega⟩
    rw [odysseylaw03_PackOneForm.j2, if_neg (by simp only [decide_eq_true_eq]; omega), PkG.pack_list L k (by omega), Option.bind_some, Pk.list_ok hl hls]
    have hw : wrap64 (((a + (Pk.whole L).length : Nat) : Int) - 1) = ((a + (Pk.whole L).length - 1 : Nat) : Int) := by rw [wrap64_in _ (by omega)]; omega
    rw [hw, if_pos (by omega), if_pos (by omega), Int.toNat_natCast]
    obtain ⟨hc1, p, q, hp1, hp2, hp3⟩ := OneForm_cutbytes ha hne hd
    have hsz : (s.extract 0 (a + (Pk.whole L).length - 1)).size ≤ 1000000000000000 := by rw [ByteArray.size_extract]; omega
    rw [PkG.pack_takeList _ hsz _ k (by omega), Option.bind_some, Pk.takeList_cut hc1 hp1 hp2 hp3 hl hls]
    rw [if_pos (by omega), if_pos (by omega), if_pos (by omega), Int.toNat_natCast, Int.toNat_natCast, OneForm_slice hd, PkG.live k (by omega)]
    simp
  · rw [if_neg h0, PkG.live k (by omega)]
    rfl

theorem PackOneForm : odysseylaw03_PackOneForm.Pure := by
  intro s x hs _
  refine ⟨4300, ?_⟩
  unfold odysseylaw03_PackOneForm.f
  rw [PkG.pack_takeNum s (by omega) x _ (by omega), Option.bind_some]
  by_cases h0 : (Pk.takeNum s x).2.2 = 0
  · obtain ⟨a, n, rest, rfl, ha, hn, hd, he⟩ := Pk.takeNum_one h0
    rw [if_pos h0, he]
    simp only
    have hne := Pk.enc_ne n
    have hpos := List.length_pos_iff.2 hne
    have hlen := Pk.drop_len s a
    rw [hd, List.length_append] at hlen
    rw [if_neg (by omega), if_neg (by omega), odysseylaw03_PackOneForm.j0, if_neg (by simp only [decide_eq_true_eq]; omega), PkG.pack_num _ _ (by omega), Option.bind_some, Pk.num_ok (by omega) (by omega), Int.toNat_natCast]
    have hw : wrap64 (((a + (Pk.enc n).length : Nat) : Int) - 1) = ((a + (Pk.enc n).length - 1 : Nat) : Int) := by rw [wrap64_in _ (by omega)]; omega
    rw [hw, if_pos (by omega), if_pos (by omega), Int.toNat_natCast]
    obtain ⟨hc1, p, q, hp1, hp2, hp3⟩ := OneForm_cutbytes ha hne hd
    have hsz : (s.extract 0 (a + (Pk.enc n).length - 1)).size ≤ 1000000000000000 := by rw [ByteArray.size_extract]; omega
    rw [PkG.pack_takeNum _ hsz _ _ (by omega), Option.bind_some, Pk.takeNum_cut hc1 hp1 hp2 hp3 hn]
    rw [if_pos (by omega), if_pos (by omega), if_pos (by omega), Int.toNat_natCast, Int.toNat_natCast, OneForm_slice hd]
    simp only [if_true]
    exact OneForm_list s hs a _ (by omega)
  · rw [if_neg h0]
    exact OneForm_list s hs x _ (by omega)
end Go.Proofs.Ytfifcanpdjdhcaa.Pure
