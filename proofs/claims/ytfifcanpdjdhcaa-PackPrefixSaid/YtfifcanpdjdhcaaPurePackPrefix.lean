/- PackPrefix: no number's form is the beginning of another one: two forms that are followed by something and are alike then are the same, and so is what follows. No condition. -/
import Derived.Test.YtfifcanpdjdhcaaGx2
import Derived.Test.YtfifcanpdjdhcaaPkG
import Derived.Test.YtfifcanpdjdhcaaPkBack
namespace Go.Proofs.Ytfifcanpdjdhcaa.Pure
open Go.RowKit Go.IntWalk Go.Proofs.Ytfifcanpdjdhcaa.G Go.Proofs.YtfifcanpdjdhcaaW.PrintWords Go.Proofs.YtfifcanpdjdhcaaW.PrintLast

theorem Prefix_pure (a b : Int) (l : List ByteArray) (hl : ∀ s ∈ l, s.size ≤ 140737488351232) : odysseylaw03_PackPrefix.f 40 a b l = some true := by
  have hlive : ∀ k, 20 ≤ k → ((odysseylaw03_live.f k).bind fun t116 => (some t116)) = some true := fun k hk => by rw [PkG.live k hk]; rfl
  unfold odysseylaw03_PackPrefix.f
  rw [PkG.pack_num a _ (by omega), PkG.pack_num b _ (by omega)]
  simp only [Option.bind_some]
  by_cases ha : (Pk.num a).2 = 0
  · rw [if_pos ha]
    by_cases hb : (Pk.num b).2 = 0
    · rw [if_pos hb, odysseylaw03_PackPrefix.j0]
      by_cases h2 : (l.length : Int) < 2
      · rw [if_pos (by simpa using h2)]
        exact hlive _ (by omega)
      · have ha' : 0 ≤ a ∧ a ≤ 1125899906842624 := by
          by_cases hc : a < 0 ∨ a > 1125899906842624
          · rw [Pk.num_bad hc] at ha; simp at ha
          · omega
        have hb' : 0 ≤ b ∧ b ≤ 1125899906842624 := by
          by_cases hc : b < 0 ∨ b > 1125899906842624
          · rw [Pk.num_bad hc] at hb; simp at hb
          · omega
        obtain ⟨n, rfl⟩ := Int.eq_ofNat_of_zero_le ha'.1
        obtain ⟨m, rfl⟩ := Int.eq_ofNat_of_zero_le hb'.1
        obtain ⟨x, r, rfl⟩ : ∃ x r, l = x :: r := by
          cases l with
          | nil => simp at h2
          | cons x r => exact ⟨x, r, rfl⟩
        obtain ⟨y, r, rfl⟩ : ∃ y r', r = y :: r' := by
          cases r with
          | nil => simp at h2
          | cons y r => exact ⟨y, r, rfl⟩
        have hx := hl x (by simp)
        have hy := hl y (by simp)
        rw [if_neg (by simpa using h2), Pk.num_ok ha'.1 ha'.2, Pk.num_ok hb'.1 hb'.2]
        simp only [Int.toNat_natCast]
        have e0 : rdOf ByteArray.empty (x :: y :: r) 0 = x := rfl
        have e1 : rdOf ByteArray.empty (x :: y :: r) 1 = y := rfl
        have ln := Pk.enc_len8 (n := n) (by omega)
        have lm := Pk.enc_len8 (n := m) (by omega)
        have sn : (⟨(Pk.enc n).toArray⟩ : ByteArray).size = (Pk.enc n).length := by show (Pk.enc n).toArray.size = _; rw [List.size_toArray]
        have sm : (⟨(Pk.enc m).toArray⟩ : ByteArray).size = (Pk.enc m).length := by show (Pk.enc m).toArray.size = _; rw [List.size_toArray]
        rw [e0, e1, if_pos (by simp only [List.length_cons] at h2 ⊢; omega), if_pos (by rw [sn]; omega), if_pos (by simp only [List.length_cons] at h2 ⊢; omega), if_pos (by rw [sm]; omega)]
        have hu : ((⟨(Pk.enc n).toArray⟩ : ByteArray) ++ x).data.toList = Pk.enc n ++ x.data.toList := by rw [Pk.mk_append]
        have hv : ((⟨(Pk.enc m).toArray⟩ : ByteArray) ++ y).data.toList = Pk.enc m ++ y.data.toList := by rw [Pk.mk_append]
        have hsz : ((⟨(Pk.enc n).toArray⟩ : ByteArray) ++ x).size ≤ 1000000000000000 := by rw [ByteArray.size_append, sn]; omega
        have tu : Pk.takeNum ((⟨(Pk.enc n).toArray⟩ : ByteArray) ++ x) 0 = _ := Pk.takeNum_enc (s := (⟨(Pk.enc n).toArray⟩ : ByteArray) ++ x) (a := 0) (n := n) (rest := x.data.toList) (Nat.zero_le _) (by rw [List.drop_zero]; exact hu) (by omega)
        rw [PkG.pack_takeNum _ hsz _ _ (by omega), Option.bind_some, tu]
        simp only [Nat.zero_add, sn]
        rw [hlive _ (by omega)]
        by_cases huv : ((⟨(Pk.enc n).toArray⟩ : ByteArray) ++ x).toList = ((⟨(Pk.enc m).toArray⟩ : ByteArray) ++ y).toList
        · rw [if_pos huv]
          have hb2 : ((⟨(Pk.enc n).toArray⟩ : ByteArray) ++ x) = ((⟨(Pk.enc m).toArray⟩ : ByteArray) ++ y) := by
            rw [ByteArray.toList_eq, ByteArray.toList_eq] at huv
            exact Pk.bytes_ext huv
          have tv : Pk.takeNum ((⟨(Pk.enc m).toArray⟩ : ByteArray) ++ y) 0 = _ := Pk.takeNum_enc (s := (⟨(Pk.enc m).toArray⟩ : ByteArray) ++ y) (a := 0) (n := m) (rest := y.data.toList) (Nat.zero_le _) (by rw [List.drop_zero]; exact hv) (by omega)
          rw [← hb2, tu] at tv
          have hnm : n = m := by
            have := congrArg Prod.fst tv
            simp only at this
            omega
          subst hnm
          have hxy : x = y := by
            apply Pk.bytes_ext
            have := congrArg (fun s : ByteArray => s.data.toList) hb2
            simp only [hu, hv] at this
            exact List.append_cancel_left this
          subst hxy
          rw [if_pos rfl, if_pos rfl]; rfl
        · rw [if_neg huv]; rfl
    · rw [if_neg hb, odysseylaw03_PackPrefix.j0, if_pos rfl]
      exact hlive _ (by omega)
  · rw [if_neg ha, odysseylaw03_PackPrefix.j0, if_pos rfl]
    exact hlive _ (by omega)

theorem PackPrefix_walk (a0 a1 : Int) (A2 : Option Addr) (c2 : Nat) (l2 : List ByteArray) (w : World) (_ : (Lit.int .i64 a0).wf = true) (_ : (Lit.int .i64 a1).wf = true)
    (hc : l2.length ≤ c2) (hr : Kd.C Kd.string w A2 l2.length l2) (hb : (∀ x ∈ l2, x.size ≤ 140737488351232) ∧ l2.length * Try.prog.bytesOf 9 ≤ reachBytes) :
    Calls Try.prog 4 #[.int .i64 a0, .int .i64 a1, .slice A2 l2.length c2] w fun e w' => e = .returned (.bool true) ∧ Below w.heap.size w w' :=
  odysseylaw03_PackPrefix.calls 40 a0 a1 A2 c2 l2 true w hr hc ⟨rfl⟩ (Prefix_pure a0 a1 l2 hb.1)
end Go.Proofs.Ytfifcanpdjdhcaa.Pure
