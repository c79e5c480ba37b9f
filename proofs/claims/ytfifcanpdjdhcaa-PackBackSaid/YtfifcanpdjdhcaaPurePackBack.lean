/- PackBack: what Num and List wrote is read again by TakeNum and TakeList, wherever it stands. No condition. -/
import Derived.Test.YtfifcanpdjdhcaaGx4
import Derived.Test.YtfifcanpdjdhcaaPkG
import Derived.Test.YtfifcanpdjdhcaaPkBack
namespace Go.Proofs.Ytfifcanpdjdhcaa.Pure
open Go.RowKit Go.IntWalk Go.Proofs.Ytfifcanpdjdhcaa.G Go.Proofs.YtfifcanpdjdhcaaW.PrintWords Go.Proofs.YtfifcanpdjdhcaaW.PrintLast

theorem size_mk (l : List UInt8) : (⟨l.toArray⟩ : ByteArray).size = l.length := by show l.toArray.size = _; rw [List.size_toArray]

theorem items_len : ∀ L : List ByteArray, (∀ t ∈ L, t.size ≤ 2000) → (Pk.items L).length ≤ 2008 * L.length
  | [], _ => by simp [Pk.items]
  | t :: L, h => by
    have h1 := items_len L (fun x hx => h x (List.mem_cons_of_mem _ hx))
    have h2 := Pk.item_len (h t List.mem_cons_self)
    rw [Pk.items_cons, List.length_append, List.length_cons]
    omega

theorem size_two (x y : ByteArray) : (x ++ y).size = x.size + y.size := by
  show (x ++ y).data.size = _
  rw [ByteArray.data_append, Array.size_append]
  rfl
theorem around_size1 (x : ByteArray) (e : List UInt8) : (x ++ (⟨e.toArray⟩ : ByteArray)).size = x.size + e.length := by rw [size_two, size_mk e]
theorem around_size (x : ByteArray) (e : List UInt8) : ((x ++ (⟨e.toArray⟩ : ByteArray)) ++ x).size = x.size + e.length + x.size := by rw [size_two, around_size1]
theorem around_drop (x : ByteArray) (e : List UInt8) : ((x ++ (⟨e.toArray⟩ : ByteArray)) ++ x).data.toList.drop x.size = e ++ x.data.toList := by
  rw [ByteArray.data_append, ByteArray.data_append, Array.toList_append, Array.toList_append, List.toList_toArray]
  have hl : x.data.toList.length = x.size := by simp
  rw [List.append_assoc, ← hl, List.drop_left]

theorem Back_list (L : List ByteArray) (x : ByteArray) (hx : x.size ≤ 140737488351232) (hL : L.length ≤ 140737488351232) (k : Nat) (hk : 4200 ≤ k) : odysseylaw03_PackBack.j0 k L x = some true := by
  have hlive : ∀ k, 20 ≤ k → ((odysseylaw03_live.f k).bind fun t116 => (some t116)) = some true := fun k hk => by rw [PkG.live k hk]; rfl
  obtain ⟨k, rfl⟩ : ∃ m, k = m + 1 := ⟨k - 1, by omega⟩
  rw [odysseylaw03_PackBack.j0, PkG.pack_list L k (by omega), Option.bind_some]
  by_cases h0 : (Pk.list L).2 = 0
  · obtain ⟨hl, ht⟩ := Pk.list_one h0
    have hi := items_len L ht
    have he := Pk.enc_len8 (n := L.length) (by omega)
    have hwl : (Pk.whole L).length ≤ 10000000 := by rw [Pk.whole, List.length_append]; omega
    rw [if_pos h0, Pk.list_ok hl ht]
    simp only [size_mk]
    rw [if_pos (by omega), if_pos (by rw [around_size1]; omega)]
    have hsz : ((x ++ (⟨(Pk.whole L).toArray⟩ : ByteArray)) ++ x).size ≤ 1000000000000000 := by rw [around_size]; omega
    rw [PkG.pack_takeList _ hsz _ k (by omega), Option.bind_some, Pk.takeList_enc (by rw [around_size]; omega) (around_drop x (Pk.whole L)) hl ht]
    simp only
    rw [PkG.same_list L L (by omega) k (by omega), Option.bind_some, hlive k (by omega), wrap64_in _ (by omega)]
    simp
  · rw [if_neg h0]
    exact hlive k (by omega)

theorem Back_pure (n : Int) (L : List ByteArray) (x : ByteArray) (hx : x.size ≤ 140737488351232) (hL : L.length ≤ 140737488351232) : odysseylaw03_PackBack.f 4300 n L x = some true := by
  unfold odysseylaw03_PackBack.f
  rw [PkG.pack_num n _ (by omega), Option.bind_some]
  by_cases h0 : (Pk.num n).2 = 0
  · have ha' : 0 ≤ n ∧ n ≤ 1125899906842624 := by
      by_cases hc : n < 0 ∨ n > 1125899906842624
      · rw [Pk.num_bad hc] at h0; simp at h0
      · omega
    obtain ⟨m, rfl⟩ := Int.eq_ofNat_of_zero_le ha'.1
    have he := Pk.enc_len8 (n := m) (by omega)
    rw [if_pos h0, Pk.num_ok ha'.1 ha'.2]
    simp only [Int.toNat_natCast, size_mk]
    rw [if_pos (by omega), if_pos (by rw [around_size1]; omega)]
    have hsz : ((x ++ (⟨(Pk.enc m).toArray⟩ : ByteArray)) ++ x).size ≤ 1000000000000000 := by rw [around_size]; omega
    rw [PkG.pack_takeNum _ hsz _ _ (by omega), Option.bind_some, Pk.takeNum_enc (by rw [around_size]; omega) (around_drop x (Pk.enc m)) (by omega)]
    simp only [if_true]
    rw [Back_list L x hx hL _ (by omega), wrap64_in _ (by omega)]
    simp
  · rw [if_neg h0]
    exact Back_list L x hx hL _ (by omega)

theorem PackBack_walk (a0 : Int) (A1 : Option Addr) (c1 : Nat) (l1 : List ByteArray) (a2 : ByteArray) (w : World) (_ : (Lit.int .i64 a0).wf = true)
    (hc : l1.length ≤ c1) (hr : Kd.C Kd.string w A1 l1.length l1) (hb : (∀ x ∈ l1, x.size ≤ 140737488351232) ∧ l1.length * Try.prog.bytesOf 9 ≤ reachBytes) (h2 : a2.size ≤ 140737488351232) :
    Calls Try.prog 8 #[.int .i64 a0, .slice A1 l1.length c1, .string a2] w fun e w' => e = .returned (.bool true) ∧ Below w.heap.size w w' := by
  have hB : Try.prog.bytesOf 9 = 16 := by kernel_rfl
  have hl : l1.length ≤ 140737488351232 := by
    have := hb.2
    rw [hB] at this
    have hr : reachBytes = 140737488351232 := rfl
    omega
  exact odysseylaw03_PackBack.calls 4300 a0 A1 c1 l1 a2 true w hr hc ⟨rfl⟩ (Back_pure a0 l1 a2 h2 hl)
end Go.Proofs.Ytfifcanpdjdhcaa.Pure
