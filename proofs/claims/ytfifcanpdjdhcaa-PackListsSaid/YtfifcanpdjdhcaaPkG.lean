/- What the printed functions of chapter 3 answer, in the plain words of XPk and XPkTake (the texts of gprint.py). -/
import Derived.Test.YtfifcanpdjdhcaaGx4
import Derived.Test.YtfifcanpdjdhcaaPkList
import Derived.Laws.Strings
namespace Go.Proofs.Ytfifcanpdjdhcaa.PkG
open Go.RowKit Go.IntWalk Go.Proofs.Ytfifcanpdjdhcaa.G Go.Proofs.YtfifcanpdjdhcaaW.PrintWords Go.Proofs.YtfifcanpdjdhcaaW.PrintLast Go.Proofs.YtfifcanpdjdhcaaW.PrintMore

theorem pack_num (a : Int) (k : Nat) (hk : 20 ≤ k) : pack_Num.f k a = some (Pk.num a) := by
  unfold pack_Num.f
  obtain ⟨k, rfl⟩ : ∃ m, k = m + 1 := ⟨k - 1, by omega⟩
  by_cases h0 : a < 0
  · rw [if_pos h0, Pk.num_bad (Or.inl h0), pack_Num.j0, if_pos rfl]
  · rw [if_neg h0]
    by_cases h1 : a > 1125899906842624
    · rw [Pk.num_bad (Or.inr h1), pack_Num.j0, if_pos (by simpa using h1)]
    · rw [Pk.num_ok (by omega) (by omega), pack_Num.j0, if_neg (by simpa using h1)]
      obtain ⟨n, rfl⟩ := Int.eq_ofNat_of_zero_le (show 0 ≤ a by omega)
      rw [Pk.pack_loop pack_Num.l0 (fun k x0 x4 => by rw [pack_Num.l0]) 7 n [] k (by omega) (by omega) (by simp), Int.toNat_natCast]
      rfl

theorem live (k : Nat) (hk : 20 ≤ k) : odysseylaw03_live.f k = some true :=
  at_rounds (fun k => odysseylaw03_live.mono k) hk (by decide +kernel)

theorem pack_j2 (k : Nat) (hk : 0 < k) (x1 x7 x8 : Int) (b : Bool) : pack_TakeNum.j2 k x1 x7 x8 b = if b = true then (some (0, 0, 32)) else (if x7 > 1125899906842624 then (some (0, 0, 32)) else (some (x7, wrap64 ((wrap64 (x1 + x8)) + 1), 0))) := by
  obtain ⟨k, rfl⟩ : ∃ m, k = m + 1 := ⟨k - 1, by omega⟩
  rw [pack_TakeNum.j2]

theorem pack_take (s : ByteArray) (hs : s.size ≤ 1000000000000000) (a : Nat) (ha : a ≤ s.size) : ∀ (f n i k : Nat), i + f = 8 → n < 128 ^ i → f + 1 < k → a + i ≤ s.size →
    pack_TakeNum.l0 k s a n (mn 8 (wrap64 ((s.size : Int) - (a : Int)))) i = some (Pk.placed a (Pk.dec f n i (s.data.toList.drop (a + i)))) := by
  have hlim : mn 8 (wrap64 ((s.size : Int) - (a : Int))) = ((min 8 (s.size - a) : Nat) : Int) := by
    rw [Pk.wrap_sub _ _ ha hs]
    unfold mn
    split <;> omega
  rw [hlim]
  intro f
  induction f with
  | zero =>
    intro n i k hif hn hk hi
    obtain ⟨k, rfl⟩ : ∃ m, k = m + 1 := ⟨k - 1, by omega⟩
    rw [pack_TakeNum.l0, if_neg (by omega), Pk.wrap_sub _ _ ha hs, if_pos (by omega)]
    rfl
  | succ f ih =>
    intro n i k hif hn hk hi
    obtain ⟨k, rfl⟩ : ∃ m, k = m + 1 := ⟨k - 1, by omega⟩
    rw [pack_TakeNum.l0]
    by_cases hlt : a + i < s.size
    · obtain ⟨b, hb, hbt⟩ := Pk.bt_drop s (a + i) hlt
      have hb8 : b.toNat < 256 := b.toNat_lt
      rw [if_pos (by omega), Pk.wrap_add _ _ (by omega) (by omega), if_pos (by omega), if_pos (by omega), if_pos (Pk.wrap_7 i (by omega)), hbt, Pk.group n i _ (by omega) hn hb8, hb, Pk.dec]
      by_cases hc : b.toNat < 128
      · rw [if_neg (by omega), if_pos hc]
        rw [pack_j2 k (by omega), pack_j2 k (by omega), Nat.mod_eq_of_lt hc]
        have hw : wrap64 (wrap64 ((a : Int) + (i : Int)) + 1) = ((a + i + 1 : Nat) : Int) := by rw [Pk.wrap_add _ _ (by omega) (by omega), Pk.wrap_up _ (by omega)]
        rw [hw]
        generalize n + b.toNat * 128 ^ i = N
        by_cases h0 : b.toNat = 0
        · rw [if_pos (by omega)]
          by_cases hi0 : 0 < i
          · rw [if_pos (by simp; omega), if_pos (Or.inl ⟨h0, hi0⟩)]; rfl
          · rw [if_neg (by simp; omega)]
            by_cases hN : N > 1125899906842624
            · rw [if_pos (by omega), if_pos (Or.inr hN)]; rfl
            · rw [if_neg (by omega), if_neg (by omega)]; unfold Pk.placed; simp; omega
        · rw [if_neg (by omega), if_neg (by decide)]
          by_cases hN : N > 1125899906842624
          · rw [if_pos (by omega), if_pos (Or.inr hN)]; rfl
          · rw [if_neg (by omega), if_neg (by omega)]; unfold Pk.placed; simp; omega
      · rw [if_pos (by omega), if_neg hc, Pk.wrap_up _ (by omega)]
        have := ih (n + b.toNat % 128 * 128 ^ i) (i + 1) k (by omega) (Pk.group_lt n i _ hn) (by omega) (by omega)
        rw [show a + i + 1 = a + (i + 1) from by omega]
        exact this
    · rw [if_neg (by omega), Pk.wrap_sub _ _ ha hs, if_neg (by omega), Pk.bt_end s (a + i) (by omega)]
      rfl

theorem pack_takeNum (s : ByteArray) (hs : s.size ≤ 1000000000000000) (a : Int) (k : Nat) (hk : 20 ≤ k) : pack_TakeNum.f k s a = some (Pk.takeNum s a) := by
  unfold pack_TakeNum.f Pk.takeNum
  obtain ⟨k, rfl⟩ : ∃ m, k = m + 1 := ⟨k - 1, by omega⟩
  by_cases h0 : a < 0
  · rw [if_pos h0, if_pos (Or.inl h0), pack_TakeNum.j0, if_pos rfl]
  · rw [if_neg h0]
    by_cases h1 : a > (s.size : Int)
    · rw [if_pos (Or.inr h1), pack_TakeNum.j0, if_pos (by simpa using h1)]
    · rw [if_neg (by omega), pack_TakeNum.j0, if_neg (by simpa using h1)]
      obtain ⟨n, rfl⟩ := Int.eq_ofNat_of_zero_le (show 0 ≤ a by omega)
      exact pack_take s hs n (by omega) 8 0 0 k (by omega) (by decide) (by omega) (by omega)

/-- The body of both TakeText's. -/
theorem text_body (s : ByteArray) (hs : s.size ≤ 1000000000000000) (a : Int) :
    ((some (Pk.takeNum s a)).bind fun bt112 => (if bt112.2.2 = 0 then (if bt112.1 > 2000 then (some ((⟨#[]⟩ : ByteArray), (0 : Int), (32 : Int))) else (if bt112.1 > (wrap64 ((s.size : Int) - bt112.2.1)) then (some ((⟨#[]⟩ : ByteArray), 0, 31)) else (if 0 ≤ bt112.2.1 then (if bt112.2.1 ≤ (wrap64 (bt112.2.1 + bt112.1)) then (if (wrap64 (bt112.2.1 + bt112.1)) ≤ (s.size : Int) then (some (s.extract (bt112.2.1 : Int).toNat ((wrap64 (bt112.2.1 + bt112.1)) : Int).toNat, wrap64 (bt112.2.1 + bt112.1), 0)) else (none)) else (none)) else (none)))) else (some ((⟨#[]⟩ : ByteArray), 0, bt112.2.2)))) = some (Pk.takeText s a) := by
  rw [Option.bind_some]
  unfold Pk.takeText
  by_cases h0 : (Pk.takeNum s a).2.2 = 0
  · have := Pk.takeNum_ok h0
    rw [if_pos h0, if_pos h0]
    by_cases h1 : (Pk.takeNum s a).1 > 2000
    · rw [if_pos h1, if_pos h1]
    · rw [if_neg h1, if_neg h1, wrap64_in ((s.size : Int) - _) (by omega)]
      by_cases h2 : (Pk.takeNum s a).1 > (s.size : Int) - (Pk.takeNum s a).2.1
      · rw [if_pos h2, if_pos h2]
      · rw [if_neg h2, if_neg h2, wrap64_in _ (by omega), if_pos (by omega), if_pos (by omega), if_pos (by omega)]
  · rw [if_neg h0, if_neg h0]

theorem pack_takeText (s : ByteArray) (hs : s.size ≤ 1000000000000000) (a : Int) (k : Nat) (hk : 20 ≤ k) : pack_TakeText.f k s a = some (Pk.takeText s a) := by
  unfold pack_TakeText.f
  rw [pack_takeNum s hs a k hk]
  exact text_body s hs a
theorem pack_texts (s : ByteArray) (hs : s.size ≤ 1000000000000000) (m : Nat) (hm : m ≤ 4000) : ∀ (n i k : Nat) (a : Int) (l : List ByteArray), i + n = m → l.length = i → n + 20 < k →
    pack_TakeList.l0 k s a l (m : Int) (i : Int) = some (Pk.takeTexts s n a l) := by
  intro n
  induction n with
  | zero =>
    intro i k a l hi hl hk
    obtain ⟨k, rfl⟩ : ∃ m, k = m + 1 := ⟨k - 1, by omega⟩
    rw [pack_TakeList.l0, if_neg (by omega)]
    rfl
  | succ n ih =>
    intro i k a l hi hl hk
    obtain ⟨k, rfl⟩ : ∃ m, k = m + 1 := ⟨k - 1, by omega⟩
    rw [pack_TakeList.l0, if_pos (by omega), pack_takeText s hs a k (by omega), Option.bind_some, Pk.takeTexts]
    by_cases h0 : (Pk.takeText s a).2.2 = 0
    · rw [if_pos h0, if_pos h0, if_pos (by omega), Pk.wrap_up i (by omega)]
      exact ih (i + 1) k _ _ (by omega) (by simp; omega) (by omega)
    · rw [if_neg h0, if_neg h0]

theorem pack_takeList (s : ByteArray) (hs : s.size ≤ 1000000000000000) (a : Int) (k : Nat) (hk : 4100 ≤ k) : pack_TakeList.f k s a = some (Pk.takeList s a) := by
  unfold pack_TakeList.f Pk.takeList
  rw [pack_takeNum s hs a k (by omega), Option.bind_some]
  by_cases h0 : (Pk.takeNum s a).2.2 = 0
  · have := Pk.takeNum_ok h0
    rw [if_pos h0, if_pos h0]
    by_cases h1 : (Pk.takeNum s a).1 > 4000
    · rw [if_pos h1, if_pos h1]
    · rw [if_neg h1, if_neg h1]
      have := pack_texts s hs (Pk.takeNum s a).1.toNat (by omega) (Pk.takeNum s a).1.toNat 0 k (Pk.takeNum s a).2.1 [] (by omega) rfl (by omega)
      rw [Int.toNat_of_nonneg (by omega)] at this
      exact this
  · rw [if_neg h0, if_neg h0]

theorem same_loop (x y : List ByteArray) (hl : x.length = y.length) (hx : x.length ≤ 1000000000000000) : ∀ (n i k : Nat), i + n = x.length → n < k → x.take i = y.take i →
    odysseylaw03_same.l0 k x y (i : Int) = some (decide (x = y)) := by
  intro n
  induction n with
  | zero =>
    intro i k hi hk ht
    obtain ⟨k, rfl⟩ : ∃ m, k = m + 1 := ⟨k - 1, by omega⟩
    rw [odysseylaw03_same.l0, if_neg (by omega)]
    rw [List.take_of_length_le (by omega), List.take_of_length_le (by omega)] at ht
    simp [ht]
  | succ n ih =>
    intro i k hi hk ht
    obtain ⟨k, rfl⟩ : ∃ m, k = m + 1 := ⟨k - 1, by omega⟩
    have hix : i < x.length := by omega
    have hiy : i < y.length := by omega
    have ex : rdOf ByteArray.empty x (i : Int) = x[i] := by unfold rdOf; simp [List.getD, List.getElem?_eq_getElem hix]
    have ey : rdOf ByteArray.empty y (i : Int) = y[i] := by unfold rdOf; simp [List.getD, List.getElem?_eq_getElem hiy]
    rw [odysseylaw03_same.l0, if_pos (by omega), if_pos (by omega), if_pos (by omega), ex, ey]
    by_cases he : x[i] = y[i]
    · rw [if_pos (by rw [he]), Pk.wrap_up i (by omega)]
      exact ih (i + 1) k (by omega) (by omega) (by rw [List.take_succ_eq_append_getElem hix, List.take_succ_eq_append_getElem hiy, ht, he])
    · rw [if_neg]
      · have : x ≠ y := fun h => he (by subst h; rfl)
        simp [this]
      · intro h
        apply he
        rw [ByteArray.toList_eq, ByteArray.toList_eq] at h
        exact ByteArray.ext (Array.ext' h)

theorem same_list (x y : List ByteArray) (hx : x.length ≤ 1000000000000000) (k : Nat) (hk : x.length < k) : odysseylaw03_same.f k x y = some (decide (x = y)) := by
  unfold odysseylaw03_same.f
  by_cases hl : x.length = y.length
  · rw [if_pos (by omega)]
    exact same_loop x y hl hx x.length 0 k (by omega) hk rfl
  · rw [if_neg (by omega)]
    have : x ≠ y := fun h => hl (by rw [h])
    simp [this]

theorem ref_num (a : Int) (k : Nat) (hk : 20 ≤ k) : odysseyref03_Num.f k a = some (Pk.num a) := by
  unfold odysseyref03_Num.f
  obtain ⟨k, rfl⟩ : ∃ m, k = m + 1 := ⟨k - 1, by omega⟩
  by_cases h0 : a < 0
  · rw [if_pos h0, Pk.num_bad (Or.inl h0), odysseyref03_Num.j0, if_pos rfl]
  · rw [if_neg h0]
    by_cases h1 : a > 1125899906842624
    · rw [Pk.num_bad (Or.inr h1), odysseyref03_Num.j0, if_pos (by simpa using h1)]
    · rw [Pk.num_ok (by omega) (by omega), odysseyref03_Num.j0, if_neg (by simpa using h1)]
      obtain ⟨n, rfl⟩ := Int.eq_ofNat_of_zero_le (show 0 ≤ a by omega)
      rw [Pk.ref_loop odysseyref03_Num.l0 (fun k x0 x4 => by rw [odysseyref03_Num.l0]) 7 n ⟨#[]⟩ k (by omega) (by omega) (by omega) (by simp [ByteArray.size]), Int.toNat_natCast]
      rfl

theorem pack_text (s : ByteArray) (k : Nat) (hk : 20 ≤ k) : pack_Text.f k s = some (Pk.text s) := by
  unfold pack_Text.f Pk.text
  by_cases h0 : s.size > 2000
  · rw [if_pos (by omega), if_pos h0]
  · rw [if_neg (by omega), if_neg h0, pack_num _ k hk, Option.bind_some, Pk.num_ok (by omega) (by omega)]
    have hl := Pk.enc_len8 (n := s.size) (by omega)
    rw [Int.toNat_natCast, Joins.pack_join.f, Pk.cat_two, if_pos ⟨Pk.two_len hl h0, by simp⟩]
    rfl
theorem ref_text (s : ByteArray) (k : Nat) (hk : 20 ≤ k) : odysseyref03_Text.f k s = some (Pk.text s) := by
  unfold odysseyref03_Text.f Pk.text
  by_cases h0 : s.size > 2000
  · rw [if_pos (by omega), if_pos h0]
  · rw [if_neg (by omega), if_neg h0, ref_num _ k hk, Option.bind_some, Pk.num_ok (by omega) (by omega)]
    have hl := Pk.enc_len8 (n := s.size) (by omega)
    rw [Int.toNat_natCast, if_pos (by show (Pk.enc s.size).toArray.size + s.size ≤ _; rw [List.size_toArray]; omega), Pk.mk_append]

theorem pack_list_loop (l : List ByteArray) (hl : l.length ≤ 4000) : ∀ (n i k : Nat) (acc : List ByteArray), i + n = l.length → n + 20 < k → acc.length = i + 1 →
    (Joins.cat acc).length ≤ 8 + 2008 * i →
    pack_List.l0 k acc l (l.length : Int) (i : Int) = some (match Pk.texts (l.drop i) with | none => (⟨#[]⟩, 2) | some t => (⟨(Joins.cat acc ++ t).toArray⟩, 0)) := by
  intro n
  induction n with
  | zero =>
    intro i k acc hi hk ha hc
    obtain ⟨k, rfl⟩ : ∃ m, k = m + 1 := ⟨k - 1, by omega⟩
    rw [pack_List.l0, if_neg (by omega), Joins.pack_join.f, if_pos (by omega), Option.bind_some, List.drop_of_length_le (by omega)]
    simp [Pk.texts]
  | succ n ih =>
    intro i k acc hi hk ha hc
    obtain ⟨k, rfl⟩ : ∃ m, k = m + 1 := ⟨k - 1, by omega⟩
    have hix : i < l.length := by omega
    have ex : rdOf ByteArray.empty l (i : Int) = l[i] := by unfold rdOf; simp [List.getD, List.getElem?_eq_getElem hix]
    rw [pack_List.l0, if_pos (by omega), if_pos (by omega), if_pos (by omega), ex, pack_text _ k (by omega), Option.bind_some, List.drop_eq_getElem_cons hix, Pk.texts]
    by_cases h0 : l[i].size > 2000
    · rw [Pk.text_long h0, if_neg (by decide), if_pos h0]
    · rw [Pk.text_ok h0, if_neg h0]
      simp only [if_true]
      rw [if_pos (by omega), Pk.wrap_up i (by omega)]
      have hlen := Pk.item_len (s := l[i]) (by omega)
      rw [ih (i + 1) k _ (by omega) (by omega) (by simp; omega) (by rw [Pk.cat_snoc, List.length_append, show (⟨(Pk.item l[i]).toArray⟩ : ByteArray).data.toList = Pk.item l[i] from rfl]; omega), Pk.cat_snoc]
      cases Pk.texts (List.drop (i + 1) l) with
      | none => rfl
      | some t => simp

theorem pack_list (l : List ByteArray) (k : Nat) (hk : 4100 ≤ k) : pack_List.f k l = some (Pk.list l) := by
  unfold pack_List.f Pk.list
  by_cases h0 : l.length > 4000
  · rw [if_pos (by omega), if_pos h0]
  · rw [if_neg (by omega), if_neg h0, pack_num _ k (by omega), Option.bind_some, Pk.num_ok (by omega) (by omega), Int.toNat_natCast]
    have hl := Pk.enc_len8 (n := l.length) (by omega)
    have := pack_list_loop l (by omega) l.length 0 k [⟨(Pk.enc l.length).toArray⟩] (by omega) (by omega) rfl (by simp [Joins.cat]; omega)
    rw [List.drop_zero] at this
    rw [show ((0 : Nat) : Int) = 0 from rfl] at this
    rw [this]
    cases Pk.texts l <;> simp [Joins.cat]
end Go.Proofs.Ytfifcanpdjdhcaa.PkG
