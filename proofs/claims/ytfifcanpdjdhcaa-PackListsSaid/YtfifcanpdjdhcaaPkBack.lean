/- The plain law of chapter 3: what was written is read again, wherever it stands; what is read has one form; what is cut off is cut. Lists of bytes alone. -/
import Derived.Test.YtfifcanpdjdhcaaPkList
namespace Go.Proofs.Ytfifcanpdjdhcaa.Pk
open Go.RowKit Go.IntWalk Go.Proofs.YtfifcanpdjdhcaaW.PrintWords Go.Proofs.YtfifcanpdjdhcaaW.PrintMore

theorem toNat_small {n : Nat} (h : n < 256) : (UInt8.ofNat n).toNat = n := by
  rw [UInt8.toNat_ofNat']
  exact Nat.mod_eq_of_lt h

theorem ofNat_toNat (b : UInt8) : UInt8.ofNat b.toNat = b := by
  apply UInt8.toNat_inj.1
  exact toNat_small b.toNat_lt

/-! ### numbers -/
theorem pow_step (m i : Nat) : m * 128 ^ (i + 1) = (128 * m) * 128 ^ i := by rw [Nat.pow_succ, Nat.mul_comm 128 m, Nat.mul_assoc, Nat.mul_comm (128 ^ i) 128]

theorem dec_enc (n : Nat) : ∀ (f acc i : Nat) (rest : List UInt8), (enc n).length ≤ f → acc + n * 128 ^ i ≤ 1125899906842624 → (0 < i → 0 < n) →
    dec f acc i (enc n ++ rest) = (acc + n * 128 ^ i, i + (enc n).length, 0) := by
  induction n using Nat.strongRecOn with
  | _ n ih =>
    intro f acc i rest hf hv hi
    have hne : 0 < (enc n).length := List.length_pos_iff.2 (enc_ne n)
    obtain ⟨f, rfl⟩ : ∃ m, f = m + 1 := ⟨f - 1, by omega⟩
    by_cases hs : n < 128
    · rw [enc_small hs]
      simp only [List.cons_append, List.nil_append, dec]
      rw [toNat_small (by omega), if_pos hs, if_neg (by omega)]
      rfl
    · rw [enc_big hs] at hf ⊢
      simp only [List.cons_append, dec, List.length_cons] at hf ⊢
      rw [toNat_small (by omega), if_neg (by omega), Nat.add_mod_left, Nat.mod_mod]
      have hsplit : n % 128 * 128 ^ i + n / 128 * 128 ^ (i + 1) = n * 128 ^ i := by
        rw [pow_step, ← Nat.add_mul, Nat.add_comm, Nat.div_add_mod]
      rw [ih (n / 128) (by omega) f _ (i + 1) rest (by omega) (by omega) (by omega)]
      refine Prod.ext ?_ (Prod.ext ?_ rfl)
      · show _ + _ = _ + _
        omega
      · show _ + _ = _ + _
        omega

theorem dec_one (f : Nat) : ∀ (acc i : Nat) (l : List UInt8), (dec f acc i l).2.2 = 0 →
    ∃ n rest, l = enc n ++ rest ∧ (dec f acc i l).1 = acc + n * 128 ^ i ∧ (dec f acc i l).2.1 = i + (enc n).length ∧ (0 < i → 0 < n) := by
  induction f with
  | zero => intro acc i l h; simp [dec] at h
  | succ f ih =>
    intro acc i l
    cases l with
    | nil => intro h; simp [dec] at h
    | cons b l =>
      rw [dec]
      by_cases hb : b.toNat < 128
      · rw [if_pos hb]
        by_cases hc : (b.toNat = 0 ∧ 0 < i) ∨ acc + b.toNat * 128 ^ i > 1125899906842624
        · rw [if_pos hc]; intro h; simp at h
        · rw [if_neg hc]
          intro _
          refine ⟨b.toNat, l, ?_, rfl, ?_, by omega⟩
          · rw [enc_small hb, ofNat_toNat]; rfl
          · rw [enc_small hb]; rfl
      · rw [if_neg hb]
        intro h
        obtain ⟨m, rest, rfl, h1, h2, h3⟩ := ih _ _ _ h
        have hm : 0 < m := h3 (by omega)
        have hb8 := b.toNat_lt
        have hbig : ¬ (b.toNat % 128 + 128 * m) < 128 := by omega
        have he : enc (b.toNat % 128 + 128 * m) = b :: enc m := by
          rw [enc_big hbig]
          have e1 : (b.toNat % 128 + 128 * m) / 128 = m := by omega
          have e2 : 128 + (b.toNat % 128 + 128 * m) % 128 = b.toNat := by omega
          rw [e1, e2, ofNat_toNat]
        refine ⟨b.toNat % 128 + 128 * m, rest, ?_, ?_, ?_, by omega⟩
        · rw [he]; rfl
        · rw [h1, pow_step, Nat.add_mul]; omega
        · rw [h2, he, List.length_cons]; omega

theorem dec_cut (n : Nat) : ∀ (f acc i : Nat) (p q : List UInt8), p ++ q = enc n → q ≠ [] → (enc n).length ≤ f → dec f acc i p = (0, 0, 31) := by
  induction n using Nat.strongRecOn with
  | _ n ih =>
    intro f acc i p q hp hq hf
    have hne : 0 < (enc n).length := List.length_pos_iff.2 (enc_ne n)
    obtain ⟨f, rfl⟩ : ∃ m, f = m + 1 := ⟨f - 1, by omega⟩
    cases p with
    | nil => rfl
    | cons b p =>
      by_cases hs : n < 128
      · rw [enc_small hs] at hp
        simp only [List.cons_append, List.cons.injEq, List.append_eq_nil_iff] at hp
        exact absurd hp.2.2 hq
      · rw [enc_big hs] at hp hf
        simp only [List.cons_append, List.cons.injEq] at hp
        obtain ⟨rfl, hp⟩ := hp
        rw [dec, toNat_small (by omega), if_neg (by omega)]
        exact ih (n / 128) (by omega) f _ _ p q hp hq (by simp only [List.length_cons] at hf; omega)

theorem drop_len (s : ByteArray) (a : Nat) : (s.data.toList.drop a).length = s.size - a := by rw [List.length_drop]; rfl

theorem takeNum_enc {s : ByteArray} {a n : Nat} {rest : List UInt8} (ha : a ≤ s.size) (h : s.data.toList.drop a = enc n ++ rest) (hn : n ≤ 1125899906842624) :
    takeNum s (a : Int) = ((n : Int), ((a + (enc n).length : Nat) : Int), 0) := by
  unfold takeNum
  rw [if_neg (by omega), Int.toNat_natCast, h, dec_enc n 8 0 0 rest (enc_len8 hn) (by simpa using hn) (by omega)]
  unfold placed
  simp
theorem takeNum_one {s : ByteArray} {x : Int} (h : (takeNum s x).2.2 = 0) :
    ∃ (a n : Nat) (rest : List UInt8), x = (a : Int) ∧ a ≤ s.size ∧ n ≤ 1125899906842624 ∧ s.data.toList.drop a = enc n ++ rest ∧ takeNum s x = ((n : Int), ((a + (enc n).length : Nat) : Int), 0) := by
  have hb := takeNum_ok h
  obtain ⟨a, rfl⟩ := Int.eq_ofNat_of_zero_le hb.1
  unfold takeNum at h hb ⊢
  rw [if_neg (by omega), Int.toNat_natCast] at h hb ⊢
  unfold placed at h hb ⊢
  by_cases h0 : (dec 8 0 0 (s.data.toList.drop a)).2.2 = 0
  · rw [if_pos h0] at h hb ⊢
    obtain ⟨n, rest, he, h1, h2, _⟩ := dec_one 8 0 0 _ h0
    simp only [Nat.pow_zero, Nat.mul_one, Nat.zero_add] at h1 h2
    refine ⟨a, n, rest, rfl, by omega, ?_, he, ?_⟩
    · simp only at hb; omega
    · rw [h1, h2]; simp
  · rw [if_neg h0] at h; exact absurd h h0
theorem takeNum_cut {s : ByteArray} {a n : Nat} {p q : List UInt8} (ha : a ≤ s.size) (h : s.data.toList.drop a = p) (hp : p ++ q = enc n) (hq : q ≠ []) (hn : n ≤ 1125899906842624) :
    takeNum s (a : Int) = (0, 0, 31) := by
  unfold takeNum
  rw [if_neg (by omega), Int.toNat_natCast, h, dec_cut n 8 0 0 p q hp hq (enc_len8 hn)]
  rfl

/-! ### texts -/
theorem extract_list (s : ByteArray) (i j : Nat) : (s.extract i j).data.toList = (s.data.toList.drop i).take (j - i) := by
  rw [ByteArray.data_extract, Array.toList_extract]
theorem bytes_ext {s t : ByteArray} (h : s.data.toList = t.data.toList) : s = t := ByteArray.ext (Array.ext' h)
theorem drop_more {s : ByteArray} {a : Nat} {x y : List UInt8} (h : s.data.toList.drop a = x ++ y) : s.data.toList.drop (a + x.length) = y := by
  rw [← List.drop_drop, h, List.drop_left]

theorem takeText_enc {s t : ByteArray} {a : Nat} {rest : List UInt8} (ha : a ≤ s.size) (h : s.data.toList.drop a = item t ++ rest) (ht : t.size ≤ 2000) :
    takeText s (a : Int) = (t, ((a + (item t).length : Nat) : Int), 0) := by
  have hh : s.data.toList.drop a = enc t.size ++ (t.data.toList ++ rest) := by rw [h, item, List.append_assoc]
  have htl : t.data.toList.length = t.size := by simp
  have hd := drop_more hh
  have hlen : s.size - (a + (enc t.size).length) = t.size + rest.length := by rw [← drop_len, hd, List.length_append, htl]
  unfold takeText
  rw [takeNum_enc ha hh (by omega), if_pos rfl, if_neg (by simp only; omega)]
  simp only
  have hle : a + (enc t.size).length ≤ s.size := by
    have := drop_len s a
    rw [hh, List.length_append] at this
    omega
  rw [if_neg (by omega)]
  refine Prod.ext ?_ (Prod.ext ?_ rfl)
  · apply bytes_ext
    rw [extract_list, Int.toNat_natCast, hd]
    rw [show (((a + (enc t.size).length : Nat) : Int) + (t.size : Int)).toNat - (a + (enc t.size).length) = t.data.toList.length from by omega]
    rw [List.take_left]
  · simp only [item, List.length_append, htl]
    omega
theorem takeText_one {s : ByteArray} {x : Int} (h : (takeText s x).2.2 = 0) :
    ∃ (a : Nat) (t : ByteArray) (rest : List UInt8), x = (a : Int) ∧ a ≤ s.size ∧ t.size ≤ 2000 ∧ s.data.toList.drop a = item t ++ rest ∧ takeText s x = (t, ((a + (item t).length : Nat) : Int), 0) := by
  obtain ⟨h0, h1, h2, h3⟩ := takeText_ok h
  obtain ⟨a, n, rest, rfl, ha, hn, hd, he⟩ := takeNum_one h0
  rw [he] at h1 h2 h3
  simp only at h1 h2 h3
  have hdm := drop_more hd
  have hrl : rest.length = s.size - (a + (enc n).length) := by rw [← drop_len, hdm]
  rw [Int.toNat_natCast] at h3
  have hx : (s.extract (a + (enc n).length) (((a + (enc n).length : Nat) : Int) + (n : Int)).toNat).data.toList = rest.take n := by
    rw [extract_list, hdm]
    congr 1
    omega
  generalize s.extract (a + (enc n).length) (((a + (enc n).length : Nat) : Int) + (n : Int)).toNat = t at h3 hx
  have htl : t.data.toList.length = t.size := by simp
  have htn : t.size = n := by
    rw [← htl, hx, List.length_take]
    omega
  refine ⟨a, t, rest.drop n, rfl, ha, by omega, ?_, ?_⟩
  · rw [hd, item, htn, hx, List.append_assoc, List.take_append_drop]
  · rw [h3, item, List.length_append, htl, htn]
    refine Prod.ext rfl (Prod.ext ?_ rfl)
    simp only
    omega
theorem takeText_cut {s t : ByteArray} {a : Nat} {p q : List UInt8} (ha : a ≤ s.size) (h : s.data.toList.drop a = p) (hp : p ++ q = item t) (hq : q ≠ []) (ht : t.size ≤ 2000) :
    takeText s (a : Int) = (⟨#[]⟩, 0, 31) := by
  have htl : t.data.toList.length = t.size := by simp
  have hql : 0 < q.length := List.length_pos_iff.2 hq
  have hpl : p.length + q.length = (enc t.size).length + t.size := by rw [← List.length_append, hp, item, List.length_append, htl]
  rw [item] at hp
  rcases List.append_eq_append_iff.1 hp with ⟨z, hz1, hz2⟩ | ⟨z, hz1, hz2⟩
  · -- the cut lies in the length
    by_cases hz : z = []
    · subst hz
      rw [List.append_nil] at hz1
      unfold takeText
      rw [takeNum_enc (rest := []) ha (by rw [h, List.append_nil]; exact hz1.symm) (by omega), if_pos rfl, if_neg (by simp only; omega)]
      simp only
      have := drop_len s a
      rw [h] at this
      have hz1' : p.length = (enc t.size).length := by rw [hz1]
      rw [if_pos (by omega)]
    · unfold takeText
      rw [takeNum_cut ha h hz1.symm hz (by omega)]
      rfl
  · unfold takeText
    rw [takeNum_enc (rest := z) ha (by rw [h, hz1]) (by omega), if_pos rfl, if_neg (by simp only; omega)]
    simp only
    have := drop_len s a
    rw [h] at this
    rw [if_pos (by omega)]

/-! ### lists -/
def items (L : List ByteArray) : List UInt8 := (L.map item).flatten
theorem items_cons (t : ByteArray) (L : List ByteArray) : items (t :: L) = item t ++ items L := rfl
theorem texts_items : ∀ L : List ByteArray, (∀ t ∈ L, t.size ≤ 2000) → texts L = some (items L)
  | [], _ => rfl
  | t :: L, h => by
    rw [texts, if_neg (by have := h t List.mem_cons_self; omega), texts_items L (fun x hx => h x (List.mem_cons_of_mem _ hx))]
    rfl
theorem texts_some : ∀ (L : List ByteArray) (x : List UInt8), texts L = some x → (∀ t ∈ L, t.size ≤ 2000) ∧ x = items L
  | [], x, h => by
    simp only [texts, Option.some.injEq] at h
    subst h
    exact ⟨fun t ht => absurd ht (by simp), rfl⟩
  | t :: L, x, h => by
    rw [texts] at h
    split at h
    · cases h
    · rename_i ht
      cases hL : texts L with
      | none => rw [hL] at h; cases h
      | some y =>
        rw [hL] at h
        obtain ⟨h1, rfl⟩ := texts_some L y hL
        simp only [Option.some.injEq] at h
        subst h
        refine ⟨fun z hz => ?_, rfl⟩
        rcases List.mem_cons.1 hz with rfl | hz
        · omega
        · exact h1 z hz

theorem item_ne (t : ByteArray) : item t ≠ [] := by
  unfold item
  intro h
  exact enc_ne _ (List.append_eq_nil_iff.1 h).1

theorem takeTexts_enc {s : ByteArray} : ∀ (L : List ByteArray) (a : Nat) (acc : List ByteArray) (rest : List UInt8), a ≤ s.size → s.data.toList.drop a = items L ++ rest → (∀ t ∈ L, t.size ≤ 2000) →
    takeTexts s L.length (a : Int) acc = (acc ++ L, ((a + (items L).length : Nat) : Int), 0)
  | [], a, acc, rest, _, _, _ => by simp [takeTexts, items]
  | t :: L, a, acc, rest, ha, h, ht => by
    have h' : s.data.toList.drop a = item t ++ (items L ++ rest) := by rw [h, items_cons, List.append_assoc]
    have hle : a + (item t).length ≤ s.size := by
      have := drop_len s a
      rw [h', List.length_append] at this
      have := List.length_pos_iff.2 (item_ne t)
      omega
    rw [List.length_cons, takeTexts, takeText_enc ha h' (ht t List.mem_cons_self), if_pos rfl]
    simp only
    rw [takeTexts_enc L _ _ rest hle (drop_more h') (fun x hx => ht x (List.mem_cons_of_mem _ hx)), items_cons, List.length_append]
    simp [Nat.add_assoc]
theorem takeTexts_one {s : ByteArray} : ∀ (n : Nat) (x : Int) (acc : List ByteArray), 0 ≤ x → x ≤ s.size → (takeTexts s n x acc).2.2 = 0 →
    ∃ (a : Nat) (L : List ByteArray) (rest : List UInt8), x = (a : Int) ∧ a ≤ s.size ∧ L.length = n ∧ (∀ t ∈ L, t.size ≤ 2000) ∧ s.data.toList.drop a = items L ++ rest ∧ takeTexts s n x acc = (acc ++ L, ((a + (items L).length : Nat) : Int), 0)
  | 0, x, acc, h0, h1, _ => by
    obtain ⟨a, rfl⟩ := Int.eq_ofNat_of_zero_le h0
    exact ⟨a, [], s.data.toList.drop a, rfl, by omega, rfl, by simp, by simp [items], by simp [takeTexts, items]⟩
  | n + 1, x, acc, h0, h1, h => by
    rw [takeTexts] at h ⊢
    by_cases ht : (takeText s x).2.2 = 0
    · rw [if_pos ht] at h ⊢
      obtain ⟨a, t, rest, rfl, ha, hts, hd, he⟩ := takeText_one ht
      rw [he] at h ⊢
      simp only at h ⊢
      have hle : a + (item t).length ≤ s.size := by
        have := drop_len s a
        rw [hd, List.length_append] at this
        have := List.length_pos_iff.2 (item_ne t)
        omega
      obtain ⟨a2, L, rest2, e2, ha2, hL, hLs, hd2, he2⟩ := takeTexts_one n _ _ (by omega) (by omega) h
      obtain rfl : a2 = a + (item t).length := by omega
      rw [drop_more hd] at hd2
      refine ⟨a, t :: L, rest2, rfl, ha, by simp [hL], fun z hz => ?_, by rw [hd, hd2, items_cons, List.append_assoc], ?_⟩
      · rcases List.mem_cons.1 hz with rfl | hz
        · exact hts
        · exact hLs z hz
      · rw [he2, items_cons, List.length_append]
        simp [Nat.add_assoc]
    · rw [if_neg ht] at h
      exact absurd h ht
theorem takeTexts_cut {s : ByteArray} : ∀ (L : List ByteArray) (a : Nat) (acc : List ByteArray) (p q : List UInt8), a ≤ s.size → s.data.toList.drop a = p → p ++ q = items L → q ≠ [] → (∀ t ∈ L, t.size ≤ 2000) →
    takeTexts s L.length (a : Int) acc = ([], 0, 31)
  | [], a, acc, p, q, _, _, hp, hq, _ => by
    simp only [items, List.map_nil, List.flatten_nil, List.append_eq_nil_iff] at hp
    exact absurd hp.2 hq
  | t :: L, a, acc, p, q, ha, h, hp, hq, ht => by
    rw [items_cons] at hp
    rw [List.length_cons, takeTexts]
    have htt := ht t List.mem_cons_self
    rcases List.append_eq_append_iff.1 hp with ⟨z, hz1, hz2⟩ | ⟨z, hz1, hz2⟩
    · by_cases hz : z = []
      · subst hz
        rw [List.append_nil] at hz1
        have h' : s.data.toList.drop a = item t ++ [] := by rw [h, List.append_nil]; exact hz1.symm
        have hle : a + (item t).length ≤ s.size := by
          have := drop_len s a
          rw [h', List.length_append] at this
          have := List.length_pos_iff.2 (item_ne t)
          omega
        rw [takeText_enc ha h' htt, if_pos rfl]
        exact takeTexts_cut L _ _ [] q hle (drop_more h') (by simpa using hz2) hq (fun x hx => ht x (List.mem_cons_of_mem _ hx))
      · rw [takeText_cut ha h hz1.symm hz htt]
        rfl
    · have h' : s.data.toList.drop a = item t ++ z := by rw [h, hz1]
      have hle : a + (item t).length ≤ s.size := by
        have := drop_len s a
        rw [h', List.length_append] at this
        have := List.length_pos_iff.2 (item_ne t)
        omega
      rw [takeText_enc ha h' htt, if_pos rfl]
      exact takeTexts_cut L _ _ z q hle (drop_more h') hz2.symm hq (fun x hx => ht x (List.mem_cons_of_mem _ hx))

/-- The form of a list. -/
def whole (L : List ByteArray) : List UInt8 := enc L.length ++ items L
theorem list_ok {L : List ByteArray} (h : L.length ≤ 4000) (ht : ∀ t ∈ L, t.size ≤ 2000) : list L = (⟨(whole L).toArray⟩, 0) := by
  rw [list, if_neg (by omega), texts_items L ht]
  rfl
theorem list_one {L : List ByteArray} (h : (list L).2 = 0) : L.length ≤ 4000 ∧ (∀ t ∈ L, t.size ≤ 2000) := by
  unfold list at h
  split at h
  · simp at h
  · cases hL : texts L with
    | none => rw [hL] at h; simp at h
    | some x => exact ⟨by omega, (texts_some L x hL).1⟩
theorem takeList_enc {s : ByteArray} {L : List ByteArray} {a : Nat} {rest : List UInt8} (ha : a ≤ s.size) (h : s.data.toList.drop a = whole L ++ rest) (hl : L.length ≤ 4000) (ht : ∀ t ∈ L, t.size ≤ 2000) :
    takeList s (a : Int) = (L, ((a + (whole L).length : Nat) : Int), 0) := by
  have h' : s.data.toList.drop a = enc L.length ++ (items L ++ rest) := by rw [h, whole, List.append_assoc]
  have hle : a + (enc L.length).length ≤ s.size := by
    have := drop_len s a
    rw [h', List.length_append] at this
    have := List.length_pos_iff.2 (enc_ne L.length)
    omega
  unfold takeList
  rw [takeNum_enc ha h' (by omega), if_pos rfl, if_neg (by simp only; omega)]
  simp only [Int.toNat_natCast]
  rw [takeTexts_enc L _ [] rest hle (drop_more h') ht, whole, List.length_append]
  simp [Nat.add_assoc]
theorem takeList_one {s : ByteArray} {x : Int} (h : (takeList s x).2.2 = 0) :
    ∃ (a : Nat) (L : List ByteArray) (rest : List UInt8), x = (a : Int) ∧ a ≤ s.size ∧ L.length ≤ 4000 ∧ (∀ t ∈ L, t.size ≤ 2000) ∧ s.data.toList.drop a = whole L ++ rest ∧ takeList s x = (L, ((a + (whole L).length : Nat) : Int), 0) := by
  unfold takeList at h ⊢
  by_cases h0 : (takeNum s x).2.2 = 0
  · rw [if_pos h0] at h ⊢
    obtain ⟨a, n, rest, rfl, ha, hn, hd, he⟩ := takeNum_one h0
    rw [he] at h ⊢
    simp only at h ⊢
    by_cases h1 : (n : Int) > 4000
    · rw [if_pos h1] at h; simp at h
    · rw [if_neg h1] at h ⊢
      have hle : a + (enc n).length ≤ s.size := by
        have := drop_len s a
        rw [hd, List.length_append] at this
        have := List.length_pos_iff.2 (enc_ne n)
        omega
      rw [Int.toNat_natCast] at h ⊢
      obtain ⟨a2, L, rest2, e2, ha2, hL, hLs, hd2, he2⟩ := takeTexts_one n _ _ (by omega) (by omega) h
      obtain rfl : a2 = a + (enc n).length := by omega
      rw [drop_more hd] at hd2
      refine ⟨a, L, rest2, rfl, ha, by omega, hLs, by rw [hd, hd2, whole, hL, List.append_assoc], ?_⟩
      rw [he2, whole, hL, List.length_append]
      simp [Nat.add_assoc]
  · rw [if_neg h0] at h
    exact absurd h h0
theorem takeList_cut {s : ByteArray} {L : List ByteArray} {a : Nat} {p q : List UInt8} (ha : a ≤ s.size) (h : s.data.toList.drop a = p) (hp : p ++ q = whole L) (hq : q ≠ []) (hl : L.length ≤ 4000) (ht : ∀ t ∈ L, t.size ≤ 2000) :
    takeList s (a : Int) = ([], 0, 31) := by
  rw [whole] at hp
  unfold takeList
  rcases List.append_eq_append_iff.1 hp with ⟨z, hz1, hz2⟩ | ⟨z, hz1, hz2⟩
  · by_cases hz : z = []
    · subst hz
      rw [List.append_nil] at hz1
      have h' : s.data.toList.drop a = enc L.length ++ [] := by rw [h, List.append_nil]; exact hz1.symm
      have hle : a + (enc L.length).length ≤ s.size := by
        have := drop_len s a
        rw [h', List.length_append] at this
        have := List.length_pos_iff.2 (enc_ne L.length)
        omega
      rw [takeNum_enc ha h' (by omega), if_pos rfl, if_neg (by simp only; omega)]
      simp only [Int.toNat_natCast]
      exact takeTexts_cut L _ _ [] q hle (drop_more h') (by simpa using hz2) hq ht
    · rw [takeNum_cut ha h hz1.symm hz (by omega)]
      rfl
  · have h' : s.data.toList.drop a = enc L.length ++ z := by rw [h, hz1]
    have hle : a + (enc L.length).length ≤ s.size := by
      have := drop_len s a
      rw [h', List.length_append] at this
      have := List.length_pos_iff.2 (enc_ne L.length)
      omega
    rw [takeNum_enc ha h' (by omega), if_pos rfl, if_neg (by simp only; omega)]
    simp only [Int.toNat_natCast]
    exact takeTexts_cut L _ _ z q hle (drop_more h') hz2.symm hq ht
end Go.Proofs.Ytfifcanpdjdhcaa.Pk
