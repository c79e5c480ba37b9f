/- The plain words of chapter 3, reading: what TakeNum, TakeText and TakeList answer; lists of bytes and whole numbers alone. -/
import Derived.Test.YtfifcanpdjdhcaaPk
import Derived.IntWalk
namespace Go.Proofs.Ytfifcanpdjdhcaa.Pk
open Go.RowKit Go.IntWalk Go.Proofs.YtfifcanpdjdhcaaW.PrintWords Go.Proofs.YtfifcanpdjdhcaaW.PrintMore

/-- Reading a number off some bytes: the number, how many bytes, the error. -/
def dec : Nat → Nat → Nat → List UInt8 → Nat × Nat × Int
  | 0, _, _, _ => (0, 0, 32)
  | _ + 1, _, _, [] => (0, 0, 31)
  | f + 1, n, i, b :: l =>
    if b.toNat < 128 then (if (b.toNat = 0 ∧ 0 < i) ∨ n + b.toNat * 128 ^ i > 1125899906842624 then (0, 0, 32) else (n + b.toNat * 128 ^ i, i + 1, 0))
    else dec f (n + (b.toNat % 128) * 128 ^ i) (i + 1) l

/-- The answer at a place. -/
def placed (a : Int) (r : Nat × Nat × Int) : Int × Int × Int := if r.2.2 = 0 then ((r.1 : Int), a + r.2.1, 0) else (0, 0, r.2.2)
def takeNum (s : ByteArray) (a : Int) : Int × Int × Int := if a < 0 ∨ a > (s.size : Int) then (0, 0, 1) else placed a (dec 8 0 0 (s.data.toList.drop a.toNat))

theorem dec_zero (f : Nat) : ∀ n i l, (dec f n i l).2.2 ≠ 0 → (dec f n i l).1 = 0 ∧ (dec f n i l).2.1 = 0 := by
  induction f with
  | zero => intro n i l _; simp [dec]
  | succ f ih =>
    intro n i l
    cases l with
    | nil => intro _; simp [dec]
    | cons b l =>
      rw [dec]
      split
      · split
        · simp
        · simp
      · exact ih _ _ _

theorem dec_ok (f : Nat) : ∀ n i l, (dec f n i l).2.2 = 0 → (dec f n i l).1 ≤ 1125899906842624 ∧ i < (dec f n i l).2.1 ∧ (dec f n i l).2.1 ≤ i + f ∧ (dec f n i l).2.1 ≤ i + l.length := by
  induction f with
  | zero => intro n i l h; simp [dec] at h
  | succ f ih =>
    intro n i l
    cases l with
    | nil => intro h; simp [dec] at h
    | cons b l =>
      rw [dec]
      split
      · split
        · intro h; simp at h
        · intro _; simp only [List.length_cons]; omega
      · intro h
        have := ih _ _ _ h
        simp only [List.length_cons]
        omega

theorem bt_drop (s : ByteArray) (j : Nat) (h : j < s.size) : ∃ b : UInt8, s.data.toList.drop j = b :: s.data.toList.drop (j + 1) ∧ bt s (j : Int) = (b.toNat : Int) := by
  refine ⟨s[j], ?_, ?_⟩
  · have hl : j < s.data.toList.length := by simpa using h
    rw [List.drop_eq_getElem_cons hl]
    rfl
  · unfold bt
    rw [dif_pos (by simpa using h)]
    rfl
theorem bt_end (s : ByteArray) (j : Nat) (h : s.size ≤ j) : s.data.toList.drop j = [] := by
  rw [List.drop_eq_nil_iff]
  simpa using h

theorem pow7 (i : Nat) : 128 ^ i = 2 ^ (7 * i) := by rw [Nat.pow_mul]

theorem and127 (b : Nat) (h : b < 256) : Go.bits .and .u8 (b : Int) 127 = ((b % 128 : Nat) : Int) := by
  have := bits_mask .u8 8 (by decide) wraps_u8 7 (by decide) (b : Int) (by omega) (by omega)
  rw [show (127 : Int) = 2 ^ 7 - 1 from by decide, this]
  omega

/-- The next group, as the program lays it. -/
theorem group (n i b : Nat) (hi : i < 8) (hn : n < 128 ^ i) (hb : b < 256) :
    Go.bits .or .i64 (n : Int) (shl .i64 (wrap64 (Go.bits .and .u8 (b : Int) 127)) (wrap64 (7 * (i : Int)))) = ((n + (b % 128) * 128 ^ i : Nat) : Int) := by
  have h7 : wrap64 (7 * (i : Int)) = ((7 * i : Nat) : Int) := by rw [wrap64_in _ (by omega)]; omega
  have hm : b % 128 < 128 := Nat.mod_lt _ (by decide)
  have hp7 : 128 ^ i ≤ 128 ^ 7 := Nat.pow_le_pow_right (by decide) (by omega)
  have hp : (128 : Nat) ^ 7 = 562949953421312 := by decide
  rw [and127 b hb, h7, wrap64_in _ (by omega)]
  have hlt : (b % 128) * 128 ^ i < 72057594037927936 := by
    have : (b % 128) * 128 ^ i ≤ 127 * 128 ^ 7 := Nat.mul_le_mul (by omega) hp7
    rw [hp] at this
    omega
  unfold shl
  rw [Int.toNat_natCast, Nat.min_eq_left (by show 7 * i ≤ 64; omega)]
  have he : ((b % 128 : Nat) : Int) * 2 ^ (7 * i) = (((b % 128) * 128 ^ i : Nat) : Int) := by rw [pow7]; simp
  rw [he, i64_in _ (by omega)]
  have hnn : n < 2 ^ 56 := by rw [hp] at hp7; omega
  rw [(bits_nat .i64 56 (by decide) (fun m h0 h1 => i64_in m (by constructor <;> omega)) n ((b % 128) * 128 ^ i) hnn (by omega)).2]
  rw [Nat.or_comm, Nat.mul_comm, pow7, ← Nat.two_pow_add_eq_or_of_lt (by rw [← pow7]; exact hn)]
  rw [Nat.add_comm]

/-- The next group, as the reference lays it. -/
theorem groupR (n i b : Nat) (hi : i < 8) (hn : n < 128 ^ i) (hb : b < 256) :
    wrap64 ((n : Int) + (shl .i64 (Int.tmod (wrap64 (b : Int)) 128) (wrap64 (7 * (i : Int))))) = ((n + (b % 128) * 128 ^ i : Nat) : Int) := by
  have h7 : wrap64 (7 * (i : Int)) = ((7 * i : Nat) : Int) := by rw [wrap64_in _ (by omega)]; omega
  have hm : b % 128 < 128 := Nat.mod_lt _ (by decide)
  have hp7 : 128 ^ i ≤ 128 ^ 7 := Nat.pow_le_pow_right (by decide) (by omega)
  have hp : (128 : Nat) ^ 7 = 562949953421312 := by decide
  rw [wrap64_in (b : Int) (by omega), tmod_nat, h7]
  have hlt : (b % 128) * 128 ^ i < 72057594037927936 := by
    have : (b % 128) * 128 ^ i ≤ 127 * 128 ^ 7 := Nat.mul_le_mul (by omega) hp7
    rw [hp] at this
    omega
  unfold shl
  rw [Int.toNat_natCast, Nat.min_eq_left (by show 7 * i ≤ 64; omega)]
  have he : ((b % 128 : Nat) : Int) * 2 ^ (7 * i) = (((b % 128) * 128 ^ i : Nat) : Int) := by rw [pow7]; simp
  have hnn : n < 2 ^ 56 := by rw [hp] at hp7; omega
  rw [he, i64_in _ (by omega), wrap64_in _ (by omega)]
  omega

theorem group_lt (n i b : Nat) (hn : n < 128 ^ i) : n + (b % 128) * 128 ^ i < 128 ^ (i + 1) := by
  have hm : b % 128 < 128 := Nat.mod_lt _ (by decide)
  have : (b % 128) * 128 ^ i ≤ 127 * 128 ^ i := Nat.mul_le_mul_right _ (by omega)
  rw [Nat.pow_succ]
  omega

theorem wrap_add (a i : Nat) (ha : a ≤ 1000000000000000) (hi : i ≤ 4000) : wrap64 ((a : Int) + (i : Int)) = ((a + i : Nat) : Int) := by rw [wrap64_in _ (by omega)]; omega
theorem wrap_up (a : Nat) (ha : a ≤ 1000000000001000) : wrap64 ((a : Int) + 1) = ((a + 1 : Nat) : Int) := by rw [wrap64_in _ (by omega)]; omega
theorem wrap_sub (s a : Nat) (h : a ≤ s) (hs : s ≤ 1000000000000000) : wrap64 ((s : Int) - (a : Int)) = ((s - a : Nat) : Int) := by rw [wrap64_in _ (by omega)]; omega
theorem wrap_7 (i : Nat) (hi : i < 8) : 0 ≤ wrap64 (7 * (i : Int)) := by rw [wrap64_in _ (by omega)]; omega

theorem takeNum_err {s : ByteArray} {a : Int} (h : (takeNum s a).2.2 ≠ 0) : (takeNum s a).1 = 0 ∧ (takeNum s a).2.1 = 0 := by
  unfold takeNum at h ⊢
  split
  · simp
  · rename_i hc
    rw [if_neg hc] at h
    unfold placed at h ⊢
    split
    · rename_i h0
      rw [if_pos h0] at h
      simp at h
    · simp
theorem takeNum_ok {s : ByteArray} {a : Int} (h : (takeNum s a).2.2 = 0) :
    0 ≤ a ∧ a ≤ s.size ∧ 0 ≤ (takeNum s a).1 ∧ (takeNum s a).1 ≤ 1125899906842624 ∧ a < (takeNum s a).2.1 ∧ (takeNum s a).2.1 ≤ s.size := by
  unfold takeNum at h ⊢
  by_cases hc : a < 0 ∨ a > (s.size : Int)
  · rw [if_pos hc] at h; simp at h
  · rw [if_neg hc] at h ⊢
    unfold placed at h ⊢
    by_cases h0 : (dec 8 0 0 (s.data.toList.drop a.toNat)).2.2 = 0
    · rw [if_pos h0] at h ⊢
      have := dec_ok 8 0 0 _ h0
      have hl : (s.data.toList.drop a.toNat).length = s.size - a.toNat := by rw [List.length_drop]; rfl
      rw [hl] at this
      simp only
      omega
    · rw [if_neg h0] at h; exact absurd h h0

/-- What TakeText answers. -/
def takeText (s : ByteArray) (a : Int) : ByteArray × Int × Int :=
  if (takeNum s a).2.2 = 0 then
    (if (takeNum s a).1 > 2000 then (⟨#[]⟩, 0, 32) else if (takeNum s a).1 > (s.size : Int) - (takeNum s a).2.1 then (⟨#[]⟩, 0, 31)
    else (s.extract (takeNum s a).2.1.toNat ((takeNum s a).2.1 + (takeNum s a).1).toNat, (takeNum s a).2.1 + (takeNum s a).1, 0))
  else (⟨#[]⟩, 0, (takeNum s a).2.2)

theorem takeText_ok {s : ByteArray} {a : Int} (h : (takeText s a).2.2 = 0) :
    (takeNum s a).2.2 = 0 ∧ (takeNum s a).1 ≤ 2000 ∧ (takeNum s a).1 ≤ (s.size : Int) - (takeNum s a).2.1 ∧
    takeText s a = (s.extract (takeNum s a).2.1.toNat ((takeNum s a).2.1 + (takeNum s a).1).toNat, (takeNum s a).2.1 + (takeNum s a).1, 0) := by
  unfold takeText at h ⊢
  by_cases h0 : (takeNum s a).2.2 = 0
  · rw [if_pos h0] at h ⊢
    by_cases h1 : (takeNum s a).1 > 2000
    · rw [if_pos h1] at h; simp at h
    · rw [if_neg h1] at h ⊢
      by_cases h2 : (takeNum s a).1 > (s.size : Int) - (takeNum s a).2.1
      · rw [if_pos h2] at h; simp at h
      · rw [if_neg h2]
        exact ⟨h0, by omega, by omega, rfl⟩
  · rw [if_neg h0] at h; exact absurd h h0
theorem takeText_next {s : ByteArray} {a : Int} (h : (takeText s a).2.2 = 0) : 0 ≤ a ∧ a < (takeText s a).2.1 ∧ (takeText s a).2.1 ≤ s.size := by
  obtain ⟨h0, h1, h2, h3⟩ := takeText_ok h
  have := takeNum_ok h0
  rw [h3]
  simp only
  omega

/-- Some texts, one behind the other. -/
def takeTexts (s : ByteArray) : Nat → Int → List ByteArray → List ByteArray × Int × Int
  | 0, a, l => (l, a, 0)
  | n + 1, a, l => if (takeText s a).2.2 = 0 then takeTexts s n (takeText s a).2.1 (l ++ [(takeText s a).1]) else ([], 0, (takeText s a).2.2)
/-- What TakeList answers. -/
def takeList (s : ByteArray) (a : Int) : List ByteArray × Int × Int :=
  if (takeNum s a).2.2 = 0 then (if (takeNum s a).1 > 4000 then ([], 0, 32) else takeTexts s (takeNum s a).1.toNat (takeNum s a).2.1 []) else ([], 0, (takeNum s a).2.2)
theorem takeTexts_len (s : ByteArray) : ∀ n a l, (takeTexts s n a l).1.length ≤ l.length + n := by
  intro n
  induction n with
  | zero => intro a l; simp [takeTexts]
  | succ n ih =>
    intro a l
    rw [takeTexts]
    split
    · have := ih (takeText s a).2.1 (l ++ [(takeText s a).1])
      rw [List.length_append] at this
      simp only [List.length_cons, List.length_nil] at this
      omega
    · simp
theorem takeList_len (s : ByteArray) (a : Int) : (takeList s a).1.length ≤ 4000 := by
  unfold takeList
  split
  · split
    · simp
    · have := takeTexts_len s (takeNum s a).1.toNat (takeNum s a).2.1 []
      simp only [List.length_nil] at this
      omega
  · simp
end Go.Proofs.Ytfifcanpdjdhcaa.Pk
