/- The plain words of chapter 3 (numbers, texts and lists as bytes): lists of bytes and whole numbers alone; no program. -/
import Derived.Test.YtfifcanpdjdhcaaWMore
import Derived.Laws.BytesArg
import Derived.Laws.BitsLemmas
namespace Go.Proofs.Ytfifcanpdjdhcaa.Pk
open Go.RowKit Go.Proofs.YtfifcanpdjdhcaaW.PrintWords Go.Proofs.YtfifcanpdjdhcaaW.PrintMore

/-- The form of a number: groups of seven bits, the lowest first. -/
def enc (n : Nat) : List UInt8 := if n < 128 then [UInt8.ofNat n] else UInt8.ofNat (128 + n % 128) :: enc (n / 128)
termination_by n
decreasing_by omega

theorem enc_small {n : Nat} (h : n < 128) : enc n = [UInt8.ofNat n] := by rw [enc, if_pos h]
theorem enc_big {n : Nat} (h : ¬ n < 128) : enc n = UInt8.ofNat (128 + n % 128) :: enc (n / 128) := by rw [enc, if_neg h]
theorem enc_ne (n : Nat) : enc n ≠ [] := by
  rw [enc]; split <;> simp
theorem enc_len (d : Nat) : ∀ n : Nat, n < 128 ^ (d + 1) → (enc n).length ≤ d + 1 := by
  induction d with
  | zero => intro n h; rw [enc_small (by simpa using h)]; simp
  | succ d ih =>
    intro n h
    by_cases hs : n < 128
    · rw [enc_small hs]; simp
    · rw [enc_big hs, List.length_cons]
      have := ih (n / 128) (by rw [Nat.div_lt_iff_lt_mul (by decide)]; rw [Nat.pow_succ] at h; exact h)
      omega
theorem enc_len8 {n : Nat} (h : n ≤ 1125899906842624) : (enc n).length ≤ 8 := enc_len 7 n (by omega)

/-- What Num answers. -/
def num (a : Int) : ByteArray × Int := if a < 0 ∨ a > 1125899906842624 then (⟨#[]⟩, 30) else (⟨(enc a.toNat).toArray⟩, 0)

theorem num_bad {a : Int} (h : a < 0 ∨ a > 1125899906842624) : num a = (⟨#[]⟩, 30) := by rw [num, if_pos h]
theorem num_ok {a : Int} (h0 : 0 ≤ a) (h1 : a ≤ 1125899906842624) : num a = (⟨(enc a.toNat).toArray⟩, 0) := by rw [num, if_neg (by omega)]

theorem strOfNums_eq (l : List Int) : strOfNums l = ⟨(l.map fun n => UInt8.ofNat n.toNat).toArray⟩ := rfl

theorem or128 (m : Nat) (h : m < 256) : m ||| 128 = 128 + m % 128 := by
  have : ∀ m : Fin 256, (m : Nat) ||| 128 = 128 + (m : Nat) % 128 := by decide +kernel
  exact this ⟨m, h⟩

theorem wrap_nat (m : Nat) (h : m ≤ 1125899906842624) : wrap64 (m : Int) = m := by unfold wrap64; omega
theorem low_nat (m : Nat) (h : m < 128) : (wrap64 (128 + (m : Int))) % 256 = ((128 + m : Nat) : Int) := by unfold wrap64; omega
theorem tmod_nat (n : Nat) : Int.tmod (n : Int) 128 = ((n % 128 : Nat) : Int) := by rw [Int.tmod_eq_emod_of_nonneg (by omega)]; omega
theorem tdiv_nat (n : Nat) : Int.tdiv (n : Int) 128 = ((n / 128 : Nat) : Int) := by rw [Int.tdiv_eq_ediv_of_nonneg (by omega)]; omega

/-- A loop that writes the groups, as the program has it. -/
theorem pack_loop (l0 : Nat → Int → List Int → Option (ByteArray × Int))
    (h : ∀ k x0 x4, l0 (k + 1) x0 x4 = if x0 > 127 then (if x4.length < 140737488355328 then (l0 k (x0 / 128) (x4 ++ [Go.bits .or .u8 ((x0) % 256) 128])) else (none)) else (if x4.length < 140737488355328 then (some (strOfNums (x4 ++ [(x0) % 256]), 0)) else (none))) :
    ∀ (d : Nat) (n : Nat) (acc : List Int) (k : Nat), n < 128 ^ (d + 1) → d < k → acc.length + d < 1000 → l0 k (n : Int) acc = some (⟨((acc.map fun n => UInt8.ofNat n.toNat) ++ enc n).toArray⟩, 0) := by
  intro d
  induction d with
  | zero =>
    intro n acc k hn hk ha
    obtain ⟨k, rfl⟩ : ∃ m, k = m + 1 := ⟨k - 1, by omega⟩
    have hn' : n < 128 := by simpa using hn
    rw [h, if_neg (by omega), if_pos (by omega), strOfNums_eq, enc_small hn']
    have e : ((n : Int) % 256).toNat = n := by omega
    simp [e]
  | succ d ih =>
    intro n acc k hn hk ha
    obtain ⟨k, rfl⟩ : ∃ m, k = m + 1 := ⟨k - 1, by omega⟩
    by_cases hs : n < 128
    · rw [h, if_neg (by omega), if_pos (by omega), strOfNums_eq, enc_small hs]
      have e : ((n : Int) % 256).toNat = n := by omega
      simp [e]
    · have hb : Go.bits .or .u8 ((n : Int) % 256) 128 = 128 + (n : Int) % 128 := by
        have e1 := bits_nat .u8 8 (by decide) wraps_u8 (n % 256) 128 (by omega) (by decide)
        have e2 : ((n % 256 : Nat) : Int) = (n : Int) % 256 := by omega
        rw [← e2, show (128 : Int) = ((128 : Nat) : Int) from rfl, e1.2]
        rw [or128 _ (by omega)]
        omega
      have hd : (n : Int) / 128 = ((n / 128 : Nat) : Int) := by omega
      rw [h, if_pos (by omega), if_pos (by omega), hb, hd, ih (n / 128) _ k (by rw [Nat.div_lt_iff_lt_mul (by decide)]; rw [Nat.pow_succ] at hn; exact hn) (by omega) (by simp; omega), enc_big hs]
      have e : (128 + (n : Int) % 128).toNat = 128 + n % 128 := by omega
      simp [e]

theorem append_mk (x : ByteArray) (l : List UInt8) : x ++ (⟨l.toArray⟩ : ByteArray) = ⟨(x.data.toList ++ l).toArray⟩ := by
  apply ByteArray.ext
  rw [ByteArray.data_append]
  apply Array.ext'
  simp

/-- The reference's loop. -/
theorem ref_loop (l0 : Nat → Int → ByteArray → Option (ByteArray × Int))
    (h : ∀ k x0 x4, l0 (k + 1) x0 x4 = if x0 ≥ 128 then ((some (([(wrap64 (128 + (Int.tmod x0 128))) % 256] : List Int) : List Int)).bind fun y107 => (if x4.size + (strOfNums y107).size ≤ 9223372036854775807 then (l0 k (wrap64 (Int.tdiv x0 128)) (x4 ++ (strOfNums y107))) else (none))) else ((some (([(x0) % 256] : List Int) : List Int)).bind fun y110 => (if x4.size + (strOfNums y110).size ≤ 9223372036854775807 then (some (x4 ++ (strOfNums y110), 0)) else (none)))) :
    ∀ (d : Nat) (n : Nat) (acc : ByteArray) (k : Nat), n < 128 ^ (d + 1) → n ≤ 1125899906842624 → d < k → acc.size + d < 1000 → l0 k (n : Int) acc = some (⟨(acc.data.toList ++ enc n).toArray⟩, 0) := by
  intro d
  induction d with
  | zero =>
    intro n acc k hn _ hk ha
    obtain ⟨k, rfl⟩ : ∃ m, k = m + 1 := ⟨k - 1, by omega⟩
    have hn' : n < 128 := by simpa using hn
    have e : ((n : Int) % 256).toNat = n := by omega
    rw [h, if_neg (by omega)]; simp only [Option.bind_some]; rw [if_pos (by rw [strOfNums_size]; simp; omega), strOfNums_eq, enc_small hn', append_mk]
    simp [e]
  | succ d ih =>
    intro n acc k hn hle hk ha
    obtain ⟨k, rfl⟩ : ∃ m, k = m + 1 := ⟨k - 1, by omega⟩
    by_cases hs : n < 128
    · have e : ((n : Int) % 256).toNat = n := by omega
      rw [h, if_neg (by omega)]; simp only [Option.bind_some]; rw [if_pos (by rw [strOfNums_size]; simp; omega), strOfNums_eq, enc_small hs, append_mk]
      simp [e]
    · have hq : wrap64 (Int.tdiv (n : Int) 128) = ((n / 128 : Nat) : Int) := by rw [tdiv_nat, wrap_nat _ (by omega)]
      have hm : (wrap64 (128 + Int.tmod (n : Int) 128)) % 256 = ((128 + n % 128 : Nat) : Int) := by rw [tmod_nat, low_nat _ (by omega)]
      rw [h, if_pos (by omega)]; simp only [Option.bind_some]; rw [if_pos (by rw [strOfNums_size]; simp; omega), hm, hq, strOfNums_eq]
      have eL : ([((128 + n % 128 : Nat) : Int)].map fun n => UInt8.ofNat n.toNat) = [UInt8.ofNat (128 + n % 128)] := by
        rw [List.map_cons, List.map_nil, Int.toNat_natCast]
      rw [eL, append_mk, enc_big hs]
      have ea : (acc.data.toList ++ [UInt8.ofNat (128 + n % 128)]).length + d < 1000 := by
        rw [List.length_append, Array.length_toList]
        have : acc.data.size = acc.size := rfl
        simp only [List.length_cons, List.length_nil]
        omega
      generalize UInt8.ofNat (128 + n % 128) = u at *
      have es : (⟨(acc.data.toList ++ [u]).toArray⟩ : ByteArray).size = (acc.data.toList ++ [u]).length := by
        show (acc.data.toList ++ [u]).toArray.size = _
        rw [List.size_toArray]
      rw [ih (n / 128) _ k (by rw [Nat.div_lt_iff_lt_mul (by decide)]; rw [Nat.pow_succ] at hn; exact hn) (by omega) (by omega) (by rw [es]; exact ea)]
      simp
end Go.Proofs.Ytfifcanpdjdhcaa.Pk
